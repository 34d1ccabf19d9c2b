/- GearOnly, for every train and every pick: what Solve returns is accepted by Verify, with one speed changed it is not any more; no condition. -/
import Derived.Test.YtockcpjjfcdopaaGoE
namespace Go.Proofs.Ytockcpjjfcdopaa
open Lift Go
theorem a_train : RA Try.prog 26 Trn (fun a => a.D) (fun a => a.big) := RA.agg Try.underlying26 u_train
theorem u_u8 : RT Try.prog 5 Int (fun n => [.v (.int .u8 n)]) (fun n => 0 ≤ n ∧ n ≤ 255) := by
  refine (RT.int (k := .u8) (by kernel_rfl) (by kernel_rfl)).map id (fun n h => rfl) (fun n h => ?_) (fun v => ⟨by kernel_rfl, fun d hd => by simp at hd; subst hd; rfl⟩)
  simpa [Lit.wf, IntKind.min, IntKind.max, IntKind.signed, IntKind.bits] using h
theorem a_u8 : RA Try.prog 5 Int (fun n => .v (.int .u8 n)) (fun n => 0 ≤ n ∧ n ≤ 255) := RA.cell (one_int (k := .u8) (by kernel_rfl)) u_u8
theorem gearOnly_holds : Rows.GearOnlySaid :=
  OpenClaim.holds_of_wide 6 Try.f6 rfl rfl rfl rfl rfl rfl rfl ⟨rfl, rfl, rfl, rfl, rfl⟩ rfl rfl rfl rfl rfl (by kernel_rfl) Try.func6 (by kernel_rfl)
    (of_decide_eq_true (by kernel_rfl)) (by unfold Func.isWrapper; first | (rw [if_pos (by decide +kernel)]; kernel_rfl) | (rw [if_neg (by decide +kernel)]; exact ⟨rfl, rfl⟩))
    (fun os started H enc _ => law_post (C := Try.checked) (s := Rows.gearOnlySpec) (conds := []) (apart := false) (fresh := true) (handsOn := false) (enc := enc) (α := Trn × Int × Unit) (ds := fun v => [v.1.D, .v (.int .u8 v.2.1)]) (ok := fun v => v.1.big ∧ (0 ≤ v.2.1 ∧ v.2.1 ≤ 255) ∧ True) (tb := 4) Try.own started (by kernel_rfl) Try.func6 Try.laidOut
      (ChangeSpec.witness6 (enc := enc) (C := Try.checked) false ⟨#[], #[.agg #[.int .i64 0, .slice none 0 0, .slice none 0 0, .slice none 0 0], .int .u8 0], []⟩ 8 (by kernel_rfl) (by kernel_rfl) (by kernel_rfl) (by kernel_rfl))
      rfl (by kernel_rfl) (by kernel_rfl) (fun xs h => match xs, h with | [_, _], _ => rfl)
      (RAs.cons (t := 26) (by kernel_rfl) (Nat.le_of_ble_eq_true (by kernel_rfl)) a_train (RAs.cons (t := 5) (by kernel_rfl) (Nat.le_of_ble_eq_true (by kernel_rfl)) a_u8 RAs.nil))
      (fun v hv => g51_Only_ok v.1 v.2.1 hv.2.1.1 hv.2.1.2 hv.1))
end Go.Proofs.Ytockcpjjfcdopaa
