/- ModelAgain, for every linkage and every pick: an accepted linkage with a driver of the frame, or with one of its joints a second time, is refused; no condition. -/
import Derived.Test.YtccaiekiikoccaaAgE
namespace Go.Proofs.Ytccaiekiikoccaa
open Lift Go
theorem u_u8 : RT Try.prog 5 Int (fun n => [.v (.int .u8 n)]) (fun n => 0 ≤ n ∧ n ≤ 255) := by
  refine (RT.int (k := .u8) (by kernel_rfl) (by kernel_rfl)).map id (fun n h => rfl) (fun n h => ?_) (fun v => ⟨by kernel_rfl, fun d hd => by simp at hd; subst hd; rfl⟩)
  simpa [Lit.wf, IntKind.min, IntKind.max, IntKind.signed, IntKind.bits] using h
theorem a_u8 : RA Try.prog 5 Int (fun n => .v (.int .u8 n)) (fun n => 0 ≤ n ∧ n ≤ 255) := RA.cell (one_int (k := .u8) (by kernel_rfl)) u_u8
theorem modelAgain_holds : Rows.ModelAgainSaid :=
  OpenClaim.holds_of_wide 4 Try.f4 rfl rfl rfl rfl rfl rfl rfl ⟨rfl, rfl, rfl, rfl, rfl⟩ rfl rfl rfl rfl rfl (by kernel_rfl) Try.func4 (by kernel_rfl)
    (of_decide_eq_true (by kernel_rfl)) (by unfold Func.isWrapper; first | (rw [if_pos (by decide +kernel)]; kernel_rfl) | (rw [if_neg (by decide +kernel)]; exact ⟨rfl, rfl⟩))
    (fun os started H enc _ => law_post (C := Try.checked) (s := Rows.modelAgainSpec) (conds := []) (apart := false) (fresh := true) (handsOn := false) (enc := enc) (α := Lkg × Int × Unit) (ds := fun v => [v.1.D, .v (.int .u8 v.2.1)]) (ok := fun v => v.1.ok big ∧ (0 ≤ v.2.1 ∧ v.2.1 ≤ 255) ∧ True) (tb := 4) Try.own started (by kernel_rfl) Try.func4 Try.laidOut
      (ChangeSpec.witness6 (enc := enc) (C := Try.checked) false ⟨#[], #[.agg #[.string ⟨#[]⟩, .slice none 0 0, .slice none 0 0, .slice none 0 0], .int .u8 0], []⟩ 8 (by kernel_rfl) (by kernel_rfl) (by kernel_rfl) (by kernel_rfl))
      rfl (by kernel_rfl) (by kernel_rfl) (fun xs h => match xs, h with | [_, _], _ => rfl)
      (RAs.cons (t := 26) (by kernel_rfl) (Nat.le_of_ble_eq_true (by kernel_rfl)) a_linkage (RAs.cons (t := 5) (by kernel_rfl) (Nat.le_of_ble_eq_true (by kernel_rfl)) a_u8 RAs.nil))
      (fun v hv => law_Again_ok v.1 v.2.1 hv.2.1.1 hv.2.1.2 hv.1))
end Go.Proofs.Ytccaiekiikoccaa
