/- MobilityTwice, for every linkage, every position and every pick: a joint that is there a second time is redundant, and changes neither rank nor freedom; no condition. -/
import Derived.Test.YtebpenldlefgjaaGreatM5F
namespace Go.Proofs.YtebpenldlefgjaaGreat
open Lift Go
theorem a_assembly : RA Tryz.prog 33 Asm (fun a => a.D) (fun a => AsB a) := RA.agg Tryz.underlying33 u_assembly
theorem u_u8 : RT Tryz.prog 5 Int (fun n => [.v (.int .u8 n)]) (fun n => 0 ≤ n ∧ n ≤ 255) := by
  refine (RT.int (k := .u8) (by kernel_rfl) (by kernel_rfl)).map id (fun n h => rfl) (fun n h => ?_) (fun v => ⟨by kernel_rfl, fun d hd => by simp at hd; subst hd; rfl⟩)
  simpa [Lit.wf, IntKind.min, IntKind.max, IntKind.signed, IntKind.bits] using h
theorem a_u8 : RA Tryz.prog 5 Int (fun n => .v (.int .u8 n)) (fun n => 0 ≤ n ∧ n ≤ 255) := RA.cell (one_int (k := .u8) (by kernel_rfl)) u_u8
theorem mobilityTwice_holds : Rows.MobilityTwiceSaid :=
  OpenClaim.holds_of_wide 8 Tryz.f8 rfl rfl rfl rfl rfl rfl rfl ⟨rfl, rfl, rfl, rfl, rfl⟩ rfl rfl rfl rfl rfl (by kernel_rfl) Tryz.func8 (by kernel_rfl)
    (of_decide_eq_true (by kernel_rfl)) (by unfold Func.isWrapper; first | (rw [if_pos (by decide +kernel)]; kernel_rfl) | (rw [if_neg (by decide +kernel)]; exact ⟨rfl, rfl⟩))
    (fun os started H enc _ => law_post (C := Tryz.checked) (s := Rows.mobilityTwiceSpec) (conds := []) (apart := false) (fresh := true) (handsOn := false) (enc := enc) (α := Lkg × Asm × Int × Unit) (ds := fun v => [v.1.D, v.2.1.D, .v (.int .u8 v.2.2.1)]) (ok := fun v => v.1.ok big ∧ AsB v.2.1 ∧ (0 ≤ v.2.2.1 ∧ v.2.2.1 ≤ 255) ∧ True) (tb := 4) Tryz.own started (by kernel_rfl) Tryz.func8 Tryz.laidOut
      (ChangeSpec.witness6 (enc := enc) (C := Tryz.checked) false ⟨#[], #[.agg #[.string ⟨#[]⟩, .slice none 0 0, .slice none 0 0, .slice none 0 0], .agg #[.slice none 0 0, .slice none 0 0, .slice none 0 0], .int .u8 0], []⟩ 8 (by kernel_rfl) (by kernel_rfl) (by kernel_rfl) (by kernel_rfl))
      rfl (by kernel_rfl) (by kernel_rfl) (fun xs h => match xs, h with | [_, _, _], _ => rfl)
      (RAs.cons (t := 26) (by kernel_rfl) (Nat.le_of_ble_eq_true (by kernel_rfl)) a_linkage (RAs.cons (t := 33) (by kernel_rfl) (Nat.le_of_ble_eq_true (by kernel_rfl)) a_assembly (RAs.cons (t := 5) (by kernel_rfl) (Nat.le_of_ble_eq_true (by kernel_rfl)) a_u8 RAs.nil)))
      (fun v hv => law24_Twice_ok v.1 v.2.1 v.2.2.1 hv.2.2.1.1 hv.2.2.1.2 hv.1 (Nat.le_refl _) hv.2.1))
end Go.Proofs.YtebpenldlefgjaaGreat
