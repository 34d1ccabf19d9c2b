/- GearScales, for every train and every number: all given speeds multiplied by it, every speed is; no condition. -/
import Derived.Test.YtockcpjjfcdopaaGsE
namespace Go.Proofs.Ytockcpjjfcdopaa
open Lift Go
theorem a_train : RA Try.prog 26 Trn (fun a => a.D) (fun a => a.big) := RA.agg Try.underlying26 u_train
theorem a_rat4 : RA Try.prog 29 RD (fun a => a.D) (fun a => a.w 35184372087808) := RA.agg Try.underlying29 u_rat4
theorem gearScales_holds : Rows.GearScalesSaid :=
  OpenClaim.holds_of_wide 3 Try.f3 rfl rfl rfl rfl rfl rfl rfl ⟨rfl, rfl, rfl, rfl, rfl⟩ rfl rfl rfl rfl rfl (by kernel_rfl) Try.func3 (by kernel_rfl)
    (of_decide_eq_true (by kernel_rfl)) (by unfold Func.isWrapper; first | (rw [if_pos (by decide +kernel)]; kernel_rfl) | (rw [if_neg (by decide +kernel)]; exact ⟨rfl, rfl⟩))
    (fun os started H enc _ => law_post (C := Try.checked) (s := Rows.gearScalesSpec) (conds := []) (apart := false) (fresh := true) (handsOn := false) (enc := enc) (α := Trn × RD × Unit) (ds := fun v => [v.1.D, v.2.1.D]) (ok := fun v => v.1.big ∧ v.2.1.w 35184372087808 ∧ True) (tb := 4) Try.own started (by kernel_rfl) Try.func3 Try.laidOut
      (ChangeSpec.witness6 (enc := enc) (C := Try.checked) false ⟨#[], #[.agg #[.int .i64 0, .slice none 0 0, .slice none 0 0, .slice none 0 0], .agg #[.bool false, .slice none 0 0, .slice none 0 0]], []⟩ 8 (by kernel_rfl) (by kernel_rfl) (by kernel_rfl) (by kernel_rfl))
      rfl (by kernel_rfl) (by kernel_rfl) (fun xs h => match xs, h with | [_, _], _ => rfl)
      (RAs.cons (t := 26) (by kernel_rfl) (Nat.le_of_ble_eq_true (by kernel_rfl)) a_train (RAs.cons (t := 29) (by kernel_rfl) (Nat.le_of_ble_eq_true (by kernel_rfl)) a_rat4 RAs.nil))
      (fun v hv => g51_Scales_ok v.1 v.2.1 hv.1 hv.2.1))
end Go.Proofs.Ytockcpjjfcdopaa
