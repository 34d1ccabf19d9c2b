/- GearSolves, for every train: Solve returns the speeds, or the error, that the reference returns; no condition. -/
import Derived.Test.YtockcpjjfcdopaaGreatGvF
namespace Go.Proofs.YtockcpjjfcdopaaGreat
open Lift Go
theorem a_train : RA Tryz.prog 26 Trn (fun a => a.D) (fun a => a.big) := RA.agg Tryz.underlying26 u_train
theorem gearSolves_holds : Rows.GearSolvesSaid :=
  OpenClaim.holds_of_wide 3 Tryz.f3 rfl rfl rfl rfl rfl rfl rfl ⟨rfl, rfl, rfl, rfl, rfl⟩ rfl rfl rfl rfl rfl (by kernel_rfl) Tryz.func3 (by kernel_rfl)
    (of_decide_eq_true (by kernel_rfl)) (by unfold Func.isWrapper; first | (rw [if_pos (by decide +kernel)]; kernel_rfl) | (rw [if_neg (by decide +kernel)]; exact ⟨rfl, rfl⟩))
    (fun os started H enc _ => law_post (C := Tryz.checked) (s := Rows.gearSolvesSpec) (conds := []) (apart := false) (fresh := true) (handsOn := false) (enc := enc) (α := Trn × Unit) (ds := fun v => [v.1.D]) (ok := fun v => v.1.big ∧ True) (tb := 4) Tryz.own started (by kernel_rfl) Tryz.func3 Tryz.laidOut
      (ChangeSpec.witness6 (enc := enc) (C := Tryz.checked) false ⟨#[], #[.agg #[.int .i64 0, .slice none 0 0, .slice none 0 0, .slice none 0 0]], []⟩ 8 (by kernel_rfl) (by kernel_rfl) (by kernel_rfl) (by kernel_rfl))
      rfl (by kernel_rfl) (by kernel_rfl) (fun xs h => match xs, h with | [_], _ => rfl)
      (RAs.cons (t := 26) (by kernel_rfl) (Nat.le_of_ble_eq_true (by kernel_rfl)) a_train RAs.nil)
      (fun v hv => g51_Solves_ok v.1 hv.1))
end Go.Proofs.YtockcpjjfcdopaaGreat
