/- DefectsTwo, for all pairs of poses and all dyads: the defects of two poses are what the signs and the crank's directions say; no condition. -/
import Derived.Test.YtgednajkanfpaaaGreatD7E
namespace Go.Proofs.YtgednajkanfpaaaGreat
open Lift Go
theorem a_two : RA Tryz.prog 53 (PoD × PoD) (fun x => TwoD x.1 x.2) (fun x => ok50T x) := RA.arr Tryz.underlying53 u_two
theorem a_four : RA Tryz.prog 31 (DyD × DyD) (fun x => FourD x.1 x.2) (fun x => ok50F x) := RA.agg Tryz.underlying31 u_four4
theorem defectsTwo_holds : Rows.DefectsTwoSaid :=
  OpenClaim.holds_of_wide 6 Tryz.f6 rfl rfl rfl rfl rfl rfl rfl ⟨rfl, rfl, rfl, rfl, rfl⟩ rfl rfl rfl rfl rfl (by kernel_rfl) Tryz.func6 (by kernel_rfl)
    (of_decide_eq_true (by kernel_rfl)) (by unfold Func.isWrapper; first | (rw [if_pos (by decide +kernel)]; kernel_rfl) | (rw [if_neg (by decide +kernel)]; exact ⟨rfl, rfl⟩))
    (fun os started H enc _ => law_post (C := Tryz.checked) (s := Rows.defectsTwoSpec) (conds := []) (apart := false) (fresh := true) (handsOn := false) (enc := enc) (α := (PoD × PoD) × (DyD × DyD) × Unit) (ds := fun v => [TwoD v.1.1 v.1.2, FourD v.2.1.1 v.2.1.2]) (ok := fun v => ok50T v.1 ∧ ok50F v.2.1 ∧ True) (tb := 4) Tryz.own started (by kernel_rfl) Tryz.func6 Tryz.laidOut
      (ChangeSpec.witness6 (enc := enc) (C := Tryz.checked) false ⟨#[], #[.agg #[.bool false, .slice none 0 0, .slice none 0 0, .bool false, .bool false, .slice none 0 0, .slice none 0 0, .bool false, .slice none 0 0, .slice none 0 0, .bool false, .slice none 0 0, .slice none 0 0, .bool false, .bool false, .slice none 0 0, .slice none 0 0, .bool false, .slice none 0 0, .slice none 0 0], .agg #[.bool false, .slice none 0 0, .slice none 0 0, .bool false, .slice none 0 0, .slice none 0 0, .bool false, .slice none 0 0, .slice none 0 0, .bool false, .slice none 0 0, .slice none 0 0, .bool false, .slice none 0 0, .slice none 0 0, .bool false, .slice none 0 0, .slice none 0 0, .bool false, .slice none 0 0, .slice none 0 0, .bool false, .slice none 0 0, .slice none 0 0, .bool false, .slice none 0 0, .slice none 0 0, .bool false, .slice none 0 0, .slice none 0 0]], []⟩ 8 (by kernel_rfl) (by kernel_rfl) (by kernel_rfl) (by kernel_rfl))
      rfl (by kernel_rfl) (by kernel_rfl) (fun xs h => match xs, h with | [_, _], _ => rfl)
      (RAs.cons (t := 53) (by kernel_rfl) (Nat.le_of_ble_eq_true (by kernel_rfl)) a_two (RAs.cons (t := 31) (by kernel_rfl) (Nat.le_of_ble_eq_true (by kernel_rfl)) a_four RAs.nil))
      (fun v hv => law50_Two_ok v.1.1 v.1.2 v.2.1.1 v.2.1.2 (ok50_two hv.1 hv.2.1)))
end Go.Proofs.YtgednajkanfpaaaGreat
