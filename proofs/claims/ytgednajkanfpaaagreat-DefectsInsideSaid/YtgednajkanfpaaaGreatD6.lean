/- DefectsInside, for all poses, dyads and pairs of small numbers: on the whole way between two poses the discriminant is above 0, and the signs at both ends are not 0; no condition. -/
import Derived.Test.YtgednajkanfpaaaGreatD6F
namespace Go.Proofs.YtgednajkanfpaaaGreat
open Lift Go
theorem a_poses : RA Tryz.prog 22 (List PoD) (fun l => PoL l) (fun l => ok50L l) := RA.cell (one_slice (e := 52) (by kernel_rfl)) (u_poses4.map id (fun _ _ => rfl) (fun _ h => ok50L_of h) u_poses4.1)
theorem a_four : RA Tryz.prog 31 (DyD × DyD) (fun x => FourD x.1 x.2) (fun x => ok50F x) := RA.agg Tryz.underlying31 u_four4
theorem a_key : RA Tryz.prog 65 (Int × Int) (fun k => KD k.1 k.2) (fun k => ok50K k) := RA.arr Tryz.underlying65 u_key
theorem defectsInside_holds : Rows.DefectsInsideSaid :=
  OpenClaim.holds_of_wide 8 Tryz.f8 rfl rfl rfl rfl rfl rfl rfl ⟨rfl, rfl, rfl, rfl, rfl⟩ rfl rfl rfl rfl rfl (by kernel_rfl) Tryz.func8 (by kernel_rfl)
    (of_decide_eq_true (by kernel_rfl)) (by unfold Func.isWrapper; first | (rw [if_pos (by decide +kernel)]; kernel_rfl) | (rw [if_neg (by decide +kernel)]; exact ⟨rfl, rfl⟩))
    (fun os started H enc _ => law_post (C := Tryz.checked) (s := Rows.defectsInsideSpec) (conds := []) (apart := false) (fresh := true) (handsOn := false) (enc := enc) (α := List PoD × (DyD × DyD) × (Int × Int) × Unit) (ds := fun v => [PoL v.1, FourD v.2.1.1 v.2.1.2, KD v.2.2.1.1 v.2.2.1.2]) (ok := fun v => ok50L v.1 ∧ ok50F v.2.1 ∧ ok50K v.2.2.1 ∧ True) (tb := 4) Tryz.own started (by kernel_rfl) Tryz.func8 Tryz.laidOut
      (ChangeSpec.witness6 (enc := enc) (C := Tryz.checked) false ⟨#[], #[.slice none 0 0, .agg #[.bool false, .slice none 0 0, .slice none 0 0, .bool false, .slice none 0 0, .slice none 0 0, .bool false, .slice none 0 0, .slice none 0 0, .bool false, .slice none 0 0, .slice none 0 0, .bool false, .slice none 0 0, .slice none 0 0, .bool false, .slice none 0 0, .slice none 0 0, .bool false, .slice none 0 0, .slice none 0 0, .bool false, .slice none 0 0, .slice none 0 0, .bool false, .slice none 0 0, .slice none 0 0, .bool false, .slice none 0 0, .slice none 0 0], .agg #[.int .u8 0, .int .u8 0]], []⟩ 8 (by kernel_rfl) (by kernel_rfl) (by kernel_rfl) (by kernel_rfl))
      rfl (by kernel_rfl) (by kernel_rfl) (fun xs h => match xs, h with | [_, _, _], _ => rfl)
      (RAs.cons (t := 22) (by kernel_rfl) (Nat.le_of_ble_eq_true (by kernel_rfl)) a_poses (RAs.cons (t := 31) (by kernel_rfl) (Nat.le_of_ble_eq_true (by kernel_rfl)) a_four (RAs.cons (t := 65) (by kernel_rfl) (Nat.le_of_ble_eq_true (by kernel_rfl)) a_key RAs.nil)))
      (fun v hv => law50_Inside_ok v.1 v.2.1.1 v.2.1.2 v.2.2.1.1 v.2.2.1.2 (ok50_of hv.1 hv.2.1) hv.2.2.1.1.1 hv.2.2.1.1.2 hv.2.2.1.2.1 hv.2.2.1.2.2))
end Go.Proofs.YtgednajkanfpaaaGreat
