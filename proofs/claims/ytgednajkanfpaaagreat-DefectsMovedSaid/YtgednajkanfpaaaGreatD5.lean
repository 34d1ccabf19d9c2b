/- DefectsMoved, for all poses, dyads and displacements: a displacement of the plane changes neither the signs nor the defects; no condition. -/
import Derived.Test.YtgednajkanfpaaaGreatD5F
namespace Go.Proofs.YtgednajkanfpaaaGreat
open Lift Go
theorem a_poses : RA Tryz.prog 22 (List PoD) (fun l => PoL l) (fun l => ok50L l) := RA.cell (one_slice (e := 52) (by kernel_rfl)) (u_poses4.map id (fun _ _ => rfl) (fun _ h => ok50L_of h) u_poses4.1)
theorem a_four : RA Tryz.prog 31 (DyD × DyD) (fun x => FourD x.1 x.2) (fun x => ok50F x) := RA.agg Tryz.underlying31 u_four4
theorem a_pose : RA Tryz.prog 52 PoD (fun p => p.D) (fun p => p.w 35184372087808) := RA.agg Tryz.underlying52 u_pose4
theorem defectsMoved_holds : Rows.DefectsMovedSaid :=
  OpenClaim.holds_of_wide 9 Tryz.f9 rfl rfl rfl rfl rfl rfl rfl ⟨rfl, rfl, rfl, rfl, rfl⟩ rfl rfl rfl rfl rfl (by kernel_rfl) Tryz.func9 (by kernel_rfl)
    (of_decide_eq_true (by kernel_rfl)) (by unfold Func.isWrapper; first | (rw [if_pos (by decide +kernel)]; kernel_rfl) | (rw [if_neg (by decide +kernel)]; exact ⟨rfl, rfl⟩))
    (fun os started H enc _ => law_post (C := Tryz.checked) (s := Rows.defectsMovedSpec) (conds := []) (apart := false) (fresh := true) (handsOn := false) (enc := enc) (α := List PoD × (DyD × DyD) × PoD × Unit) (ds := fun v => [PoL v.1, FourD v.2.1.1 v.2.1.2, v.2.2.1.D]) (ok := fun v => ok50L v.1 ∧ ok50F v.2.1 ∧ v.2.2.1.w 35184372087808 ∧ True) (tb := 4) Tryz.own started (by kernel_rfl) Tryz.func9 Tryz.laidOut
      (ChangeSpec.witness6 (enc := enc) (C := Tryz.checked) false ⟨#[], #[.slice none 0 0, .agg #[.bool false, .slice none 0 0, .slice none 0 0, .bool false, .slice none 0 0, .slice none 0 0, .bool false, .slice none 0 0, .slice none 0 0, .bool false, .slice none 0 0, .slice none 0 0, .bool false, .slice none 0 0, .slice none 0 0, .bool false, .slice none 0 0, .slice none 0 0, .bool false, .slice none 0 0, .slice none 0 0, .bool false, .slice none 0 0, .slice none 0 0, .bool false, .slice none 0 0, .slice none 0 0, .bool false, .slice none 0 0, .slice none 0 0], .agg #[.bool false, .slice none 0 0, .slice none 0 0, .bool false, .bool false, .slice none 0 0, .slice none 0 0, .bool false, .slice none 0 0, .slice none 0 0]], []⟩ 8 (by kernel_rfl) (by kernel_rfl) (by kernel_rfl) (by kernel_rfl))
      rfl (by kernel_rfl) (by kernel_rfl) (fun xs h => match xs, h with | [_, _, _], _ => rfl)
      (RAs.cons (t := 22) (by kernel_rfl) (Nat.le_of_ble_eq_true (by kernel_rfl)) a_poses (RAs.cons (t := 31) (by kernel_rfl) (Nat.le_of_ble_eq_true (by kernel_rfl)) a_four (RAs.cons (t := 52) (by kernel_rfl) (Nat.le_of_ble_eq_true (by kernel_rfl)) a_pose RAs.nil)))
      (fun v hv => law50_Moved_ok v.1 v.2.1.1 v.2.1.2 v.2.2.1 (ok50_of hv.1 hv.2.1) hv.2.2.1))
end Go.Proofs.YtgednajkanfpaaaGreat
