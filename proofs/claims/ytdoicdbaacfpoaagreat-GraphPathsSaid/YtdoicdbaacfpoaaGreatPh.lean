/- GraphPaths, for every linkage and every two bodies asked for: paths lead from the one body to the other and are equally long in both directions; there is one exactly between bodies of one component; no condition. -/
import Derived.Test.YtdoicdbaacfpoaaGreatPhE
namespace Go.Proofs.YtdoicdbaacfpoaaGreat
open Lift Go
theorem a_int : RA Tryz.prog 3 Int (fun n => dI n) (fun _ => True) := RA.cell (one_int (k := .i64) (by kernel_rfl)) (u_int.map id (fun _ _ => rfl) (fun _ _ => trivial) u_int.1)
theorem graphPaths_holds : Rows.GraphPathsSaid :=
  OpenClaim.holds_of_wide 5 Tryz.f5 rfl rfl rfl rfl rfl rfl rfl ⟨rfl, rfl, rfl, rfl, rfl⟩ rfl rfl rfl rfl rfl (by kernel_rfl) Tryz.func5 (by kernel_rfl)
    (of_decide_eq_true (by kernel_rfl)) (by unfold Func.isWrapper; first | (rw [if_pos (by decide +kernel)]; kernel_rfl) | (rw [if_neg (by decide +kernel)]; exact ⟨rfl, rfl⟩))
    (fun os started H enc _ => law_post (C := Tryz.checked) (s := Rows.graphPathsSpec) (conds := []) (apart := false) (fresh := true) (handsOn := false) (enc := enc) (α := Lkg × Int × Int × Unit) (ds := fun v => [v.1.D, dI v.2.1, dI v.2.2.1]) (ok := fun v => v.1.ok big ∧ True ∧ True ∧ True) (tb := 4) Tryz.own started (by kernel_rfl) Tryz.func5 Tryz.laidOut
      (ChangeSpec.witness6 (enc := enc) (C := Tryz.checked) false ⟨#[], #[.agg #[.string ⟨#[]⟩, .slice none 0 0, .slice none 0 0, .slice none 0 0], .int .i64 0, .int .i64 0], []⟩ 8 (by kernel_rfl) (by kernel_rfl) (by kernel_rfl) (by kernel_rfl))
      rfl (by kernel_rfl) (by kernel_rfl) (fun xs h => match xs, h with | [_, _, _], _ => rfl)
      (RAs.cons (t := 26) (by kernel_rfl) (Nat.le_of_ble_eq_true (by kernel_rfl)) a_linkage (RAs.cons (t := 3) (by kernel_rfl) (Nat.le_of_ble_eq_true (by kernel_rfl)) a_int (RAs.cons (t := 3) (by kernel_rfl) (Nat.le_of_ble_eq_true (by kernel_rfl)) a_int RAs.nil)))
      (fun v hv => law_Paths_ok v.1 v.2.1 v.2.2.1 hv.1))
end Go.Proofs.YtdoicdbaacfpoaaGreat
