/- GraphWays, for every linkage and every joint and bodies asked for: Side and Path answer as the reference does; no condition. -/
import Derived.Test.YtdoicdbaacfpoaaGreatWaE
namespace Go.Proofs.YtdoicdbaacfpoaaGreat
open Lift Go
theorem u_asked3 : RT Tryz.prog 53 (Int × Int × Int) (fun v => (ask3 v.1 v.2.1 v.2.2).flat) (fun _ => True) := by
  have h := RT.struct (P := Tryz.prog) (t := 53) (m := 3) Tryz.underlying53 (by kernel_rfl) (RTF.cons (by kernel_rfl) u_int (RTF.cons (by kernel_rfl) u_int (RTF.cons (by kernel_rfl) u_int RTF.nil))) (fun v => rfl)
  exact h.map (fun v => ⟨v.1, v.2.1, v.2.2.1⟩) (fun v h => rfl) (fun v h => trivial) (fun v => ⟨by kernel_rfl, fun d hd => by
    simp only [D.flat, List.mem_cons, List.mem_nil_iff, or_false] at hd
    rcases hd with rfl | rfl | rfl <;> rfl⟩)
theorem a_asked3 : RA Tryz.prog 53 (Int × Int × Int) (fun v => ask3 v.1 v.2.1 v.2.2) (fun _ => True) := RA.agg Tryz.underlying53 u_asked3
theorem graphWays_holds : Rows.GraphWaysSaid :=
  OpenClaim.holds_of_wide 7 Tryz.f7 rfl rfl rfl rfl rfl rfl rfl ⟨rfl, rfl, rfl, rfl, rfl⟩ rfl rfl rfl rfl rfl (by kernel_rfl) Tryz.func7 (by kernel_rfl)
    (of_decide_eq_true (by kernel_rfl)) (by unfold Func.isWrapper; first | (rw [if_pos (by decide +kernel)]; kernel_rfl) | (rw [if_neg (by decide +kernel)]; exact ⟨rfl, rfl⟩))
    (fun os started H enc _ => law_post (C := Tryz.checked) (s := Rows.graphWaysSpec) (conds := []) (apart := false) (fresh := true) (handsOn := false) (enc := enc) (α := Lkg × (Int × Int × Int) × Unit) (ds := fun v => [v.1.D, ask3 v.2.1.1 v.2.1.2.1 v.2.1.2.2]) (ok := fun v => v.1.ok big ∧ True ∧ True) (tb := 4) Tryz.own started (by kernel_rfl) Tryz.func7 Tryz.laidOut
      (ChangeSpec.witness6 (enc := enc) (C := Tryz.checked) false ⟨#[], #[.agg #[.string ⟨#[]⟩, .slice none 0 0, .slice none 0 0, .slice none 0 0], .agg #[.int .i64 0, .int .i64 0, .int .i64 0]], []⟩ 8 (by kernel_rfl) (by kernel_rfl) (by kernel_rfl) (by kernel_rfl))
      rfl (by kernel_rfl) (by kernel_rfl) (fun xs h => match xs, h with | [_, _], _ => rfl)
      (RAs.cons (t := 26) (by kernel_rfl) (Nat.le_of_ble_eq_true (by kernel_rfl)) a_linkage (RAs.cons (t := 53) (by kernel_rfl) (Nat.le_of_ble_eq_true (by kernel_rfl)) a_asked3 RAs.nil))
      (fun v hv => law_Ways_ok v.1 v.2.1.1 v.2.1.2.1 v.2.1.2.2 hv.1))
end Go.Proofs.YtdoicdbaacfpoaaGreat
