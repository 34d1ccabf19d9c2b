/- ModelSquares, for every linkage and every body and points asked for: Square is symmetric, not below 0, and 0 exactly for points at the same place; no condition. -/
import Derived.Test.YtccaiekiikoccaaSqD
namespace Go.Proofs.Ytccaiekiikoccaa
open Lift Go
theorem u_asked : RT Try.prog 28 (Int × Int × Int) (fun v => (askD v.1 v.2.1 v.2.2).flat) (fun _ => True) := by
  have h := RT.struct (P := Try.prog) (t := 28) (m := 3) Try.underlying28 (by kernel_rfl) (RTF.cons (by kernel_rfl) u_int (RTF.cons (by kernel_rfl) u_int (RTF.cons (by kernel_rfl) u_int RTF.nil))) (fun v => rfl)
  exact h.map (fun v => ⟨v.1, v.2.1, v.2.2.1⟩) (fun v h => rfl) (fun v h => trivial) (fun v => ⟨by kernel_rfl, fun d hd => by
    simp only [D.flat, List.mem_cons, List.mem_nil_iff, or_false] at hd
    rcases hd with rfl | rfl | rfl <;> rfl⟩)
theorem a_asked : RA Try.prog 28 (Int × Int × Int) (fun v => askD v.1 v.2.1 v.2.2) (fun _ => True) := RA.agg Try.underlying28 u_asked
theorem modelSquares_holds : Rows.ModelSquaresSaid :=
  OpenClaim.holds_of_wide 3 Try.f3 rfl rfl rfl rfl rfl rfl rfl ⟨rfl, rfl, rfl, rfl, rfl⟩ rfl rfl rfl rfl rfl (by kernel_rfl) Try.func3 (by kernel_rfl)
    (of_decide_eq_true (by kernel_rfl)) (by unfold Func.isWrapper; first | (rw [if_pos (by decide +kernel)]; kernel_rfl) | (rw [if_neg (by decide +kernel)]; exact ⟨rfl, rfl⟩))
    (fun os started H enc _ => law_post (C := Try.checked) (s := Rows.modelSquaresSpec) (conds := []) (apart := false) (fresh := true) (handsOn := false) (enc := enc) (α := Lkg × (Int × Int × Int) × Unit) (ds := fun v => [v.1.D, askD v.2.1.1 v.2.1.2.1 v.2.1.2.2]) (ok := fun v => v.1.ok big ∧ True ∧ True) (tb := 4) Try.own started (by kernel_rfl) Try.func3 Try.laidOut
      (ChangeSpec.witness6 (enc := enc) (C := Try.checked) false ⟨#[], #[.agg #[.string ⟨#[]⟩, .slice none 0 0, .slice none 0 0, .slice none 0 0], .agg #[.int .i64 0, .int .i64 0, .int .i64 0]], []⟩ 8 (by kernel_rfl) (by kernel_rfl) (by kernel_rfl) (by kernel_rfl))
      rfl (by kernel_rfl) (by kernel_rfl) (fun xs h => match xs, h with | [_, _], _ => rfl)
      (RAs.cons (t := 26) (by kernel_rfl) (Nat.le_of_ble_eq_true (by kernel_rfl)) a_linkage (RAs.cons (t := 28) (by kernel_rfl) (Nat.le_of_ble_eq_true (by kernel_rfl)) a_asked RAs.nil))
      (fun v hv => law_Squares_ok v.1 v.2.1.1 v.2.1.2.1 v.2.1.2.2 hv.1))
end Go.Proofs.Ytccaiekiikoccaa
