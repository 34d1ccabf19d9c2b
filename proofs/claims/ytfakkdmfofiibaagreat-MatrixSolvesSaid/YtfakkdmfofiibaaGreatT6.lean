/- MatrixSolves, for every tower, every matrix and every list of numbers: Solve, Det and Mul and their errors are the reference's; no condition. -/
import Derived.Test.YtfakkdmfofiibaaGreatT6F
namespace Go.Proofs.YtfakkdmfofiibaaGreat
open Lift Go
theorem a_tower : RA Tryz.prog 24 (List (List RD)) (fun t => TrD t) (fun t => Nb2 t) := RA.agg Tryz.underlying24 n_tower
theorem a_mat : RA Tryz.prog 25 (List (List (List RD))) (fun a => MxR a) (fun a => Nb3 a) := RA.cell (one_slice (e := 22) (by kernel_rfl)) n_mat
theorem a_nums : RA Tryz.prog 22 (List (List RD)) (fun b => RwR b) (fun b => Nb2 b) := RA.cell (one_slice (e := 53) (by kernel_rfl)) n_nums
theorem matrixSolves_holds : Rows.MatrixSolvesSaid :=
  OpenClaim.holds_of_wide 6 Tryz.f6 rfl rfl rfl rfl rfl rfl rfl ⟨rfl, rfl, rfl, rfl, rfl⟩ rfl rfl rfl rfl rfl (by kernel_rfl) Tryz.func6 (by kernel_rfl)
    (of_decide_eq_true (by kernel_rfl)) (by unfold Func.isWrapper; first | (rw [if_pos (by decide +kernel)]; kernel_rfl) | (rw [if_neg (by decide +kernel)]; exact ⟨rfl, rfl⟩))
    (fun os started H enc _ => law_post (C := Tryz.checked) (s := Rows.matrixSolvesSpec) (conds := []) (apart := false) (fresh := true) (handsOn := false) (enc := enc) (α := List (List RD) × List (List (List RD)) × List (List RD) × Unit) (ds := fun v => [TrD v.1, MxR v.2.1, RwR v.2.2.1]) (ok := fun v => Nb2 v.1 ∧ Nb3 v.2.1 ∧ Nb2 v.2.2.1 ∧ True) (tb := 4) Tryz.own started (by kernel_rfl) Tryz.func6 Tryz.laidOut
      (ChangeSpec.witness6 (enc := enc) (C := Tryz.checked) false ⟨#[], #[.agg #[.slice none 0 0], .slice none 0 0, .slice none 0 0], []⟩ 8 (by kernel_rfl) (by kernel_rfl) (by kernel_rfl) (by kernel_rfl))
      rfl (by kernel_rfl) (by kernel_rfl) (fun xs h => match xs, h with | [_, _, _], _ => rfl)
      (RAs.cons (t := 24) (by kernel_rfl) (Nat.le_of_ble_eq_true (by kernel_rfl)) a_tower (RAs.cons (t := 25) (by kernel_rfl) (Nat.le_of_ble_eq_true (by kernel_rfl)) a_mat (RAs.cons (t := 22) (by kernel_rfl) (Nat.le_of_ble_eq_true (by kernel_rfl)) a_nums RAs.nil)))
      (fun v hv => law10_Solves_ok v.1 v.2.1 v.2.2.1 hv.1 hv.2.1 hv.2.2.1))
end Go.Proofs.YtfakkdmfofiibaaGreat
