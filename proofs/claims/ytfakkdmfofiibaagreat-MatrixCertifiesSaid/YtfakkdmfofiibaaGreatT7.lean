/- MatrixCertifies, for every tower, every matrix and every certificate: Certify and Accepts and their errors are those of the reference, and what Certify returns is accepted; no condition. -/
import Derived.Test.YtfakkdmfofiibaaGreatT7F
namespace Go.Proofs.YtfakkdmfofiibaaGreat
open Lift Go
theorem a_tower : RA Tryz.prog 24 (List (List RD)) (fun t => TrD t) (fun t => Nb2 t) := RA.agg Tryz.underlying24 n_tower
theorem a_mat : RA Tryz.prog 25 (List (List (List RD))) (fun a => MxR a) (fun a => Nb3 a) := RA.cell (one_slice (e := 22) (by kernel_rfl)) n_mat
theorem n_cert : RT Tryz.prog 74 (List Int × List Int × List (List (List RD))) (fun c => [IvD c.1, IvD c.2.1, MxR c.2.2]) (fun c => c.1.length ≤ 140737488355328 ∧ c.2.1.length ≤ 140737488355328 ∧ Nb3 c.2.2) := by
  have h := RT.struct (P := Tryz.prog) (t := 74) (m := 3) Tryz.underlying74 (by kernel_rfl) (RTF.cons (by kernel_rfl) n_ints (RTF.cons (by kernel_rfl) n_ints (RTF.cons (by kernel_rfl) n_mat RTF.nil))) (fun v => rfl)
  exact h.map (fun v => ⟨v.1, v.2.1, v.2.2.1⟩) (fun v h => rfl) (fun v h => ⟨h.1, h.2.1, h.2.2.1⟩) (fun v => ⟨by kernel_rfl, fun d hd => by
    simp only [List.mem_cons, List.mem_nil_iff, or_false] at hd
    rcases hd with rfl | rfl | rfl <;> rfl⟩)
theorem a_cert : RA Tryz.prog 74 (List Int × List Int × List (List (List RD))) (fun c => CertD c.1 c.2.1 c.2.2) (fun c => c.1.length ≤ 140737488355328 ∧ c.2.1.length ≤ 140737488355328 ∧ Nb3 c.2.2) := RA.agg Tryz.underlying74 n_cert
theorem matrixCertifies_holds : Rows.MatrixCertifiesSaid :=
  OpenClaim.holds_of_wide 9 Tryz.f9 rfl rfl rfl rfl rfl rfl rfl ⟨rfl, rfl, rfl, rfl, rfl⟩ rfl rfl rfl rfl rfl (by kernel_rfl) Tryz.func9 (by kernel_rfl)
    (of_decide_eq_true (by kernel_rfl)) (by unfold Func.isWrapper; first | (rw [if_pos (by decide +kernel)]; kernel_rfl) | (rw [if_neg (by decide +kernel)]; exact ⟨rfl, rfl⟩))
    (fun os started H enc _ => law_post (C := Tryz.checked) (s := Rows.matrixCertifiesSpec) (conds := []) (apart := false) (fresh := true) (handsOn := false) (enc := enc) (α := List (List RD) × List (List (List RD)) × (List Int × List Int × List (List (List RD))) × Unit) (ds := fun v => [TrD v.1, MxR v.2.1, CertD v.2.2.1.1 v.2.2.1.2.1 v.2.2.1.2.2]) (ok := fun v => Nb2 v.1 ∧ Nb3 v.2.1 ∧ (v.2.2.1.1.length ≤ 140737488355328 ∧ v.2.2.1.2.1.length ≤ 140737488355328 ∧ Nb3 v.2.2.1.2.2) ∧ True) (tb := 4) Tryz.own started (by kernel_rfl) Tryz.func9 Tryz.laidOut
      (ChangeSpec.witness6 (enc := enc) (C := Tryz.checked) false ⟨#[], #[.agg #[.slice none 0 0], .slice none 0 0, .agg #[.slice none 0 0, .slice none 0 0, .slice none 0 0]], []⟩ 8 (by kernel_rfl) (by kernel_rfl) (by kernel_rfl) (by kernel_rfl))
      rfl (by kernel_rfl) (by kernel_rfl) (fun xs h => match xs, h with | [_, _, _], _ => rfl)
      (RAs.cons (t := 24) (by kernel_rfl) (Nat.le_of_ble_eq_true (by kernel_rfl)) a_tower (RAs.cons (t := 25) (by kernel_rfl) (Nat.le_of_ble_eq_true (by kernel_rfl)) a_mat (RAs.cons (t := 74) (by kernel_rfl) (Nat.le_of_ble_eq_true (by kernel_rfl)) a_cert RAs.nil)))
      (fun v hv => law10_Certifies_ok v.1 v.2.1 v.2.2.1.1 v.2.2.1.2.1 v.2.2.1.2.2 hv.1 hv.2.1 hv.2.2.1.2.2 hv.2.2.1.1 hv.2.2.1.2.1))
end Go.Proofs.YtfakkdmfofiibaaGreat
