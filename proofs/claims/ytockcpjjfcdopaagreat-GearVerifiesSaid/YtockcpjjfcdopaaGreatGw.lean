/- GearVerifies, for every train and all speeds: Verify answers as the reference does; no condition. -/
import Derived.Test.YtockcpjjfcdopaaGreatGwF
namespace Go.Proofs.YtockcpjjfcdopaaGreat
open Lift Go
theorem a_train : RA Tryz.prog 26 Trn (fun a => a.D) (fun a => a.big) := RA.agg Tryz.underlying26 u_train
theorem u_rats : RT Tryz.prog 29 (List RD) (fun l => [.sl 3 (l.map RD.D)]) (fun l => l.length ≤ reachBytes ∧ ∀ v ∈ l, v.w reachBytes) :=
  RT.slice (el := RD.D) (s := 3) (by kernel_rfl) (by kernel_rfl) (by kernel_rfl) (by decide) (Nat.le_of_ble_eq_true (by kernel_rfl)) u_rat (fun v => rfl)
theorem rats_big (l : List RD) (h : l.length ≤ reachBytes ∧ ∀ v ∈ l, v.w reachBytes) : l.length ≤ big ∧ ∀ i, (l.getD i default).w big := by
  have hb : reachBytes ≤ Lift.big := by decide
  refine ⟨Nat.le_trans h.1 hb, fun i => ?_⟩
  rcases Nat.lt_or_ge i l.length with hi | hi
  · rw [List.getD_eq_getElem?_getD, List.getElem?_eq_getElem hi]
    exact (h.2 _ (List.getElem_mem hi)).mono hb
  · rw [List.getD_eq_getElem?_getD, List.getElem?_eq_none hi]
    exact ⟨fun _ h => (by cases h), fun _ h => (by cases h), Nat.zero_le _, Nat.zero_le _⟩
theorem a_rats : RA Tryz.prog 29 (List RD) (fun l => .sl 3 (l.map RD.D)) (fun l => l.length ≤ big ∧ ∀ i, (l.getD i default).w big) := RA.cell (one_slice (e := 41) (by kernel_rfl)) (u_rats.map id (fun _ _ => rfl) (fun l h => rats_big l h) u_rats.1)
theorem gearVerifies_holds : Rows.GearVerifiesSaid :=
  OpenClaim.holds_of_wide 5 Tryz.f5 rfl rfl rfl rfl rfl rfl rfl ⟨rfl, rfl, rfl, rfl, rfl⟩ rfl rfl rfl rfl rfl (by kernel_rfl) Tryz.func5 (by kernel_rfl)
    (of_decide_eq_true (by kernel_rfl)) (by unfold Func.isWrapper; first | (rw [if_pos (by decide +kernel)]; kernel_rfl) | (rw [if_neg (by decide +kernel)]; exact ⟨rfl, rfl⟩))
    (fun os started H enc _ => law_post (C := Tryz.checked) (s := Rows.gearVerifiesSpec) (conds := []) (apart := false) (fresh := true) (handsOn := false) (enc := enc) (α := Trn × List RD × Unit) (ds := fun v => [v.1.D, .sl 3 (v.2.1.map RD.D)]) (ok := fun v => v.1.big ∧ (v.2.1.length ≤ big ∧ ∀ i, (v.2.1.getD i default).w big) ∧ True) (tb := 4) Tryz.own started (by kernel_rfl) Tryz.func5 Tryz.laidOut
      (ChangeSpec.witness6 (enc := enc) (C := Tryz.checked) false ⟨#[], #[.agg #[.int .i64 0, .slice none 0 0, .slice none 0 0, .slice none 0 0], .slice none 0 0], []⟩ 8 (by kernel_rfl) (by kernel_rfl) (by kernel_rfl) (by kernel_rfl))
      rfl (by kernel_rfl) (by kernel_rfl) (fun xs h => match xs, h with | [_, _], _ => rfl)
      (RAs.cons (t := 26) (by kernel_rfl) (Nat.le_of_ble_eq_true (by kernel_rfl)) a_train (RAs.cons (t := 29) (by kernel_rfl) (Nat.le_of_ble_eq_true (by kernel_rfl)) a_rats RAs.nil))
      (fun v hv => g51_Verifies_ok v.1 v.2.1 hv.1 hv.2.1.1 hv.2.1.2))
end Go.Proofs.YtockcpjjfcdopaaGreat
