/- GroupsAnchors, for every linkage and every group: Anchors answers as the reference does; no condition. -/
import Derived.Test.YtjjebjajjjjcjaaGreatGyF
namespace Go.Proofs.YtjjebjajjjjcjaaGreat
open Lift Go
theorem u_intsG : RT Tryz.prog 27 (List Int) (fun l => [IsDG l]) (fun _ => True) :=
  (RT.slice (el := fun n : Int => dI n) (s := 1) (by kernel_rfl) (by kernel_rfl) (by kernel_rfl) (by decide) (Nat.le_of_ble_eq_true (by kernel_rfl)) u_int (fun v => rfl)).map id (fun l h => rfl) (fun l h => trivial) (fun v => ⟨by kernel_rfl, fun d hd => by simp at hd; subst hd; rfl⟩)
theorem u_groupG : RT Tryz.prog 29 Grp (fun g => g.D.flat) (fun _ => True) := by
  have h := RT.struct (P := Tryz.prog) (t := 29) (m := 4) Tryz.underlying29 (by kernel_rfl) (RTF.cons (by kernel_rfl) u_int (RTF.cons (by kernel_rfl) u_intsG (RTF.cons (by kernel_rfl) u_intsG (RTF.cons (by kernel_rfl) u_int RTF.nil)))) (fun v => rfl)
  exact h.map (fun v => ⟨v.1, v.2.1, v.2.2.1, v.2.2.2.1⟩) (fun v h => rfl) (fun v h => trivial) (fun v => ⟨by kernel_rfl, fun d hd => by
    simp only [D.flat, List.mem_cons, List.mem_nil_iff, or_false] at hd
    rcases hd with rfl | rfl | rfl | rfl <;> rfl⟩)
theorem a_groupG : RA Tryz.prog 29 Grp (fun g => g.D) (fun _ => True) := RA.agg Tryz.underlying29 u_groupG
theorem groupsAnchors_holds : Rows.GroupsAnchorsSaid :=
  OpenClaim.holds_of_wide 3 Tryz.f3 rfl rfl rfl rfl rfl rfl rfl ⟨rfl, rfl, rfl, rfl, rfl⟩ rfl rfl rfl rfl rfl (by kernel_rfl) Tryz.func3 (by kernel_rfl)
    (of_decide_eq_true (by kernel_rfl)) (by unfold Func.isWrapper; first | (rw [if_pos (by decide +kernel)]; kernel_rfl) | (rw [if_neg (by decide +kernel)]; exact ⟨rfl, rfl⟩))
    (fun os started H enc _ => law_post (C := Tryz.checked) (s := Rows.groupsAnchorsSpec) (conds := []) (apart := false) (fresh := true) (handsOn := false) (enc := enc) (α := Lkg × Grp × Unit) (ds := fun v => [v.1.D, v.2.1.D]) (ok := fun v => v.1.ok big ∧ True ∧ True) (tb := 4) Tryz.own started (by kernel_rfl) Tryz.func3 Tryz.laidOut
      (ChangeSpec.witness6 (enc := enc) (C := Tryz.checked) false ⟨#[], #[.agg #[.string ⟨#[]⟩, .slice none 0 0, .slice none 0 0, .slice none 0 0], .agg #[.int .i64 0, .slice none 0 0, .slice none 0 0, .int .i64 0]], []⟩ 8 (by kernel_rfl) (by kernel_rfl) (by kernel_rfl) (by kernel_rfl))
      rfl (by kernel_rfl) (by kernel_rfl) (fun xs h => match xs, h with | [_, _], _ => rfl)
      (RAs.cons (t := 26) (by kernel_rfl) (Nat.le_of_ble_eq_true (by kernel_rfl)) a_linkage (RAs.cons (t := 29) (by kernel_rfl) (Nat.le_of_ble_eq_true (by kernel_rfl)) a_groupG RAs.nil))
      (fun v hv => law25_Anchors_ok v.1 v.2.1 hv.1))
end Go.Proofs.YtjjebjajjjjcjaaGreat
