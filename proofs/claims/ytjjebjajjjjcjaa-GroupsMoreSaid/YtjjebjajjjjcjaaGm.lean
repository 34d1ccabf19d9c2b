/- GroupsMore, for every linkage: with a further body without joints, or with a joint doubled, it does not dissolve; with a further driven body it does exactly if it did; no condition. -/
import Derived.Test.YtjjebjajjjjcjaaGmF
namespace Go.Proofs.Ytjjebjajjjjcjaa
open Lift Go

theorem groupsMore_holds : Rows.GroupsMoreSaid :=
  OpenClaim.holds_of_wide 4 Try.f4 rfl rfl rfl rfl rfl rfl rfl ⟨rfl, rfl, rfl, rfl, rfl⟩ rfl rfl rfl rfl rfl (by kernel_rfl) Try.func4 (by kernel_rfl)
    (of_decide_eq_true (by kernel_rfl)) (by unfold Func.isWrapper; first | (rw [if_pos (by decide +kernel)]; kernel_rfl) | (rw [if_neg (by decide +kernel)]; exact ⟨rfl, rfl⟩))
    (fun os started H enc _ => law_post (C := Try.checked) (s := Rows.groupsMoreSpec) (conds := []) (apart := false) (fresh := true) (handsOn := false) (enc := enc) (α := Lkg × Unit) (ds := fun v => [v.1.D]) (ok := fun v => v.1.ok big ∧ True) (tb := 4) Try.own started (by kernel_rfl) Try.func4 Try.laidOut
      (ChangeSpec.witness6 (enc := enc) (C := Try.checked) false ⟨#[], #[.agg #[.string ⟨#[]⟩, .slice none 0 0, .slice none 0 0, .slice none 0 0]], []⟩ 8 (by kernel_rfl) (by kernel_rfl) (by kernel_rfl) (by kernel_rfl))
      rfl (by kernel_rfl) (by kernel_rfl) (fun xs h => match xs, h with | [_], _ => rfl)
      (RAs.cons (t := 26) (by kernel_rfl) (Nat.le_of_ble_eq_true (by kernel_rfl)) a_linkage RAs.nil)
      (fun v hv => law25_More_ok v.1 hv.1))
end Go.Proofs.Ytjjebjajjjjcjaa
