/- GraphBasis, for every linkage: there are as many loops as Loops says, each has a joint that no other one has, and every body has an even number of its joints; no condition. -/
import Derived.Test.YtdoicdbaacfpoaaGreatBaF
namespace Go.Proofs.YtdoicdbaacfpoaaGreat
open Lift Go

theorem graphBasis_holds : Rows.GraphBasisSaid :=
  OpenClaim.holds_of_wide 3 Tryz.f3 rfl rfl rfl rfl rfl rfl rfl ⟨rfl, rfl, rfl, rfl, rfl⟩ rfl rfl rfl rfl rfl (by kernel_rfl) Tryz.func3 (by kernel_rfl)
    (of_decide_eq_true (by kernel_rfl)) (by unfold Func.isWrapper; first | (rw [if_pos (by decide +kernel)]; kernel_rfl) | (rw [if_neg (by decide +kernel)]; exact ⟨rfl, rfl⟩))
    (fun os started H enc _ => law_post (C := Tryz.checked) (s := Rows.graphBasisSpec) (conds := []) (apart := false) (fresh := true) (handsOn := false) (enc := enc) (α := Lkg × Unit) (ds := fun v => [v.1.D]) (ok := fun v => v.1.ok big ∧ True) (tb := 4) Tryz.own started (by kernel_rfl) Tryz.func3 Tryz.laidOut
      (ChangeSpec.witness6 (enc := enc) (C := Tryz.checked) false ⟨#[], #[.agg #[.string ⟨#[]⟩, .slice none 0 0, .slice none 0 0, .slice none 0 0]], []⟩ 8 (by kernel_rfl) (by kernel_rfl) (by kernel_rfl) (by kernel_rfl))
      rfl (by kernel_rfl) (by kernel_rfl) (fun xs h => match xs, h with | [_], _ => rfl)
      (RAs.cons (t := 26) (by kernel_rfl) (Nat.le_of_ble_eq_true (by kernel_rfl)) a_linkage RAs.nil)
      (fun v hv => law_Basis_ok v.1 hv.1))
end Go.Proofs.YtdoicdbaacfpoaaGreat
