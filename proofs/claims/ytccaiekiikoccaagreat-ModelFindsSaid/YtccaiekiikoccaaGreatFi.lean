/- ModelFinds, for every linkage and every text: Body and Point of the model answer as the reference does; no condition. -/
import Derived.Test.YtccaiekiikoccaaGreatFiE
namespace Go.Proofs.YtccaiekiikoccaaGreat
open Lift Go

theorem modelFinds_holds : Rows.ModelFindsSaid :=
  OpenClaim.holds_of_wide 4 Tryz.f4 rfl rfl rfl rfl rfl rfl rfl ⟨rfl, rfl, rfl, rfl, rfl⟩ rfl rfl rfl rfl rfl (by kernel_rfl) Tryz.func4 (by kernel_rfl)
    (of_decide_eq_true (by kernel_rfl)) (by unfold Func.isWrapper; first | (rw [if_pos (by decide +kernel)]; kernel_rfl) | (rw [if_neg (by decide +kernel)]; exact ⟨rfl, rfl⟩))
    (fun os started H enc _ => law_post (C := Tryz.checked) (s := Rows.modelFindsSpec) (conds := []) (apart := false) (fresh := true) (handsOn := false) (enc := enc) (α := Lkg × ByteArray × Unit) (ds := fun v => [v.1.D, dS v.2.1]) (ok := fun v => v.1.ok big ∧ True ∧ True) (tb := 4) Tryz.own started (by kernel_rfl) Tryz.func4 Tryz.laidOut
      (ChangeSpec.witness6 (enc := enc) (C := Tryz.checked) false ⟨#[], #[.agg #[.string ⟨#[]⟩, .slice none 0 0, .slice none 0 0, .slice none 0 0], .string ⟨#[]⟩], []⟩ 8 (by kernel_rfl) (by kernel_rfl) (by kernel_rfl) (by kernel_rfl))
      rfl (by kernel_rfl) (by kernel_rfl) (fun xs h => match xs, h with | [_, _], _ => rfl)
      (RAs.cons (t := 26) (by kernel_rfl) (Nat.le_of_ble_eq_true (by kernel_rfl)) a_linkage (RAs.cons (t := 9) (by kernel_rfl) (Nat.le_of_ble_eq_true (by kernel_rfl)) a_string RAs.nil))
      (fun v hv => law_Finds_ok v.1 v.2.1 hv.1))
end Go.Proofs.YtccaiekiikoccaaGreat
