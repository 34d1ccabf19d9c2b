/- MobilityRanks, for every linkage and every position: rank, freedom and redundant joints are the reference's, and the errors too; no condition. -/
import Derived.Test.YtebpenldlefgjaaGreatM6F
namespace Go.Proofs.YtebpenldlefgjaaGreat
open Lift Go
theorem a_assembly : RA Tryz.prog 33 Asm (fun a => a.D) (fun a => AsB a) := RA.agg Tryz.underlying33 u_assembly
theorem mobilityRanks_holds : Rows.MobilityRanksSaid :=
  OpenClaim.holds_of_wide 6 Tryz.f6 rfl rfl rfl rfl rfl rfl rfl ⟨rfl, rfl, rfl, rfl, rfl⟩ rfl rfl rfl rfl rfl (by kernel_rfl) Tryz.func6 (by kernel_rfl)
    (of_decide_eq_true (by kernel_rfl)) (by unfold Func.isWrapper; first | (rw [if_pos (by decide +kernel)]; kernel_rfl) | (rw [if_neg (by decide +kernel)]; exact ⟨rfl, rfl⟩))
    (fun os started H enc _ => law_post (C := Tryz.checked) (s := Rows.mobilityRanksSpec) (conds := []) (apart := false) (fresh := true) (handsOn := false) (enc := enc) (α := Lkg × Asm × Unit) (ds := fun v => [v.1.D, v.2.1.D]) (ok := fun v => v.1.ok big ∧ AsB v.2.1 ∧ True) (tb := 4) Tryz.own started (by kernel_rfl) Tryz.func6 Tryz.laidOut
      (ChangeSpec.witness6 (enc := enc) (C := Tryz.checked) false ⟨#[], #[.agg #[.string ⟨#[]⟩, .slice none 0 0, .slice none 0 0, .slice none 0 0], .agg #[.slice none 0 0, .slice none 0 0, .slice none 0 0]], []⟩ 8 (by kernel_rfl) (by kernel_rfl) (by kernel_rfl) (by kernel_rfl))
      rfl (by kernel_rfl) (by kernel_rfl) (fun xs h => match xs, h with | [_, _], _ => rfl)
      (RAs.cons (t := 26) (by kernel_rfl) (Nat.le_of_ble_eq_true (by kernel_rfl)) a_linkage (RAs.cons (t := 33) (by kernel_rfl) (Nat.le_of_ble_eq_true (by kernel_rfl)) a_assembly RAs.nil))
      (fun v hv => law24_Ranks_ok v.1 v.2.1 hv.1 (Nat.le_refl _) hv.2.1))
end Go.Proofs.YtebpenldlefgjaaGreat
