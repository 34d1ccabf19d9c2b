/- GearChains, for every chain of meshes: its last speed is what Ratio says; no condition. -/
import Derived.Test.YtockcpjjfcdopaaGcE
namespace Go.Proofs.Ytockcpjjfcdopaa
open Lift Go
theorem a_meshes : RA Try.prog 22 (List Msh) (fun l => MshsD l) (fun l => l.length ≤ big) := RA.cell (one_slice (e := 53) (by kernel_rfl)) (u_meshes.map id (fun _ _ => rfl) (fun _ h => Nat.le_trans h.1 (by decide)) u_meshes.1)
theorem gearChains_holds : Rows.GearChainsSaid :=
  OpenClaim.holds_of_wide 5 Try.f5 rfl rfl rfl rfl rfl rfl rfl ⟨rfl, rfl, rfl, rfl, rfl⟩ rfl rfl rfl rfl rfl (by kernel_rfl) Try.func5 (by kernel_rfl)
    (of_decide_eq_true (by kernel_rfl)) (by unfold Func.isWrapper; first | (rw [if_pos (by decide +kernel)]; kernel_rfl) | (rw [if_neg (by decide +kernel)]; exact ⟨rfl, rfl⟩))
    (fun os started H enc _ => law_post (C := Try.checked) (s := Rows.gearChainsSpec) (conds := []) (apart := false) (fresh := true) (handsOn := false) (enc := enc) (α := List Msh × Unit) (ds := fun v => [MshsD v.1]) (ok := fun v => v.1.length ≤ big ∧ True) (tb := 4) Try.own started (by kernel_rfl) Try.func5 Try.laidOut
      (ChangeSpec.witness6 (enc := enc) (C := Try.checked) false ⟨#[], #[.slice none 0 0], []⟩ 8 (by kernel_rfl) (by kernel_rfl) (by kernel_rfl) (by kernel_rfl))
      rfl (by kernel_rfl) (by kernel_rfl) (fun xs h => match xs, h with | [_], _ => rfl)
      (RAs.cons (t := 22) (by kernel_rfl) (Nat.le_of_ble_eq_true (by kernel_rfl)) a_meshes RAs.nil)
      (fun v hv => g51_Chains_ok v.1 hv.1))
end Go.Proofs.Ytockcpjjfcdopaa
