/- GearRatios, for every chain, every turn and every number: Ratio and Times are the reference's; no condition. -/
import Derived.Test.YtockcpjjfcdopaaGreatGrE
namespace Go.Proofs.YtockcpjjfcdopaaGreat
open Lift Go
theorem a_meshes : RA Tryz.prog 22 (List Msh) (fun l => MshsD l) (fun l => l.length ≤ big) := RA.cell (one_slice (e := 72) (by kernel_rfl)) (u_meshes.map id (fun _ _ => rfl) (fun _ h => Nat.le_trans h.1 (by decide)) u_meshes.1)
theorem a_turn : RA Tryz.prog 43 TD (fun a => a.D) (fun a => a.t.w big) := RA.agg Tryz.underlying43 (u_turn.map id (fun _ _ => rfl) (fun _ h => h.mono (by decide)) u_turn.1)
theorem a_int : RA Tryz.prog 3 Int (fun n => dI n) (fun _ => True) := RA.cell (one_int (k := .i64) (by kernel_rfl)) (u_int.map id (fun _ _ => rfl) (fun _ _ => trivial) u_int.1)
theorem gearRatios_holds : Rows.GearRatiosSaid :=
  OpenClaim.holds_of_wide 4 Tryz.f4 rfl rfl rfl rfl rfl rfl rfl ⟨rfl, rfl, rfl, rfl, rfl⟩ rfl rfl rfl rfl rfl (by kernel_rfl) Tryz.func4 (by kernel_rfl)
    (of_decide_eq_true (by kernel_rfl)) (by unfold Func.isWrapper; first | (rw [if_pos (by decide +kernel)]; kernel_rfl) | (rw [if_neg (by decide +kernel)]; exact ⟨rfl, rfl⟩))
    (fun os started H enc _ => law_post (C := Tryz.checked) (s := Rows.gearRatiosSpec) (conds := []) (apart := false) (fresh := true) (handsOn := false) (enc := enc) (α := List Msh × TD × Int × Unit) (ds := fun v => [MshsD v.1, v.2.1.D, dI v.2.2.1]) (ok := fun v => v.1.length ≤ big ∧ v.2.1.t.w big ∧ True ∧ True) (tb := 4) Tryz.own started (by kernel_rfl) Tryz.func4 Tryz.laidOut
      (ChangeSpec.witness6 (enc := enc) (C := Tryz.checked) false ⟨#[], #[.slice none 0 0, .agg #[.bool false, .slice none 0 0, .slice none 0 0, .bool false], .int .i64 0], []⟩ 8 (by kernel_rfl) (by kernel_rfl) (by kernel_rfl) (by kernel_rfl))
      rfl (by kernel_rfl) (by kernel_rfl) (fun xs h => match xs, h with | [_, _, _], _ => rfl)
      (RAs.cons (t := 22) (by kernel_rfl) (Nat.le_of_ble_eq_true (by kernel_rfl)) a_meshes (RAs.cons (t := 43) (by kernel_rfl) (Nat.le_of_ble_eq_true (by kernel_rfl)) a_turn (RAs.cons (t := 3) (by kernel_rfl) (Nat.le_of_ble_eq_true (by kernel_rfl)) a_int RAs.nil)))
      (fun v hv => g51_Ratios_ok v.1 v.2.1 v.2.2.1 hv.1 hv.2.1))
end Go.Proofs.YtockcpjjfcdopaaGreat
