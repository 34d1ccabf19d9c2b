/- GearTurns, for every turn and every two numbers: Times of n and of m together is Times of n + m; no condition. -/
import Derived.Test.YtockcpjjfcdopaaGtE
namespace Go.Proofs.Ytockcpjjfcdopaa
open Lift Go
theorem a_turn : RA Try.prog 44 TD (fun a => a.D) (fun a => a.t.w big) := RA.agg Try.underlying44 (u_turn.map id (fun _ _ => rfl) (fun _ h => h.mono (by decide)) u_turn.1)
theorem a_int : RA Try.prog 3 Int (fun n => dI n) (fun _ => True) := RA.cell (one_int (k := .i64) (by kernel_rfl)) (u_int.map id (fun _ _ => rfl) (fun _ _ => trivial) u_int.1)
theorem gearTurns_holds : Rows.GearTurnsSaid :=
  OpenClaim.holds_of_wide 4 Try.f4 rfl rfl rfl rfl rfl rfl rfl ⟨rfl, rfl, rfl, rfl, rfl⟩ rfl rfl rfl rfl rfl (by kernel_rfl) Try.func4 (by kernel_rfl)
    (of_decide_eq_true (by kernel_rfl)) (by unfold Func.isWrapper; first | (rw [if_pos (by decide +kernel)]; kernel_rfl) | (rw [if_neg (by decide +kernel)]; exact ⟨rfl, rfl⟩))
    (fun os started H enc _ => law_post (C := Try.checked) (s := Rows.gearTurnsSpec) (conds := []) (apart := false) (fresh := true) (handsOn := false) (enc := enc) (α := TD × Int × Int × Unit) (ds := fun v => [v.1.D, dI v.2.1, dI v.2.2.1]) (ok := fun v => v.1.t.w big ∧ True ∧ True ∧ True) (tb := 4) Try.own started (by kernel_rfl) Try.func4 Try.laidOut
      (ChangeSpec.witness6 (enc := enc) (C := Try.checked) false ⟨#[], #[.agg #[.bool false, .slice none 0 0, .slice none 0 0, .bool false], .int .i64 0, .int .i64 0], []⟩ 8 (by kernel_rfl) (by kernel_rfl) (by kernel_rfl) (by kernel_rfl))
      rfl (by kernel_rfl) (by kernel_rfl) (fun xs h => match xs, h with | [_, _, _], _ => rfl)
      (RAs.cons (t := 44) (by kernel_rfl) (Nat.le_of_ble_eq_true (by kernel_rfl)) a_turn (RAs.cons (t := 3) (by kernel_rfl) (Nat.le_of_ble_eq_true (by kernel_rfl)) a_int (RAs.cons (t := 3) (by kernel_rfl) (Nat.le_of_ble_eq_true (by kernel_rfl)) a_int RAs.nil)))
      (fun v hv => g51_Turns_ok v.1 v.2.1 v.2.2.1 hv.1))
end Go.Proofs.Ytockcpjjfcdopaa
