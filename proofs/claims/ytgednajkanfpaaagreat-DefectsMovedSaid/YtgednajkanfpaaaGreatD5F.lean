/- Parts of the proof, one behind the other: the logic, the contracts of the functions that the statement reaches. -/
import Derived.Test.YtgednajkanfpaaaGreatD5E
set_option linter.unusedVariables false
set_option linter.unusedSimpArgs false
namespace Lift
open Go Go.Proofs
theorem TQ0 : (TQ (some 0)).D = .ag [dB false, .sl 1 [], .sl 1 [], dB false] := by show (TD.mk (Qr 0) false).D = _; rw [Qr_zero]; rfl
theorem add_nn : Pure Tryz.prog 123 [(TQ none).D, (TQ none).D] (TQ (addT none none)).D := by
  refine Pure.intro (n := 57) tok Tryz.func123 rfl rfl rfl (Nat.le_of_ble_eq_true rfl) (by kernel_rfl) (fun B F0 w0 => ?_)
  rw [show addT none none = some 0 from rfl, TQ0]
  refine AW.seq ?_
  refine AW.region ?_
  refine AOps.run tok 3 _ _ _ _ rfl ?_
  refine AOps.nil ?_
  refine AW.seq ?_
  refine AW.block ?_
  refine AW.seq ?_
  refine AW.region ?_
  refine AOps.run tok 7 _ _ _ _ rfl ?_
  refine AOps.nil ?_
  refine AW.condT rfl ?_
  refine AW.seq ?_
  refine AW.region ?_
  refine AOps.run tok 2 _ _ _ _ rfl ?_
  refine AOps.nil ?_
  exact AW.ret rfl
theorem add_ns (y : Rat) {k : Nat} (hy : LQ y ≤ k) (hk : k ≤ 1000000) : Pure Tryz.prog 123 [(TQ none).D, (TQ (some y)).D] (TQ (addT none (some y))).D := by
  refine Pure.intro (n := 57) tok Tryz.func123 rfl rfl rfl (Nat.le_of_ble_eq_true rfl) (by kernel_rfl) (fun B F0 w0 => ?_)
  refine AW.seq ?_
  refine AW.region ?_
  refine AOps.run tok 3 _ _ _ _ rfl ?_
  refine AOps.nil ?_
  refine AW.seq ?_
  refine AW.block ?_
  refine AW.seq ?_
  refine AW.region ?_
  refine AOps.run tok 7 _ _ _ _ rfl ?_
  refine AOps.nil ?_
  refine AW.condF rfl ?_
  refine AW.seq ?_
  refine AW.region ?_
  refine AOps.run tok 3 _ _ _ _ rfl ?_
  refine AOps.nil ?_
  refine AW.condF rfl ?_
  refine AW.seq ?_
  refine AW.region ?_
  refine AOps.run tok 5 _ _ _ _ rfl ?_
  refine AOps.call tok rfl rfl rfl rfl (fraction_Sign_ok (Qr y) (Qr_w _ hy) (by omega)) ?_
  refine AOps.run tok 3 _ _ _ _ rfl ?_
  rw [Qr_val]
  refine AOps.nil ?_
  refine AW.cond rfl (fun h => ?_) (fun h => ?_)
  · have h0 : y = 0 := by have h2 := h; simp at h2; exact sgI0.1 h2
    rw [show addT none (some y) = none by show (if y = 0 then _ else _) = _; rw [if_pos h0]]
    refine AW.seq ?_
    refine AW.region ?_
    refine AOps.run tok 2 _ _ _ _ rfl ?_
    refine AOps.nil ?_
    exact AW.ret rfl
  · have h0 : ¬ y = 0 := fun g => by have h2 := h; simp at h2; exact h2 (sgI0.2 g)
    rw [show addT none (some y) = some (-1 / y) by show (if y = 0 then _ else _) = _; rw [if_neg h0]]
    refine AW.seq ?_
    refine AW.region ?_
    refine AOps.run tok 3 _ _ _ _ rfl ?_
    refine AOps.nil ?_
    refine AW.condT rfl ?_
    refine AW.seq ?_
    refine AW.draw hmix 5 (by kernel_rfl) ?_
    refine APre.call tok rfl rfl rfl rfl rfl (fraction_Of_ok (-1) (by omega) (by omega)) ?_
    refine APre.run tok 2 _ _ _ _ rfl ?_
    refine APre.call tok rfl rfl rfl rfl rfl (turn_over_ok ((-1 : Int) : Rat) y (k := k + 1) (by rw [show ((-1 : Int) : Rat) = -1 from rfl]; have := LQ_m1; omega) (by omega) (by omega) h0) ?_
    rw [show ((-1 : Int) : Rat) = -1 from rfl]
    refine APre.run tok 1 _ _ _ _ rfl ?_
    refine APre.nil ?_
    refine AOps.run tok 1 _ _ _ _ rfl ?_
    refine AOps.nil ?_
    exact AW.ret rfl
theorem add_sn (x : Rat) {k : Nat} (hx : LQ x ≤ k) (hk : k ≤ 1000000) : Pure Tryz.prog 123 [(TQ (some x)).D, (TQ none).D] (TQ (addT (some x) none)).D := by
  refine Pure.intro (n := 57) tok Tryz.func123 rfl rfl rfl (Nat.le_of_ble_eq_true rfl) (by kernel_rfl) (fun B F0 w0 => ?_)
  refine AW.seq ?_
  refine AW.region ?_
  refine AOps.run tok 3 _ _ _ _ rfl ?_
  refine AOps.nil ?_
  refine AW.seq ?_
  refine AW.block ?_
  refine AW.seq ?_
  refine AW.region ?_
  refine AOps.run tok 7 _ _ _ _ rfl ?_
  refine AOps.nil ?_
  refine AW.condF rfl ?_
  refine AW.seq ?_
  refine AW.region ?_
  refine AOps.run tok 3 _ _ _ _ rfl ?_
  refine AOps.nil ?_
  refine AW.condT rfl ?_
  refine AW.seq ?_
  refine AW.region ?_
  refine AOps.run tok 2 _ _ _ _ rfl ?_
  refine AOps.call tok rfl rfl rfl rfl (add_ns x hx hk) ?_
  rw [show addT none (some x) = addT (some x) none from rfl]
  refine AOps.run tok 1 _ _ _ _ rfl ?_
  refine AOps.nil ?_
  exact AW.ret rfl
theorem add_ss (x y : Rat) {k : Nat} (hx : LQ x ≤ k) (hy : LQ y ≤ k) (hk : k ≤ 1000000) : Pure Tryz.prog 123 [(TQ (some x)).D, (TQ (some y)).D] (TQ (addT (some x) (some y))).D := by
  refine Pure.intro (n := 57) tok Tryz.func123 rfl rfl rfl (Nat.le_of_ble_eq_true rfl) (by kernel_rfl) (fun B F0 w0 => ?_)
  have m1 := LQ_mul x y
  have m2 := LQ_add x y
  have m3 := LQ_sub 1 (x * y)
  have m4 := LQ_one
  refine AW.seq ?_
  refine AW.region ?_
  refine AOps.run tok 3 _ _ _ _ rfl ?_
  refine AOps.nil ?_
  refine AW.seq ?_
  refine AW.block ?_
  refine AW.seq ?_
  refine AW.region ?_
  refine AOps.run tok 7 _ _ _ _ rfl ?_
  refine AOps.nil ?_
  refine AW.condF rfl ?_
  refine AW.seq ?_
  refine AW.region ?_
  refine AOps.run tok 3 _ _ _ _ rfl ?_
  refine AOps.nil ?_
  refine AW.condF rfl ?_
  refine AW.seq ?_
  refine AW.region ?_
  refine AOps.run tok 9 _ _ _ _ rfl ?_
  refine AOps.nil ?_
  refine AW.condF rfl ?_
  refine AW.seq ?_
  refine AW.region ?_
  refine AOps.run tok 3 _ _ _ _ rfl ?_
  refine AOps.nil ?_
  refine AW.condF rfl ?_
  refine AW.skip ?_
  refine AW.seq ?_
  refine AW.draw hmix 8 (by kernel_rfl) ?_
  refine APre.call tok rfl rfl rfl rfl rfl (fraction_Of_ok 1 (by omega) (by omega)) ?_
  refine APre.run tok 4 _ _ _ _ rfl ?_
  refine APre.call tok rfl rfl rfl rfl rfl (fraction_Mul_ok (Qr x) (Qr y) (k := k) (Qr_w _ hx) (Qr_w _ hy) (by omega)) ?_
  rw [Qr_val, Qr_val]
  refine APre.call tok rfl rfl rfl rfl rfl (fraction_Sub_ok (Qr ((1 : Int) : Rat)) (Qr (x * y)) (k := 2 * k + 1) (Qr_w _ (by rw [show ((1 : Int) : Rat) = 1 from rfl]; omega)) (Qr_w _ (by omega)) (by omega)) ?_
  rw [Qr_val, Qr_val, show ((1 : Int) : Rat) = 1 from rfl]
  refine APre.run tok 1 _ _ _ _ rfl ?_
  refine APre.nil ?_
  refine AOps.run tok 1 _ _ _ _ rfl ?_
  refine AOps.nil ?_
  refine AW.seq ?_
  refine AW.seq ?_
  refine AW.region ?_
  refine AOps.run tok 1 _ _ _ _ rfl ?_
  refine AOps.call tok rfl rfl rfl rfl (fraction_Sign_ok (Qr (1 - x * y)) (k := 2 * k + 2) (Qr_w _ (by omega)) (by omega)) ?_
  refine AOps.run tok 1 _ _ _ _ rfl ?_
  rw [Qr_val]
  refine AOps.nil ?_
  refine AW.cond rfl (fun h => ?_) (fun h => ?_)
  · have h0 : 1 - x * y = 0 := by have h2 := h; simp at h2; exact sgI0.1 h2
    rw [show addT (some x) (some y) = none by show (if 1 - x * y = 0 then _ else _) = _; rw [if_pos h0]]
    refine AW.seq ?_
    refine AW.region ?_
    refine AOps.call tok rfl rfl rfl rfl turn_half_ok ?_
    refine AOps.run tok 1 _ _ _ _ rfl ?_
    refine AOps.nil ?_
    exact AW.ret rfl
  · have h0 : ¬ 1 - x * y = 0 := fun g => by have h2 := h; simp at h2; exact h2 (sgI0.2 g)
    rw [show addT (some x) (some y) = some ((x + y) / (1 - x * y)) by show (if 1 - x * y = 0 then _ else _) = _; rw [if_neg h0]]
    refine AW.skip ?_
    refine AW.seq ?_
    refine AW.draw hmix 8 (by kernel_rfl) ?_
    refine APre.run tok 4 _ _ _ _ rfl ?_
    refine APre.call tok rfl rfl rfl rfl rfl (fraction_Add_ok (Qr x) (Qr y) (k := k) (Qr_w _ hx) (Qr_w _ hy) (by omega)) ?_
    rw [Qr_val, Qr_val]
    refine APre.run tok 1 _ _ _ _ rfl ?_
    refine APre.call tok rfl rfl rfl rfl rfl (turn_over_ok (x + y) (1 - x * y) (k := 2 * k + 2) (by omega) (by omega) (by omega) h0) ?_
    refine APre.run tok 1 _ _ _ _ rfl ?_
    refine APre.nil ?_
    refine AOps.run tok 1 _ _ _ _ rfl ?_
    refine AOps.nil ?_
    exact AW.ret rfl
theorem turn_add_ok (a b : Option Rat) {k : Nat} (ha : szT a ≤ k) (hb : szT b ≤ k) (hk : k ≤ 1000000) : Pure Tryz.prog 123 [(TQ a).D, (TQ b).D] (TQ (addT a b)).D := by
  cases a with
  | none =>
    cases b with
    | none => exact add_nn
    | some y => exact add_ns y hb hk
  | some x =>
    cases b with
    | none => exact add_sn x ha hk
    | some y => exact add_ss x y ha hb hk
theorem TQ_ok (a : Option Rat) : (TQ a).okB = true := by
  cases a with
  | none => show ((Qr 0).okB && (!true || decide ((Qr 0).val = 0))) = true; rw [Qr_ok, Qr_val]; rfl
  | some q => show ((Qr q).okB && (!false || decide ((Qr q).val = 0))) = true; rw [Qr_ok]; rfl
theorem TQ_val (a : Option Rat) : (TQ a).val = a := by
  cases a with
  | none => rfl
  | some q => show some (Qr q).val = some q; rw [Qr_val]
theorem turn_checkAll_ok (a b : Option Rat) {k : Nat} (ha : szT a ≤ k) (hb : szT b ≤ k) (hk : k ≤ 1000000) : Pure Tryz.prog 122 [.sl 4 [(TQ a).D, (TQ b).D]] nilE := by
  refine Pure.intro (n := 18) tok Tryz.func122 rfl rfl rfl (Nat.le_of_ble_eq_true rfl) (by kernel_rfl) (fun B F0 w0 => ?_)
  have hc : ∀ i : Nat, i < 2 → ∃ c, [(TQ a).D, (TQ b).D][i]? = some (TQ c).D ∧ szT c ≤ k := fun i hi => by
    match i, hi with
    | 0, _ => exact ⟨a, rfl, ha⟩
    | 1, _ => exact ⟨b, rfl, hb⟩
  refine AW.seq ?_
  refine AW.region ?_
  refine AOps.run tok 1 _ _ _ _ rfl ?_
  refine AOps.nil ?_
  refine AW.seq ?_
  refine AW.seq ?_
  refine AW.region ?_
  refine AOps.run tok 3 _ _ _ _ rfl ?_
  refine AOps.nil ?_
  refine AW.block ?_
  refine AW.loopS [6, 7, 8] (fun i : Nat => [(6, .d (.sl 4 [(TQ a).D, (TQ b).D])), (7, .d (dI 2)), (8, .d (dI i))]) (fun i => i ≤ 2) (fun i => 2 - i) 0 rfl (Nat.zero_le _) (fun i hi => ?_)
  refine AW.seq ?_
  refine AW.region ?_
  refine AOps.run tok 1 _ _ _ _ rfl ?_
  refine AOps.nil ?_
  refine AW.seq ?_
  refine AW.cond rfl (fun h => ?_) (fun h => ?_)
  · have hin : i < 2 := by have := of_decide_eq_true h; omega
    obtain ⟨c, h1, h2⟩ := hc i hin
    refine AW.skip ?_
    refine AW.seq ?_
    refine AW.block ?_
    refine AW.seq ?_
    refine AW.region ?_
    refine AOps.idx tok (TQ c).D rfl rfl rfl rfl (Int.natCast_nonneg i) h1 ?_
    refine AOps.run tok 3 _ _ _ _ rfl ?_
    refine AOps.nil ?_
    refine AW.seq ?_
    refine AW.region ?_
    refine AOps.run tok 1 _ _ _ _ rfl ?_
    have hk := turn_Check_ok (TQ c) (szT_w c h2) (by omega)
    rw [TQ_ok] at hk
    refine AOps.call tok rfl rfl rfl rfl hk ?_
    refine AOps.run tok 1 _ _ _ _ rfl ?_
    refine AOps.nil ?_
    refine AW.seq ?_
    refine AW.region ?_
    refine AOps.run tok 1 _ _ _ _ rfl ?_
    refine AOps.err tok rfl rfl rfl rfl rfl ?_
    refine AOps.nil ?_
    refine AW.condF rfl ?_
    refine AW.skip ?_
    refine AW.region ?_
    refine AOps.run tok 2 _ _ _ _ rfl ?_
    rw [wI64 (x := (i : Int) + 1) (by omega) (by omega)]
    refine AOps.nil ?_
    exact ⟨i + 1, rfl, hin, by omega⟩
  · refine AW.exit ?_
    refine AW.seq ?_
    refine AW.region ?_
    refine AOps.run tok 1 _ _ _ _ rfl ?_
    refine AOps.nil ?_
    exact AW.ret rfl
theorem turn_Add_ok (a b : Option Rat) {k : Nat} (ha : szT a ≤ k) (hb : szT b ≤ k) (hk : k ≤ 1000000) : Pure Tryz.prog 74 [(TQ a).D, (TQ b).D] (.tu [(TQ (addT a b)).D, nilE]) := by
  refine Pure.intro (n := 18) tok Tryz.func74 rfl rfl rfl (Nat.le_of_ble_eq_true rfl) (by kernel_rfl) (fun B F0 w0 => ?_)
  refine AW.seq ?_
  refine AW.region ?_
  refine AOps.run tok 4 _ _ _ _ rfl ?_
  refine AOps.nil ?_
  refine AW.seq ?_
  refine AW.seq ?_
  refine AW.region ?_
  refine AOps.run tok 2 _ _ _ _ rfl ?_
  refine AOps.bsd tok rfl rfl rfl rfl rfl ?_
  refine AOps.call tok rfl rfl rfl rfl (turn_checkAll_ok a b ha hb hk) ?_
  refine AOps.run tok 1 _ _ _ _ rfl ?_
  refine AOps.nil ?_
  refine AW.seq ?_
  refine AW.region ?_
  refine AOps.run tok 1 _ _ _ _ rfl ?_
  refine AOps.err tok rfl rfl rfl rfl rfl ?_
  refine AOps.nil ?_
  refine AW.condF rfl ?_
  · skip
    refine AW.skip ?_
    refine AW.seq ?_
    refine AW.region ?_
    refine AOps.run tok 2 _ _ _ _ rfl ?_
    refine AOps.call tok rfl rfl rfl rfl (turn_add_ok a b ha hb hk) ?_
    refine AOps.run tok 2 _ _ _ _ rfl ?_
    refine AOps.nil ?_
    exact AW.ret rfl
end Lift
namespace Lift
open Go Go.Proofs
def thenF (q p : Po) : Po := (addT q.1 p.1, appF p q.2)
def thenD (q : PoD) (p : Po) : D := if q.okB = true then .tu [(PoQ (thenF q.val p)).D, nilE] else .tu [.ag [dB false, .sl 1 [], .sl 1 [], dB false, dB false, .sl 1 [], .sl 1 [], dB false, .sl 1 [], .sl 1 []], erV 2]
set_option maxHeartbeats 800000 in
theorem pose_Then_ok (q : PoD) (p : Po) {k : Nat} (hw : q.w k) (hp : szP p ≤ k) (h1 : 1 ≤ k) (hk : k ≤ 1000) : Pure Tryz.prog 36 [q.D, (PoQ p).D] (thenD q p) := by
  refine Pure.intro (n := 45) tok Tryz.func36 rfl rfl rfl (Nat.le_of_ble_eq_true rfl) (by kernel_rfl) (fun B F0 w0 => ?_)
  have c1 := pose_Valid_ok q hw (by omega)
  unfold thenD
  cases hq : q.okB with
  | false =>
    rw [hq] at c1
    rw [if_neg (by simp)]
    refine AW.seq ?_
    refine AW.region ?_
    refine AOps.run tok 4 _ _ _ _ rfl ?_
    refine AOps.nil ?_
    refine AW.seq ?_
    refine AW.seq ?_
    refine AW.region ?_
    refine AOps.run tok 1 _ _ _ _ rfl ?_
    refine AOps.call tok rfl rfl rfl rfl c1 ?_
    refine AOps.run tok 6 _ _ _ _ rfl ?_
    refine AOps.nil ?_
    refine AW.condT rfl ?_
    refine AW.seq ?_
    refine AW.region ?_
    refine AOps.run tok 4 _ _ _ _ rfl ?_
    refine AOps.nil ?_
    exact AW.ret rfl
  | true =>
  rw [hq] at c1
  rw [if_pos rfl]
  have hqv := szP_val hw h1
  have hc : q = PoQ q.val := PoD.canon hw hq
  generalize q.val = v at hqv hc ⊢
  subst hc
  have c2 := pose_Valid_ok (PoQ p) (k := k) ⟨szT_w _ (by unfold szP at hp; omega), VQ_w (by unfold szP at hp; omega)⟩ (by omega)
  rw [PoQ_okB] at c2
  have c3 := turn_Add_ok v.1 p.1 (k := k) (by unfold szP at hqv; omega) (by unfold szP at hp; omega) (by omega)
  have c4 := pose_Apply_ok p v.2 (k := k) hp (by unfold szP at hqv; omega) h1 (by omega)
  unfold thenF
  generalize addT v.1 p.1 = a at c3 ⊢
  generalize appF p v.2 = b at c4 ⊢
  refine AW.seq ?_
  refine AW.region ?_
  refine AOps.run tok 4 _ _ _ _ rfl ?_
  refine AOps.nil ?_
  refine AW.seq ?_
  refine AW.seq ?_
  refine AW.region ?_
  refine AOps.run tok 1 _ _ _ _ rfl ?_
  refine AOps.call tok rfl rfl rfl rfl c1 ?_
  refine AOps.run tok 3 _ _ _ _ rfl ?_
  refine AOps.call tok rfl rfl rfl rfl c2 ?_
  refine AOps.run tok 2 _ _ _ _ rfl ?_
  refine AOps.nil ?_
  refine AW.condF rfl ?_
  · skip
    refine AW.skip ?_
    refine AW.seq ?_
    refine AW.region ?_
    refine AOps.run tok 4 _ _ _ _ rfl ?_
    refine AOps.call tok rfl rfl rfl rfl c3 ?_
    refine AOps.run tok 6 _ _ _ _ rfl ?_
    refine AOps.nil ?_
    refine AW.seq ?_
    refine AW.seq ?_
    refine AW.region ?_
    refine AOps.run tok 1 _ _ _ _ rfl ?_
    refine AOps.err tok rfl rfl rfl rfl rfl ?_
    refine AOps.nil ?_
    refine AW.condF rfl ?_
    · skip
      refine AW.skip ?_
      refine AW.seq ?_
      refine AW.region ?_
      refine AOps.run tok 3 _ _ _ _ rfl ?_
      refine AOps.call tok rfl rfl rfl rfl c4 ?_
      refine AOps.run tok 6 _ _ _ _ rfl ?_
      refine AOps.nil ?_
      refine AW.seq ?_
      refine AW.seq ?_
      refine AW.region ?_
      refine AOps.run tok 1 _ _ _ _ rfl ?_
      refine AOps.err tok rfl rfl rfl rfl rfl ?_
      refine AOps.nil ?_
      refine AW.condF rfl ?_
      · skip
        refine AW.skip ?_
        refine AW.seq ?_
        refine AW.region ?_
        refine AOps.run tok 5 _ _ _ _ rfl ?_
        refine AOps.nil ?_
        exact AW.ret rfl
end Lift
namespace Lift
theorem nvp_pos (v : Option Rat) : 0 < pX v * pX v + pY v * pY v := by
  cases v with
  | none => simp only [pX, pY]; grind
  | some t => have := rsq t; simp only [pX, pY]; grind
theorem dir_N (v : Option Rat) : (dirT v).1 * (pX v * pX v + pY v * pY v) = pX v * pX v - pY v * pY v ∧ (dirT v).2 * (pX v * pX v + pY v * pY v) = 2 * pX v * pY v := by
  cases v with
  | none => simp only [pX, pY, dirT]; constructor <;> grind
  | some t =>
    have h := dn_ne t
    simp only [pX, pY, dirT]
    constructor
    · have : (1 - t * t) / (1 + t * t) * (1 + t * t) = 1 - t * t := by rw [Rat.div_mul_cancel h]
      grind
    · have : (t + t) / (1 + t * t) * (1 + t * t) = t + t := by rw [Rat.div_mul_cancel h]
      grind
theorem dir_one (v : Option Rat) : (dirT v).1 * (dirT v).1 + (dirT v).2 * (dirT v).2 = 1 := by
  obtain ⟨h1, h2⟩ := dir_N v
  have hp := nvp_pos v
  generalize pX v = x at h1 h2 hp
  generalize pY v = y at h1 h2 hp
  generalize (dirT v).1 = c at h1 ⊢
  generalize (dirT v).2 = s at h2 ⊢
  have e : (c * c + s * s - 1) * ((x * x + y * y) * (x * x + y * y)) = 0 := by
    have e1 : (c * (x * x + y * y)) * (c * (x * x + y * y)) = (x * x - y * y) * (x * x - y * y) := by rw [h1]
    have e2 : (s * (x * x + y * y)) * (s * (x * x + y * y)) = (2 * x * y) * (2 * x * y) := by rw [h2]
    grind
  rcases Rat.mul_eq_zero.1 e with e | e
  · grind
  · have := Rat.mul_pos hp hp; grind
theorem dir_mul (a b : Option Rat) : dirT (addT a b) = cmul (dirT a) (dirT b) := by
  obtain ⟨k, hk, h1, h2⟩ := addT_vec a b
  obtain ⟨a1, a2⟩ := dir_N a
  obtain ⟨b1, b2⟩ := dir_N b
  obtain ⟨c1, c2⟩ := dir_N (addT a b)
  have hp := nvp_pos (addT a b)
  unfold cmul
  generalize dirT (addT a b) = z at c1 c2 ⊢
  generalize dirT a = x at a1 a2 ⊢
  generalize dirT b = y at b1 b2 ⊢
  generalize pX (addT a b) = X at h1 c1 c2 hp
  generalize pY (addT a b) = Y at h2 c1 c2 hp
  generalize pX a = xa at h1 h2 a1 a2
  generalize pY a = ya at h1 h2 a1 a2
  generalize pX b = xb at h1 h2 b1 b2
  generalize pY b = yb at h1 h2 b1 b2
  obtain ⟨z1, z2⟩ := z
  obtain ⟨x1, x2⟩ := x
  obtain ⟨y1, y2⟩ := y
  simp only [] at *
  have hN : (xa * xa + ya * ya) * (xb * xb + yb * yb) = (k * k) * (X * X + Y * Y) := by
    have : (xa * xb - ya * yb) * (xa * xb - ya * yb) + (xa * yb + ya * xb) * (xa * yb + ya * xb) = (k * X) * (k * X) + (k * Y) * (k * Y) := by rw [h1, h2]
    grind
  have hk2 : (k * k) * (X * X + Y * Y) ≠ 0 := fun h => by
    rcases Rat.mul_eq_zero.1 h with h | h
    · exact hk (rsq0 h)
    · grind
  have fin : ∀ {u v : Rat}, u * ((k * k) * (X * X + Y * Y)) = v * ((k * k) * (X * X + Y * Y)) → u = v := fun {u v} h => by
    have : (u - v) * ((k * k) * (X * X + Y * Y)) = 0 := by grind
    rcases Rat.mul_eq_zero.1 this with h | h
    · grind
    · exact absurd h hk2
  have p1 : (k * X) * (k * X) - (k * Y) * (k * Y) = (xa * xb - ya * yb) * (xa * xb - ya * yb) - (xa * yb + ya * xb) * (xa * yb + ya * xb) := by rw [h1, h2]
  have p2 : (k * X) * (k * Y) = (xa * xb - ya * yb) * (xa * yb + ya * xb) := by rw [h1, h2]
  refine Prod.ext (fin ?_) (fin ?_)
  · show z1 * _ = (x1 * y1 - x2 * y2) * _
    have l : z1 * ((k * k) * (X * X + Y * Y)) = (k * k) * (X * X - Y * Y) := by rw [← c1]; grind
    have r : (x1 * y1 - x2 * y2) * ((xa * xa + ya * ya) * (xb * xb + yb * yb)) = (x1 * (xa * xa + ya * ya)) * (y1 * (xb * xb + yb * yb)) - (x2 * (xa * xa + ya * ya)) * (y2 * (xb * xb + yb * yb)) := by grind
    rw [l, ← hN, r, a1, a2, b1, b2]
    grind
  · show z2 * _ = (x1 * y2 + x2 * y1) * _
    have l : z2 * ((k * k) * (X * X + Y * Y)) = (k * k) * (2 * X * Y) := by rw [← c2]; grind
    have r : (x1 * y2 + x2 * y1) * ((xa * xa + ya * ya) * (xb * xb + yb * yb)) = (x1 * (xa * xa + ya * ya)) * (y2 * (xb * xb + yb * yb)) + (x2 * (xa * xa + ya * ya)) * (y1 * (xb * xb + yb * yb)) := by grind
    rw [l, ← hN, r, a1, a2, b1, b2]
    grind
theorem rot_crs (v : Option Rat) (a b : V2) : crs (rotF v a) (rotF v b) = crs a b := by
  have h := dir_one v
  unfold rotF crs
  generalize (dirT v).1 = c at h ⊢
  generalize (dirT v).2 = s at h ⊢
  have : (c * a.1 - s * a.2) * (s * b.1 + c * b.2) - (s * a.1 + c * a.2) * (c * b.1 - s * b.2) = (c * c + s * s) * (a.1 * b.2 - a.2 * b.1) := by grind
  show (c * a.1 - s * a.2) * (s * b.1 + c * b.2) - (s * a.1 + c * a.2) * (c * b.1 - s * b.2) = _
  rw [this, h]; grind
theorem rot_dt (v : Option Rat) (a b : V2) : dt (rotF v a) (rotF v b) = dt a b := by
  have h := dir_one v
  unfold rotF dt
  generalize (dirT v).1 = c at h ⊢
  generalize (dirT v).2 = s at h ⊢
  have : (c * a.1 - s * a.2) * (c * b.1 - s * b.2) + (s * a.1 + c * a.2) * (s * b.1 + c * b.2) = (c * c + s * s) * (a.1 * b.1 + a.2 * b.2) := by grind
  show (c * a.1 - s * a.2) * (c * b.1 - s * b.2) + (s * a.1 + c * a.2) * (s * b.1 + c * b.2) = _
  rw [this, h]; grind
theorem rot_sub (v : Option Rat) (a b : V2) : vsub (rotF v a) (rotF v b) = rotF v (vsub a b) := Prod.ext (by show ((dirT v).1 * a.1 - (dirT v).2 * a.2) - ((dirT v).1 * b.1 - (dirT v).2 * b.2) = (dirT v).1 * (a.1 - b.1) - (dirT v).2 * (a.2 - b.2); grind) (by show ((dirT v).2 * a.1 + (dirT v).1 * a.2) - ((dirT v).2 * b.1 + (dirT v).1 * b.2) = (dirT v).2 * (a.1 - b.1) + (dirT v).1 * (a.2 - b.2); grind)
theorem rot_zero (v : Option Rat) : rotF v (0, 0) = (0, 0) := Prod.ext (by show (dirT v).1 * 0 - (dirT v).2 * 0 = 0; grind) (by show (dirT v).2 * 0 + (dirT v).1 * 0 = 0; grind)
theorem rot_neg (v : Option Rat) (a : V2) : vneg (rotF v a) = rotF v (vneg a) := Prod.ext (by show -((dirT v).1 * a.1 - (dirT v).2 * a.2) = (dirT v).1 * -a.1 - (dirT v).2 * -a.2; grind) (by show -((dirT v).2 * a.1 + (dirT v).1 * a.2) = (dirT v).2 * -a.1 + (dirT v).1 * -a.2; grind)
theorem rot_mul (a b : Option Rat) (q : V2) : rotF (addT a b) q = rotF b (rotF a q) := by
  unfold rotF
  rw [dir_mul]
  unfold cmul
  exact Prod.ext (by simp only []; grind) (by simp only []; grind)
theorem app_sub (p : Po) (a b : V2) : vsub (appF p a) (appF p b) = rotF p.1 (vsub a b) := by
  rw [← rot_sub]
  unfold appF
  generalize rotF p.1 a = x
  generalize rotF p.1 b = y
  exact Prod.ext (by show (x.1 + p.2.1) - (y.1 + p.2.1) = x.1 - y.1; grind) (by show (x.2 + p.2.2) - (y.2 + p.2.2) = x.2 - y.2; grind)
theorem rot_add (v : Option Rat) (a b : V2) : rotF v (vadd a b) = vadd (rotF v a) (rotF v b) := Prod.ext (by show (dirT v).1 * (a.1 + b.1) - (dirT v).2 * (a.2 + b.2) = ((dirT v).1 * a.1 - (dirT v).2 * a.2) + ((dirT v).1 * b.1 - (dirT v).2 * b.2); grind) (by show (dirT v).2 * (a.1 + b.1) + (dirT v).1 * (a.2 + b.2) = ((dirT v).2 * a.1 + (dirT v).1 * a.2) + ((dirT v).2 * b.1 + (dirT v).1 * b.2); grind)
theorem app_then (q p : Po) (m : V2) : appF (thenF q p) m = appF p (appF q m) := by
  show vadd (rotF (addT q.1 p.1) m) (vadd (rotF p.1 q.2) p.2) = vadd (rotF p.1 (vadd (rotF q.1 m) q.2)) p.2
  rw [rot_mul, rot_add]
  generalize rotF p.1 (rotF q.1 m) = x
  generalize rotF p.1 q.2 = y
  exact Prod.ext (by show x.1 + (y.1 + p.2.1) = (x.1 + y.1) + p.2.1; grind) (by show x.2 + (y.2 + p.2.2) = (x.2 + y.2) + p.2.2; grind)
def movD (p : Po) (d : Dy) : Dy := (appF p d.1, d.2.1, d.2.2)
theorem mov_dir (p q : Po) (d : Dy) : dirF (movD p d) (thenF q p) = rotF p.1 (dirF d q) := by
  show vsub (appF (thenF q p) d.2.1) (appF p d.1) = _
  rw [app_then, app_sub]; rfl
theorem mov_sgn (p q : Po) (d e : Dy) : sgnF (movD p d) (movD p e) (thenF q p) = sgnF d e q := by
  show sgI (crs (vsub (appF (thenF q p) e.2.1) (appF (thenF q p) d.2.1)) (vsub (appF p e.1) (appF (thenF q p) d.2.1))).num = _
  rw [app_then, app_then, app_sub p, app_sub p, rot_crs]; rfl
def rotB (v : Option Rat) (b : BarR) : BarR := ⟨b.a2, b.b2, b.c2, rotF v b.f, b.u.map (rotF v), b.sg⟩
theorem mov_rdB (ps : List Po) (p : Po) (d e : Dy) : rdB (ps.map (fun q => thenF q p)) (movD p d) (movD p e) = rotB p.1 (rdB ps d e) := by
  have h1 : vsub (appF p e.1) (appF p d.1) = rotF p.1 (vsub e.1 d.1) := app_sub _ _ _
  have h2 : (ps.map (fun q => thenF q p)).map (dirF (movD p d)) = (ps.map (dirF d)).map (rotF p.1) := by
    rw [List.map_map, List.map_map]
    exact List.map_congr_left fun q _ => mov_dir p q d
  have h3 : (ps.map (fun q => thenF q p)).map (sgnF (movD p d) (movD p e)) = ps.map (sgnF d e) := by
    rw [List.map_map]
    exact List.map_congr_left fun q _ => mov_sgn p q d e
  show (⟨d.2.2, dt (vsub e.2.1 d.2.1) (vsub e.2.1 d.2.1), e.2.2, vsub (appF p e.1) (appF p d.1), (ps.map (fun q => thenF q p)).map (dirF (movD p d)), (ps.map (fun q => thenF q p)).map (sgnF (movD p d) (movD p e))⟩ : BarR) = _
  rw [h1, h2, h3]; rfl
theorem less_congr {u v w u' v' w' : V2} (h1 : crs u v = crs u' v') (h2 : dt u v = dt u' v') (h3 : crs u w = crs u' w') (h4 : dt u w = dt u' w') (h5 : crs v w = crs v' w') : lessF u v w = lessF u' v' w' := by
  unfold lessF halfF
  rw [h1, h2, h3, h4, h5]
theorem get_rot (v : Option Rat) (l : List V2) (i : Nat) : (l.map (rotF v)).getD i (0, 0) = rotF v (l.getD i (0, 0)) := by
  rw [List.getD_eq_getElem?_getD, List.getElem?_map, List.getD_eq_getElem?_getD]
  cases l[i]? with
  | none => exact (rot_zero v).symm
  | some x => rfl
theorem get_mir (l : List V2) (i : Nat) : (mirF l).getD i (0, 0) = barF (l.getD i (0, 0)) := by
  unfold mirF
  rw [List.getD_eq_getElem?_getD, List.getElem?_map, List.getD_eq_getElem?_getD]
  cases l[i]? with
  | none => show ((0 : Rat), (0 : Rat)) = (0, -0); rw [show (-0 : Rat) = 0 from rfl]
  | some x => rfl
theorem rot_order (v : Option Rat) (l : List V2) : orderF (l.map (rotF v)) = orderF l := by
  have a : ascF (l.map (rotF v)) = ascF l := by
    rw [asc_all, asc_all, List.length_map]
    refine allR_congr fun i _ => ?_
    simp only [get_rot]
    exact less_congr (rot_crs ..) (rot_dt ..) (rot_crs ..) (rot_dt ..) (rot_crs ..)
  have b : ascF (mirF (l.map (rotF v))) = ascF (mirF l) := by
    rw [asc_all, asc_all, mirF_len, mirF_len, List.length_map]
    refine allR_congr fun i _ => ?_
    simp only [get_mir, get_rot]
    exact less_congr (by rw [crs_bar, crs_bar, rot_crs]) (by rw [dt_bar, dt_bar, rot_dt]) (by rw [crs_bar, crs_bar, rot_crs]) (by rw [dt_bar, dt_bar, rot_dt]) (by rw [crs_bar, crs_bar, rot_crs])
  unfold orderF
  rw [a, b]
theorem rot_btwU (v : Option Rat) (a b : V2) : btwU (rotF v a) (rotF v b) = btwU a b := by
  unfold btwU
  rw [rot_crs, rot_dt]
theorem rot_pos (v : Option Rat) (b : BarR) (u : V2) : posF (rotB v b) (rotF v u) = posF b u := by
  have : dt (vsub (rotF v b.f) (rotF v u)) (vsub (rotF v b.f) (rotF v u)) = dt (vsub b.f u) (vsub b.f u) := by rw [rot_sub, rot_dt]
  show decide (0 < sgQ (((4 : Int) : Rat) * (b.b2 * b.c2) - ((b.b2 + b.c2) - dt (vsub (rotF v b.f) (rotF v u)) (vsub (rotF v b.f) (rotF v u))) * ((b.b2 + b.c2) - dt (vsub (rotF v b.f) (rotF v u)) (vsub (rotF v b.f) (rotF v u))))) = _
  rw [this]; rfl
theorem rot_inL (v : Option Rat) (b : BarR) (s : Int) : inLF (rotB v b) s = inLF b s := by
  have e1 : prodF (rotB v b) = prodF b := by
    show b.a2 * dt (rotF v b.f) (rotF v b.f) = b.a2 * dt b.f b.f
    rw [rot_dt]
  have e2 : xlF (rotB v b) = xlF b := by
    show (b.b2 + b.c2) - (b.a2 + dt (rotF v b.f) (rotF v b.f)) = (b.b2 + b.c2) - (b.a2 + dt b.f b.f)
    rw [rot_dt]
  have e3 : plainF (rotB v b) = plainF b := by
    unfold plainF
    rw [e1, e2]; rfl
  unfold inLF
  rw [e1, e2, e3]
theorem rot_dirS (v : Option Rat) (b : BarR) (s : Int) : dirS (rotB v b) s = rotF v (dirS b s) := by
  unfold dirS
  split
  · exact rot_neg v b.f
  · rfl
theorem rot_ins (v : Option Rat) (a b c : V2) : insF (rotF v a) (rotF v b) (rotF v c) = insF a b c := by
  rw [insF_of, insF_of, rot_crs, rot_crs]
theorem rot_way (v : Option Rat) (b : BarR) (x y : V2) (s : Int) : wayF (rotB v b) (rotF v x) (rotF v y) s = wayF b x y s := by
  have e0 : ∀ (b : BarR) (u v : V2), wayF b u v s = (!insF u v (dirS b s) || decide (0 < inLF b s)) := fun _ _ _ => rfl
  rw [e0, e0, rot_dirS, rot_ins, rot_inL]
theorem rot_btwV (v : Option Rat) (b : BarR) (x y : V2) : btwV (rotB v b) (rotF v x) (rotF v y) = btwV b x y := by
  unfold btwV
  simp only [rot_pos, rot_way, rot_crs]
theorem rot_rpt (v : Option Rat) (b : BarR) : rptD (rotB v b) = rptD b := by
  have l1 : (rotB v b).u.length = b.u.length := List.length_map ..
  have a1 : unB (rotB v b) = unB b := funext fun i => by
    show btwU ((b.u.map (rotF v)).getD i (0, 0)) ((b.u.map (rotF v)).getD (i + 1) (0, 0)) = _
    rw [get_rot, get_rot, rot_btwU]; rfl
  have a2 : ciB (rotB v b) = ciB b := funext fun i => by
    show (!btwV (rotB v b) ((b.u.map (rotF v)).getD i (0, 0)) ((b.u.map (rotF v)).getD (i + 1) (0, 0))) = _
    rw [get_rot, get_rot, rot_btwV]; rfl
  have a3 : orderF (rotB v b).u = orderF b.u := rot_order v b.u
  unfold rptD
  rw [l1, a1, a2, a3]; rfl
theorem PoQ_val (p : Po) : (PoQ p).val = p := by
  show ((TQ p.1).val, ((Qr p.2.1).val, (Qr p.2.2).val)) = p
  rw [TQ_val, Qr_val, Qr_val]
theorem PoQ_vals (ps : List Po) : (ps.map PoQ).map PoD.val = ps := by
  rw [List.map_map]
  have : (PoD.val ∘ PoQ) = id := funext PoQ_val
  rw [this, List.map_id]
theorem DyQ_val (d : Dy) : (DyQ d).val = d := by
  show (((Qr d.1.1).val, (Qr d.1.2).val), ((Qr d.2.1.1).val, (Qr d.2.1.2).val), (Qr d.2.2).val) = d
  simp only [Qr_val]
theorem app_inj (p : Po) (a b : V2) : appF p a = appF p b ↔ a = b := ⟨fun h => by
    have e : rotF p.1 (vsub a b) = (0, 0) := by
      rw [← app_sub, h]
      exact Prod.ext (by show _ - _ = (0 : Rat); grind) (by show _ - _ = (0 : Rat); grind)
    have e2 : dt (vsub a b) (vsub a b) = 0 := by
      rw [← rot_dt p.1, e]
      show (0 : Rat) * 0 + 0 * 0 = 0
      grind
    have := sum0 e2
    exact Prod.ext (by have : a.1 - b.1 = 0 := this.1; grind) (by have : a.2 - b.2 = 0 := this.2; grind), fun h => by rw [h]⟩
theorem mov_pas (ps : List Po) (p : Po) (d : Dy) : pasB (ps.map (fun q => thenF q p)) (movD p d) = pasB ps d := by
  unfold pasB
  rw [List.all_map]
  congr 1
  funext q
  have : vsub (appF (thenF q p) (movD p d).2.1) (movD p d).1 = rotF p.1 (vsub (appF q d.2.1) d.1) := mov_dir p q d
  show decide (dt (vsub (appF (thenF q p) (movD p d).2.1) (movD p d).1) (vsub (appF (thenF q p) (movD p d).2.1) (movD p d).1) = d.2.2) = _
  rw [this, rot_dt]
theorem mov_chk (ps : List Po) (p : Po) (d e : Dy) : chkD ((ps.map (fun q => thenF q p)).map PoQ) (DyQ (movD p d)) (DyQ (movD p e)) = chkD (ps.map PoQ) (DyQ d) (DyQ e) := by
  have h1 : chkPo ((ps.map (fun q => thenF q p)).map PoQ) = chkPo (ps.map PoQ) := by
    unfold chkPo
    rw [posOk_q, posOk_q]
    simp only [List.length_map]
  have h2 : ∀ d : Dy, (DyQ d).okB = true := fun d => by
    unfold DyD.okB PD.okB
    simp only [Qr_ok, Bool.and_self]
  have h3 : ((DyQ (movD p d)).c.val = (DyQ (movD p e)).c.val) ↔ ((DyQ d).c.val = (DyQ e).c.val) := by
    show (((Qr (appF p d.1).1).val, (Qr (appF p d.1).2).val) = ((Qr (appF p e.1).1).val, (Qr (appF p e.1).2).val)) ↔ (((Qr d.1.1).val, (Qr d.1.2).val) = ((Qr e.1.1).val, (Qr e.1.2).val))
    simp only [Qr_val]
    exact app_inj p d.1 e.1
  unfold chkD
  simp only [h1, h2, h3, PoQ_vals, DyQ_val, mov_pas]
  rfl
theorem mov_report (ps : List Po) (p : Po) (d e : Dy) : reportD ((ps.map (fun q => thenF q p)).map PoQ) (DyQ (movD p d)) (DyQ (movD p e)) = reportD (ps.map PoQ) (DyQ d) (DyQ e) := by
  unfold reportD
  rw [mov_chk, PoQ_vals, PoQ_vals, DyQ_val, DyQ_val, DyQ_val, DyQ_val, mov_rdB, rot_rpt]
theorem mov_signs (ps : List Po) (p : Po) (d e : Dy) : signsD ((ps.map (fun q => thenF q p)).map PoQ) (DyQ (movD p d)) (DyQ (movD p e)) = signsD (ps.map PoQ) (DyQ d) (DyQ e) := by
  have : (ps.map (fun q => thenF q p)).map (sgnF (movD p d) (movD p e)) = ps.map (sgnF d e) := by
    rw [List.map_map]
    exact List.map_congr_left fun q _ => mov_sgn p q d e
  unfold signsD
  rw [mov_chk, PoQ_vals, PoQ_vals, DyQ_val, DyQ_val, DyQ_val, DyQ_val, this]
end Lift
namespace Lift
open Go Go.Proofs
theorem then_sz {q p : Po} {k : Nat} (hq : szP q ≤ k) (hp : szP p ≤ k) (h1 : 1 ≤ k) : szP (thenF q p) ≤ 11 * k + 10 := by
  have a := szT_add q.1 p.1
  have b := szV_app p q.2 hp (by unfold szP at hq; omega) h1
  unfold szP at hq hp
  show max (szT (addT q.1 p.1)) (szV (appF p q.2)) ≤ _
  omega
theorem mov_sz {d : Dy} {p : Po} {k : Nat} (hd : szD d ≤ k) (hp : szP p ≤ k) (h1 : 1 ≤ k) : szD (movD p d) ≤ 11 * k + 10 := by
  have hd := szD_1 hd
  have b := szV_app p d.1 hp hd.1 h1
  show max (szV (appF p d.1)) (max (szV d.2.1) (LQ d.2.2)) ≤ _
  omega
theorem signs_form {l : List PoD} {d e : DyD} (hl : l.length ≤ 20) : ∃ (S : List Int) (m : Nat), S.length ≤ 20 ∧ signsD l d e = .tu [.sl 1 (IL S), erV m] := by
  obtain ⟨S, m, h1, h2, _⟩ := signs_rev (l := l) (d := d) (e := e) hl
  exact ⟨S, m, h1, h2⟩
set_option maxHeartbeats 3200000 in
theorem law50_Moved_ok (l : List PoD) (d e : DyD) (p : PoD) (h : ok50 l d e) (hp : p.w 35184372087808) : Pure Tryz.prog 9 [PoL l, FourD d e, p.D] (dB true) := by
  refine Pure.intro (n := 165) tok Tryz.func9 rfl rfl rfl (Nat.le_of_ble_eq_true rfl) (by kernel_rfl) (fun B F0 w0 => ?_)
  have cA := law50_awake_ok
  have cS := law50_short_ok l d e h.1
  have cP := r17_Short_ok [p] (show 1 ≤ 4611686018427387904 by decide)
  have cV : Pure Tryz.prog 34 [p.D] (dB p.okB) ∨ short17 [p] = false := by
    cases hs : short17 [p] with
    | false => exact .inr rfl
    | true =>
      left
      exact pose_Valid_ok p (k := 6) (shP_w hp (by unfold short17 at hs; simpa using hs)) (by decide)
  refine AW.seq ?_
  refine AW.region ?_
  refine AOps.run tok 3 _ _ _ _ rfl ?_
  refine AOps.nil ?_
  refine AW.seq ?_
  refine AW.seq ?_
  refine AW.region ?_
  refine AOps.call tok rfl rfl rfl rfl cA ?_
  refine AOps.run tok 4 _ _ _ _ rfl ?_
  refine AOps.call tok rfl rfl rfl rfl cS ?_
  cases hs : shortB l d e with
  | false =>
    refine AOps.run tok 25 _ _ _ _ rfl ?_
    refine AOps.nil ?_
    refine AW.condT rfl ?_
    refine AW.seq ?_
    refine AW.region ?_
    refine AOps.call tok rfl rfl rfl rfl cA ?_
    refine AOps.run tok 1 _ _ _ _ rfl ?_
    refine AOps.nil ?_
    exact AW.ret rfl
  | true =>
  obtain ⟨hl, hw, hd, he⟩ := short_w h hs
  refine AOps.run tok 4 _ _ _ _ rfl ?_
  refine AOps.bsd tok rfl rfl rfl rfl rfl ?_
  refine AOps.call tok rfl rfl rfl rfl cP ?_
  cases hsp : short17 [p] with
  | false =>
    refine AOps.run tok 19 _ _ _ _ rfl ?_
    refine AOps.nil ?_
    refine AW.condT rfl ?_
    refine AW.seq ?_
    refine AW.region ?_
    refine AOps.call tok rfl rfl rfl rfl cA ?_
    refine AOps.run tok 1 _ _ _ _ rfl ?_
    refine AOps.nil ?_
    exact AW.ret rfl
  | true =>
  have cV := cV.resolve_right (by rw [hsp]; simp)
  have hpw : p.w 6 := shP_w hp (by unfold short17 at hsp; simpa using hsp)
  refine AOps.run tok 4 _ _ _ _ rfl ?_
  refine AOps.call tok rfl rfl rfl rfl cV ?_
  cases hpo : p.okB with
  | false =>
    refine AOps.run tok 14 _ _ _ _ rfl ?_
    refine AOps.nil ?_
    refine AW.condT rfl ?_
    refine AW.seq ?_
    refine AW.region ?_
    refine AOps.call tok rfl rfl rfl rfl cA ?_
    refine AOps.run tok 1 _ _ _ _ rfl ?_
    refine AOps.nil ?_
    exact AW.ret rfl
  | true =>
  have cD1 := r46_Dyad_ok d hd (by decide)
  have cD2 := r46_Dyad_ok e he (by decide)
  refine AOps.run tok 5 _ _ _ _ rfl ?_
  refine AOps.call tok rfl rfl rfl rfl cD1 ?_
  cases hdo : d.okB with
  | false =>
    refine AOps.run tok 8 _ _ _ _ rfl ?_
    refine AOps.nil ?_
    refine AW.condT rfl ?_
    refine AW.seq ?_
    refine AW.region ?_
    refine AOps.call tok rfl rfl rfl rfl cA ?_
    refine AOps.run tok 1 _ _ _ _ rfl ?_
    refine AOps.nil ?_
    exact AW.ret rfl
  | true =>
  refine AOps.run tok 5 _ _ _ _ rfl ?_
  refine AOps.call tok rfl rfl rfl rfl cD2 ?_
  cases heo : e.okB with
  | false =>
    refine AOps.run tok 2 _ _ _ _ rfl ?_
    refine AOps.nil ?_
    refine AW.condT rfl ?_
    refine AW.seq ?_
    refine AW.region ?_
    refine AOps.call tok rfl rfl rfl rfl cA ?_
    refine AOps.run tok 1 _ _ _ _ rfl ?_
    refine AOps.nil ?_
    exact AW.ret rfl
  | true =>
  refine AOps.run tok 2 _ _ _ _ rfl ?_
  refine AOps.nil ?_
  have zp := szP_val hpw (by decide)
  have zd := szD_val hd (by decide)
  have ze := szD_val he (by decide)
  have ep := PoD.canon hpw hpo
  have ed := DyD.canon hd hdo
  have ee := DyD.canon he heo
  generalize p.val = pv at zp ep
  generalize d.val = dv at zd ed
  generalize e.val = ev at ze ee
  subst ep
  subst ed
  subst ee
  clear cV cP cS cD1 cD2 hpo hdo heo hs hsp
  · refine AW.condF rfl ?_
    refine AW.skip ?_
    refine AW.seq ?_
    refine AW.region ?_
    refine AOps.run tok 1 _ _ _ _ rfl ?_
    refine AOps.nil ?_
    refine AW.seq ?_
    refine AW.seq ?_
    refine AW.region ?_
    refine AOps.run tok 2 _ _ _ _ rfl ?_
    rw [List.length_map]
    refine AOps.run tok 1 _ _ _ _ rfl ?_
    refine AOps.nil ?_
    refine AW.block ?_
    refine AW.loopS [0, 4, 5, 7, 57, 58, 59] (fun i : Nat => [(0, .d (PoL l)), (4, .bx ((DyQ dv).D.flat ++ (DyQ ev).D.flat)), (5, .bx (PoQ pv).D.flat), (7, .ow 52 ((l.take i).map (fun q => (PoQ (thenF q.val pv)).D))), (57, .d (PoL l)), (58, .d (dI l.length)), (59, .d (dI i))]) (fun i => i ≤ l.length ∧ ∀ j, j < i → (l.getD j default).okB = true) (fun i => l.length - i) 0 rfl ⟨Nat.zero_le _, fun j hj => absurd hj (Nat.not_lt_zero j)⟩ (fun i ⟨hi, hO⟩ => ?_)
    refine AW.seq ?_
    refine AW.region ?_
    refine AOps.run tok 1 _ _ _ _ rfl ?_
    refine AOps.nil ?_
    refine AW.seq ?_
    refine AW.cond rfl (fun h => ?_) (fun h => ?_)
    · have hii : i < l.length := by have := of_decide_eq_true h; omega
      have hg : (l.map PoD.D)[i]? = some (l.getD i default).D := by simp [hii]
      have htk := take_snocD l default hii
      have hol : (l.take i).length = i := by rw [List.length_take]; omega
      have cT := pose_Then_ok (l.getD i default) pv (k := 6) (hw i hii) zp (by decide) (by decide)
      have hOi : (l.getD i default).okB = true → ∀ j, j < i + 1 → (l.getD j default).okB = true := fun ho j hj => by
        by_cases e : j = i
        · rw [e]; exact ho
        · exact hO j (by omega)
      generalize l.getD i default = q at hg htk cT hOi
      unfold thenD at cT
      refine AW.skip ?_
      refine AW.seq ?_
      refine AW.block ?_
      refine AW.seq ?_
      refine AW.region ?_
      refine AOps.idx tok q.D rfl rfl rfl rfl (Int.natCast_nonneg i) hg ?_
      refine AOps.run tok 3 _ _ _ _ rfl ?_
      refine AOps.nil ?_
      refine AW.seq ?_
      refine AW.region ?_
      refine AOps.run tok 2 _ _ _ _ rfl ?_
      cases hq : q.okB with
      | false =>
        rw [hq, if_neg (by simp)] at cT
        refine AOps.call tok rfl rfl rfl rfl cT ?_
        refine AOps.run tok 6 _ _ _ _ rfl ?_
        refine AOps.nil ?_
        refine AW.seq ?_
        refine AW.seq ?_
        refine AW.region ?_
        refine AOps.run tok 1 _ _ _ _ rfl ?_
        refine AOps.err tok rfl rfl rfl rfl rfl ?_
        refine AOps.nil ?_
        refine AW.condT rfl ?_
        refine AW.seq ?_
        refine AW.region ?_
        refine AOps.run tok 1 _ _ _ _ rfl ?_
        refine AOps.nil ?_
        exact AW.ret rfl
      | true =>
      rw [hq, if_pos rfl] at cT
      refine AOps.call tok rfl rfl rfl rfl cT ?_
      refine AOps.run tok 6 _ _ _ _ rfl ?_
      refine AOps.nil ?_
      refine AW.seq ?_
      refine AW.seq ?_
      refine AW.region ?_
      refine AOps.run tok 1 _ _ _ _ rfl ?_
      refine AOps.err tok rfl rfl rfl rfl rfl ?_
      refine AOps.nil ?_
      refine AW.condF rfl ?_
      refine AW.skip ?_
      refine AW.region ?_
      refine AOps.run tok 2 _ _ _ _ rfl ?_
      refine AOps.bs tok rfl rfl rfl rfl ?_
      refine AOps.appo tok rfl rfl rfl rfl rfl rfl (by rw [List.length_map, hol]; show (_ + 1) * 176 ≤ _; omega) (by rw [List.length_map, hol]; show _ + 1 ≤ _; omega) ?_
      refine AOps.run tok 1 _ _ _ _ rfl ?_
      refine AOps.nil ?_
      refine AW.region ?_
      refine AOps.run tok 1 _ _ _ _ rfl ?_
      rw [wI64 (x := (i : Int) + 1) (by omega) (by omega)]
      refine AOps.run tok 1 _ _ _ _ rfl ?_
      refine AOps.nil ?_
      exact ⟨i + 1, by rw [htk, List.map_append]; rfl, ⟨hii, hOi hq⟩, by omega⟩
    have hii : i = l.length := by have := of_decide_eq_false h; omega
    subst hii
    have hpo : posOk l = true := by
      cases hv : posOk l with
      | true => rfl
      | false =>
        unfold posOk at hv
        rw [List.all_eq_false] at hv
        obtain ⟨x, hx, hxo⟩ := hv
        obtain ⟨j, hj, e⟩ := List.getElem_of_mem hx
        have := hO j hj
        rw [List.getD_eq_getElem?_getD, List.getElem?_eq_getElem hj] at this
        exact absurd (by rw [← e]; exact this) hxo
    have el := PoL_canon hw hpo
    have zl := szL_val hw (by decide)
    have hml : (l.map PoD.val).length = l.length := List.length_map ..
    have eM : (l.take l.length).map (fun q => (PoQ (thenF q.val pv)).D) = (((l.map PoD.val).map (fun q => thenF q pv)).map PoQ).map PoD.D := by
      rw [List.take_length, List.map_map, List.map_map, List.map_map]; rfl
    rw [eM]
    have c1 := defects_Signs_ok l (DyQ dv) (DyQ ev) (k := 6) (by omega) hw hd he (by decide) (by decide)
    have c3 := defects_Report_ok l (DyQ dv) (DyQ ev) (k := 6) (by omega) hw hd he (by decide) (by decide)
    obtain ⟨S, m, hS, e1⟩ := signs_form (l := l) (d := DyQ dv) (e := DyQ ev) hl
    obtain ⟨x, y, z, m2, e3⟩ := report_form l (DyQ dv) (DyQ ev)
    have e2 := mov_signs (l.map PoD.val) pv dv ev
    have e4 := mov_report (l.map PoD.val) pv dv ev
    rw [← el] at e2 e4
    rw [e1] at c1 e2
    rw [e3] at c3 e4
    have hMl : (((l.map PoD.val).map (fun q => thenF q pv)).map PoQ).length = l.length := by simp only [List.length_map]
    have wM : ∀ i, i < (((l.map PoD.val).map (fun q => thenF q pv)).map PoQ).length → ((((l.map PoD.val).map (fun q => thenF q pv)).map PoQ).getD i default).w 76 := fun i hi => by
      have hi2 : i < (l.map PoD.val).length := by omega
      have zq := zl i hi2
      rw [List.getD_eq_getElem?_getD, List.getElem?_map, List.getElem?_map, List.getElem?_eq_getElem hi2]
      rw [List.getD_eq_getElem?_getD, List.getElem?_eq_getElem hi2] at zq
      exact PoQ_w (then_sz (k := 6) zq zp (by decide))
    have zd' := DyQ_w (mov_sz zd zp (by decide))
    have ze' := DyQ_w (mov_sz ze zp (by decide))
    have c2 := defects_Signs_ok _ (DyQ (movD pv dv)) (DyQ (movD pv ev)) (k := 76) (by omega) wM zd' ze' (by decide) (by decide)
    have c4 := defects_Report_ok _ (DyQ (movD pv dv)) (DyQ (movD pv ev)) (k := 76) (by omega) wM zd' ze' (by decide) (by decide)
    rw [e2] at c2
    rw [e4] at c4
    clear e1 e2 e3 e4 el eM
    have zd1 := szD_1 zd
    have ze1 := szD_1 ze
    have a1 := pose_Apply_ok pv dv.1 (k := 6) zp zd1.1 (by decide) (by decide)
    have a2 := pose_Apply_ok pv ev.1 (k := 6) zp ze1.1 (by decide) (by decide)
    have ed : DyQ (movD pv dv) = DyQ (appF pv dv.1, dv.2.1, dv.2.2) := rfl
    have ee : DyQ (movD pv ev) = DyQ (appF pv ev.1, ev.2.1, ev.2.2) := rfl
    rw [ed, ee] at c2 c4
    generalize appF pv dv.1 = da at a1 c2 c4
    generalize appF pv ev.1 = ea at a2 c2 c4
    generalize ((l.map PoD.val).map (fun q => thenF q pv)).map PoQ = M at c2 c4
    · refine AW.exit ?_
      refine AW.seq ?_
      refine AW.region ?_
      refine AOps.frz tok 7 rfl rfl ?_
      refine AOps.run tok 3 _ _ _ _ rfl ?_
      refine AOps.nil ?_
      refine AW.seq ?_
      refine AW.region ?_
      refine AOps.run tok 4 _ _ _ _ rfl ?_
      refine AOps.call tok rfl rfl rfl rfl a1 ?_
      refine AOps.run tok 6 _ _ _ _ rfl ?_
      refine AOps.nil ?_
      refine AW.seq ?_
      refine AW.region ?_
      refine AOps.run tok 4 _ _ _ _ rfl ?_
      refine AOps.call tok rfl rfl rfl rfl a2 ?_
      refine AOps.run tok 6 _ _ _ _ rfl ?_
      refine AOps.nil ?_
      refine AW.seq ?_
      refine AW.draw3 tok hmix [(1, true), (1, false), (2, true)] 4 [12] (by kernel_rfl) ⟨rfl, ?_⟩
      refine APre.run tok 1 _ _ _ _ rfl ?_
      refine APre.nil ⟨rfl, ?_⟩
      refine APre.run tok 1 _ _ _ _ rfl ?_
      refine APre.nil ⟨rfl, ?_⟩
      refine APre.run tok 2 _ _ _ _ rfl ?_
      refine APre.nil ⟨_, StL.cons (.bx rfl) StL.nil, ?_⟩
      refine AOps.run tok 3 _ _ _ _ rfl ?_
      refine AOps.nil ?_
      refine AW.seq ?_
      refine AW.region ?_
      refine AOps.run tok 5 _ _ _ _ rfl ?_
      refine AOps.call tok rfl rfl rfl rfl c1 ?_
      refine AOps.run tok 5 _ _ _ _ rfl ?_
      refine AOps.nil ?_
      refine AW.seq ?_
      refine AW.region ?_
      refine AOps.run tok 5 _ _ _ _ rfl ?_
      refine AOps.call tok rfl rfl rfl rfl c2 ?_
      refine AOps.run tok 5 _ _ _ _ rfl ?_
      refine AOps.nil ?_
      refine AW.seq ?_
      refine AW.region ?_
      refine AOps.run tok 5 _ _ _ _ rfl ?_
      refine AOps.call tok rfl rfl rfl rfl c3 ?_
      refine AOps.run tok 6 _ _ _ _ rfl ?_
      refine AOps.nil ?_
      refine AW.seq ?_
      refine AW.region ?_
      refine AOps.run tok 5 _ _ _ _ rfl ?_
      refine AOps.call tok rfl rfl rfl rfl c4 ?_
      refine AOps.run tok 6 _ _ _ _ rfl ?_
      refine AOps.nil ?_
      refine AW.seq ?_
      refine AW.region ?_
      refine AOps.run tok 1 _ _ _ _ rfl ?_
      refine AOps.err tok rfl rfl rfl rfl rfl ?_
      refine AOps.run tok 2 _ _ _ _ rfl ?_
      refine AOps.err tok rfl rfl rfl rfl rfl ?_
      refine AOps.run tok 3 _ _ _ _ rfl ?_
      refine AOps.call tok rfl rfl rfl rfl (base_Num_ok m) ?_
      refine AOps.run tok 1 _ _ _ _ rfl ?_
      refine AOps.call tok rfl rfl rfl rfl (base_Num_ok m) ?_
      refine AOps.run tok 1 _ _ _ _ rfl ?_
      rw [beq_iff_eq.2 rfl]
      refine AOps.run tok 3 _ _ _ _ rfl ?_
      refine AOps.call tok rfl rfl rfl rfl (base_Num_ok m2) ?_
      refine AOps.run tok 1 _ _ _ _ rfl ?_
      refine AOps.call tok rfl rfl rfl rfl (base_Num_ok m2) ?_
      refine AOps.run tok 1 _ _ _ _ rfl ?_
      rw [beq_iff_eq.2 rfl]
      refine AOps.run tok 4 _ _ _ _ rfl ?_
      refine AOps.call tok rfl rfl rfl rfl (base_Ints_ok S S (by omega)) ?_
      rw [decide_eq_true rfl]
      refine AOps.run tok 4 _ _ _ _ rfl ?_
      refine AOps.se3 tok rfl rfl rfl rfl (by kernel_rfl) ?_
      rw [show (((x, y, z) == (x, y, z)) == true) = true by cases x <;> cases y <;> cases z <;> rfl]
      refine AOps.run tok 2 _ _ _ _ rfl ?_
      refine AOps.nil ?_
      exact AW.ret rfl
end Lift
