/- Parts of the proof, one behind the other: the logic, the contracts of the functions that the statement reaches. -/
import Derived.Test.YtockcpjjfcdopaaGreatGwE
set_option linter.unusedVariables false
set_option linter.unusedSimpArgs false
/- Verify. -/
namespace Lift
open Go Go.Proofs

def vlF (l : List RD) (i : Nat) : Nat := if (l.getD i default).okB = false then 3 else 0
/-- The number of the error of a train and speeds; 0 if there is none. -/
def verE (x : Trn) (l : List RD) : Nat := if chkT x ≠ 0 then chkT x else if (l.length : Int) ≠ x.n then 10 else fE (vlF l) l.length 0
/-- A row's left side, of its first i numbers, less its right side. -/
def svM (M : Mx) (n : Nat) (l : List RD) (j i : Nat) : Rat := sumN i (fun c => M j c * (l.getD c default).val) - M j n
def verB (x : Trn) (l : List RD) : Bool := !anyF (fun j => nz (svM (fM (rowsM x)) x.n.toNat l j x.n.toNat)) (rowsM x).length 0
def verT (x : Trn) (l : List RD) : D := if verE x l = 0 then .tu [dB (verB x l), nilE] else .tu [dB false, erV (verE x l)]
theorem anyF_all {g : Nat → Bool} : ∀ {m i : Nat}, (∀ k, i ≤ k → k < i + m → g k = false) → anyF g m i = false
  | 0, _, _ => rfl
  | m + 1, i, h => by
    rw [anyF, h i (Nat.le_refl _) (by omega), anyF_all (m := m) (i := i + 1) (fun k h1 h2 => h k (by omega) (by omega))]; rfl
theorem verB_iff (x : Trn) (l : List RD) : verB x l = true ↔ Sol (rowsM x).length x.n.toNat (fM (rowsM x)) (fun c => (l.getD c default).val) := by
  unfold verB
  rw [Bool.not_eq_true']
  constructor
  · intro h j hj
    have := anyF_no h j (Nat.zero_le _) (by omega)
    have := of_decide_eq_false this
    unfold eqn
    unfold svM at this
    grind
  · intro h
    refine anyF_all fun j _ hj => ?_
    have := h j (by omega)
    unfold eqn at this
    refine decide_eq_false ?_
    unfold svM
    grind
theorem svM_zero (M : Mx) (n : Nat) (l : List RD) (j : Nat) : svM M n l j 0 = -(M j n) := by
  unfold svM; rw [sumN]; grind
theorem svM_step (M : Mx) (n : Nat) (l : List RD) (j i : Nat) : svM M n l j (i + 1) = svM M n l j i + M j i * (l.getD i default).val := by
  unfold svM; rw [sumN]; grind
set_option maxHeartbeats 3200000 in
theorem gear_Verify_ok (x : Trn) (l : List RD) {k kk : Nat} (hw : x.w kk) (hkk : kk ≤ 10) (hl : ∀ i, (l.getD i default).w k) (hk1 : 1 ≤ k) (hk : k ≤ 1000000) (hlen : l.length ≤ 1000000) : Pure Tryz.prog 18 [x.D, .sl 3 (l.map RD.D)] (verT x l) := by
  refine Pure.intro (n := 69) tok Tryz.func18 rfl rfl rfl (Nat.le_of_ble_eq_true rfl) (by kernel_rfl) (fun B F0 w0 => ?_)
  have cC := gear_check_ok x hw (by omega)
  refine AW.seq ?_
  refine AW.region ?_
  refine AOps.run tok 3 _ _ _ _ rfl ?_
  refine AOps.nil ?_
  refine AW.seq ?_
  refine AW.seq ?_
  refine AW.region ?_
  refine AOps.run tok 1 _ _ _ _ rfl ?_
  rcases hE : chkT x with _ | m
  rotate_left
  · rw [hE] at cC
    have e : verE x l = m + 1 := by unfold verE; rw [if_pos (by omega), hE]
    rw [show verT x l = .tu [dB false, erV (m + 1)] by unfold verT; rw [e]; rfl]
    refine AOps.call tok rfl rfl rfl rfl cC ?_
    refine AOps.run tok 1 _ _ _ _ rfl ?_
    refine AOps.nil ?_
    refine AW.seq ?_
    refine AW.region ?_
    refine AOps.run tok 1 _ _ _ _ rfl ?_
    refine AOps.err tok rfl rfl rfl rfl rfl ?_
    refine AOps.nil ?_
    refine AW.condT rfl ?_
    refine AW.seq ?_
    refine AW.region ?_
    refine AOps.run tok 3 _ _ _ _ rfl ?_
    refine AOps.nil ?_
    exact AW.ret rfl
  rw [hE] at cC
  have hT := chkT_ok hE
  have hrows := gear_rows_ok x hw hE
  have hsz := rowsM_sz hw hkk hT
  have hrect := rowsM_rect hT
  have hrl := rowsM_len hT
  have n1 := hT.n1
  have n2 := hT.n2
  have hvB : verB x l = !anyF (fun j => nz (svM (fM (rowsM x)) x.n.toNat l j x.n.toNat)) (rowsM x).length 0 := rfl
  have hvE : verE x l = if (l.length : Int) ≠ x.n then 10 else fE (vlF l) l.length 0 := by unfold verE; rw [if_neg (by omega)]
  have hvT : verT x l = if verE x l = 0 then .tu [dB (verB x l), nilE] else .tu [dB false, erV (verE x l)] := rfl
  generalize verE x l = E at hvE hvT
  generalize verB x l = VB at hvB hvT
  rw [hvT]
  clear hvT
  obtain ⟨N, hN⟩ : ∃ N : Nat, x.n = N := ⟨x.n.toNat, by omega⟩
  rw [show x.n.toNat = N by omega] at hrect hvB
  rw [hN] at n1 n2 hvE
  clear hT hE
  generalize hA : rowsM x = a at hrows hsz hrect hrl hvB
  obtain ⟨n, ms, ps, gs⟩ := x
  dsimp only at hN
  subst hN
  refine AOps.call tok rfl rfl rfl rfl cC ?_
  refine AOps.run tok 1 _ _ _ _ rfl ?_
  refine AOps.nil ?_
  refine AW.seq ?_
  refine AW.region ?_
  refine AOps.run tok 1 _ _ _ _ rfl ?_
  refine AOps.err tok rfl rfl rfl rfl rfl ?_
  refine AOps.nil ?_
  refine AW.condF rfl ?_
  refine AW.skip ?_
  refine AW.seq ?_
  refine AW.seq ?_
  refine AW.region ?_
  refine AOps.run tok 5 _ _ _ _ rfl ?_
  rw [List.length_map]
  refine AOps.nil ?_
  refine AW.cond rfl (fun h => ?_) (fun h => ?_)
  · have hne : (l.length : Int) ≠ N := by simpa using h
    rw [if_pos hne] at hvE
    rw [hvE, if_neg (by decide)]
    refine AW.seq ?_
    refine AW.region ?_
    refine AOps.run tok 3 _ _ _ _ rfl ?_
    refine AOps.nil ?_
    exact AW.ret rfl
  have hlN : l.length = N := by have : (l.length : Int) = N := by simpa using h
                                omega
  rw [if_neg (by simpa using h)] at hvE
  refine AW.skip ?_
  refine AW.seq ?_
  refine AW.seq ?_
  refine AW.region ?_
  refine AOps.run tok 3 _ _ _ _ rfl ?_
  rw [List.length_map]
  refine AOps.nil ?_
  refine AW.block ?_
  refine AW.loopS [1, 2, 4, 5, 25, 26, 27] (fun i : Nat => [(1, .d (.sl 3 (l.map RD.D))), (2, .bx [dI N, MshsD ms, PltsD ps, SpdsD gs]), (4, .d (dB false)), (5, .d nilE), (25, .d (.sl 3 (l.map RD.D))), (26, .d (dI l.length)), (27, .d (dI i))])
    (fun i => i ≤ l.length ∧ E = fE (vlF l) (l.length - i) i) (fun i => l.length - i) 0 rfl ⟨Nat.zero_le _, hvE⟩ (fun i hi => ?_)
  obtain ⟨hi, hei⟩ := hi
  show AW _ _ _ _ _ _ _ [(1, .d (.sl 3 (l.map RD.D))), (2, .bx [dI N, MshsD ms, PltsD ps, SpdsD gs]), (4, .d (dB false)), (5, .d nilE), (25, .d (.sl 3 (l.map RD.D))), (26, .d (dI l.length)), (27, .d (dI i))]
  refine AW.seq ?_
  refine AW.region ?_
  refine AOps.run tok 1 _ _ _ _ rfl ?_
  refine AOps.nil ?_
  refine AW.seq ?_
  refine AW.cond rfl (fun h => ?_) (fun h => ?_)
  · have hin : i < l.length := by have := of_decide_eq_true h; omega
    have hhit := fE_hit (f := vlF l) hin
    have hmiss := fE_miss (f := vlF l) hin
    have hvl : vlF l i = if (l.getD i default).okB = false then 3 else 0 := rfl
    have cV := fraction_Valid_ok (l.getD i default) (hl i) (by omega)
    refine AW.skip ?_
    refine AW.seq ?_
    refine AW.block ?_
    refine AW.seq ?_
    refine AW.region ?_
    refine AOps.idx tok (l.getD i default).D rfl rfl rfl rfl (Int.natCast_nonneg i) (getM RD.D hin) ?_
    refine AOps.run tok 3 _ _ _ _ rfl ?_
    refine AOps.nil ?_
    refine AW.seq ?_
    refine AW.region ?_
    refine AOps.run tok 1 _ _ _ _ rfl ?_
    rcases hok : (l.getD i default).okB with _ | _
    · rw [hok] at cV
      have e : E = 3 := by rw [hei, hhit (by rw [hvl, if_pos hok]; decide), hvl, if_pos hok]
      rw [e, if_neg (by decide)]
      refine AOps.call tok rfl rfl rfl rfl cV ?_
      refine AOps.run tok 1 _ _ _ _ rfl ?_
      refine AOps.nil ?_
      refine AW.condT rfl ?_
      refine AW.seq ?_
      refine AW.region ?_
      refine AOps.run tok 3 _ _ _ _ rfl ?_
      refine AOps.nil ?_
      exact AW.ret rfl
    rw [hok] at cV
    have hm0 := hmiss (by rw [hvl, if_neg (by rw [hok]; simp)])
    refine AOps.call tok rfl rfl rfl rfl cV ?_
    refine AOps.run tok 1 _ _ _ _ rfl ?_
    refine AOps.nil ?_
    refine AW.condF rfl ?_
    refine AW.skip ?_
    refine AW.region ?_
    refine AOps.run tok 2 _ _ _ _ rfl ?_
    rw [wI64 (x := (i : Int) + 1) (by omega) (by omega)]
    refine AOps.nil ?_
    exact ⟨i + 1, rfl, ⟨hin, by rw [hei, hm0]⟩, by omega⟩
  have hin : ¬ i < l.length := by have := of_decide_eq_false h; omega
  have e : E = 0 := by rw [hei, fE_end hin]
  rw [if_pos e]
  clear hei e hvE
  refine AW.exit ?_
  refine AZ.aw ?_
  refine AZ.to [1, 2, 4, 5] [(1, .d (.sl 3 (l.map RD.D))), (2, .bx [dI N, MshsD ms, PltsD ps, SpdsD gs]), (4, .d (dB false)), (5, .d nilE)] rfl ?_
  refine AZ.seq ?_
  refine AZ.seq ?_
  refine AZ.region ?_
  refine AZOps.cut 1 rfl (fun B1 F1 w1 => ?_)
  refine AOps.run tok 1 _ _ _ _ rfl ?_
  refine AOps.nil ⟨rfl, ?_⟩
  refine AZOps.callz tok [] rfl rfl rfl rfl rfl List.nodup_nil rfl hrows (fun _ _ _ => Nat.zero_le _) (fun res R1 hP => ?_)
  obtain ⟨V0, Vs, hV, rfl, rfl⟩ := hP
  rw [show updR [] [] (LRs Vs a ++ [(V0, AV.ow 29 (VsD Vs))]) = LRs Vs a ++ [(V0, AV.ow 29 (VsD Vs))] from by cases LRs Vs a <;> rfl]
  refine AZOps.adopt 37 (LRs Vs a).length (V := V0) (av := AV.ow 29 (VsD Vs)) (by rw [List.getElem?_append_right (Nat.le_refl _), Nat.sub_self]; rfl) rfl rfl ?_
  rw [show (LRs Vs a ++ [(V0, AV.ow 29 (VsD Vs))]).set (LRs Vs a).length (V0, AV.junk) = LRs Vs a ++ [(V0, AV.junk)] by simp]
  refine AZOps.to [37, 1, 2, 4, 5] [(37, .ow 29 (VsD Vs)), (1, .d (.sl 3 (l.map RD.D))), (2, .bx [dI N, MshsD ms, PltsD ps, SpdsD gs]), (4, .d (dB false)), (5, .d nilE)] rfl ?_
  refine AZOps.cut 2 rfl (fun B1 F1 w1 => ?_)
  refine AOps.run tok 2 _ _ _ _ rfl ?_
  rw [List.length_map, hV]
  refine AOps.nil ⟨rfl, ?_⟩
  refine AZOps.nil ?_
  refine AZ.dropA ?_
  refine AZ.frameS (fun B1 F1 w1 hS => ?_)
  refine AW.block ?_
  refine AW.loopS [1, 2, 4, 5, 37, 38, 39] (fun j : Nat => [(1, .d (.sl 3 (l.map RD.D))), (2, .bx [dI N, MshsD ms, PltsD ps, SpdsD gs]), (4, .d (dB false)), (5, .d nilE), (37, .ow 29 (VsD Vs)), (38, .d (dI a.length)), (39, .d (dI j))])
    (fun j => j ≤ a.length ∧ VB = !anyF (fun j => nz (svM (fM a) N l j N)) (a.length - j) j) (fun j => a.length - j) 0 rfl ⟨Nat.zero_le _, hvB⟩ (fun j hj => ?_)
  obtain ⟨hj, hvj⟩ := hj
  show AW _ _ _ _ _ _ _ [(1, .d (.sl 3 (l.map RD.D))), (2, .bx [dI N, MshsD ms, PltsD ps, SpdsD gs]), (4, .d (dB false)), (5, .d nilE), (37, .ow 29 (VsD Vs)), (38, .d (dI a.length)), (39, .d (dI j))]
  refine AW.seq ?_
  refine AW.region ?_
  refine AOps.run tok 1 _ _ _ _ rfl ?_
  refine AOps.nil ?_
  refine AW.seq ?_
  refine AW.cond rfl (fun h => ?_) (fun h => ?_)
  · have hja : j < a.length := by have := of_decide_eq_true h; omega
    have hrj := hrect.get hja
    have hS1 := hS.at (LRs_get (Vs := Vs) (by omega) hja) (by rw [List.length_map, hrj]; omega)
    have hhit := anyF_hit (f := fun j => nz (svM (fM a) N l j N)) hja
    have hmiss := anyF_miss (f := fun j => nz (svM (fM a) N l j N)) hja
    refine AW.skip ?_
    refine AW.seq ?_
    refine AW.block ?_
    refine AW.seq ?_
    refine AW.region ?_
    refine AOps.idxo tok rfl rfl rfl rfl (Int.natCast_nonneg j) (by rw [List.length_map]; omega) ?_
    refine AOps.loadel tok (.v (Vs.getD j undef)) rfl rfl rfl rfl (getVs (by omega)) rfl ?_
    refine AOps.run tok 1 _ _ _ _ rfl ?_
    refine AOps.nil ?_
    refine AW.seq ?_
    refine AW.region ?_
    refine AOps.run tok 3 _ _ _ _ rfl ?_
    refine AOps.idxs tok hS1 rfl rfl rfl rfl (Int.natCast_nonneg N) (by rw [List.length_map, hrj]; omega) ?_
    refine AOps.loads tok (Qr (fM a j N)).D hS1 rfl rfl rfl rfl rfl rfl (getQ (by rw [hrj]; omega)) rfl ?_
    refine AOps.call tok rfl rfl rfl rfl (fraction_Neg_ok (Qr (fM a j N)) (k := Xs 0) (Qr_w _ (hsz.lq j N)) (by decide)) ?_
    rw [Qr_val, ← svM_zero (fM a) N l j]
    refine AOps.run tok 2 _ _ _ _ rfl ?_
    refine AOps.nil ?_
    refine AW.seq ?_
    refine AW.seq ?_
    refine AW.region ?_
    refine AOps.run tok 3 _ _ _ _ rfl ?_
    rw [List.length_map]
    refine AOps.nil ?_
    refine AW.block ?_
    refine AW.loopS [1, 2, 4, 5, 10, 11, 37, 38, 39, 49, 50, 51] (fun i : Nat => [(1, .d (.sl 3 (l.map RD.D))), (2, .bx [dI N, MshsD ms, PltsD ps, SpdsD gs]), (4, .d (dB false)), (5, .d nilE), (10, .d (.v (Vs.getD j undef))), (11, .bx (Qr (svM (fM a) N l j i)).D.flat), (37, .ow 29 (VsD Vs)), (38, .d (dI a.length)), (39, .d (dI j)), (49, .d (.sl 3 (l.map RD.D))), (50, .d (dI l.length)), (51, .d (dI i))])
      (fun i => i ≤ l.length ∧ LQ (svM (fM a) N l j i) ≤ 10 + i * 1000011) (fun i => l.length - i) 0 rfl ⟨Nat.zero_le _, by rw [svM_zero, LQ_neg]; exact hsz.lq j N⟩ (fun i hi => ?_)
    obtain ⟨hi, hsi⟩ := hi
    show AW _ _ _ _ _ _ _ [(1, .d (.sl 3 (l.map RD.D))), (2, .bx [dI N, MshsD ms, PltsD ps, SpdsD gs]), (4, .d (dB false)), (5, .d nilE), (10, .d (.v (Vs.getD j undef))), (11, .bx (Qr (svM (fM a) N l j i)).D.flat), (37, .ow 29 (VsD Vs)), (38, .d (dI a.length)), (39, .d (dI j)), (49, .d (.sl 3 (l.map RD.D))), (50, .d (dI l.length)), (51, .d (dI i))]
    refine AW.seq ?_
    refine AW.region ?_
    refine AOps.run tok 1 _ _ _ _ rfl ?_
    refine AOps.nil ?_
    refine AW.seq ?_
    refine AW.cond rfl (fun h => ?_) (fun h => ?_)
    · have hin : i < l.length := by have := of_decide_eq_true h; omega
      have hst := svM_step (fM a) N l j i
      have q1 := hsz.lq j i
      rw [show Xs 0 = 10 from rfl] at q1
      have q2 := LQ_val (hl i) hk1
      have q3 := LQ_mul (fM a j i) (l.getD i default).val
      have q4 := LQ_add (svM (fM a) N l j i) (fM a j i * (l.getD i default).val)
      have q5 : i * 1000011 ≤ 15 * 1000011 := Nat.mul_le_mul (by omega) (Nat.le_refl _)
      refine AW.skip ?_
      refine AW.seq ?_
      refine AW.block ?_
      refine AW.seq ?_
      refine AW.region ?_
      refine AOps.run tok 1 _ _ _ _ rfl ?_
      refine AOps.idx tok (l.getD i default).D rfl rfl rfl rfl (Int.natCast_nonneg i) (getM RD.D hin) ?_
      refine AOps.run tok 4 _ _ _ _ rfl ?_
      refine AOps.nil ?_
      refine AW.draw hmix 8 (by kernel_rfl) ?_
      refine APre.run tok 3 _ _ _ _ rfl ?_
      refine APre.idxs tok hS1 rfl rfl rfl rfl rfl (Int.natCast_nonneg i) (by rw [List.length_map, hrj]; omega) ?_
      refine APre.loads tok (Qr (fM a j i)).D hS1 rfl rfl rfl rfl rfl rfl rfl (getQ (by rw [hrj]; omega)) rfl ?_
      refine APre.run tok 1 _ _ _ _ rfl ?_
      refine APre.call tok rfl rfl rfl rfl rfl (fraction_Mul_ok (Qr (fM a j i)) (l.getD i default) (k := 1000000) (Qr_w _ (by omega)) ((hl i).mono hk) (by decide)) ?_
      rw [Qr_val]
      refine APre.call tok rfl rfl rfl rfl rfl (fraction_Add_ok (Qr (svM (fM a) N l j i)) (Qr (fM a j i * (l.getD i default).val)) (k := 20000000) (Qr_w _ (by omega)) (Qr_w _ (by omega)) (by decide)) ?_
      rw [Qr_val, Qr_val, ← hst]
      refine APre.nil ?_
      refine AOps.run tok 1 _ _ _ _ rfl ?_
      refine AOps.nil ?_
      refine AW.region ?_
      refine AOps.run tok 2 _ _ _ _ rfl ?_
      rw [wI64 (x := (i : Int) + 1) (by omega) (by omega)]
      refine AOps.nil ?_
      exact ⟨i + 1, rfl, ⟨hin, by rw [hst]; omega⟩, by omega⟩
    have hin : i = N := by have := of_decide_eq_false h; omega
    subst hin
    have q5 : i * 1000011 ≤ 16 * 1000011 := Nat.mul_le_mul (by omega) (Nat.le_refl _)
    refine AW.exit ?_
    refine AW.seq ?_
    refine AW.region ?_
    refine AOps.run tok 1 _ _ _ _ rfl ?_
    refine AOps.call tok rfl rfl rfl rfl (fraction_Sign_ok (Qr (svM (fM a) i l j i)) (k := 20000000) (Qr_w _ (by omega)) (by decide)) ?_
    rw [Qr_val]
    refine AOps.run tok 1 _ _ _ _ rfl ?_
    refine AOps.nil ?_
    refine AW.cond rfl (fun h => ?_) (fun h => ?_)
    · have h : nz (svM (fM a) i l j i) = true := by
        refine decide_eq_true fun e => ?_
        rw [e] at h
        cases h
      rw [hvj, hhit h]
      refine AW.seq ?_
      refine AW.region ?_
      refine AOps.run tok 2 _ _ _ _ rfl ?_
      refine AOps.nil ?_
      exact AW.ret ⟨rfl, rfl⟩
    · have h : nz (svM (fM a) i l j i) = false := by
        refine decide_eq_false fun hne => hne (sgI0.1 ?_)
        simpa using h
      refine AW.skip ?_
      refine AW.region ?_
      refine AOps.run tok 2 _ _ _ _ rfl ?_
      rw [wI64 (x := (j : Int) + 1) (by omega) (by omega)]
      refine AOps.nil ?_
      exact ⟨j + 1, rfl, ⟨hja, by rw [hvj, hmiss h]⟩, by omega⟩
  have hja : ¬ j < a.length := by have := of_decide_eq_false h; omega
  rw [hvj, anyF_end hja]
  refine AW.exit ?_
  refine ⟨rfl, ?_⟩
  refine AZ.seq ?_
  refine AZ.reg (fun B1 F1 w1 => ?_)
  refine AOps.run tok 2 _ _ _ _ rfl ?_
  refine AOps.nil ⟨rfl, ?_⟩
  exact AZ.ret rfl
end Lift
/- The reference's equations agree with the program's rows; has. -/
namespace Lift
open Go Go.Proofs

abbrev NsD (l : List Int) : D := .sl 1 (l.map (fun n => dI n))
theorem getN {l : List Int} {i : Nat} (h : i < l.length) : (l.map (fun n => dI n))[i]? = some (dI (l.getD i 0)) := by simp [h]
def RelQ (p : List Rat → List Rat × Rat → Prop) : Mt → Eqs → Prop
  | [], [] => True
  | a :: l, b :: m => p a b ∧ RelQ p l m
  | _, _ => False
theorem RelQ.app {p : List Rat → List Rat × Rat → Prop} : ∀ {a c : Mt} {b d : Eqs}, RelQ p a b → RelQ p c d → RelQ p (a ++ c) (b ++ d)
  | [], _, [], _, _, h => h
  | [], _, _ :: _, _, h, _ => by cases h
  | _ :: _, _, [], _, h, _ => by cases h
  | _ :: _, _, _ :: _, _, h, g => ⟨h.1, RelQ.app h.2 g⟩
theorem RelQ.map {α : Type} [Inhabited α] {p : List Rat → List Rat × Rat → Prop} {f : α → List Rat} {g : α → List Rat × Rat} : ∀ {l : List α}, (∀ i, i < l.length → p (f (l.getD i default)) (g (l.getD i default))) → RelQ p (l.map f) (l.map g)
  | [], _ => trivial
  | a :: l, h => ⟨h 0 (by simp), RelQ.map (fun i hi => by have := h (i + 1) (by simp; omega); simpa using this)⟩
theorem RelQ.get {p : List Rat → List Rat × Rat → Prop} : ∀ {a : Mt} {b : Eqs}, RelQ p a b → a.length = b.length ∧ ∀ j, j < a.length → p (a.getD j []) (gE b j)
  | [], [], _ => ⟨rfl, fun j h => by simp at h⟩
  | [], _ :: _, h => by cases h
  | _ :: _, [], h => by cases h
  | x :: a, y :: b, h => by
    have ih := RelQ.get h.2
    refine ⟨by simp [ih.1], fun j hj => ?_⟩
    cases j with
    | zero => simpa [gE] using h.1
    | succ j => have := ih.2 j (by simpa using hj); simpa [gE] using this
/-- A row of the program's and an equation of the reference's say the same. -/
def RE (n : Nat) (r : List Rat) (e : List Rat × Rat) : Prop := e.1.length = n ∧ ∀ c, c ≤ n → r.getD c 0 = cE e c
theorem zrE_get (n : Int) (c : Nat) : (zrE n).getD c 0 = 0 := by unfold zrE; rw [zrR_get]; rfl
theorem addE_new {r : List Rat} {i z : Int} {c : Nat} (h : i.toNat < r.length) (h0 : r.getD i.toNat 0 = 0) : (addE r i z).getD c 0 = if c = i.toNat then (z : Rat) else r.getD c 0 := by
  rw [addE_get h, h0, Rat.zero_add]
theorem re_M {n : Int} {m : Msh} (h1 : 1 ≤ n) (h : mshE n m = 0) : RE n.toNat (rwM n m) (eqM n m) := by
  have hm := mshE_ok h
  have zl := zrE_len h1
  obtain ⟨⟨a1, a2⟩, ⟨b1, b2⟩, hab, _⟩ := hm
  have l1 : (addE (zrE n) m.a m.ta).length = n.toNat := by rw [addE_len]; exact zl
  have g1 : ∀ c, (addE (zrE n) m.a m.ta).getD c 0 = if c = m.a.toNat then (m.ta : Rat) else 0 := fun c => by rw [addE_new (by omega) (zrE_get _ _), zrE_get]
  refine ⟨by unfold eqM; rw [addE_len]; exact l1, fun c hc => ?_⟩
  rw [rwM_f h1 h]
  unfold cE eqM
  simp only [addE_len, zl]
  by_cases hcn : c < n.toNat
  · rw [if_pos hcn, addE_new (by omega) (by rw [g1, if_neg (by omega)]), g1]
  · rw [if_neg hcn, if_neg (by omega), if_neg (by omega)]
theorem re_P {n : Int} {m : Plt} (h1 : 1 ≤ n) (h : pltE n m = 0) : RE n.toNat (rwP n m) (eqP n m) := by
  have hm := pltE_ok h
  have zl := zrE_len h1
  obtain ⟨⟨a1, a2⟩, ⟨b1, b2⟩, ⟨e1, e2⟩, hab, _⟩ := hm
  have l1 : (addE (zrE n) m.s m.ts).length = n.toNat := by rw [addE_len]; exact zl
  have l2 : (addE (addE (zrE n) m.s m.ts) m.r m.tr).length = n.toNat := by rw [addE_len]; exact l1
  have g1 : ∀ c, (addE (zrE n) m.s m.ts).getD c 0 = if c = m.s.toNat then (m.ts : Rat) else 0 := fun c => by rw [addE_new (by omega) (zrE_get _ _), zrE_get]
  have g2 : ∀ c, (addE (addE (zrE n) m.s m.ts) m.r m.tr).getD c 0 = if c = m.r.toNat then (m.tr : Rat) else if c = m.s.toNat then (m.ts : Rat) else 0 := fun c => by rw [addE_new (by omega) (by rw [g1, if_neg (by omega)]), g1]
  refine ⟨by unfold eqP; rw [addE_len]; exact l2, fun c hc => ?_⟩
  rw [rwP_f h1 h]
  unfold cE eqP
  simp only [addE_len, zl]
  by_cases hcn : c < n.toNat
  · rw [if_pos hcn, addE_new (by omega) (by rw [g2, if_neg (by omega), if_neg (by omega)]), g2]
  · rw [if_neg hcn, if_neg (by omega), if_neg (by omega), if_neg (by omega)]
theorem re_S {n : Int} {m : Spd} (h1 : 1 ≤ n) (h : spdE n m = 0) : RE n.toNat (rwS n m) (eqS n m) := by
  have hm := spdE_ok h
  have zl := zrE_len h1
  obtain ⟨⟨a1, a2⟩, _⟩ := hm
  refine ⟨by unfold eqS; rw [addE_len, zl], fun c hc => ?_⟩
  rw [rwS_f h1 h]
  unfold cE eqS
  simp only [addE_len, zl]
  by_cases hcn : c < n.toNat
  · rw [if_pos hcn, addE_new (by omega) (zrE_get _ _), zrE_get, if_neg (by omega)]; rfl
  · rw [if_neg hcn, if_pos (by omega)]
theorem eqs_rel {x : Trn} (h : TOkT x) : RelQ (RE x.n.toNat) (rowsM x) (eqsM x) :=
  ((RelQ.map (fun i hi => re_M h.n1 (h.m i hi))).app (RelQ.map (fun i hi => re_P h.n1 (h.p i hi)))).app (RelQ.map (fun i hi => re_S h.n1 (h.g i hi)))
theorem eqsM_len {x : Trn} (h : TOkT x) : (rowsM x).length = (eqsM x).length := (eqs_rel h).get.1
theorem eqsM_rect {x : Trn} (h : TOkT x) : RectE (eqsM x) x.n.toNat := fun e he => by
  obtain ⟨j, hj, rfl⟩ := List.getElem_of_mem he
  have := ((eqs_rel h).get.2 j (by rw [eqsM_len h]; exact hj)).1
  unfold gE at this
  rwa [List.getD_eq_getElem?_getD, List.getElem?_eq_getElem hj, Option.getD_some] at this
theorem eqsM_f {x : Trn} (h : TOkT x) {j c : Nat} (hj : j < (rowsM x).length) (hc : c ≤ x.n.toNat) : fM (rowsM x) j c = fE2 (eqsM x) j c := ((eqs_rel h).get.2 j hj).2 c hc
/-- The sizes of the equations. -/
def SzE (X : Nat) (l : Eqs) : Prop := ∀ j, j < l.length → SzF X (cE (gE l j))
theorem SzE.mono {X Y : Nat} {l : Eqs} (h : SzE X l) (hY : X ≤ Y) : SzE Y l := fun j hj => (h j hj).mono hY
theorem eqsM_sz {x : Trn} {k : Nat} (hw : x.w k) (hk : k ≤ 10) (h : TOkT x) : SzE (Xs 0) (eqsM x) := fun j hj => by
  have hj' : j < (rowsM x).length := by rw [eqsM_len h]; exact hj
  obtain ⟨D, N, h0, h1, h2⟩ := rowsM_sz hw hk h j
  refine ⟨D, fun c => N (min c x.n.toNat), h0, h1, fun c => ⟨(h2 _).1, ?_⟩⟩
  have hr := (eqsM_rect h).get hj
  rw [← (h2 _).2, eqsM_f h hj' (Nat.min_le_right _ _), fE2_eq]
  unfold cE
  rw [hr]
  by_cases hc : c < x.n.toNat
  · rw [Nat.min_eq_left (by omega)]
  · rw [Nat.min_eq_right (by omega), if_neg hc, if_neg (by omega)]
/-- The two eliminations answer alike. -/
theorem sol_congr {m n : Nat} {M N : Mx} (h : ∀ j, j < m → ∀ c, c ≤ n → M j c = N j c) (x : Nat → Rat) : Sol m n M x ↔ Sol m n N x :=
  ⟨fun g j hj => (eqn_congr (h j hj) x).1 (g j hj), fun g j hj => (eqn_congr (h j hj) x).2 (g j hj)⟩
end Lift
/- The reference's Solve. -/
namespace Lift
open Go Go.Proofs

theorem bneF {a b : Int} (h : (a != b) = false) : a = b := by simpa using h
theorem getEq {l : Eqs} {i : Nat} (h : i < l.length) : (EqsD l)[i]? = some (EqD (gE l i)) := by simp [gE, h]
structure RInv (N : Nat) (l0 : Eqs) (G : Eqs × List Int) (i : Nat) (l : Eqs) (dn : List Int) : Prop where
  ii : i ≤ N
  ll : l.length = l0.length
  ld : dn.length = i
  rc : RectE l N
  sz : SzE (Xs i) l
  gg : G = goR (N - i) i l dn
theorem cE_in {e : List Rat × Rat} {c : Nat} (h : c < e.1.length) : cE e c = e.1.getD c 0 := if_pos h
theorem cE_out {e : List Rat × Rat} {c : Nat} (h : ¬ c < e.1.length) : cE e c = e.2 := if_neg h
theorem SzE.c {X : Nat} {l : Eqs} {n j : Nat} (h : SzE X l) (hr : RectE l n) (hj : j < l.length) (c : Nat) : LQ ((gE l j).1.getD c 0) ≤ X := by
  by_cases hc : c < (gE l j).1.length
  · have := (h j hj).lq c
    rwa [cE_in hc] at this
  · rw [List.getD_eq_getElem?_getD, List.getElem?_eq_none (by omega)]
    have := (h j hj).one
    show LQ 0 ≤ X
    rw [LQ_zero]; exact this
theorem SzE.v {X : Nat} {l : Eqs} {j : Nat} (h : SzE X l) (hj : j < l.length) : LQ (gE l j).2 ≤ X := by
  have := (h j hj).lq (gE l j).1.length
  rwa [cE_out (Nat.lt_irrefl _)] at this
theorem clrR_sz {l : Eqs} {r i n X k : Nat} (hr : r < l.length) (hR : RectE l n) (hi : i < n) (h0 : (gE l r).1.getD i 0 ≠ 0) (h : SzE X l) (hk : k ≤ l.length) : SzE (2 * X + 1) (clrR l r i k) := by
  obtain ⟨h1, h2, h3, h4⟩ := clrR_spec (i := i) hr hR hk
  intro j hj
  have hjl : j < l.length := by omega
  by_cases e : j = r
  · subst e
    rw [h3]
    exact (h j hjl).mono (by omega)
  · rw [h4 j hjl e]
    split
    · have hc : ∀ j, j < l.length → (gE l j).1.getD i 0 = cE (gE l j) i := fun j hj => (cE_in (by rw [hR.get hj]; exact hi)).symm
      rw [hc j hjl, hc r hr]
      refine ((h j hjl).lessQ (h r hr) i (by rw [← hc r hr]; exact h0)).congr (fun c => ?_)
      exact (lessE_spec (by rw [hR.get hjl, hR.get hr])).2 c
    · exact (h j hjl).mono (by omega)
theorem RInv.skip {N : Nat} {l0 : Eqs} {G : Eqs × List Int} {i : Nat} {l : Eqs} {dn : List Int} (h : RInv N l0 G i l dn) (hi : i < N) (hr : rowR l dn i = l.length) : RInv N l0 G (i + 1) l (dn ++ [-1]) := by
  obtain ⟨h1, h2, h3, h4, h5, h6⟩ := h
  refine ⟨hi, h2, by simp [h3], h4, h5.mono (Xs_le (by omega)), ?_⟩
  rw [show N - i = (N - (i + 1)) + 1 by omega, goR, if_pos hr] at h6
  exact h6
theorem RInv.step {N : Nat} {l0 : Eqs} {G : Eqs × List Int} {i : Nat} {l : Eqs} {dn : List Int} (h : RInv N l0 G i l dn) (hi : i < N) (hr : rowR l dn i < l.length) (h0 : (gE l (rowR l dn i)).1.getD i 0 ≠ 0) : RInv N l0 G (i + 1) (clrR l (rowR l dn i) i l.length) (dn ++ [(rowR l dn i : Int)]) := by
  obtain ⟨h1, h2, h3, h4, h5, h6⟩ := h
  obtain ⟨c1, c2, c3, c4⟩ := clrR_spec (i := i) hr h4 (Nat.le_refl _)
  refine ⟨hi, by rw [c1]; exact h2, by simp [h3], c2, clrR_sz hr h4 hi h0 h5 (Nat.le_refl _), ?_⟩
  rw [show N - i = (N - (i + 1)) + 1 by omega, goR, if_neg (by omega)] at h6
  exact h6
section
variable {P : Program} {T : Ty} {B : Nat} {F0 : Nat → Prop} {w0 : Bas} {n : Nat} {σ : St} {all : Array Oper} {rest : List Oper} {o : Oper} {K : St → Prop}
end
theorem AW.to {P : Program} {B n : Nat} {F0 : Nat → Prop} {w0 : Bas} {c : Code} {Q : Exit → St → Prop} {σ : St} (ks : List Nat) (τ : St) (h : σ.keep ks = τ) (hk : AW P B F0 w0 n c Q τ) : AW P B F0 w0 n c Q σ := AW.keep ks (h ▸ hk)
abbrev XD (N : Nat) (ms : List Msh) (ps : List Plt) (gs : List Spd) : List D := [dI N, MshsD ms, PltsD ps, SpdsD gs]
abbrev stR (N : Nat) (ms : List Msh) (ps : List Plt) (gs : List Spd) (l : Eqs) (dn : List Int) : St := [(1, .bx (XD N ms ps gs)), (4, .ow 83 (EqsD l)), (5, .ow 3 (dn.map (fun n => dI n)))]
end Lift
/- The reference's Check, CheckSpeeds, Verify; lists of fractions that are equal. -/
namespace Lift
open Go Go.Proofs

theorem r51_Check_ok (x : Trn) {k : Nat} (hw : x.w k) (hk : k ≤ 50000000) : Pure Tryz.prog 9 [x.D] (dI ((chkT x : Nat) : Int)) := by
  refine Pure.intro (n := 147) tok Tryz.func9 rfl rfl rfl (Nat.le_of_ble_eq_true rfl) (by kernel_rfl) (fun B F0 w0 => ?_)
  obtain ⟨w1, w2, w3, w4⟩ := hw
  refine AW.seq ?_
  refine AW.region ?_   -- "ref.go:25"
  refine AOps.run tok 2 _ _ _ _ rfl ?_
  refine AOps.nil ?_
  refine AW.seq ?_
  refine AW.seq ?_
  refine AW.region ?_   -- "ref.go:26"   -- GUARDS
  refine AOps.run tok 4 _ _ _ _ rfl ?_
  refine AOps.split (t := 11) rfl (fun h => ?_) (fun h0 => ?_)
  · rw [chkT_1 (x := x) (.inl (of_decide_eq_true h))]
    refine AOps.run tok 4 _ _ _ _ rfl ?_
    refine AOps.nil ?_
    refine AW.condT rfl ?_
    refine AW.seq ?_
    refine AW.region ?_
    refine AOps.run tok 1 _ _ _ _ rfl ?_
    refine AOps.nil ?_
    exact AW.ret rfl
  refine AOps.run tok 4 _ _ _ _ rfl ?_
  refine AOps.nil ?_
  refine AW.cond rfl (fun h => ?_) (fun h => ?_)
  · rw [chkT_1 (x := x) (.inr (by have := of_decide_eq_true h; omega))]
    refine AW.seq ?_
    refine AW.region ?_   -- "ref.go:27"
    refine AOps.run tok 1 _ _ _ _ rfl ?_
    refine AOps.nil ?_
    exact AW.ret rfl
  · have h1 : ¬ (x.n < 1 ∨ 16 < x.n) := by have := of_decide_eq_false h0; have := of_decide_eq_false h; omega
    refine AW.skip ?_
    refine AW.seq ?_
    refine AW.seq ?_
    refine AW.region ?_   -- "ref.go:29"   -- GUARDS
    refine AOps.run tok 5 _ _ _ _ rfl ?_
    rw [List.length_map]
    refine AOps.split (t := 20) rfl (fun h => ?_) (fun g0 => ?_)
    · rw [chkT_2 h1 (.inl (by have := of_decide_eq_true h; omega))]
      refine AOps.run tok 6 _ _ _ _ rfl ?_
      refine AOps.split (t := 26) rfl (fun h => ?_) (fun g0 => by cases g0)
      refine AOps.run tok 5 _ _ _ _ rfl ?_
      refine AOps.nil ?_
      refine AW.condT rfl ?_
      refine AW.seq ?_
      refine AW.region ?_
      refine AOps.run tok 1 _ _ _ _ rfl ?_
      refine AOps.nil ?_
      exact AW.ret rfl
    refine AOps.run tok 6 _ _ _ _ rfl ?_
    rw [List.length_map]
    refine AOps.split (t := 26) rfl (fun h => ?_) (fun g1 => ?_)
    · rw [chkT_2 h1 (.inr (.inl (by have := of_decide_eq_true h; omega)))]
      refine AOps.run tok 5 _ _ _ _ rfl ?_
      refine AOps.nil ?_
      refine AW.condT rfl ?_
      refine AW.seq ?_
      refine AW.region ?_
      refine AOps.run tok 1 _ _ _ _ rfl ?_
      refine AOps.nil ?_
      exact AW.ret rfl
    refine AOps.run tok 5 _ _ _ _ rfl ?_
    rw [List.length_map]
    refine AOps.nil ?_
    refine AW.cond rfl (fun h => ?_) (fun h => ?_)
    · rw [chkT_2 h1 (.inr (.inr (by have := of_decide_eq_true h; omega)))]
      refine AW.seq ?_
      refine AW.region ?_   -- "ref.go:30"
      refine AOps.run tok 1 _ _ _ _ rfl ?_
      refine AOps.nil ?_
      exact AW.ret rfl
    · have h2 : ¬ (32 < x.ms.length ∨ 32 < x.ps.length ∨ 32 < x.gs.length) := by have := of_decide_eq_false g0; have := of_decide_eq_false g1; have := of_decide_eq_false h; omega
      refine AW.skip ?_
      refine AW.seq ?_
      refine AW.seq ?_
      refine AW.region ?_   -- "ref.go:32"
      refine AOps.run tok 1 _ _ _ _ rfl ?_
      refine AOps.nil ?_
      refine AW.block ?_   -- block 0
      refine AW.loopS [1, 3] (fun i : Nat => [(1, .bx [dI x.n, MshsD x.ms, PltsD x.ps, SpdsD x.gs]), (3, .d (dI i))]) (fun i => i ≤ x.ms.length ∧ mshsE x.n x.ms = fE (fun i => mshE x.n (x.ms.getD i default)) (x.ms.length - i) i) (fun i => x.ms.length - i) 0 rfl ⟨Nat.zero_le _, rfl⟩ (fun i ⟨hi, hE⟩ => ?_)
      · skip
        refine AW.seq ?_
        refine AW.seq ?_
        refine AW.region ?_   -- "ref.go:32"
        refine AOps.run tok 4 _ _ _ _ rfl ?_
        rw [List.length_map]
        refine AOps.run tok 1 _ _ _ _ rfl ?_
        refine AOps.nil ?_
        refine AW.cond rfl (fun h => ?_) (fun h => ?_)
        · have hin : i < x.ms.length := by have := of_decide_eq_true h; omega
          have hM := fun h0 => hE.trans (fE_miss (f := fun i => mshE x.n (x.ms.getD i default)) hin h0)
          have hH := fun k hk => chkT_m (k := k) h1 h2 hin hE hk
          have hid : (x.ms.map Msh.D)[i]? = some (x.ms.getD i default).D := getM Msh.D hin
          generalize x.ms.getD i default = m at hid hM hH
          refine AW.skip ?_
          refine AW.seq ?_
          refine AW.block ?_   -- block 1
          refine AW.seq ?_
          refine AW.region ?_   -- "ref.go:33"
          refine AOps.run tok 3 _ _ _ _ rfl ?_
          refine AOps.idx tok m.D rfl rfl rfl rfl (Int.natCast_nonneg i) hid ?_
          refine AOps.run tok 3 _ _ _ _ rfl ?_
          refine AOps.nil ?_
          refine AW.seq ?_
          refine AW.seq ?_
          refine AW.region ?_   -- "ref.go:34"   -- GUARDS
          refine AOps.run tok 3 _ _ _ _ rfl ?_
          refine AOps.call tok rfl rfl rfl rfl (r51_shaft_ok _ m.a) ?_
          refine AOps.run tok 2 _ _ _ _ rfl ?_
          refine AOps.split (t := 49) rfl (fun h => ?_) (fun g => ?_)
          · rw [hH 8 (by unfold mshE; rw [show inS x.n m.a = false by simpa using h]; rfl)]
            refine AOps.run tok 6 _ _ _ _ rfl ?_
            refine AOps.nil ?_
            refine AW.condT rfl ?_
            refine AW.seq ?_
            refine AW.region ?_
            refine AOps.run tok 1 _ _ _ _ rfl ?_
            refine AOps.nil ?_
            exact AW.ret rfl
          refine AOps.run tok 3 _ _ _ _ rfl ?_
          refine AOps.call tok rfl rfl rfl rfl (r51_shaft_ok _ m.b) ?_
          refine AOps.run tok 2 _ _ _ _ rfl ?_
          refine AOps.nil ?_
          refine AW.cond rfl (fun h => ?_) (fun h => ?_)
          · rw [hH 8 (by unfold mshE; rw [show inS x.n m.b = false by simpa using h, Bool.and_false]; rfl)]
            refine AW.seq ?_
            refine AW.region ?_   -- "ref.go:35"
            refine AOps.run tok 1 _ _ _ _ rfl ?_
            refine AOps.nil ?_
            exact AW.ret rfl
          · have i1 : (inS x.n m.a && inS x.n m.b) = true := by rw [show inS x.n m.a = true by simpa using g, show inS x.n m.b = true by simpa using h]; rfl
            refine AW.skip ?_
            refine AW.seq ?_
            refine AW.seq ?_
            refine AW.region ?_   -- "ref.go:37"
            refine AOps.run tok 5 _ _ _ _ rfl ?_
            refine AOps.nil ?_
            refine AW.cond rfl (fun h => ?_) (fun h => ?_)
            · rw [hH 5 (by unfold mshE; rw [i1, if_neg (by simp), if_pos (of_decide_eq_true h)])]
              refine AW.seq ?_
              refine AW.region ?_   -- "ref.go:38"
              refine AOps.run tok 1 _ _ _ _ rfl ?_
              refine AOps.nil ?_
              exact AW.ret rfl
            · have i2 : ¬ m.a = m.b := of_decide_eq_false h
              refine AW.skip ?_
              refine AW.seq ?_
              refine AW.region ?_   -- "ref.go:40"
              refine AOps.run tok 4 _ _ _ _ rfl ?_
              refine AOps.call tok rfl rfl rfl rfl (r51_teeth_ok m.ta m.tb) ?_
              refine AOps.run tok 1 _ _ _ _ rfl ?_
              refine AOps.nil ?_
              refine AW.cond rfl (fun h => ?_) (fun h => ?_)
              · rw [hH 2 (by unfold mshE; rw [i1, if_neg (by simp), if_neg i2, if_pos (by simpa using h)])]
                refine AW.seq ?_
                refine AW.region ?_   -- "ref.go:41"
                refine AOps.run tok 1 _ _ _ _ rfl ?_
                refine AOps.nil ?_
                exact AW.ret rfl
              · have i3 : thB m.ta m.tb = true := by simpa using h
                refine AW.skip ?_
                refine AW.region ?_   -- "ref.go:32"
                refine AOps.run tok 2 _ _ _ _ rfl ?_
                rw [wI64 (x := (i : Int) + 1) (by omega) (by omega)]
                refine AOps.run tok 1 _ _ _ _ rfl ?_
                refine AOps.nil ?_
                exact ⟨i + 1, rfl, ⟨hin, hM (by unfold mshE; rw [i1, if_neg (by simp), if_neg i2, if_neg (by rw [i3]; simp)])⟩, by omega⟩
        have hin : ¬ i < x.ms.length := by have := of_decide_eq_false h; omega
        have h3 : mshsE x.n x.ms = 0 := hE.trans (fE_end hin)
        refine AW.exit ?_
          -- exit 0
        -- END OF BODY; what follows the loop (from its exit):
        refine AW.seq ?_
        refine AW.seq ?_
        refine AW.region ?_   -- "ref.go:44"
        refine AOps.run tok 1 _ _ _ _ rfl ?_
        refine AOps.nil ?_
        refine AW.block ?_   -- block 2
        refine AW.loopS [1, 5] (fun i : Nat => [(1, .bx [dI x.n, MshsD x.ms, PltsD x.ps, SpdsD x.gs]), (5, .d (dI i))]) (fun i => i ≤ x.ps.length ∧ pltsE x.n x.ps = fE (fun i => pltE x.n (x.ps.getD i default)) (x.ps.length - i) i) (fun i => x.ps.length - i) 0 rfl ⟨Nat.zero_le _, rfl⟩ (fun i ⟨hi, hE⟩ => ?_)
        · skip
          refine AW.seq ?_
          refine AW.seq ?_
          refine AW.region ?_   -- "ref.go:44"
          refine AOps.run tok 4 _ _ _ _ rfl ?_
          rw [List.length_map]
          refine AOps.run tok 1 _ _ _ _ rfl ?_
          refine AOps.nil ?_
          refine AW.cond rfl (fun h => ?_) (fun h => ?_)
          · have hin : i < x.ps.length := by have := of_decide_eq_true h; omega
            have hM := fun h0 => hE.trans (fE_miss (f := fun i => pltE x.n (x.ps.getD i default)) hin h0)
            have hH := fun k hk => chkT_p (k := k) h1 h2 h3 hin hE hk
            have hid : (x.ps.map Plt.D)[i]? = some (x.ps.getD i default).D := getM Plt.D hin
            generalize x.ps.getD i default = m at hid hM hH
            refine AW.skip ?_
            refine AW.seq ?_
            refine AW.block ?_   -- block 3
            refine AW.seq ?_
            refine AW.region ?_   -- "ref.go:45"
            refine AOps.run tok 3 _ _ _ _ rfl ?_
            refine AOps.idx tok m.D rfl rfl rfl rfl (Int.natCast_nonneg i) hid ?_
            refine AOps.run tok 3 _ _ _ _ rfl ?_
            refine AOps.nil ?_
            refine AW.seq ?_
            refine AW.seq ?_
            refine AW.region ?_   -- "ref.go:46"   -- GUARDS
            refine AOps.run tok 3 _ _ _ _ rfl ?_
            refine AOps.call tok rfl rfl rfl rfl (r51_shaft_ok _ m.s) ?_
            refine AOps.run tok 2 _ _ _ _ rfl ?_
            refine AOps.split (t := 84) rfl (fun h => ?_) (fun g => ?_)
            · rw [hH 8 (by unfold pltE; rw [show inS x.n m.s = false by simpa using h]; rfl)]
              refine AOps.run tok 7 _ _ _ _ rfl ?_
              refine AOps.split (t := 91) rfl (fun h => ?_) (fun g0 => by cases g0)
              refine AOps.run tok 6 _ _ _ _ rfl ?_
              refine AOps.nil ?_
              refine AW.condT rfl ?_
              refine AW.seq ?_
              refine AW.region ?_
              refine AOps.run tok 1 _ _ _ _ rfl ?_
              refine AOps.nil ?_
              exact AW.ret rfl
            refine AOps.run tok 3 _ _ _ _ rfl ?_
            refine AOps.call tok rfl rfl rfl rfl (r51_shaft_ok _ m.r) ?_
            refine AOps.run tok 3 _ _ _ _ rfl ?_
            refine AOps.split (t := 91) rfl (fun h => ?_) (fun g2 => ?_)
            · rw [hH 8 (by unfold pltE; rw [show inS x.n m.r = false by simpa using h, Bool.false_and, Bool.and_false]; rfl)]
              refine AOps.run tok 6 _ _ _ _ rfl ?_
              refine AOps.nil ?_
              refine AW.condT rfl ?_
              refine AW.seq ?_
              refine AW.region ?_
              refine AOps.run tok 1 _ _ _ _ rfl ?_
              refine AOps.nil ?_
              exact AW.ret rfl
            refine AOps.run tok 3 _ _ _ _ rfl ?_
            refine AOps.call tok rfl rfl rfl rfl (r51_shaft_ok _ m.c) ?_
            refine AOps.run tok 2 _ _ _ _ rfl ?_
            refine AOps.nil ?_
            refine AW.cond rfl (fun h => ?_) (fun h => ?_)
            · rw [hH 8 (by unfold pltE; rw [show inS x.n m.c = false by simpa using h, Bool.and_false, Bool.and_false]; rfl)]
              refine AW.seq ?_
              refine AW.region ?_   -- "ref.go:47"
              refine AOps.run tok 1 _ _ _ _ rfl ?_
              refine AOps.nil ?_
              exact AW.ret rfl
            · have i1 : (inS x.n m.s && (inS x.n m.r && inS x.n m.c)) = true := by rw [show inS x.n m.s = true by simpa using g, show inS x.n m.r = true by simpa using g2, show inS x.n m.c = true by simpa using h]; rfl
              refine AW.skip ?_
              refine AW.seq ?_
              refine AW.seq ?_
              refine AW.region ?_   -- "ref.go:49"   -- GUARDS
              refine AOps.run tok 6 _ _ _ _ rfl ?_
              refine AOps.split (t := 103) rfl (fun h => ?_) (fun g1 => ?_)
              · rw [hH 5 (by unfold pltE; rw [i1, if_neg (by simp), if_pos (.inl (of_decide_eq_true h))])]
                refine AOps.run tok 7 _ _ _ _ rfl ?_
                refine AOps.split (t := 110) rfl (fun h => ?_) (fun g0 => by cases g0)
                refine AOps.run tok 6 _ _ _ _ rfl ?_
                refine AOps.nil ?_
                refine AW.condT rfl ?_
                refine AW.seq ?_
                refine AW.region ?_
                refine AOps.run tok 1 _ _ _ _ rfl ?_
                refine AOps.nil ?_
                exact AW.ret rfl
              refine AOps.run tok 7 _ _ _ _ rfl ?_
              refine AOps.split (t := 110) rfl (fun h => ?_) (fun g3 => ?_)
              · rw [hH 5 (by unfold pltE; rw [i1, if_neg (by simp), if_pos (.inr (.inl (of_decide_eq_true h)))])]
                refine AOps.run tok 6 _ _ _ _ rfl ?_
                refine AOps.nil ?_
                refine AW.condT rfl ?_
                refine AW.seq ?_
                refine AW.region ?_
                refine AOps.run tok 1 _ _ _ _ rfl ?_
                refine AOps.nil ?_
                exact AW.ret rfl
              refine AOps.run tok 6 _ _ _ _ rfl ?_
              refine AOps.nil ?_
              refine AW.cond rfl (fun h => ?_) (fun h => ?_)
              · rw [hH 5 (by unfold pltE; rw [i1, if_neg (by simp), if_pos (.inr (.inr (of_decide_eq_true h)))])]
                refine AW.seq ?_
                refine AW.region ?_   -- "ref.go:50"
                refine AOps.run tok 1 _ _ _ _ rfl ?_
                refine AOps.nil ?_
                exact AW.ret rfl
              · have i2 : ¬ (m.s = m.r ∨ m.s = m.c ∨ m.r = m.c) := by have := of_decide_eq_false g1; have := of_decide_eq_false g3; have := of_decide_eq_false h; omega
                refine AW.skip ?_
                refine AW.seq ?_
                refine AW.region ?_   -- "ref.go:52"
                refine AOps.run tok 4 _ _ _ _ rfl ?_
                refine AOps.call tok rfl rfl rfl rfl (r51_teeth_ok m.ts m.tr) ?_
                refine AOps.run tok 1 _ _ _ _ rfl ?_
                refine AOps.nil ?_
                refine AW.cond rfl (fun h => ?_) (fun h => ?_)
                · rw [hH 2 (by unfold pltE; rw [i1, if_neg (by simp), if_neg i2, if_pos (by simpa using h)])]
                  refine AW.seq ?_
                  refine AW.region ?_   -- "ref.go:53"
                  refine AOps.run tok 1 _ _ _ _ rfl ?_
                  refine AOps.nil ?_
                  exact AW.ret rfl
                · have i3 : thB m.ts m.tr = true := by simpa using h
                  refine AW.skip ?_
                  refine AW.region ?_   -- "ref.go:44"
                  refine AOps.run tok 2 _ _ _ _ rfl ?_
                  rw [wI64 (x := (i : Int) + 1) (by omega) (by omega)]
                  refine AOps.run tok 1 _ _ _ _ rfl ?_
                  refine AOps.nil ?_
                  exact ⟨i + 1, rfl, ⟨hin, hM (by unfold pltE; rw [i1, if_neg (by simp), if_neg i2, if_neg (by rw [i3]; simp)])⟩, by omega⟩
          have hin : ¬ i < x.ps.length := by have := of_decide_eq_false h; omega
          have h4 : pltsE x.n x.ps = 0 := hE.trans (fE_end hin)
          rw [chkT_g h1 h2 h3 h4]
          refine AW.exit ?_
            -- exit 2
          -- END OF BODY; what follows the loop (from its exit):
          refine AW.seq ?_
          refine AW.seq ?_
          refine AW.region ?_   -- "ref.go:56"
          refine AOps.run tok 1 _ _ _ _ rfl ?_
          refine AOps.nil ?_
          refine AW.block ?_   -- block 4
          refine AW.loopS [1, 7] (fun i : Nat => [(1, .bx [dI x.n, MshsD x.ms, PltsD x.ps, SpdsD x.gs]), (7, .d (dI i))]) (fun i => i ≤ x.gs.length ∧ spdsE x.n x.gs = fE (fun i => spdE x.n (x.gs.getD i default)) (x.gs.length - i) i) (fun i => x.gs.length - i) 0 rfl ⟨Nat.zero_le _, rfl⟩ (fun i ⟨hi, hE⟩ => ?_)
          · skip
            refine AW.seq ?_
            refine AW.seq ?_
            refine AW.region ?_   -- "ref.go:56"
            refine AOps.run tok 4 _ _ _ _ rfl ?_
            rw [List.length_map]
            refine AOps.run tok 1 _ _ _ _ rfl ?_
            refine AOps.nil ?_
            refine AW.cond rfl (fun h => ?_) (fun h => ?_)
            · have hin : i < x.gs.length := by have := of_decide_eq_true h; omega
              have hM := fun h0 => hE.trans (fE_miss (f := fun i => spdE x.n (x.gs.getD i default)) hin h0)
              have hH := fun h0 => hE.trans (fE_hit (f := fun i => spdE x.n (x.gs.getD i default)) hin h0)
              have hid : (x.gs.map Spd.D)[i]? = some (x.gs.getD i default).D := getM Spd.D hin
              have hwi := w4 i
              generalize x.gs.getD i default = m at hid hM hH hwi
              refine AW.skip ?_
              refine AW.seq ?_
              refine AW.block ?_   -- block 5
              refine AW.seq ?_
              refine AW.seq ?_
              refine AW.draw hmix 9 (by kernel_rfl) ?_   -- "ref.go:57"
              refine APre.run tok 4 _ _ _ _ rfl ?_
              refine APre.idx tok m.D rfl rfl rfl rfl rfl (Int.natCast_nonneg i) hid ?_
              refine APre.run tok 2 _ _ _ _ rfl ?_
              refine APre.call tok rfl rfl rfl rfl rfl (r51_shaft_ok _ m.sh) ?_
              refine APre.run tok 1 _ _ _ _ rfl ?_
              refine APre.nil ?_
              refine AOps.nil ?_
              refine AW.cond rfl (fun h => ?_) (fun h => ?_)
              · have e : spdE x.n m = 9 := by unfold spdE; rw [if_pos (by simpa using h)]
                rw [hH (by rw [e]; decide), e]
                refine AW.seq ?_
                refine AW.region ?_   -- "ref.go:58"
                refine AOps.run tok 1 _ _ _ _ rfl ?_
                refine AOps.nil ?_
                exact AW.ret rfl
              · have i1 : inS x.n m.sh = true := by simpa using h
                refine AW.skip ?_
                refine AW.seq ?_
                refine AW.region ?_   -- "ref.go:60"
                refine AOps.run tok 3 _ _ _ _ rfl ?_
                refine AOps.idx tok m.D rfl rfl rfl rfl (Int.natCast_nonneg i) hid ?_
                refine AOps.run tok 2 _ _ _ _ rfl ?_
                refine AOps.call tok rfl rfl rfl rfl (r02_Valid_ok m.v hwi (by omega)) ?_
                refine AOps.run tok 1 _ _ _ _ rfl ?_
                refine AOps.nil ?_
                refine AW.cond rfl (fun h => ?_) (fun h => ?_)
                · have e : spdE x.n m = 3 := by unfold spdE; rw [i1, if_neg (by simp), if_pos (by simpa using h)]
                  rw [hH (by rw [e]; decide), e]
                  refine AW.seq ?_
                  refine AW.region ?_   -- "ref.go:61"
                  refine AOps.run tok 1 _ _ _ _ rfl ?_
                  refine AOps.nil ?_
                  exact AW.ret rfl
                · have i2 : m.v.okB = true := by simpa using h
                  refine AW.skip ?_
                  refine AW.region ?_   -- "ref.go:56"
                  refine AOps.run tok 2 _ _ _ _ rfl ?_
                  rw [wI64 (x := (i : Int) + 1) (by omega) (by omega)]
                  refine AOps.run tok 1 _ _ _ _ rfl ?_
                  refine AOps.nil ?_
                  exact ⟨i + 1, rfl, ⟨hin, hM (by unfold spdE; rw [i1, if_neg (by simp), i2, if_neg (by simp)])⟩, by omega⟩
            have hin : ¬ i < x.gs.length := by have := of_decide_eq_false h; omega
            rw [hE, fE_end hin]
            refine AW.exit ?_
              -- exit 4
            -- END OF BODY; what follows the loop (from its exit):
            refine AW.seq ?_
            refine AW.region ?_   -- "ref.go:64"
            refine AOps.run tok 1 _ _ _ _ rfl ?_
            refine AOps.nil ?_
            exact AW.ret rfl
end Lift
/- GearScales. -/
namespace Lift
open Go Go.Proofs

end Lift
/- GearOnly. -/
namespace Lift
open Go Go.Proofs

end Lift
/- Lists of fractions that are equal; the statement GearSolves: what its function answers. -/
namespace Lift
open Go Go.Proofs

end Lift
/- The reference's CheckSpeeds and Verify; the statement GearVerifies: what its function answers. -/
namespace Lift
open Go Go.Proofs

theorem r51_CheckSpeeds_ok (x : Trn) (l : List RD) {k kk : Nat} (hw : x.w kk) (hkk : kk ≤ 50000000) (hl : ∀ i, (l.getD i default).w k) (hk : k ≤ 50000000) (hlen : l.length ≤ 1000000) : Pure Tryz.prog 19 [x.D, .sl 3 (l.map RD.D)] (dI ((verE x l : Nat) : Int)) := by
  refine Pure.intro (n := 29) tok Tryz.func19 rfl rfl rfl (Nat.le_of_ble_eq_true rfl) (by kernel_rfl) (fun B F0 w0 => ?_)
  have cC := r51_Check_ok x hw hkk
  have hvE : verE x l = if chkT x ≠ 0 then chkT x else if (l.length : Int) ≠ x.n then 10 else fE (vlF l) l.length 0 := rfl
  generalize verE x l = E at hvE
  refine AW.seq ?_
  refine AW.region ?_   -- "ref.go:181"
  refine AOps.run tok 2 _ _ _ _ rfl ?_
  refine AOps.nil ?_
  refine AW.seq ?_
  refine AW.seq ?_
  refine AW.region ?_   -- "ref.go:182"
  refine AOps.run tok 1 _ _ _ _ rfl ?_
  refine AOps.call tok rfl rfl rfl rfl cC ?_
  refine AOps.run tok 1 _ _ _ _ rfl ?_
  refine AOps.nil ?_
  refine AW.seq ?_
  refine AW.region ?_   -- "ref.go:182"
  refine AOps.run tok 2 _ _ _ _ rfl ?_
  refine AOps.nil ?_
  refine AW.cond rfl (fun h => ?_) (fun h => ?_)
  · rw [if_pos (by have := bne_iff_ne.1 h; omega)] at hvE
    rw [hvE]
    refine AW.seq ?_
    refine AW.region ?_   -- "ref.go:183"
    refine AOps.run tok 2 _ _ _ _ rfl ?_
    refine AOps.nil ?_
    exact AW.ret rfl
  · have h0 : chkT x = 0 := by have := bneF h; omega
    rw [if_neg (by omega)] at hvE
    refine AW.skip ?_
    refine AW.seq ?_
    refine AW.seq ?_
    refine AW.region ?_   -- "ref.go:185"
    refine AOps.run tok 2 _ _ _ _ rfl ?_
    rw [List.length_map]
    refine AOps.run tok 3 _ _ _ _ rfl ?_
    refine AOps.nil ?_
    refine AW.cond rfl (fun h => ?_) (fun h => ?_)
    · rw [if_pos (bne_iff_ne.1 h)] at hvE
      rw [hvE]
      refine AW.seq ?_
      refine AW.region ?_   -- "ref.go:186"
      refine AOps.run tok 1 _ _ _ _ rfl ?_
      refine AOps.nil ?_
      exact AW.ret rfl
    · rw [if_neg (fun g => g (bneF h))] at hvE
      refine AW.skip ?_
      refine AW.seq ?_
      refine AW.seq ?_
      refine AW.region ?_   -- "ref.go:188"
      refine AOps.run tok 1 _ _ _ _ rfl ?_
      refine AOps.nil ?_
      refine AW.block ?_   -- block 0
      refine AW.loopS [1, 2, 6] (fun i : Nat => [(1, .d (.sl 3 (l.map RD.D))), (2, .bx x.D.flat), (6, .d (dI i))]) (fun i => i ≤ l.length ∧ E = fE (vlF l) (l.length - i) i) (fun i => l.length - i) 0 rfl ⟨Nat.zero_le _, hvE⟩ (fun i hi => ?_)
      obtain ⟨hi, hei⟩ := hi
      · skip
        refine AW.seq ?_
        refine AW.seq ?_
        refine AW.region ?_   -- "ref.go:188"
        refine AOps.run tok 3 _ _ _ _ rfl ?_
        rw [List.length_map]
        refine AOps.run tok 1 _ _ _ _ rfl ?_
        refine AOps.nil ?_
        refine AW.cond rfl (fun h => ?_) (fun h => ?_)
        · have hin : i < l.length := by have := of_decide_eq_true h; omega
          have hhit := fE_hit (f := vlF l) hin
          have hmiss := fE_miss (f := vlF l) hin
          have hvl : vlF l i = if (l.getD i default).okB = false then 3 else 0 := rfl
          refine AW.skip ?_
          refine AW.seq ?_
          refine AW.block ?_   -- block 1
          refine AW.seq ?_
          refine AW.region ?_   -- "ref.go:189"
          refine AOps.run tok 2 _ _ _ _ rfl ?_
          refine AOps.idx tok (l.getD i default).D rfl rfl rfl rfl (Int.natCast_nonneg i) (getM RD.D hin) ?_
          refine AOps.run tok 1 _ _ _ _ rfl ?_
          refine AOps.call tok rfl rfl rfl rfl (r02_Valid_ok (l.getD i default) (hl i) (by omega)) ?_
          refine AOps.run tok 1 _ _ _ _ rfl ?_
          refine AOps.nil ?_
          refine AW.cond rfl (fun h => ?_) (fun h => ?_)
          · have hok : (l.getD i default).okB = false := by simpa using h
            have e : E = 3 := by rw [hei, hhit (by rw [hvl, if_pos hok]; decide), hvl, if_pos hok]
            rw [e]
            refine AW.seq ?_
            refine AW.region ?_   -- "ref.go:190"
            refine AOps.run tok 1 _ _ _ _ rfl ?_
            refine AOps.nil ?_
            exact AW.ret rfl
          · have hok : (l.getD i default).okB = true := by simpa using h
            have hm0 := hmiss (by rw [hvl, if_neg (by rw [hok]; simp)])
            refine AW.skip ?_
            refine AW.region ?_   -- "ref.go:188"
            refine AOps.run tok 2 _ _ _ _ rfl ?_
            rw [wI64 (x := (i : Int) + 1) (by omega) (by omega)]
            refine AOps.run tok 1 _ _ _ _ rfl ?_
            refine AOps.nil ?_
            exact ⟨i + 1, rfl, ⟨hin, by rw [hei, hm0]⟩, by omega⟩
        have hin : ¬ i < l.length := by have := of_decide_eq_false h; omega
        rw [show E = 0 by rw [hei, fE_end hin]]
        refine AW.exit ?_
          -- exit 0
        -- END OF BODY; what follows the loop (from its exit):
        refine AW.seq ?_
        refine AW.region ?_   -- "ref.go:193"
        refine AOps.run tok 1 _ _ _ _ rfl ?_
        refine AOps.nil ?_
        exact AW.ret rfl

/-- The reference's sum of an equation, of its first i numbers. -/
def smE (L : Eqs) (l : List RD) (j i : Nat) : Rat := sumN i (fun c => (gE L j).1.getD c 0 * (l.getD c default).val)
def verR (L : Eqs) (N : Nat) (l : List RD) : Bool := !anyF (fun j => decide (smE L l j N ≠ (gE L j).2)) L.length 0
theorem verR_iff {L : Eqs} {N : Nat} {l : List RD} (hr : RectE L N) : verR L N l = true ↔ Sol L.length N (fE2 L) (fun c => (l.getD c default).val) := by
  have key : ∀ j, j < L.length → (smE L l j N = (gE L j).2 ↔ eqn N (fE2 L j) (fun c => (l.getD c default).val)) := fun j hj => by
    have hl := hr.get hj
    unfold eqn smE
    rw [fE2_eq, cE_out (by omega), sumN_congr (n := N) (f := fun c => (gE L j).1.getD c 0 * (l.getD c default).val) (g := fun c => fE2 L j c * (l.getD c default).val) (fun c hc => by rw [fE2_eq, cE_in (by omega)])]
  unfold verR
  rw [Bool.not_eq_true']
  constructor
  · intro h j hj
    have := anyF_no h j (Nat.zero_le _) (by omega)
    have := of_decide_eq_false this
    exact (key j hj).1 (Classical.byContradiction this)
  · intro h
    exact anyF_all fun j _ hj => decide_eq_false (fun e => e ((key j (by omega)).2 (h j (by omega))))
theorem ver_eq {x : Trn} (hT : TOkT x) (l : List RD) : verR (eqsM x) x.n.toNat l = verB x l := by
  have h1 := verR_iff (l := l) (eqsM_rect hT)
  have h2 := verB_iff x l
  rw [← eqsM_len hT] at h1
  have h3 := h1.trans ((sol_congr (fun j hj c hc => (eqsM_f hT hj hc).symm) _).trans h2.symm)
  cases ha : verR (eqsM x) x.n.toNat l <;> cases hb : verB x l <;> simp [ha, hb] at h3 ⊢
theorem cmpQ_0 {a b : Rat} : cmpQ a b = 0 ↔ a = b := by
  unfold cmpQ
  constructor
  · intro h
    split at h
    · cases h
    · split at h
      · assumption
      · cases h
  · intro h
    subst h
    rw [if_neg (fun g => (Rat.not_lt.2 Rat.le_refl) g), if_pos rfl]
theorem smE_step (L : Eqs) (l : List RD) (j i : Nat) : smE L l j (i + 1) = smE L l j i + (gE L j).1.getD i 0 * (l.getD i default).val := rfl
set_option maxHeartbeats 3200000 in
theorem r51_Verify_ok (x : Trn) (l : List RD) {k kk : Nat} (hw : x.w kk) (hkk : kk ≤ 10) (hE : chkT x = 0) (hlN : (l.length : Int) = x.n) (hl : ∀ i, (l.getD i default).w k) (hk1 : 1 ≤ k) (hk : k ≤ 10000) : Pure Tryz.prog 20 [x.D, .sl 3 (l.map RD.D)] (dB (verR (eqsM x) x.n.toNat l)) := by
  refine Pure.intro (n := 47) tok Tryz.func20 rfl rfl rfl (Nat.le_of_ble_eq_true rfl) (by kernel_rfl) (fun B F0 w0 => ?_)
  have hT := chkT_ok hE
  have hrows := r51_equations_ok x hw hE
  have hsz := eqsM_sz hw hkk hT
  have hrect := eqsM_rect hT
  have hlen : (eqsM x).length ≤ 96 := by rw [← eqsM_len hT]; exact rowsM_len hT
  have n1 := hT.n1
  have n2 := hT.n2
  obtain ⟨N, hN⟩ : ∃ N : Nat, x.n = N := ⟨x.n.toNat, by omega⟩
  rw [show x.n.toNat = N by omega] at hrect ⊢
  rw [hN] at n1 n2 hlN
  clear hT hE
  generalize eqsM x = L at hrows hsz hrect hlen ⊢
  obtain ⟨n, ms, ps, gs⟩ := x
  dsimp only at hN
  subst hN
  have hvB : verR L N l = !anyF (fun j => decide (smE L l j N ≠ (gE L j).2)) L.length 0 := rfl
  generalize verR L N l = VB at hvB
  refine AW.seq ?_
  refine AW.region ?_   -- "ref.go:197"
  refine AOps.run tok 2 _ _ _ _ rfl ?_
  refine AOps.nil ?_
  refine AW.seq ?_
  refine AZ.aw ?_
  refine AZ.region ?_
  refine AZOps.cut 1 rfl (fun B1 F1 w1 => ?_)
  refine AOps.run tok 1 _ _ _ _ rfl ?_
  refine AOps.nil ⟨rfl, ?_⟩
  refine AZOps.callz tok [] rfl rfl rfl rfl rfl List.nodup_nil rfl hrows (fun _ _ _ => Nat.zero_le _) (fun res R1 hP => ?_)
  obtain ⟨V0, rfl, rfl⟩ := hP
  refine AZOps.cut 1 rfl (fun B1 F1 w1 => ?_)
  refine AOps.run tok 1 _ _ _ _ rfl ?_
  refine AOps.nil ⟨rfl, ?_⟩
  refine AZOps.to [1, 2, 5] [(1, .d (.sl 3 (l.map RD.D))), (2, .bx (XD N ms ps gs)), (5, .d (.v V0))] rfl ?_
  refine AZOps.adopt 5 0 (V := V0) (av := .ow 83 (EqsD L)) rfl rfl rfl ?_
  refine AZOps.to [1, 2, 5] [(1, .d (.sl 3 (l.map RD.D))), (2, .bx (XD N ms ps gs)), (5, .ow 83 (EqsD L))] rfl ?_
  refine AZOps.nil ?_
  refine AW.seq ?_
  refine AW.seq ?_
  refine AW.region ?_   -- "ref.go:199"
  refine AOps.frz tok 5 rfl rfl ?_
  refine AOps.run tok 1 _ _ _ _ rfl ?_
  refine AOps.nil ?_
  refine AW.block ?_   -- block 0
  refine AW.loopS [1, 2, 5, 6] (fun j : Nat => [(1, .d (.sl 3 (l.map RD.D))), (2, .bx (XD N ms ps gs)), (5, .d (.sl 4 (EqsD L))), (6, .d (dI j))]) (fun j => j ≤ L.length ∧ VB = !anyF (fun j => decide (smE L l j N ≠ (gE L j).2)) (L.length - j) j) (fun j => L.length - j) 0 rfl ⟨Nat.zero_le _, hvB⟩ (fun j hj => ?_)
  obtain ⟨hj, hvj⟩ := hj
  · skip
    refine AW.seq ?_
    refine AW.seq ?_
    refine AW.region ?_   -- "ref.go:199"
    refine AOps.run tok 3 _ _ _ _ rfl ?_
    rw [List.length_map]
    refine AOps.run tok 1 _ _ _ _ rfl ?_
    refine AOps.nil ?_
    refine AW.cond rfl (fun h => ?_) (fun h => ?_)
    · have hja : j < L.length := by have := of_decide_eq_true h; omega
      have hrj := hrect.get hja
      have hhit := anyF_hit (f := fun j => decide (smE L l j N ≠ (gE L j).2)) hja
      have hmiss := anyF_miss (f := fun j => decide (smE L l j N ≠ (gE L j).2)) hja
      refine AW.skip ?_
      refine AW.seq ?_
      refine AW.block ?_   -- block 1
      refine AW.seq ?_
      refine AW.region ?_   -- "ref.go:200"
      refine AOps.run tok 3 _ _ _ _ rfl ?_
      refine AOps.nil ?_
      refine AW.to [1, 2, 5, 6, 7] [(1, .d (.sl 3 (l.map RD.D))), (2, .bx (XD N ms ps gs)), (5, .d (.sl 4 (EqsD L))), (6, .d (dI j)), (7, .bx (Qr (smE L l j 0)).D.flat)] (by rw [show smE L l j 0 = 0 from rfl, Qr_zero]; rfl) ?_
      refine AW.seq ?_
      refine AW.seq ?_
      refine AW.region ?_   -- "ref.go:201"
      refine AOps.run tok 1 _ _ _ _ rfl ?_
      refine AOps.nil ?_
      refine AW.block ?_   -- block 2
      refine AW.loopS [1, 2, 5, 6, 7, 8] (fun i : Nat => [(1, .d (.sl 3 (l.map RD.D))), (2, .bx (XD N ms ps gs)), (5, .d (.sl 4 (EqsD L))), (6, .d (dI j)), (7, .bx (Qr (smE L l j i)).D.flat), (8, .d (dI i))]) (fun i => i ≤ l.length ∧ LQ (smE L l j i) ≤ 1 + i * 10011) (fun i => l.length - i) 0 rfl ⟨Nat.zero_le _, by show LQ 0 ≤ _; rw [LQ_zero]; omega⟩ (fun i hi => ?_)
      obtain ⟨hi, hsi⟩ := hi
      show AW _ _ _ _ _ _ _ [(1, .d (.sl 3 (l.map RD.D))), (2, .bx (XD N ms ps gs)), (5, .d (.sl 4 (EqsD L))), (6, .d (dI j)), (7, .bx (Qr (smE L l j i)).D.flat), (8, .d (dI i))]
      · skip
        refine AW.seq ?_
        refine AW.seq ?_
        refine AW.region ?_   -- "ref.go:201"
        refine AOps.run tok 3 _ _ _ _ rfl ?_
        rw [List.length_map]
        refine AOps.run tok 1 _ _ _ _ rfl ?_
        refine AOps.nil ?_
        refine AW.cond rfl (fun h => ?_) (fun h => ?_)
        · have hin : i < l.length := by have := of_decide_eq_true h; omega
          have hst := smE_step L l j i
          have q1 := hsz.c hrect hja i
          rw [show Xs 0 = 10 from rfl] at q1
          have q2 := LQ_val (hl i) hk1
          have q3 := LQ_mul ((gE L j).1.getD i 0) (l.getD i default).val
          have q4 := LQ_add (smE L l j i) ((gE L j).1.getD i 0 * (l.getD i default).val)
          have q5 : i * 10011 ≤ 15 * 10011 := Nat.mul_le_mul (by omega) (Nat.le_refl _)
          refine AW.skip ?_
          refine AW.seq ?_
          refine AW.block ?_   -- block 3
          refine AW.draw hmix 15 (by kernel_rfl) ?_   -- "ref.go:202"
          refine APre.run tok 3 _ _ _ _ rfl ?_
          refine APre.idx tok (EqD (gE L j)) rfl rfl rfl rfl rfl (Int.natCast_nonneg j) (getEq hja) ?_
          refine APre.run tok 3 _ _ _ _ rfl ?_
          refine APre.idx tok (Qr ((gE L j).1.getD i 0)).D rfl rfl rfl rfl rfl (Int.natCast_nonneg i) (getQ (by rw [Int.toNat_natCast, hrj]; omega)) ?_
          refine APre.run tok 3 _ _ _ _ rfl ?_
          refine APre.idx tok (l.getD i default).D rfl rfl rfl rfl rfl (Int.natCast_nonneg i) (getM RD.D hin) ?_
          refine APre.run tok 1 _ _ _ _ rfl ?_
          refine APre.call tok rfl rfl rfl rfl rfl (r02_Mul_ok (Qr ((gE L j).1.getD i 0)) (l.getD i default) (k := 10000) (Qr_w _ (by omega)) ((hl i).mono hk) (by decide)) ?_
          rw [Qr_val]
          refine APre.call tok rfl rfl rfl rfl rfl (r02_Add_ok (Qr (smE L l j i)) (Qr ((gE L j).1.getD i 0 * (l.getD i default).val)) (k := 20000000) (Qr_w _ (by omega)) (Qr_w _ (by omega)) (by decide)) ?_
          rw [Qr_val, Qr_val, ← hst]
          refine APre.nil ?_
          refine AOps.run tok 1 _ _ _ _ rfl ?_
          refine AOps.nil ?_
          refine AW.region ?_   -- "ref.go:201"
          refine AOps.run tok 2 _ _ _ _ rfl ?_
          rw [wI64 (x := (i : Int) + 1) (by omega) (by omega)]
          refine AOps.run tok 1 _ _ _ _ rfl ?_
          refine AOps.nil ?_
          exact ⟨i + 1, rfl, ⟨hin, by rw [hst]; omega⟩, by omega⟩
        have hin : i = N := by have := of_decide_eq_false h; omega
        subst hin
        have q5 : i * 10011 ≤ 16 * 10011 := Nat.mul_le_mul (by omega) (Nat.le_refl _)
        have q6 := hsz.v hja
        rw [show Xs 0 = 10 from rfl] at q6
        refine AW.exit ?_
          -- exit 2
        -- END OF BODY; what follows the loop (from its exit):
        refine AW.seq ?_
        refine AW.draw hmix 8 (by kernel_rfl) ?_   -- "ref.go:204"
        refine APre.run tok 3 _ _ _ _ rfl ?_
        refine APre.idx tok (EqD (gE L j)) rfl rfl rfl rfl rfl (Int.natCast_nonneg j) (getEq hja) ?_
        refine APre.run tok 2 _ _ _ _ rfl ?_
        refine APre.call tok rfl rfl rfl rfl rfl (r02_Cmp_ok (Qr (smE L l j i)) (Qr (gE L j).2) (k := 5000000) (Qr_w _ (by omega)) (Qr_w _ (by omega)) (by decide)) ?_
        rw [Qr_val, Qr_val]
        refine APre.run tok 1 _ _ _ _ rfl ?_
        refine APre.nil ?_
        refine AOps.nil ?_
        refine AW.cond rfl (fun h => ?_) (fun h => ?_)
        · have e : smE L l j i ≠ (gE L j).2 := fun e => bne_iff_ne.1 h (cmpQ_0.2 e)
          rw [hvj, hhit (decide_eq_true e)]
          refine AW.seq ?_
          refine AW.region ?_   -- "ref.go:205"
          refine AOps.run tok 1 _ _ _ _ rfl ?_
          refine AOps.nil ?_
          exact AW.ret rfl
        · have e : smE L l j i = (gE L j).2 := cmpQ_0.1 (bneF h)
          refine AW.skip ?_
          refine AW.region ?_   -- "ref.go:199"
          refine AOps.run tok 2 _ _ _ _ rfl ?_
          rw [wI64 (x := (j : Int) + 1) (by omega) (by omega)]
          refine AOps.run tok 1 _ _ _ _ rfl ?_
          refine AOps.nil ?_
          exact ⟨j + 1, rfl, ⟨hja, by rw [hvj, hmiss (decide_eq_false (fun g => g e))]⟩, by omega⟩
    have hja : ¬ j < L.length := by have := of_decide_eq_false h; omega
    rw [hvj, show L.length - j = 0 by omega, anyF]
    refine AW.exit ?_
      -- exit 0
    -- END OF BODY; what follows the loop (from its exit):
    refine AW.seq ?_
    refine AW.region ?_   -- "ref.go:208"
    refine AOps.run tok 1 _ _ _ _ rfl ?_
    refine AOps.nil ?_
    exact AW.ret rfl
theorem verE_0 {x : Trn} {l : List RD} (h : verE x l = 0) : chkT x = 0 ∧ (l.length : Int) = x.n := by
  unfold verE at h
  split at h
  · omega
  · rename_i h1
    split at h
    · cases h
    · rename_i h2
      exact ⟨by omega, Classical.byContradiction h2⟩
theorem g51_Verifies_ok (x : Trn) (l : List RD) (hx : x.big) (hl : l.length ≤ big) (hr : ∀ i, (l.getD i default).w big) : Pure Tryz.prog 5 [x.D, .sl 3 (l.map RD.D)] (dB true) := by
  refine Pure.intro (n := 69) tok Tryz.func5 rfl rfl rfl (Nat.le_of_ble_eq_true rfl) (by kernel_rfl) (fun B F0 w0 => ?_)
  have cL := g51_large_ok x hx
  have hsm := hx.small
  unfold big at hl
  refine AW.seq ?_
  refine AW.region ?_
  refine AOps.run tok 2 _ _ _ _ rfl ?_
  refine AOps.nil ?_
  refine AW.seq ?_
  refine AW.seq ?_
  refine AW.region ?_
  refine AOps.call tok rfl rfl rfl rfl g51_awake_ok ?_
  refine AOps.run tok 3 _ _ _ _ rfl ?_
  rcases hlg : lgT x with _ | _
  rotate_left
  · rw [hlg] at cL
    refine AOps.call tok rfl rfl rfl rfl cL ?_
    refine AOps.run tok 2 _ _ _ _ rfl ?_
    refine AOps.split (t := 15) rfl (fun h => ?_) (fun h => by cases h)
    refine AOps.run tok 4 _ _ _ _ rfl ?_
    refine AOps.nil ?_
    refine AW.condT rfl ?_
    refine AW.seq ?_
    refine AW.region ?_
    refine AOps.call tok rfl rfl rfl rfl g51_awake_ok ?_
    refine AOps.run tok 1 _ _ _ _ rfl ?_
    refine AOps.nil ?_
    exact AW.ret rfl
  rw [hlg] at cL
  have hsm := hsm hlg
  refine AOps.call tok rfl rfl rfl rfl cL ?_
  refine AOps.run tok 2 _ _ _ _ rfl ?_
  refine AOps.split (t := 15) rfl (fun h => by cases h) (fun h => ?_)
  refine AOps.run tok 2 _ _ _ _ rfl ?_
  rw [List.length_map]
  refine AOps.run tok 2 _ _ _ _ rfl ?_
  refine AOps.nil ?_
  refine AW.cond rfl (fun h => ?_) (fun h => ?_)
  · skip
    refine AW.seq ?_
    refine AW.region ?_
    refine AOps.call tok rfl rfl rfl rfl g51_awake_ok ?_
    refine AOps.run tok 1 _ _ _ _ rfl ?_
    refine AOps.nil ?_
    exact AW.ret rfl
  have hlen : l.length ≤ 100 := by have := of_decide_eq_false h; omega
  refine AW.skip ?_
  refine AW.seq ?_
  refine AW.seq ?_
  refine AW.region ?_
  refine AOps.run tok 1 _ _ _ _ rfl ?_
  refine AOps.nil ?_
  refine AW.block ?_
  refine AW.loopS [1, 2, 5] (fun i : Nat => [(1, .d (.sl 3 (l.map RD.D))), (2, .bx x.D.flat), (5, .d (dI i))]) (fun i => i ≤ l.length ∧ ∀ j, j < i → (l.getD j default).n.length + (l.getD j default).d.length ≤ 6) (fun i => l.length - i) 0 rfl ⟨Nat.zero_le _, fun j hj => by omega⟩ (fun i hi => ?_)
  obtain ⟨hi, hsmall⟩ := hi
  refine AW.seq ?_
  refine AW.seq ?_
  refine AW.region ?_
  refine AOps.run tok 3 _ _ _ _ rfl ?_
  rw [List.length_map]
  refine AOps.run tok 1 _ _ _ _ rfl ?_
  refine AOps.nil ?_
  refine AW.cond rfl (fun h => ?_) (fun h => ?_)
  · have hin : i < l.length := by have := of_decide_eq_true h; omega
    obtain ⟨_, _, l1, l2⟩ := hr i
    unfold big at l1 l2
    refine AW.skip ?_
    refine AW.seq ?_
    refine AW.block ?_
    refine AW.seq ?_
    refine AW.draw hmix 14 (by kernel_rfl) ?_
    refine APre.run tok 2 _ _ _ _ rfl ?_
    refine APre.idx tok (l.getD i default).D rfl rfl rfl rfl rfl (Int.natCast_nonneg i) (getM RD.D hin) ?_
    refine APre.run tok 5 _ _ _ _ rfl ?_
    refine APre.idx tok (l.getD i default).D rfl rfl rfl rfl rfl (Int.natCast_nonneg i) (getM RD.D hin) ?_
    refine APre.run tok 5 _ _ _ _ rfl ?_
    rw [List.length_map, List.length_map, wI64 (by omega) (by omega)]
    refine APre.nil ?_
    refine AOps.nil ?_
    refine AW.cond rfl (fun h => ?_) (fun h => ?_)
    · skip
      refine AW.seq ?_
      refine AW.region ?_
      refine AOps.run tok 1 _ _ _ _ rfl ?_
      refine AOps.nil ?_
      exact AW.ret rfl
    · refine AW.skip ?_
      refine AW.region ?_
      refine AOps.run tok 2 _ _ _ _ rfl ?_
      rw [wI64 (x := (i : Int) + 1) (by omega) (by omega)]
      refine AOps.run tok 1 _ _ _ _ rfl ?_
      refine AOps.nil ?_
      exact ⟨i + 1, rfl, ⟨hin, fun j hj => by
        by_cases e : j = i
        · subst e; have := of_decide_eq_false h; omega
        · exact hsmall j (by omega)⟩, by omega⟩
  have hin : i = l.length := by have := of_decide_eq_false h; omega
  subst hin
  refine AW.exit ?_
  have hw6 : ∀ i, (l.getD i default).w 6 := fun i => by
    rcases Nat.lt_or_ge i l.length with hi | hi
    · have h2 := hsmall i hi
      obtain ⟨a, b, _, _⟩ := hr i
      exact ⟨a, b, by omega, by omega⟩
    · rw [List.getD_eq_getElem?_getD, List.getElem?_eq_none hi]
      exact ⟨fun _ h => (by cases h), fun _ h => (by cases h), Nat.zero_le _, Nat.zero_le _⟩
  have cV := gear_Verify_ok x l (k := 6) (kk := 6) hsm (by decide) hw6 (by decide) (by decide) (by omega)
  have cS := r51_CheckSpeeds_ok x l (k := 6) (kk := 6) hsm (by decide) hw6 (by decide) (by omega)
  have hvT : verT x l = if verE x l = 0 then .tu [dB (verB x l), nilE] else .tu [dB false, erV (verE x l)] := rfl
  refine AW.seq ?_
  refine AW.region ?_
  refine AOps.run tok 2 _ _ _ _ rfl ?_
  rcases hE : verE x l with _ | m
  rotate_left
  · rw [hE] at cS hvT
    rw [if_neg (by omega)] at hvT
    rw [hvT] at cV
    refine AOps.call tok rfl rfl rfl rfl cV ?_
    refine AOps.run tok 5 _ _ _ _ rfl ?_
    refine AOps.nil ?_
    refine AW.seq ?_
    refine AW.seq ?_
    refine AW.region ?_
    refine AOps.run tok 2 _ _ _ _ rfl ?_
    refine AOps.call tok rfl rfl rfl rfl cS ?_
    refine AOps.run tok 1 _ _ _ _ rfl ?_
    refine AOps.nil ?_
    refine AW.seq ?_
    refine AW.region ?_
    refine AOps.run tok 2 _ _ _ _ rfl ?_
    refine AOps.nil ?_
    refine AW.cond rfl (fun h => ?_) (fun h => absurd (bneF h) (by omega))
    refine AW.seq ?_
    refine AW.region ?_
    refine AOps.run tok 3 _ _ _ _ rfl ?_
    refine AOps.split (t := 54) rfl (fun h => ?_) (fun h => by cases h)
    refine AOps.run tok 1 _ _ _ _ rfl ?_
    refine AOps.call tok rfl rfl rfl rfl (base_Num_ok (m + 1)) ?_
    refine AOps.run tok 2 _ _ _ _ rfl ?_
    refine AOps.split (t := 58) rfl (fun h => ?_) (fun h => absurd h (by simp))
    refine AOps.run tok 2 _ _ _ _ rfl ?_
    refine AOps.nil ?_
    exact AW.ret rfl
  rw [hE] at cS hvT
  rw [if_pos rfl] at hvT
  rw [hvT] at cV
  obtain ⟨hC, hlN⟩ := verE_0 hE
  have cR := r51_Verify_ok x l (k := 6) (kk := 6) hsm (by decide) hC hlN hw6 (by decide) (by decide)
  rw [ver_eq (chkT_ok hC)] at cR
  refine AOps.call tok rfl rfl rfl rfl cV ?_
  refine AOps.run tok 5 _ _ _ _ rfl ?_
  refine AOps.nil ?_
  refine AW.seq ?_
  refine AW.seq ?_
  refine AW.region ?_
  refine AOps.run tok 2 _ _ _ _ rfl ?_
  refine AOps.call tok rfl rfl rfl rfl cS ?_
  refine AOps.run tok 1 _ _ _ _ rfl ?_
  refine AOps.nil ?_
  refine AW.seq ?_
  refine AW.region ?_
  refine AOps.run tok 2 _ _ _ _ rfl ?_
  refine AOps.nil ?_
  refine AW.condF rfl ?_
  refine AW.skip ?_
  refine AW.seq ?_
  refine AW.region ?_
  refine AOps.run tok 1 _ _ _ _ rfl ?_
  refine AOps.err tok rfl rfl rfl rfl rfl ?_
  refine AOps.run tok 1 _ _ _ _ rfl ?_
  refine AOps.split (t := 62) rfl (fun h => ?_) (fun h => by cases h)
  refine AOps.run tok 3 _ _ _ _ rfl ?_
  refine AOps.call tok rfl rfl rfl rfl cR ?_
  refine AOps.be tok rfl rfl rfl rfl ?_
  refine AOps.split (t := 67) rfl (fun h => ?_) (fun h => absurd h (by simp))
  refine AOps.run tok 2 _ _ _ _ rfl ?_
  refine AOps.nil ?_
  exact AW.ret rfl
end Lift
/- What GearVerifies stands on. -/
