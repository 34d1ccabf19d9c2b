/- Parts of the proof, one behind the other: the logic, the contracts of the functions that the statement reaches. -/
import Derived.Test.YtockcpjjfcdopaaGreatGwD
import Derived.OrdersHeld
set_option linter.unusedVariables false
set_option linter.unusedSimpArgs false
/- The rows of a train's equations. -/
namespace Lift
open Go Go.Proofs

abbrev QsD (r : List Rat) : List D := r.map (fun q => (Qr q).D)
theorem getQ {r : List Rat} {i : Nat} (h : i < r.length) : (QsD r)[i]? = some (Qr (r.getD i 0)).D := by simp [h]
section
variable {P : Program} {T : Ty} {B : Nat} {F0 : Nat → Prop} {w0 : Bas} {n : Nat} {σ τ : St} {K : St → Prop} {all : Array Oper} {o : Oper} {d : Nat} {rest : List Oper}
theorem AOps.storeQ (hT : TOk P T) {k e i : Nat} {r : List Rat} (q : Rat) (hd : o.dst = none) (hg : guardOk all σ o = true) (hx : seF T σ o.op = some (k, .ow e (QsD r), QsD r, i, 0, (Qr q).D)) (hi : i < r.length)
    (h : AOps P B F0 w0 n all rest K ((k, .ow e (QsD (r.set i q))) :: σ)) : AOps P B F0 w0 n all (o :: rest) K σ := by
  refine AOps.storeel hT (Qr (r.getD i 0)).D hd hg hx (getQ hi) rfl ?_
  show AOps P B F0 w0 n all rest K ((k, .ow e ((QsD r).set i (Qr q).D)) :: σ)
  rw [show (QsD r).set i (Qr q).D = QsD (r.set i q) from (List.map_set ..).symm]
  exact h
theorem StOk.elQ {h e i : Nat} {r : List Rat} (q : Rat) (hx : seF T τ o.op = some (h, .ow e (QsD r), QsD r, i, 0, (Qr q).D)) (hi : i < r.length) : StOk T τ o h (.ow e (QsD (r.set i q))) := by
  have := StOk.el hx (getQ hi) rfl
  rw [show QsD (r.set i q) = (QsD r).set i (Qr q).D from List.map_set ..]
  exact this
end

/-- The rows of a train's equations: the coefficients, and the right side. -/
def zrR (n : Int) : List Rat := List.replicate (n + 1).toNat 0
def rwM (n : Int) (m : Msh) : List Rat := ((zrR n).set m.a.toNat (m.ta : Rat)).set m.b.toNat (((if m.inn = true then -m.tb else m.tb : Int)) : Rat)
def rwP (n : Int) (p : Plt) : List Rat := (((zrR n).set p.s.toNat (p.ts : Rat)).set p.r.toNat (p.tr : Rat)).set p.c.toNat ((-p.ts - p.tr : Int) : Rat)
def rwS (n : Int) (s : Spd) : List Rat := ((zrR n).set s.sh.toNat ((1 : Int) : Rat)).set n.toNat s.v.val
def rowsM (x : Trn) : Mt := x.ms.map (rwM x.n) ++ x.ps.map (rwP x.n) ++ x.gs.map (rwS x.n)
def LRs (Vs : List Value) (a : Mt) : List LR := List.zipWith (fun V r => (V, AV.ow 41 (QsD r))) Vs a
theorem LRs_snoc {Vs : List Value} {a : Mt} (h : Vs.length = a.length) (V : Value) (r : List Rat) : LRs (Vs ++ [V]) (a ++ [r]) = LRs Vs a ++ [(V, AV.ow 41 (QsD r))] := by
  unfold LRs; rw [List.zipWith_append h]; rfl
theorem LRs_get {Vs : List Value} {a : Mt} {j : Nat} (hV : j < Vs.length) (ha : j < a.length) : (LRs Vs a)[j]? = some (Vs.getD j undef, AV.ow 41 (QsD (a.getD j []))) := by
  unfold LRs
  simp [List.getElem?_zipWith, hV, ha]
theorem LRs_set {Vs : List Value} {a : Mt} {j : Nat} (hV : j < Vs.length) (r : List Rat) : (LRs Vs a).set j (Vs.getD j undef, AV.ow 41 (QsD r)) = LRs Vs (a.set j r) := by
  unfold LRs
  refine List.ext_getElem? (fun k => ?_)
  by_cases hk : k = j
  · subst hk
    rcases Nat.lt_or_ge k a.length with h | h
    · rw [List.getElem?_set_self (by simp; omega)]
      simp [List.getElem?_zipWith, hV, h]
    · rw [List.getElem?_eq_none (by simp; omega), List.getElem?_eq_none (by simp; omega)]
  · rw [List.getElem?_set_ne (Ne.symm hk)]
    simp [List.getElem?_zipWith, List.getElem?_set_ne (Ne.symm hk)]
abbrev VsD (Vs : List Value) : List D := Vs.map D.v
theorem getVs {Vs : List Value} {i : Nat} (h : i < Vs.length) : (VsD Vs)[i]? = some (.v (Vs.getD i undef)) := by simp [h]
theorem take_snoc {α : Type} [Inhabited α] (l : List α) {i : Nat} (h : i < l.length) : l.take (i + 1) = l.take i ++ [l.getD i default] := by
  rw [List.take_add_one]; simp [h]

/-- What is right of a train that is accepted. -/
structure TOkT (x : Trn) : Prop where
  n1 : 1 ≤ x.n
  n2 : x.n ≤ 16
  ms : x.ms.length ≤ 32
  ps : x.ps.length ≤ 32
  gs : x.gs.length ≤ 32
  m : ∀ i, i < x.ms.length → mshE x.n (x.ms.getD i default) = 0
  p : ∀ i, i < x.ps.length → pltE x.n (x.ps.getD i default) = 0
  g : ∀ i, i < x.gs.length → spdE x.n (x.gs.getD i default) = 0
theorem fE_zero {f : Nat → Nat} : ∀ {m i : Nat}, fE f m i = 0 → ∀ k, i ≤ k → k < i + m → f k = 0
  | 0, i, _, k, h1, h2 => by omega
  | m + 1, i, h, k, h1, h2 => by
    simp only [fE] at h
    split at h
    · rename_i h0
      rcases Nat.eq_or_lt_of_le h1 with e | e
      · rw [← e]; exact h0
      · exact fE_zero h k e (by omega)
    · rename_i h0; exact absurd h h0
theorem chkT_ok {x : Trn} (h : chkT x = 0) : TOkT x := by
  unfold chkT at h
  split at h
  · cases h
  rename_i h1
  split at h
  · cases h
  rename_i h2
  split at h
  · rename_i h3; exact absurd h h3
  rename_i h3
  split at h
  · rename_i h4; exact absurd h h4
  rename_i h4
  simp only [ne_eq, Decidable.not_not] at h3 h4
  exact ⟨by omega, by omega, by omega, by omega, by omega, fun i hi => fE_zero h3 i (Nat.zero_le _) (by omega), fun i hi => fE_zero h4 i (Nat.zero_le _) (by omega), fun i hi => fE_zero h i (Nat.zero_le _) (by omega)⟩
theorem mshE_ok {n : Int} {m : Msh} (h : mshE n m = 0) : (0 ≤ m.a ∧ m.a < n) ∧ (0 ≤ m.b ∧ m.b < n) ∧ m.a ≠ m.b ∧ (1 ≤ m.ta ∧ m.ta ≤ 10000) ∧ 1 ≤ m.tb ∧ m.tb ≤ 10000 := by
  unfold mshE at h
  repeat' split at h
  all_goals (try (cases h; done))
  rename_i h1 h2 h3
  simp only [Bool.not_eq_false, Bool.and_eq_true, inS_yes] at h1
  unfold thB at h3
  simp only [decide_eq_false_iff_not, Decidable.not_not] at h3
  exact ⟨h1.1, h1.2, h2, h3.1, h3.2⟩
theorem pltE_ok {n : Int} {m : Plt} (h : pltE n m = 0) : (0 ≤ m.s ∧ m.s < n) ∧ (0 ≤ m.r ∧ m.r < n) ∧ (0 ≤ m.c ∧ m.c < n) ∧ (m.s ≠ m.r ∧ m.s ≠ m.c ∧ m.r ≠ m.c) ∧ (1 ≤ m.ts ∧ m.ts ≤ 10000) ∧ 1 ≤ m.tr ∧ m.tr ≤ 10000 := by
  unfold pltE at h
  repeat' split at h
  all_goals (try (cases h; done))
  rename_i h1 h2 h3
  simp only [Bool.not_eq_false, Bool.and_eq_true, inS_yes] at h1
  unfold thB at h3
  simp only [decide_eq_false_iff_not, Decidable.not_not] at h3
  exact ⟨h1.1, h1.2.1, h1.2.2, ⟨fun e => h2 (.inl e), fun e => h2 (.inr (.inl e)), fun e => h2 (.inr (.inr e))⟩, h3.1, h3.2⟩
theorem spdE_ok {n : Int} {m : Spd} (h : spdE n m = 0) : (0 ≤ m.sh ∧ m.sh < n) ∧ m.v.okB = true := by
  unfold spdE at h
  repeat' split at h
  all_goals (try (cases h; done))
  rename_i h1 h2
  simp only [Bool.not_eq_false, inS_yes] at h1 h2
  exact ⟨h1, h2⟩
/-- A valid fraction is the one form of its value. -/
theorem RD.canon {r : RD} {k : Nat} (hw : r.w k) (h : r.okB = true) : r = Qr r.val := by
  by_cases hn : r.n = []
  · have hv := RD.val_nil hn
    rw [hv, Qr_zero]
    obtain ⟨g, m, d⟩ := r
    dsimp only at hn
    subst hn
    unfold RD.okB at h
    simp only [true_and] at h
    split at h
    · rename_i hd; subst hd; simpa using h
    · simp at h
  · obtain ⟨h1, h2, h3, h4, h5, h6⟩ := RD.parts hw h hn
    obtain ⟨g, m, d⟩ := r
    dsimp only at h3 h4 h5 hn
    unfold Qr
    rw [if_neg h6, ← h4, ← h5, ← h3]
theorem zrR_len {n : Int} (h : 1 ≤ n) : (zrR n).length = n.toNat + 1 := by unfold zrR; rw [List.length_replicate]; omega
section
variable {P : Program} {T : Ty} {B : Nat} {F0 : Nat → Prop} {w0 : Bas} {n : Nat} {σ τ : St} {K : St → Prop} {all : Array Oper} {o : Oper} {d : Nat} {rest : List Oper}
theorem AOps.makeQ (hT : TOk P T) (z : Int) {e : Nat} {te : TI} {m : Int} (hd : o.dst = some d) (hdn : Nat.ble (d + 1) n = true) (hg : guardOk all σ o = true) (hx : mkF T σ.get o.op = some (e, te, m)) (hz : zeroOk te = true) (hzd : zeroD te = .ag [.v (.bool false), .sl 1 [], .sl 1 []]) (hb : te.bytes = 56) (hm : m = z + 1) (h0 : 0 ≤ z) (h1 : z ≤ 1000)
    (h : AOps P B F0 w0 n all rest K ((d, .ow e (QsD (zrR z))) :: σ.kill d)) : AOps P B F0 w0 n all (o :: rest) K σ := by
  subst hm
  refine AOps.make hT hd hdn hg hx hz (by omega) (by rw [hb]; omega) (by omega) ?_
  have hq : (Qr 0).D = .ag [.v (.bool false), .sl 1 [], .sl 1 []] := by rw [Qr_zero]; rfl
  rw [hzd, ← hq, show List.replicate (z + 1).toNat (Qr 0).D = QsD (zrR z) by rw [QsD, zrR, List.map_replicate]]
  exact h
end
/-- What rows hands back. -/
def rowsPost (a : Mt) (res : D) (R' : List LR) : Prop := ∃ V0 Vs, Vs.length = a.length ∧ res = .v V0 ∧ R' = LRs Vs a ++ [(V0, AV.ow 29 (VsD Vs))]

set_option maxHeartbeats 3200000 in
theorem gear_rows_ok (x : Trn) {k : Nat} (hw : x.w k) (h : chkT x = 0) : CallZ Tryz.prog 25 [x.D] [] (rowsPost (rowsM x)) := by
  refine CallZ.intro (n := 118) tok Tryz.func25 rfl rfl rfl (Nat.le_of_ble_eq_true rfl) (by kernel_rfl) (fun B F0 w0 => ?_)
  obtain ⟨n1, n2, o1, o2, o3, hm, hp, hg⟩ := chkT_ok h
  have hgw := hw.2.2.2
  obtain ⟨n, ms, ps, gs⟩ := x
  dsimp only at n1 n2 o1 o2 o3 hm hp hg hgw
  refine AZ.seq ?_
  refine AZ.reg (fun B1 F1 w1 => ?_)   -- "gear.go:64"
  refine AOps.run tok 2 _ _ _ _ rfl ?_
  refine AOps.nil ⟨rfl, ?_⟩
  refine AZ.seq ?_
  refine AZ.reg (fun B1 F1 w1 => ?_)   -- "gear.go:65"
  refine AOps.run tok 1 _ _ _ _ rfl ?_
  refine AOps.nil ⟨rfl, ?_⟩
  refine AZ.seq ?_
  refine AZ.seq ?_
  refine AZ.reg (fun B1 F1 w1 => ?_)   -- "gear.go:66"
  refine AOps.run tok 4 _ _ _ _ rfl ?_
  rw [List.length_map]
  refine AOps.nil ⟨rfl, ?_⟩
  refine AZ.block ?_   -- block 0
  refine AZ.loopS [1, 3, 15, 16, 17] (fun s : Nat × List Value => (LRs s.2 ((ms.take s.1).map (rwM n)), [(1, .bx [dI n, MshsD ms, PltsD ps, SpdsD gs]), (3, .ow 29 (VsD s.2)), (15, .d (MshsD ms)), (16, .d (dI ms.length)), (17, .d (dI s.1))]))
    (fun s => s.1 ≤ ms.length ∧ s.2.length = s.1) (fun s => ms.length - s.1) (0, []) rfl ⟨Nat.zero_le _, rfl⟩ (fun s hs => ?_)
  obtain ⟨i, Vs⟩ := s
  obtain ⟨hi, hV⟩ := hs
  · show AZ _ _ _ _ _ _ _ (LRs Vs ((ms.take i).map (rwM n))) [(1, .bx [dI n, MshsD ms, PltsD ps, SpdsD gs]), (3, .ow 29 (VsD Vs)), (15, .d (MshsD ms)), (16, .d (dI ms.length)), (17, .d (dI i))]
    simp only at hi hV
    refine AZ.seq ?_
    refine AZ.reg (fun B1 F1 w1 => ?_)   -- "gear.go:66"
    refine AOps.run tok 1 _ _ _ _ rfl ?_
    refine AOps.nil ⟨rfl, ?_⟩
    refine AZ.seq ?_
    refine AZ.cond rfl (fun h => ?_) (fun h => ?_)
    · have hin : i < ms.length := by have := of_decide_eq_true h; omega
      have hid : (ms.map Msh.D)[i]? = some (ms.getD i default).D := getM Msh.D hin
      have hmi := mshE_ok (hm i hin)
      have htk := take_snoc ms hin
      generalize ms.getD i default = m at hid hmi htk
      obtain ⟨⟨a1, a2⟩, ⟨b1, b2⟩, hab, ⟨c1, c2⟩, d1, d2⟩ := hmi
      refine AZ.skip ?_
      refine AZ.seq ?_
      refine AZ.block ?_   -- block 1
      refine AZ.seq ?_
      refine AZ.reg (fun B1 F1 w1 => ?_)   -- "gear.go:66"
      refine AOps.idx tok m.D rfl rfl rfl rfl (Int.natCast_nonneg i) hid ?_
      refine AOps.run tok 3 _ _ _ _ rfl ?_
      refine AOps.nil ⟨rfl, ?_⟩
      refine AZ.seq ?_
      refine AZ.reg (fun B1 F1 w1 => ?_)   -- "gear.go:67"
      refine AOps.run tok 3 _ _ _ _ rfl ?_
      rw [wI64 (by omega) (by omega)]
      refine AOps.makeQ tok n rfl rfl rfl rfl rfl rfl rfl rfl (by omega) (by omega) ?_
      refine AOps.run tok 1 _ _ _ _ rfl ?_
      refine AOps.nil ⟨rfl, ?_⟩
      refine AZ.to [1, 3, 5, 6, 15, 16, 17] [(1, .bx [dI n, MshsD ms, PltsD ps, SpdsD gs]), (3, .ow 29 (VsD Vs)), (5, .bx m.D.flat), (6, .ow 41 (QsD (zrR n))), (15, .d (MshsD ms)), (16, .d (dI ms.length)), (17, .d (dI i))] rfl ?_
      refine AZ.seq ?_
      refine AZ.reg (fun B1 F1 w1 => ?_)   -- "gear.go:68"
      refine AOps.run tok 3 _ _ _ _ rfl ?_
      refine AOps.nil ⟨rfl, ?_⟩
      refine AZ.cut [1, 3, 5, 6, 7, 15, 16, 17] (fun z : Int => (LRs Vs ((ms.take i).map (rwM n)), [(1, .bx [dI n, MshsD ms, PltsD ps, SpdsD gs]), (3, .ow 29 (VsD Vs)), (5, .bx m.D.flat), (6, .ow 41 (QsD (zrR n))), (7, .d (dI z)), (15, .d (MshsD ms)), (16, .d (dI ms.length)), (17, .d (dI i))])) (fun z => z = if m.inn = true then -m.tb else m.tb) ?_ (fun z hz => ?_)
      · refine AZ.seq ?_
        refine AZ.reg (fun B1 F1 w1 => ?_)
        refine AOps.run tok 2 _ _ _ _ rfl ?_
        refine AOps.nil ⟨rfl, ?_⟩
        refine AZ.cond rfl (fun h => ?_) (fun h => ?_)
        · refine AZ.reg (fun B1 F1 w1 => ?_)
          refine AOps.run tok 3 _ _ _ _ rfl ?_
          rw [wI64 (by omega) (by omega)]
          refine AOps.nil ⟨rfl, ?_⟩
          exact ⟨0 - m.tb, rfl, by rw [if_pos h]; omega⟩
        · refine AZ.skip ?_
          exact ⟨m.tb, rfl, by rw [if_neg (by rw [h]; simp)]⟩
      · show AZ _ _ _ _ _ _ _ (LRs Vs ((ms.take i).map (rwM n))) [(1, .bx [dI n, MshsD ms, PltsD ps, SpdsD gs]), (3, .ow 29 (VsD Vs)), (5, .bx m.D.flat), (6, .ow 41 (QsD (zrR n))), (7, .d (dI z)), (15, .d (MshsD ms)), (16, .d (dI ms.length)), (17, .d (dI i))]
        have hz1 : -10000 ≤ z ∧ z ≤ 10000 := by subst hz; split <;> omega
        refine AZ.seq ?_
        refine AZ.frame (fun B1 F1 w1 => AW.any hmix (AAny.early 3 (by kernel_rfl) (fun _ _ h => h.2) (AAny.front 3 rfl (AAny.draw3 tok [(4, true), (2, false), (6, true)] 12 [6] (by kernel_rfl) ⟨rfl, ?_⟩))))
        refine APre.run tok 4 _ _ _ _ rfl ?_
        refine APre.nil ⟨rfl, ?_⟩
        refine APre.run tok 2 _ _ _ _ rfl ?_
        refine APre.nil ⟨rfl, ?_⟩
        refine APre.run tok 2 _ _ _ _ rfl ?_
        refine APre.call tok rfl rfl rfl rfl rfl (fraction_Of_ok m.ta (by omega) (by omega)) ?_
        refine APre.run tok 1 _ _ _ _ rfl ?_
        refine APre.call tok rfl rfl rfl rfl rfl (fraction_Of_ok z (by omega) (by omega)) ?_
        refine APre.idxo tok rfl rfl rfl rfl rfl rfl a1 (by rw [List.length_map, zrR_len n1]; omega) ?_
        refine APre.nil ⟨_, StL.cons (StOk.elQ (m.ta : Rat) rfl (by rw [zrR_len n1]; omega)) StL.nil, ?_⟩
        refine AOps.idxo tok rfl rfl rfl rfl b1 (by rw [List.length_map, List.length_set, zrR_len n1]; omega) ?_
        refine AOps.storeQ tok (z : Rat) rfl rfl rfl (by rw [List.length_set, zrR_len n1]; omega) ?_
        refine AOps.nil ⟨rfl, ?_⟩
        refine AZ.loosen 6 rfl rfl rfl (fun V => ?_)
        refine AZ.to [1, 3, 6, 15, 16, 17] [(1, .bx [dI n, MshsD ms, PltsD ps, SpdsD gs]), (3, .ow 29 (VsD Vs)), (6, .d (.v V)), (15, .d (MshsD ms)), (16, .d (dI ms.length)), (17, .d (dI i))] rfl ?_
        refine AZ.reg (fun B1 F1 w1 => ?_)
        refine AOps.run tok 2 _ _ _ _ rfl ?_
        refine AOps.bs tok rfl rfl rfl rfl ?_
        refine AOps.appo tok rfl rfl rfl rfl rfl rfl (by show ((VsD Vs).length + 1) * 24 ≤ _; rw [List.length_map]; omega) (by show (VsD Vs).length + 1 ≤ _; rw [List.length_map]; omega) ?_
        refine AOps.run tok 1 _ _ _ _ rfl ?_
        refine AOps.nil ⟨rfl, ?_⟩
        refine AZ.reg (fun B1 F1 w1 => ?_)
        refine AOps.run tok 2 _ _ _ _ rfl ?_
        rw [wI64 (x := (i : Int) + 1) (by omega) (by omega)]
        refine AOps.nil ⟨rfl, ?_⟩
        refine ⟨(i + 1, Vs ++ [V]), Prod.ext ?_ ?_, ⟨hin, by simp [hV]⟩, by show ms.length - (i + 1) < ms.length - i; omega⟩
        · show LRs Vs _ ++ [_] = LRs (Vs ++ [V]) ((ms.take (i + 1)).map (rwM n))
          rw [htk, List.map_append, List.map_cons, List.map_nil, LRs_snoc (by rw [List.length_map, List.length_take]; omega), rwM, ← hz]
        · show _ = [(1, AV.bx [dI n, MshsD ms, PltsD ps, SpdsD gs]), (3, .ow 29 (VsD (Vs ++ [V]))), (15, .d (MshsD ms)), (16, .d (dI ms.length)), (17, .d (dI ((i + 1 : Nat) : Int)))]
          rw [show VsD (Vs ++ [V]) = VsD Vs ++ [.v V] by simp]
          rfl
    have hin : ¬ i < ms.length := by have := of_decide_eq_false h; omega
    have hie : i = ms.length := by omega
    subst hie
    rw [List.take_length]
    refine AZ.exit ?_
      -- exit 0
    -- END OF BODY; what follows the loop (from its exit):
    refine AZ.seq ?_
    refine AZ.seq ?_
    refine AZ.reg (fun B1 F1 w1 => ?_)   -- "gear.go:75"
    refine AOps.run tok 4 _ _ _ _ rfl ?_
    rw [List.length_map]
    refine AOps.nil ⟨rfl, ?_⟩
    refine AZ.block ?_   -- block 2
    refine AZ.loopS [1, 3, 50, 51, 52] (fun s : Nat × List Value => (LRs s.2 (ms.map (rwM n) ++ (ps.take s.1).map (rwP n)), [(1, .bx [dI n, MshsD ms, PltsD ps, SpdsD gs]), (3, .ow 29 (VsD s.2)), (50, .d (PltsD ps)), (51, .d (dI ps.length)), (52, .d (dI s.1))]))
      (fun s => s.1 ≤ ps.length ∧ s.2.length = ms.length + s.1) (fun s => ps.length - s.1) (0, Vs) (by rw [List.take_zero, List.map_nil, List.append_nil]; rfl) ⟨Nat.zero_le _, hV⟩ (fun s hs => ?_)
    obtain ⟨i, Vs⟩ := s
    obtain ⟨hi, hV⟩ := hs
    · show AZ _ _ _ _ _ _ _ (LRs Vs (ms.map (rwM n) ++ (ps.take i).map (rwP n))) [(1, .bx [dI n, MshsD ms, PltsD ps, SpdsD gs]), (3, .ow 29 (VsD Vs)), (50, .d (PltsD ps)), (51, .d (dI ps.length)), (52, .d (dI i))]
      simp only at hi hV
      refine AZ.seq ?_
      refine AZ.reg (fun B1 F1 w1 => ?_)   -- "gear.go:75"
      refine AOps.run tok 1 _ _ _ _ rfl ?_
      refine AOps.nil ⟨rfl, ?_⟩
      refine AZ.seq ?_
      refine AZ.cond rfl (fun h => ?_) (fun h => ?_)
      · have hin : i < ps.length := by have := of_decide_eq_true h; omega
        have hid : (ps.map Plt.D)[i]? = some (ps.getD i default).D := getM Plt.D hin
        have hmi := pltE_ok (hp i hin)
        have htk := take_snoc ps hin
        generalize ps.getD i default = m at hid hmi htk
        obtain ⟨⟨a1, a2⟩, ⟨b1, b2⟩, ⟨g1, g2⟩, _, ⟨c1, c2⟩, d1, d2⟩ := hmi
        refine AZ.skip ?_
        refine AZ.seq ?_
        refine AZ.block ?_   -- block 3
        refine AZ.seq ?_
        refine AZ.reg (fun B1 F1 w1 => ?_)   -- "gear.go:75"
        refine AOps.idx tok m.D rfl rfl rfl rfl (Int.natCast_nonneg i) hid ?_
        refine AOps.run tok 3 _ _ _ _ rfl ?_
        refine AOps.nil ⟨rfl, ?_⟩
        refine AZ.seq ?_
        refine AZ.reg (fun B1 F1 w1 => ?_)   -- "gear.go:76"
        refine AOps.run tok 3 _ _ _ _ rfl ?_
        rw [wI64 (by omega) (by omega)]
        refine AOps.makeQ tok n rfl rfl rfl rfl rfl rfl rfl rfl (by omega) (by omega) ?_
        refine AOps.run tok 1 _ _ _ _ rfl ?_
        refine AOps.nil ⟨rfl, ?_⟩
        refine AZ.to [1, 3, 9, 10, 50, 51, 52] [(1, .bx [dI n, MshsD ms, PltsD ps, SpdsD gs]), (3, .ow 29 (VsD Vs)), (9, .bx m.D.flat), (10, .ow 41 (QsD (zrR n))), (50, .d (PltsD ps)), (51, .d (dI ps.length)), (52, .d (dI i))] rfl ?_
        refine AZ.cut [1, 3, 10, 50, 51, 52] (fun _ : Unit => (LRs Vs (ms.map (rwM n) ++ (ps.take i).map (rwP n)), [(1, .bx [dI n, MshsD ms, PltsD ps, SpdsD gs]), (3, .ow 29 (VsD Vs)), (10, .ow 41 (QsD ((((zrR n).set m.s.toNat (m.ts : Rat)).set m.r.toNat (m.tr : Rat)).set m.c.toNat ((0 - m.ts - m.tr : Int) : Rat)))), (50, .d (PltsD ps)), (51, .d (dI ps.length)), (52, .d (dI i))])) (fun _ => True) ?_ (fun _ _ => ?_)
        · refine AZ.frame (fun B1 F1 w1 => AW.any hmix (AAny.early 3 (by kernel_rfl) (fun _ _ h => h.2) (AAny.early2 3 6 (by kernel_rfl) (fun _ _ h => h.2) (AAny.front 6 rfl (AAny.front 4 rfl (AAny.draw4 tok [(5, true), (4, false), (14, true)] 23 [10] 7 8 (by kernel_rfl) ⟨rfl, ?_⟩))))))
          refine APre.run tok 5 _ _ _ _ rfl ?_
          refine APre.nil ⟨rfl, ?_⟩
          refine APre.run tok 4 _ _ _ _ rfl ?_
          refine APre.nil ⟨rfl, ?_⟩
          refine APre.run tok 2 _ _ _ _ rfl ?_
          refine APre.call tok rfl rfl rfl rfl rfl (fraction_Of_ok m.ts (by omega) (by omega)) ?_
          refine APre.run tok 2 _ _ _ _ rfl ?_
          refine APre.call tok rfl rfl rfl rfl rfl (fraction_Of_ok m.tr (by omega) (by omega)) ?_
          refine APre.run tok 6 _ _ _ _ rfl ?_
          rw [wI64 (x := 0 - m.ts) (by omega) (by omega), wI64 (by omega) (by omega)]
          refine APre.call tok rfl rfl rfl rfl rfl (fraction_Of_ok (0 - m.ts - m.tr) (by omega) (by omega)) ?_
          refine APre.idxo tok rfl rfl rfl rfl rfl rfl a1 (by rw [List.length_map, zrR_len n1]; omega) ?_
          refine APre.nil ⟨_, StL.cons (StOk.elQ (m.ts : Rat) rfl (by rw [zrR_len n1]; omega)) StL.nil, ?_, ?_, ?_⟩
          · refine Ords.one (j := 24) (by kernel_rfl) rfl ?_; refine AOps.idxo tok rfl rfl rfl rfl b1 (by rw [List.length_map, List.length_set, zrR_len n1]; omega) ?_; refine AOps.nil ?_; refine Ords.one (j := 25) (by kernel_rfl) rfl ?_; refine AOps.storeQ tok (m.tr : Rat) rfl rfl rfl (by rw [List.length_set, zrR_len n1]; omega) ?_; refine AOps.nil ?_; refine Ords.one (j := 26) (by kernel_rfl) rfl ?_; refine AOps.idxo tok rfl rfl rfl rfl g1 (by rw [List.length_map, List.length_set, List.length_set, zrR_len n1]; omega) ?_; refine AOps.nil ?_; refine Ords.one (j := 27) (by kernel_rfl) rfl ?_; refine AOps.storeQ tok ((0 - m.ts - m.tr : Int) : Rat) rfl rfl rfl (by rw [List.length_set, List.length_set, zrR_len n1]; omega) ?_; refine AOps.nil ?_; exact Ords.zero (by kernel_rfl) ⟨rfl, (), rfl, trivial⟩
          · refine Ords.two (j := 7) (k := 24) (by kernel_rfl) rfl rfl ?_ ?_
            · refine AOps.run tok 1 _ _ _ _ rfl ?_; refine AOps.nil ?_
              refine Ords.two (j := 8) (k := 24) (by kernel_rfl) rfl rfl ?_ ?_
              · refine AOps.run tok 1 _ _ _ _ rfl ?_; refine AOps.nil ?_; refine Ords.one (j := 24) (by kernel_rfl) rfl ?_; refine AOps.idxo tok rfl rfl rfl rfl b1 (by rw [List.length_map, List.length_set, zrR_len n1]; omega) ?_; refine AOps.nil ?_; refine Ords.one (j := 25) (by kernel_rfl) rfl ?_; refine AOps.storeQ tok (m.tr : Rat) rfl rfl rfl (by rw [List.length_set, zrR_len n1]; omega) ?_; refine AOps.nil ?_; refine Ords.one (j := 26) (by kernel_rfl) rfl ?_; refine AOps.idxo tok rfl rfl rfl rfl g1 (by rw [List.length_map, List.length_set, List.length_set, zrR_len n1]; omega) ?_; refine AOps.nil ?_; refine Ords.one (j := 27) (by kernel_rfl) rfl ?_; refine AOps.storeQ tok ((0 - m.ts - m.tr : Int) : Rat) rfl rfl rfl (by rw [List.length_set, List.length_set, zrR_len n1]; omega) ?_; refine AOps.nil ?_; exact Ords.zero (by kernel_rfl) ⟨rfl, (), rfl, trivial⟩
              · refine AOps.idxo tok rfl rfl rfl rfl b1 (by rw [List.length_map, List.length_set, zrR_len n1]; omega) ?_; refine AOps.nil ?_
                refine Ords.two (j := 8) (k := 25) (by kernel_rfl) rfl rfl ?_ ?_
                · refine AOps.run tok 1 _ _ _ _ rfl ?_; refine AOps.nil ?_; refine Ords.one (j := 25) (by kernel_rfl) rfl ?_; refine AOps.storeQ tok (m.tr : Rat) rfl rfl rfl (by rw [List.length_set, zrR_len n1]; omega) ?_; refine AOps.nil ?_; refine Ords.one (j := 26) (by kernel_rfl) rfl ?_; refine AOps.idxo tok rfl rfl rfl rfl g1 (by rw [List.length_map, List.length_set, List.length_set, zrR_len n1]; omega) ?_; refine AOps.nil ?_; refine Ords.one (j := 27) (by kernel_rfl) rfl ?_; refine AOps.storeQ tok ((0 - m.ts - m.tr : Int) : Rat) rfl rfl rfl (by rw [List.length_set, List.length_set, zrR_len n1]; omega) ?_; refine AOps.nil ?_; exact Ords.zero (by kernel_rfl) ⟨rfl, (), rfl, trivial⟩
                · refine AOps.storeQ tok (m.tr : Rat) rfl rfl rfl (by rw [List.length_set, zrR_len n1]; omega) ?_; refine AOps.nil ?_; refine Ords.one (j := 8) (by kernel_rfl) rfl ?_; refine AOps.run tok 1 _ _ _ _ rfl ?_; refine AOps.nil ?_; refine Ords.one (j := 26) (by kernel_rfl) rfl ?_; refine AOps.idxo tok rfl rfl rfl rfl g1 (by rw [List.length_map, List.length_set, List.length_set, zrR_len n1]; omega) ?_; refine AOps.nil ?_; refine Ords.one (j := 27) (by kernel_rfl) rfl ?_; refine AOps.storeQ tok ((0 - m.ts - m.tr : Int) : Rat) rfl rfl rfl (by rw [List.length_set, List.length_set, zrR_len n1]; omega) ?_; refine AOps.nil ?_; exact Ords.zero (by kernel_rfl) ⟨rfl, (), rfl, trivial⟩
            · refine AOps.idxo tok rfl rfl rfl rfl b1 (by rw [List.length_map, List.length_set, zrR_len n1]; omega) ?_; refine AOps.nil ?_
              refine Ords.two (j := 7) (k := 25) (by kernel_rfl) rfl rfl ?_ ?_
              · refine AOps.run tok 1 _ _ _ _ rfl ?_; refine AOps.nil ?_
                refine Ords.two (j := 8) (k := 25) (by kernel_rfl) rfl rfl ?_ ?_
                · refine AOps.run tok 1 _ _ _ _ rfl ?_; refine AOps.nil ?_; refine Ords.one (j := 25) (by kernel_rfl) rfl ?_; refine AOps.storeQ tok (m.tr : Rat) rfl rfl rfl (by rw [List.length_set, zrR_len n1]; omega) ?_; refine AOps.nil ?_; refine Ords.one (j := 26) (by kernel_rfl) rfl ?_; refine AOps.idxo tok rfl rfl rfl rfl g1 (by rw [List.length_map, List.length_set, List.length_set, zrR_len n1]; omega) ?_; refine AOps.nil ?_; refine Ords.one (j := 27) (by kernel_rfl) rfl ?_; refine AOps.storeQ tok ((0 - m.ts - m.tr : Int) : Rat) rfl rfl rfl (by rw [List.length_set, List.length_set, zrR_len n1]; omega) ?_; refine AOps.nil ?_; exact Ords.zero (by kernel_rfl) ⟨rfl, (), rfl, trivial⟩
                · refine AOps.storeQ tok (m.tr : Rat) rfl rfl rfl (by rw [List.length_set, zrR_len n1]; omega) ?_; refine AOps.nil ?_; refine Ords.one (j := 8) (by kernel_rfl) rfl ?_; refine AOps.run tok 1 _ _ _ _ rfl ?_; refine AOps.nil ?_; refine Ords.one (j := 26) (by kernel_rfl) rfl ?_; refine AOps.idxo tok rfl rfl rfl rfl g1 (by rw [List.length_map, List.length_set, List.length_set, zrR_len n1]; omega) ?_; refine AOps.nil ?_; refine Ords.one (j := 27) (by kernel_rfl) rfl ?_; refine AOps.storeQ tok ((0 - m.ts - m.tr : Int) : Rat) rfl rfl rfl (by rw [List.length_set, List.length_set, zrR_len n1]; omega) ?_; refine AOps.nil ?_; exact Ords.zero (by kernel_rfl) ⟨rfl, (), rfl, trivial⟩
              · refine AOps.storeQ tok (m.tr : Rat) rfl rfl rfl (by rw [List.length_set, zrR_len n1]; omega) ?_; refine AOps.nil ?_; refine Ords.one (j := 7) (by kernel_rfl) rfl ?_; refine AOps.run tok 1 _ _ _ _ rfl ?_; refine AOps.nil ?_; refine Ords.one (j := 8) (by kernel_rfl) rfl ?_; refine AOps.run tok 1 _ _ _ _ rfl ?_; refine AOps.nil ?_; refine Ords.one (j := 26) (by kernel_rfl) rfl ?_; refine AOps.idxo tok rfl rfl rfl rfl g1 (by rw [List.length_map, List.length_set, List.length_set, zrR_len n1]; omega) ?_; refine AOps.nil ?_; refine Ords.one (j := 27) (by kernel_rfl) rfl ?_; refine AOps.storeQ tok ((0 - m.ts - m.tr : Int) : Rat) rfl rfl rfl (by rw [List.length_set, List.length_set, zrR_len n1]; omega) ?_; refine AOps.nil ?_; exact Ords.zero (by kernel_rfl) ⟨rfl, (), rfl, trivial⟩
          · refine Ords.two (j := 8) (k := 24) (by kernel_rfl) rfl rfl ?_ ?_
            · refine AOps.run tok 1 _ _ _ _ rfl ?_; refine AOps.nil ?_; refine Ords.one (j := 24) (by kernel_rfl) rfl ?_; refine AOps.idxo tok rfl rfl rfl rfl b1 (by rw [List.length_map, List.length_set, zrR_len n1]; omega) ?_; refine AOps.nil ?_; refine Ords.one (j := 25) (by kernel_rfl) rfl ?_; refine AOps.storeQ tok (m.tr : Rat) rfl rfl rfl (by rw [List.length_set, zrR_len n1]; omega) ?_; refine AOps.nil ?_; refine Ords.one (j := 26) (by kernel_rfl) rfl ?_; refine AOps.idxo tok rfl rfl rfl rfl g1 (by rw [List.length_map, List.length_set, List.length_set, zrR_len n1]; omega) ?_; refine AOps.nil ?_; refine Ords.one (j := 27) (by kernel_rfl) rfl ?_; refine AOps.storeQ tok ((0 - m.ts - m.tr : Int) : Rat) rfl rfl rfl (by rw [List.length_set, List.length_set, zrR_len n1]; omega) ?_; refine AOps.nil ?_; exact Ords.zero (by kernel_rfl) ⟨rfl, (), rfl, trivial⟩
            · refine AOps.idxo tok rfl rfl rfl rfl b1 (by rw [List.length_map, List.length_set, zrR_len n1]; omega) ?_; refine AOps.nil ?_
              refine Ords.two (j := 8) (k := 25) (by kernel_rfl) rfl rfl ?_ ?_
              · refine AOps.run tok 1 _ _ _ _ rfl ?_; refine AOps.nil ?_; refine Ords.one (j := 25) (by kernel_rfl) rfl ?_; refine AOps.storeQ tok (m.tr : Rat) rfl rfl rfl (by rw [List.length_set, zrR_len n1]; omega) ?_; refine AOps.nil ?_; refine Ords.one (j := 26) (by kernel_rfl) rfl ?_; refine AOps.idxo tok rfl rfl rfl rfl g1 (by rw [List.length_map, List.length_set, List.length_set, zrR_len n1]; omega) ?_; refine AOps.nil ?_; refine Ords.one (j := 27) (by kernel_rfl) rfl ?_; refine AOps.storeQ tok ((0 - m.ts - m.tr : Int) : Rat) rfl rfl rfl (by rw [List.length_set, List.length_set, zrR_len n1]; omega) ?_; refine AOps.nil ?_; exact Ords.zero (by kernel_rfl) ⟨rfl, (), rfl, trivial⟩
              · refine AOps.storeQ tok (m.tr : Rat) rfl rfl rfl (by rw [List.length_set, zrR_len n1]; omega) ?_; refine AOps.nil ?_; refine Ords.one (j := 8) (by kernel_rfl) rfl ?_; refine AOps.run tok 1 _ _ _ _ rfl ?_; refine AOps.nil ?_; refine Ords.one (j := 26) (by kernel_rfl) rfl ?_; refine AOps.idxo tok rfl rfl rfl rfl g1 (by rw [List.length_map, List.length_set, List.length_set, zrR_len n1]; omega) ?_; refine AOps.nil ?_; refine Ords.one (j := 27) (by kernel_rfl) rfl ?_; refine AOps.storeQ tok ((0 - m.ts - m.tr : Int) : Rat) rfl rfl rfl (by rw [List.length_set, List.length_set, zrR_len n1]; omega) ?_; refine AOps.nil ?_; exact Ords.zero (by kernel_rfl) ⟨rfl, (), rfl, trivial⟩
        show AZ _ _ _ _ _ _ _ (LRs Vs (ms.map (rwM n) ++ (ps.take i).map (rwP n))) [(1, .bx [dI n, MshsD ms, PltsD ps, SpdsD gs]), (3, .ow 29 (VsD Vs)), (10, .ow 41 (QsD ((((zrR n).set m.s.toNat (m.ts : Rat)).set m.r.toNat (m.tr : Rat)).set m.c.toNat ((0 - m.ts - m.tr : Int) : Rat)))), (50, .d (PltsD ps)), (51, .d (dI ps.length)), (52, .d (dI i))]
        refine AZ.loosen 10 rfl rfl rfl (fun V => ?_)
        refine AZ.to [1, 3, 10, 50, 51, 52] [(1, .bx [dI n, MshsD ms, PltsD ps, SpdsD gs]), (3, .ow 29 (VsD Vs)), (10, .d (.v V)), (50, .d (PltsD ps)), (51, .d (dI ps.length)), (52, .d (dI i))] rfl ?_
        refine AZ.reg (fun B1 F1 w1 => ?_)
        refine AOps.run tok 2 _ _ _ _ rfl ?_
        refine AOps.bs tok rfl rfl rfl rfl ?_
        refine AOps.appo tok rfl rfl rfl rfl rfl rfl (by show ((VsD Vs).length + 1) * 24 ≤ _; rw [List.length_map]; omega) (by show (VsD Vs).length + 1 ≤ _; rw [List.length_map]; omega) ?_
        refine AOps.run tok 1 _ _ _ _ rfl ?_
        refine AOps.nil ⟨rfl, ?_⟩
        refine AZ.reg (fun B1 F1 w1 => ?_)
        refine AOps.run tok 2 _ _ _ _ rfl ?_
        rw [wI64 (x := (i : Int) + 1) (by omega) (by omega)]
        refine AOps.nil ⟨rfl, ?_⟩
        refine ⟨(i + 1, Vs ++ [V]), Prod.ext ?_ ?_, ⟨hin, by simp [hV]; omega⟩, by show ps.length - (i + 1) < ps.length - i; omega⟩
        · show LRs Vs _ ++ [_] = LRs (Vs ++ [V]) (ms.map (rwM n) ++ (ps.take (i + 1)).map (rwP n))
          rw [htk, List.map_append, List.map_cons, List.map_nil, ← List.append_assoc, LRs_snoc (by rw [List.length_append, List.length_map, List.length_map, List.length_take]; omega), rwP, show (0 - m.ts - m.tr : Int) = -m.ts - m.tr by omega]
        · show _ = [(1, AV.bx [dI n, MshsD ms, PltsD ps, SpdsD gs]), (3, .ow 29 (VsD (Vs ++ [V]))), (50, .d (PltsD ps)), (51, .d (dI ps.length)), (52, .d (dI ((i + 1 : Nat) : Int)))]
          rw [show VsD (Vs ++ [V]) = VsD Vs ++ [.v V] by simp]
          rfl
      have hin : ¬ i < ps.length := by have := of_decide_eq_false h; omega
      have hie : i = ps.length := by omega
      subst hie
      rw [List.take_length]
      refine AZ.exit ?_
        -- exit 2
      -- END OF BODY; what follows the loop (from its exit):
      refine AZ.seq ?_
      refine AZ.seq ?_
      refine AZ.reg (fun B1 F1 w1 => ?_)   -- "gear.go:80"
      refine AOps.run tok 4 _ _ _ _ rfl ?_
      rw [List.length_map]
      refine AOps.nil ⟨rfl, ?_⟩
      refine AZ.block ?_   -- block 4
      refine AZ.loopS [1, 3, 91, 92, 93] (fun s : Nat × List Value => (LRs s.2 (ms.map (rwM n) ++ ps.map (rwP n) ++ (gs.take s.1).map (rwS n)), [(1, .bx [dI n, MshsD ms, PltsD ps, SpdsD gs]), (3, .ow 29 (VsD s.2)), (91, .d (SpdsD gs)), (92, .d (dI gs.length)), (93, .d (dI s.1))]))
        (fun s => s.1 ≤ gs.length ∧ s.2.length = ms.length + ps.length + s.1) (fun s => gs.length - s.1) (0, Vs) (by rw [List.take_zero, List.map_nil, List.append_nil]; rfl) ⟨Nat.zero_le _, hV⟩ (fun s hs => ?_)
      obtain ⟨i, Vs⟩ := s
      obtain ⟨hi, hV⟩ := hs
      · show AZ _ _ _ _ _ _ _ (LRs Vs (ms.map (rwM n) ++ ps.map (rwP n) ++ (gs.take i).map (rwS n))) [(1, .bx [dI n, MshsD ms, PltsD ps, SpdsD gs]), (3, .ow 29 (VsD Vs)), (91, .d (SpdsD gs)), (92, .d (dI gs.length)), (93, .d (dI i))]
        simp only at hi hV
        refine AZ.seq ?_
        refine AZ.reg (fun B1 F1 w1 => ?_)   -- "gear.go:80"
        refine AOps.run tok 1 _ _ _ _ rfl ?_
        refine AOps.nil ⟨rfl, ?_⟩
        refine AZ.seq ?_
        refine AZ.cond rfl (fun h => ?_) (fun h => ?_)
        · have hin : i < gs.length := by have := of_decide_eq_true h; omega
          have hid : (gs.map Spd.D)[i]? = some (gs.getD i default).D := getM Spd.D hin
          have hmi := spdE_ok (hg i hin)
          have htk := take_snoc gs hin
          have hgi := hgw i
          generalize gs.getD i default = m at hid hmi htk hgi
          obtain ⟨sh, v⟩ := m
          obtain ⟨⟨a1, a2⟩, hok⟩ := hmi
          dsimp only at a1 a2 hok hgi
          obtain ⟨q, hq⟩ : ∃ q, v = Qr q := ⟨_, RD.canon hgi hok⟩
          subst hq
          refine AZ.skip ?_
          refine AZ.seq ?_
          refine AZ.block ?_   -- block 5
          refine AZ.seq ?_
          refine AZ.reg (fun B1 F1 w1 => ?_)   -- "gear.go:80"
          refine AOps.idx tok (Spd.D ⟨sh, Qr q⟩) rfl rfl rfl rfl (Int.natCast_nonneg i) hid ?_
          refine AOps.run tok 3 _ _ _ _ rfl ?_
          refine AOps.nil ⟨rfl, ?_⟩
          refine AZ.seq ?_
          refine AZ.reg (fun B1 F1 w1 => ?_)   -- "gear.go:81"
          refine AOps.run tok 3 _ _ _ _ rfl ?_
          rw [wI64 (by omega) (by omega)]
          refine AOps.makeQ tok n rfl rfl rfl rfl rfl rfl rfl rfl (by omega) (by omega) ?_
          refine AOps.run tok 1 _ _ _ _ rfl ?_
          refine AOps.nil ⟨rfl, ?_⟩
          refine AZ.to [1, 3, 12, 13, 91, 92, 93] [(1, .bx [dI n, MshsD ms, PltsD ps, SpdsD gs]), (3, .ow 29 (VsD Vs)), (12, .bx [dI sh, dB (Qr q).g, Wd (Qr q).n, Wd (Qr q).d]), (13, .ow 41 (QsD (zrR n))), (91, .d (SpdsD gs)), (92, .d (dI gs.length)), (93, .d (dI i))] rfl ?_
          refine AZ.seq ?_
          refine AZ.frame (fun B1 F1 w1 => AW.any hmix (AAny.early 3 (by kernel_rfl) (fun _ _ h => h.2) (AAny.front 3 rfl (AAny.draw3 tok [(4, true), (2, false), (1, true), (2, false), (1, true)] 10 [13] (by kernel_rfl) ⟨rfl, ?_⟩))))
          refine APre.run tok 4 _ _ _ _ rfl ?_
          refine APre.nil ⟨rfl, ?_⟩
          refine APre.run tok 2 _ _ _ _ rfl ?_
          refine APre.nil ⟨rfl, ?_⟩
          refine APre.call tok rfl rfl rfl rfl rfl (fraction_Of_ok 1 (by omega) (by omega)) ?_
          refine APre.nil ⟨rfl, ?_⟩
          refine APre.run tok 2 _ _ _ _ rfl ?_
          refine APre.nil ⟨rfl, ?_⟩
          refine APre.idxo tok rfl rfl rfl rfl rfl rfl a1 (by rw [List.length_map, zrR_len n1]; omega) ?_
          refine APre.nil ⟨_, StL.cons (StOk.elQ ((1 : Int) : Rat) rfl (by rw [zrR_len n1]; omega)) StL.nil, ?_⟩
          refine AOps.idxo tok rfl rfl rfl rfl (by omega) (by rw [List.length_map, List.length_set, zrR_len n1]; omega) ?_
          refine AOps.storeQ tok q rfl rfl rfl (by rw [List.length_set, zrR_len n1]; omega) ?_
          refine AOps.nil ⟨rfl, ?_⟩
          refine AZ.loosen 13 rfl rfl rfl (fun V => ?_)
          refine AZ.to [1, 3, 13, 91, 92, 93] [(1, .bx [dI n, MshsD ms, PltsD ps, SpdsD gs]), (3, .ow 29 (VsD Vs)), (13, .d (.v V)), (91, .d (SpdsD gs)), (92, .d (dI gs.length)), (93, .d (dI i))] rfl ?_
          refine AZ.reg (fun B1 F1 w1 => ?_)
          refine AOps.run tok 2 _ _ _ _ rfl ?_
          refine AOps.bs tok rfl rfl rfl rfl ?_
          refine AOps.appo tok rfl rfl rfl rfl rfl rfl (by show ((VsD Vs).length + 1) * 24 ≤ _; rw [List.length_map]; omega) (by show (VsD Vs).length + 1 ≤ _; rw [List.length_map]; omega) ?_
          refine AOps.run tok 1 _ _ _ _ rfl ?_
          refine AOps.nil ⟨rfl, ?_⟩
          refine AZ.reg (fun B1 F1 w1 => ?_)
          refine AOps.run tok 2 _ _ _ _ rfl ?_
          rw [wI64 (x := (i : Int) + 1) (by omega) (by omega)]
          refine AOps.nil ⟨rfl, ?_⟩
          refine ⟨(i + 1, Vs ++ [V]), Prod.ext ?_ ?_, ⟨hin, by simp [hV]; omega⟩, by show gs.length - (i + 1) < gs.length - i; omega⟩
          · show LRs Vs _ ++ [_] = LRs (Vs ++ [V]) (ms.map (rwM n) ++ ps.map (rwP n) ++ (gs.take (i + 1)).map (rwS n))
            rw [htk, List.map_append, List.map_cons, List.map_nil, ← List.append_assoc, LRs_snoc (by rw [List.length_append, List.length_append, List.length_map, List.length_map, List.length_map, List.length_take]; omega), rwS, Qr_val]
          · show _ = [(1, AV.bx [dI n, MshsD ms, PltsD ps, SpdsD gs]), (3, .ow 29 (VsD (Vs ++ [V]))), (91, .d (SpdsD gs)), (92, .d (dI gs.length)), (93, .d (dI ((i + 1 : Nat) : Int)))]
            rw [show VsD (Vs ++ [V]) = VsD Vs ++ [.v V] by simp]
            rfl
        have hin : ¬ i < gs.length := by have := of_decide_eq_false h; omega
        have hie : i = gs.length := by omega
        subst hie
        rw [List.take_length]
        refine AZ.exit ?_
          -- exit 4
        -- END OF BODY; what follows the loop (from its exit):
        refine AZ.seq ?_
        refine AZ.reg (fun B1 F1 w1 => ?_)   -- "gear.go:85"
        refine AOps.run tok 2 _ _ _ _ rfl ?_
        refine AOps.nil ⟨rfl, ?_⟩
        refine AZ.loosen 2 rfl rfl rfl (fun V0 => AZ.ret ⟨.v V0, rfl, V0, Vs, ?_, rfl, rfl⟩)
        show Vs.length = (ms.map (rwM n) ++ ps.map (rwP n) ++ gs.map (rwS n)).length
        rw [List.length_append, List.length_append, List.length_map, List.length_map, List.length_map]; exact hV
end Lift
/- One row less a multiple of another one. -/
namespace Lift
open Go Go.Proofs

/-- The first i numbers are less already. -/
def lessP (xs ys : List Rat) (q : Rat) (i : Nat) : List Rat := (lessR xs ys q).take i ++ xs.drop i
theorem lessR_len {xs ys : List Rat} (h : ys.length = xs.length) (q : Rat) : (lessR xs ys q).length = xs.length := by unfold lessR; rw [List.length_zipWith, h]; omega
theorem lessP_len {xs ys : List Rat} (h : ys.length = xs.length) (q : Rat) {i : Nat} (hi : i ≤ xs.length) : (lessP xs ys q i).length = xs.length := by
  unfold lessP; rw [List.length_append, List.length_take, List.length_drop, lessR_len h]; omega
theorem lessP_get {xs ys : List Rat} (h : ys.length = xs.length) (q : Rat) {i : Nat} (hi : i < xs.length) : (lessP xs ys q i).getD i 0 = xs.getD i 0 := by
  unfold lessP
  rw [List.getD_eq_getElem?_getD, List.getElem?_append_right (by rw [List.length_take]; omega), List.length_take, lessR_len h, List.getElem?_drop, List.getD_eq_getElem?_getD]
  congr 2; omega
theorem lessP_set {xs ys : List Rat} (h : ys.length = xs.length) (q : Rat) {i : Nat} (hi : i < xs.length) : (lessP xs ys q i).set i (xs.getD i 0 - q * ys.getD i 0) = lessP xs ys q (i + 1) := by
  have hl := lessR_len h q
  refine List.ext_getElem? (fun c => ?_)
  by_cases hc : c = i
  · subst hc
    rw [List.getElem?_set_self (by rw [lessP_len h q (by omega)]; exact hi)]
    unfold lessP
    rw [List.getElem?_append_left (by rw [List.length_take]; omega), List.getElem?_take, if_pos (by omega)]
    unfold lessR
    have h1 : c < ys.length := by omega
    simp [List.getElem?_zipWith, hi, h1]
  · rw [List.getElem?_set_ne (Ne.symm hc)]
    unfold lessP
    rcases Nat.lt_or_ge c i with g | g
    · rw [List.getElem?_append_left (by rw [List.length_take]; omega), List.getElem?_append_left (by rw [List.length_take]; omega), List.getElem?_take, List.getElem?_take, if_pos g, if_pos (by omega)]
    · rw [List.getElem?_append_right (by rw [List.length_take]; omega), List.getElem?_append_right (by rw [List.length_take]; omega), List.getElem?_drop, List.getElem?_drop, List.length_take, List.length_take]
      congr 1; omega
theorem lessP_zero (xs ys : List Rat) (q : Rat) : lessP xs ys q 0 = xs := by unfold lessP; simp
theorem lessP_all {xs ys : List Rat} (h : ys.length = xs.length) (q : Rat) : lessP xs ys q xs.length = lessR xs ys q := by
  unfold lessP; rw [List.drop_length, List.append_nil, ← lessR_len h q, List.take_length]
def lessPost (V1 V2 : Value) (xs ys : List Rat) (q : Rat) (res : D) (R' : List LR) : Prop := res = .tu [] ∧ R' = [(V1, AV.ow 41 (QsD (lessR xs ys q))), (V2, AV.ow 41 (QsD ys))]
theorem gear_less_ok (V1 V2 : Value) (xs ys : List Rat) (q : Rat) {k : Nat} (hk : k ≤ 3000000) (hx : ∀ c, LQ (xs.getD c 0) ≤ k) (hy : ∀ c, LQ (ys.getD c 0) ≤ k) (hq : LQ q ≤ k) (hl : ys.length = xs.length) (hl0 : 0 < xs.length) (hl1 : xs.length ≤ 1000) :
    CallZ Tryz.prog 28 [.v V1, .v V2, (Qr q).D] [(V1, AV.ow 41 (QsD xs)), (V2, AV.ow 41 (QsD ys))] (lessPost V1 V2 xs ys q) := by
  refine CallZ.intro (n := 27) tok Tryz.func28 rfl rfl rfl (Nat.le_of_ble_eq_true rfl) (by kernel_rfl) (fun B F0 w0 => ?_)
  refine AZ.seq ?_
  refine AZ.reg (fun B1 F1 w1 => ?_)   -- "gear.go:89"
  refine AOps.run tok 1 _ _ _ _ rfl ?_
  refine AOps.nil ⟨rfl, ?_⟩
  refine AZ.seq ?_
  refine AZ.regS (fun B1 F1 w1 hS => ?_)
  refine AOps.run tok 1 _ _ _ _ rfl ?_
  refine AOps.lens tok (hS.at (i := 0) rfl (by rw [List.length_map]; exact hl0)) rfl rfl rfl rfl ?_
  refine AOps.run tok 1 _ _ _ _ rfl ?_
  rw [List.length_map]
  refine AOps.nil ⟨rfl, ?_⟩
  refine AZ.block ?_   -- block 0
  refine AZ.loopS [0, 1, 5, 8, 9] (fun i : Nat => ([(V1, AV.ow 41 (QsD (lessP xs ys q i))), (V2, AV.ow 41 (QsD ys))], [(0, .d (.v V1)), (1, .d (.v V2)), (5, .bx (Qr q).D.flat), (8, .d (dI xs.length)), (9, .d (dI i))]))
    (fun i => i ≤ xs.length) (fun i => xs.length - i) 0 (by rw [lessP_zero]; rfl) (Nat.zero_le _) (fun i hi => ?_)
  · show AZ _ _ _ _ _ _ _ [(V1, AV.ow 41 (QsD (lessP xs ys q i))), (V2, AV.ow 41 (QsD ys))] [(0, .d (.v V1)), (1, .d (.v V2)), (5, .bx (Qr q).D.flat), (8, .d (dI xs.length)), (9, .d (dI i))]
    refine AZ.seq ?_
    refine AZ.reg (fun B1 F1 w1 => ?_)   -- "gear.go:90"
    refine AOps.run tok 1 _ _ _ _ rfl ?_
    refine AOps.nil ⟨rfl, ?_⟩
    refine AZ.seq ?_
    refine AZ.cond rfl (fun h => ?_) (fun h => ?_)
    · have hin : i < xs.length := by have := of_decide_eq_true h; omega
      have hpl := lessP_len hl q (i := i) (by omega)
      have hpg := lessP_get hl q hin
      have hps := lessP_set hl q hin
      have hyi : i < ys.length := by omega
      have hxk := hx i
      have hyk := hy i
      refine AZ.skip ?_
      refine AZ.seq ?_
      refine AZ.block ?_   -- block 1
      refine AZ.seq ?_
      refine AZ.reg (fun B1 F1 w1 => ?_)   -- "gear.go:90"
      refine AOps.run tok 2 _ _ _ _ rfl ?_
      refine AOps.nil ⟨rfl, ?_⟩
      refine AZ.any hmix (ZAny.drawS 14 (by kernel_rfl) (fun B1 F1 w1 hS => ?_))
      have hS1 := hS.at (i := 0) rfl (by rw [List.length_map]; omega)
      have hS2 := hS.at (i := 1) rfl (by rw [List.length_map]; omega)
      refine APre.run tok 4 _ _ _ _ rfl ?_
      refine APre.idxs tok hS1 rfl rfl rfl rfl rfl (Int.natCast_nonneg i) (by rw [List.length_map, hpl]; exact hin) ?_
      refine APre.loads tok (Qr ((lessP xs ys q i).getD i 0)).D hS1 rfl rfl rfl rfl rfl rfl rfl (getQ (by omega)) rfl ?_
      rw [hpg]
      refine APre.run tok 3 _ _ _ _ rfl ?_
      refine APre.idxs tok hS2 rfl rfl rfl rfl rfl (Int.natCast_nonneg i) (by rw [List.length_map]; exact hyi) ?_
      refine APre.loads tok (Qr (ys.getD i 0)).D hS2 rfl rfl rfl rfl rfl rfl rfl (getQ hyi) rfl ?_
      refine APre.call tok rfl rfl rfl rfl rfl (fraction_Mul_ok (Qr q) (Qr (ys.getD i 0)) (k := k) (Qr_w _ hq) (Qr_w _ hyk) (by omega)) ?_
      rw [Qr_val, Qr_val]
      have hm := LQ_mul q (ys.getD i 0)
      refine APre.call tok rfl rfl rfl rfl rfl (fraction_Sub_ok (Qr (xs.getD i 0)) (Qr (q * ys.getD i 0)) (k := 2 * k) (Qr_w _ (by omega)) (Qr_w _ (by omega)) (by omega)) ?_
      rw [Qr_val, Qr_val]
      refine APre.idxs tok hS1 rfl rfl rfl rfl rfl (Int.natCast_nonneg i) (by rw [List.length_map, hpl]; exact hin) ?_
      refine APre.nil ⟨rfl, ?_⟩
      refine AZOps.to [12, 25, 24, 0, 1, 5, 8, 9] [(12, .d (.v V1)), (25, .d (.v (ptrV V1 (i * 3)))), (24, .d (Qr (xs.getD i 0 - q * ys.getD i 0)).D), (0, .d (.v V1)), (1, .d (.v V2)), (5, .bx (Qr q).D.flat), (8, .d (dI xs.length)), (9, .d (dI i))] rfl ?_
      refine AZOps.adopt 12 0 rfl rfl rfl ?_
      refine AZOps.el tok 12 25 rfl (List.Mem.head _) rfl rfl rfl (by rw [List.length_map, hpl]; exact hin) rfl ?_
      refine AZOps.cut 1 rfl (fun B1 F1 w1 => ?_)
      refine AOps.storeQ tok (xs.getD i 0 - q * ys.getD i 0) rfl rfl rfl (by omega) ?_
      rw [hps]
      refine AOps.nil ⟨rfl, ?_⟩
      refine AZOps.back 12 0 rfl rfl rfl (List.Mem.head _) rfl ?_
      refine AZOps.nil ?_
      refine AZ.reg (fun B1 F1 w1 => ?_)   -- "gear.go:90"
      refine AOps.run tok 2 _ _ _ _ rfl ?_
      rw [wI64 (x := (i : Int) + 1) (by omega) (by omega)]
      refine AOps.nil ⟨rfl, ?_⟩
      exact ⟨i + 1, rfl, hin, by omega⟩
    have hin : i = xs.length := by have := of_decide_eq_false h; omega
    subst hin
    rw [lessP_all hl]
    exact AZ.exit ⟨.tu [], rfl, rfl, rfl⟩
end Lift
/- Loose rows change places, or are dropped. -/
namespace Lift
open Go
open Go.RowKit (Below)

section
variable {P : Program} {T : Ty} {B : Nat} {F0 : Nat → Prop} {w0 : Bas} {n : Nat} {σ : St} {R R' : List LR} {x : Code} {Q : Exit → List LR → St → Prop} {K : List LR → St → Prop} {p : Pins} {all : Array Oper} {l : List Oper}

theorem RelZ.swapR {a : Act} {w : World} {i j : Nat} {ri rj : LR} (hi : R[i]? = some ri) (hj : R[j]? = some rj) (hR : RelZ P B F0 w0 n R σ a w) : RelZ P B F0 w0 n ((R.set i rj).set j ri) σ a w := by
  obtain ⟨O, hOr, hO, hL⟩ := hR.own
  have hlt : ∀ t av, σ.get t = some av → t < n := fun t av h => by
    obtain ⟨v, hv, _⟩ := hO t av h
    rw [← hR.size]
    exact (Array.getElem?_eq_some_iff.1 hv).1
  have hF : ∀ c, Free O (FW B F0 w) c → Free (swO O (n + i) (n + j)) (FW B F0 w) c := fun c hc => ⟨swO_none.2 hc.1, hc.2⟩
  refine ⟨hR.below, hR.base, hR.f0, hR.defers, hR.size, swO O (n + i) (n + j), swO_lt hOr, fun t av h => ?_, fun k r hr => ?_⟩
  · obtain ⟨v, hv, hr⟩ := hO t av h
    have := hlt t av h
    exact ⟨v, hv, hr.move (fun c hc => ⟨hF c hc, rfl⟩) (fun _ c hc => ⟨swO_other hc (by omega) (by omega), rfl⟩) (fun k _ x _ hk => ⟨hk, rfl⟩)⟩
  · have hil := (List.getElem?_eq_some_iff.1 hi).1
    have hjl := (List.getElem?_eq_some_iff.1 hj).1
    by_cases hkj : k = j
    · subst hkj
      rw [List.getElem?_set_self (by simpa using hjl)] at hr
      cases hr
      exact (hL i _ hi).owner (fun c hc => by simp [swO, hc]) hF
    · rw [List.getElem?_set_ne (Ne.symm hkj)] at hr
      by_cases hki : k = i
      · subst hki
        rw [List.getElem?_set_self hil] at hr
        cases hr
        exact (hL j _ hj).owner (fun c hc => by simp only [swO, hc]; rw [if_neg (by simp; omega)]; simp) hF
      · rw [List.getElem?_set_ne (Ne.symm hki)] at hr
        exact (hL k _ hr).owner (fun c hc => swO_other hc (by omega) (by omega)) hF
theorem AZ.swapR {ri rj : LR} (i j : Nat) (hi : R[i]? = some ri) (hj : R[j]? = some rj) (h : AZ P B F0 w0 n x Q ((R.set i rj).set j ri) σ) : AZ P B F0 w0 n x Q R σ := fun a w hR => h a w (hR.swapR hi hj)
theorem AZ.dropR (R' : List LR) (hd : ∀ (i : Nat) (r : LR), R'[i]? = some r → R[i]? = some r ∨ r.2 = .junk) (h : AZ P B F0 w0 n x Q R' σ) : AZ P B F0 w0 n x Q R σ := fun a w hR => h a w (hR.drop hd)
theorem AZ.dropA {R' : List LR} (h : AZ P B F0 w0 n x Q R σ) : AZ P B F0 w0 n x Q (R ++ R') σ := AZ.dropR R (fun i r hr => .inl (by
  have := (List.getElem?_eq_some_iff.1 hr).1
  rw [List.getElem?_append_left this]; exact hr)) h
theorem sel2 {i j : Nat} {x y : LR} (hi : R[i]? = some x) (hj : R[j]? = some y) : selR R [i, j] = some [x, y] := by simp [selR, hi, hj]
end
end Lift
/- What the walk of Solve asks for. -/
namespace Lift
open Go Go.Proofs

section
variable {P : Program} {T : Ty} {B : Nat} {F0 : Nat → Prop} {w0 : Bas} {n : Nat} {σ τ : St} {K : St → Prop} {all : Array Oper} {o : Oper} {d : Nat} {rest : List Oper}
theorem AOps.storeVs (hT : TOk P T) {k e i : Nat} {Vs : List Value} (V : Value) (hd : o.dst = none) (hg : guardOk all σ o = true) (hx : seF T σ o.op = some (k, .ow e (VsD Vs), VsD Vs, i, 0, .v V)) (hi : i < Vs.length)
    (h : AOps P B F0 w0 n all rest K ((k, .ow e (VsD (Vs.set i V))) :: σ)) : AOps P B F0 w0 n all (o :: rest) K σ := by
  refine AOps.storeel hT (.v (Vs.getD i undef)) hd hg hx (getVs hi) rfl ?_
  show AOps P B F0 w0 n all rest K ((k, .ow e ((VsD Vs).set i (.v V))) :: σ)
  rw [show (VsD Vs).set i (.v V) = VsD (Vs.set i V) from (List.map_set ..).symm]
  exact h
theorem StOk.elVs {h e i : Nat} {Vs : List Value} (V : Value) (hx : seF T τ o.op = some (h, .ow e (VsD Vs), VsD Vs, i, 0, .v V)) (hi : i < Vs.length) : StOk T τ o h (.ow e (VsD (Vs.set i V))) := by
  have := StOk.el hx (getVs hi) rfl
  rw [show VsD (Vs.set i V) = (VsD Vs).set i (.v V) from List.map_set ..]
  exact this
end
theorem LRs_setV {Vs : List Value} {a : Mt} {j : Nat} (hV : j < Vs.length) (ha : j < a.length) (V : Value) (r : List Rat) : (LRs Vs a).set j (V, AV.ow 41 (QsD r)) = LRs (Vs.set j V) (a.set j r) := by
  unfold LRs
  refine List.ext_getElem? (fun k => ?_)
  by_cases hk : k = j
  · subst hk
    rw [List.getElem?_set_self (by simp; omega)]
    simp [List.getElem?_zipWith, hV, ha]
  · rw [List.getElem?_set_ne (Ne.symm hk)]
    simp [List.getElem?_zipWith, List.getElem?_set_ne (Ne.symm hk)]
def swV (Vs : List Value) (d t : Nat) : List Value := (Vs.set d (Vs.getD t undef)).set t (Vs.getD d undef)
theorem LRs_swap {Vs : List Value} {a : Mt} {d t : Nat} (h : Vs.length = a.length) (hd : d < a.length) (ht : t < a.length) :
    ((LRs Vs a).set d (Vs.getD t undef, AV.ow 41 (QsD (a.getD t [])))).set t (Vs.getD d undef, AV.ow 41 (QsD (a.getD d []))) = LRs (swV Vs d t) (swG a d t) := by
  rw [LRs_setV (by omega) hd, LRs_setV (by simp; omega) (by simp; omega)]; rfl
theorem LRs_less {Vs : List Value} {a : Mt} {i d : Nat} (h : Vs.length = a.length) (hi : i < a.length) (hd : d < a.length) (hid : i ≠ d) (r : List Rat) :
    ((LRs Vs a).set i (Vs.getD i undef, AV.ow 41 (QsD r))).set d (Vs.getD d undef, AV.ow 41 (QsD (a.getD d []))) = LRs Vs (a.set i r) := by
  rw [LRs_set (by omega), LRs_set (by omega)]
  congr 1
  refine List.ext_getElem? (fun k => ?_)
  by_cases hk : k = d
  · subst hk
    rw [List.getElem?_set_self (by simpa using hd), List.getElem?_set_ne hid]
    simp [hd]
  · rw [List.getElem?_set_ne (Ne.symm hk)]
theorem set_own {a : Mt} {d : Nat} (hd : d < a.length) : a.set d (a.getD d []) = a := by
  refine List.ext_getElem? (fun k => ?_)
  by_cases hk : k = d
  · subst hk; rw [List.getElem?_set_self hd]; simp [hd]
  · rw [List.getElem?_set_ne (Ne.symm hk)]
theorem set_set {a : Mt} {d : Nat} (r s : List Rat) : (a.set d r).set d s = a.set d s := List.set_set ..

/-- The first j numbers are divided already. -/
def divP (r : List Rat) (f : Rat) (j : Nat) : List Rat := (divR r f).take j ++ r.drop j
theorem divP_len (r : List Rat) (f : Rat) {j : Nat} (hj : j ≤ r.length) : (divP r f j).length = r.length := by
  unfold divP divR; rw [List.length_append, List.length_take, List.length_drop, List.length_map]; omega
theorem divP_get (r : List Rat) (f : Rat) {j : Nat} (hj : j < r.length) : (divP r f j).getD j 0 = r.getD j 0 := by
  unfold divP divR
  rw [List.getD_eq_getElem?_getD, List.getElem?_append_right (by rw [List.length_take]; omega), List.length_take, List.length_map, List.getElem?_drop, List.getD_eq_getElem?_getD]
  congr 2; omega
theorem divP_set (r : List Rat) (f : Rat) {j : Nat} (hj : j < r.length) : (divP r f j).set j (r.getD j 0 / f) = divP r f (j + 1) := by
  have hl : (divR r f).length = r.length := by unfold divR; rw [List.length_map]
  refine List.ext_getElem? (fun c => ?_)
  by_cases hc : c = j
  · subst hc
    rw [List.getElem?_set_self (by rw [divP_len r f (by omega)]; exact hj)]
    unfold divP
    rw [List.getElem?_append_left (by rw [List.length_take]; omega), List.getElem?_take, if_pos (by omega)]
    unfold divR
    simp [hj]
  · rw [List.getElem?_set_ne (Ne.symm hc)]
    unfold divP
    rcases Nat.lt_or_ge c j with g | g
    · rw [List.getElem?_append_left (by rw [List.length_take]; omega), List.getElem?_append_left (by rw [List.length_take]; omega), List.getElem?_take, List.getElem?_take, if_pos g, if_pos (by omega)]
    · rw [List.getElem?_append_right (by rw [List.length_take]; omega), List.getElem?_append_right (by rw [List.length_take]; omega), List.getElem?_drop, List.getElem?_drop, List.length_take, List.length_take]
      congr 1; omega
theorem divP_zero (r : List Rat) (f : Rat) : divP r f 0 = r := by unfold divP; simp
theorem divP_all (r : List Rat) (f : Rat) : divP r f r.length = divR r f := by
  unfold divP
  have hl : (divR r f).length = r.length := by unfold divR; rw [List.length_map]
  rw [List.drop_length, List.append_nil, ← hl, List.take_length]

theorem sg_nz (q : Rat) : (sgI q.num == 0) = !nz q := by
  unfold nz
  by_cases h : q = 0
  · subst h; rfl
  · rw [sgI_ne (num_ne h)]; simp [h]
/-- What Solve answers. -/
def solD : Out → D
  | .over => .tu [.sl 3 [], erV 19]
  | .free => .tu [.sl 3 [], erV 20]
  | .val l => .tu [.sl 3 (QsD l), nilE]
def solT (x : Trn) : D := match chkT x with
  | 0 => solD (outG x.n.toNat (rowsM x))
  | k + 1 => .tu [.sl 3 [], erV (k + 1)]

theorem LI {z : Int} (h : z.natAbs ≤ 9223372036854775808) : L z ≤ 8 := by have := L_of z h; omega
/-- Rows of integers; of one fraction beside integers. -/
theorem SzF.ints {r : Nat → Rat} (f : Nat → Int) (h : ∀ c, (f c).natAbs ≤ 9223372036854775808) (hr : ∀ c, r c = (f c : Rat)) : SzF 10 r :=
  ⟨1, f, by decide, by rw [L_one]; omega, fun c => ⟨by have := LI (h c); omega, by rw [hr, of_divInt]⟩⟩
theorem getD_set_f (l : List Rat) (i : Nat) (q : Rat) (c : Nat) : (l.set i q).getD c 0 = if c = i ∧ i < l.length then q else l.getD c 0 := by
  simp only [List.getD_eq_getElem?_getD]
  by_cases h : c = i
  · subst h
    by_cases hl : c < l.length
    · rw [List.getElem?_set_self hl]; simp [hl]
    · rw [List.getElem?_eq_none (by simp; omega), List.getElem?_eq_none (by omega)]; simp [hl]
  · rw [List.getElem?_set_ne (Ne.symm h)]; simp [h]
theorem zrR_get (n : Int) (c : Nat) : (zrR n).getD c 0 = ((0 : Int) : Rat) := by
  unfold zrR
  rw [List.getD_eq_getElem?_getD, List.getElem?_replicate]
  split <;> rfl
theorem rowsM_sz {x : Trn} {k : Nat} (hw : x.w k) (hk : k ≤ 10) (h : TOkT x) : SzM (Xs 0) (fM (rowsM x)) := by
  have key : ∀ r, r ∈ rowsM x → SzF 10 (fun c => r.getD c 0) := fun r hr => by
    unfold rowsM at hr
    simp only [List.mem_append, List.mem_map] at hr
    rcases hr with (⟨m, hm, rfl⟩ | ⟨m, hm, rfl⟩) | ⟨m, hm, rfl⟩
    · obtain ⟨i, hi, rfl⟩ := List.getElem_of_mem hm
      have h1 := mshE_ok (h.m i hi)
      rw [List.getD_eq_getElem?_getD, List.getElem?_eq_getElem hi, Option.getD_some] at h1
      generalize x.ms[i] = m at h1
      obtain ⟨_, _, _, _, _, _⟩ := h1
      refine SzF.ints (fun c => if c = m.b.toNat ∧ m.b.toNat < ((zrR x.n).set m.a.toNat (m.ta : Rat)).length then (if m.inn = true then -m.tb else m.tb) else if c = m.a.toNat ∧ m.a.toNat < (zrR x.n).length then m.ta else 0) (fun c => ?_) (fun c => ?_)
      · repeat' split
        all_goals omega
      · unfold rwM
        rw [getD_set_f, getD_set_f, zrR_get]
        repeat' split
        all_goals rfl
    · obtain ⟨i, hi, rfl⟩ := List.getElem_of_mem hm
      have h1 := pltE_ok (h.p i hi)
      rw [List.getD_eq_getElem?_getD, List.getElem?_eq_getElem hi, Option.getD_some] at h1
      generalize x.ps[i] = m at h1
      obtain ⟨_, _, _, _, _, _, _⟩ := h1
      refine SzF.ints (fun c => if c = m.c.toNat ∧ m.c.toNat < (((zrR x.n).set m.s.toNat (m.ts : Rat)).set m.r.toNat (m.tr : Rat)).length then -m.ts - m.tr else if c = m.r.toNat ∧ m.r.toNat < ((zrR x.n).set m.s.toNat (m.ts : Rat)).length then m.tr else if c = m.s.toNat ∧ m.s.toNat < (zrR x.n).length then m.ts else 0) (fun c => ?_) (fun c => ?_)
      · repeat' split
        all_goals omega
      · unfold rwP
        rw [getD_set_f, getD_set_f, getD_set_f, zrR_get]
        repeat' split
        all_goals rfl
    · obtain ⟨i, hi, rfl⟩ := List.getElem_of_mem hm
      have h2 := hw.2.2.2 i
      rw [List.getD_eq_getElem?_getD, List.getElem?_eq_getElem hi, Option.getD_some] at h2
      generalize x.gs[i] = m at h2
      have h3 := LQ_val (h2.mono hk) (by decide)
      have h4 := Lnum m.v.val
      have h5 := Lden m.v.val
      have hd := den_ne m.v.val
      refine ⟨m.v.val.den, fun c => if c = x.n.toNat ∧ x.n.toNat < ((zrR x.n).set m.sh.toNat ((1 : Int) : Rat)).length then m.v.val.num else if c = m.sh.toNat ∧ m.sh.toNat < (zrR x.n).length then m.v.val.den else 0, hd, by omega, fun c => ⟨?_, ?_⟩⟩
      · simp only []
        repeat' split
        all_goals first | omega | (rw [L_zero]; omega)
      · unfold rwS
        show (((zrR x.n).set m.sh.toNat ((1 : Int) : Rat)).set x.n.toNat m.v.val).getD c 0 = _
        rw [getD_set_f, getD_set_f, zrR_get]
        simp only []
        repeat' split
        · rw [Rat.num_divInt_den]
        · rw [divInt_eq, div_own (cast_ne hd)]; rfl
        · rw [Rat.zero_divInt]; rfl
  refine SzM.ofRows (by decide) (fun j hj => ?_)
  have := key _ (List.getElem_mem hj)
  refine this.congr (fun c => ?_)
  unfold fM
  rw [List.getD_eq_getElem?_getD (l := rowsM x), List.getElem?_eq_getElem hj, Option.getD_some]
theorem rowsM_rect {x : Trn} (h : TOkT x) : Rect (rowsM x) (x.n.toNat + 1) := fun r hr => by
  have hz := zrR_len h.n1
  unfold rowsM at hr
  simp only [List.mem_append, List.mem_map] at hr
  rcases hr with (⟨m, hm, rfl⟩ | ⟨m, hm, rfl⟩) | ⟨m, hm, rfl⟩
  · unfold rwM; rw [List.length_set, List.length_set, hz]
  · unfold rwP; rw [List.length_set, List.length_set, List.length_set, hz]
  · unfold rwS; rw [List.length_set, List.length_set, hz]
theorem rowsM_len {x : Trn} (h : TOkT x) : (rowsM x).length ≤ 96 := by
  unfold rowsM
  rw [List.length_append, List.length_append, List.length_map, List.length_map, List.length_map]
  have := h.ms; have := h.ps; have := h.gs
  omega
end Lift
/- Solve. -/
namespace Lift
open Go Go.Proofs

structure MInv (N : Nat) (a0 : Mt) (G : Option (Mt × Nat)) (k d : Nat) (Vs : List Value) (a : Mt) : Prop where
  ik : k ≤ N + 1
  dk : d ≤ k
  dN : d ≤ N
  da : d ≤ a.length
  lV : Vs.length = a.length
  la : a.length = a0.length
  rc : Rect a (N + 1)
  sz : SzM (Xs d) (fM a)
  gg : G = goG N (N + 1 - k) k d a
/-- What the search for a column's row leaves. -/
abbrev stK (N : Nat) (Vs : List Value) (d k : Nat) : St := [(5, .ow 29 (VsD Vs)), (6, .d (dI N)), (7, .d (dI d)), (8, .d (dI k))]
theorem fstN_step {g : Nat → Bool} {n i : Nat} (h : i < n) (h0 : g i = false) : fstN g (n - i) i = fstN g (n - (i + 1)) (i + 1) := by
  rw [show n - i = (n - (i + 1)) + 1 by omega, fstN, if_neg (by rw [h0]; simp)]
theorem fstN_hit {g : Nat → Bool} {n i : Nat} (h : i < n) (h0 : g i = true) : fstN g (n - i) i = i := by
  rw [show n - i = (n - (i + 1)) + 1 by omega, fstN, if_pos h0]
theorem fstN_end {g : Nat → Bool} {n i : Nat} (h : ¬ i < n) : fstN g (n - i) i = i := by rw [show n - i = 0 by omega, fstN]
theorem sgI0 {q : Rat} : sgI q.num = 0 ↔ q = 0 := by
  constructor
  · intro h
    by_cases hq : q = 0
    · exact hq
    · have := sgI_ne (num_ne hq)
      rw [h] at this
      cases this
  · intro h; subst h; rfl
theorem solT_err {x : Trn} {m : Nat} (h : chkT x = m + 1) : solT x = .tu [.sl 3 [], erV (m + 1)] := by unfold solT; rw [h]
theorem solT_ok {x : Trn} (h : chkT x = 0) : solT x = solD (outG x.n.toNat (rowsM x)) := by unfold solT; rw [h]
theorem swV_len (Vs : List Value) (d t : Nat) : (swV Vs d t).length = Vs.length := by unfold swV; simp
set_option maxHeartbeats 6400000 in
theorem gear_Solve_ok (x : Trn) {k : Nat} (hw : x.w k) (hk : k ≤ 10) : Pure Tryz.prog 8 [x.D] (solT x) := by
  refine Pure.intro (n := 178) tok Tryz.func8 rfl rfl rfl (Nat.le_of_ble_eq_true rfl) (by kernel_rfl) (fun B F0 w0 => ?_)
  have cC := gear_check_ok x hw (by omega)
  rcases hE : chkT x with _ | m
  rotate_left
  · rw [hE] at cC
    rw [solT_err hE]
    refine AW.seq ?_
    refine AW.region ?_
    refine AOps.run tok 3 _ _ _ _ rfl ?_
    refine AOps.nil ?_
    refine AW.seq ?_
    refine AW.seq ?_
    refine AW.region ?_
    refine AOps.run tok 1 _ _ _ _ rfl ?_
    refine AOps.call tok rfl rfl rfl rfl cC ?_
    refine AOps.run tok 1 _ _ _ _ rfl ?_
    refine AOps.nil ?_
    refine AW.seq ?_
    refine AW.region ?_
    refine AOps.run tok 1 _ _ _ _ rfl ?_
    refine AOps.err tok rfl rfl rfl rfl rfl ?_
    refine AOps.nil ?_
    refine AW.condT rfl ?_
    refine AW.seq ?_
    refine AW.region ?_
    refine AOps.run tok 3 _ _ _ _ rfl ?_
    refine AOps.nil ?_
    exact AW.ret rfl
  rw [hE] at cC
  rw [solT_ok hE]
  have hT := chkT_ok hE
  have hrows := gear_rows_ok x hw hE
  have hsz := rowsM_sz hw hk hT
  have hrect := rowsM_rect hT
  have hlen := rowsM_len hT
  have n1 := hT.n1
  have n2 := hT.n2
  obtain ⟨N, hN⟩ : ∃ N : Nat, x.n = N := ⟨x.n.toNat, by omega⟩
  rw [show x.n.toNat = N by omega] at hrect ⊢
  rw [hN] at n1 n2
  clear hT hE
  generalize hA : rowsM x = a0 at hrows hsz hrect hlen ⊢
  obtain ⟨n, ms, ps, gs⟩ := x
  dsimp only at hN
  subst hN
  rw [show outG N a0 = outO N (goG N (N + 1) 0 0 a0) by cases h : goG N (N + 1) 0 0 a0 <;> simp [outG, outO, h]]
  obtain ⟨G, hG⟩ : ∃ G, G = goG N (N + 1) 0 0 a0 := ⟨_, rfl⟩
  rw [← hG]
  refine AZ.aw ?_
  refine AZ.seq ?_
  refine AZ.reg (fun B1 F1 w1 => ?_)
  refine AOps.run tok 3 _ _ _ _ rfl ?_
  refine AOps.nil ⟨rfl, ?_⟩
  refine AZ.seq ?_
  refine AZ.seq ?_
  refine AZ.reg (fun B1 F1 w1 => ?_)
  refine AOps.run tok 1 _ _ _ _ rfl ?_
  refine AOps.call tok rfl rfl rfl rfl cC ?_
  refine AOps.run tok 1 _ _ _ _ rfl ?_
  refine AOps.nil ⟨rfl, ?_⟩
  refine AZ.seq ?_
  refine AZ.reg (fun B1 F1 w1 => ?_)
  refine AOps.run tok 1 _ _ _ _ rfl ?_
  refine AOps.err tok rfl rfl rfl rfl rfl ?_
  refine AOps.nil ⟨rfl, ?_⟩
  refine AZ.condF rfl ?_
  refine AZ.skip ?_
  refine AZ.seq ?_
  refine AZ.region ?_   -- rows
  refine AZOps.cut 1 rfl (fun B1 F1 w1 => ?_)
  refine AOps.run tok 1 _ _ _ _ rfl ?_
  refine AOps.nil ⟨rfl, ?_⟩
  refine AZOps.callz tok [] rfl rfl rfl rfl rfl List.nodup_nil rfl hrows (fun _ _ _ => Nat.zero_le _) (fun res R1 hP => ?_)
  obtain ⟨V0, Vs0, hV0, rfl, rfl⟩ := hP
  rw [show updR [] [] (LRs Vs0 a0 ++ [(V0, AV.ow 29 (VsD Vs0))]) = LRs Vs0 a0 ++ [(V0, AV.ow 29 (VsD Vs0))] from by cases LRs Vs0 a0 <;> rfl]
  refine AZOps.cut 1 rfl (fun B1 F1 w1 => ?_)
  refine AOps.run tok 1 _ _ _ _ rfl ?_
  refine AOps.nil ⟨rfl, ?_⟩
  refine AZOps.nil ?_
  refine AZ.to [1, 5] [(1, .bx [dI N, MshsD ms, PltsD ps, SpdsD gs]), (5, .d (.v V0))] rfl ?_
  refine AZ.adopt 5 (LRs Vs0 a0).length (V := V0) (av := AV.ow 29 (VsD Vs0)) (by rw [List.getElem?_append_right (Nat.le_refl _), Nat.sub_self]; rfl) rfl rfl ?_
  rw [show (LRs Vs0 a0 ++ [(V0, AV.ow 29 (VsD Vs0))]).set (LRs Vs0 a0).length (V0, AV.junk) = LRs Vs0 a0 ++ [(V0, AV.junk)] by simp]
  refine AZ.dropA ?_
  refine AZ.to [1, 5] [(1, .bx [dI N, MshsD ms, PltsD ps, SpdsD gs]), (5, .ow 29 (VsD Vs0))] rfl ?_
  refine AZ.seq ?_
  refine AZ.reg (fun B1 F1 w1 => ?_)
  refine AOps.run tok 3 _ _ _ _ rfl ?_
  refine AOps.nil ⟨rfl, ?_⟩
  refine AZ.seq ?_
  refine AZ.reg (fun B1 F1 w1 => ?_)
  refine AOps.run tok 1 _ _ _ _ rfl ?_
  refine AOps.nil ⟨rfl, ?_⟩
  refine AZ.cut [5, 6, 7] (fun s : List Value × Mt × Nat => (LRs s.1 s.2.1, [(5, .ow 29 (VsD s.1)), (6, .d (dI N)), (7, .d (dI s.2.2))]))
    (fun s => G = some (s.2.1, s.2.2) ∧ s.1.length = s.2.1.length ∧ s.2.1.length = a0.length ∧ Rect s.2.1 (N + 1) ∧ s.2.2 ≤ s.2.1.length) ?_ (fun s hs => ?_)
  · refine AZ.seq ?_
    refine AZ.reg (fun B1 F1 w1 => ?_)
    refine AOps.run tok 1 _ _ _ _ rfl ?_
    refine AOps.nil ⟨rfl, ?_⟩
    refine AZ.block ?_
    refine AZ.loopS [5, 6, 7, 8] (fun s : Nat × Nat × List Value × Mt => (LRs s.2.2.1 s.2.2.2, stK N s.2.2.1 s.2.1 s.1)) (fun s => MInv N a0 G s.1 s.2.1 s.2.2.1 s.2.2.2) (fun s => N + 1 - s.1) (0, 0, Vs0, a0) rfl
      ⟨Nat.zero_le _, Nat.zero_le _, Nat.zero_le _, Nat.zero_le _, hV0, rfl, hrect, hsz, hG⟩ (fun s hs => ?_)
    obtain ⟨k, d, Vs, a⟩ := s
    show AZ _ _ _ _ _ _ _ (LRs Vs a) (stK N Vs d k)
    have hs : MInv N a0 G k d Vs a := hs
    obtain ⟨i1, i2, i3, i4, i5, i6, i7, i8, i9⟩ := hs
    have hX : Xs d ≤ 720895 := by have := Xs_le (show d ≤ 16 by omega); rw [Xs_16] at this; exact this
    refine AZ.seq ?_
    refine AZ.seq ?_
    refine AZ.reg (fun B1 F1 w1 => ?_)
    refine AOps.run tok 4 _ _ _ _ rfl ?_
    refine AOps.split (t := 30) rfl (fun hkn => ?_) (fun hkn => ?_)
    rotate_left
    · refine AOps.run tok 5 _ _ _ _ rfl ?_
      refine AOps.nil ⟨rfl, ?_⟩
      refine AZ.condF rfl ?_
      have hkN : k = N + 1 := by have := of_decide_eq_false hkn; omega
      subst hkN
      rw [Nat.sub_self] at i9
      exact AZ.exit ⟨(Vs, a, d), rfl, i9, i5, i6, i7, i4⟩
    have hkN : k ≤ N := by have := of_decide_eq_true hkn; omega
    refine AOps.run tok 5 _ _ _ _ rfl ?_
    rw [List.length_map]
    refine AOps.nil ⟨rfl, ?_⟩
    refine AZ.cond rfl (fun h => ?_) (fun h => ?_)
    rotate_left
    · have hda : ¬ d < a.length := by have := of_decide_eq_false h; omega
      rw [show N + 1 - k = (N - k) + 1 by omega, goG, if_neg hda] at i9
      exact AZ.exit ⟨(Vs, a, d), rfl, i9, i5, i6, i7, i4⟩
    have hda : d < a.length := by have := of_decide_eq_true h; omega
    rw [show N + 1 - k = (N - k) + 1 by omega, goG, if_pos hda] at i9
    refine AZ.skip ?_
    refine AZ.seq ?_
    refine AZ.block ?_
    refine AZ.seq ?_
    refine AZ.reg (fun B1 F1 w1 => ?_)
    refine AOps.run tok 2 _ _ _ _ rfl ?_
    refine AOps.nil ⟨rfl, ?_⟩
    refine AZ.cut [5, 6, 7, 8, 9] (fun _ : Unit => (LRs Vs a, stK N Vs d k ++ [(9, .d (dI (atG a d k)))])) (fun _ => True) ?_ (fun _ _ => ?_)
    · refine AZ.block ?_
      refine AZ.loopS [5, 6, 7, 8, 9] (fun i : Nat => (LRs Vs a, stK N Vs d k ++ [(9, .d (dI i))])) (fun i => d ≤ i ∧ i ≤ a.length ∧ fstN (fun j => nz (fM a j k)) (a.length - i) i = atG a d k) (fun i => a.length - i) d rfl ⟨Nat.le_refl _, i4, rfl⟩ (fun i hi => ?_)
      show AZ _ _ _ _ _ _ _ (LRs Vs a) (stK N Vs d k ++ [(9, .d (dI i))])
      obtain ⟨j1, j2, j3⟩ := hi
      refine AZ.seq ?_
      refine AZ.seq ?_
      refine AZ.regS (fun B1 F1 w1 hS => ?_)
      refine AOps.run tok 5 _ _ _ _ rfl ?_
      rw [List.length_map]
      refine AOps.split (t := 43) rfl (fun h => ?_) (fun h => ?_)
      rotate_left
      · have hie : ¬ i < a.length := by have := of_decide_eq_false h; omega
        rw [fstN_end hie] at j3
        refine AOps.run tok 10 _ _ _ _ rfl ?_
        refine AOps.nil ⟨rfl, ?_⟩
        refine AZ.condF rfl ?_
        exact AZ.exit ⟨(), by rw [← j3]; rfl, trivial⟩
      have hia : i < a.length := by have := of_decide_eq_true h; omega
      have hS1 := hS.at (LRs_get (Vs := Vs) (by omega) hia) (by rw [List.length_map, i7.get hia]; omega)
      refine AOps.run tok 2 _ _ _ _ rfl ?_
      refine AOps.idxo tok rfl rfl rfl rfl (Int.natCast_nonneg i) (by rw [List.length_map]; omega) ?_
      refine AOps.loadel tok (.v (Vs.getD i undef)) rfl rfl rfl rfl (getVs (by omega)) rfl ?_
      refine AOps.run tok 1 _ _ _ _ rfl ?_
      refine AOps.idxs tok hS1 rfl rfl rfl rfl (Int.natCast_nonneg k) (by rw [List.length_map, i7.get hia]; omega) ?_
      refine AOps.loads tok (Qr (fM a i k)).D hS1 rfl rfl rfl rfl rfl rfl (getQ (by rw [i7.get hia]; omega)) rfl ?_
      refine AOps.call tok rfl rfl rfl rfl (fraction_Sign_ok (Qr (fM a i k)) (k := Xs d) (Qr_w _ (i8.lq i k)) (by omega)) ?_
      refine AOps.run tok 2 _ _ _ _ rfl ?_
      rw [Qr_val, sg_nz]
      refine AOps.nil ⟨rfl, ?_⟩
      refine AZ.cond rfl (fun h => ?_) (fun h => ?_)
      · refine AZ.skip ?_
        refine AZ.block ?_
        refine AZ.reg (fun B1 F1 w1 => ?_)
        refine AOps.run tok 3 _ _ _ _ rfl ?_
        rw [wI64 (x := (i : Int) + 1) (by omega) (by omega)]
        refine AOps.nil ⟨rfl, ?_⟩
        exact ⟨i + 1, rfl, ⟨by omega, hia, by rw [← fstN_step hia (by simpa using h)]; exact j3⟩, by omega⟩
      · rw [fstN_hit hia (by simpa using h)] at j3
        exact AZ.exit ⟨(), by rw [← j3]; rfl, trivial⟩
    show AZ _ _ _ _ _ _ _ (LRs Vs a) (stK N Vs d k ++ [(9, .d (dI (atG a d k)))])
    refine AZ.seq ?_
    refine AZ.seq ?_
    refine AZ.reg (fun B1 F1 w1 => ?_)
    refine AOps.run tok 4 _ _ _ _ rfl ?_
    rw [List.length_map]
    refine AOps.nil ⟨rfl, ?_⟩
    refine AZ.cond rfl (fun h => ?_) (fun h => ?_)
    · have hat : atG a d k = a.length := by have := of_decide_eq_true h; omega
      rw [if_pos hat] at i9
      refine AZ.seq ?_
      refine AZ.seq ?_
      refine AZ.reg (fun B1 F1 w1 => ?_)
      refine AOps.run tok 3 _ _ _ _ rfl ?_
      refine AOps.nil ⟨rfl, ?_⟩
      refine AZ.cond rfl (fun h => ?_) (fun h => ?_)
      · refine AZ.exit ?_
        refine AZ.reg (fun B1 F1 w1 => ?_)
        refine AOps.run tok 3 _ _ _ _ rfl ?_
        rw [wI64 (x := (k : Int) + 1) (by omega) (by omega)]
        refine AOps.nil ⟨rfl, ?_⟩
        exact ⟨(k + 1, d, Vs, a), rfl, (show MInv N a0 G (k + 1) d Vs a from ⟨by omega, by omega, i3, i4, i5, i6, i7, i8, by rw [show N + 1 - (k + 1) = N - k by omega]; exact i9⟩), by show N + 1 - (k + 1) < N + 1 - k; omega⟩
      · have hkN' : k = N := by have := of_decide_eq_false h; omega
        subst hkN'
        rw [Nat.sub_self] at i9
        refine AZ.skip ?_
        exact AZ.exit ⟨(Vs, a, d), rfl, i9, i5, i6, i7, i4⟩
    have hat : atG a d k ≠ a.length := by have := of_decide_eq_false h; omega
    rw [if_neg hat] at i9
    obtain ⟨_, t1, t2, t3, t4⟩ := swG_nz i4 i7 hat
    refine AZ.skip ?_
    refine AZ.seq ?_
    refine AZ.seq ?_
    refine AZ.reg (fun B1 F1 w1 => ?_)
    refine AOps.run tok 3 _ _ _ _ rfl ?_
    refine AOps.nil ⟨rfl, ?_⟩
    refine AZ.cond rfl (fun h => ?_) (fun h => ?_)
    · have hkN' : k = N := by have := of_decide_eq_true h; omega
      rw [if_pos hkN'] at i9
      rw [show outO N G = .over by rw [i9]; rfl]
      refine AZ.seq ?_
      refine AZ.reg (fun B1 F1 w1 => ?_)
      refine AOps.run tok 3 _ _ _ _ rfl ?_
      refine AOps.nil ⟨rfl, ?_⟩
      exact AZ.ret rfl
    have hkN' : k < N := by have := of_decide_eq_false h; omega
    rw [if_neg (by omega)] at i9
    refine AZ.skip ?_
    refine AZ.seq ?_
    refine AZ.frame (fun B1 F1 w1 => AW.any hmix (AAny.early 2 (by kernel_rfl) (fun _ _ h => h.2) (AAny.front 2 rfl (AAny.draw3 tok [(3, true), (1, false), (9, true)] 13 [5] (by kernel_rfl) ⟨rfl, ?_⟩))))
    refine APre.run tok 3 _ _ _ _ rfl ?_
    refine APre.nil ⟨rfl, ?_⟩
    refine APre.run tok 1 _ _ _ _ rfl ?_
    refine APre.nil ⟨rfl, ?_⟩
    refine APre.run tok 2 _ _ _ _ rfl ?_
    refine APre.idxo tok rfl rfl rfl rfl rfl rfl (Int.natCast_nonneg _) (by rw [List.length_map]; omega) ?_
    refine APre.loadel tok (.v (Vs.getD (atG a d k) undef)) rfl rfl rfl rfl rfl (getVs (by omega)) rfl ?_
    refine APre.run tok 2 _ _ _ _ rfl ?_
    refine APre.idxo tok rfl rfl rfl rfl rfl rfl (Int.natCast_nonneg _) (by rw [List.length_map]; omega) ?_
    refine APre.loadel tok (.v (Vs.getD d undef)) rfl rfl rfl rfl rfl (getVs (by omega)) rfl ?_
    refine APre.idxo tok rfl rfl rfl rfl rfl rfl (Int.natCast_nonneg _) (by rw [List.length_map]; omega) ?_
    refine APre.nil ⟨_, StL.cons (StOk.elVs (Vs.getD (atG a d k) undef) rfl (by omega)) StL.nil, ?_⟩
    refine AOps.idxo tok rfl rfl rfl rfl (Int.natCast_nonneg _) (by rw [List.length_map, List.length_set]; omega) ?_
    refine AOps.storeVs tok (Vs.getD d undef) rfl rfl rfl (by rw [List.length_set]; omega) ?_
    refine AOps.nil ⟨rfl, ?_⟩
    refine AZ.to [5, 6, 7, 8] (stK N (swV Vs d (atG a d k)) d k) rfl ?_
    refine AZ.swapR d (atG a d k) (LRs_get (by omega) hda) (LRs_get (by omega) t2) ?_
    rw [LRs_swap i5 hda t2]
    obtain ⟨s1, s2, _⟩ := swG_spec hda t2 i7
    have s4 := swG_sz hda t2 i7 i8
    have p1 := pivG_spec hda t2 i7 t4
    have p2 := pivG_sz hda t2 i7 t4 i8
    have hpv : pivG a d k (atG a d k) = clrG ((swG a d (atG a d k)).set d (divR ((swG a d (atG a d k)).getD d []) (fM (swG a d (atG a d k)) d k))) d k ((swG a d (atG a d k)).set d (divR ((swG a d (atG a d k)).getD d []) (fM (swG a d (atG a d k)) d k))).length := rfl
    have hWl := swV_len Vs d (atG a d k)
    rw [hpv] at p1 p2 i9
    generalize swG a d (atG a d k) = b at *
    generalize swV Vs d (atG a d k) = Ws at *
    have hdb : d < b.length := by omega
    have hrl : (b.getD d []).length = N + 1 := s2.get hdb
    obtain ⟨f, hf⟩ : ∃ f, fM b d k = f := ⟨_, rfl⟩
    obtain ⟨r, hr⟩ : ∃ r, b.getD d [] = r := ⟨_, rfl⟩
    have hfr : r.getD k 0 = f := by rw [← hf, ← hr]; rfl
    have hfs : LQ f ≤ Xs d := by rw [← hf]; exact s4.lq d k
    have hrs : ∀ c, LQ (r.getD c 0) ≤ Xs d := fun c => by rw [← hr]; exact s4.lq d c
    have hb0 : LRs Ws b = LRs Ws (b.set d r) := by rw [← hr, set_own hdb]
    have hgd : ∀ q : List Rat, (LRs Ws (b.set d q))[d]? = some (Ws.getD d undef, AV.ow 41 (QsD q)) := fun q => by
      rw [LRs_get (by omega) (by rw [List.length_set]; omega)]; simp [hdb]
    have e1 : (b.set d (divR r f)).length = b.length := List.length_set
    have e2 : Rect (b.set d (divR r f)) (N + 1) := s2.set (by unfold divR; rw [List.length_map, ← hr]; exact hrl)
    have e3 : SzM (Xs d) (fM (b.set d (divR r f))) := by have := scale_sz hdb s4 t4; rw [hf, hr] at this; exact this
    have e4 : fM (b.set d (divR r f)) d k = 1 := by have := scale_f (k := k) hdb d k; rw [if_pos rfl, hf, hr] at this; rw [this]; exact div_own (by rw [← hf]; exact t4)
    rw [hf] at t4
    rw [hf, hr] at p1 p2 i9
    rw [hr] at hrl
    rw [hb0]
    refine AZ.seq ?_
    refine AZ.regS (fun B1 F1 w1 hS => ?_)
    refine AOps.run tok 2 _ _ _ _ rfl ?_
    refine AOps.idxo tok rfl rfl rfl rfl (Int.natCast_nonneg _) (by rw [List.length_map]; omega) ?_
    refine AOps.loadel tok (.v (Ws.getD d undef)) rfl rfl rfl rfl (getVs (by omega)) rfl ?_
    refine AOps.run tok 1 _ _ _ _ rfl ?_
    refine AOps.idxs tok (hS.at (hgd r) (by rw [List.length_map]; omega)) rfl rfl rfl rfl (Int.natCast_nonneg k) (by rw [List.length_map]; omega) ?_
    refine AOps.loads tok (Qr (r.getD k 0)).D (hS.at (hgd r) (by rw [List.length_map]; omega)) rfl rfl rfl rfl rfl rfl (getQ (by omega)) rfl ?_
    rw [hfr]
    refine AOps.run tok 2 _ _ _ _ rfl ?_
    refine AOps.nil ⟨rfl, ?_⟩
    refine AZ.seq ?_
    refine AZ.seq ?_
    refine AZ.regS (fun B1 F1 w1 hS => ?_)
    refine AOps.run tok 2 _ _ _ _ rfl ?_
    refine AOps.idxo tok rfl rfl rfl rfl (Int.natCast_nonneg _) (by rw [List.length_map]; omega) ?_
    refine AOps.loadel tok (.v (Ws.getD d undef)) rfl rfl rfl rfl (getVs (by omega)) rfl ?_
    refine AOps.lens tok (hS.at (hgd r) (by rw [List.length_map]; omega)) rfl rfl rfl rfl ?_
    rw [List.length_map, hrl]
    refine AOps.run tok 1 _ _ _ _ rfl ?_
    refine AOps.nil ⟨rfl, ?_⟩
    refine AZ.block ?_
    refine AZ.loopS [5, 6, 7, 8, 10, 92, 93] (fun j : Nat => (LRs Ws (b.set d (divP r f j)), stK N Ws d k ++ [(10, .bx (Qr f).D.flat), (92, .d (dI ((N + 1 : Nat) : Int))), (93, .d (dI j))])) (fun j => j ≤ N + 1) (fun j => N + 1 - j) 0
      (by rw [divP_zero]; rfl) (Nat.zero_le _) (fun j hj => ?_)
    show AZ _ _ _ _ _ _ _ (LRs Ws (b.set d (divP r f j))) (stK N Ws d k ++ [(10, .bx (Qr f).D.flat), (92, .d (dI ((N + 1 : Nat) : Int))), (93, .d (dI j))])
    refine AZ.seq ?_
    refine AZ.reg (fun B1 F1 w1 => ?_)
    refine AOps.run tok 1 _ _ _ _ rfl ?_
    refine AOps.nil ⟨rfl, ?_⟩
    refine AZ.seq ?_
    refine AZ.cond rfl (fun h => ?_) (fun h => ?_)
    · have hjn : j < N + 1 := by have := of_decide_eq_true h; omega
      have hpl := divP_len r f (j := j) (by omega)
      have hpg := divP_get r f (j := j) (by omega)
      have hps := divP_set r f (j := j) (by omega)
      have hrj := hrs j
      refine AZ.skip ?_
      refine AZ.seq ?_
      refine AZ.block ?_
      refine AZ.seq ?_
      refine AZ.reg (fun B1 F1 w1 => ?_)
      refine AOps.run tok 2 _ _ _ _ rfl ?_
      refine AOps.nil ⟨rfl, ?_⟩
      refine AZ.seq ?_
      refine AZ.frameS (fun B1 F1 w1 hS => AW.draw3 tok hmix [(11, true), (1, false), (1, true)] 13 [12] (by kernel_rfl) ⟨rfl, ?_⟩)
      have hS1 := hS.at (hgd (divP r f j)) (by rw [List.length_map]; omega)
      refine APre.run tok 2 _ _ _ _ rfl ?_
      refine APre.idxo tok rfl rfl rfl rfl rfl rfl (Int.natCast_nonneg _) (by rw [List.length_map]; omega) ?_
      refine APre.loadel tok (.v (Ws.getD d undef)) rfl rfl rfl rfl rfl (getVs (by omega)) rfl ?_
      refine APre.run tok 1 _ _ _ _ rfl ?_
      refine APre.idxs tok hS1 rfl rfl rfl rfl rfl (Int.natCast_nonneg j) (by rw [List.length_map]; omega) ?_
      refine APre.loads tok (Qr ((divP r f j).getD j 0)).D hS1 rfl rfl rfl rfl rfl rfl rfl (getQ (by omega)) rfl ?_
      rw [hpg]
      refine APre.run tok 1 _ _ _ _ rfl ?_
      refine APre.call tok rfl rfl rfl rfl rfl (fraction_Div_ok (Qr (r.getD j 0)) (Qr f) (k := Xs d) (Qr_w _ hrj) (Qr_w _ hfs) (by omega) (by rw [Qr_val]; exact t4)) ?_
      rw [Qr_val, Qr_val]
      refine APre.run tok 2 _ _ _ _ rfl ?_
      refine APre.nil ⟨rfl, ?_⟩
      refine APre.run tok 1 _ _ _ _ rfl ?_
      refine APre.nil ⟨rfl, ?_⟩
      refine APre.run tok 1 _ _ _ _ rfl ?_
      refine APre.nil ⟨_, StL.cons (.bx rfl) (StL.nil), ?_⟩
      refine AOps.run tok 1 _ _ _ _ rfl ?_
      refine AOps.nil ⟨rfl, ?_⟩
      refine AZ.to [5, 6, 7, 8, 10, 11, 12, 13, 92, 93] [(5, .ow 29 (VsD Ws)), (6, .d (dI N)), (7, .d (dI d)), (8, .d (dI k)), (10, .bx (Qr f).D.flat), (11, .d (dI j)), (12, .bx (Qr (r.getD j 0 / f)).D.flat), (13, .d nilE), (92, .d (dI ((N + 1 : Nat) : Int))), (93, .d (dI j))] rfl ?_
      refine AZ.seq ?_
      refine AZ.seq ?_
      refine AZ.reg (fun B1 F1 w1 => ?_)
      refine AOps.run tok 1 _ _ _ _ rfl ?_
      refine AOps.err tok rfl rfl rfl rfl rfl ?_
      refine AOps.nil ⟨rfl, ?_⟩
      refine AZ.condF rfl ?_
      refine AZ.skip ?_
      refine AZ.any hmix (ZAny.drawS 7 (by kernel_rfl) (fun B1 F1 w1 hS => ?_))
      have hS1 := hS.at (hgd (divP r f j)) (by rw [List.length_map]; omega)
      refine APre.run tok 2 _ _ _ _ rfl ?_
      refine APre.idxo tok rfl rfl rfl rfl rfl rfl (Int.natCast_nonneg _) (by rw [List.length_map]; omega) ?_
      refine APre.loadel tok (.v (Ws.getD d undef)) rfl rfl rfl rfl rfl (getVs (by omega)) rfl ?_
      refine APre.run tok 2 _ _ _ _ rfl ?_
      refine APre.idxs tok hS1 rfl rfl rfl rfl rfl (Int.natCast_nonneg j) (by rw [List.length_map]; omega) ?_
      refine APre.nil ⟨rfl, ?_⟩
      refine AZOps.to [114, 117, 116, 5, 6, 7, 8, 10, 92, 93] [(114, .d (.v (Ws.getD d undef))), (117, .d (.v (ptrV (Ws.getD d undef) (j * 3)))), (116, .d (Qr (r.getD j 0 / f)).D), (5, .ow 29 (VsD Ws)), (6, .d (dI N)), (7, .d (dI d)), (8, .d (dI k)), (10, .bx (Qr f).D.flat), (92, .d (dI ((N + 1 : Nat) : Int))), (93, .d (dI j))] rfl ?_
      refine AZOps.adopt 114 d (hgd (divP r f j)) rfl rfl ?_
      refine AZOps.el tok 114 117 rfl (List.Mem.head _) rfl rfl rfl (by rw [List.length_map]; omega) rfl ?_
      refine AZOps.cut 1 rfl (fun B1 F1 w1 => ?_)
      refine AOps.storeQ tok (r.getD j 0 / f) rfl rfl rfl (by omega) ?_
      rw [hps]
      refine AOps.nil ⟨rfl, ?_⟩
      refine AZOps.back 114 d rfl rfl rfl (List.Mem.head _) (List.getElem?_set_self (List.getElem?_eq_some_iff.1 (hgd (divP r f j))).1) ?_
      refine AZOps.convR (R' := LRs Ws (b.set d (divP r f (j + 1)))) (by rw [List.set_set, LRs_set (by omega), set_set]) ?_
      refine AZOps.nil ?_
      refine AZ.reg (fun B1 F1 w1 => ?_)
      refine AOps.run tok 2 _ _ _ _ rfl ?_
      rw [wI64 (x := (j : Int) + 1) (by omega) (by omega)]
      refine AOps.nil ⟨rfl, ?_⟩
      exact ⟨j + 1, rfl, hjn, by omega⟩
    have hjn : j = N + 1 := by have := of_decide_eq_false h; omega
    subst hjn
    rw [show divP r f (N + 1) = divR r f by rw [← hrl]; exact divP_all r f]
    refine AZ.exit ?_
    generalize b.set d (divR r f) = e at *
    have hWe : Ws.length = e.length := by omega
    refine AZ.seq ?_
    refine AZ.seq ?_
    refine AZ.reg (fun B1 F1 w1 => ?_)
    refine AOps.run tok 3 _ _ _ _ rfl ?_
    rw [List.length_map, hWe]
    refine AOps.nil ⟨rfl, ?_⟩
    refine AZ.block ?_
    refine AZ.loopS [5, 6, 7, 8, 120, 121] (fun i : Nat => (LRs Ws (clrG e d k i), stK N Ws d k ++ [(120, .d (dI e.length)), (121, .d (dI i))])) (fun i => i ≤ e.length) (fun i => e.length - i) 0 rfl (Nat.zero_le _) (fun i hi => ?_)
    show AZ _ _ _ _ _ _ _ (LRs Ws (clrG e d k i)) (stK N Ws d k ++ [(120, .d (dI e.length)), (121, .d (dI i))])
    refine AZ.seq ?_
    refine AZ.reg (fun B1 F1 w1 => ?_)
    refine AOps.run tok 1 _ _ _ _ rfl ?_
    refine AOps.nil ⟨rfl, ?_⟩
    refine AZ.seq ?_
    have hde : d < e.length := by omega
    refine AZ.cond rfl (fun h => ?_) (fun h => ?_)
    · have hie : i < e.length := by have := of_decide_eq_true h; omega
      obtain ⟨c1, c2, _, _⟩ := clrG_spec hde e2 e4 (i := i) (by omega)
      have c5 := clrG_sz hde e2 e4 e3 (i := i) (by omega)
      have c6 : clrG e d k (i + 1) = if i ≠ d ∧ fM (clrG e d k i) i k ≠ 0 then (clrG e d k i).set i (lessR ((clrG e d k i).getD i []) ((clrG e d k i).getD d []) (fM (clrG e d k i) i k)) else clrG e d k i := rfl
      generalize clrG e d k i = c at *
      have hci : (c.getD i []).length = N + 1 := c2.get (by omega)
      have hcd : (c.getD d []).length = N + 1 := c2.get (by omega)
      have hgi := LRs_get (Vs := Ws) (a := c) (j := i) (by omega) (by omega)
      have hgdd := LRs_get (Vs := Ws) (a := c) (j := d) (by omega) (by omega)
      refine AZ.skip ?_
      refine AZ.seq ?_
      refine AZ.block ?_
      refine AZ.seq ?_
      refine AZ.reg (fun B1 F1 w1 => ?_)
      refine AOps.run tok 2 _ _ _ _ rfl ?_
      refine AOps.nil ⟨rfl, ?_⟩
      refine AZ.seq ?_
      refine AZ.regS (fun B1 F1 w1 hS => ?_)
      refine AOps.run tok 4 _ _ _ _ rfl ?_
      refine AOps.split (t := 127) rfl (fun hid => ?_) (fun hid => ?_)
      rotate_left
      · have hid : i = d := by have := hid; simp at this; omega
        rw [if_neg (by rw [hid]; simp)] at c6
        refine AOps.run tok 10 _ _ _ _ rfl ?_
        refine AOps.nil ⟨rfl, ?_⟩
        refine AZ.condF rfl ?_
        refine AZ.skip ?_
        refine AZ.reg (fun B1 F1 w1 => ?_)
        refine AOps.run tok 2 _ _ _ _ rfl ?_
        rw [wI64 (x := (i : Int) + 1) (by omega) (by omega)]
        refine AOps.nil ⟨rfl, ?_⟩
        exact ⟨i + 1, Prod.ext (show LRs Ws c = LRs Ws (clrG e d k (i + 1)) by rw [c6]) rfl, hie, by omega⟩
      have hid : i ≠ d := by have := hid; simp at this; omega
      have hS1 := hS.at hgi (by rw [List.length_map]; omega)
      refine AOps.run tok 2 _ _ _ _ rfl ?_
      refine AOps.idxo tok rfl rfl rfl rfl (Int.natCast_nonneg i) (by rw [List.length_map]; omega) ?_
      refine AOps.loadel tok (.v (Ws.getD i undef)) rfl rfl rfl rfl (getVs (by omega)) rfl ?_
      refine AOps.run tok 1 _ _ _ _ rfl ?_
      refine AOps.idxs tok hS1 rfl rfl rfl rfl (Int.natCast_nonneg k) (by rw [List.length_map]; omega) ?_
      refine AOps.loads tok (Qr (fM c i k)).D hS1 rfl rfl rfl rfl rfl rfl (getQ (by omega)) rfl ?_
      refine AOps.call tok rfl rfl rfl rfl (fraction_Sign_ok (Qr (fM c i k)) (k := 2 * Xs d + 1) (Qr_w _ (c5.lq i k)) (by omega)) ?_
      refine AOps.run tok 2 _ _ _ _ rfl ?_
      rw [Qr_val]
      refine AOps.nil ⟨rfl, ?_⟩
      refine AZ.cond rfl (fun h => ?_) (fun h => ?_)
      rotate_left
      · have hz : ¬ (i ≠ d ∧ fM c i k ≠ 0) := fun g => by have h2 := h; simp at h2; exact g.2 (sgI0.1 h2)
        rw [if_neg hz] at c6
        refine AZ.skip ?_
        refine AZ.reg (fun B1 F1 w1 => ?_)
        refine AOps.run tok 2 _ _ _ _ rfl ?_
        rw [wI64 (x := (i : Int) + 1) (by omega) (by omega)]
        refine AOps.nil ⟨rfl, ?_⟩
        exact ⟨i + 1, Prod.ext (show LRs Ws c = LRs Ws (clrG e d k (i + 1)) by rw [c6]) rfl, hie, by omega⟩
      have hz : i ≠ d ∧ fM c i k ≠ 0 := ⟨hid, fun g => by have h2 := h; simp at h2; exact h2 (sgI0.2 g)⟩
      rw [if_pos hz] at c6
      refine AZ.any hmix (ZAny.drawS 15 (by kernel_rfl) (fun B1 F1 w1 hS => ?_))
      have hS1 := hS.at hgi (by rw [List.length_map]; omega)
      refine APre.run tok 2 _ _ _ _ rfl ?_
      refine APre.idxo tok rfl rfl rfl rfl rfl rfl (Int.natCast_nonneg i) (by rw [List.length_map]; omega) ?_
      refine APre.loadel tok (.v (Ws.getD i undef)) rfl rfl rfl rfl rfl (getVs (by omega)) rfl ?_
      refine APre.run tok 2 _ _ _ _ rfl ?_
      refine APre.idxo tok rfl rfl rfl rfl rfl rfl (Int.natCast_nonneg d) (by rw [List.length_map]; omega) ?_
      refine APre.loadel tok (.v (Ws.getD d undef)) rfl rfl rfl rfl rfl (getVs (by omega)) rfl ?_
      refine APre.run tok 2 _ _ _ _ rfl ?_
      refine APre.idxo tok rfl rfl rfl rfl rfl rfl (Int.natCast_nonneg i) (by rw [List.length_map]; omega) ?_
      refine APre.loadel tok (.v (Ws.getD i undef)) rfl rfl rfl rfl rfl (getVs (by omega)) rfl ?_
      refine APre.run tok 1 _ _ _ _ rfl ?_
      refine APre.idxs tok hS1 rfl rfl rfl rfl rfl (Int.natCast_nonneg k) (by rw [List.length_map]; omega) ?_
      refine APre.loads tok (Qr (fM c i k)).D hS1 rfl rfl rfl rfl rfl rfl rfl (getQ (by omega)) rfl ?_
      refine APre.nil ⟨rfl, ?_⟩
      refine AZOps.to [141, 145, 152, 5, 6, 7, 8, 120, 121] [(141, .d (.v (Ws.getD i undef))), (145, .d (.v (Ws.getD d undef))), (152, .d (Qr (fM c i k)).D), (5, .ow 29 (VsD Ws)), (6, .d (dI N)), (7, .d (dI d)), (8, .d (dI k)), (120, .d (dI e.length)), (121, .d (dI i))] rfl ?_
      refine AZOps.callz tok [i, d] rfl rfl rfl rfl (sel2 hgi hgdd) (by simp [hid]) rfl (gear_less_ok _ _ (c.getD i []) (c.getD d []) (fM c i k) (k := 2 * Xs d + 1) (by omega) (fun u => c5.lq i u) (fun u => c5.lq d u) (c5.lq i k) (by omega) (by omega) (by omega)) (fun res R1 hP => by rw [hP.2]; exact Nat.le_refl _) (fun res R1 hP => ?_)
      obtain ⟨rfl, rfl⟩ := hP
      refine AZOps.convR (R' := LRs Ws (c.set i (lessR (c.getD i []) (c.getD d []) (fM c i k)))) (by
        show ((LRs Ws c).set i _).set d _ ++ [] = _
        rw [List.append_nil, LRs_less (by omega) (by omega) (by omega) hid]) ?_
      refine AZOps.nil ?_
      refine AZ.reg (fun B1 F1 w1 => ?_)
      refine AOps.run tok 2 _ _ _ _ rfl ?_
      rw [wI64 (x := (i : Int) + 1) (by omega) (by omega)]
      refine AOps.nil ⟨rfl, ?_⟩
      exact ⟨i + 1, Prod.ext (show LRs Ws (c.set i (lessR (c.getD i []) (c.getD d []) (fM c i k))) = LRs Ws (clrG e d k (i + 1)) by rw [c6]) rfl, hie, by omega⟩
    have hie : i = e.length := by have := of_decide_eq_false h; omega
    subst hie
    refine AZ.exit ?_
    refine AZ.reg (fun B1 F1 w1 => ?_)
    refine AOps.run tok 3 _ _ _ _ rfl ?_
    rw [wI64 (x := (d : Int) + 1) (by omega) (by omega)]
    refine AOps.nil ⟨rfl, ?_⟩
    refine AZ.reg (fun B1 F1 w1 => ?_)
    refine AOps.run tok 3 _ _ _ _ rfl ?_
    rw [wI64 (x := (k : Int) + 1) (by omega) (by omega)]
    refine AOps.nil ⟨rfl, ?_⟩
    exact ⟨(k + 1, d + 1, Ws, clrG e d k e.length), rfl, (show MInv N a0 G (k + 1) (d + 1) Ws (clrG e d k e.length) from ⟨by omega, by omega, by omega, by rw [p1.1]; omega, by rw [p1.1]; omega, by rw [p1.1]; exact i6, p1.2.1, p2, by rw [show N + 1 - (k + 1) = N - k by omega]; exact i9⟩), by show N + 1 - (k + 1) < N + 1 - k; omega⟩
  obtain ⟨Vs, a, d⟩ := s
  obtain ⟨g1, g2, g3, g4, g5⟩ := hs
  dsimp only at g1 g2 g3 g4 g5
  show AZ _ _ _ _ _ _ _ (LRs Vs a) [(5, .ow 29 (VsD Vs)), (6, .d (dI N)), (7, .d (dI d))]
  rw [show outO N G = if d < N then .free else .val ((a.take N).map (fun r => r.getD N 0)) by rw [g1]; rfl]
  refine AZ.seq ?_
  refine AZ.seq ?_
  refine AZ.reg (fun B1 F1 w1 => ?_)
  refine AOps.run tok 3 _ _ _ _ rfl ?_
  refine AOps.nil ⟨rfl, ?_⟩
  refine AZ.cond rfl (fun h => ?_) (fun h => ?_)
  · rw [if_pos (by have := of_decide_eq_true h; omega)]
    refine AZ.seq ?_
    refine AZ.reg (fun B1 F1 w1 => ?_)
    refine AOps.run tok 3 _ _ _ _ rfl ?_
    refine AOps.nil ⟨rfl, ?_⟩
    exact AZ.ret rfl
  have hNd : N ≤ d := by have := of_decide_eq_false h; omega
  rw [if_neg (by omega)]
  refine AZ.skip ?_
  refine AZ.seq ?_
  refine AZ.reg (fun B1 F1 w1 => ?_)
  refine AOps.frz tok 5 rfl rfl ?_
  refine AOps.run tok 1 _ _ _ _ rfl ?_
  refine AOps.nil ⟨rfl, ?_⟩
  refine AZ.seq ?_
  refine AZ.seq ?_
  refine AZ.reg (fun B1 F1 w1 => ?_)
  refine AOps.run tok 2 _ _ _ _ rfl ?_
  refine AOps.slc tok rfl rfl rfl rfl trivial (Int.natCast_nonneg N) (Nat.zero_le _) (by show N ≤ _; rw [List.length_map]; omega) ?_
  refine AOps.run tok 2 _ _ _ _ rfl ?_
  rw [slcLen (by rw [List.length_map]; omega)]
  refine AOps.nil ⟨rfl, ?_⟩
  refine AZ.block ?_
  refine AZ.loopS [6, 15, 163, 164, 165] (fun j : Nat => (LRs Vs a, [(6, .d (dI N)), (15, .ow 41 (QsD ((a.take j).map (fun r => r.getD N 0)))), (163, .d (.sl 1 ((VsD Vs).take N))), (164, .d (dI N)), (165, .d (dI j))])) (fun j => j ≤ N) (fun j => N - j) 0 rfl (Nat.zero_le _) (fun j hj => ?_)
  show AZ _ _ _ _ _ _ _ (LRs Vs a) [(6, .d (dI N)), (15, .ow 41 (QsD ((a.take j).map (fun r => r.getD N 0)))), (163, .d (.sl 1 ((VsD Vs).take N))), (164, .d (dI N)), (165, .d (dI j))]
  refine AZ.seq ?_
  refine AZ.reg (fun B1 F1 w1 => ?_)
  refine AOps.run tok 1 _ _ _ _ rfl ?_
  refine AOps.nil ⟨rfl, ?_⟩
  refine AZ.seq ?_
  refine AZ.cond rfl (fun h => ?_) (fun h => ?_)
  · have hjn : j < N := by have := of_decide_eq_true h; omega
    have hja : j < a.length := by omega
    have hgj := LRs_get (Vs := Vs) (a := a) (j := j) (by omega) hja
    have hlj : (a.getD j []).length = N + 1 := g4.get hja
    refine AZ.skip ?_
    refine AZ.seq ?_
    refine AZ.block ?_
    refine AZ.seq ?_
    refine AZ.reg (fun B1 F1 w1 => ?_)
    refine AOps.idx tok (.v (Vs.getD j undef)) rfl rfl rfl rfl (Int.natCast_nonneg j) (by rw [Int.toNat_natCast, List.getElem?_take_of_lt hjn]; exact getVs (by omega)) ?_
    refine AOps.run tok 2 _ _ _ _ rfl ?_
    refine AOps.nil ⟨rfl, ?_⟩
    refine AZ.regS (fun B1 F1 w1 hS => ?_)
    have hS1 := hS.at hgj (by rw [List.length_map]; omega)
    refine AOps.run tok 3 _ _ _ _ rfl ?_
    refine AOps.idxs tok hS1 rfl rfl rfl rfl (Int.natCast_nonneg N) (by rw [List.length_map]; omega) ?_
    refine AOps.loads tok (Qr ((a.getD j []).getD N 0)).D hS1 rfl rfl rfl rfl rfl rfl (getQ (by omega)) rfl ?_
    refine AOps.bs tok rfl rfl rfl rfl ?_
    refine AOps.appo tok rfl rfl rfl rfl rfl rfl (by show ((QsD ((a.take j).map (fun r => r.getD N 0))).length + 1) * 56 ≤ _; rw [List.length_map, List.length_map, List.length_take]; omega) (by show (QsD ((a.take j).map (fun r => r.getD N 0))).length + 1 ≤ _; rw [List.length_map, List.length_map, List.length_take]; omega) ?_
    refine AOps.run tok 1 _ _ _ _ rfl ?_
    refine AOps.nil ⟨rfl, ?_⟩
    refine AZ.reg (fun B1 F1 w1 => ?_)
    refine AOps.run tok 2 _ _ _ _ rfl ?_
    rw [wI64 (x := (j : Int) + 1) (by omega) (by omega)]
    refine AOps.nil ⟨rfl, ?_⟩
    refine ⟨j + 1, Prod.ext rfl ?_, hjn, by omega⟩
    show _ = [(6, AV.d (dI N)), (15, .ow 41 (QsD ((a.take (j + 1)).map (fun r => r.getD N 0)))), (163, .d (.sl 1 ((VsD Vs).take N))), (164, .d (dI N)), (165, .d (dI ((j + 1 : Nat) : Int)))]
    rw [show QsD ((a.take (j + 1)).map (fun r => r.getD N 0)) = QsD ((a.take j).map (fun r => r.getD N 0)) ++ [(Qr ((a.getD j []).getD N 0)).D] by rw [take_snoc a hja, show a.getD j default = a.getD j [] from rfl, List.map_append, QsD, List.map_append]; rfl]
    rfl
  have hjn : j = N := by have := of_decide_eq_false h; omega
  subst hjn
  refine AZ.exit ?_
  refine AZ.seq ?_
  refine AZ.reg (fun B1 F1 w1 => ?_)
  refine AOps.run tok 3 _ _ _ _ rfl ?_
  refine AOps.nil ⟨rfl, ?_⟩
  exact AZ.ret rfl
end Lift
/- Turns. -/
namespace Lift
open Go Go.Proofs

structure TD where
  t : RD
  h : Bool
abbrev TD.D (a : TD) : D := .ag [dB a.t.g, Wd a.t.n, Wd a.t.d, dB a.h]
def TD.okB (a : TD) : Bool := a.t.okB && (!a.h || decide (a.t.val = 0))
def TD.val (a : TD) : Option Rat := if a.h = true then none else some a.t.val
/-- The one form of a turn. -/
def TQ : Option Rat → TD
  | none => ⟨Qr 0, true⟩
  | some q => ⟨Qr q, false⟩
theorem TD.canon {a : TD} {k : Nat} (hw : a.t.w k) (h : a.okB = true) : a = TQ a.val := by
  obtain ⟨t, b⟩ := a
  unfold TD.okB at h
  rw [Bool.and_eq_true] at h
  have ht := RD.canon hw h.1
  cases b with
  | true =>
    have h0 : t.val = 0 := by simpa using h.2
    show TD.mk t true = TD.mk (Qr 0) true
    have ht : t = Qr t.val := ht
    rw [h0] at ht
    rw [ht]
  | false =>
    show TD.mk t false = TD.mk (Qr t.val) false
    have ht : t = Qr t.val := ht
    rw [← ht]
def szT : Option Rat → Nat
  | none => 1
  | some q => LQ q
theorem szT_w (a : Option Rat) {k : Nat} (h : szT a ≤ k) : (TQ a).t.w k := by
  cases a with
  | none => exact Qr_w _ (by rw [LQ_zero]; exact h)
  | some q => exact Qr_w _ h
theorem LQ_m1 : LQ (-1) ≤ 1 := by
  have h := LQ_of 1
  rw [L_one, show ((1 : Int) : Rat) = 1 from rfl] at h
  rw [LQ_neg]
  omega
theorem LQ_one : LQ 1 ≤ 1 := by
  have h := LQ_of 1
  rw [L_one, show ((1 : Int) : Rat) = 1 from rfl] at h
  omega
theorem LQ_over1 {y : Rat} (hy : ¬ y = 0) : LQ (-1 / y) ≤ 1 + LQ y := by
  have := LQ_div (r := -1) hy
  have := LQ_m1
  omega
theorem szT_add (a b : Option Rat) : szT (addT a b) ≤ 2 * (szT a + szT b) + 3 := by
  have z0 := LQ_zero
  have z1 := LQ_one
  cases a with
  | none =>
    cases b with
    | none => show LQ 0 ≤ _; omega
    | some y =>
      show szT (if y = 0 then none else some (-1 / y)) ≤ 2 * (1 + LQ y) + 3
      split
      · show 1 ≤ _; omega
      · rename_i hy
        have := LQ_over1 hy
        show LQ (-1 / y) ≤ _
        omega
  | some x =>
    cases b with
    | none =>
      show szT (if x = 0 then none else some (-1 / x)) ≤ 2 * (LQ x + 1) + 3
      split
      · show 1 ≤ _; omega
      · rename_i hy
        have := LQ_over1 hy
        show LQ (-1 / x) ≤ _
        omega
    | some y =>
      show szT (if 1 - x * y = 0 then none else some ((x + y) / (1 - x * y))) ≤ 2 * (LQ x + LQ y) + 3
      split
      · show 1 ≤ _; omega
      · rename_i hy
        have h1 := LQ_div (r := x + y) hy
        have h2 := LQ_add x y
        have h3 := LQ_sub 1 (x * y)
        have h4 := LQ_mul x y
        show LQ ((x + y) / (1 - x * y)) ≤ _
        omega
theorem turn_Check_ok (a : TD) {k : Nat} (hw : a.t.w k) (hk : k ≤ 20000000) : Pure Tryz.prog 42 [a.D] (erV (if a.okB = true then 0 else 2)) := by
  refine Pure.intro (n := 18) tok Tryz.func42 rfl rfl rfl (Nat.le_of_ble_eq_true rfl) (by kernel_rfl) (fun B F0 w0 => ?_)
  refine AW.seq ?_
  refine AW.region ?_   -- "turn.go:13"
  refine AOps.run tok 2 _ _ _ _ rfl ?_
  refine AOps.nil ?_
  refine AW.seq ?_
  refine AW.seq ?_
  refine AW.region ?_   -- "turn.go:14"   -- GUARDS
  refine AOps.run tok 2 _ _ _ _ rfl ?_
  refine AOps.call tok rfl rfl rfl rfl (fraction_Valid_ok a.t hw (by omega)) ?_
  refine AOps.run tok 2 _ _ _ _ rfl ?_
  refine AOps.split (t := 7) rfl (fun h => ?_) (fun h => ?_)
  · have hv : a.okB = false := by unfold TD.okB; rw [show a.t.okB = false by simpa using h]; rfl
    rw [hv]
    refine AOps.run tok 9 _ _ _ _ rfl ?_
    refine AOps.nil ?_
    refine AW.condT rfl ?_
    refine AW.seq ?_
    refine AW.region ?_
    refine AOps.run tok 2 _ _ _ _ rfl ?_
    refine AOps.nil ?_
    exact AW.ret rfl
  have hv : a.t.okB = true := by simpa using h
  refine AOps.run tok 3 _ _ _ _ rfl ?_
  refine AOps.split (t := 10) rfl (fun hh => ?_) (fun hh => ?_)
  rotate_left
  · rw [show a.okB = true by unfold TD.okB; rw [hv, hh]; rfl]
    refine AOps.run tok 6 _ _ _ _ rfl ?_
    refine AOps.nil ?_
    refine AW.condF rfl ?_
    refine AW.skip ?_
    refine AW.seq ?_
    refine AW.region ?_
    refine AOps.run tok 1 _ _ _ _ rfl ?_
    refine AOps.nil ?_
    exact AW.ret rfl
  refine AOps.run tok 2 _ _ _ _ rfl ?_
  refine AOps.call tok rfl rfl rfl rfl (fraction_Sign_ok a.t hw hk) ?_
  refine AOps.run tok 3 _ _ _ _ rfl ?_
  refine AOps.nil ?_
  refine AW.cond rfl (fun h => ?_) (fun h => ?_)
  · rw [show a.okB = false by unfold TD.okB; rw [hv, hh]; simp at h; simpa [sgI0] using h]
    refine AW.seq ?_
    refine AW.region ?_   -- "turn.go:15"
    refine AOps.run tok 2 _ _ _ _ rfl ?_
    refine AOps.nil ?_
    exact AW.ret rfl
  · rw [show a.okB = true by unfold TD.okB; rw [hv, hh]; simp at h; simpa [sgI0] using h]
    refine AW.skip ?_
    refine AW.seq ?_
    refine AW.region ?_   -- "turn.go:17"
    refine AOps.run tok 1 _ _ _ _ rfl ?_
    refine AOps.nil ?_
    exact AW.ret rfl
theorem turn_over_ok (a b : Rat) {k : Nat} (ha : LQ a ≤ k) (hb : LQ b ≤ k) (hk : k ≤ 20000000) (h0 : b ≠ 0) : Pure Tryz.prog 99 [(Qr a).D, (Qr b).D] (Qr (a / b)).D := by
  refine Pure.intro (n := 17) tok Tryz.func99 rfl rfl rfl (Nat.le_of_ble_eq_true rfl) (by kernel_rfl) (fun B F0 w0 => ?_)
  refine AW.seq ?_
  refine AW.region ?_   -- "turn.go:31"
  refine AOps.run tok 3 _ _ _ _ rfl ?_
  refine AOps.nil ?_
  refine AW.seq ?_
  refine AW.region ?_   -- "turn.go:32"
  refine AOps.run tok 2 _ _ _ _ rfl ?_
  refine AOps.call tok rfl rfl rfl rfl (fraction_Div_ok (Qr a) (Qr b) (Qr_w _ ha) (Qr_w _ hb) hk (by rw [Qr_val]; exact h0)) ?_
  rw [Qr_val, Qr_val]
  refine AOps.run tok 6 _ _ _ _ rfl ?_
  refine AOps.nil ?_
  refine AW.seq ?_
  refine AW.seq ?_
  refine AW.region ?_   -- "turn.go:33"
  refine AOps.run tok 1 _ _ _ _ rfl ?_
  refine AOps.err tok rfl rfl rfl rfl rfl ?_
  refine AOps.nil ?_
  refine AW.condF rfl ?_
  · skip
    refine AW.skip ?_
    refine AW.seq ?_
    refine AW.region ?_   -- "turn.go:36"
    refine AOps.run tok 2 _ _ _ _ rfl ?_
    refine AOps.nil ?_
    exact AW.ret rfl
theorem turn_half_ok : Pure Tryz.prog 100 [] (TQ none).D := by
  refine Pure.intro (n := 2) tok Tryz.func100 rfl rfl rfl (Nat.le_of_ble_eq_true rfl) (by kernel_rfl) (fun B F0 w0 => ?_)
  show AW _ _ _ _ _ _ _ _
  rw [show (TQ none).D = .ag [dB false, .sl 1 [], .sl 1 [], dB true] by unfold TQ; rw [Qr_zero]; rfl]
  refine AW.seq ?_
  refine AW.region ?_   -- "turn.go:10"
  refine AOps.run tok 1 _ _ _ _ rfl ?_
  refine AOps.nil ?_
  refine AW.seq ?_
  refine AW.region ?_   -- "turn.go:10"
  refine AOps.run tok 2 _ _ _ _ rfl ?_
  refine AOps.nil ?_
  exact AW.ret rfl
theorem turn_neg_ok (a : Option Rat) {k : Nat} (ha : szT a ≤ k) (hk : k ≤ 20000000) : Pure Tryz.prog 75 [(TQ a).D] (TQ (negT a)).D := by
  refine Pure.intro (n := 9) tok Tryz.func75 rfl rfl rfl (Nat.le_of_ble_eq_true rfl) (by kernel_rfl) (fun B F0 w0 => ?_)
  have hw := szT_w a ha
  have e : (TQ (negT a)) = ⟨Qr (-(TQ a).t.val), (TQ a).h⟩ := by
    cases a with
    | none => show TD.mk (Qr 0) true = TD.mk (Qr (-(Qr 0).val)) true; rw [Qr_val]; rfl
    | some q => show TD.mk (Qr (-q)) false = TD.mk (Qr (-(Qr q).val)) false; rw [Qr_val]
  rw [e]
  generalize TQ a = t at hw
  refine AW.seq ?_
  refine AW.region ?_   -- "turn.go:115"
  refine AOps.run tok 2 _ _ _ _ rfl ?_
  refine AOps.nil ?_
  refine AW.seq ?_
  refine AW.draw hmix 6 (by kernel_rfl) ?_   -- "turn.go:115"
  refine APre.run tok 2 _ _ _ _ rfl ?_
  refine APre.call tok rfl rfl rfl rfl rfl (fraction_Neg_ok t.t hw hk) ?_
  refine APre.run tok 3 _ _ _ _ rfl ?_
  refine APre.nil ?_
  refine AOps.run tok 1 _ _ _ _ rfl ?_
  refine AOps.nil ?_
  exact AW.ret rfl
end Lift
/- Turns: sums, multiples. -/
namespace Lift
open Go Go.Proofs

theorem TQ0 : (TQ (some 0)).D = .ag [dB false, .sl 1 [], .sl 1 [], dB false] := by show (TD.mk (Qr 0) false).D = _; rw [Qr_zero]; rfl
theorem add_nn : Pure Tryz.prog 77 [(TQ none).D, (TQ none).D] (TQ (addT none none)).D := by
  refine Pure.intro (n := 57) tok Tryz.func77 rfl rfl rfl (Nat.le_of_ble_eq_true rfl) (by kernel_rfl) (fun B F0 w0 => ?_)
  rw [show addT none none = some 0 from rfl, TQ0]
  refine AW.seq ?_
  refine AW.region ?_
  refine AOps.run tok 3 _ _ _ _ rfl ?_
  refine AOps.nil ?_
  refine AW.seq ?_
  refine AW.block ?_
  refine AW.seq ?_
  refine AW.region ?_
  refine AOps.run tok 7 _ _ _ _ rfl ?_
  refine AOps.nil ?_
  refine AW.condT rfl ?_
  refine AW.seq ?_
  refine AW.region ?_
  refine AOps.run tok 2 _ _ _ _ rfl ?_
  refine AOps.nil ?_
  exact AW.ret rfl
theorem add_ns (y : Rat) {k : Nat} (hy : LQ y ≤ k) (hk : k ≤ 1000000) : Pure Tryz.prog 77 [(TQ none).D, (TQ (some y)).D] (TQ (addT none (some y))).D := by
  refine Pure.intro (n := 57) tok Tryz.func77 rfl rfl rfl (Nat.le_of_ble_eq_true rfl) (by kernel_rfl) (fun B F0 w0 => ?_)
  refine AW.seq ?_
  refine AW.region ?_
  refine AOps.run tok 3 _ _ _ _ rfl ?_
  refine AOps.nil ?_
  refine AW.seq ?_
  refine AW.block ?_
  refine AW.seq ?_
  refine AW.region ?_
  refine AOps.run tok 7 _ _ _ _ rfl ?_
  refine AOps.nil ?_
  refine AW.condF rfl ?_
  refine AW.seq ?_
  refine AW.region ?_
  refine AOps.run tok 3 _ _ _ _ rfl ?_
  refine AOps.nil ?_
  refine AW.condF rfl ?_
  refine AW.seq ?_
  refine AW.region ?_
  refine AOps.run tok 5 _ _ _ _ rfl ?_
  refine AOps.call tok rfl rfl rfl rfl (fraction_Sign_ok (Qr y) (Qr_w _ hy) (by omega)) ?_
  refine AOps.run tok 3 _ _ _ _ rfl ?_
  rw [Qr_val]
  refine AOps.nil ?_
  refine AW.cond rfl (fun h => ?_) (fun h => ?_)
  · have h0 : y = 0 := by have h2 := h; simp at h2; exact sgI0.1 h2
    rw [show addT none (some y) = none by show (if y = 0 then _ else _) = _; rw [if_pos h0]]
    refine AW.seq ?_
    refine AW.region ?_
    refine AOps.run tok 2 _ _ _ _ rfl ?_
    refine AOps.nil ?_
    exact AW.ret rfl
  · have h0 : ¬ y = 0 := fun g => by have h2 := h; simp at h2; exact h2 (sgI0.2 g)
    rw [show addT none (some y) = some (-1 / y) by show (if y = 0 then _ else _) = _; rw [if_neg h0]]
    refine AW.seq ?_
    refine AW.region ?_
    refine AOps.run tok 3 _ _ _ _ rfl ?_
    refine AOps.nil ?_
    refine AW.condT rfl ?_
    refine AW.seq ?_
    refine AW.draw hmix 5 (by kernel_rfl) ?_
    refine APre.call tok rfl rfl rfl rfl rfl (fraction_Of_ok (-1) (by omega) (by omega)) ?_
    refine APre.run tok 2 _ _ _ _ rfl ?_
    refine APre.call tok rfl rfl rfl rfl rfl (turn_over_ok ((-1 : Int) : Rat) y (k := k + 1) (by rw [show ((-1 : Int) : Rat) = -1 from rfl]; have := LQ_m1; omega) (by omega) (by omega) h0) ?_
    rw [show ((-1 : Int) : Rat) = -1 from rfl]
    refine APre.run tok 1 _ _ _ _ rfl ?_
    refine APre.nil ?_
    refine AOps.run tok 1 _ _ _ _ rfl ?_
    refine AOps.nil ?_
    exact AW.ret rfl
theorem add_sn (x : Rat) {k : Nat} (hx : LQ x ≤ k) (hk : k ≤ 1000000) : Pure Tryz.prog 77 [(TQ (some x)).D, (TQ none).D] (TQ (addT (some x) none)).D := by
  refine Pure.intro (n := 57) tok Tryz.func77 rfl rfl rfl (Nat.le_of_ble_eq_true rfl) (by kernel_rfl) (fun B F0 w0 => ?_)
  refine AW.seq ?_
  refine AW.region ?_
  refine AOps.run tok 3 _ _ _ _ rfl ?_
  refine AOps.nil ?_
  refine AW.seq ?_
  refine AW.block ?_
  refine AW.seq ?_
  refine AW.region ?_
  refine AOps.run tok 7 _ _ _ _ rfl ?_
  refine AOps.nil ?_
  refine AW.condF rfl ?_
  refine AW.seq ?_
  refine AW.region ?_
  refine AOps.run tok 3 _ _ _ _ rfl ?_
  refine AOps.nil ?_
  refine AW.condT rfl ?_
  refine AW.seq ?_
  refine AW.region ?_
  refine AOps.run tok 2 _ _ _ _ rfl ?_
  refine AOps.call tok rfl rfl rfl rfl (add_ns x hx hk) ?_
  rw [show addT none (some x) = addT (some x) none from rfl]
  refine AOps.run tok 1 _ _ _ _ rfl ?_
  refine AOps.nil ?_
  exact AW.ret rfl
theorem add_ss (x y : Rat) {k : Nat} (hx : LQ x ≤ k) (hy : LQ y ≤ k) (hk : k ≤ 1000000) : Pure Tryz.prog 77 [(TQ (some x)).D, (TQ (some y)).D] (TQ (addT (some x) (some y))).D := by
  refine Pure.intro (n := 57) tok Tryz.func77 rfl rfl rfl (Nat.le_of_ble_eq_true rfl) (by kernel_rfl) (fun B F0 w0 => ?_)
  have m1 := LQ_mul x y
  have m2 := LQ_add x y
  have m3 := LQ_sub 1 (x * y)
  have m4 := LQ_one
  refine AW.seq ?_
  refine AW.region ?_
  refine AOps.run tok 3 _ _ _ _ rfl ?_
  refine AOps.nil ?_
  refine AW.seq ?_
  refine AW.block ?_
  refine AW.seq ?_
  refine AW.region ?_
  refine AOps.run tok 7 _ _ _ _ rfl ?_
  refine AOps.nil ?_
  refine AW.condF rfl ?_
  refine AW.seq ?_
  refine AW.region ?_
  refine AOps.run tok 3 _ _ _ _ rfl ?_
  refine AOps.nil ?_
  refine AW.condF rfl ?_
  refine AW.seq ?_
  refine AW.region ?_
  refine AOps.run tok 9 _ _ _ _ rfl ?_
  refine AOps.nil ?_
  refine AW.condF rfl ?_
  refine AW.seq ?_
  refine AW.region ?_
  refine AOps.run tok 3 _ _ _ _ rfl ?_
  refine AOps.nil ?_
  refine AW.condF rfl ?_
  refine AW.skip ?_
  refine AW.seq ?_
  refine AW.draw hmix 8 (by kernel_rfl) ?_
  refine APre.call tok rfl rfl rfl rfl rfl (fraction_Of_ok 1 (by omega) (by omega)) ?_
  refine APre.run tok 4 _ _ _ _ rfl ?_
  refine APre.call tok rfl rfl rfl rfl rfl (fraction_Mul_ok (Qr x) (Qr y) (k := k) (Qr_w _ hx) (Qr_w _ hy) (by omega)) ?_
  rw [Qr_val, Qr_val]
  refine APre.call tok rfl rfl rfl rfl rfl (fraction_Sub_ok (Qr ((1 : Int) : Rat)) (Qr (x * y)) (k := 2 * k + 1) (Qr_w _ (by rw [show ((1 : Int) : Rat) = 1 from rfl]; omega)) (Qr_w _ (by omega)) (by omega)) ?_
  rw [Qr_val, Qr_val, show ((1 : Int) : Rat) = 1 from rfl]
  refine APre.run tok 1 _ _ _ _ rfl ?_
  refine APre.nil ?_
  refine AOps.run tok 1 _ _ _ _ rfl ?_
  refine AOps.nil ?_
  refine AW.seq ?_
  refine AW.seq ?_
  refine AW.region ?_
  refine AOps.run tok 1 _ _ _ _ rfl ?_
  refine AOps.call tok rfl rfl rfl rfl (fraction_Sign_ok (Qr (1 - x * y)) (k := 2 * k + 2) (Qr_w _ (by omega)) (by omega)) ?_
  refine AOps.run tok 1 _ _ _ _ rfl ?_
  rw [Qr_val]
  refine AOps.nil ?_
  refine AW.cond rfl (fun h => ?_) (fun h => ?_)
  · have h0 : 1 - x * y = 0 := by have h2 := h; simp at h2; exact sgI0.1 h2
    rw [show addT (some x) (some y) = none by show (if 1 - x * y = 0 then _ else _) = _; rw [if_pos h0]]
    refine AW.seq ?_
    refine AW.region ?_
    refine AOps.call tok rfl rfl rfl rfl turn_half_ok ?_
    refine AOps.run tok 1 _ _ _ _ rfl ?_
    refine AOps.nil ?_
    exact AW.ret rfl
  · have h0 : ¬ 1 - x * y = 0 := fun g => by have h2 := h; simp at h2; exact h2 (sgI0.2 g)
    rw [show addT (some x) (some y) = some ((x + y) / (1 - x * y)) by show (if 1 - x * y = 0 then _ else _) = _; rw [if_neg h0]]
    refine AW.skip ?_
    refine AW.seq ?_
    refine AW.draw hmix 8 (by kernel_rfl) ?_
    refine APre.run tok 4 _ _ _ _ rfl ?_
    refine APre.call tok rfl rfl rfl rfl rfl (fraction_Add_ok (Qr x) (Qr y) (k := k) (Qr_w _ hx) (Qr_w _ hy) (by omega)) ?_
    rw [Qr_val, Qr_val]
    refine APre.run tok 1 _ _ _ _ rfl ?_
    refine APre.call tok rfl rfl rfl rfl rfl (turn_over_ok (x + y) (1 - x * y) (k := 2 * k + 2) (by omega) (by omega) (by omega) h0) ?_
    refine APre.run tok 1 _ _ _ _ rfl ?_
    refine APre.nil ?_
    refine AOps.run tok 1 _ _ _ _ rfl ?_
    refine AOps.nil ?_
    exact AW.ret rfl
theorem turn_add_ok (a b : Option Rat) {k : Nat} (ha : szT a ≤ k) (hb : szT b ≤ k) (hk : k ≤ 1000000) : Pure Tryz.prog 77 [(TQ a).D, (TQ b).D] (TQ (addT a b)).D := by
  cases a with
  | none =>
    cases b with
    | none => exact add_nn
    | some y => exact add_ns y hb hk
  | some x =>
    cases b with
    | none => exact add_sn x ha hk
    | some y => exact add_ss x y ha hb hk
theorem TQ_ok (a : Option Rat) : (TQ a).okB = true := by
  cases a with
  | none => show ((Qr 0).okB && (!true || decide ((Qr 0).val = 0))) = true; rw [Qr_ok, Qr_val]; rfl
  | some q => show ((Qr q).okB && (!false || decide ((Qr q).val = 0))) = true; rw [Qr_ok]; rfl
theorem turn_checkAll_ok (a b : Option Rat) {k : Nat} (ha : szT a ≤ k) (hb : szT b ≤ k) (hk : k ≤ 1000000) : Pure Tryz.prog 76 [.sl 4 [(TQ a).D, (TQ b).D]] nilE := by
  refine Pure.intro (n := 18) tok Tryz.func76 rfl rfl rfl (Nat.le_of_ble_eq_true rfl) (by kernel_rfl) (fun B F0 w0 => ?_)
  have hc : ∀ i : Nat, i < 2 → ∃ c, [(TQ a).D, (TQ b).D][i]? = some (TQ c).D ∧ szT c ≤ k := fun i hi => by
    match i, hi with
    | 0, _ => exact ⟨a, rfl, ha⟩
    | 1, _ => exact ⟨b, rfl, hb⟩
  refine AW.seq ?_
  refine AW.region ?_
  refine AOps.run tok 1 _ _ _ _ rfl ?_
  refine AOps.nil ?_
  refine AW.seq ?_
  refine AW.seq ?_
  refine AW.region ?_
  refine AOps.run tok 3 _ _ _ _ rfl ?_
  refine AOps.nil ?_
  refine AW.block ?_
  refine AW.loopS [6, 7, 8] (fun i : Nat => [(6, .d (.sl 4 [(TQ a).D, (TQ b).D])), (7, .d (dI 2)), (8, .d (dI i))]) (fun i => i ≤ 2) (fun i => 2 - i) 0 rfl (Nat.zero_le _) (fun i hi => ?_)
  refine AW.seq ?_
  refine AW.region ?_
  refine AOps.run tok 1 _ _ _ _ rfl ?_
  refine AOps.nil ?_
  refine AW.seq ?_
  refine AW.cond rfl (fun h => ?_) (fun h => ?_)
  · have hin : i < 2 := by have := of_decide_eq_true h; omega
    obtain ⟨c, h1, h2⟩ := hc i hin
    refine AW.skip ?_
    refine AW.seq ?_
    refine AW.block ?_
    refine AW.seq ?_
    refine AW.region ?_
    refine AOps.idx tok (TQ c).D rfl rfl rfl rfl (Int.natCast_nonneg i) h1 ?_
    refine AOps.run tok 3 _ _ _ _ rfl ?_
    refine AOps.nil ?_
    refine AW.seq ?_
    refine AW.region ?_
    refine AOps.run tok 1 _ _ _ _ rfl ?_
    have hk := turn_Check_ok (TQ c) (szT_w c h2) (by omega)
    rw [TQ_ok] at hk
    refine AOps.call tok rfl rfl rfl rfl hk ?_
    refine AOps.run tok 1 _ _ _ _ rfl ?_
    refine AOps.nil ?_
    refine AW.seq ?_
    refine AW.region ?_
    refine AOps.run tok 1 _ _ _ _ rfl ?_
    refine AOps.err tok rfl rfl rfl rfl rfl ?_
    refine AOps.nil ?_
    refine AW.condF rfl ?_
    refine AW.skip ?_
    refine AW.region ?_
    refine AOps.run tok 2 _ _ _ _ rfl ?_
    rw [wI64 (x := (i : Int) + 1) (by omega) (by omega)]
    refine AOps.nil ?_
    exact ⟨i + 1, rfl, hin, by omega⟩
  · refine AW.exit ?_
    refine AW.seq ?_
    refine AW.region ?_
    refine AOps.run tok 1 _ _ _ _ rfl ?_
    refine AOps.nil ?_
    exact AW.ret rfl
theorem turn_Add_ok (a b : Option Rat) {k : Nat} (ha : szT a ≤ k) (hb : szT b ≤ k) (hk : k ≤ 1000000) : Pure Tryz.prog 44 [(TQ a).D, (TQ b).D] (.tu [(TQ (addT a b)).D, nilE]) := by
  refine Pure.intro (n := 18) tok Tryz.func44 rfl rfl rfl (Nat.le_of_ble_eq_true rfl) (by kernel_rfl) (fun B F0 w0 => ?_)
  refine AW.seq ?_
  refine AW.region ?_   -- "turn.go:118"
  refine AOps.run tok 4 _ _ _ _ rfl ?_
  refine AOps.nil ?_
  refine AW.seq ?_
  refine AW.seq ?_
  refine AW.region ?_   -- "turn.go:119"
  refine AOps.run tok 2 _ _ _ _ rfl ?_
  refine AOps.bsd tok rfl rfl rfl rfl rfl ?_
  refine AOps.call tok rfl rfl rfl rfl (turn_checkAll_ok a b ha hb hk) ?_
  refine AOps.run tok 1 _ _ _ _ rfl ?_
  refine AOps.nil ?_
  refine AW.seq ?_
  refine AW.region ?_   -- "turn.go:119"
  refine AOps.run tok 1 _ _ _ _ rfl ?_
  refine AOps.err tok rfl rfl rfl rfl rfl ?_
  refine AOps.nil ?_
  refine AW.condF rfl ?_
  · skip
    refine AW.skip ?_
    refine AW.seq ?_
    refine AW.region ?_   -- "turn.go:122"
    refine AOps.run tok 2 _ _ _ _ rfl ?_
    refine AOps.call tok rfl rfl rfl rfl (turn_add_ok a b ha hb hk) ?_
    refine AOps.run tok 2 _ _ _ _ rfl ?_
    refine AOps.nil ?_
    exact AW.ret rfl
theorem turn_Neg_ok (a : Option Rat) {k : Nat} (ha : szT a ≤ k) (hk : k ≤ 1000000) : Pure Tryz.prog 43 [(TQ a).D] (.tu [(TQ (negT a)).D, nilE]) := by
  refine Pure.intro (n := 13) tok Tryz.func43 rfl rfl rfl (Nat.le_of_ble_eq_true rfl) (by kernel_rfl) (fun B F0 w0 => ?_)
  have hc := turn_Check_ok (TQ a) (szT_w a ha) (by omega)
  rw [TQ_ok] at hc
  refine AW.seq ?_
  refine AW.region ?_   -- "turn.go:126"
  refine AOps.run tok 3 _ _ _ _ rfl ?_
  refine AOps.nil ?_
  refine AW.seq ?_
  refine AW.seq ?_
  refine AW.region ?_   -- "turn.go:127"
  refine AOps.run tok 1 _ _ _ _ rfl ?_
  refine AOps.call tok rfl rfl rfl rfl hc ?_
  refine AOps.run tok 1 _ _ _ _ rfl ?_
  refine AOps.nil ?_
  refine AW.seq ?_
  refine AW.region ?_   -- "turn.go:127"
  refine AOps.run tok 1 _ _ _ _ rfl ?_
  refine AOps.err tok rfl rfl rfl rfl rfl ?_
  refine AOps.nil ?_
  refine AW.condF rfl ?_
  · skip
    refine AW.skip ?_
    refine AW.seq ?_
    refine AW.region ?_   -- "turn.go:130"
    refine AOps.run tok 1 _ _ _ _ rfl ?_
    refine AOps.call tok rfl rfl rfl rfl (turn_neg_ok a ha (by omega)) ?_
    refine AOps.run tok 2 _ _ _ _ rfl ?_
    refine AOps.nil ?_
    exact AW.ret rfl
end Lift
/- Multiples of a turn; ratios of chains. -/
namespace Lift
open Go Go.Proofs

def Bt (k : Nat) : Nat → Nat
  | 0 => 1
  | i + 1 => 2 * (Bt k i + k) + 3
theorem Bt_le {k i : Nat} : Bt k i + 2 * k + 3 = 2 ^ i * (2 * k + 4) := by
  induction i with
  | zero => simp [Bt]; omega
  | succ i ih =>
    rw [Nat.pow_succ, Bt]
    have : 2 ^ i * 2 * (2 * k + 4) = 2 * (2 ^ i * (2 * k + 4)) := by ac_rfl
    rw [this, ← ih]; omega
theorem timesT_sz (t : Option Rat) {k : Nat} (h : szT t ≤ k) : ∀ i : Nat, szT (timesT t i) ≤ Bt k i
  | 0 => by show LQ 0 ≤ 1; rw [LQ_zero]; exact Nat.le_refl _
  | i + 1 => by
    have h1 := timesT_sz t h i
    have h2 := szT_add (timesT t i) t
    show szT (addT (timesT t i) t) ≤ 2 * (Bt k i + k) + 3
    omega
theorem Bt_15 {k i : Nat} (hk : k ≤ 6) (hi : i ≤ 15) : Bt k i ≤ 1000000 := by
  have h := Bt_le (k := k) (i := i)
  have h1 : 2 ^ i ≤ 2 ^ 15 := Nat.pow_le_pow_right (by decide) hi
  have h2 : 2 ^ i * (2 * k + 4) ≤ 2 ^ 15 * 16 := Nat.mul_le_mul h1 (by omega)
  have h3 : 2 ^ 15 * 16 = 524288 := by decide
  omega
theorem szT_neg (t : Option Rat) : szT (negT t) = szT t := by
  cases t with
  | none => rfl
  | some q => exact LQ_neg q
theorem szT_val {a : TD} {k : Nat} (hw : a.t.w k) (hk : 1 ≤ k) : szT a.val ≤ k := by
  unfold TD.val
  split
  · exact hk
  · exact LQ_val hw hk
theorem timesZ_split (t : Option Rat) {n : Int} : timesZ t n = if n < 0 then timesT (negT t) n.natAbs else timesT t n.natAbs := rfl
theorem gear_Times_ok (t : TD) (n : Int) {k : Nat} (hw : t.t.w k) (hk : k ≤ 6) (hk1 : 1 ≤ k) (hb : t.okB = true) (h1 : -16 ≤ n) (h2 : n ≤ 16) : Pure Tryz.prog 14 [t.D, dI n] (.tu [(TQ (timesZ t.val n)).D, nilE]) := by
  refine Pure.intro (n := 55) tok Tryz.func14 rfl rfl rfl (Nat.le_of_ble_eq_true rfl) (by kernel_rfl) (fun B F0 w0 => ?_)
  have hc := turn_Check_ok t hw (by omega)
  rw [hb] at hc
  have hs := szT_val hw hk1
  have hcan := TD.canon hw hb
  generalize hv : t.val = v at hs hcan ⊢
  subst hcan
  refine AW.seq ?_
  refine AW.region ?_
  refine AOps.run tok 3 _ _ _ _ rfl ?_
  refine AOps.nil ?_
  refine AW.seq ?_
  refine AW.seq ?_
  refine AW.region ?_
  refine AOps.run tok 1 _ _ _ _ rfl ?_
  refine AOps.call tok rfl rfl rfl rfl hc ?_
  refine AOps.err tok rfl rfl rfl rfl rfl ?_
  refine AOps.run tok 5 _ _ _ _ rfl ?_
  refine AOps.split (t := 18) rfl (fun g => by have := of_decide_eq_true g; omega) (fun g => ?_)
  refine AOps.run tok 3 _ _ _ _ rfl ?_
  refine AOps.nil ?_
  refine AW.cond rfl (fun g2 => by have := of_decide_eq_true g2; omega) (fun g2 => ?_)
  refine AW.skip ?_
  refine AW.cut [1, 2, 4, 5] (fun s : Option Rat × Nat => [(1, .d (dI s.2)), (2, .bx (TQ s.1).D.flat), (4, .bx [dB false, .sl 1 [], .sl 1 [], dB false]), (5, .d nilE)]) (fun s => timesZ v n = timesT s.1 s.2 ∧ s.2 ≤ 16 ∧ szT s.1 ≤ k) ?_ (fun s hs => ?_)
  · refine AW.seq ?_
    refine AW.region ?_
    refine AOps.run tok 2 _ _ _ _ rfl ?_
    refine AOps.nil ?_
    refine AW.cond rfl (fun g => ?_) (fun g => ?_)
    · have g := of_decide_eq_true g
      refine AW.seq ?_
      refine AW.region ?_
      refine AOps.run tok 1 _ _ _ _ rfl ?_
      refine AOps.call tok rfl rfl rfl rfl (turn_Neg_ok v hs (by omega)) ?_
      refine AOps.run tok 6 _ _ _ _ rfl ?_
      refine AOps.nil ?_
      refine AW.seq ?_
      refine AW.seq ?_
      refine AW.region ?_
      refine AOps.run tok 1 _ _ _ _ rfl ?_
      refine AOps.err tok rfl rfl rfl rfl rfl ?_
      refine AOps.nil ?_
      refine AW.condF rfl ?_
      refine AW.skip ?_
      refine AW.region ?_
      refine AOps.run tok 5 _ _ _ _ rfl ?_
      rw [wI64 (by omega) (by omega)]
      refine AOps.nil ?_
      obtain ⟨m, hm⟩ : ∃ m : Nat, n = -m := ⟨n.natAbs, by omega⟩
      subst hm
      refine ⟨(negT v, m), by rw [show (0 - -(m : Int)) = m by omega]; rfl, ?_, by omega, by rw [szT_neg]; exact hs⟩
      rw [timesZ_split, if_pos g, show (-(m : Int)).natAbs = m by omega]
    · have g := of_decide_eq_false g
      refine AW.skip ?_
      obtain ⟨m, hm⟩ : ∃ m : Nat, n = m := ⟨n.natAbs, by omega⟩
      subst hm
      refine ⟨(v, m), rfl, ?_, by omega, hs⟩
      rw [timesZ_split, if_neg g, show ((m : Int)).natAbs = m by omega]
  obtain ⟨s, m⟩ := s
  obtain ⟨e1, e2, e3⟩ := hs
  dsimp only at e1 e2 e3
  rw [e1]
  show AW _ _ _ _ _ _ _ [(1, .d (dI m)), (2, .bx (TQ s).D.flat), (4, .bx [dB false, .sl 1 [], .sl 1 [], dB false]), (5, .d nilE)]
  refine AW.seq ?_
  refine AW.region ?_
  refine AOps.run tok 3 _ _ _ _ rfl ?_
  refine AOps.nil ?_
  refine AW.seq ?_
  refine AW.seq ?_
  refine AW.region ?_
  refine AOps.run tok 2 _ _ _ _ rfl ?_
  refine AOps.nil ?_
  refine AW.block ?_
  refine AW.loopS [2, 4, 5, 8, 39, 40] (fun i : Nat => [(2, .bx (TQ s).D.flat), (4, .bx [dB false, .sl 1 [], .sl 1 [], dB false]), (5, .d nilE), (8, .bx (TQ (timesT s i)).D.flat), (39, .d (dI m)), (40, .d (dI i))]) (fun i => i ≤ m) (fun i => m - i) 0
    (by rw [show timesT s 0 = some 0 from rfl, TQ0]; rfl) (Nat.zero_le _) (fun i hi => ?_)
  refine AW.seq ?_
  refine AW.region ?_
  refine AOps.run tok 1 _ _ _ _ rfl ?_
  refine AOps.nil ?_
  refine AW.seq ?_
  refine AW.cond rfl (fun h => ?_) (fun h => ?_)
  · have hin : i < m := by have := of_decide_eq_true h; omega
    have b1 := timesT_sz s e3 i
    have b2 := Bt_15 (k := k) (i := i) hk (by omega)
    refine AW.skip ?_
    refine AW.seq ?_
    refine AW.block ?_
    refine AW.seq ?_
    refine AW.region ?_
    refine AOps.run tok 2 _ _ _ _ rfl ?_
    refine AOps.call tok rfl rfl rfl rfl (turn_Add_ok (timesT s i) s (k := 1000000) (by omega) (by omega) (Nat.le_refl _)) ?_
    rw [show addT (timesT s i) s = timesT s (i + 1) from rfl]
    refine AOps.run tok 6 _ _ _ _ rfl ?_
    refine AOps.nil ?_
    refine AW.seq ?_
    refine AW.seq ?_
    refine AW.region ?_
    refine AOps.run tok 1 _ _ _ _ rfl ?_
    refine AOps.err tok rfl rfl rfl rfl rfl ?_
    refine AOps.nil ?_
    refine AW.condF rfl ?_
    refine AW.skip ?_
    refine AW.region ?_
    refine AOps.run tok 2 _ _ _ _ rfl ?_
    refine AOps.nil ?_
    refine AW.region ?_
    refine AOps.run tok 2 _ _ _ _ rfl ?_
    rw [wI64 (x := (i : Int) + 1) (by omega) (by omega)]
    refine AOps.nil ?_
    exact ⟨i + 1, rfl, hin, by omega⟩
  · have hin : i = m := by have := of_decide_eq_false h; omega
    subst hin
    refine AW.exit ?_
    refine AW.seq ?_
    refine AW.region ?_
    refine AOps.run tok 3 _ _ _ _ rfl ?_
    refine AOps.nil ?_
    exact AW.ret rfl
end Lift
/- The statements' helpers: what is too large, the example, awake. -/
namespace Lift
open Go Go.Proofs

structure Trn.big (x : Trn) : Prop where
  m : x.ms.length ≤ Lift.big
  p : x.ps.length ≤ Lift.big
  g : x.gs.length ≤ Lift.big
  w : ∀ i, (x.gs.getD i default).v.w Lift.big
def spL (s : Spd) : Bool := decide (6 < s.v.n.length + s.v.d.length)
def spsL (l : List Spd) : Bool := anyF (fun i => spL (l.getD i default)) l.length 0
def lgT (x : Trn) : Bool := decide (60 < x.ms.length ∨ 60 < x.ps.length ∨ 60 < x.gs.length) || spsL x.gs
theorem anyF_no {g : Nat → Bool} : ∀ {m i : Nat}, anyF g m i = false → ∀ k, i ≤ k → k < i + m → g k = false
  | 0, i, _, k, h1, h2 => by omega
  | m + 1, i, h, k, h1, h2 => by
    rw [anyF, Bool.or_eq_false_iff] at h
    rcases Nat.eq_or_lt_of_le h1 with e | e
    · rw [← e]; exact h.1
    · exact anyF_no h.2 k e (by omega)
theorem Trn.big.small {x : Trn} (hx : x.big) (h : lgT x = false) : x.w 6 := by
  unfold lgT at h
  rw [Bool.or_eq_false_iff] at h
  have h1 := of_decide_eq_false h.1
  refine ⟨by omega, by omega, by omega, fun i => ?_⟩
  rcases Nat.lt_or_ge i x.gs.length with hi | hi
  · have h2 := anyF_no h.2 i (Nat.zero_le _) (by omega)
    have h2 := of_decide_eq_false h2
    obtain ⟨a, b, _, _⟩ := hx.w i
    exact ⟨a, b, by omega, by omega⟩
  · rw [List.getD_eq_getElem?_getD, List.getElem?_eq_none hi]
    exact ⟨fun _ h => (by cases h), fun _ h => (by cases h), Nat.zero_le _, Nat.zero_le _⟩
theorem g51_large_ok (x : Trn) (hx : x.big) : Pure Tryz.prog 7 [x.D] (dB (lgT x)) := by
  refine Pure.intro (n := 45) tok Tryz.func7 rfl rfl rfl (Nat.le_of_ble_eq_true rfl) (by kernel_rfl) (fun B F0 w0 => ?_)
  obtain ⟨b1, b2, b3, b4⟩ := hx
  have hbig : Lift.big = 1000000000000000 := rfl
  refine AW.seq ?_
  refine AW.region ?_
  refine AOps.run tok 2 _ _ _ _ rfl ?_
  refine AOps.nil ?_
  refine AW.cut [1] (fun _ : Unit => [(1, .bx [dI x.n, MshsD x.ms, PltsD x.ps, SpdsD x.gs])]) (fun _ => ¬ (60 < x.ms.length ∨ 60 < x.ps.length ∨ 60 < x.gs.length)) ?_ (fun _ hs => ?_)
  · refine AW.seq ?_
    refine AW.region ?_
    refine AOps.run tok 5 _ _ _ _ rfl ?_
    rw [List.length_map]
    refine AOps.split (t := 8) rfl (fun h => ?_) (fun g0 => ?_)
    · have e : lgT x = true := by unfold lgT; rw [decide_eq_true (.inl (by have := of_decide_eq_true h; omega))]; rfl
      rw [e]
      refine AOps.run tok 6 _ _ _ _ rfl ?_
      refine AOps.split (t := 14) rfl (fun h => ?_) (fun g0 => by cases g0)
      refine AOps.run tok 5 _ _ _ _ rfl ?_
      refine AOps.nil ?_
      refine AW.condT rfl ?_
      refine AW.seq ?_
      refine AW.region ?_
      refine AOps.run tok 1 _ _ _ _ rfl ?_
      refine AOps.nil ?_
      exact AW.ret rfl
    refine AOps.run tok 6 _ _ _ _ rfl ?_
    rw [List.length_map]
    refine AOps.split (t := 14) rfl (fun h => ?_) (fun g1 => ?_)
    · have e : lgT x = true := by unfold lgT; rw [decide_eq_true (.inr (.inl (by have := of_decide_eq_true h; omega)))]; rfl
      rw [e]
      refine AOps.run tok 5 _ _ _ _ rfl ?_
      refine AOps.nil ?_
      refine AW.condT rfl ?_
      refine AW.seq ?_
      refine AW.region ?_
      refine AOps.run tok 1 _ _ _ _ rfl ?_
      refine AOps.nil ?_
      exact AW.ret rfl
    refine AOps.run tok 5 _ _ _ _ rfl ?_
    rw [List.length_map]
    refine AOps.nil ?_
    refine AW.cond rfl (fun h => ?_) (fun h => ?_)
    · have e : lgT x = true := by unfold lgT; rw [decide_eq_true (.inr (.inr (by have := of_decide_eq_true h; omega)))]; rfl
      rw [e]
      refine AW.seq ?_
      refine AW.region ?_
      refine AOps.run tok 1 _ _ _ _ rfl ?_
      refine AOps.nil ?_
      exact AW.ret rfl
    · refine AW.skip ?_
      exact ⟨(), rfl, by have := of_decide_eq_false g0; have := of_decide_eq_false g1; have := of_decide_eq_false h; omega⟩
  rw [show lgT x = spsL x.gs by unfold lgT; rw [decide_eq_false hs]; rfl]
  show AW _ _ _ _ _ _ _ [(1, .bx [dI x.n, MshsD x.ms, PltsD x.ps, SpdsD x.gs])]
  refine AW.seq ?_
  refine AW.seq ?_
  refine AW.region ?_
  refine AOps.run tok 1 _ _ _ _ rfl ?_
  refine AOps.nil ?_
  refine AW.block ?_
  refine AW.loopS [1, 3] (fun i : Nat => [(1, .bx [dI x.n, MshsD x.ms, PltsD x.ps, SpdsD x.gs]), (3, .d (dI i))]) (fun i => i ≤ x.gs.length ∧ spsL x.gs = anyF (fun i => spL (x.gs.getD i default)) (x.gs.length - i) i) (fun i => x.gs.length - i) 0 rfl ⟨Nat.zero_le _, rfl⟩ (fun i ⟨hi, hE⟩ => ?_)
  refine AW.seq ?_
  refine AW.seq ?_
  refine AW.region ?_
  refine AOps.run tok 5 _ _ _ _ rfl ?_
  rw [List.length_map]
  refine AOps.nil ?_
  refine AW.cond rfl (fun h => ?_) (fun h => ?_)
  · have hin : i < x.gs.length := by have := of_decide_eq_true h; omega
    have hH := fun h0 => hE.trans (anyF_hit (f := fun i => spL (x.gs.getD i default)) hin h0)
    have hM := fun h0 => hE.trans (anyF_miss (f := fun i => spL (x.gs.getD i default)) hin h0)
    have hid : (x.gs.map Spd.D)[i]? = some (x.gs.getD i default).D := getM Spd.D hin
    obtain ⟨_, _, l1, l2⟩ := b4 i
    generalize x.gs.getD i default = m at hid hM hH l1 l2
    refine AW.skip ?_
    refine AW.seq ?_
    refine AW.block ?_
    refine AW.seq ?_
    refine AW.draw hmix 18 (by kernel_rfl) ?_
    refine APre.run tok 3 _ _ _ _ rfl ?_
    refine APre.idx tok m.D rfl rfl rfl rfl rfl (Int.natCast_nonneg i) hid ?_
    refine APre.run tok 7 _ _ _ _ rfl ?_
    refine APre.idx tok m.D rfl rfl rfl rfl rfl (Int.natCast_nonneg i) hid ?_
    refine APre.run tok 6 _ _ _ _ rfl ?_
    rw [List.length_map, List.length_map, wI64 (by omega) (by omega)]
    refine APre.nil ?_
    refine AOps.nil ?_
    refine AW.cond rfl (fun h => ?_) (fun h => ?_)
    · rw [hH (by unfold spL; rw [decide_eq_true_iff]; have := of_decide_eq_true h; omega)]
      refine AW.seq ?_
      refine AW.region ?_
      refine AOps.run tok 1 _ _ _ _ rfl ?_
      refine AOps.nil ?_
      exact AW.ret rfl
    · refine AW.skip ?_
      refine AW.region ?_
      refine AOps.run tok 3 _ _ _ _ rfl ?_
      rw [wI64 (x := (i : Int) + 1) (by omega) (by omega)]
      refine AOps.nil ?_
      exact ⟨i + 1, rfl, ⟨hin, hM (by unfold spL; rw [decide_eq_false_iff_not]; have := of_decide_eq_false h; omega)⟩, by omega⟩
  · have hin : ¬ i < x.gs.length := by have := of_decide_eq_false h; omega
    rw [hE, show x.gs.length - i = 0 by omega, anyF]
    refine AW.exit ?_
    refine AW.seq ?_
    refine AW.region ?_
    refine AOps.run tok 1 _ _ _ _ rfl ?_
    refine AOps.nil ?_
    exact AW.ret rfl

/-! ### The example -/
def x0 : Trn := ⟨3, [], [⟨0, 1, 2, 30, 60⟩], [⟨0, Qr ((1 : Int) : Rat)⟩, ⟨1, ⟨false, [], []⟩⟩]⟩
theorem x0_out : outG 3 (rowsM x0) = .val [1, 0, 1 / 3] := by
  have hr : rowsM x0 = [[30, 60, -90, 0], [1, 0, 0, 1], [0, 1, 0, 0]] := by
    unfold rowsM x0
    simp only [List.map_nil, List.map_cons, List.nil_append, rwP, rwS, Qr_val]
    rw [RD.val_nil rfl]
    rfl
  rw [hr]
  refine Right.unique (outG_right (a := [[30, 60, -90, 0], [1, 0, 0, 1], [0, 1, 0, 0]]) (n := 3) (fun r h => by simp at h; rcases h with rfl | rfl | rfl <;> rfl)) ⟨rfl, fun j hj => ?_, fun y hy c hc => ?_⟩
  · have hj : j < 3 := hj
    unfold eqn fM
    match j, hj with
    | 0, _ => simp [sumN]; grind
    | 1, _ => simp [sumN]; grind
    | 2, _ => simp [sumN]; grind
  · have h0 := hy 0 (by decide)
    have h1 := hy 1 (by decide)
    have h2 := hy 2 (by decide)
    unfold eqn fM at h0 h1 h2
    simp [sumN] at h0 h1 h2
    match c, hc with
    | 0, _ => simp; grind
    | 1, _ => simp; grind
    | 2, _ => simp; grind
theorem x0_chk : chkT x0 = 0 := by
  unfold chkT x0 mshsE pltsE spdsE
  simp only [List.length_cons, List.length_nil, fE]
  have h1 : (Qr ((1 : Int) : Rat)).okB = true := Qr_ok _
  have h2 : (⟨false, [], []⟩ : RD).okB = true := rfl
  have h3 : (Qr 1).okB = true := Qr_ok _
  simp [pltE, spdE, inS, thB, h2, h3]
theorem x0_sol : solT x0 = .tu [.sl 3 (QsD [1, 0, 1 / 3]), nilE] := by
  rw [solT_ok x0_chk]
  show solD (outG 3 (rowsM x0)) = _
  rw [x0_out]; rfl
theorem g51_example_ok : Pure Tryz.prog 21 [] (.tu [PltsD x0.ps, SpdsD x0.gs]) := by
  refine Pure.intro (n := 8) tok Tryz.func21 rfl rfl rfl (Nat.le_of_ble_eq_true rfl) (by kernel_rfl) (fun B F0 w0 => ?_)
  refine AW.seq ?_
  refine AW.region ?_   -- "law.go:16"
  refine AOps.run tok 2 _ _ _ _ rfl ?_
  refine AOps.nil ?_
  refine AW.seq ?_
  refine AW.region ?_   -- "law.go:17"
  refine AOps.run tok 1 _ _ _ _ rfl ?_
  refine AOps.bs tok rfl rfl rfl rfl ?_
  refine AOps.call tok rfl rfl rfl rfl (r02_Of_ok 1 (by omega) (by omega)) ?_
  refine AOps.run tok 2 _ _ _ _ rfl ?_
  refine AOps.bs tok rfl rfl rfl rfl ?_
  refine AOps.run tok 2 _ _ _ _ rfl ?_
  refine AOps.nil ?_
  exact AW.ret rfl
theorem two_one : timesZ (some ((1 : Int) : Rat)) 2 = none := by
  have h : ((1 : Int) : Rat) = 1 := rfl
  rw [timesZ_split, if_neg (by decide), h]
  show addT (if 1 - 0 * 1 = 0 then none else some ((0 + 1) / (1 - 0 * 1))) (some 1) = none
  rw [if_neg (by grind)]
  show (if 1 - (0 + 1) / (1 - 0 * 1) * 1 = 0 then none else _) = none
  rw [if_pos (by grind)]
theorem g51_awake_ok : Pure Tryz.prog 6 [] (dB true) := by
  refine Pure.intro (n := 52) tok Tryz.func6 rfl rfl rfl (Nat.le_of_ble_eq_true rfl) (by kernel_rfl) (fun B F0 w0 => ?_)
  have hw : x0.w 6 := ⟨by decide, by decide, by decide, fun i => by
    have q1 : (Qr ((1 : Int) : Rat)).w 6 := Qr_w _ (by have := LQ_of 1; rw [L_one] at this; omega)
    have q0 : (⟨false, [], []⟩ : RD).w 6 := ⟨fun _ h => (by cases h), fun _ h => (by cases h), by decide, by decide⟩
    match i with
    | 0 => exact q1
    | 1 => exact q0
    | _ + 2 => exact q0⟩
  have cS := gear_Solve_ok x0 hw (by decide)
  rw [x0_sol] at cS
  have ht : (⟨Qr ((1 : Int) : Rat), false⟩ : TD).t.w 6 := Qr_w _ (by have := LQ_of 1; rw [L_one] at this; omega)
  have cT := gear_Times_ok ⟨Qr ((1 : Int) : Rat), false⟩ 2 ht (Nat.le_refl _) (by decide) (TQ_ok (some ((1 : Int) : Rat))) (by decide) (by decide)
  rw [show timesZ (TD.val ⟨Qr ((1 : Int) : Rat), false⟩) 2 = none by
    show timesZ (some (Qr ((1 : Int) : Rat)).val) 2 = none
    rw [Qr_val]
    exact two_one] at cT
  refine AW.seq ?_
  refine AW.region ?_   -- "law.go:21"
  refine AOps.run tok 1 _ _ _ _ rfl ?_
  refine AOps.nil ?_
  refine AW.seq ?_
  refine AW.region ?_   -- "law.go:22"
  refine AOps.call tok rfl rfl rfl rfl g51_example_ok ?_
  refine AOps.run tok 5 _ _ _ _ rfl ?_
  refine AOps.nil ?_
  refine AW.seq ?_
  refine AW.region ?_   -- "law.go:23"
  refine AOps.run tok 3 _ _ _ _ rfl ?_
  refine AOps.call tok rfl rfl rfl rfl cS ?_
  refine AOps.run tok 5 _ _ _ _ rfl ?_
  refine AOps.nil ?_
  refine AW.seq ?_
  refine AW.region ?_   -- "law.go:24"
  refine AOps.call tok rfl rfl rfl rfl (r02_Of_ok 1 (by omega) (by omega)) ?_
  refine AOps.run tok 1 _ _ _ _ rfl ?_
  refine AOps.call tok rfl rfl rfl rfl cT ?_
  refine AOps.run tok 6 _ _ _ _ rfl ?_
  refine AOps.nil ?_
  refine AW.seq ?_
  refine AW.region ?_   -- "law.go:25"
  refine AOps.call tok rfl rfl rfl rfl (r02_Make_ok 1 3 (by omega) (by omega) (by omega) (by omega) (by omega)) ?_
  refine AOps.run tok 6 _ _ _ _ rfl ?_
  refine AOps.nil ?_
  refine AW.seq ?_
  refine AW.draw hmix 22 (by kernel_rfl) ?_   -- "law.go:26"   -- GUARDS
  refine APre.run tok 1 _ _ _ _ rfl ?_
  refine APre.err tok rfl rfl rfl rfl rfl rfl ?_
  refine APre.run tok 2 _ _ _ _ rfl ?_
  refine APre.err tok rfl rfl rfl rfl rfl rfl ?_
  refine APre.run tok 8 _ _ _ _ rfl ?_
  refine APre.idx tok (Qr (1 / 3)).D rfl rfl rfl rfl rfl (by decide) rfl ?_
  refine APre.run tok 2 _ _ _ _ rfl ?_
  refine APre.call tok rfl rfl rfl rfl rfl (base_Rat_ok (Qr (1 / 3)) (Qr (Rat.divInt 1 3)) (k := 2) (Qr_w _ (by have := LQ_divInt 1 3 (by decide); have := L_one; have := L_of 3 (by decide); rw [show (1 / 3 : Rat) = Rat.divInt 1 3 by rw [divInt_eq]; rfl]; omega)) (by decide)) ?_
  rw [show eqR (Qr (1 / 3)) (Qr (Rat.divInt 1 3)) = true by rw [show (1 / 3 : Rat) = Rat.divInt 1 3 by rw [divInt_eq]; rfl]; exact eqR_self _]
  refine APre.run tok 5 _ _ _ _ rfl ?_
  refine APre.nil ?_
  refine AOps.run tok 1 _ _ _ _ rfl ?_
  refine AOps.nil ?_
  exact AW.ret rfl
end Lift
/- Trains and turns as they are handed to a function. -/
namespace Lift
open Go Go.Proofs

theorem u_mesh : RT Tryz.prog 72 Msh (fun a => a.D.flat) (fun _ => True) := by
  have h := RT.struct (P := Tryz.prog) (t := 72) (m := 5) Tryz.underlying72 (by kernel_rfl) (RTF.cons (by kernel_rfl) u_int (RTF.cons (by kernel_rfl) u_int (RTF.cons (by kernel_rfl) u_int (RTF.cons (by kernel_rfl) u_int (RTF.cons (by kernel_rfl) u_bool RTF.nil))))) (fun v => rfl)
  exact h.map (fun v => ⟨v.1, v.2.1, v.2.2.1, v.2.2.2.1, v.2.2.2.2.1⟩) (fun v h => rfl) (fun v h => trivial) (fun v => ⟨by kernel_rfl, fun d hd => by
    simp only [D.flat, List.mem_cons, List.mem_nil_iff, or_false] at hd
    rcases hd with rfl | rfl | rfl | rfl | rfl <;> rfl⟩)
theorem u_planet : RT Tryz.prog 76 Plt (fun a => a.D.flat) (fun _ => True) := by
  have h := RT.struct (P := Tryz.prog) (t := 76) (m := 5) Tryz.underlying76 (by kernel_rfl) (RTF.cons (by kernel_rfl) u_int (RTF.cons (by kernel_rfl) u_int (RTF.cons (by kernel_rfl) u_int (RTF.cons (by kernel_rfl) u_int (RTF.cons (by kernel_rfl) u_int RTF.nil))))) (fun v => rfl)
  exact h.map (fun v => ⟨v.1, v.2.1, v.2.2.1, v.2.2.2.1, v.2.2.2.2.1⟩) (fun v h => rfl) (fun v h => trivial) (fun v => ⟨by kernel_rfl, fun d hd => by
    simp only [D.flat, List.mem_cons, List.mem_nil_iff, or_false] at hd
    rcases hd with rfl | rfl | rfl | rfl | rfl <;> rfl⟩)
theorem u_speed : RT Tryz.prog 63 Spd (fun a => a.D.flat) (fun a => a.v.w reachBytes) := by
  have h := RT.struct (P := Tryz.prog) (t := 63) (m := 4) Tryz.underlying63 (by kernel_rfl) (RTF.cons (by kernel_rfl) u_int (RTF.cons (by kernel_rfl) u_rat RTF.nil)) (fun v => rfl)
  exact h.map (fun v => ⟨v.1, v.2.1⟩) (fun v h => rfl) (fun v h => h.2.1) (fun v => ⟨by kernel_rfl, fun d hd => by
    simp only [D.flat, List.mem_cons, List.mem_nil_iff, or_false] at hd
    rcases hd with rfl | rfl | rfl | rfl <;> rfl⟩)
theorem u_meshes : RT Tryz.prog 22 (List Msh) (fun l => [MshsD l]) (fun l => l.length ≤ reachBytes ∧ ∀ v ∈ l, True) :=
  RT.slice (el := Msh.D) (s := 5) (by kernel_rfl) (by kernel_rfl) (by kernel_rfl) (by decide) (Nat.le_of_ble_eq_true (by kernel_rfl)) u_mesh (fun v => rfl)
theorem u_planets : RT Tryz.prog 23 (List Plt) (fun l => [PltsD l]) (fun l => l.length ≤ reachBytes ∧ ∀ v ∈ l, True) :=
  RT.slice (el := Plt.D) (s := 5) (by kernel_rfl) (by kernel_rfl) (by kernel_rfl) (by decide) (Nat.le_of_ble_eq_true (by kernel_rfl)) u_planet (fun v => rfl)
theorem u_speeds : RT Tryz.prog 24 (List Spd) (fun l => [SpdsD l]) (fun l => l.length ≤ reachBytes ∧ ∀ v ∈ l, v.v.w reachBytes) :=
  RT.slice (el := Spd.D) (s := 4) (by kernel_rfl) (by kernel_rfl) (by kernel_rfl) (by decide) (Nat.le_of_ble_eq_true (by kernel_rfl)) u_speed (fun v => rfl)
theorem u_train : RT Tryz.prog 26 Trn (fun x => x.D.flat) (fun x => x.big) := by
  have h := RT.struct (P := Tryz.prog) (t := 26) (m := 4) Tryz.underlying26 (by kernel_rfl) (RTF.cons (by kernel_rfl) u_int (RTF.cons (by kernel_rfl) u_meshes (RTF.cons (by kernel_rfl) u_planets (RTF.cons (by kernel_rfl) u_speeds RTF.nil)))) (fun v => rfl)
  have hb : reachBytes ≤ Lift.big := by decide
  exact h.map (fun v => ⟨v.1, v.2.1, v.2.2.1, v.2.2.2.1⟩) (fun v h => rfl) (fun v h => ⟨Nat.le_trans h.2.1.1 hb, Nat.le_trans h.2.2.1.1 hb, Nat.le_trans h.2.2.2.1.1 hb, fun i => by
    show (v.2.2.2.1.getD i default).v.w Lift.big
    rcases Nat.lt_or_ge i v.2.2.2.1.length with hi | hi
    · rw [List.getD_eq_getElem?_getD, List.getElem?_eq_getElem hi]
      exact (h.2.2.2.1.2 _ (List.getElem_mem hi)).mono hb
    · rw [List.getD_eq_getElem?_getD, List.getElem?_eq_none hi]
      exact ⟨fun _ h => (by cases h), fun _ h => (by cases h), Nat.zero_le _, Nat.zero_le _⟩⟩) (fun v => ⟨by kernel_rfl, fun d hd => by
    simp only [D.flat, List.mem_cons, List.mem_nil_iff, or_false] at hd
    rcases hd with rfl | rfl | rfl | rfl <;> rfl⟩)
end Lift
/- The reference: quotients, turns. -/
namespace Lift
open Go Go.Proofs

end Lift
/- Trains with all given values multiplied, chains of meshes, one speed changed: what their elimination answers. -/
namespace Lift
open Go Go.Proofs

theorem rwM_f {n : Int} {m : Msh} (h1 : 1 ≤ n) (h : mshE n m = 0) (c : Nat) : (rwM n m).getD c 0 = if c = m.b.toNat then (((if m.inn = true then -m.tb else m.tb : Int)) : Rat) else if c = m.a.toNat then (m.ta : Rat) else 0 := by
  have := mshE_ok h
  unfold rwM
  rw [getD_set_f, getD_set_f, zrR_get, List.length_set, zrR_len h1]
  have e1 : (c = m.b.toNat ∧ m.b.toNat < n.toNat + 1) ↔ c = m.b.toNat := ⟨fun h => h.1, fun h => ⟨h, by omega⟩⟩
  have e2 : (c = m.a.toNat ∧ m.a.toNat < n.toNat + 1) ↔ c = m.a.toNat := ⟨fun h => h.1, fun h => ⟨h, by omega⟩⟩
  simp only [e1, e2]
  rfl
theorem rwP_f {n : Int} {m : Plt} (h1 : 1 ≤ n) (h : pltE n m = 0) (c : Nat) : (rwP n m).getD c 0 = if c = m.c.toNat then ((-m.ts - m.tr : Int) : Rat) else if c = m.r.toNat then (m.tr : Rat) else if c = m.s.toNat then (m.ts : Rat) else 0 := by
  have := pltE_ok h
  unfold rwP
  rw [getD_set_f, getD_set_f, getD_set_f, zrR_get, List.length_set, List.length_set, zrR_len h1]
  have e1 : (c = m.c.toNat ∧ m.c.toNat < n.toNat + 1) ↔ c = m.c.toNat := ⟨fun h => h.1, fun h => ⟨h, by omega⟩⟩
  have e2 : (c = m.r.toNat ∧ m.r.toNat < n.toNat + 1) ↔ c = m.r.toNat := ⟨fun h => h.1, fun h => ⟨h, by omega⟩⟩
  have e3 : (c = m.s.toNat ∧ m.s.toNat < n.toNat + 1) ↔ c = m.s.toNat := ⟨fun h => h.1, fun h => ⟨h, by omega⟩⟩
  simp only [e1, e2, e3]
  rfl
theorem rwS_f {n : Int} {m : Spd} (h1 : 1 ≤ n) (h : spdE n m = 0) (c : Nat) : (rwS n m).getD c 0 = if c = n.toNat then m.v.val else if c = m.sh.toNat then 1 else 0 := by
  have := spdE_ok h
  unfold rwS
  rw [getD_set_f, getD_set_f, zrR_get, List.length_set, zrR_len h1]
  have e1 : (c = n.toNat ∧ n.toNat < n.toNat + 1) ↔ c = n.toNat := ⟨fun h => h.1, fun h => ⟨h, by omega⟩⟩
  have e2 : (c = m.sh.toNat ∧ m.sh.toNat < n.toNat + 1) ↔ c = m.sh.toNat := ⟨fun h => h.1, fun h => ⟨h, by omega⟩⟩
  simp only [e1, e2]
  rfl

/-! All given values multiplied. -/
/-! A chain of meshes. -/
/-! How large the speeds are. -/
/-! A row changed element by element. -/
section
variable {α : Type} [Inhabited α] (f : Nat → α → α) (l : List α)
end
end Lift
/- Ratio. -/
namespace Lift
open Go Go.Proofs

end Lift
/- The reference: shafts, teeth, ratios, multiples. -/
namespace Lift
open Go Go.Proofs

theorem r51_shaft_ok (x : Trn) (i : Int) : Pure Tryz.prog 29 [x.D, dI i] (dB (inS x.n i)) := by
  refine Pure.intro (n := 13) tok Tryz.func29 rfl rfl rfl (Nat.le_of_ble_eq_true rfl) (by kernel_rfl) (fun B F0 w0 => ?_)
  refine AW.seq ?_
  refine AW.region ?_
  refine AOps.run tok 2 _ _ _ _ rfl ?_
  refine AOps.nil ?_
  refine AW.seq ?_
  refine AW.region ?_
  refine AOps.run tok 2 _ _ _ _ rfl ?_
  refine AOps.split (t := 6) rfl (fun h => ?_) (fun h => ?_)
  · have h := of_decide_eq_true h
    rw [show inS x.n i = decide (i < x.n) by unfold inS; rw [decide_eq_decide]; omega]
    refine AOps.run tok 7 _ _ _ _ rfl ?_
    refine AOps.nil ?_
    exact AW.ret rfl
  · have h := of_decide_eq_false h
    rw [show inS x.n i = false by unfold inS; rw [decide_eq_false_iff_not]; omega]
    refine AOps.run tok 7 _ _ _ _ rfl ?_
    refine AOps.nil ?_
    exact AW.ret rfl
theorem r51_teeth_ok (a b : Int) : Pure Tryz.prog 30 [dI a, dI b] (dB (thB a b)) := by
  refine Pure.intro (n := 19) tok Tryz.func30 rfl rfl rfl (Nat.le_of_ble_eq_true rfl) (by kernel_rfl) (fun B F0 w0 => ?_)
  have hno : ¬ ((1 ≤ a ∧ a ≤ 10000) ∧ 1 ≤ b ∧ b ≤ 10000) → thB a b = false := fun h => decide_eq_false h
  refine AW.seq ?_
  refine AW.region ?_
  refine AOps.run tok 1 _ _ _ _ rfl ?_
  refine AOps.nil ?_
  refine AW.seq ?_
  refine AW.region ?_
  refine AOps.run tok 2 _ _ _ _ rfl ?_
  refine AOps.split (t := 6) rfl (fun h1 => ?_) (fun h => ?_)
  rotate_left
  · rw [hno (by have := of_decide_eq_false h; omega)]
    refine AOps.run tok 13 _ _ _ _ rfl ?_; refine AOps.nil ?_; exact AW.ret rfl
  refine AOps.run tok 3 _ _ _ _ rfl ?_
  refine AOps.split (t := 9) rfl (fun h2 => ?_) (fun h => ?_)
  rotate_left
  · rw [hno (by have := of_decide_eq_false h; omega)]
    refine AOps.run tok 10 _ _ _ _ rfl ?_; refine AOps.nil ?_; exact AW.ret rfl
  refine AOps.run tok 4 _ _ _ _ rfl ?_
  refine AOps.split (t := 13) rfl (fun h3 => ?_) (fun h => ?_)
  rotate_left
  · rw [hno (by have := of_decide_eq_false h; omega)]
    refine AOps.run tok 6 _ _ _ _ rfl ?_; refine AOps.nil ?_; exact AW.ret rfl
  have h1 := of_decide_eq_true h1
  have h2 := of_decide_eq_true h2
  have h3 := of_decide_eq_true h3
  rw [show thB a b = decide (b ≤ 10000) by unfold thB; rw [decide_eq_decide]; omega]
  refine AOps.run tok 6 _ _ _ _ rfl ?_
  refine AOps.nil ?_
  exact AW.ret rfl
end Lift
/- Fields of the elements of loose rows. -/
namespace Lift
open Go
open Go.RowKit (Below)

section
variable {P : Program} {T : Ty} {B : Nat} {F0 : Nat → Prop} {w0 : Bas} {n : Nat} {σ σ' τ σ0 : St} {R R' : List LR} {ops all : Array Oper} {l rest : List Oper} {o : Oper} {d : Nat} {lk hm : Nat → Option AV} {K : List LR → St → Prop} {p : Pins} {ds : List Nat}

end
end Lift
/- A region whose order is drawn: moves, pointers to fields, and loads out of the call's own structs may be taken first; what is left is forced. -/
namespace Lift
open Go
open Go.RowKit (Below)

section
variable {P : Program} {T : Ty} {B : Nat} {F0 : Nat → Prop} {w0 : Bas} {n : Nat} {σ σ' τ : St} {R R' : List LR} {ops : Array Oper} {o : Oper} {d : Nat} {Q : Exit → List LR → St → Prop} {a : Act} {w : World}

/-- Structs of the call's own: their slots and cells. -/
abbrev Boxes := List (Nat × List D)
def SB (β : Boxes) (bl : Nat → Nat) (w : World) : Prop := ∀ t ds, (t, ds) ∈ β → ∀ (i : Nat) (u : Value), ds[i]? = some (.v u) → ∃ cs e fz, w.heap[bl t]? = some (.cells cs e fz) ∧ cs[i]? = some u
def pinsOf (β : Boxes) (bl : Nat → Nat) : Pins := β.map fun x => (x.1, .pointer (some ⟨bl x.1, 0, none⟩))
def BxIn (σ : St) : Boxes → Prop
  | [] => True
  | (t, ds) :: r => σ.get t = some (.bx ds) ∧ BxIn σ r
theorem BxIn.get : ∀ {β : Boxes}, BxIn σ β → ∀ t ds, (t, ds) ∈ β → σ.get t = some (.bx ds)
  | [], _, t, ds, h => by cases h
  | (t', ds') :: r, h, t, ds, hm => by
    rcases List.mem_cons.1 hm with e | e
    · cases e; exact h.1
    · exact BxIn.get h.2 t ds e
theorem pinsOf_get {β : Boxes} {bl : Nat → Nat} (h : PinsOk (pinsOf β bl) a) {t : Nat} {ds : List D} (hm : (t, ds) ∈ β) : a.tmps[t]? = some (.pointer (some ⟨bl t, 0, none⟩)) :=
  h (t, _) (List.mem_map.2 ⟨(t, ds), hm, rfl⟩)
theorem SB_of {β : Boxes} {bl : Nat → Nat} (hR : RelZ P B F0 w0 n R σ a w) (hσ : BxIn σ β) (hp : PinsOk (pinsOf β bl) a) : SB β bl w := by
  intro t ds hm i u hu
  obtain ⟨O, _, hO, _⟩ := hR.own
  obtain ⟨v, hv, b, cs, e, rfl, _, g2, g3⟩ := hO t _ (hσ.get t ds hm)
  rw [pinsOf_get hp hm] at hv
  simp only [Option.some.injEq, Value.pointer.injEq, Addr.mk.injEq] at hv
  obtain ⟨rfl, _, _⟩ := hv
  obtain ⟨_, u', h1, h2⟩ := g3.get hu
  rw [(Rd.v_eq h2).1] at h1
  exact ⟨cs, e, _, g2, by simpa using h1⟩
/-- Whatever order is drawn from here on. -/
def ZH (P : Program) (B : Nat) (F0 : Nat → Prop) (w0 : Bas) (n : Nat) (ops : Array Oper) (Q : Exit → List LR → St → Prop) (β : Boxes) (fuel : Nat) (listed : Array Bool) (R : List LR) (σ : St) : Prop :=
  BxIn σ β ∧ ∀ (bl : Nat → Nat) (a : Act) (w : World), RelZ P B F0 w0 n R σ a w → PinsOk (pinsOf β bl) a →
    wpAnyH P .any ops (fun e a' w' => ∃ R' σ', Q e R' σ' ∧ RelZ P B F0 w0 n R' σ' a' w') (SB β bl) fuel listed a w
theorem RelZ.drew (hR : RelZ P B F0 w0 n R σ a w) : RelZ P B F0 w0 n R σ a { w with drawn := w.drawn + 1 } := by
  obtain ⟨O, hOr, hO, hL⟩ := hR.own
  refine ⟨hR.below.drew, hR.base, hR.f0, hR.defers, hR.size, O, hOr, fun t av h => ?_, fun i r hr => ?_⟩
  · obtain ⟨v, hv, hr⟩ := hO t av h
    exact ⟨v, hv, hr.move (fun c hc => ⟨hc, rfl⟩) (fun _ c hc => ⟨hc, rfl⟩) (fun k _ x _ hk => ⟨hk, rfl⟩)⟩
  · rcases hL i r hr with h | ⟨g1, g2, g3⟩
    · exact .inl h
    · exact .inr ⟨g1, g2, g3.move (fun c hc => ⟨hc, rfl⟩) (fun _ c hc => ⟨hc, rfl⟩) (fun k _ x _ hk => by cases hk)⟩
theorem ZH.any {β : Boxes} (h : ZH P B F0 w0 n ops Q β ops.size (Array.replicate ops.size false) R σ) : ZAny P B F0 w0 n ops Q R σ := by
  intro a w hR
  refine wpAny_of_held _ _ _ _ (h.2 (fun t => match a.tmps[t]? with | some (.pointer (some ⟨b, _, _⟩)) => b | _ => 0) a _ hR.drew (fun e he => ?_))
  obtain ⟨⟨t, ds⟩, hm, rfl⟩ := List.mem_map.1 he
  obtain ⟨O, _, hO, _⟩ := hR.own
  obtain ⟨v, hv, b, cs, e, rfl, _⟩ := hO t _ (h.1.get t ds hm)
  show a.tmps[t]? = some _
  simp only [hv]
/-- One operation by the logic, as a step of a drawn region. -/
theorem step_one {β : Boxes} {bl : Nat → Nat} {K : List LR → St → Prop} (hpn : pinsB (pinsOf β bl) [o] = true) (h : AZOps P B F0 w0 n ops [o] K [] R σ) (hR : RelZ P B F0 w0 n R σ a w) (hp : PinsOk (pinsOf β bl) a) :
    wpList P ops (fun e a' w' => (e = .normal ∧ ∃ R' σ', K R' σ' ∧ RelZ P B F0 w0 n R' σ' a' w') ∧ (e = .normal → PinsOk (pinsOf β bl) a')) [o] a w :=
  wpList_pins hp (pinsB_ok hpn) (h a w hR (fun e he => by cases he) _ (fun a w R' σ' h1 h2 => ⟨rfl, R', σ', h1, h2⟩))
theorem ZH.all {β : Boxes} {fuel : Nat} {listed : Array Bool} (i : Nat) (hr : Region.ready .any ops listed = [i]) (ho : ops[i]? = some o) (hg : o.guard = none) (hpn : ∀ bl, pinsB (pinsOf β bl) [o] = true) (hσ : BxIn σ β)
    (h : AZOps P B F0 w0 n ops [o] (fun R' σ' => ZH P B F0 w0 n ops Q β fuel (listed.setIfInBounds i true) R' σ') [] R σ) : ZH P B F0 w0 n ops Q β (fuel + 1) listed R σ := by
  refine ⟨hσ, fun bl a w hR hp => wpAnyH_all hr (by simp) (fun j hj => ?_)⟩
  rw [List.mem_singleton] at hj
  subst hj
  have h1 := step_one (hpn bl) h hR hp
  have hw : Region.wanted o (yielded ops a.tmps) = true := by simp [Region.wanted, hg]
  unfold wpOp
  simp only [ho, hw, if_true]
  unfold wpList at h1
  rw [if_pos hw] at h1
  rcases h1 with h1 | ⟨_, a1, w1, ⟨h2, _⟩, _⟩
  · refine .inl (upon_keep (fun c a w h => by cases h.1.1) (fun ⟨a, w, h⟩ => by cases h.1.1) (fun v dd w' hn => ?_) h1)
    unfold wpList at hn
    obtain ⟨⟨_, R', σ', h2, h3⟩, h4⟩ := hn
    exact ⟨SB_of h3 h2.1 (h4 rfl), h2.2 bl _ _ h3 (h4 rfl)⟩
  · cases h2
theorem ZH.done {β : Boxes} {fuel : Nat} {listed : Array Bool} (hr : Region.ready .any ops listed = []) (hσ : BxIn σ β) (h : Q .normal R σ) : ZH P B F0 w0 n ops Q β fuel listed R σ :=
  ⟨hσ, fun bl a w hR hp => wpAnyH_done hr ⟨R, σ, h, hR⟩ fuel⟩
theorem ZH.to {β : Boxes} {fuel : Nat} {listed : Array Bool} (ks : List Nat) (τ : St) (h : σ.keep ks = τ) (hσ : BxIn σ β) (hk : ZH P B F0 w0 n ops Q β fuel listed R τ) : ZH P B F0 w0 n ops Q β fuel listed R σ :=
  ⟨hσ, fun bl a w hR hp => hk.2 bl a w (h ▸ hR.keep ks) hp⟩
theorem ZH.first {β : Boxes} {fuel : Nat} {listed : Array Bool} (i : Nat) (ho : ops[i]? = some o) (hg : o.guard = none) (hs : Region.noSelect ops = true) (hf : Region.free .any ops listed i = true) (hr : (Region.ready .any ops listed).contains i = true)
    (hpan : ∀ c R σ, Q (.panic c) R σ → False) (hpn : ∀ bl, pinsB (pinsOf β bl) [o] = true) (hσ : BxIn σ β)
    (hy : ∀ bl a w, RelZ P B F0 w0 n R σ a w → PinsOk (pinsOf β bl) a → ∃ v, ∀ w', SB β bl w' → (execOp a.eval o).run P w' = .ok (.value v) w')
    (h : AZOps P B F0 w0 n ops [o] (fun R' σ' => ZH P B F0 w0 n ops Q β fuel (listed.setIfInBounds i true) R' σ') [] R σ) : ZH P B F0 w0 n ops Q β (fuel + 1) listed R σ := by
  refine ⟨hσ, fun bl a w hR hp => ?_⟩
  obtain ⟨v, hv⟩ := hy bl a w hR hp
  have hS := SB_of hR hσ hp
  have hw : Region.wanted o (yielded ops a.tmps) = true := by simp [Region.wanted, hg]
  refine wpAnyH_take ho hs hf hr (fun c a' w' hq => ?_) (.inl ⟨hw, hv⟩) hS ?_
  · obtain ⟨R', σ', hq, _⟩ := hq
    exact (hpan c R' σ' hq).elim
  have h1 := step_one (hpn bl) h hR hp
  unfold wpList at h1
  rw [if_pos hw] at h1
  rcases h1 with h1 | ⟨_, a1, w1, ⟨h2, _⟩, _⟩
  · unfold Oper.wp at h1
    rw [hv w hS] at h1
    simp only [Oper.upon] at h1
    unfold wpList at h1
    obtain ⟨⟨_, R', σ', h2, h3⟩, h4⟩ := h1
    exact h2.2 bl _ _ h3 (h4 rfl)
  · cases h2
def isMove : Op → Bool
  | .move _ => true
  | _ => false
theorem move_run (h : isMove o.op = true) (a : Act) : ∃ v, ∀ w', (execOp a.eval o).run P w' = .ok (.value v) w' := by
  obtain ⟨dst, op, ty, pos, after, guard⟩ := o
  simp only [] at h
  cases op <;> simp only [isMove] at h <;> try (cases h; done)
  rename_i x
  exact ⟨a.eval x, fun w' => by simp [execOp]⟩
/-- A load of one plain cell of a struct of the call's own. -/
def ldB (T : Ty) (σ : St) (β : Boxes) : Op → Option (TI × Nat × Nat × List D × Value)
  | .load t (.tmp s) => match T.get t, σ.get s with
    | some i, some (.pt h off) => match β.find? (fun x => Nat.beq x.1 h) with
      | some (_, ds) => match ds[off]? with
        | some (.v u) => some (i, h, off, ds, u)
        | _ => none
      | none => none
    | _, _ => none
  | _ => none
theorem ld_run (hT : TOk P T) {β : Boxes} {bl : Nat → Nat} {i : TI} {h off : Nat} {ds : List D} {u : Value} (hR : RelZ P B F0 w0 n R σ a w) (hσ : BxIn σ β) (hp : PinsOk (pinsOf β bl) a) (hx : ldB T σ β o.op = some (i, h, off, ds, u)) (hl : loadD i [.v u] = some (.d (.v u))) :
    ∃ v, ∀ w', SB β bl w' → (execOp a.eval o).run P w' = .ok (.value v) w' := by
  obtain ⟨dst, op, ty, pos, after, guard⟩ := o
  simp only [] at hx
  cases op <;> simp only [ldB] at hx <;> try (cases hx; done)
  rename_i t x
  cases x <;> simp only [ldB] at hx <;> try (cases hx; done)
  rename_i s
  split at hx <;> try (cases hx; done)
  rename_i i' h' off' hi hs
  split at hx <;> try (cases hx; done)
  rename_i t' ds' hfind
  split at hx <;> try (cases hx; done)
  rename_i u' hu
  simp only [Option.some.injEq, Prod.mk.injEq] at hx
  obtain ⟨rfl, rfl, rfl, rfl, rfl⟩ := hx
  have hm := List.mem_of_find?_eq_some hfind
  have he : t' = h' := Nat.eq_of_beq_eq_true (@List.find?_some _ (fun x => Nat.beq x.1 h') (t', ds') β hfind)
  subst he
  obtain ⟨info, dd, z, hok⟩ := hT t i' hi
  obtain ⟨O, hOr, hO, _⟩ := hR.own
  obtain ⟨v, hv, hr⟩ := hO s _ hs
  obtain ⟨b, hb, rfl⟩ := hr ds' (hσ.get t' ds' hm)
  obtain ⟨_, _, _, _, _, _, _, _, g3⟩ := hO t' _ (hσ.get t' ds' hm)
  obtain ⟨hc, u2, _, hr2⟩ := g3.get hu
  have hpl := (Rd.v_eq hr2).2
  have hb : a.tmps[t']? = some (.pointer (some ⟨b, 0, none⟩)) := hb
  rw [pinsOf_get hp hm] at hb
  simp only [Option.some.injEq, Value.pointer.injEq, Addr.mk.injEq] at hb
  obtain ⟨rfl, _, _⟩ := hb
  have hev : a.eval (.tmp s) = .pointer (some ⟨bl t', off', none⟩) := eval_tmp hv
  refine ⟨u', fun w' hS => ?_⟩
  obtain ⟨cs, e, fz, h1, h2⟩ := hS t' ds' hm off' u' hu
  obtain ⟨x, v, hx, hrun, hrd⟩ := load_run (w := w') hok h1 (off := off') (F := fun _ => True) (ds := [.v u']) (fun j z hj => by
    cases j with
    | zero => simp at hj; subst hj; exact ⟨hc, u', h2, .v hpl⟩
    | succ j => simp at hj) hl
  cases hx
  have := (Rd.v_eq hrd).1
  subst this
  simp [execOp, Instr.loadAt, Instr.sureAddr, hev, hrun]
end
end Lift
/- A loose row in a cell of a value becomes data. -/
namespace Lift
open Go
open Go.RowKit (Below)

section
variable {P : Program} {T : Ty} {B : Nat} {F0 : Nat → Prop} {w0 : Bas} {n : Nat} {σ : St} {R : List LR} {all : Array Oper} {l : List Oper} {x : Code} {a : Act} {w : World} {K : List LR → St → Prop} {p : Pins}

theorem RelZ.frzd {t i k e : Nat} {V : Value} {xs cs : List D} (hR : RelZ P B F0 w0 n R σ a w) (ht : σ.get t = some (.d (.ag cs))) (hk : cs[k]? = some (.v V)) (hi : R[i]? = some (V, .ow e xs)) :
    RelZ P B F0 w0 n (R.set i (V, .junk)) ((t, .d (.ag (cs.set k (.sl (P.cellsOf e) xs)))) :: σ) a w := by
  obtain ⟨O, hOr, hO, hL⟩ := hR.own
  let O' : Nat → Option Nat := fun b => if O b = some (n + i) then none else O b
  have h1 : ∀ b t, O' b = some t → O b = some t := fun b t h => by
    simp only [O'] at h
    split at h
    · cases h
    · exact h
  have h2 : ∀ b t, t ≠ n + i → O b = some t → O' b = some t := fun b t ht h => by
    simp only [O', h]
    rw [if_neg (by simpa using ht)]
  have hF : ∀ c, Free O (FW B F0 w) c → Free O' (FW B F0 w) c := fun c hc => ⟨by simp only [O', hc.1]; simp, hc.2⟩
  have hlt : ∀ t av, σ.get t = some av → t < n := fun t av h => by
    obtain ⟨v, hv, _⟩ := hO t av h
    rw [← hR.size]
    exact (Array.getElem?_eq_some_iff.1 hv).1
  refine ⟨hR.below, hR.base, hR.f0, hR.defers, hR.size, O', fun b t hb => hOr b t (h1 b t hb), fun j av hav => ?_, fun j r hr => ?_⟩
  · have key : ∀ j, (∀ ds, St.get ((t, AV.d (.ag (cs.set k (.sl (P.cellsOf e) xs)))) :: σ) j = some (.bx ds) → ∃ ds', σ.get j = some (.bx ds')) ∧ (∀ x e' l, St.get ((t, AV.d (.ag (cs.set k (.sl (P.cellsOf e) xs)))) :: σ) j = some x → x.row = some (e', l) → ∃ y l', σ.get j = some y ∧ y.row = some (e', l') ∧ l'.length = l.length ∧ y.tag = x.tag) := fun j => by
      rw [St.get_cons]
      by_cases hj : t = j
      · subst hj
        refine ⟨fun ds h => ?_, fun x e' l hx hrow => ?_⟩
        · rw [if_pos rfl] at h
          cases h
        · rw [if_pos rfl] at hx
          cases hx
          simp [AV.row] at hrow
      · rw [if_neg hj]
        exact ⟨fun ds hds => ⟨ds, hds⟩, fun x e' l hx hrow => ⟨x, l, hx, hrow, rfl, rfl⟩⟩
    rw [St.get_cons] at hav
    split at hav
    · rename_i e'
      subst e'
      cases hav
      obtain ⟨v, hv, hr⟩ := hO t _ ht
      obtain ⟨vs, rfl, g3⟩ := Rd.ag_eq hr
      have hkl := (List.getElem?_eq_some_iff.1 hk).1
      have hcells : ∀ (j : Nat) (d : D), (cs.set k (.sl (P.cellsOf e) xs))[j]? = some d → d.isCell = true := fun j d hd => by
        by_cases hj : j = k
        · subst hj
          rw [List.getElem?_set_self hkl] at hd
          cases hd; rfl
        · rw [List.getElem?_set_ne (Ne.symm hj)] at hd
          exact (g3.get hd).1
      refine ⟨_, hv, .ag (by simpa using g3.1) (fun d hd => ?_) (fun j d u hd hu => ?_)⟩
      · obtain ⟨j, hj⟩ := List.mem_iff_getElem?.1 hd
        exact hcells j d hj
      · by_cases hj : j = k
        · subst hj
          rw [List.getElem?_set_self hkl] at hd
          cases hd
          have := (Rd.v_eq (g3.2 j _ u hk hu).2).1
          subst this
          rcases hL i _ hi with h | ⟨_, _, h⟩
          · cases h
          · rcases h with ⟨base, h3, h4⟩ | ⟨b', cap, cs', h3, h4, h5, h6, h7, h8, h9, h10⟩
            · simp only at h3 h4
              subst h3; subst h4
              exact .nil (Nat.zero_le _)
            · simp only at h3
              subst h3
              refine Rd.sl_mk (off := 0) ⟨by simp only [O', h4]; simp, (hOr b' _ h4).fw hR.f0⟩ h5 h6 h7 h9 (fun m d hd => ?_)
              obtain ⟨f1, u, f2, f3⟩ := h10 m d hd
              exact ⟨f1, u, by simpa using f2, f3.mono hF (fun _ _ => rfl)⟩
        · rw [List.getElem?_set_ne (Ne.symm hj)] at hd
          exact (g3.2 j d u hd hu).2.mono hF (fun _ _ => rfl)
    · obtain ⟨v, hv, hr⟩ := hO j av hav
      have hr' : AVR P w0.X w O' (FW B F0 w) σ.get (fun h => a.tmps[h]?) j av v := hr.move (fun c hc => ⟨hF c hc, rfl⟩) (fun _ c hc => ⟨h2 c j (by have := hlt j av hav; omega) hc, rfl⟩) (fun k _ x _ hk => ⟨hk, rfl⟩)
      exact ⟨v, hv, hr'.retag (fun j _ => key j)⟩
  · by_cases hj : j = i
    · subst hj
      rw [List.getElem?_set_self (List.getElem?_eq_some_iff.1 hi).1] at hr
      cases hr
      exact .inl rfl
    · have := set_other hj hr
      rcases hL j r this with h | ⟨g1, g2, g3⟩
      · exact .inl h
      · exact .inr ⟨g1, g2, g3.move (fun c hc => ⟨hF c hc, rfl⟩) (fun _ c hc => ⟨h2 c _ (by omega) hc, rfl⟩) (fun k _ x _ hk => by cases hk)⟩
theorem AZOps.frzd (hT : TOk P T) (t k i : Nat) {V : Value} {e : Nat} {te : TI} {xs cs : List D} (ht : σ.get t = some (.d (.ag cs))) (hk : cs[k]? = some (.v V)) (hi : R[i]? = some (V, .ow e xs)) (he : T.get e = some te)
    (h : AZOps P B F0 w0 n all l K p (R.set i (V, .junk)) ((t, .d (.ag (cs.set k (.sl te.size xs)))) :: σ)) : AZOps P B F0 w0 n all l K p R σ := by
  obtain ⟨info, d, z, hok⟩ := hT e te he
  intro a w hR
  have := hR.frzd ht hk hi
  rw [hok.cellsOf] at this
  exact h a w this
theorem AZOps.forget (h : AZOps P B F0 w0 n all l K p [] σ) : AZOps P B F0 w0 n all l K p R σ := fun a w hR => h a w (hR.drop (fun i r hr => by simp at hr))
end
end Lift
/- The reference: an equation with a number added. -/
namespace Lift
open Go Go.Proofs

def addE (r : List Rat) (i : Int) (z : Int) : List Rat := r.set i.toNat (r.getD i.toNat 0 + (z : Rat))
abbrev EqV (V : Value) (q : RD) : D := .ag [.v V, dB q.g, Wd q.n, Wd q.d]
def withPost (V : Value) (q : RD) (r : List Rat) (i z : Int) (res : D) (R' : List LR) : Prop := res = EqV V q ∧ R' = [(V, AV.ow 41 (QsD (addE r i z)))]
theorem r51_with_ok (V : Value) (q : RD) (r : List Rat) (i z : Int) (h0 : 0 ≤ i) (h1 : i.toNat < r.length) (z0 : -1000000 ≤ z) (z1 : z ≤ 1000000) (hs : LQ (r.getD i.toNat 0) ≤ 100) :
    CallZ Tryz.prog 66 [EqV V q, dI i, dI z] [(V, AV.ow 41 (QsD r))] (withPost V q r i z) := by
  refine CallZ.intro (n := 20) tok Tryz.func66 rfl rfl rfl (Nat.le_of_ble_eq_true rfl) (by kernel_rfl) (fun B F0 w0 => ?_)
  have hz := LQ_of z
  have hz2 : L z ≤ 1 := L_le (by omega)
  refine AZ.seq ?_
  refine AZ.reg (fun B1 F1 w1 => ?_)
  refine AOps.run tok 2 _ _ _ _ rfl ?_
  refine AOps.nil ⟨rfl, ?_⟩
  refine AZ.seq ?_
  refine AZ.any hmix (ZAny.drawS 12 (by kernel_rfl) (fun B1 F1 w1 hS => ?_))
  have hS1 := hS.at (i := 0) rfl (by rw [List.length_map]; omega)
  refine APre.run tok 6 _ _ _ _ rfl ?_
  refine APre.idxs tok hS1 rfl rfl rfl rfl rfl h0 (by rw [List.length_map]; exact h1) ?_
  refine APre.loads tok (Qr (r.getD i.toNat 0)).D hS1 rfl rfl rfl rfl rfl rfl rfl (getQ h1) rfl ?_
  refine APre.run tok 1 _ _ _ _ rfl ?_
  refine APre.call tok rfl rfl rfl rfl rfl (r02_Of_ok z (by omega) (by omega)) ?_
  refine APre.call tok rfl rfl rfl rfl rfl (r02_Add_ok (Qr (r.getD i.toNat 0)) (Qr (z : Rat)) (k := 100) (Qr_w _ hs) (Qr_w _ (by omega)) (by decide)) ?_
  rw [Qr_val, Qr_val]
  refine APre.idxs tok hS1 rfl rfl rfl rfl rfl h0 (by rw [List.length_map]; exact h1) ?_
  refine APre.nil ⟨rfl, ?_⟩
  refine AZOps.to [8, 18, 17, 3, 6] [(8, .d (.v V)), (18, .d (.v (ptrV V (i.toNat * 3)))), (17, .d (Qr (r.getD i.toNat 0 + (z : Rat))).D), (3, .bx (EqV V q).flat), (6, .bx [.sl 3 [], dB false, .sl 1 [], .sl 1 []])] rfl ?_
  refine AZOps.adopt 8 0 rfl rfl rfl ?_
  refine AZOps.el tok 8 18 rfl (List.Mem.head _) rfl rfl rfl (by rw [List.length_map]; exact h1) rfl ?_
  refine AZOps.cut 1 rfl (fun B1 F1 w1 => ?_)
  refine AOps.storeQ tok (r.getD i.toNat 0 + (z : Rat)) rfl rfl rfl h1 ?_
  refine AOps.nil ⟨rfl, ?_⟩
  refine AZOps.back 8 0 rfl rfl rfl (List.Mem.head _) rfl ?_
  refine AZOps.nil ?_
  refine AZ.seq ?_
  refine AZ.reg (fun B1 F1 w1 => ?_)
  refine AOps.run tok 2 _ _ _ _ rfl ?_
  refine AOps.nil ⟨rfl, ?_⟩
  exact AZ.ret ⟨_, rfl, rfl, rfl⟩
end Lift
/- A struct built with slices left nil; nil as a loose row. -/
namespace Lift
open Go
open Go.RowKit (Below)

/-- The nil slice, as a plain value. -/
abbrev nilS : Value := .slice none 0 0
section
variable {P : Program} {T : Ty} {B : Nat} {F0 : Nat → Prop} {w0 : Bas} {n : Nat} {σ τ σ0 : St} {R : List LR} {ops all : Array Oper} {l rest : List Oper} {o : Oper} {d : Nat} {lk hm : Nat → Option AV} {x : Code} {a : Act} {w : World} {K : List LR → St → Prop} {p : Pins} {ds : List Nat}
end
end Lift
/- The reference: an equation less a multiple of another one. -/
namespace Lift
open Go Go.Proofs

abbrev EqD (e : List Rat × Rat) : D := .ag [.sl 3 (QsD e.1), dB (Qr e.2).g, Wd (Qr e.2).n, Wd (Qr e.2).d]
end Lift
/- The words of a drawn region whose moves, pointers and loads are taken first. -/
namespace Lift
open Go
open Go.RowKit (Below)

section
variable {P : Program} {T : Ty} {B : Nat} {F0 : Nat → Prop} {w0 : Bas} {n : Nat} {σ : St} {R : List LR} {ops : Array Oper} {o : Oper} {Q : Exit → List LR → St → Prop} {β : Boxes} {fuel : Nat} {listed : Array Bool}
theorem one_step {K : List LR → St → Prop} (h : ∀ B1 F1 w1, AOps P B1 F1 w1 n ops [o] (fun σ' => σ'.noTag = true ∧ K R σ') σ) : AZOps P B F0 w0 n ops [o] K [] R σ :=
  AZOps.cut 1 rfl (fun B1 F1 w1 => by
    have := h B1 F1 w1
    refine fun a w hR Q hQ => this a w hR Q (fun a' w' σ' ⟨h1, h2⟩ hR' => hQ a' w' σ' ⟨h1, AZOps.nil h2⟩ hR'))
theorem ZH.mv (i : Nat) (ho : ops[i]? = some o) (hg : o.guard = none) (hs : Region.noSelect ops = true) (hf : Region.free .any ops listed i = true) (hr : (Region.ready .any ops listed).contains i = true) (hm : isMove o.op = true)
    (hpan : ∀ c R σ, Q (.panic c) R σ → False) (hpn : ∀ bl, pinsB (pinsOf β bl) [o] = true) (hσ : BxIn σ β)
    (h : ∀ B1 F1 w1, AOps P B1 F1 w1 n ops [o] (fun σ' => σ'.noTag = true ∧ ZH P B F0 w0 n ops Q β fuel (listed.setIfInBounds i true) R σ') σ) : ZH P B F0 w0 n ops Q β (fuel + 1) listed R σ :=
  ZH.first i ho hg hs hf hr hpan hpn hσ (fun bl a w _ _ => let ⟨v, h⟩ := move_run hm a; ⟨v, fun w' _ => h w'⟩) (one_step h)
theorem ZH.fd (hT : TOk P T) (i : Nat) (ho : ops[i]? = some o) (hg : o.guard = none) (hs : Region.noSelect ops = true) (hf : Region.free .any ops listed i = true) (hr : (Region.ready .any ops listed).contains i = true) (hm : fadB T σ o.op = true)
    (hpan : ∀ c R σ, Q (.panic c) R σ → False) (hpn : ∀ bl, pinsB (pinsOf β bl) [o] = true) (hσ : BxIn σ β)
    (h : ∀ B1 F1 w1, AOps P B1 F1 w1 n ops [o] (fun σ' => σ'.noTag = true ∧ ZH P B F0 w0 n ops Q β fuel (listed.setIfInBounds i true) R σ') σ) : ZH P B F0 w0 n ops Q β (fuel + 1) listed R σ :=
  ZH.first i ho hg hs hf hr hpan hpn hσ (fun bl a w hR _ => let ⟨v, h⟩ := fad_run hT hR.rel hm; ⟨v, fun w' _ => h w'⟩) (one_step h)
theorem ZH.ld (hT : TOk P T) (i : Nat) {ti : TI} {t off : Nat} {ds : List D} {u : Value} (ho : ops[i]? = some o) (hg : o.guard = none) (hs : Region.noSelect ops = true) (hf : Region.free .any ops listed i = true) (hr : (Region.ready .any ops listed).contains i = true) (hx : ldB T σ β o.op = some (ti, t, off, ds, u)) (hl : loadD ti [.v u] = some (.d (.v u)))
    (hpan : ∀ c R σ, Q (.panic c) R σ → False) (hpn : ∀ bl, pinsB (pinsOf β bl) [o] = true) (hσ : BxIn σ β)
    (h : ∀ B1 F1 w1, AOps P B1 F1 w1 n ops [o] (fun σ' => σ'.noTag = true ∧ ZH P B F0 w0 n ops Q β fuel (listed.setIfInBounds i true) R σ') σ) : ZH P B F0 w0 n ops Q β (fuel + 1) listed R σ :=
  ZH.first i ho hg hs hf hr hpan hpn hσ (fun bl a w hR hp => ld_run hT hR hσ hp hx hl) (one_step h)
end
end Lift
/- A drawn region of which two or three operations are ready: each of them may be next. -/
namespace Lift
open Go
open Go.RowKit (Below)

section
variable {P : Program} {T : Ty} {B : Nat} {F0 : Nat → Prop} {w0 : Bas} {n : Nat} {σ : St} {R : List LR} {ops : Array Oper} {o o1 o2 o3 : Oper} {Q : Exit → List LR → St → Prop} {β : Boxes} {fuel : Nat} {listed : Array Bool}
/-- What is to be shown of an operation that may be next. -/
def ZNext (P : Program) (B : Nat) (F0 : Nat → Prop) (w0 : Bas) (n : Nat) (ops : Array Oper) (Q : Exit → List LR → St → Prop) (β : Boxes) (fuel : Nat) (listed : Array Bool) (R : List LR) (σ : St) (i : Nat) (o : Oper) : Prop :=
  AZOps P B F0 w0 n ops [o] (fun R' σ' => ZH P B F0 w0 n ops Q β fuel (listed.setIfInBounds i true) R' σ') [] R σ
theorem ZH.many (rs : List Nat) (hr : Region.ready .any ops listed = rs) (hne : rs ≠ []) (hσ : BxIn σ β)
    (h : ∀ i ∈ rs, ∃ o, ops[i]? = some o ∧ o.guard = none ∧ (∀ bl, pinsB (pinsOf β bl) [o] = true) ∧ ZNext P B F0 w0 n ops Q β fuel listed R σ i o) : ZH P B F0 w0 n ops Q β (fuel + 1) listed R σ := by
  refine ⟨hσ, fun bl a w hR hp => wpAnyH_all hr hne (fun j hj => ?_)⟩
  obtain ⟨o, ho, hg, hpn, h⟩ := h j hj
  have h1 := step_one (hpn bl) h hR hp
  have hw : Region.wanted o (yielded ops a.tmps) = true := by simp [Region.wanted, hg]
  unfold wpOp
  simp only [ho, hw, if_true]
  unfold wpList at h1
  rw [if_pos hw] at h1
  rcases h1 with h1 | ⟨_, a1, w1, ⟨h2, _⟩, _⟩
  · refine .inl (upon_keep (fun c a w h => by cases h.1.1) (fun ⟨a, w, h⟩ => by cases h.1.1) (fun v dd w' hn => ?_) h1)
    unfold wpList at hn
    obtain ⟨⟨_, R', σ', h2, h3⟩, h4⟩ := hn
    exact ⟨SB_of h3 h2.1 (h4 rfl), h2.2 bl _ _ h3 (h4 rfl)⟩
  · cases h2
theorem ZH.two (i j : Nat) (hr : Region.ready .any ops listed = [i, j]) (ho1 : ops[i]? = some o1) (ho2 : ops[j]? = some o2) (hg1 : o1.guard = none) (hg2 : o2.guard = none) (hp1 : ∀ bl, pinsB (pinsOf β bl) [o1] = true) (hp2 : ∀ bl, pinsB (pinsOf β bl) [o2] = true) (hσ : BxIn σ β)
    (h1 : ZNext P B F0 w0 n ops Q β fuel listed R σ i o1) (h2 : ZNext P B F0 w0 n ops Q β fuel listed R σ j o2) : ZH P B F0 w0 n ops Q β (fuel + 1) listed R σ :=
  ZH.many [i, j] hr (by simp) hσ (fun k hk => by
    simp only [List.mem_cons, List.not_mem_nil, or_false] at hk
    rcases hk with rfl | rfl
    · exact ⟨o1, ho1, hg1, hp1, h1⟩
    · exact ⟨o2, ho2, hg2, hp2, h2⟩)
theorem ZH.three (i j k : Nat) (hr : Region.ready .any ops listed = [i, j, k]) (ho1 : ops[i]? = some o1) (ho2 : ops[j]? = some o2) (ho3 : ops[k]? = some o3) (hg1 : o1.guard = none) (hg2 : o2.guard = none) (hg3 : o3.guard = none) (hp1 : ∀ bl, pinsB (pinsOf β bl) [o1] = true) (hp2 : ∀ bl, pinsB (pinsOf β bl) [o2] = true) (hp3 : ∀ bl, pinsB (pinsOf β bl) [o3] = true) (hσ : BxIn σ β)
    (h1 : ZNext P B F0 w0 n ops Q β fuel listed R σ i o1) (h2 : ZNext P B F0 w0 n ops Q β fuel listed R σ j o2) (h3 : ZNext P B F0 w0 n ops Q β fuel listed R σ k o3) : ZH P B F0 w0 n ops Q β (fuel + 1) listed R σ :=
  ZH.many [i, j, k] hr (by simp) hσ (fun m hk => by
    simp only [List.mem_cons, List.not_mem_nil, or_false] at hk
    rcases hk with rfl | rfl | rfl
    · exact ⟨o1, ho1, hg1, hp1, h1⟩
    · exact ⟨o2, ho2, hg2, hp2, h2⟩
    · exact ⟨o3, ho3, hg3, hp3, h3⟩)
/-- A place where ways meet. -/
theorem ZH.meet (fuel' : Nat) (listed' : Array Bool) (Rf : Value → List LR) (σf : Value → St) (h : ∀ V, ZH P B F0 w0 n ops Q β fuel' listed' (Rf V) (σf V))
    (hk : (∀ V, ZH P B F0 w0 n ops Q β fuel' listed' (Rf V) (σf V)) → ZH P B F0 w0 n ops Q β fuel listed R σ) : ZH P B F0 w0 n ops Q β fuel listed R σ := hk h
theorem ZH.ls (l' : Array Bool) (h : listed = l') (hk : ZH P B F0 w0 n ops Q β fuel l' R σ) : ZH P B F0 w0 n ops Q β fuel listed R σ := h ▸ hk
end
end Lift
/- The reference's equations. Printed by geneq.py. -/
namespace Lift
open Go Go.Proofs

def zrE (n : Int) : List Rat := zrR (n - 1)
def eqM (n : Int) (m : Msh) : List Rat × Rat := (addE (addE (zrE n) m.a m.ta) m.b (if m.inn = true then -m.tb else m.tb), 0)
def eqP (n : Int) (p : Plt) : List Rat × Rat := (addE (addE (addE (zrE n) p.s p.ts) p.r p.tr) p.c (-p.ts - p.tr), 0)
def eqS (n : Int) (s : Spd) : List Rat × Rat := (addE (zrE n) s.sh 1, s.v.val)
def eqsM (x : Trn) : Eqs := x.ms.map (eqM x.n) ++ x.ps.map (eqP x.n) ++ x.gs.map (eqS x.n)
abbrev EqsD (l : Eqs) : List D := l.map (fun e => EqD e)
theorem addE_len (r : List Rat) (i z : Int) : (addE r i z).length = r.length := List.length_set ..
theorem zrE_len {n : Int} (h : 1 ≤ n) : (zrE n).length = n.toNat := by unfold zrE zrR; rw [List.length_replicate]; omega
theorem zrE_sz (n : Int) (c : Nat) : LQ ((zrE n).getD c 0) ≤ 1 := by
  unfold zrE
  rw [zrR_get]
  have h : LQ 0 ≤ 1 := by rw [LQ_zero]; exact Nat.le_refl _
  exact h
theorem addE_get {r : List Rat} {i z : Int} (h : i.toNat < r.length) (c : Nat) : (addE r i z).getD c 0 = if c = i.toNat then r.getD i.toNat 0 + (z : Rat) else r.getD c 0 := by
  unfold addE
  rw [getD_set_f]
  by_cases e : c = i.toNat
  · rw [if_pos ⟨e, h⟩, if_pos e]
  · rw [if_neg (fun g => e g.1), if_neg e]
theorem addE_sz {r : List Rat} {i z : Int} {k : Nat} (hr : ∀ c, LQ (r.getD c 0) ≤ k) (h : i.toNat < r.length) (z0 : -1000000 ≤ z) (z1 : z ≤ 1000000) (c : Nat) : LQ ((addE r i z).getD c 0) ≤ k + 2 := by
  rw [addE_get h]
  have h1 := LQ_of z
  have h2 : L z ≤ 1 := L_le (by omega)
  have h3 := LQ_add (r.getD i.toNat 0) (z : Rat)
  have h4 := hr i.toNat
  have h5 := hr c
  split <;> omega
theorem eqD0 (L : List Rat) : EqD (L, 0) = .ag [.sl 3 (QsD L), dB false, .sl 1 [], .sl 1 []] := by
  show D.ag [.sl 3 (QsD L), dB (Qr 0).g, Wd (Qr 0).n, Wd (Qr 0).d] = _
  rw [Qr_zero]; rfl
def eqsPost (l : Eqs) (res : D) (R' : List LR) : Prop := ∃ V0, res = .v V0 ∧ R' = [(V0, AV.ow 83 (EqsD l))]
set_option maxHeartbeats 6400000 in
theorem r51_equations_ok (x : Trn) {k : Nat} (hw : x.w k) (h : chkT x = 0) : CallZ Tryz.prog 32 [x.D] [] (eqsPost (eqsM x)) := by
  refine CallZ.intro (n := 115) tok Tryz.func32 rfl rfl rfl (Nat.le_of_ble_eq_true rfl) (by kernel_rfl) (fun B F0 w0 => ?_)
  obtain ⟨n1, n2, o1, o2, o3, hm, hp, hg⟩ := chkT_ok h
  have hgw := hw.2.2.2
  obtain ⟨n, ms, ps, gs⟩ := x
  dsimp only at n1 n2 o1 o2 o3 hm hp hg hgw
  have zl := zrE_len n1
  have zs := zrE_sz n
  refine AZ.seq ?_
  refine AZ.reg (fun B1 F1 w1 => ?_)
  refine AOps.run tok 2 _ _ _ _ rfl ?_
  refine AOps.nil ⟨rfl, ?_⟩
  refine AZ.seq ?_
  refine AZ.reg (fun B1 F1 w1 => ?_)
  refine AOps.run tok 1 _ _ _ _ rfl ?_
  refine AOps.nil ⟨rfl, ?_⟩
  refine AZ.seq ?_
  refine AZ.seq ?_
  refine AZ.reg (fun B1 F1 w1 => ?_)
  refine AOps.run tok 1 _ _ _ _ rfl ?_
  refine AOps.nil ⟨rfl, ?_⟩
  refine AZ.block ?_
  refine AZ.loopS [1, 3, 4] (fun i : Nat => ([], [(1, .bx [dI n, MshsD ms, PltsD ps, SpdsD gs]), (3, .ow 83 (EqsD ((ms.take i).map (eqM n)))), (4, .d (dI i))])) (fun i => i ≤ ms.length) (fun i => ms.length - i) 0 rfl (Nat.zero_le _) (fun i hi => ?_)
  show AZ _ _ _ _ _ _ _ [] [(1, .bx [dI n, MshsD ms, PltsD ps, SpdsD gs]), (3, .ow 83 (EqsD ((ms.take i).map (eqM n)))), (4, .d (dI i))]
  refine AZ.seq ?_
  refine AZ.seq ?_
  refine AZ.reg (fun B1 F1 w1 => ?_)
  refine AOps.run tok 4 _ _ _ _ rfl ?_
  rw [List.length_map]
  refine AOps.run tok 1 _ _ _ _ rfl ?_
  refine AOps.nil ⟨rfl, ?_⟩
  refine AZ.cond rfl (fun h => ?_) (fun h => ?_)
  · have hin : i < ms.length := by have := of_decide_eq_true h; omega
    have hid : (ms.map Msh.D)[i]? = some (ms.getD i default).D := getM Msh.D hin
    have hmi := mshE_ok (hm i hin)
    have htk := take_snoc ms hin
    have hln : (EqsD ((ms.take i).map (eqM n))).length = i := by rw [List.length_map, List.length_map, List.length_take]; omega
    generalize ms.getD i default = m at hid hmi htk
    obtain ⟨⟨a1, a2⟩, ⟨b1, b2⟩, hab, ⟨c1, c2⟩, d1, d2⟩ := hmi
    refine AZ.skip ?_
    refine AZ.seq ?_
    refine AZ.block ?_
    refine AZ.seq ?_
    refine AZ.reg (fun B1 F1 w1 => ?_)
    refine AOps.run tok 3 _ _ _ _ rfl ?_
    refine AOps.idx tok m.D rfl rfl rfl rfl (Int.natCast_nonneg i) hid ?_
    refine AOps.run tok 3 _ _ _ _ rfl ?_
    refine AOps.nil ⟨rfl, ?_⟩
    refine AZ.seq ?_
    refine AZ.reg (fun B1 F1 w1 => ?_)
    refine AOps.run tok 3 _ _ _ _ rfl ?_
    refine AOps.nil ⟨rfl, ?_⟩
    refine AZ.cut [1, 3, 4, 5, 6] (fun z : Int => ([], [(1, .bx [dI n, MshsD ms, PltsD ps, SpdsD gs]), (3, .ow 83 (EqsD ((ms.take i).map (eqM n)))), (4, .d (dI i)), (5, .bx m.D.flat), (6, .d (dI z))])) (fun z => z = if m.inn = true then -m.tb else m.tb) ?_ (fun z hz => ?_)
    · refine AZ.seq ?_
      refine AZ.reg (fun B1 F1 w1 => ?_)
      refine AOps.run tok 2 _ _ _ _ rfl ?_
      refine AOps.nil ⟨rfl, ?_⟩
      refine AZ.cond rfl (fun h => ?_) (fun h => ?_)
      · refine AZ.reg (fun B1 F1 w1 => ?_)
        refine AOps.run tok 3 _ _ _ _ rfl ?_
        rw [wI64 (by omega) (by omega)]
        refine AOps.nil ⟨rfl, ?_⟩
        exact ⟨0 - m.tb, rfl, by rw [if_pos h]; omega⟩
      · refine AZ.skip ?_
        exact ⟨m.tb, rfl, by rw [if_neg (by rw [h]; simp)]⟩
    · show AZ _ _ _ _ _ _ _ [] [(1, .bx [dI n, MshsD ms, PltsD ps, SpdsD gs]), (3, .ow 83 (EqsD ((ms.take i).map (eqM n)))), (4, .d (dI i)), (5, .bx m.D.flat), (6, .d (dI z))]
      have hz1 : -10000 ≤ z ∧ z ≤ 10000 := by subst hz; split <;> omega
      refine AZ.any hmix (ZH.any (β := [(1, [dI n, MshsD ms, PltsD ps, SpdsD gs]), (5, m.D.flat)]) ?_)
      refine ZH.mv 0 rfl rfl (by kernel_rfl) (by kernel_rfl) (by kernel_rfl) rfl (fun _ _ _ h => h) (fun _ => rfl) ⟨rfl, rfl, trivial⟩ (fun B1 F1 w1 => ?_)
      refine AOps.run tok 1 _ _ _ _ rfl ?_
      refine AOps.nil ⟨rfl, ?_⟩
      refine ZH.fd tok 1 rfl rfl (by kernel_rfl) (by kernel_rfl) (by kernel_rfl) rfl (fun _ _ _ h => h) (fun _ => rfl) ⟨rfl, rfl, trivial⟩ (fun B1 F1 w1 => ?_)
      refine AOps.run tok 1 _ _ _ _ rfl ?_
      refine AOps.nil ⟨rfl, ?_⟩
      refine ZH.ld tok 2 rfl rfl (by kernel_rfl) (by kernel_rfl) (by kernel_rfl) rfl rfl (fun _ _ _ h => h) (fun _ => rfl) ⟨rfl, rfl, trivial⟩ (fun B1 F1 w1 => ?_)
      refine AOps.run tok 1 _ _ _ _ rfl ?_
      refine AOps.nil ⟨rfl, ?_⟩
      refine ZH.fd tok 5 rfl rfl (by kernel_rfl) (by kernel_rfl) (by kernel_rfl) rfl (fun _ _ _ h => h) (fun _ => rfl) ⟨rfl, rfl, trivial⟩ (fun B1 F1 w1 => ?_)
      refine AOps.run tok 1 _ _ _ _ rfl ?_
      refine AOps.nil ⟨rfl, ?_⟩
      refine ZH.ld tok 6 rfl rfl (by kernel_rfl) (by kernel_rfl) (by kernel_rfl) rfl rfl (fun _ _ _ h => h) (fun _ => rfl) ⟨rfl, rfl, trivial⟩ (fun B1 F1 w1 => ?_)
      refine AOps.run tok 1 _ _ _ _ rfl ?_
      refine AOps.nil ⟨rfl, ?_⟩
      refine ZH.fd tok 7 rfl rfl (by kernel_rfl) (by kernel_rfl) (by kernel_rfl) rfl (fun _ _ _ h => h) (fun _ => rfl) ⟨rfl, rfl, trivial⟩ (fun B1 F1 w1 => ?_)
      refine AOps.run tok 1 _ _ _ _ rfl ?_
      refine AOps.nil ⟨rfl, ?_⟩
      refine ZH.ld tok 8 rfl rfl (by kernel_rfl) (by kernel_rfl) (by kernel_rfl) rfl rfl (fun _ _ _ h => h) (fun _ => rfl) ⟨rfl, rfl, trivial⟩ (fun B1 F1 w1 => ?_)
      refine AOps.run tok 1 _ _ _ _ rfl ?_
      refine AOps.nil ⟨rfl, ?_⟩
      refine ZH.fd tok 10 rfl rfl (by kernel_rfl) (by kernel_rfl) (by kernel_rfl) rfl (fun _ _ _ h => h) (fun _ => rfl) ⟨rfl, rfl, trivial⟩ (fun B1 F1 w1 => ?_)
      refine AOps.run tok 1 _ _ _ _ rfl ?_
      refine AOps.nil ⟨rfl, ?_⟩
      refine ZH.ld tok 11 rfl rfl (by kernel_rfl) (by kernel_rfl) (by kernel_rfl) rfl rfl (fun _ _ _ h => h) (fun _ => rfl) ⟨rfl, rfl, trivial⟩ (fun B1 F1 w1 => ?_)
      refine AOps.run tok 1 _ _ _ _ rfl ?_
      refine AOps.nil ⟨rfl, ?_⟩
      refine ZH.mv 12 rfl rfl (by kernel_rfl) (by kernel_rfl) (by kernel_rfl) rfl (fun _ _ _ h => h) (fun _ => rfl) ⟨rfl, rfl, trivial⟩ (fun B1 F1 w1 => ?_)
      refine AOps.run tok 1 _ _ _ _ rfl ?_
      refine AOps.nil ⟨rfl, ?_⟩
      refine ZH.all 3 (by kernel_rfl) rfl rfl (fun _ => rfl) ⟨rfl, rfl, trivial⟩ ?_
      refine AZOps.cut 1 rfl (fun B1 F1 w1 => ?_)
      refine AOps.makeQ tok (n - 1) rfl rfl rfl rfl rfl rfl rfl (by omega) (by omega) (by omega) ?_
      refine AOps.nil ⟨rfl, ?_⟩
      refine AZOps.loosen 33 rfl rfl rfl (fun V => ?_)
      refine AZOps.to [33, 30, 36, 38, 41, 42, 1, 3, 4, 5, 6] [(33, .d (.v V)), (30, .al 3), (36, .d (dI m.a)), (38, .d (dI m.ta)), (41, .d (dI m.b)), (42, .d (dI z)), (1, .bx [dI n, MshsD ms, PltsD ps, SpdsD gs]), (3, .ow 83 (EqsD ((ms.take i).map (eqM n)))), (4, .d (dI i)), (5, .bx m.D.flat), (6, .d (dI z))] rfl ?_
      refine AZOps.nil ?_
      refine ZH.all 4 (by kernel_rfl) rfl rfl (fun _ => rfl) ⟨rfl, rfl, trivial⟩ ?_
      refine one_step (fun B1 F1 w1 => ?_)
      refine AOps.run tok 1 _ _ _ _ rfl ?_
      refine AOps.nil ⟨rfl, ?_⟩
      refine ZH.to [34, 30, 36, 38, 41, 42, 1, 3, 4, 5, 6] [(34, .d (EqV V ⟨false, [], []⟩)), (30, .al 3), (36, .d (dI m.a)), (38, .d (dI m.ta)), (41, .d (dI m.b)), (42, .d (dI z)), (1, .bx [dI n, MshsD ms, PltsD ps, SpdsD gs]), (3, .ow 83 (EqsD ((ms.take i).map (eqM n)))), (4, .d (dI i)), (5, .bx m.D.flat), (6, .d (dI z))] rfl ⟨rfl, rfl, trivial⟩ ?_
      refine ZH.all 9 (by kernel_rfl) rfl rfl (fun _ => rfl) ⟨rfl, rfl, trivial⟩ ?_
      refine AZOps.callz tok [0] rfl rfl rfl rfl rfl (by simp) rfl (r51_with_ok V ⟨false, [], []⟩ (zrE n) m.a m.ta a1 (by omega) (by omega) (by omega) (Nat.le_trans (zs _) (by decide))) (fun _ _ h => by rw [h.2]; exact Nat.le_refl _) (fun res R1 hP => ?_)
      obtain ⟨rfl, rfl⟩ := hP
      refine AZOps.nil ?_
      refine ZH.to [39, 30, 36, 38, 41, 42, 1, 3, 4, 5, 6] [(39, .d (EqV V ⟨false, [], []⟩)), (30, .al 3), (36, .d (dI m.a)), (38, .d (dI m.ta)), (41, .d (dI m.b)), (42, .d (dI z)), (1, .bx [dI n, MshsD ms, PltsD ps, SpdsD gs]), (3, .ow 83 (EqsD ((ms.take i).map (eqM n)))), (4, .d (dI i)), (5, .bx m.D.flat), (6, .d (dI z))] rfl ⟨rfl, rfl, trivial⟩ ?_
      refine ZH.all 13 (by kernel_rfl) rfl rfl (fun _ => rfl) ⟨rfl, rfl, trivial⟩ ?_
      refine AZOps.callz tok [0] rfl rfl rfl rfl rfl (by simp) rfl (r51_with_ok V ⟨false, [], []⟩ (addE (zrE n) m.a m.ta) m.b z b1 (by rw [addE_len]; omega) (by omega) (by omega) (Nat.le_trans (addE_sz zs (by omega) (by omega) (by omega) _) (by decide))) (fun _ _ h => by rw [h.2]; exact Nat.le_refl _) (fun res R1 hP => ?_)
      obtain ⟨rfl, rfl⟩ := hP
      refine AZOps.frzd tok 43 0 0 rfl rfl rfl rfl ?_
      refine AZOps.forget ?_
      refine AZOps.nil ?_
      refine ZH.to [43, 30, 1, 3, 4, 5, 6] [(43, .d (EqD (addE (addE (zrE n) m.a m.ta) m.b z, 0))), (30, .al 3), (1, .bx [dI n, MshsD ms, PltsD ps, SpdsD gs]), (3, .ow 83 (EqsD ((ms.take i).map (eqM n)))), (4, .d (dI i)), (5, .bx m.D.flat), (6, .d (dI z))] (by rw [eqD0]; rfl) ⟨rfl, rfl, trivial⟩ ?_
      refine ZH.all 14 (by kernel_rfl) rfl rfl (fun _ => rfl) ⟨rfl, rfl, trivial⟩ ?_
      refine one_step (fun B1 F1 w1 => ?_)
      refine AOps.bsd tok rfl rfl rfl rfl rfl ?_
      refine AOps.nil ⟨rfl, ?_⟩
      refine ZH.all 15 (by kernel_rfl) rfl rfl (fun _ => rfl) ⟨rfl, rfl, trivial⟩ ?_
      refine one_step (fun B1 F1 w1 => ?_)
      refine AOps.appo tok rfl rfl rfl rfl rfl rfl (by show ((EqsD ((ms.take i).map (eqM n))).length + 1) * 80 ≤ _; rw [hln]; omega) (by show (EqsD ((ms.take i).map (eqM n))).length + 1 ≤ _; rw [hln]; omega) ?_
      refine AOps.nil ⟨rfl, ?_⟩
      refine ZH.all 16 (by kernel_rfl) rfl rfl (fun _ => rfl) ⟨rfl, rfl, trivial⟩ ?_
      refine one_step (fun B1 F1 w1 => ?_)
      refine AOps.run tok 1 _ _ _ _ rfl ?_
      refine AOps.nil ⟨rfl, ?_⟩
      refine ZH.done (by kernel_rfl) ⟨rfl, rfl, trivial⟩ ?_
      refine AZ.reg (fun B1 F1 w1 => ?_)
      refine AOps.run tok 2 _ _ _ _ rfl ?_
      rw [wI64 (x := (i : Int) + 1) (by omega) (by omega)]
      refine AOps.run tok 1 _ _ _ _ rfl ?_
      refine AOps.nil ⟨rfl, ?_⟩
      refine ⟨i + 1, Prod.ext rfl ?_, hin, by omega⟩
      show _ = [(1, AV.bx [dI n, MshsD ms, PltsD ps, SpdsD gs]), (3, .ow 83 (EqsD ((ms.take (i + 1)).map (eqM n)))), (4, .d (dI ((i + 1 : Nat) : Int)))]
      rw [show EqsD ((ms.take (i + 1)).map (eqM n)) = EqsD ((ms.take i).map (eqM n)) ++ [EqD (addE (addE (zrE n) m.a m.ta) m.b z, 0)] by rw [htk, List.map_append, List.map_cons, List.map_nil, eqM, ← hz]; exact List.map_append]
      rfl
  have hin : ¬ i < ms.length := by have := of_decide_eq_false h; omega
  have hie : i = ms.length := by omega
  subst hie
  rw [List.take_length]
  refine AZ.exit ?_
  refine AZ.seq ?_
  refine AZ.seq ?_
  refine AZ.reg (fun B1 F1 w1 => ?_)
  refine AOps.run tok 1 _ _ _ _ rfl ?_
  refine AOps.nil ⟨rfl, ?_⟩
  refine AZ.block ?_
  refine AZ.loopS [1, 3, 7] (fun i : Nat => ([], [(1, .bx [dI n, MshsD ms, PltsD ps, SpdsD gs]), (3, .ow 83 (EqsD (ms.map (eqM n) ++ (ps.take i).map (eqP n)))), (7, .d (dI i))])) (fun i => i ≤ ps.length) (fun i => ps.length - i) 0 (by rw [List.take_zero, List.map_nil, List.append_nil]; rfl) (Nat.zero_le _) (fun i hi => ?_)
  show AZ _ _ _ _ _ _ _ [] [(1, .bx [dI n, MshsD ms, PltsD ps, SpdsD gs]), (3, .ow 83 (EqsD (ms.map (eqM n) ++ (ps.take i).map (eqP n)))), (7, .d (dI i))]
  refine AZ.seq ?_
  refine AZ.seq ?_
  refine AZ.reg (fun B1 F1 w1 => ?_)
  refine AOps.run tok 4 _ _ _ _ rfl ?_
  rw [List.length_map]
  refine AOps.run tok 1 _ _ _ _ rfl ?_
  refine AOps.nil ⟨rfl, ?_⟩
  refine AZ.cond rfl (fun h => ?_) (fun h => ?_)
  · have hin : i < ps.length := by have := of_decide_eq_true h; omega
    have hid : (ps.map Plt.D)[i]? = some (ps.getD i default).D := getM Plt.D hin
    have hmi := pltE_ok (hp i hin)
    have htk := take_snoc ps hin
    have hln : (EqsD (ms.map (eqM n) ++ (ps.take i).map (eqP n))).length = ms.length + i := by rw [List.length_map, List.length_append, List.length_map, List.length_map, List.length_take]; omega
    generalize ps.getD i default = m at hid hmi htk
    obtain ⟨⟨a1, a2⟩, ⟨b1, b2⟩, ⟨e1, e2⟩, hab, ⟨c1, c2⟩, d1, d2⟩ := hmi
    have l1 : (addE (zrE n) m.s m.ts).length = n.toNat := by rw [addE_len]; exact zl
    have l2 : (addE (addE (zrE n) m.s m.ts) m.r m.tr).length = n.toNat := by rw [addE_len]; exact l1
    have s1 := addE_sz (i := m.s) (z := m.ts) zs (by omega) (by omega) (by omega)
    have s2 := addE_sz (i := m.r) (z := m.tr) s1 (by omega) (by omega) (by omega)
    refine AZ.skip ?_
    refine AZ.seq ?_
    refine AZ.block ?_
    refine AZ.seq ?_
    refine AZ.reg (fun B1 F1 w1 => ?_)
    refine AOps.run tok 3 _ _ _ _ rfl ?_
    refine AOps.idx tok m.D rfl rfl rfl rfl (Int.natCast_nonneg i) hid ?_
    refine AOps.run tok 3 _ _ _ _ rfl ?_
    refine AOps.nil ⟨rfl, ?_⟩
    refine AZ.to [1, 3, 7, 8] [(1, .bx [dI n, MshsD ms, PltsD ps, SpdsD gs]), (3, .ow 83 (EqsD (ms.map (eqM n) ++ (ps.take i).map (eqP n)))), (7, .d (dI i)), (8, .bx m.D.flat)] rfl ?_
    refine AZ.seq ?_
    refine AZ.any hmix (ZH.any (β := [(1, [dI n, MshsD ms, PltsD ps, SpdsD gs]), (8, m.D.flat)]) ?_)
    refine ZH.fd tok 0 rfl rfl (by kernel_rfl) (by kernel_rfl) (by kernel_rfl) rfl (fun _ _ _ h => h) (fun _ => rfl) ⟨rfl, rfl, trivial⟩ (fun B1 F1 w1 => ?_)
    refine AOps.run tok 1 _ _ _ _ rfl ?_
    refine AOps.nil ⟨rfl, ?_⟩
    refine ZH.ld tok 1 rfl rfl (by kernel_rfl) (by kernel_rfl) (by kernel_rfl) rfl rfl (fun _ _ _ h => h) (fun _ => rfl) ⟨rfl, rfl, trivial⟩ (fun B1 F1 w1 => ?_)
    refine AOps.run tok 1 _ _ _ _ rfl ?_
    refine AOps.nil ⟨rfl, ?_⟩
    refine ZH.fd tok 4 rfl rfl (by kernel_rfl) (by kernel_rfl) (by kernel_rfl) rfl (fun _ _ _ h => h) (fun _ => rfl) ⟨rfl, rfl, trivial⟩ (fun B1 F1 w1 => ?_)
    refine AOps.run tok 1 _ _ _ _ rfl ?_
    refine AOps.nil ⟨rfl, ?_⟩
    refine ZH.ld tok 5 rfl rfl (by kernel_rfl) (by kernel_rfl) (by kernel_rfl) rfl rfl (fun _ _ _ h => h) (fun _ => rfl) ⟨rfl, rfl, trivial⟩ (fun B1 F1 w1 => ?_)
    refine AOps.run tok 1 _ _ _ _ rfl ?_
    refine AOps.nil ⟨rfl, ?_⟩
    refine ZH.fd tok 6 rfl rfl (by kernel_rfl) (by kernel_rfl) (by kernel_rfl) rfl (fun _ _ _ h => h) (fun _ => rfl) ⟨rfl, rfl, trivial⟩ (fun B1 F1 w1 => ?_)
    refine AOps.run tok 1 _ _ _ _ rfl ?_
    refine AOps.nil ⟨rfl, ?_⟩
    refine ZH.ld tok 7 rfl rfl (by kernel_rfl) (by kernel_rfl) (by kernel_rfl) rfl rfl (fun _ _ _ h => h) (fun _ => rfl) ⟨rfl, rfl, trivial⟩ (fun B1 F1 w1 => ?_)
    refine AOps.run tok 1 _ _ _ _ rfl ?_
    refine AOps.nil ⟨rfl, ?_⟩
    refine ZH.fd tok 9 rfl rfl (by kernel_rfl) (by kernel_rfl) (by kernel_rfl) rfl (fun _ _ _ h => h) (fun _ => rfl) ⟨rfl, rfl, trivial⟩ (fun B1 F1 w1 => ?_)
    refine AOps.run tok 1 _ _ _ _ rfl ?_
    refine AOps.nil ⟨rfl, ?_⟩
    refine ZH.ld tok 10 rfl rfl (by kernel_rfl) (by kernel_rfl) (by kernel_rfl) rfl rfl (fun _ _ _ h => h) (fun _ => rfl) ⟨rfl, rfl, trivial⟩ (fun B1 F1 w1 => ?_)
    refine AOps.run tok 1 _ _ _ _ rfl ?_
    refine AOps.nil ⟨rfl, ?_⟩
    refine ZH.fd tok 11 rfl rfl (by kernel_rfl) (by kernel_rfl) (by kernel_rfl) rfl (fun _ _ _ h => h) (fun _ => rfl) ⟨rfl, rfl, trivial⟩ (fun B1 F1 w1 => ?_)
    refine AOps.run tok 1 _ _ _ _ rfl ?_
    refine AOps.nil ⟨rfl, ?_⟩
    refine ZH.ld tok 12 rfl rfl (by kernel_rfl) (by kernel_rfl) (by kernel_rfl) rfl rfl (fun _ _ _ h => h) (fun _ => rfl) ⟨rfl, rfl, trivial⟩ (fun B1 F1 w1 => ?_)
    refine AOps.run tok 1 _ _ _ _ rfl ?_
    refine AOps.nil ⟨rfl, ?_⟩
    refine ZH.meet 1 #[true, true, true, true, true, true, true, true, true, true, true, true, true, true, true, false] (fun V => [(V, AV.ow 41 (QsD (addE (addE (zrE n) m.s m.ts) m.r m.tr)))]) (fun V => [(71, .d (EqV V ⟨false, [], []⟩)), (1, .bx [dI n, MshsD ms, PltsD ps, SpdsD gs]), (3, .ow 83 (EqsD (ms.map (eqM n) ++ (ps.take i).map (eqP n)))), (7, .d (dI i)), (8, .bx m.D.flat), (9, .bx [.sl 3 [], dB false, .sl 1 [], .sl 1 []])]) (fun V => ?_) (fun N4_1 => ?_)
    · refine ZH.all 15 (by kernel_rfl) rfl rfl (fun _ => rfl) ⟨rfl, rfl, trivial⟩ ?_
      refine one_step (fun B1 F1 w1 => ?_)
      refine AOps.run tok 1 _ _ _ _ rfl ?_
      refine AOps.nil ⟨rfl, ?_⟩
      refine ZH.done (by kernel_rfl) ⟨rfl, rfl, trivial⟩ ?_
      refine AZ.to [1, 3, 7, 8, 9] [(1, .bx [dI n, MshsD ms, PltsD ps, SpdsD gs]), (3, .ow 83 (EqsD (ms.map (eqM n) ++ (ps.take i).map (eqP n)))), (7, .d (dI i)), (8, .bx m.D.flat), (9, .bx [.v V, dB false, .sl 1 [], .sl 1 []])] rfl ?_
      refine AZ.region ?_
      refine AZOps.cut 10 rfl (fun B1 F1 w1 => ?_)
      refine AOps.run tok 7 _ _ _ _ rfl ?_
      rw [wI64 (by omega) (by omega)]
      refine AOps.run tok 3 _ _ _ _ rfl ?_
      rw [wI64 (by omega) (by omega), show 0 - m.ts - m.tr = -m.ts - m.tr by omega]
      refine AOps.nil ⟨rfl, ?_⟩
      refine AZOps.to [72, 73, 75, 81, 1, 3, 7] [(72, .al 3), (73, .d (EqV V ⟨false, [], []⟩)), (75, .d (dI m.c)), (81, .d (dI (-m.ts - m.tr))), (1, .bx [dI n, MshsD ms, PltsD ps, SpdsD gs]), (3, .ow 83 (EqsD (ms.map (eqM n) ++ (ps.take i).map (eqP n)))), (7, .d (dI i))] rfl ?_
      refine AZOps.callz tok [0] rfl rfl rfl rfl rfl (by simp) rfl (r51_with_ok V ⟨false, [], []⟩ (addE (addE (zrE n) m.s m.ts) m.r m.tr) m.c (-m.ts - m.tr) e1 (by omega) (by omega) (by omega) (Nat.le_trans (s2 _) (by decide))) (fun _ _ h => by rw [h.2]; exact Nat.le_refl _) (fun res R1 hP => ?_)
      obtain ⟨rfl, rfl⟩ := hP
      refine AZOps.frzd tok 82 0 0 rfl rfl rfl rfl ?_
      refine AZOps.forget ?_
      refine AZOps.to [82, 72, 1, 3, 7] [(82, .d (EqD (eqP n m))), (72, .al 3), (1, .bx [dI n, MshsD ms, PltsD ps, SpdsD gs]), (3, .ow 83 (EqsD (ms.map (eqM n) ++ (ps.take i).map (eqP n)))), (7, .d (dI i))] (by rw [eqP, eqD0]; rfl) ?_
      refine AZOps.cut 3 rfl (fun B1 F1 w1 => ?_)
      refine AOps.bsd tok rfl rfl rfl rfl rfl ?_
      refine AOps.appo tok rfl rfl rfl rfl rfl rfl (by show ((EqsD (ms.map (eqM n) ++ (ps.take i).map (eqP n))).length + 1) * 80 ≤ _; rw [hln]; omega) (by show (EqsD (ms.map (eqM n) ++ (ps.take i).map (eqP n))).length + 1 ≤ _; rw [hln]; omega) ?_
      refine AOps.run tok 1 _ _ _ _ rfl ?_
      refine AOps.nil ⟨rfl, ?_⟩
      refine AZOps.nil ?_
      refine AZ.reg (fun B1 F1 w1 => ?_)
      refine AOps.run tok 2 _ _ _ _ rfl ?_
      rw [wI64 (x := (i : Int) + 1) (by omega) (by omega)]
      refine AOps.run tok 1 _ _ _ _ rfl ?_
      refine AOps.nil ⟨rfl, ?_⟩
      refine ⟨i + 1, Prod.ext rfl ?_, hin, by omega⟩
      show _ = [(1, AV.bx [dI n, MshsD ms, PltsD ps, SpdsD gs]), (3, .ow 83 (EqsD (ms.map (eqM n) ++ (ps.take (i + 1)).map (eqP n)))), (7, .d (dI ((i + 1 : Nat) : Int)))]
      rw [show EqsD (ms.map (eqM n) ++ (ps.take (i + 1)).map (eqP n)) = EqsD (ms.map (eqM n) ++ (ps.take i).map (eqP n)) ++ [EqD (eqP n m)] by rw [htk, List.map_append, List.map_cons, List.map_nil, ← List.append_assoc]; exact List.map_append]
      rfl
    refine ZH.meet 2 #[true, true, true, true, true, true, true, true, true, true, true, true, true, false, true, false] (fun V => [(V, AV.ow 41 (QsD (addE (zrE n) m.s m.ts)))]) (fun V => [(66, .d (EqV V ⟨false, [], []⟩)), (63, .d (dI m.s)), (65, .d (dI m.ts)), (68, .d (dI m.r)), (70, .d (dI m.tr)), (1, .bx [dI n, MshsD ms, PltsD ps, SpdsD gs]), (3, .ow 83 (EqsD (ms.map (eqM n) ++ (ps.take i).map (eqP n)))), (7, .d (dI i)), (8, .bx m.D.flat), (9, .bx [.sl 3 [], dB false, .sl 1 [], .sl 1 []])]) (fun V => ?_) (fun N3_1 => ?_)
    · refine ZH.all 13 (by kernel_rfl) rfl rfl (fun _ => rfl) ⟨rfl, rfl, trivial⟩ ?_
      refine AZOps.callz tok [0] rfl rfl rfl rfl rfl (by simp) rfl (r51_with_ok V ⟨false, [], []⟩ (addE (zrE n) m.s m.ts) m.r m.tr b1 (by omega) (by omega) (by omega) (Nat.le_trans (s1 _) (by decide))) (fun _ _ h => by rw [h.2]; exact Nat.le_refl _) (fun res R1 hP => ?_)
      obtain ⟨rfl, rfl⟩ := hP
      refine AZOps.nil ?_
      refine ZH.to [71, 1, 3, 7, 8, 9] [(71, .d (EqV V ⟨false, [], []⟩)), (1, .bx [dI n, MshsD ms, PltsD ps, SpdsD gs]), (3, .ow 83 (EqsD (ms.map (eqM n) ++ (ps.take i).map (eqP n)))), (7, .d (dI i)), (8, .bx m.D.flat), (9, .bx [.sl 3 [], dB false, .sl 1 [], .sl 1 []])] rfl ⟨rfl, rfl, trivial⟩ ?_
      exact ZH.ls _ (by kernel_rfl) (N4_1 V)
    refine ZH.meet 2 #[true, true, true, true, true, true, true, true, true, true, true, true, true, true, false, false] (fun V => [(V, AV.ow 41 (QsD (addE (addE (zrE n) m.s m.ts) m.r m.tr)))]) (fun V => [(71, .d (EqV V ⟨false, [], []⟩)), (1, .bx [dI n, MshsD ms, PltsD ps, SpdsD gs]), (3, .ow 83 (EqsD (ms.map (eqM n) ++ (ps.take i).map (eqP n)))), (7, .d (dI i)), (8, .bx m.D.flat)]) (fun V => ?_) (fun N4_0 => ?_)
    · refine ZH.all 14 (by kernel_rfl) rfl rfl (fun _ => rfl) ⟨rfl, rfl, trivial⟩ ?_
      refine one_step (fun B1 F1 w1 => ?_)
      refine AOps.run tok 1 _ _ _ _ rfl ?_
      refine AOps.nil ⟨rfl, ?_⟩
      refine ZH.to [71, 1, 3, 7, 8, 9] [(71, .d (EqV V ⟨false, [], []⟩)), (1, .bx [dI n, MshsD ms, PltsD ps, SpdsD gs]), (3, .ow 83 (EqsD (ms.map (eqM n) ++ (ps.take i).map (eqP n)))), (7, .d (dI i)), (8, .bx m.D.flat), (9, .bx [.sl 3 [], dB false, .sl 1 [], .sl 1 []])] rfl ⟨rfl, rfl, trivial⟩ ?_
      exact ZH.ls _ (by kernel_rfl) (N4_1 V)
    refine ZH.meet 3 #[true, true, true, true, true, true, true, true, false, true, true, true, true, false, true, false] (fun V => [(V, AV.ow 41 (QsD (zrR (n - 1))))]) (fun V => [(61, .d (EqV V ⟨false, [], []⟩)), (63, .d (dI m.s)), (65, .d (dI m.ts)), (68, .d (dI m.r)), (70, .d (dI m.tr)), (1, .bx [dI n, MshsD ms, PltsD ps, SpdsD gs]), (3, .ow 83 (EqsD (ms.map (eqM n) ++ (ps.take i).map (eqP n)))), (7, .d (dI i)), (8, .bx m.D.flat), (9, .bx [.sl 3 [], dB false, .sl 1 [], .sl 1 []])]) (fun V => ?_) (fun N2_1 => ?_)
    · refine ZH.all 8 (by kernel_rfl) rfl rfl (fun _ => rfl) ⟨rfl, rfl, trivial⟩ ?_
      refine AZOps.callz tok [0] rfl rfl rfl rfl rfl (by simp) rfl (r51_with_ok V ⟨false, [], []⟩ (zrE n) m.s m.ts a1 (by omega) (by omega) (by omega) (Nat.le_trans (zs _) (by decide))) (fun _ _ h => by rw [h.2]; exact Nat.le_refl _) (fun res R1 hP => ?_)
      obtain ⟨rfl, rfl⟩ := hP
      refine AZOps.nil ?_
      refine ZH.to [66, 63, 65, 68, 70, 1, 3, 7, 8, 9] [(66, .d (EqV V ⟨false, [], []⟩)), (63, .d (dI m.s)), (65, .d (dI m.ts)), (68, .d (dI m.r)), (70, .d (dI m.tr)), (1, .bx [dI n, MshsD ms, PltsD ps, SpdsD gs]), (3, .ow 83 (EqsD (ms.map (eqM n) ++ (ps.take i).map (eqP n)))), (7, .d (dI i)), (8, .bx m.D.flat), (9, .bx [.sl 3 [], dB false, .sl 1 [], .sl 1 []])] rfl ⟨rfl, rfl, trivial⟩ ?_
      exact ZH.ls _ (by kernel_rfl) (N3_1 V)
    refine ZH.meet 3 #[true, true, true, true, true, true, true, true, true, true, true, true, true, false, false, false] (fun V => [(V, AV.ow 41 (QsD (addE (zrE n) m.s m.ts)))]) (fun V => [(66, .d (EqV V ⟨false, [], []⟩)), (63, .d (dI m.s)), (65, .d (dI m.ts)), (68, .d (dI m.r)), (70, .d (dI m.tr)), (1, .bx [dI n, MshsD ms, PltsD ps, SpdsD gs]), (3, .ow 83 (EqsD (ms.map (eqM n) ++ (ps.take i).map (eqP n)))), (7, .d (dI i)), (8, .bx m.D.flat)]) (fun V => ?_) (fun N3_0 => ?_)
    · refine ZH.two 13 14 (by kernel_rfl) rfl rfl rfl rfl (fun _ => rfl) (fun _ => rfl) ⟨rfl, rfl, trivial⟩ ?_ ?_
      · refine AZOps.callz tok [0] rfl rfl rfl rfl rfl (by simp) rfl (r51_with_ok V ⟨false, [], []⟩ (addE (zrE n) m.s m.ts) m.r m.tr b1 (by omega) (by omega) (by omega) (Nat.le_trans (s1 _) (by decide))) (fun _ _ h => by rw [h.2]; exact Nat.le_refl _) (fun res R1 hP => ?_)
        obtain ⟨rfl, rfl⟩ := hP
        refine AZOps.nil ?_
        refine ZH.to [71, 1, 3, 7, 8] [(71, .d (EqV V ⟨false, [], []⟩)), (1, .bx [dI n, MshsD ms, PltsD ps, SpdsD gs]), (3, .ow 83 (EqsD (ms.map (eqM n) ++ (ps.take i).map (eqP n)))), (7, .d (dI i)), (8, .bx m.D.flat)] rfl ⟨rfl, rfl, trivial⟩ ?_
        exact ZH.ls _ (by kernel_rfl) (N4_0 V)
      · refine one_step (fun B1 F1 w1 => ?_)
        refine AOps.run tok 1 _ _ _ _ rfl ?_
        refine AOps.nil ⟨rfl, ?_⟩
        refine ZH.to [66, 63, 65, 68, 70, 1, 3, 7, 8, 9] [(66, .d (EqV V ⟨false, [], []⟩)), (63, .d (dI m.s)), (65, .d (dI m.ts)), (68, .d (dI m.r)), (70, .d (dI m.tr)), (1, .bx [dI n, MshsD ms, PltsD ps, SpdsD gs]), (3, .ow 83 (EqsD (ms.map (eqM n) ++ (ps.take i).map (eqP n)))), (7, .d (dI i)), (8, .bx m.D.flat), (9, .bx [.sl 3 [], dB false, .sl 1 [], .sl 1 []])] rfl ⟨rfl, rfl, trivial⟩ ?_
        exact ZH.ls _ (by kernel_rfl) (N3_1 V)
    refine ZH.meet 4 #[true, true, true, false, true, true, true, true, false, true, true, true, true, false, true, false] (fun V => [(V, AV.ow 41 (QsD (zrR (n - 1))))]) (fun V => [(60, .d (.v V)), (63, .d (dI m.s)), (65, .d (dI m.ts)), (68, .d (dI m.r)), (70, .d (dI m.tr)), (1, .bx [dI n, MshsD ms, PltsD ps, SpdsD gs]), (3, .ow 83 (EqsD (ms.map (eqM n) ++ (ps.take i).map (eqP n)))), (7, .d (dI i)), (8, .bx m.D.flat), (9, .bx [.sl 3 [], dB false, .sl 1 [], .sl 1 []])]) (fun V => ?_) (fun N1_1 => ?_)
    · refine ZH.all 3 (by kernel_rfl) rfl rfl (fun _ => rfl) ⟨rfl, rfl, trivial⟩ ?_
      refine one_step (fun B1 F1 w1 => ?_)
      refine AOps.run tok 1 _ _ _ _ rfl ?_
      refine AOps.nil ⟨rfl, ?_⟩
      refine ZH.to [61, 63, 65, 68, 70, 1, 3, 7, 8, 9] [(61, .d (EqV V ⟨false, [], []⟩)), (63, .d (dI m.s)), (65, .d (dI m.ts)), (68, .d (dI m.r)), (70, .d (dI m.tr)), (1, .bx [dI n, MshsD ms, PltsD ps, SpdsD gs]), (3, .ow 83 (EqsD (ms.map (eqM n) ++ (ps.take i).map (eqP n)))), (7, .d (dI i)), (8, .bx m.D.flat), (9, .bx [.sl 3 [], dB false, .sl 1 [], .sl 1 []])] rfl ⟨rfl, rfl, trivial⟩ ?_
      exact ZH.ls _ (by kernel_rfl) (N2_1 V)
    refine ZH.meet 4 #[true, true, true, true, true, true, true, true, false, true, true, true, true, false, false, false] (fun V => [(V, AV.ow 41 (QsD (zrR (n - 1))))]) (fun V => [(61, .d (EqV V ⟨false, [], []⟩)), (63, .d (dI m.s)), (65, .d (dI m.ts)), (68, .d (dI m.r)), (70, .d (dI m.tr)), (1, .bx [dI n, MshsD ms, PltsD ps, SpdsD gs]), (3, .ow 83 (EqsD (ms.map (eqM n) ++ (ps.take i).map (eqP n)))), (7, .d (dI i)), (8, .bx m.D.flat)]) (fun V => ?_) (fun N2_0 => ?_)
    · refine ZH.two 8 14 (by kernel_rfl) rfl rfl rfl rfl (fun _ => rfl) (fun _ => rfl) ⟨rfl, rfl, trivial⟩ ?_ ?_
      · refine AZOps.callz tok [0] rfl rfl rfl rfl rfl (by simp) rfl (r51_with_ok V ⟨false, [], []⟩ (zrE n) m.s m.ts a1 (by omega) (by omega) (by omega) (Nat.le_trans (zs _) (by decide))) (fun _ _ h => by rw [h.2]; exact Nat.le_refl _) (fun res R1 hP => ?_)
        obtain ⟨rfl, rfl⟩ := hP
        refine AZOps.nil ?_
        refine ZH.to [66, 63, 65, 68, 70, 1, 3, 7, 8] [(66, .d (EqV V ⟨false, [], []⟩)), (63, .d (dI m.s)), (65, .d (dI m.ts)), (68, .d (dI m.r)), (70, .d (dI m.tr)), (1, .bx [dI n, MshsD ms, PltsD ps, SpdsD gs]), (3, .ow 83 (EqsD (ms.map (eqM n) ++ (ps.take i).map (eqP n)))), (7, .d (dI i)), (8, .bx m.D.flat)] rfl ⟨rfl, rfl, trivial⟩ ?_
        exact ZH.ls _ (by kernel_rfl) (N3_0 V)
      · refine one_step (fun B1 F1 w1 => ?_)
        refine AOps.run tok 1 _ _ _ _ rfl ?_
        refine AOps.nil ⟨rfl, ?_⟩
        refine ZH.to [61, 63, 65, 68, 70, 1, 3, 7, 8, 9] [(61, .d (EqV V ⟨false, [], []⟩)), (63, .d (dI m.s)), (65, .d (dI m.ts)), (68, .d (dI m.r)), (70, .d (dI m.tr)), (1, .bx [dI n, MshsD ms, PltsD ps, SpdsD gs]), (3, .ow 83 (EqsD (ms.map (eqM n) ++ (ps.take i).map (eqP n)))), (7, .d (dI i)), (8, .bx m.D.flat), (9, .bx [.sl 3 [], dB false, .sl 1 [], .sl 1 []])] rfl ⟨rfl, rfl, trivial⟩ ?_
        exact ZH.ls _ (by kernel_rfl) (N2_1 V)
    refine ZH.meet 5 #[true, true, false, false, true, true, true, true, false, true, true, true, true, false, true, false] (fun V => []) (fun V => [(59, .d (dI n)), (63, .d (dI m.s)), (65, .d (dI m.ts)), (68, .d (dI m.r)), (70, .d (dI m.tr)), (1, .bx [dI n, MshsD ms, PltsD ps, SpdsD gs]), (3, .ow 83 (EqsD (ms.map (eqM n) ++ (ps.take i).map (eqP n)))), (7, .d (dI i)), (8, .bx m.D.flat), (9, .bx [.sl 3 [], dB false, .sl 1 [], .sl 1 []])]) (fun V => ?_) (fun N0_1 => ?_)
    · refine ZH.all 2 (by kernel_rfl) rfl rfl (fun _ => rfl) ⟨rfl, rfl, trivial⟩ ?_
      refine AZOps.cut 1 rfl (fun B1 F1 w1 => ?_)
      refine AOps.makeQ tok (n - 1) rfl rfl rfl rfl rfl rfl rfl (by omega) (by omega) (by omega) ?_
      refine AOps.nil ⟨rfl, ?_⟩
      refine AZOps.loosen 60 rfl rfl rfl (fun V => ?_)
      refine AZOps.to [60, 63, 65, 68, 70, 1, 3, 7, 8, 9] [(60, .d (.v V)), (63, .d (dI m.s)), (65, .d (dI m.ts)), (68, .d (dI m.r)), (70, .d (dI m.tr)), (1, .bx [dI n, MshsD ms, PltsD ps, SpdsD gs]), (3, .ow 83 (EqsD (ms.map (eqM n) ++ (ps.take i).map (eqP n)))), (7, .d (dI i)), (8, .bx m.D.flat), (9, .bx [.sl 3 [], dB false, .sl 1 [], .sl 1 []])] rfl ?_
      refine AZOps.nil ?_
      refine ZH.to [60, 63, 65, 68, 70, 1, 3, 7, 8, 9] [(60, .d (.v V)), (63, .d (dI m.s)), (65, .d (dI m.ts)), (68, .d (dI m.r)), (70, .d (dI m.tr)), (1, .bx [dI n, MshsD ms, PltsD ps, SpdsD gs]), (3, .ow 83 (EqsD (ms.map (eqM n) ++ (ps.take i).map (eqP n)))), (7, .d (dI i)), (8, .bx m.D.flat), (9, .bx [.sl 3 [], dB false, .sl 1 [], .sl 1 []])] rfl ⟨rfl, rfl, trivial⟩ ?_
      exact ZH.ls _ (by kernel_rfl) (N1_1 V)
    refine ZH.meet 5 #[true, true, true, false, true, true, true, true, false, true, true, true, true, false, false, false] (fun V => [(V, AV.ow 41 (QsD (zrR (n - 1))))]) (fun V => [(60, .d (.v V)), (63, .d (dI m.s)), (65, .d (dI m.ts)), (68, .d (dI m.r)), (70, .d (dI m.tr)), (1, .bx [dI n, MshsD ms, PltsD ps, SpdsD gs]), (3, .ow 83 (EqsD (ms.map (eqM n) ++ (ps.take i).map (eqP n)))), (7, .d (dI i)), (8, .bx m.D.flat)]) (fun V => ?_) (fun N1_0 => ?_)
    · refine ZH.two 3 14 (by kernel_rfl) rfl rfl rfl rfl (fun _ => rfl) (fun _ => rfl) ⟨rfl, rfl, trivial⟩ ?_ ?_
      · refine one_step (fun B1 F1 w1 => ?_)
        refine AOps.run tok 1 _ _ _ _ rfl ?_
        refine AOps.nil ⟨rfl, ?_⟩
        refine ZH.to [61, 63, 65, 68, 70, 1, 3, 7, 8] [(61, .d (EqV V ⟨false, [], []⟩)), (63, .d (dI m.s)), (65, .d (dI m.ts)), (68, .d (dI m.r)), (70, .d (dI m.tr)), (1, .bx [dI n, MshsD ms, PltsD ps, SpdsD gs]), (3, .ow 83 (EqsD (ms.map (eqM n) ++ (ps.take i).map (eqP n)))), (7, .d (dI i)), (8, .bx m.D.flat)] rfl ⟨rfl, rfl, trivial⟩ ?_
        exact ZH.ls _ (by kernel_rfl) (N2_0 V)
      · refine one_step (fun B1 F1 w1 => ?_)
        refine AOps.run tok 1 _ _ _ _ rfl ?_
        refine AOps.nil ⟨rfl, ?_⟩
        refine ZH.to [60, 63, 65, 68, 70, 1, 3, 7, 8, 9] [(60, .d (.v V)), (63, .d (dI m.s)), (65, .d (dI m.ts)), (68, .d (dI m.r)), (70, .d (dI m.tr)), (1, .bx [dI n, MshsD ms, PltsD ps, SpdsD gs]), (3, .ow 83 (EqsD (ms.map (eqM n) ++ (ps.take i).map (eqP n)))), (7, .d (dI i)), (8, .bx m.D.flat), (9, .bx [.sl 3 [], dB false, .sl 1 [], .sl 1 []])] rfl ⟨rfl, rfl, trivial⟩ ?_
        exact ZH.ls _ (by kernel_rfl) (N1_1 V)
    refine ZH.meet 6 #[true, true, false, false, true, true, true, true, false, true, true, true, true, false, false, false] (fun V => []) (fun V => [(59, .d (dI n)), (63, .d (dI m.s)), (65, .d (dI m.ts)), (68, .d (dI m.r)), (70, .d (dI m.tr)), (1, .bx [dI n, MshsD ms, PltsD ps, SpdsD gs]), (3, .ow 83 (EqsD (ms.map (eqM n) ++ (ps.take i).map (eqP n)))), (7, .d (dI i)), (8, .bx m.D.flat)]) (fun V => ?_) (fun N0_0 => ?_)
    · refine ZH.two 2 14 (by kernel_rfl) rfl rfl rfl rfl (fun _ => rfl) (fun _ => rfl) ⟨rfl, rfl, trivial⟩ ?_ ?_
      · refine AZOps.cut 1 rfl (fun B1 F1 w1 => ?_)
        refine AOps.makeQ tok (n - 1) rfl rfl rfl rfl rfl rfl rfl (by omega) (by omega) (by omega) ?_
        refine AOps.nil ⟨rfl, ?_⟩
        refine AZOps.loosen 60 rfl rfl rfl (fun V => ?_)
        refine AZOps.to [60, 63, 65, 68, 70, 1, 3, 7, 8] [(60, .d (.v V)), (63, .d (dI m.s)), (65, .d (dI m.ts)), (68, .d (dI m.r)), (70, .d (dI m.tr)), (1, .bx [dI n, MshsD ms, PltsD ps, SpdsD gs]), (3, .ow 83 (EqsD (ms.map (eqM n) ++ (ps.take i).map (eqP n)))), (7, .d (dI i)), (8, .bx m.D.flat)] rfl ?_
        refine AZOps.nil ?_
        refine ZH.to [60, 63, 65, 68, 70, 1, 3, 7, 8] [(60, .d (.v V)), (63, .d (dI m.s)), (65, .d (dI m.ts)), (68, .d (dI m.r)), (70, .d (dI m.tr)), (1, .bx [dI n, MshsD ms, PltsD ps, SpdsD gs]), (3, .ow 83 (EqsD (ms.map (eqM n) ++ (ps.take i).map (eqP n)))), (7, .d (dI i)), (8, .bx m.D.flat)] rfl ⟨rfl, rfl, trivial⟩ ?_
        exact ZH.ls _ (by kernel_rfl) (N1_0 V)
      · refine one_step (fun B1 F1 w1 => ?_)
        refine AOps.run tok 1 _ _ _ _ rfl ?_
        refine AOps.nil ⟨rfl, ?_⟩
        refine ZH.to [59, 63, 65, 68, 70, 1, 3, 7, 8, 9] [(59, .d (dI n)), (63, .d (dI m.s)), (65, .d (dI m.ts)), (68, .d (dI m.r)), (70, .d (dI m.tr)), (1, .bx [dI n, MshsD ms, PltsD ps, SpdsD gs]), (3, .ow 83 (EqsD (ms.map (eqM n) ++ (ps.take i).map (eqP n)))), (7, .d (dI i)), (8, .bx m.D.flat), (9, .bx [.sl 3 [], dB false, .sl 1 [], .sl 1 []])] rfl ⟨rfl, rfl, trivial⟩ ?_
        exact ZH.ls _ (by kernel_rfl) (N0_1 V)
    refine ZH.to [59, 63, 65, 68, 70, 1, 3, 7, 8] [(59, .d (dI n)), (63, .d (dI m.s)), (65, .d (dI m.ts)), (68, .d (dI m.r)), (70, .d (dI m.tr)), (1, .bx [dI n, MshsD ms, PltsD ps, SpdsD gs]), (3, .ow 83 (EqsD (ms.map (eqM n) ++ (ps.take i).map (eqP n)))), (7, .d (dI i)), (8, .bx m.D.flat)] rfl ⟨rfl, rfl, trivial⟩ ?_
    exact ZH.ls _ (by kernel_rfl) (N0_0 nilS)
  have hin : ¬ i < ps.length := by have := of_decide_eq_false h; omega
  have hie : i = ps.length := by omega
  subst hie
  rw [List.take_length]
  refine AZ.exit ?_
  refine AZ.seq ?_
  refine AZ.seq ?_
  refine AZ.reg (fun B1 F1 w1 => ?_)
  refine AOps.run tok 1 _ _ _ _ rfl ?_
  refine AOps.nil ⟨rfl, ?_⟩
  refine AZ.block ?_
  refine AZ.loopS [1, 3, 10] (fun i : Nat => ([], [(1, .bx [dI n, MshsD ms, PltsD ps, SpdsD gs]), (3, .ow 83 (EqsD (ms.map (eqM n) ++ ps.map (eqP n) ++ (gs.take i).map (eqS n)))), (10, .d (dI i))])) (fun i => i ≤ gs.length) (fun i => gs.length - i) 0 (by rw [List.take_zero, List.map_nil, List.append_nil]; rfl) (Nat.zero_le _) (fun i hi => ?_)
  show AZ _ _ _ _ _ _ _ [] [(1, .bx [dI n, MshsD ms, PltsD ps, SpdsD gs]), (3, .ow 83 (EqsD (ms.map (eqM n) ++ ps.map (eqP n) ++ (gs.take i).map (eqS n)))), (10, .d (dI i))]
  refine AZ.seq ?_
  refine AZ.seq ?_
  refine AZ.reg (fun B1 F1 w1 => ?_)
  refine AOps.run tok 4 _ _ _ _ rfl ?_
  rw [List.length_map]
  refine AOps.run tok 1 _ _ _ _ rfl ?_
  refine AOps.nil ⟨rfl, ?_⟩
  refine AZ.cond rfl (fun h => ?_) (fun h => ?_)
  · have hin : i < gs.length := by have := of_decide_eq_true h; omega
    have hid : (gs.map Spd.D)[i]? = some (gs.getD i default).D := getM Spd.D hin
    have hmi := spdE_ok (hg i hin)
    have hmw := hgw i
    have htk := take_snoc gs hin
    have hln : (EqsD (ms.map (eqM n) ++ ps.map (eqP n) ++ (gs.take i).map (eqS n))).length = ms.length + ps.length + i := by rw [List.length_map, List.length_append, List.length_append, List.length_map, List.length_map, List.length_map, List.length_take]; omega
    generalize gs.getD i default = m at hid hmi hmw htk
    obtain ⟨⟨a1, a2⟩, b1⟩ := hmi
    have hcv := RD.canon hmw b1
    refine AZ.skip ?_
    refine AZ.seq ?_
    refine AZ.block ?_
    refine AZ.seq ?_
    refine AZ.any hmix (ZH.any (β := [(1, [dI n, MshsD ms, PltsD ps, SpdsD gs])]) ?_)
    refine ZH.fd tok 0 rfl rfl (by kernel_rfl) (by kernel_rfl) (by kernel_rfl) rfl (fun _ _ _ h => h) (fun _ => rfl) ⟨rfl, trivial⟩ (fun B1 F1 w1 => ?_)
    refine AOps.run tok 1 _ _ _ _ rfl ?_
    refine AOps.nil ⟨rfl, ?_⟩
    refine ZH.ld tok 1 rfl rfl (by kernel_rfl) (by kernel_rfl) (by kernel_rfl) rfl rfl (fun _ _ _ h => h) (fun _ => rfl) ⟨rfl, trivial⟩ (fun B1 F1 w1 => ?_)
    refine AOps.run tok 1 _ _ _ _ rfl ?_
    refine AOps.nil ⟨rfl, ?_⟩
    refine ZH.fd tok 4 rfl rfl (by kernel_rfl) (by kernel_rfl) (by kernel_rfl) rfl (fun _ _ _ h => h) (fun _ => rfl) ⟨rfl, trivial⟩ (fun B1 F1 w1 => ?_)
    refine AOps.run tok 1 _ _ _ _ rfl ?_
    refine AOps.nil ⟨rfl, ?_⟩
    refine ZH.mv 6 rfl rfl (by kernel_rfl) (by kernel_rfl) (by kernel_rfl) rfl (fun _ _ _ h => h) (fun _ => rfl) ⟨rfl, trivial⟩ (fun B1 F1 w1 => ?_)
    refine AOps.run tok 1 _ _ _ _ rfl ?_
    refine AOps.nil ⟨rfl, ?_⟩
    refine ZH.meet 1 #[true, true, true, true, true, true, true, true, true, true, true, true, false] (fun V => [(V, AV.ow 41 (QsD (addE (zrE n) m.sh 1)))]) (fun V => [(102, .d (EqV V ⟨false, [], []⟩)), (1, .bx [dI n, MshsD ms, PltsD ps, SpdsD gs]), (3, .ow 83 (EqsD (ms.map (eqM n) ++ ps.map (eqP n) ++ (gs.take i).map (eqS n)))), (10, .d (dI i)), (11, .bx [.sl 3 [], dB false, .sl 1 [], .sl 1 []])]) (fun V => ?_) (fun N2_4_1_1 => ?_)
    · refine ZH.all 12 (by kernel_rfl) rfl rfl (fun _ => rfl) ⟨rfl, trivial⟩ ?_
      refine one_step (fun B1 F1 w1 => ?_)
      refine AOps.run tok 1 _ _ _ _ rfl ?_
      refine AOps.nil ⟨rfl, ?_⟩
      refine ZH.done (by kernel_rfl) ⟨rfl, trivial⟩ ?_
      refine AZ.to [1, 3, 10, 11] [(1, .bx [dI n, MshsD ms, PltsD ps, SpdsD gs]), (3, .ow 83 (EqsD (ms.map (eqM n) ++ ps.map (eqP n) ++ (gs.take i).map (eqS n)))), (10, .d (dI i)), (11, .bx [.v V, dB false, .sl 1 [], .sl 1 []])] rfl ?_
      refine AZ.seq ?_
      refine AZ.reg (fun B1 F1 w1 => ?_)
      refine AOps.run tok 3 _ _ _ _ rfl ?_
      refine AOps.idx tok m.D rfl rfl rfl rfl (Int.natCast_nonneg i) hid ?_
      refine AOps.run tok 4 _ _ _ _ rfl ?_
      refine AOps.nil ⟨rfl, ?_⟩
      refine AZ.to [1, 3, 10, 11] [(1, .bx [dI n, MshsD ms, PltsD ps, SpdsD gs]), (3, .ow 83 (EqsD (ms.map (eqM n) ++ ps.map (eqP n) ++ (gs.take i).map (eqS n)))), (10, .d (dI i)), (11, .bx [.v V, dB m.v.g, Wd m.v.n, Wd m.v.d])] rfl ?_
      rw [hcv]
      refine AZ.region ?_
      refine AZOps.cut 2 rfl (fun B1 F1 w1 => ?_)
      refine AOps.run tok 2 _ _ _ _ rfl ?_
      refine AOps.nil ⟨rfl, ?_⟩
      refine AZOps.frzd tok 111 0 0 rfl rfl rfl rfl ?_
      refine AZOps.forget ?_
      refine AZOps.to [111, 110, 1, 3, 10] [(111, .d (EqD (eqS n m))), (110, .al 3), (1, .bx [dI n, MshsD ms, PltsD ps, SpdsD gs]), (3, .ow 83 (EqsD (ms.map (eqM n) ++ ps.map (eqP n) ++ (gs.take i).map (eqS n)))), (10, .d (dI i))] rfl ?_
      refine AZOps.cut 3 rfl (fun B1 F1 w1 => ?_)
      refine AOps.bsd tok rfl rfl rfl rfl rfl ?_
      refine AOps.appo tok rfl rfl rfl rfl rfl rfl (by show ((EqsD (ms.map (eqM n) ++ ps.map (eqP n) ++ (gs.take i).map (eqS n))).length + 1) * 80 ≤ _; rw [hln]; omega) (by show (EqsD (ms.map (eqM n) ++ ps.map (eqP n) ++ (gs.take i).map (eqS n))).length + 1 ≤ _; rw [hln]; omega) ?_
      refine AOps.run tok 1 _ _ _ _ rfl ?_
      refine AOps.nil ⟨rfl, ?_⟩
      refine AZOps.nil ?_
      refine AZ.reg (fun B1 F1 w1 => ?_)
      refine AOps.run tok 2 _ _ _ _ rfl ?_
      rw [wI64 (x := (i : Int) + 1) (by omega) (by omega)]
      refine AOps.run tok 1 _ _ _ _ rfl ?_
      refine AOps.nil ⟨rfl, ?_⟩
      refine ⟨i + 1, Prod.ext rfl ?_, hin, by omega⟩
      show _ = [(1, AV.bx [dI n, MshsD ms, PltsD ps, SpdsD gs]), (3, .ow 83 (EqsD (ms.map (eqM n) ++ ps.map (eqP n) ++ (gs.take (i + 1)).map (eqS n)))), (10, .d (dI ((i + 1 : Nat) : Int)))]
      rw [show EqsD (ms.map (eqM n) ++ ps.map (eqP n) ++ (gs.take (i + 1)).map (eqS n)) = EqsD (ms.map (eqM n) ++ ps.map (eqP n) ++ (gs.take i).map (eqS n)) ++ [EqD (eqS n m)] by rw [htk, List.map_append, List.map_cons, List.map_nil, ← List.append_assoc]; exact List.map_append]
      rfl
    refine ZH.meet 2 #[true, true, true, true, true, true, true, true, true, true, true, false, false] (fun V => [(V, AV.ow 41 (QsD (addE (zrE n) m.sh 1)))]) (fun V => [(102, .d (EqV V ⟨false, [], []⟩)), (1, .bx [dI n, MshsD ms, PltsD ps, SpdsD gs]), (3, .ow 83 (EqsD (ms.map (eqM n) ++ ps.map (eqP n) ++ (gs.take i).map (eqS n)))), (10, .d (dI i))]) (fun V => ?_) (fun N2_4_0_1 => ?_)
    · refine ZH.all 11 (by kernel_rfl) rfl rfl (fun _ => rfl) ⟨rfl, trivial⟩ ?_
      refine one_step (fun B1 F1 w1 => ?_)
      refine AOps.run tok 1 _ _ _ _ rfl ?_
      refine AOps.nil ⟨rfl, ?_⟩
      refine ZH.to [102, 1, 3, 10, 11] [(102, .d (EqV V ⟨false, [], []⟩)), (1, .bx [dI n, MshsD ms, PltsD ps, SpdsD gs]), (3, .ow 83 (EqsD (ms.map (eqM n) ++ ps.map (eqP n) ++ (gs.take i).map (eqS n)))), (10, .d (dI i)), (11, .bx [.sl 3 [], dB false, .sl 1 [], .sl 1 []])] rfl ⟨rfl, trivial⟩ ?_
      exact ZH.ls _ (by kernel_rfl) (N2_4_1_1 V)
    refine ZH.meet 2 #[true, true, true, true, true, true, true, true, true, true, false, true, false] (fun V => [(V, AV.ow 41 (QsD (zrR (n - 1))))]) (fun V => [(95, .d (EqV V ⟨false, [], []⟩)), (101, .d (dI m.sh)), (1, .bx [dI n, MshsD ms, PltsD ps, SpdsD gs]), (3, .ow 83 (EqsD (ms.map (eqM n) ++ ps.map (eqP n) ++ (gs.take i).map (eqS n)))), (10, .d (dI i)), (11, .bx [.sl 3 [], dB false, .sl 1 [], .sl 1 []])]) (fun V => ?_) (fun N2_4_1_0 => ?_)
    · refine ZH.all 10 (by kernel_rfl) rfl rfl (fun _ => rfl) ⟨rfl, trivial⟩ ?_
      refine AZOps.callz tok [0] rfl rfl rfl rfl rfl (by simp) rfl (r51_with_ok V ⟨false, [], []⟩ (zrE n) m.sh 1 a1 (by omega) (by omega) (by omega) (Nat.le_trans (zs _) (by decide))) (fun _ _ h => by rw [h.2]; exact Nat.le_refl _) (fun res R1 hP => ?_)
      obtain ⟨rfl, rfl⟩ := hP
      refine AZOps.nil ?_
      refine ZH.to [102, 1, 3, 10, 11] [(102, .d (EqV V ⟨false, [], []⟩)), (1, .bx [dI n, MshsD ms, PltsD ps, SpdsD gs]), (3, .ow 83 (EqsD (ms.map (eqM n) ++ ps.map (eqP n) ++ (gs.take i).map (eqS n)))), (10, .d (dI i)), (11, .bx [.sl 3 [], dB false, .sl 1 [], .sl 1 []])] rfl ⟨rfl, trivial⟩ ?_
      exact ZH.ls _ (by kernel_rfl) (N2_4_1_1 V)
    refine ZH.meet 3 #[true, true, true, false, true, true, true, true, true, true, false, true, false] (fun V => [(V, AV.ow 41 (QsD (zrR (n - 1))))]) (fun V => [(94, .d (.v V)), (101, .d (dI m.sh)), (1, .bx [dI n, MshsD ms, PltsD ps, SpdsD gs]), (3, .ow 83 (EqsD (ms.map (eqM n) ++ ps.map (eqP n) ++ (gs.take i).map (eqS n)))), (10, .d (dI i)), (11, .bx [.sl 3 [], dB false, .sl 1 [], .sl 1 []])]) (fun V => ?_) (fun N1_4_1_0 => ?_)
    · refine ZH.all 3 (by kernel_rfl) rfl rfl (fun _ => rfl) ⟨rfl, trivial⟩ ?_
      refine one_step (fun B1 F1 w1 => ?_)
      refine AOps.run tok 1 _ _ _ _ rfl ?_
      refine AOps.nil ⟨rfl, ?_⟩
      refine ZH.to [95, 101, 1, 3, 10, 11] [(95, .d (EqV V ⟨false, [], []⟩)), (101, .d (dI m.sh)), (1, .bx [dI n, MshsD ms, PltsD ps, SpdsD gs]), (3, .ow 83 (EqsD (ms.map (eqM n) ++ ps.map (eqP n) ++ (gs.take i).map (eqS n)))), (10, .d (dI i)), (11, .bx [.sl 3 [], dB false, .sl 1 [], .sl 1 []])] rfl ⟨rfl, trivial⟩ ?_
      exact ZH.ls _ (by kernel_rfl) (N2_4_1_0 V)
    refine ZH.meet 3 #[true, true, true, true, true, true, true, true, true, false, false, true, false] (fun V => [(V, AV.ow 41 (QsD (zrR (n - 1))))]) (fun V => [(95, .d (EqV V ⟨false, [], []⟩)), (100, .rf m.D.flat), (1, .bx [dI n, MshsD ms, PltsD ps, SpdsD gs]), (3, .ow 83 (EqsD (ms.map (eqM n) ++ ps.map (eqP n) ++ (gs.take i).map (eqS n)))), (10, .d (dI i)), (11, .bx [.sl 3 [], dB false, .sl 1 [], .sl 1 []])]) (fun V => ?_) (fun N2_3_1_0 => ?_)
    · refine ZH.all 9 (by kernel_rfl) rfl rfl (fun _ => rfl) ⟨rfl, trivial⟩ ?_
      refine one_step (fun B1 F1 w1 => ?_)
      refine AOps.run tok 1 _ _ _ _ rfl ?_
      refine AOps.nil ⟨rfl, ?_⟩
      refine ZH.to [95, 101, 1, 3, 10, 11] [(95, .d (EqV V ⟨false, [], []⟩)), (101, .d (dI m.sh)), (1, .bx [dI n, MshsD ms, PltsD ps, SpdsD gs]), (3, .ow 83 (EqsD (ms.map (eqM n) ++ ps.map (eqP n) ++ (gs.take i).map (eqS n)))), (10, .d (dI i)), (11, .bx [.sl 3 [], dB false, .sl 1 [], .sl 1 []])] rfl ⟨rfl, trivial⟩ ?_
      exact ZH.ls _ (by kernel_rfl) (N2_4_1_0 V)
    refine ZH.meet 3 #[true, true, true, true, true, true, true, true, true, true, false, false, false] (fun V => [(V, AV.ow 41 (QsD (zrR (n - 1))))]) (fun V => [(95, .d (EqV V ⟨false, [], []⟩)), (101, .d (dI m.sh)), (1, .bx [dI n, MshsD ms, PltsD ps, SpdsD gs]), (3, .ow 83 (EqsD (ms.map (eqM n) ++ ps.map (eqP n) ++ (gs.take i).map (eqS n)))), (10, .d (dI i))]) (fun V => ?_) (fun N2_4_0_0 => ?_)
    · refine ZH.two 10 11 (by kernel_rfl) rfl rfl rfl rfl (fun _ => rfl) (fun _ => rfl) ⟨rfl, trivial⟩ ?_ ?_
      · refine AZOps.callz tok [0] rfl rfl rfl rfl rfl (by simp) rfl (r51_with_ok V ⟨false, [], []⟩ (zrE n) m.sh 1 a1 (by omega) (by omega) (by omega) (Nat.le_trans (zs _) (by decide))) (fun _ _ h => by rw [h.2]; exact Nat.le_refl _) (fun res R1 hP => ?_)
        obtain ⟨rfl, rfl⟩ := hP
        refine AZOps.nil ?_
        refine ZH.to [102, 1, 3, 10] [(102, .d (EqV V ⟨false, [], []⟩)), (1, .bx [dI n, MshsD ms, PltsD ps, SpdsD gs]), (3, .ow 83 (EqsD (ms.map (eqM n) ++ ps.map (eqP n) ++ (gs.take i).map (eqS n)))), (10, .d (dI i))] rfl ⟨rfl, trivial⟩ ?_
        exact ZH.ls _ (by kernel_rfl) (N2_4_0_1 V)
      · refine one_step (fun B1 F1 w1 => ?_)
        refine AOps.run tok 1 _ _ _ _ rfl ?_
        refine AOps.nil ⟨rfl, ?_⟩
        refine ZH.to [95, 101, 1, 3, 10, 11] [(95, .d (EqV V ⟨false, [], []⟩)), (101, .d (dI m.sh)), (1, .bx [dI n, MshsD ms, PltsD ps, SpdsD gs]), (3, .ow 83 (EqsD (ms.map (eqM n) ++ ps.map (eqP n) ++ (gs.take i).map (eqS n)))), (10, .d (dI i)), (11, .bx [.sl 3 [], dB false, .sl 1 [], .sl 1 []])] rfl ⟨rfl, trivial⟩ ?_
        exact ZH.ls _ (by kernel_rfl) (N2_4_1_0 V)
    refine ZH.meet 4 #[true, true, false, false, true, true, true, true, true, true, false, true, false] (fun V => []) (fun V => [(93, .d (dI n)), (101, .d (dI m.sh)), (1, .bx [dI n, MshsD ms, PltsD ps, SpdsD gs]), (3, .ow 83 (EqsD (ms.map (eqM n) ++ ps.map (eqP n) ++ (gs.take i).map (eqS n)))), (10, .d (dI i)), (11, .bx [.sl 3 [], dB false, .sl 1 [], .sl 1 []])]) (fun V => ?_) (fun N0_4_1_0 => ?_)
    · refine ZH.all 2 (by kernel_rfl) rfl rfl (fun _ => rfl) ⟨rfl, trivial⟩ ?_
      refine AZOps.cut 1 rfl (fun B1 F1 w1 => ?_)
      refine AOps.makeQ tok (n - 1) rfl rfl rfl rfl rfl rfl rfl (by omega) (by omega) (by omega) ?_
      refine AOps.nil ⟨rfl, ?_⟩
      refine AZOps.loosen 94 rfl rfl rfl (fun V => ?_)
      refine AZOps.to [94, 101, 1, 3, 10, 11] [(94, .d (.v V)), (101, .d (dI m.sh)), (1, .bx [dI n, MshsD ms, PltsD ps, SpdsD gs]), (3, .ow 83 (EqsD (ms.map (eqM n) ++ ps.map (eqP n) ++ (gs.take i).map (eqS n)))), (10, .d (dI i)), (11, .bx [.sl 3 [], dB false, .sl 1 [], .sl 1 []])] rfl ?_
      refine AZOps.nil ?_
      refine ZH.to [94, 101, 1, 3, 10, 11] [(94, .d (.v V)), (101, .d (dI m.sh)), (1, .bx [dI n, MshsD ms, PltsD ps, SpdsD gs]), (3, .ow 83 (EqsD (ms.map (eqM n) ++ ps.map (eqP n) ++ (gs.take i).map (eqS n)))), (10, .d (dI i)), (11, .bx [.sl 3 [], dB false, .sl 1 [], .sl 1 []])] rfl ⟨rfl, trivial⟩ ?_
      exact ZH.ls _ (by kernel_rfl) (N1_4_1_0 V)
    refine ZH.meet 4 #[true, true, true, false, true, true, true, true, true, false, false, true, false] (fun V => [(V, AV.ow 41 (QsD (zrR (n - 1))))]) (fun V => [(94, .d (.v V)), (100, .rf m.D.flat), (1, .bx [dI n, MshsD ms, PltsD ps, SpdsD gs]), (3, .ow 83 (EqsD (ms.map (eqM n) ++ ps.map (eqP n) ++ (gs.take i).map (eqS n)))), (10, .d (dI i)), (11, .bx [.sl 3 [], dB false, .sl 1 [], .sl 1 []])]) (fun V => ?_) (fun N1_3_1_0 => ?_)
    · refine ZH.two 3 9 (by kernel_rfl) rfl rfl rfl rfl (fun _ => rfl) (fun _ => rfl) ⟨rfl, trivial⟩ ?_ ?_
      · refine one_step (fun B1 F1 w1 => ?_)
        refine AOps.run tok 1 _ _ _ _ rfl ?_
        refine AOps.nil ⟨rfl, ?_⟩
        refine ZH.to [95, 100, 1, 3, 10, 11] [(95, .d (EqV V ⟨false, [], []⟩)), (100, .rf m.D.flat), (1, .bx [dI n, MshsD ms, PltsD ps, SpdsD gs]), (3, .ow 83 (EqsD (ms.map (eqM n) ++ ps.map (eqP n) ++ (gs.take i).map (eqS n)))), (10, .d (dI i)), (11, .bx [.sl 3 [], dB false, .sl 1 [], .sl 1 []])] rfl ⟨rfl, trivial⟩ ?_
        exact ZH.ls _ (by kernel_rfl) (N2_3_1_0 V)
      · refine one_step (fun B1 F1 w1 => ?_)
        refine AOps.run tok 1 _ _ _ _ rfl ?_
        refine AOps.nil ⟨rfl, ?_⟩
        refine ZH.to [94, 101, 1, 3, 10, 11] [(94, .d (.v V)), (101, .d (dI m.sh)), (1, .bx [dI n, MshsD ms, PltsD ps, SpdsD gs]), (3, .ow 83 (EqsD (ms.map (eqM n) ++ ps.map (eqP n) ++ (gs.take i).map (eqS n)))), (10, .d (dI i)), (11, .bx [.sl 3 [], dB false, .sl 1 [], .sl 1 []])] rfl ⟨rfl, trivial⟩ ?_
        exact ZH.ls _ (by kernel_rfl) (N1_4_1_0 V)
    refine ZH.meet 4 #[true, true, true, false, true, true, true, true, true, true, false, false, false] (fun V => [(V, AV.ow 41 (QsD (zrR (n - 1))))]) (fun V => [(94, .d (.v V)), (101, .d (dI m.sh)), (1, .bx [dI n, MshsD ms, PltsD ps, SpdsD gs]), (3, .ow 83 (EqsD (ms.map (eqM n) ++ ps.map (eqP n) ++ (gs.take i).map (eqS n)))), (10, .d (dI i))]) (fun V => ?_) (fun N1_4_0_0 => ?_)
    · refine ZH.two 3 11 (by kernel_rfl) rfl rfl rfl rfl (fun _ => rfl) (fun _ => rfl) ⟨rfl, trivial⟩ ?_ ?_
      · refine one_step (fun B1 F1 w1 => ?_)
        refine AOps.run tok 1 _ _ _ _ rfl ?_
        refine AOps.nil ⟨rfl, ?_⟩
        refine ZH.to [95, 101, 1, 3, 10] [(95, .d (EqV V ⟨false, [], []⟩)), (101, .d (dI m.sh)), (1, .bx [dI n, MshsD ms, PltsD ps, SpdsD gs]), (3, .ow 83 (EqsD (ms.map (eqM n) ++ ps.map (eqP n) ++ (gs.take i).map (eqS n)))), (10, .d (dI i))] rfl ⟨rfl, trivial⟩ ?_
        exact ZH.ls _ (by kernel_rfl) (N2_4_0_0 V)
      · refine one_step (fun B1 F1 w1 => ?_)
        refine AOps.run tok 1 _ _ _ _ rfl ?_
        refine AOps.nil ⟨rfl, ?_⟩
        refine ZH.to [94, 101, 1, 3, 10, 11] [(94, .d (.v V)), (101, .d (dI m.sh)), (1, .bx [dI n, MshsD ms, PltsD ps, SpdsD gs]), (3, .ow 83 (EqsD (ms.map (eqM n) ++ ps.map (eqP n) ++ (gs.take i).map (eqS n)))), (10, .d (dI i)), (11, .bx [.sl 3 [], dB false, .sl 1 [], .sl 1 []])] rfl ⟨rfl, trivial⟩ ?_
        exact ZH.ls _ (by kernel_rfl) (N1_4_1_0 V)
    refine ZH.meet 4 #[true, true, true, true, true, true, true, true, false, false, false, true, false] (fun V => [(V, AV.ow 41 (QsD (zrR (n - 1))))]) (fun V => [(95, .d (EqV V ⟨false, [], []⟩)), (99, .rf m.D.flat), (1, .bx [dI n, MshsD ms, PltsD ps, SpdsD gs]), (3, .ow 83 (EqsD (ms.map (eqM n) ++ ps.map (eqP n) ++ (gs.take i).map (eqS n)))), (10, .d (dI i)), (11, .bx [.sl 3 [], dB false, .sl 1 [], .sl 1 []])]) (fun V => ?_) (fun N2_2_1_0 => ?_)
    · refine ZH.all 8 (by kernel_rfl) rfl rfl (fun _ => rfl) ⟨rfl, trivial⟩ ?_
      refine one_step (fun B1 F1 w1 => ?_)
      refine AOps.run tok 1 _ _ _ _ rfl ?_
      refine AOps.nil ⟨rfl, ?_⟩
      refine ZH.to [95, 100, 1, 3, 10, 11] [(95, .d (EqV V ⟨false, [], []⟩)), (100, .rf m.D.flat), (1, .bx [dI n, MshsD ms, PltsD ps, SpdsD gs]), (3, .ow 83 (EqsD (ms.map (eqM n) ++ ps.map (eqP n) ++ (gs.take i).map (eqS n)))), (10, .d (dI i)), (11, .bx [.sl 3 [], dB false, .sl 1 [], .sl 1 []])] rfl ⟨rfl, trivial⟩ ?_
      exact ZH.ls _ (by kernel_rfl) (N2_3_1_0 V)
    refine ZH.meet 4 #[true, true, true, true, true, true, true, true, true, false, false, false, false] (fun V => [(V, AV.ow 41 (QsD (zrR (n - 1))))]) (fun V => [(95, .d (EqV V ⟨false, [], []⟩)), (100, .rf m.D.flat), (1, .bx [dI n, MshsD ms, PltsD ps, SpdsD gs]), (3, .ow 83 (EqsD (ms.map (eqM n) ++ ps.map (eqP n) ++ (gs.take i).map (eqS n)))), (10, .d (dI i))]) (fun V => ?_) (fun N2_3_0_0 => ?_)
    · refine ZH.two 9 11 (by kernel_rfl) rfl rfl rfl rfl (fun _ => rfl) (fun _ => rfl) ⟨rfl, trivial⟩ ?_ ?_
      · refine one_step (fun B1 F1 w1 => ?_)
        refine AOps.run tok 1 _ _ _ _ rfl ?_
        refine AOps.nil ⟨rfl, ?_⟩
        refine ZH.to [95, 101, 1, 3, 10] [(95, .d (EqV V ⟨false, [], []⟩)), (101, .d (dI m.sh)), (1, .bx [dI n, MshsD ms, PltsD ps, SpdsD gs]), (3, .ow 83 (EqsD (ms.map (eqM n) ++ ps.map (eqP n) ++ (gs.take i).map (eqS n)))), (10, .d (dI i))] rfl ⟨rfl, trivial⟩ ?_
        exact ZH.ls _ (by kernel_rfl) (N2_4_0_0 V)
      · refine one_step (fun B1 F1 w1 => ?_)
        refine AOps.run tok 1 _ _ _ _ rfl ?_
        refine AOps.nil ⟨rfl, ?_⟩
        refine ZH.to [95, 100, 1, 3, 10, 11] [(95, .d (EqV V ⟨false, [], []⟩)), (100, .rf m.D.flat), (1, .bx [dI n, MshsD ms, PltsD ps, SpdsD gs]), (3, .ow 83 (EqsD (ms.map (eqM n) ++ ps.map (eqP n) ++ (gs.take i).map (eqS n)))), (10, .d (dI i)), (11, .bx [.sl 3 [], dB false, .sl 1 [], .sl 1 []])] rfl ⟨rfl, trivial⟩ ?_
        exact ZH.ls _ (by kernel_rfl) (N2_3_1_0 V)
    refine ZH.meet 5 #[true, true, false, false, true, true, true, true, true, false, false, true, false] (fun V => []) (fun V => [(93, .d (dI n)), (100, .rf m.D.flat), (1, .bx [dI n, MshsD ms, PltsD ps, SpdsD gs]), (3, .ow 83 (EqsD (ms.map (eqM n) ++ ps.map (eqP n) ++ (gs.take i).map (eqS n)))), (10, .d (dI i)), (11, .bx [.sl 3 [], dB false, .sl 1 [], .sl 1 []])]) (fun V => ?_) (fun N0_3_1_0 => ?_)
    · refine ZH.two 2 9 (by kernel_rfl) rfl rfl rfl rfl (fun _ => rfl) (fun _ => rfl) ⟨rfl, trivial⟩ ?_ ?_
      · refine AZOps.cut 1 rfl (fun B1 F1 w1 => ?_)
        refine AOps.makeQ tok (n - 1) rfl rfl rfl rfl rfl rfl rfl (by omega) (by omega) (by omega) ?_
        refine AOps.nil ⟨rfl, ?_⟩
        refine AZOps.loosen 94 rfl rfl rfl (fun V => ?_)
        refine AZOps.to [94, 100, 1, 3, 10, 11] [(94, .d (.v V)), (100, .rf m.D.flat), (1, .bx [dI n, MshsD ms, PltsD ps, SpdsD gs]), (3, .ow 83 (EqsD (ms.map (eqM n) ++ ps.map (eqP n) ++ (gs.take i).map (eqS n)))), (10, .d (dI i)), (11, .bx [.sl 3 [], dB false, .sl 1 [], .sl 1 []])] rfl ?_
        refine AZOps.nil ?_
        refine ZH.to [94, 100, 1, 3, 10, 11] [(94, .d (.v V)), (100, .rf m.D.flat), (1, .bx [dI n, MshsD ms, PltsD ps, SpdsD gs]), (3, .ow 83 (EqsD (ms.map (eqM n) ++ ps.map (eqP n) ++ (gs.take i).map (eqS n)))), (10, .d (dI i)), (11, .bx [.sl 3 [], dB false, .sl 1 [], .sl 1 []])] rfl ⟨rfl, trivial⟩ ?_
        exact ZH.ls _ (by kernel_rfl) (N1_3_1_0 V)
      · refine one_step (fun B1 F1 w1 => ?_)
        refine AOps.run tok 1 _ _ _ _ rfl ?_
        refine AOps.nil ⟨rfl, ?_⟩
        refine ZH.to [93, 101, 1, 3, 10, 11] [(93, .d (dI n)), (101, .d (dI m.sh)), (1, .bx [dI n, MshsD ms, PltsD ps, SpdsD gs]), (3, .ow 83 (EqsD (ms.map (eqM n) ++ ps.map (eqP n) ++ (gs.take i).map (eqS n)))), (10, .d (dI i)), (11, .bx [.sl 3 [], dB false, .sl 1 [], .sl 1 []])] rfl ⟨rfl, trivial⟩ ?_
        exact ZH.ls _ (by kernel_rfl) (N0_4_1_0 V)
    refine ZH.meet 5 #[true, true, false, false, true, true, true, true, true, true, false, false, false] (fun V => []) (fun V => [(93, .d (dI n)), (101, .d (dI m.sh)), (1, .bx [dI n, MshsD ms, PltsD ps, SpdsD gs]), (3, .ow 83 (EqsD (ms.map (eqM n) ++ ps.map (eqP n) ++ (gs.take i).map (eqS n)))), (10, .d (dI i))]) (fun V => ?_) (fun N0_4_0_0 => ?_)
    · refine ZH.two 2 11 (by kernel_rfl) rfl rfl rfl rfl (fun _ => rfl) (fun _ => rfl) ⟨rfl, trivial⟩ ?_ ?_
      · refine AZOps.cut 1 rfl (fun B1 F1 w1 => ?_)
        refine AOps.makeQ tok (n - 1) rfl rfl rfl rfl rfl rfl rfl (by omega) (by omega) (by omega) ?_
        refine AOps.nil ⟨rfl, ?_⟩
        refine AZOps.loosen 94 rfl rfl rfl (fun V => ?_)
        refine AZOps.to [94, 101, 1, 3, 10] [(94, .d (.v V)), (101, .d (dI m.sh)), (1, .bx [dI n, MshsD ms, PltsD ps, SpdsD gs]), (3, .ow 83 (EqsD (ms.map (eqM n) ++ ps.map (eqP n) ++ (gs.take i).map (eqS n)))), (10, .d (dI i))] rfl ?_
        refine AZOps.nil ?_
        refine ZH.to [94, 101, 1, 3, 10] [(94, .d (.v V)), (101, .d (dI m.sh)), (1, .bx [dI n, MshsD ms, PltsD ps, SpdsD gs]), (3, .ow 83 (EqsD (ms.map (eqM n) ++ ps.map (eqP n) ++ (gs.take i).map (eqS n)))), (10, .d (dI i))] rfl ⟨rfl, trivial⟩ ?_
        exact ZH.ls _ (by kernel_rfl) (N1_4_0_0 V)
      · refine one_step (fun B1 F1 w1 => ?_)
        refine AOps.run tok 1 _ _ _ _ rfl ?_
        refine AOps.nil ⟨rfl, ?_⟩
        refine ZH.to [93, 101, 1, 3, 10, 11] [(93, .d (dI n)), (101, .d (dI m.sh)), (1, .bx [dI n, MshsD ms, PltsD ps, SpdsD gs]), (3, .ow 83 (EqsD (ms.map (eqM n) ++ ps.map (eqP n) ++ (gs.take i).map (eqS n)))), (10, .d (dI i)), (11, .bx [.sl 3 [], dB false, .sl 1 [], .sl 1 []])] rfl ⟨rfl, trivial⟩ ?_
        exact ZH.ls _ (by kernel_rfl) (N0_4_1_0 V)
    refine ZH.meet 5 #[true, true, true, false, true, true, true, true, false, false, false, true, false] (fun V => [(V, AV.ow 41 (QsD (zrR (n - 1))))]) (fun V => [(94, .d (.v V)), (99, .rf m.D.flat), (1, .bx [dI n, MshsD ms, PltsD ps, SpdsD gs]), (3, .ow 83 (EqsD (ms.map (eqM n) ++ ps.map (eqP n) ++ (gs.take i).map (eqS n)))), (10, .d (dI i)), (11, .bx [.sl 3 [], dB false, .sl 1 [], .sl 1 []])]) (fun V => ?_) (fun N1_2_1_0 => ?_)
    · refine ZH.two 3 8 (by kernel_rfl) rfl rfl rfl rfl (fun _ => rfl) (fun _ => rfl) ⟨rfl, trivial⟩ ?_ ?_
      · refine one_step (fun B1 F1 w1 => ?_)
        refine AOps.run tok 1 _ _ _ _ rfl ?_
        refine AOps.nil ⟨rfl, ?_⟩
        refine ZH.to [95, 99, 1, 3, 10, 11] [(95, .d (EqV V ⟨false, [], []⟩)), (99, .rf m.D.flat), (1, .bx [dI n, MshsD ms, PltsD ps, SpdsD gs]), (3, .ow 83 (EqsD (ms.map (eqM n) ++ ps.map (eqP n) ++ (gs.take i).map (eqS n)))), (10, .d (dI i)), (11, .bx [.sl 3 [], dB false, .sl 1 [], .sl 1 []])] rfl ⟨rfl, trivial⟩ ?_
        exact ZH.ls _ (by kernel_rfl) (N2_2_1_0 V)
      · refine one_step (fun B1 F1 w1 => ?_)
        refine AOps.run tok 1 _ _ _ _ rfl ?_
        refine AOps.nil ⟨rfl, ?_⟩
        refine ZH.to [94, 100, 1, 3, 10, 11] [(94, .d (.v V)), (100, .rf m.D.flat), (1, .bx [dI n, MshsD ms, PltsD ps, SpdsD gs]), (3, .ow 83 (EqsD (ms.map (eqM n) ++ ps.map (eqP n) ++ (gs.take i).map (eqS n)))), (10, .d (dI i)), (11, .bx [.sl 3 [], dB false, .sl 1 [], .sl 1 []])] rfl ⟨rfl, trivial⟩ ?_
        exact ZH.ls _ (by kernel_rfl) (N1_3_1_0 V)
    refine ZH.meet 5 #[true, true, true, false, true, true, true, true, true, false, false, false, false] (fun V => [(V, AV.ow 41 (QsD (zrR (n - 1))))]) (fun V => [(94, .d (.v V)), (100, .rf m.D.flat), (1, .bx [dI n, MshsD ms, PltsD ps, SpdsD gs]), (3, .ow 83 (EqsD (ms.map (eqM n) ++ ps.map (eqP n) ++ (gs.take i).map (eqS n)))), (10, .d (dI i))]) (fun V => ?_) (fun N1_3_0_0 => ?_)
    · refine ZH.three 3 9 11 (by kernel_rfl) rfl rfl rfl rfl rfl rfl (fun _ => rfl) (fun _ => rfl) (fun _ => rfl) ⟨rfl, trivial⟩ ?_ ?_ ?_
      · refine one_step (fun B1 F1 w1 => ?_)
        refine AOps.run tok 1 _ _ _ _ rfl ?_
        refine AOps.nil ⟨rfl, ?_⟩
        refine ZH.to [95, 100, 1, 3, 10] [(95, .d (EqV V ⟨false, [], []⟩)), (100, .rf m.D.flat), (1, .bx [dI n, MshsD ms, PltsD ps, SpdsD gs]), (3, .ow 83 (EqsD (ms.map (eqM n) ++ ps.map (eqP n) ++ (gs.take i).map (eqS n)))), (10, .d (dI i))] rfl ⟨rfl, trivial⟩ ?_
        exact ZH.ls _ (by kernel_rfl) (N2_3_0_0 V)
      · refine one_step (fun B1 F1 w1 => ?_)
        refine AOps.run tok 1 _ _ _ _ rfl ?_
        refine AOps.nil ⟨rfl, ?_⟩
        refine ZH.to [94, 101, 1, 3, 10] [(94, .d (.v V)), (101, .d (dI m.sh)), (1, .bx [dI n, MshsD ms, PltsD ps, SpdsD gs]), (3, .ow 83 (EqsD (ms.map (eqM n) ++ ps.map (eqP n) ++ (gs.take i).map (eqS n)))), (10, .d (dI i))] rfl ⟨rfl, trivial⟩ ?_
        exact ZH.ls _ (by kernel_rfl) (N1_4_0_0 V)
      · refine one_step (fun B1 F1 w1 => ?_)
        refine AOps.run tok 1 _ _ _ _ rfl ?_
        refine AOps.nil ⟨rfl, ?_⟩
        refine ZH.to [94, 100, 1, 3, 10, 11] [(94, .d (.v V)), (100, .rf m.D.flat), (1, .bx [dI n, MshsD ms, PltsD ps, SpdsD gs]), (3, .ow 83 (EqsD (ms.map (eqM n) ++ ps.map (eqP n) ++ (gs.take i).map (eqS n)))), (10, .d (dI i)), (11, .bx [.sl 3 [], dB false, .sl 1 [], .sl 1 []])] rfl ⟨rfl, trivial⟩ ?_
        exact ZH.ls _ (by kernel_rfl) (N1_3_1_0 V)
    refine ZH.meet 5 #[true, true, true, true, true, true, true, false, false, false, false, true, false] (fun V => [(V, AV.ow 41 (QsD (zrR (n - 1))))]) (fun V => [(95, .d (EqV V ⟨false, [], []⟩)), (97, .d (SpdsD gs)), (98, .d (dI i)), (1, .bx [dI n, MshsD ms, PltsD ps, SpdsD gs]), (3, .ow 83 (EqsD (ms.map (eqM n) ++ ps.map (eqP n) ++ (gs.take i).map (eqS n)))), (10, .d (dI i)), (11, .bx [.sl 3 [], dB false, .sl 1 [], .sl 1 []])]) (fun V => ?_) (fun N2_1_1_0 => ?_)
    · refine ZH.all 7 (by kernel_rfl) rfl rfl (fun _ => rfl) ⟨rfl, trivial⟩ ?_
      refine one_step (fun B1 F1 w1 => ?_)
      refine AOps.idx tok m.D rfl rfl rfl rfl (Int.natCast_nonneg i) hid ?_
      refine AOps.nil ⟨rfl, ?_⟩
      refine ZH.to [95, 99, 1, 3, 10, 11] [(95, .d (EqV V ⟨false, [], []⟩)), (99, .rf m.D.flat), (1, .bx [dI n, MshsD ms, PltsD ps, SpdsD gs]), (3, .ow 83 (EqsD (ms.map (eqM n) ++ ps.map (eqP n) ++ (gs.take i).map (eqS n)))), (10, .d (dI i)), (11, .bx [.sl 3 [], dB false, .sl 1 [], .sl 1 []])] rfl ⟨rfl, trivial⟩ ?_
      exact ZH.ls _ (by kernel_rfl) (N2_2_1_0 V)
    refine ZH.meet 5 #[true, true, true, true, true, true, true, true, false, false, false, false, false] (fun V => [(V, AV.ow 41 (QsD (zrR (n - 1))))]) (fun V => [(95, .d (EqV V ⟨false, [], []⟩)), (99, .rf m.D.flat), (1, .bx [dI n, MshsD ms, PltsD ps, SpdsD gs]), (3, .ow 83 (EqsD (ms.map (eqM n) ++ ps.map (eqP n) ++ (gs.take i).map (eqS n)))), (10, .d (dI i))]) (fun V => ?_) (fun N2_2_0_0 => ?_)
    · refine ZH.two 8 11 (by kernel_rfl) rfl rfl rfl rfl (fun _ => rfl) (fun _ => rfl) ⟨rfl, trivial⟩ ?_ ?_
      · refine one_step (fun B1 F1 w1 => ?_)
        refine AOps.run tok 1 _ _ _ _ rfl ?_
        refine AOps.nil ⟨rfl, ?_⟩
        refine ZH.to [95, 100, 1, 3, 10] [(95, .d (EqV V ⟨false, [], []⟩)), (100, .rf m.D.flat), (1, .bx [dI n, MshsD ms, PltsD ps, SpdsD gs]), (3, .ow 83 (EqsD (ms.map (eqM n) ++ ps.map (eqP n) ++ (gs.take i).map (eqS n)))), (10, .d (dI i))] rfl ⟨rfl, trivial⟩ ?_
        exact ZH.ls _ (by kernel_rfl) (N2_3_0_0 V)
      · refine one_step (fun B1 F1 w1 => ?_)
        refine AOps.run tok 1 _ _ _ _ rfl ?_
        refine AOps.nil ⟨rfl, ?_⟩
        refine ZH.to [95, 99, 1, 3, 10, 11] [(95, .d (EqV V ⟨false, [], []⟩)), (99, .rf m.D.flat), (1, .bx [dI n, MshsD ms, PltsD ps, SpdsD gs]), (3, .ow 83 (EqsD (ms.map (eqM n) ++ ps.map (eqP n) ++ (gs.take i).map (eqS n)))), (10, .d (dI i)), (11, .bx [.sl 3 [], dB false, .sl 1 [], .sl 1 []])] rfl ⟨rfl, trivial⟩ ?_
        exact ZH.ls _ (by kernel_rfl) (N2_2_1_0 V)
    refine ZH.meet 6 #[true, true, false, false, true, true, true, true, false, false, false, true, false] (fun V => []) (fun V => [(93, .d (dI n)), (99, .rf m.D.flat), (1, .bx [dI n, MshsD ms, PltsD ps, SpdsD gs]), (3, .ow 83 (EqsD (ms.map (eqM n) ++ ps.map (eqP n) ++ (gs.take i).map (eqS n)))), (10, .d (dI i)), (11, .bx [.sl 3 [], dB false, .sl 1 [], .sl 1 []])]) (fun V => ?_) (fun N0_2_1_0 => ?_)
    · refine ZH.two 2 8 (by kernel_rfl) rfl rfl rfl rfl (fun _ => rfl) (fun _ => rfl) ⟨rfl, trivial⟩ ?_ ?_
      · refine AZOps.cut 1 rfl (fun B1 F1 w1 => ?_)
        refine AOps.makeQ tok (n - 1) rfl rfl rfl rfl rfl rfl rfl (by omega) (by omega) (by omega) ?_
        refine AOps.nil ⟨rfl, ?_⟩
        refine AZOps.loosen 94 rfl rfl rfl (fun V => ?_)
        refine AZOps.to [94, 99, 1, 3, 10, 11] [(94, .d (.v V)), (99, .rf m.D.flat), (1, .bx [dI n, MshsD ms, PltsD ps, SpdsD gs]), (3, .ow 83 (EqsD (ms.map (eqM n) ++ ps.map (eqP n) ++ (gs.take i).map (eqS n)))), (10, .d (dI i)), (11, .bx [.sl 3 [], dB false, .sl 1 [], .sl 1 []])] rfl ?_
        refine AZOps.nil ?_
        refine ZH.to [94, 99, 1, 3, 10, 11] [(94, .d (.v V)), (99, .rf m.D.flat), (1, .bx [dI n, MshsD ms, PltsD ps, SpdsD gs]), (3, .ow 83 (EqsD (ms.map (eqM n) ++ ps.map (eqP n) ++ (gs.take i).map (eqS n)))), (10, .d (dI i)), (11, .bx [.sl 3 [], dB false, .sl 1 [], .sl 1 []])] rfl ⟨rfl, trivial⟩ ?_
        exact ZH.ls _ (by kernel_rfl) (N1_2_1_0 V)
      · refine one_step (fun B1 F1 w1 => ?_)
        refine AOps.run tok 1 _ _ _ _ rfl ?_
        refine AOps.nil ⟨rfl, ?_⟩
        refine ZH.to [93, 100, 1, 3, 10, 11] [(93, .d (dI n)), (100, .rf m.D.flat), (1, .bx [dI n, MshsD ms, PltsD ps, SpdsD gs]), (3, .ow 83 (EqsD (ms.map (eqM n) ++ ps.map (eqP n) ++ (gs.take i).map (eqS n)))), (10, .d (dI i)), (11, .bx [.sl 3 [], dB false, .sl 1 [], .sl 1 []])] rfl ⟨rfl, trivial⟩ ?_
        exact ZH.ls _ (by kernel_rfl) (N0_3_1_0 V)
    refine ZH.meet 6 #[true, true, false, false, true, true, true, true, true, false, false, false, false] (fun V => []) (fun V => [(93, .d (dI n)), (100, .rf m.D.flat), (1, .bx [dI n, MshsD ms, PltsD ps, SpdsD gs]), (3, .ow 83 (EqsD (ms.map (eqM n) ++ ps.map (eqP n) ++ (gs.take i).map (eqS n)))), (10, .d (dI i))]) (fun V => ?_) (fun N0_3_0_0 => ?_)
    · refine ZH.three 2 9 11 (by kernel_rfl) rfl rfl rfl rfl rfl rfl (fun _ => rfl) (fun _ => rfl) (fun _ => rfl) ⟨rfl, trivial⟩ ?_ ?_ ?_
      · refine AZOps.cut 1 rfl (fun B1 F1 w1 => ?_)
        refine AOps.makeQ tok (n - 1) rfl rfl rfl rfl rfl rfl rfl (by omega) (by omega) (by omega) ?_
        refine AOps.nil ⟨rfl, ?_⟩
        refine AZOps.loosen 94 rfl rfl rfl (fun V => ?_)
        refine AZOps.to [94, 100, 1, 3, 10] [(94, .d (.v V)), (100, .rf m.D.flat), (1, .bx [dI n, MshsD ms, PltsD ps, SpdsD gs]), (3, .ow 83 (EqsD (ms.map (eqM n) ++ ps.map (eqP n) ++ (gs.take i).map (eqS n)))), (10, .d (dI i))] rfl ?_
        refine AZOps.nil ?_
        refine ZH.to [94, 100, 1, 3, 10] [(94, .d (.v V)), (100, .rf m.D.flat), (1, .bx [dI n, MshsD ms, PltsD ps, SpdsD gs]), (3, .ow 83 (EqsD (ms.map (eqM n) ++ ps.map (eqP n) ++ (gs.take i).map (eqS n)))), (10, .d (dI i))] rfl ⟨rfl, trivial⟩ ?_
        exact ZH.ls _ (by kernel_rfl) (N1_3_0_0 V)
      · refine one_step (fun B1 F1 w1 => ?_)
        refine AOps.run tok 1 _ _ _ _ rfl ?_
        refine AOps.nil ⟨rfl, ?_⟩
        refine ZH.to [93, 101, 1, 3, 10] [(93, .d (dI n)), (101, .d (dI m.sh)), (1, .bx [dI n, MshsD ms, PltsD ps, SpdsD gs]), (3, .ow 83 (EqsD (ms.map (eqM n) ++ ps.map (eqP n) ++ (gs.take i).map (eqS n)))), (10, .d (dI i))] rfl ⟨rfl, trivial⟩ ?_
        exact ZH.ls _ (by kernel_rfl) (N0_4_0_0 V)
      · refine one_step (fun B1 F1 w1 => ?_)
        refine AOps.run tok 1 _ _ _ _ rfl ?_
        refine AOps.nil ⟨rfl, ?_⟩
        refine ZH.to [93, 100, 1, 3, 10, 11] [(93, .d (dI n)), (100, .rf m.D.flat), (1, .bx [dI n, MshsD ms, PltsD ps, SpdsD gs]), (3, .ow 83 (EqsD (ms.map (eqM n) ++ ps.map (eqP n) ++ (gs.take i).map (eqS n)))), (10, .d (dI i)), (11, .bx [.sl 3 [], dB false, .sl 1 [], .sl 1 []])] rfl ⟨rfl, trivial⟩ ?_
        exact ZH.ls _ (by kernel_rfl) (N0_3_1_0 V)
    refine ZH.meet 6 #[true, true, true, false, true, true, true, false, false, false, false, true, false] (fun V => [(V, AV.ow 41 (QsD (zrR (n - 1))))]) (fun V => [(94, .d (.v V)), (97, .d (SpdsD gs)), (98, .d (dI i)), (1, .bx [dI n, MshsD ms, PltsD ps, SpdsD gs]), (3, .ow 83 (EqsD (ms.map (eqM n) ++ ps.map (eqP n) ++ (gs.take i).map (eqS n)))), (10, .d (dI i)), (11, .bx [.sl 3 [], dB false, .sl 1 [], .sl 1 []])]) (fun V => ?_) (fun N1_1_1_0 => ?_)
    · refine ZH.two 3 7 (by kernel_rfl) rfl rfl rfl rfl (fun _ => rfl) (fun _ => rfl) ⟨rfl, trivial⟩ ?_ ?_
      · refine one_step (fun B1 F1 w1 => ?_)
        refine AOps.run tok 1 _ _ _ _ rfl ?_
        refine AOps.nil ⟨rfl, ?_⟩
        refine ZH.to [95, 97, 98, 1, 3, 10, 11] [(95, .d (EqV V ⟨false, [], []⟩)), (97, .d (SpdsD gs)), (98, .d (dI i)), (1, .bx [dI n, MshsD ms, PltsD ps, SpdsD gs]), (3, .ow 83 (EqsD (ms.map (eqM n) ++ ps.map (eqP n) ++ (gs.take i).map (eqS n)))), (10, .d (dI i)), (11, .bx [.sl 3 [], dB false, .sl 1 [], .sl 1 []])] rfl ⟨rfl, trivial⟩ ?_
        exact ZH.ls _ (by kernel_rfl) (N2_1_1_0 V)
      · refine one_step (fun B1 F1 w1 => ?_)
        refine AOps.idx tok m.D rfl rfl rfl rfl (Int.natCast_nonneg i) hid ?_
        refine AOps.nil ⟨rfl, ?_⟩
        refine ZH.to [94, 99, 1, 3, 10, 11] [(94, .d (.v V)), (99, .rf m.D.flat), (1, .bx [dI n, MshsD ms, PltsD ps, SpdsD gs]), (3, .ow 83 (EqsD (ms.map (eqM n) ++ ps.map (eqP n) ++ (gs.take i).map (eqS n)))), (10, .d (dI i)), (11, .bx [.sl 3 [], dB false, .sl 1 [], .sl 1 []])] rfl ⟨rfl, trivial⟩ ?_
        exact ZH.ls _ (by kernel_rfl) (N1_2_1_0 V)
    refine ZH.meet 6 #[true, true, true, false, true, true, true, true, false, false, false, false, false] (fun V => [(V, AV.ow 41 (QsD (zrR (n - 1))))]) (fun V => [(94, .d (.v V)), (99, .rf m.D.flat), (1, .bx [dI n, MshsD ms, PltsD ps, SpdsD gs]), (3, .ow 83 (EqsD (ms.map (eqM n) ++ ps.map (eqP n) ++ (gs.take i).map (eqS n)))), (10, .d (dI i))]) (fun V => ?_) (fun N1_2_0_0 => ?_)
    · refine ZH.three 3 8 11 (by kernel_rfl) rfl rfl rfl rfl rfl rfl (fun _ => rfl) (fun _ => rfl) (fun _ => rfl) ⟨rfl, trivial⟩ ?_ ?_ ?_
      · refine one_step (fun B1 F1 w1 => ?_)
        refine AOps.run tok 1 _ _ _ _ rfl ?_
        refine AOps.nil ⟨rfl, ?_⟩
        refine ZH.to [95, 99, 1, 3, 10] [(95, .d (EqV V ⟨false, [], []⟩)), (99, .rf m.D.flat), (1, .bx [dI n, MshsD ms, PltsD ps, SpdsD gs]), (3, .ow 83 (EqsD (ms.map (eqM n) ++ ps.map (eqP n) ++ (gs.take i).map (eqS n)))), (10, .d (dI i))] rfl ⟨rfl, trivial⟩ ?_
        exact ZH.ls _ (by kernel_rfl) (N2_2_0_0 V)
      · refine one_step (fun B1 F1 w1 => ?_)
        refine AOps.run tok 1 _ _ _ _ rfl ?_
        refine AOps.nil ⟨rfl, ?_⟩
        refine ZH.to [94, 100, 1, 3, 10] [(94, .d (.v V)), (100, .rf m.D.flat), (1, .bx [dI n, MshsD ms, PltsD ps, SpdsD gs]), (3, .ow 83 (EqsD (ms.map (eqM n) ++ ps.map (eqP n) ++ (gs.take i).map (eqS n)))), (10, .d (dI i))] rfl ⟨rfl, trivial⟩ ?_
        exact ZH.ls _ (by kernel_rfl) (N1_3_0_0 V)
      · refine one_step (fun B1 F1 w1 => ?_)
        refine AOps.run tok 1 _ _ _ _ rfl ?_
        refine AOps.nil ⟨rfl, ?_⟩
        refine ZH.to [94, 99, 1, 3, 10, 11] [(94, .d (.v V)), (99, .rf m.D.flat), (1, .bx [dI n, MshsD ms, PltsD ps, SpdsD gs]), (3, .ow 83 (EqsD (ms.map (eqM n) ++ ps.map (eqP n) ++ (gs.take i).map (eqS n)))), (10, .d (dI i)), (11, .bx [.sl 3 [], dB false, .sl 1 [], .sl 1 []])] rfl ⟨rfl, trivial⟩ ?_
        exact ZH.ls _ (by kernel_rfl) (N1_2_1_0 V)
    refine ZH.meet 6 #[true, true, true, true, true, false, true, false, false, false, false, true, false] (fun V => [(V, AV.ow 41 (QsD (zrR (n - 1))))]) (fun V => [(95, .d (EqV V ⟨false, [], []⟩)), (96, .pt 1 3), (98, .d (dI i)), (1, .bx [dI n, MshsD ms, PltsD ps, SpdsD gs]), (3, .ow 83 (EqsD (ms.map (eqM n) ++ ps.map (eqP n) ++ (gs.take i).map (eqS n)))), (10, .d (dI i)), (11, .bx [.sl 3 [], dB false, .sl 1 [], .sl 1 []])]) (fun V => ?_) (fun N2_0_1_0 => ?_)
    · refine ZH.all 5 (by kernel_rfl) rfl rfl (fun _ => rfl) ⟨rfl, trivial⟩ ?_
      refine one_step (fun B1 F1 w1 => ?_)
      refine AOps.run tok 1 _ _ _ _ rfl ?_
      refine AOps.nil ⟨rfl, ?_⟩
      refine ZH.to [95, 97, 98, 1, 3, 10, 11] [(95, .d (EqV V ⟨false, [], []⟩)), (97, .d (SpdsD gs)), (98, .d (dI i)), (1, .bx [dI n, MshsD ms, PltsD ps, SpdsD gs]), (3, .ow 83 (EqsD (ms.map (eqM n) ++ ps.map (eqP n) ++ (gs.take i).map (eqS n)))), (10, .d (dI i)), (11, .bx [.sl 3 [], dB false, .sl 1 [], .sl 1 []])] rfl ⟨rfl, trivial⟩ ?_
      exact ZH.ls _ (by kernel_rfl) (N2_1_1_0 V)
    refine ZH.meet 6 #[true, true, true, true, true, true, true, false, false, false, false, false, false] (fun V => [(V, AV.ow 41 (QsD (zrR (n - 1))))]) (fun V => [(95, .d (EqV V ⟨false, [], []⟩)), (97, .d (SpdsD gs)), (98, .d (dI i)), (1, .bx [dI n, MshsD ms, PltsD ps, SpdsD gs]), (3, .ow 83 (EqsD (ms.map (eqM n) ++ ps.map (eqP n) ++ (gs.take i).map (eqS n)))), (10, .d (dI i))]) (fun V => ?_) (fun N2_1_0_0 => ?_)
    · refine ZH.two 7 11 (by kernel_rfl) rfl rfl rfl rfl (fun _ => rfl) (fun _ => rfl) ⟨rfl, trivial⟩ ?_ ?_
      · refine one_step (fun B1 F1 w1 => ?_)
        refine AOps.idx tok m.D rfl rfl rfl rfl (Int.natCast_nonneg i) hid ?_
        refine AOps.nil ⟨rfl, ?_⟩
        refine ZH.to [95, 99, 1, 3, 10] [(95, .d (EqV V ⟨false, [], []⟩)), (99, .rf m.D.flat), (1, .bx [dI n, MshsD ms, PltsD ps, SpdsD gs]), (3, .ow 83 (EqsD (ms.map (eqM n) ++ ps.map (eqP n) ++ (gs.take i).map (eqS n)))), (10, .d (dI i))] rfl ⟨rfl, trivial⟩ ?_
        exact ZH.ls _ (by kernel_rfl) (N2_2_0_0 V)
      · refine one_step (fun B1 F1 w1 => ?_)
        refine AOps.run tok 1 _ _ _ _ rfl ?_
        refine AOps.nil ⟨rfl, ?_⟩
        refine ZH.to [95, 97, 98, 1, 3, 10, 11] [(95, .d (EqV V ⟨false, [], []⟩)), (97, .d (SpdsD gs)), (98, .d (dI i)), (1, .bx [dI n, MshsD ms, PltsD ps, SpdsD gs]), (3, .ow 83 (EqsD (ms.map (eqM n) ++ ps.map (eqP n) ++ (gs.take i).map (eqS n)))), (10, .d (dI i)), (11, .bx [.sl 3 [], dB false, .sl 1 [], .sl 1 []])] rfl ⟨rfl, trivial⟩ ?_
        exact ZH.ls _ (by kernel_rfl) (N2_1_1_0 V)
    refine ZH.meet 7 #[true, true, false, false, true, true, true, false, false, false, false, true, false] (fun V => []) (fun V => [(93, .d (dI n)), (97, .d (SpdsD gs)), (98, .d (dI i)), (1, .bx [dI n, MshsD ms, PltsD ps, SpdsD gs]), (3, .ow 83 (EqsD (ms.map (eqM n) ++ ps.map (eqP n) ++ (gs.take i).map (eqS n)))), (10, .d (dI i)), (11, .bx [.sl 3 [], dB false, .sl 1 [], .sl 1 []])]) (fun V => ?_) (fun N0_1_1_0 => ?_)
    · refine ZH.two 2 7 (by kernel_rfl) rfl rfl rfl rfl (fun _ => rfl) (fun _ => rfl) ⟨rfl, trivial⟩ ?_ ?_
      · refine AZOps.cut 1 rfl (fun B1 F1 w1 => ?_)
        refine AOps.makeQ tok (n - 1) rfl rfl rfl rfl rfl rfl rfl (by omega) (by omega) (by omega) ?_
        refine AOps.nil ⟨rfl, ?_⟩
        refine AZOps.loosen 94 rfl rfl rfl (fun V => ?_)
        refine AZOps.to [94, 97, 98, 1, 3, 10, 11] [(94, .d (.v V)), (97, .d (SpdsD gs)), (98, .d (dI i)), (1, .bx [dI n, MshsD ms, PltsD ps, SpdsD gs]), (3, .ow 83 (EqsD (ms.map (eqM n) ++ ps.map (eqP n) ++ (gs.take i).map (eqS n)))), (10, .d (dI i)), (11, .bx [.sl 3 [], dB false, .sl 1 [], .sl 1 []])] rfl ?_
        refine AZOps.nil ?_
        refine ZH.to [94, 97, 98, 1, 3, 10, 11] [(94, .d (.v V)), (97, .d (SpdsD gs)), (98, .d (dI i)), (1, .bx [dI n, MshsD ms, PltsD ps, SpdsD gs]), (3, .ow 83 (EqsD (ms.map (eqM n) ++ ps.map (eqP n) ++ (gs.take i).map (eqS n)))), (10, .d (dI i)), (11, .bx [.sl 3 [], dB false, .sl 1 [], .sl 1 []])] rfl ⟨rfl, trivial⟩ ?_
        exact ZH.ls _ (by kernel_rfl) (N1_1_1_0 V)
      · refine one_step (fun B1 F1 w1 => ?_)
        refine AOps.idx tok m.D rfl rfl rfl rfl (Int.natCast_nonneg i) hid ?_
        refine AOps.nil ⟨rfl, ?_⟩
        refine ZH.to [93, 99, 1, 3, 10, 11] [(93, .d (dI n)), (99, .rf m.D.flat), (1, .bx [dI n, MshsD ms, PltsD ps, SpdsD gs]), (3, .ow 83 (EqsD (ms.map (eqM n) ++ ps.map (eqP n) ++ (gs.take i).map (eqS n)))), (10, .d (dI i)), (11, .bx [.sl 3 [], dB false, .sl 1 [], .sl 1 []])] rfl ⟨rfl, trivial⟩ ?_
        exact ZH.ls _ (by kernel_rfl) (N0_2_1_0 V)
    refine ZH.meet 7 #[true, true, false, false, true, true, true, true, false, false, false, false, false] (fun V => []) (fun V => [(93, .d (dI n)), (99, .rf m.D.flat), (1, .bx [dI n, MshsD ms, PltsD ps, SpdsD gs]), (3, .ow 83 (EqsD (ms.map (eqM n) ++ ps.map (eqP n) ++ (gs.take i).map (eqS n)))), (10, .d (dI i))]) (fun V => ?_) (fun N0_2_0_0 => ?_)
    · refine ZH.three 2 8 11 (by kernel_rfl) rfl rfl rfl rfl rfl rfl (fun _ => rfl) (fun _ => rfl) (fun _ => rfl) ⟨rfl, trivial⟩ ?_ ?_ ?_
      · refine AZOps.cut 1 rfl (fun B1 F1 w1 => ?_)
        refine AOps.makeQ tok (n - 1) rfl rfl rfl rfl rfl rfl rfl (by omega) (by omega) (by omega) ?_
        refine AOps.nil ⟨rfl, ?_⟩
        refine AZOps.loosen 94 rfl rfl rfl (fun V => ?_)
        refine AZOps.to [94, 99, 1, 3, 10] [(94, .d (.v V)), (99, .rf m.D.flat), (1, .bx [dI n, MshsD ms, PltsD ps, SpdsD gs]), (3, .ow 83 (EqsD (ms.map (eqM n) ++ ps.map (eqP n) ++ (gs.take i).map (eqS n)))), (10, .d (dI i))] rfl ?_
        refine AZOps.nil ?_
        refine ZH.to [94, 99, 1, 3, 10] [(94, .d (.v V)), (99, .rf m.D.flat), (1, .bx [dI n, MshsD ms, PltsD ps, SpdsD gs]), (3, .ow 83 (EqsD (ms.map (eqM n) ++ ps.map (eqP n) ++ (gs.take i).map (eqS n)))), (10, .d (dI i))] rfl ⟨rfl, trivial⟩ ?_
        exact ZH.ls _ (by kernel_rfl) (N1_2_0_0 V)
      · refine one_step (fun B1 F1 w1 => ?_)
        refine AOps.run tok 1 _ _ _ _ rfl ?_
        refine AOps.nil ⟨rfl, ?_⟩
        refine ZH.to [93, 100, 1, 3, 10] [(93, .d (dI n)), (100, .rf m.D.flat), (1, .bx [dI n, MshsD ms, PltsD ps, SpdsD gs]), (3, .ow 83 (EqsD (ms.map (eqM n) ++ ps.map (eqP n) ++ (gs.take i).map (eqS n)))), (10, .d (dI i))] rfl ⟨rfl, trivial⟩ ?_
        exact ZH.ls _ (by kernel_rfl) (N0_3_0_0 V)
      · refine one_step (fun B1 F1 w1 => ?_)
        refine AOps.run tok 1 _ _ _ _ rfl ?_
        refine AOps.nil ⟨rfl, ?_⟩
        refine ZH.to [93, 99, 1, 3, 10, 11] [(93, .d (dI n)), (99, .rf m.D.flat), (1, .bx [dI n, MshsD ms, PltsD ps, SpdsD gs]), (3, .ow 83 (EqsD (ms.map (eqM n) ++ ps.map (eqP n) ++ (gs.take i).map (eqS n)))), (10, .d (dI i)), (11, .bx [.sl 3 [], dB false, .sl 1 [], .sl 1 []])] rfl ⟨rfl, trivial⟩ ?_
        exact ZH.ls _ (by kernel_rfl) (N0_2_1_0 V)
    refine ZH.meet 7 #[true, true, true, false, true, false, true, false, false, false, false, true, false] (fun V => [(V, AV.ow 41 (QsD (zrR (n - 1))))]) (fun V => [(94, .d (.v V)), (96, .pt 1 3), (98, .d (dI i)), (1, .bx [dI n, MshsD ms, PltsD ps, SpdsD gs]), (3, .ow 83 (EqsD (ms.map (eqM n) ++ ps.map (eqP n) ++ (gs.take i).map (eqS n)))), (10, .d (dI i)), (11, .bx [.sl 3 [], dB false, .sl 1 [], .sl 1 []])]) (fun V => ?_) (fun N1_0_1_0 => ?_)
    · refine ZH.two 3 5 (by kernel_rfl) rfl rfl rfl rfl (fun _ => rfl) (fun _ => rfl) ⟨rfl, trivial⟩ ?_ ?_
      · refine one_step (fun B1 F1 w1 => ?_)
        refine AOps.run tok 1 _ _ _ _ rfl ?_
        refine AOps.nil ⟨rfl, ?_⟩
        refine ZH.to [95, 96, 98, 1, 3, 10, 11] [(95, .d (EqV V ⟨false, [], []⟩)), (96, .pt 1 3), (98, .d (dI i)), (1, .bx [dI n, MshsD ms, PltsD ps, SpdsD gs]), (3, .ow 83 (EqsD (ms.map (eqM n) ++ ps.map (eqP n) ++ (gs.take i).map (eqS n)))), (10, .d (dI i)), (11, .bx [.sl 3 [], dB false, .sl 1 [], .sl 1 []])] rfl ⟨rfl, trivial⟩ ?_
        exact ZH.ls _ (by kernel_rfl) (N2_0_1_0 V)
      · refine one_step (fun B1 F1 w1 => ?_)
        refine AOps.run tok 1 _ _ _ _ rfl ?_
        refine AOps.nil ⟨rfl, ?_⟩
        refine ZH.to [94, 97, 98, 1, 3, 10, 11] [(94, .d (.v V)), (97, .d (SpdsD gs)), (98, .d (dI i)), (1, .bx [dI n, MshsD ms, PltsD ps, SpdsD gs]), (3, .ow 83 (EqsD (ms.map (eqM n) ++ ps.map (eqP n) ++ (gs.take i).map (eqS n)))), (10, .d (dI i)), (11, .bx [.sl 3 [], dB false, .sl 1 [], .sl 1 []])] rfl ⟨rfl, trivial⟩ ?_
        exact ZH.ls _ (by kernel_rfl) (N1_1_1_0 V)
    refine ZH.meet 7 #[true, true, true, false, true, true, true, false, false, false, false, false, false] (fun V => [(V, AV.ow 41 (QsD (zrR (n - 1))))]) (fun V => [(94, .d (.v V)), (97, .d (SpdsD gs)), (98, .d (dI i)), (1, .bx [dI n, MshsD ms, PltsD ps, SpdsD gs]), (3, .ow 83 (EqsD (ms.map (eqM n) ++ ps.map (eqP n) ++ (gs.take i).map (eqS n)))), (10, .d (dI i))]) (fun V => ?_) (fun N1_1_0_0 => ?_)
    · refine ZH.three 3 7 11 (by kernel_rfl) rfl rfl rfl rfl rfl rfl (fun _ => rfl) (fun _ => rfl) (fun _ => rfl) ⟨rfl, trivial⟩ ?_ ?_ ?_
      · refine one_step (fun B1 F1 w1 => ?_)
        refine AOps.run tok 1 _ _ _ _ rfl ?_
        refine AOps.nil ⟨rfl, ?_⟩
        refine ZH.to [95, 97, 98, 1, 3, 10] [(95, .d (EqV V ⟨false, [], []⟩)), (97, .d (SpdsD gs)), (98, .d (dI i)), (1, .bx [dI n, MshsD ms, PltsD ps, SpdsD gs]), (3, .ow 83 (EqsD (ms.map (eqM n) ++ ps.map (eqP n) ++ (gs.take i).map (eqS n)))), (10, .d (dI i))] rfl ⟨rfl, trivial⟩ ?_
        exact ZH.ls _ (by kernel_rfl) (N2_1_0_0 V)
      · refine one_step (fun B1 F1 w1 => ?_)
        refine AOps.idx tok m.D rfl rfl rfl rfl (Int.natCast_nonneg i) hid ?_
        refine AOps.nil ⟨rfl, ?_⟩
        refine ZH.to [94, 99, 1, 3, 10] [(94, .d (.v V)), (99, .rf m.D.flat), (1, .bx [dI n, MshsD ms, PltsD ps, SpdsD gs]), (3, .ow 83 (EqsD (ms.map (eqM n) ++ ps.map (eqP n) ++ (gs.take i).map (eqS n)))), (10, .d (dI i))] rfl ⟨rfl, trivial⟩ ?_
        exact ZH.ls _ (by kernel_rfl) (N1_2_0_0 V)
      · refine one_step (fun B1 F1 w1 => ?_)
        refine AOps.run tok 1 _ _ _ _ rfl ?_
        refine AOps.nil ⟨rfl, ?_⟩
        refine ZH.to [94, 97, 98, 1, 3, 10, 11] [(94, .d (.v V)), (97, .d (SpdsD gs)), (98, .d (dI i)), (1, .bx [dI n, MshsD ms, PltsD ps, SpdsD gs]), (3, .ow 83 (EqsD (ms.map (eqM n) ++ ps.map (eqP n) ++ (gs.take i).map (eqS n)))), (10, .d (dI i)), (11, .bx [.sl 3 [], dB false, .sl 1 [], .sl 1 []])] rfl ⟨rfl, trivial⟩ ?_
        exact ZH.ls _ (by kernel_rfl) (N1_1_1_0 V)
    refine ZH.meet 7 #[true, true, true, true, true, false, true, false, false, false, false, false, false] (fun V => [(V, AV.ow 41 (QsD (zrR (n - 1))))]) (fun V => [(95, .d (EqV V ⟨false, [], []⟩)), (96, .pt 1 3), (98, .d (dI i)), (1, .bx [dI n, MshsD ms, PltsD ps, SpdsD gs]), (3, .ow 83 (EqsD (ms.map (eqM n) ++ ps.map (eqP n) ++ (gs.take i).map (eqS n)))), (10, .d (dI i))]) (fun V => ?_) (fun N2_0_0_0 => ?_)
    · refine ZH.two 5 11 (by kernel_rfl) rfl rfl rfl rfl (fun _ => rfl) (fun _ => rfl) ⟨rfl, trivial⟩ ?_ ?_
      · refine one_step (fun B1 F1 w1 => ?_)
        refine AOps.run tok 1 _ _ _ _ rfl ?_
        refine AOps.nil ⟨rfl, ?_⟩
        refine ZH.to [95, 97, 98, 1, 3, 10] [(95, .d (EqV V ⟨false, [], []⟩)), (97, .d (SpdsD gs)), (98, .d (dI i)), (1, .bx [dI n, MshsD ms, PltsD ps, SpdsD gs]), (3, .ow 83 (EqsD (ms.map (eqM n) ++ ps.map (eqP n) ++ (gs.take i).map (eqS n)))), (10, .d (dI i))] rfl ⟨rfl, trivial⟩ ?_
        exact ZH.ls _ (by kernel_rfl) (N2_1_0_0 V)
      · refine one_step (fun B1 F1 w1 => ?_)
        refine AOps.run tok 1 _ _ _ _ rfl ?_
        refine AOps.nil ⟨rfl, ?_⟩
        refine ZH.to [95, 96, 98, 1, 3, 10, 11] [(95, .d (EqV V ⟨false, [], []⟩)), (96, .pt 1 3), (98, .d (dI i)), (1, .bx [dI n, MshsD ms, PltsD ps, SpdsD gs]), (3, .ow 83 (EqsD (ms.map (eqM n) ++ ps.map (eqP n) ++ (gs.take i).map (eqS n)))), (10, .d (dI i)), (11, .bx [.sl 3 [], dB false, .sl 1 [], .sl 1 []])] rfl ⟨rfl, trivial⟩ ?_
        exact ZH.ls _ (by kernel_rfl) (N2_0_1_0 V)
    refine ZH.meet 8 #[true, true, false, false, true, false, true, false, false, false, false, true, false] (fun V => []) (fun V => [(93, .d (dI n)), (96, .pt 1 3), (98, .d (dI i)), (1, .bx [dI n, MshsD ms, PltsD ps, SpdsD gs]), (3, .ow 83 (EqsD (ms.map (eqM n) ++ ps.map (eqP n) ++ (gs.take i).map (eqS n)))), (10, .d (dI i)), (11, .bx [.sl 3 [], dB false, .sl 1 [], .sl 1 []])]) (fun V => ?_) (fun N0_0_1_0 => ?_)
    · refine ZH.two 2 5 (by kernel_rfl) rfl rfl rfl rfl (fun _ => rfl) (fun _ => rfl) ⟨rfl, trivial⟩ ?_ ?_
      · refine AZOps.cut 1 rfl (fun B1 F1 w1 => ?_)
        refine AOps.makeQ tok (n - 1) rfl rfl rfl rfl rfl rfl rfl (by omega) (by omega) (by omega) ?_
        refine AOps.nil ⟨rfl, ?_⟩
        refine AZOps.loosen 94 rfl rfl rfl (fun V => ?_)
        refine AZOps.to [94, 96, 98, 1, 3, 10, 11] [(94, .d (.v V)), (96, .pt 1 3), (98, .d (dI i)), (1, .bx [dI n, MshsD ms, PltsD ps, SpdsD gs]), (3, .ow 83 (EqsD (ms.map (eqM n) ++ ps.map (eqP n) ++ (gs.take i).map (eqS n)))), (10, .d (dI i)), (11, .bx [.sl 3 [], dB false, .sl 1 [], .sl 1 []])] rfl ?_
        refine AZOps.nil ?_
        refine ZH.to [94, 96, 98, 1, 3, 10, 11] [(94, .d (.v V)), (96, .pt 1 3), (98, .d (dI i)), (1, .bx [dI n, MshsD ms, PltsD ps, SpdsD gs]), (3, .ow 83 (EqsD (ms.map (eqM n) ++ ps.map (eqP n) ++ (gs.take i).map (eqS n)))), (10, .d (dI i)), (11, .bx [.sl 3 [], dB false, .sl 1 [], .sl 1 []])] rfl ⟨rfl, trivial⟩ ?_
        exact ZH.ls _ (by kernel_rfl) (N1_0_1_0 V)
      · refine one_step (fun B1 F1 w1 => ?_)
        refine AOps.run tok 1 _ _ _ _ rfl ?_
        refine AOps.nil ⟨rfl, ?_⟩
        refine ZH.to [93, 97, 98, 1, 3, 10, 11] [(93, .d (dI n)), (97, .d (SpdsD gs)), (98, .d (dI i)), (1, .bx [dI n, MshsD ms, PltsD ps, SpdsD gs]), (3, .ow 83 (EqsD (ms.map (eqM n) ++ ps.map (eqP n) ++ (gs.take i).map (eqS n)))), (10, .d (dI i)), (11, .bx [.sl 3 [], dB false, .sl 1 [], .sl 1 []])] rfl ⟨rfl, trivial⟩ ?_
        exact ZH.ls _ (by kernel_rfl) (N0_1_1_0 V)
    refine ZH.meet 8 #[true, true, false, false, true, true, true, false, false, false, false, false, false] (fun V => []) (fun V => [(93, .d (dI n)), (97, .d (SpdsD gs)), (98, .d (dI i)), (1, .bx [dI n, MshsD ms, PltsD ps, SpdsD gs]), (3, .ow 83 (EqsD (ms.map (eqM n) ++ ps.map (eqP n) ++ (gs.take i).map (eqS n)))), (10, .d (dI i))]) (fun V => ?_) (fun N0_1_0_0 => ?_)
    · refine ZH.three 2 7 11 (by kernel_rfl) rfl rfl rfl rfl rfl rfl (fun _ => rfl) (fun _ => rfl) (fun _ => rfl) ⟨rfl, trivial⟩ ?_ ?_ ?_
      · refine AZOps.cut 1 rfl (fun B1 F1 w1 => ?_)
        refine AOps.makeQ tok (n - 1) rfl rfl rfl rfl rfl rfl rfl (by omega) (by omega) (by omega) ?_
        refine AOps.nil ⟨rfl, ?_⟩
        refine AZOps.loosen 94 rfl rfl rfl (fun V => ?_)
        refine AZOps.to [94, 97, 98, 1, 3, 10] [(94, .d (.v V)), (97, .d (SpdsD gs)), (98, .d (dI i)), (1, .bx [dI n, MshsD ms, PltsD ps, SpdsD gs]), (3, .ow 83 (EqsD (ms.map (eqM n) ++ ps.map (eqP n) ++ (gs.take i).map (eqS n)))), (10, .d (dI i))] rfl ?_
        refine AZOps.nil ?_
        refine ZH.to [94, 97, 98, 1, 3, 10] [(94, .d (.v V)), (97, .d (SpdsD gs)), (98, .d (dI i)), (1, .bx [dI n, MshsD ms, PltsD ps, SpdsD gs]), (3, .ow 83 (EqsD (ms.map (eqM n) ++ ps.map (eqP n) ++ (gs.take i).map (eqS n)))), (10, .d (dI i))] rfl ⟨rfl, trivial⟩ ?_
        exact ZH.ls _ (by kernel_rfl) (N1_1_0_0 V)
      · refine one_step (fun B1 F1 w1 => ?_)
        refine AOps.idx tok m.D rfl rfl rfl rfl (Int.natCast_nonneg i) hid ?_
        refine AOps.nil ⟨rfl, ?_⟩
        refine ZH.to [93, 99, 1, 3, 10] [(93, .d (dI n)), (99, .rf m.D.flat), (1, .bx [dI n, MshsD ms, PltsD ps, SpdsD gs]), (3, .ow 83 (EqsD (ms.map (eqM n) ++ ps.map (eqP n) ++ (gs.take i).map (eqS n)))), (10, .d (dI i))] rfl ⟨rfl, trivial⟩ ?_
        exact ZH.ls _ (by kernel_rfl) (N0_2_0_0 V)
      · refine one_step (fun B1 F1 w1 => ?_)
        refine AOps.run tok 1 _ _ _ _ rfl ?_
        refine AOps.nil ⟨rfl, ?_⟩
        refine ZH.to [93, 97, 98, 1, 3, 10, 11] [(93, .d (dI n)), (97, .d (SpdsD gs)), (98, .d (dI i)), (1, .bx [dI n, MshsD ms, PltsD ps, SpdsD gs]), (3, .ow 83 (EqsD (ms.map (eqM n) ++ ps.map (eqP n) ++ (gs.take i).map (eqS n)))), (10, .d (dI i)), (11, .bx [.sl 3 [], dB false, .sl 1 [], .sl 1 []])] rfl ⟨rfl, trivial⟩ ?_
        exact ZH.ls _ (by kernel_rfl) (N0_1_1_0 V)
    refine ZH.meet 8 #[true, true, true, false, true, false, true, false, false, false, false, false, false] (fun V => [(V, AV.ow 41 (QsD (zrR (n - 1))))]) (fun V => [(94, .d (.v V)), (96, .pt 1 3), (98, .d (dI i)), (1, .bx [dI n, MshsD ms, PltsD ps, SpdsD gs]), (3, .ow 83 (EqsD (ms.map (eqM n) ++ ps.map (eqP n) ++ (gs.take i).map (eqS n)))), (10, .d (dI i))]) (fun V => ?_) (fun N1_0_0_0 => ?_)
    · refine ZH.three 3 5 11 (by kernel_rfl) rfl rfl rfl rfl rfl rfl (fun _ => rfl) (fun _ => rfl) (fun _ => rfl) ⟨rfl, trivial⟩ ?_ ?_ ?_
      · refine one_step (fun B1 F1 w1 => ?_)
        refine AOps.run tok 1 _ _ _ _ rfl ?_
        refine AOps.nil ⟨rfl, ?_⟩
        refine ZH.to [95, 96, 98, 1, 3, 10] [(95, .d (EqV V ⟨false, [], []⟩)), (96, .pt 1 3), (98, .d (dI i)), (1, .bx [dI n, MshsD ms, PltsD ps, SpdsD gs]), (3, .ow 83 (EqsD (ms.map (eqM n) ++ ps.map (eqP n) ++ (gs.take i).map (eqS n)))), (10, .d (dI i))] rfl ⟨rfl, trivial⟩ ?_
        exact ZH.ls _ (by kernel_rfl) (N2_0_0_0 V)
      · refine one_step (fun B1 F1 w1 => ?_)
        refine AOps.run tok 1 _ _ _ _ rfl ?_
        refine AOps.nil ⟨rfl, ?_⟩
        refine ZH.to [94, 97, 98, 1, 3, 10] [(94, .d (.v V)), (97, .d (SpdsD gs)), (98, .d (dI i)), (1, .bx [dI n, MshsD ms, PltsD ps, SpdsD gs]), (3, .ow 83 (EqsD (ms.map (eqM n) ++ ps.map (eqP n) ++ (gs.take i).map (eqS n)))), (10, .d (dI i))] rfl ⟨rfl, trivial⟩ ?_
        exact ZH.ls _ (by kernel_rfl) (N1_1_0_0 V)
      · refine one_step (fun B1 F1 w1 => ?_)
        refine AOps.run tok 1 _ _ _ _ rfl ?_
        refine AOps.nil ⟨rfl, ?_⟩
        refine ZH.to [94, 96, 98, 1, 3, 10, 11] [(94, .d (.v V)), (96, .pt 1 3), (98, .d (dI i)), (1, .bx [dI n, MshsD ms, PltsD ps, SpdsD gs]), (3, .ow 83 (EqsD (ms.map (eqM n) ++ ps.map (eqP n) ++ (gs.take i).map (eqS n)))), (10, .d (dI i)), (11, .bx [.sl 3 [], dB false, .sl 1 [], .sl 1 []])] rfl ⟨rfl, trivial⟩ ?_
        exact ZH.ls _ (by kernel_rfl) (N1_0_1_0 V)
    refine ZH.meet 9 #[true, true, false, false, true, false, true, false, false, false, false, false, false] (fun V => []) (fun V => [(93, .d (dI n)), (96, .pt 1 3), (98, .d (dI i)), (1, .bx [dI n, MshsD ms, PltsD ps, SpdsD gs]), (3, .ow 83 (EqsD (ms.map (eqM n) ++ ps.map (eqP n) ++ (gs.take i).map (eqS n)))), (10, .d (dI i))]) (fun V => ?_) (fun N0_0_0_0 => ?_)
    · refine ZH.three 2 5 11 (by kernel_rfl) rfl rfl rfl rfl rfl rfl (fun _ => rfl) (fun _ => rfl) (fun _ => rfl) ⟨rfl, trivial⟩ ?_ ?_ ?_
      · refine AZOps.cut 1 rfl (fun B1 F1 w1 => ?_)
        refine AOps.makeQ tok (n - 1) rfl rfl rfl rfl rfl rfl rfl (by omega) (by omega) (by omega) ?_
        refine AOps.nil ⟨rfl, ?_⟩
        refine AZOps.loosen 94 rfl rfl rfl (fun V => ?_)
        refine AZOps.to [94, 96, 98, 1, 3, 10] [(94, .d (.v V)), (96, .pt 1 3), (98, .d (dI i)), (1, .bx [dI n, MshsD ms, PltsD ps, SpdsD gs]), (3, .ow 83 (EqsD (ms.map (eqM n) ++ ps.map (eqP n) ++ (gs.take i).map (eqS n)))), (10, .d (dI i))] rfl ?_
        refine AZOps.nil ?_
        refine ZH.to [94, 96, 98, 1, 3, 10] [(94, .d (.v V)), (96, .pt 1 3), (98, .d (dI i)), (1, .bx [dI n, MshsD ms, PltsD ps, SpdsD gs]), (3, .ow 83 (EqsD (ms.map (eqM n) ++ ps.map (eqP n) ++ (gs.take i).map (eqS n)))), (10, .d (dI i))] rfl ⟨rfl, trivial⟩ ?_
        exact ZH.ls _ (by kernel_rfl) (N1_0_0_0 V)
      · refine one_step (fun B1 F1 w1 => ?_)
        refine AOps.run tok 1 _ _ _ _ rfl ?_
        refine AOps.nil ⟨rfl, ?_⟩
        refine ZH.to [93, 97, 98, 1, 3, 10] [(93, .d (dI n)), (97, .d (SpdsD gs)), (98, .d (dI i)), (1, .bx [dI n, MshsD ms, PltsD ps, SpdsD gs]), (3, .ow 83 (EqsD (ms.map (eqM n) ++ ps.map (eqP n) ++ (gs.take i).map (eqS n)))), (10, .d (dI i))] rfl ⟨rfl, trivial⟩ ?_
        exact ZH.ls _ (by kernel_rfl) (N0_1_0_0 V)
      · refine one_step (fun B1 F1 w1 => ?_)
        refine AOps.run tok 1 _ _ _ _ rfl ?_
        refine AOps.nil ⟨rfl, ?_⟩
        refine ZH.to [93, 96, 98, 1, 3, 10, 11] [(93, .d (dI n)), (96, .pt 1 3), (98, .d (dI i)), (1, .bx [dI n, MshsD ms, PltsD ps, SpdsD gs]), (3, .ow 83 (EqsD (ms.map (eqM n) ++ ps.map (eqP n) ++ (gs.take i).map (eqS n)))), (10, .d (dI i)), (11, .bx [.sl 3 [], dB false, .sl 1 [], .sl 1 []])] rfl ⟨rfl, trivial⟩ ?_
        exact ZH.ls _ (by kernel_rfl) (N0_0_1_0 V)
    refine ZH.to [93, 96, 98, 1, 3, 10] [(93, .d (dI n)), (96, .pt 1 3), (98, .d (dI i)), (1, .bx [dI n, MshsD ms, PltsD ps, SpdsD gs]), (3, .ow 83 (EqsD (ms.map (eqM n) ++ ps.map (eqP n) ++ (gs.take i).map (eqS n)))), (10, .d (dI i))] rfl ⟨rfl, trivial⟩ ?_
    exact ZH.ls _ (by kernel_rfl) (N0_0_0_0 nilS)
  have hin : ¬ i < gs.length := by have := of_decide_eq_false h; omega
  have hie : i = gs.length := by omega
  subst hie
  rw [List.take_length]
  refine AZ.exit ?_
  refine AZ.seq ?_
  refine AZ.reg (fun B1 F1 w1 => ?_)
  refine AOps.run tok 2 _ _ _ _ rfl ?_
  refine AOps.nil ⟨rfl, ?_⟩
  refine AZ.loosen 2 rfl rfl rfl (fun V0 => AZ.ret ⟨.v V0, rfl, V0, rfl, rfl⟩)
end Lift
