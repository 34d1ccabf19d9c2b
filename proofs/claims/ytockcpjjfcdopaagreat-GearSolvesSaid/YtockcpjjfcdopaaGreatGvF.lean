/- Parts of the proof, one behind the other: the logic, the contracts of the functions that the statement reaches. -/
import Derived.Test.YtockcpjjfcdopaaGreatGvE
set_option linter.unusedVariables false
set_option linter.unusedSimpArgs false
/- The reference's equations. Printed by geneq.py. -/
namespace Lift
open Go Go.Proofs

def zrE (n : Int) : List Rat := zrR (n - 1)
def eqM (n : Int) (m : Msh) : List Rat × Rat := (addE (addE (zrE n) m.a m.ta) m.b (if m.inn = true then -m.tb else m.tb), 0)
def eqP (n : Int) (p : Plt) : List Rat × Rat := (addE (addE (addE (zrE n) p.s p.ts) p.r p.tr) p.c (-p.ts - p.tr), 0)
def eqS (n : Int) (s : Spd) : List Rat × Rat := (addE (zrE n) s.sh 1, s.v.val)
def eqsM (x : Trn) : Eqs := x.ms.map (eqM x.n) ++ x.ps.map (eqP x.n) ++ x.gs.map (eqS x.n)
abbrev EqsD (l : Eqs) : List D := l.map (fun e => EqD e)
theorem addE_len (r : List Rat) (i z : Int) : (addE r i z).length = r.length := List.length_set ..
theorem zrE_len {n : Int} (h : 1 ≤ n) : (zrE n).length = n.toNat := by unfold zrE zrR; rw [List.length_replicate]; omega
theorem zrE_sz (n : Int) (c : Nat) : LQ ((zrE n).getD c 0) ≤ 1 := by
  unfold zrE
  rw [zrR_get]
  have h : LQ 0 ≤ 1 := by rw [LQ_zero]; exact Nat.le_refl _
  exact h
theorem addE_get {r : List Rat} {i z : Int} (h : i.toNat < r.length) (c : Nat) : (addE r i z).getD c 0 = if c = i.toNat then r.getD i.toNat 0 + (z : Rat) else r.getD c 0 := by
  unfold addE
  rw [getD_set_f]
  by_cases e : c = i.toNat
  · rw [if_pos ⟨e, h⟩, if_pos e]
  · rw [if_neg (fun g => e g.1), if_neg e]
theorem addE_sz {r : List Rat} {i z : Int} {k : Nat} (hr : ∀ c, LQ (r.getD c 0) ≤ k) (h : i.toNat < r.length) (z0 : -1000000 ≤ z) (z1 : z ≤ 1000000) (c : Nat) : LQ ((addE r i z).getD c 0) ≤ k + 2 := by
  rw [addE_get h]
  have h1 := LQ_of z
  have h2 : L z ≤ 1 := L_le (by omega)
  have h3 := LQ_add (r.getD i.toNat 0) (z : Rat)
  have h4 := hr i.toNat
  have h5 := hr c
  split <;> omega
theorem eqD0 (L : List Rat) : EqD (L, 0) = .ag [.sl 3 (QsD L), dB false, .sl 1 [], .sl 1 []] := by
  show D.ag [.sl 3 (QsD L), dB (Qr 0).g, Wd (Qr 0).n, Wd (Qr 0).d] = _
  rw [Qr_zero]; rfl
def eqsPost (l : Eqs) (res : D) (R' : List LR) : Prop := ∃ V0, res = .v V0 ∧ R' = [(V0, AV.ow 83 (EqsD l))]
set_option maxHeartbeats 6400000 in
theorem r51_equations_ok (x : Trn) {k : Nat} (hw : x.w k) (h : chkT x = 0) : CallZ Tryz.prog 32 [x.D] [] (eqsPost (eqsM x)) := by
  refine CallZ.intro (n := 115) tok Tryz.func32 rfl rfl rfl (Nat.le_of_ble_eq_true rfl) (by kernel_rfl) (fun B F0 w0 => ?_)
  obtain ⟨n1, n2, o1, o2, o3, hm, hp, hg⟩ := chkT_ok h
  have hgw := hw.2.2.2
  obtain ⟨n, ms, ps, gs⟩ := x
  dsimp only at n1 n2 o1 o2 o3 hm hp hg hgw
  have zl := zrE_len n1
  have zs := zrE_sz n
  refine AZ.seq ?_
  refine AZ.reg (fun B1 F1 w1 => ?_)
  refine AOps.run tok 2 _ _ _ _ rfl ?_
  refine AOps.nil ⟨rfl, ?_⟩
  refine AZ.seq ?_
  refine AZ.reg (fun B1 F1 w1 => ?_)
  refine AOps.run tok 1 _ _ _ _ rfl ?_
  refine AOps.nil ⟨rfl, ?_⟩
  refine AZ.seq ?_
  refine AZ.seq ?_
  refine AZ.reg (fun B1 F1 w1 => ?_)
  refine AOps.run tok 1 _ _ _ _ rfl ?_
  refine AOps.nil ⟨rfl, ?_⟩
  refine AZ.block ?_
  refine AZ.loopS [1, 3, 4] (fun i : Nat => ([], [(1, .bx [dI n, MshsD ms, PltsD ps, SpdsD gs]), (3, .ow 83 (EqsD ((ms.take i).map (eqM n)))), (4, .d (dI i))])) (fun i => i ≤ ms.length) (fun i => ms.length - i) 0 rfl (Nat.zero_le _) (fun i hi => ?_)
  show AZ _ _ _ _ _ _ _ [] [(1, .bx [dI n, MshsD ms, PltsD ps, SpdsD gs]), (3, .ow 83 (EqsD ((ms.take i).map (eqM n)))), (4, .d (dI i))]
  refine AZ.seq ?_
  refine AZ.seq ?_
  refine AZ.reg (fun B1 F1 w1 => ?_)
  refine AOps.run tok 4 _ _ _ _ rfl ?_
  rw [List.length_map]
  refine AOps.run tok 1 _ _ _ _ rfl ?_
  refine AOps.nil ⟨rfl, ?_⟩
  refine AZ.cond rfl (fun h => ?_) (fun h => ?_)
  · have hin : i < ms.length := by have := of_decide_eq_true h; omega
    have hid : (ms.map Msh.D)[i]? = some (ms.getD i default).D := getM Msh.D hin
    have hmi := mshE_ok (hm i hin)
    have htk := take_snoc ms hin
    have hln : (EqsD ((ms.take i).map (eqM n))).length = i := by rw [List.length_map, List.length_map, List.length_take]; omega
    generalize ms.getD i default = m at hid hmi htk
    obtain ⟨⟨a1, a2⟩, ⟨b1, b2⟩, hab, ⟨c1, c2⟩, d1, d2⟩ := hmi
    refine AZ.skip ?_
    refine AZ.seq ?_
    refine AZ.block ?_
    refine AZ.seq ?_
    refine AZ.reg (fun B1 F1 w1 => ?_)
    refine AOps.run tok 3 _ _ _ _ rfl ?_
    refine AOps.idx tok m.D rfl rfl rfl rfl (Int.natCast_nonneg i) hid ?_
    refine AOps.run tok 3 _ _ _ _ rfl ?_
    refine AOps.nil ⟨rfl, ?_⟩
    refine AZ.seq ?_
    refine AZ.reg (fun B1 F1 w1 => ?_)
    refine AOps.run tok 3 _ _ _ _ rfl ?_
    refine AOps.nil ⟨rfl, ?_⟩
    refine AZ.cut [1, 3, 4, 5, 6] (fun z : Int => ([], [(1, .bx [dI n, MshsD ms, PltsD ps, SpdsD gs]), (3, .ow 83 (EqsD ((ms.take i).map (eqM n)))), (4, .d (dI i)), (5, .bx m.D.flat), (6, .d (dI z))])) (fun z => z = if m.inn = true then -m.tb else m.tb) ?_ (fun z hz => ?_)
    · refine AZ.seq ?_
      refine AZ.reg (fun B1 F1 w1 => ?_)
      refine AOps.run tok 2 _ _ _ _ rfl ?_
      refine AOps.nil ⟨rfl, ?_⟩
      refine AZ.cond rfl (fun h => ?_) (fun h => ?_)
      · refine AZ.reg (fun B1 F1 w1 => ?_)
        refine AOps.run tok 3 _ _ _ _ rfl ?_
        rw [wI64 (by omega) (by omega)]
        refine AOps.nil ⟨rfl, ?_⟩
        exact ⟨0 - m.tb, rfl, by rw [if_pos h]; omega⟩
      · refine AZ.skip ?_
        exact ⟨m.tb, rfl, by rw [if_neg (by rw [h]; simp)]⟩
    · show AZ _ _ _ _ _ _ _ [] [(1, .bx [dI n, MshsD ms, PltsD ps, SpdsD gs]), (3, .ow 83 (EqsD ((ms.take i).map (eqM n)))), (4, .d (dI i)), (5, .bx m.D.flat), (6, .d (dI z))]
      have hz1 : -10000 ≤ z ∧ z ≤ 10000 := by subst hz; split <;> omega
      refine AZ.any hmix (ZH.any (β := [(1, [dI n, MshsD ms, PltsD ps, SpdsD gs]), (5, m.D.flat)]) ?_)
      refine ZH.mv 0 rfl rfl (by kernel_rfl) (by kernel_rfl) (by kernel_rfl) rfl (fun _ _ _ h => h) (fun _ => rfl) ⟨rfl, rfl, trivial⟩ (fun B1 F1 w1 => ?_)
      refine AOps.run tok 1 _ _ _ _ rfl ?_
      refine AOps.nil ⟨rfl, ?_⟩
      refine ZH.fd tok 1 rfl rfl (by kernel_rfl) (by kernel_rfl) (by kernel_rfl) rfl (fun _ _ _ h => h) (fun _ => rfl) ⟨rfl, rfl, trivial⟩ (fun B1 F1 w1 => ?_)
      refine AOps.run tok 1 _ _ _ _ rfl ?_
      refine AOps.nil ⟨rfl, ?_⟩
      refine ZH.ld tok 2 rfl rfl (by kernel_rfl) (by kernel_rfl) (by kernel_rfl) rfl rfl (fun _ _ _ h => h) (fun _ => rfl) ⟨rfl, rfl, trivial⟩ (fun B1 F1 w1 => ?_)
      refine AOps.run tok 1 _ _ _ _ rfl ?_
      refine AOps.nil ⟨rfl, ?_⟩
      refine ZH.fd tok 5 rfl rfl (by kernel_rfl) (by kernel_rfl) (by kernel_rfl) rfl (fun _ _ _ h => h) (fun _ => rfl) ⟨rfl, rfl, trivial⟩ (fun B1 F1 w1 => ?_)
      refine AOps.run tok 1 _ _ _ _ rfl ?_
      refine AOps.nil ⟨rfl, ?_⟩
      refine ZH.ld tok 6 rfl rfl (by kernel_rfl) (by kernel_rfl) (by kernel_rfl) rfl rfl (fun _ _ _ h => h) (fun _ => rfl) ⟨rfl, rfl, trivial⟩ (fun B1 F1 w1 => ?_)
      refine AOps.run tok 1 _ _ _ _ rfl ?_
      refine AOps.nil ⟨rfl, ?_⟩
      refine ZH.fd tok 7 rfl rfl (by kernel_rfl) (by kernel_rfl) (by kernel_rfl) rfl (fun _ _ _ h => h) (fun _ => rfl) ⟨rfl, rfl, trivial⟩ (fun B1 F1 w1 => ?_)
      refine AOps.run tok 1 _ _ _ _ rfl ?_
      refine AOps.nil ⟨rfl, ?_⟩
      refine ZH.ld tok 8 rfl rfl (by kernel_rfl) (by kernel_rfl) (by kernel_rfl) rfl rfl (fun _ _ _ h => h) (fun _ => rfl) ⟨rfl, rfl, trivial⟩ (fun B1 F1 w1 => ?_)
      refine AOps.run tok 1 _ _ _ _ rfl ?_
      refine AOps.nil ⟨rfl, ?_⟩
      refine ZH.fd tok 10 rfl rfl (by kernel_rfl) (by kernel_rfl) (by kernel_rfl) rfl (fun _ _ _ h => h) (fun _ => rfl) ⟨rfl, rfl, trivial⟩ (fun B1 F1 w1 => ?_)
      refine AOps.run tok 1 _ _ _ _ rfl ?_
      refine AOps.nil ⟨rfl, ?_⟩
      refine ZH.ld tok 11 rfl rfl (by kernel_rfl) (by kernel_rfl) (by kernel_rfl) rfl rfl (fun _ _ _ h => h) (fun _ => rfl) ⟨rfl, rfl, trivial⟩ (fun B1 F1 w1 => ?_)
      refine AOps.run tok 1 _ _ _ _ rfl ?_
      refine AOps.nil ⟨rfl, ?_⟩
      refine ZH.mv 12 rfl rfl (by kernel_rfl) (by kernel_rfl) (by kernel_rfl) rfl (fun _ _ _ h => h) (fun _ => rfl) ⟨rfl, rfl, trivial⟩ (fun B1 F1 w1 => ?_)
      refine AOps.run tok 1 _ _ _ _ rfl ?_
      refine AOps.nil ⟨rfl, ?_⟩
      refine ZH.all 3 (by kernel_rfl) rfl rfl (fun _ => rfl) ⟨rfl, rfl, trivial⟩ ?_
      refine AZOps.cut 1 rfl (fun B1 F1 w1 => ?_)
      refine AOps.makeQ tok (n - 1) rfl rfl rfl rfl rfl rfl rfl (by omega) (by omega) (by omega) ?_
      refine AOps.nil ⟨rfl, ?_⟩
      refine AZOps.loosen 33 rfl rfl rfl (fun V => ?_)
      refine AZOps.to [33, 30, 36, 38, 41, 42, 1, 3, 4, 5, 6] [(33, .d (.v V)), (30, .al 3), (36, .d (dI m.a)), (38, .d (dI m.ta)), (41, .d (dI m.b)), (42, .d (dI z)), (1, .bx [dI n, MshsD ms, PltsD ps, SpdsD gs]), (3, .ow 83 (EqsD ((ms.take i).map (eqM n)))), (4, .d (dI i)), (5, .bx m.D.flat), (6, .d (dI z))] rfl ?_
      refine AZOps.nil ?_
      refine ZH.all 4 (by kernel_rfl) rfl rfl (fun _ => rfl) ⟨rfl, rfl, trivial⟩ ?_
      refine one_step (fun B1 F1 w1 => ?_)
      refine AOps.run tok 1 _ _ _ _ rfl ?_
      refine AOps.nil ⟨rfl, ?_⟩
      refine ZH.to [34, 30, 36, 38, 41, 42, 1, 3, 4, 5, 6] [(34, .d (EqV V ⟨false, [], []⟩)), (30, .al 3), (36, .d (dI m.a)), (38, .d (dI m.ta)), (41, .d (dI m.b)), (42, .d (dI z)), (1, .bx [dI n, MshsD ms, PltsD ps, SpdsD gs]), (3, .ow 83 (EqsD ((ms.take i).map (eqM n)))), (4, .d (dI i)), (5, .bx m.D.flat), (6, .d (dI z))] rfl ⟨rfl, rfl, trivial⟩ ?_
      refine ZH.all 9 (by kernel_rfl) rfl rfl (fun _ => rfl) ⟨rfl, rfl, trivial⟩ ?_
      refine AZOps.callz tok [0] rfl rfl rfl rfl rfl (by simp) rfl (r51_with_ok V ⟨false, [], []⟩ (zrE n) m.a m.ta a1 (by omega) (by omega) (by omega) (Nat.le_trans (zs _) (by decide))) (fun _ _ h => by rw [h.2]; exact Nat.le_refl _) (fun res R1 hP => ?_)
      obtain ⟨rfl, rfl⟩ := hP
      refine AZOps.nil ?_
      refine ZH.to [39, 30, 36, 38, 41, 42, 1, 3, 4, 5, 6] [(39, .d (EqV V ⟨false, [], []⟩)), (30, .al 3), (36, .d (dI m.a)), (38, .d (dI m.ta)), (41, .d (dI m.b)), (42, .d (dI z)), (1, .bx [dI n, MshsD ms, PltsD ps, SpdsD gs]), (3, .ow 83 (EqsD ((ms.take i).map (eqM n)))), (4, .d (dI i)), (5, .bx m.D.flat), (6, .d (dI z))] rfl ⟨rfl, rfl, trivial⟩ ?_
      refine ZH.all 13 (by kernel_rfl) rfl rfl (fun _ => rfl) ⟨rfl, rfl, trivial⟩ ?_
      refine AZOps.callz tok [0] rfl rfl rfl rfl rfl (by simp) rfl (r51_with_ok V ⟨false, [], []⟩ (addE (zrE n) m.a m.ta) m.b z b1 (by rw [addE_len]; omega) (by omega) (by omega) (Nat.le_trans (addE_sz zs (by omega) (by omega) (by omega) _) (by decide))) (fun _ _ h => by rw [h.2]; exact Nat.le_refl _) (fun res R1 hP => ?_)
      obtain ⟨rfl, rfl⟩ := hP
      refine AZOps.frzd tok 43 0 0 rfl rfl rfl rfl ?_
      refine AZOps.forget ?_
      refine AZOps.nil ?_
      refine ZH.to [43, 30, 1, 3, 4, 5, 6] [(43, .d (EqD (addE (addE (zrE n) m.a m.ta) m.b z, 0))), (30, .al 3), (1, .bx [dI n, MshsD ms, PltsD ps, SpdsD gs]), (3, .ow 83 (EqsD ((ms.take i).map (eqM n)))), (4, .d (dI i)), (5, .bx m.D.flat), (6, .d (dI z))] (by rw [eqD0]; rfl) ⟨rfl, rfl, trivial⟩ ?_
      refine ZH.all 14 (by kernel_rfl) rfl rfl (fun _ => rfl) ⟨rfl, rfl, trivial⟩ ?_
      refine one_step (fun B1 F1 w1 => ?_)
      refine AOps.bsd tok rfl rfl rfl rfl rfl ?_
      refine AOps.nil ⟨rfl, ?_⟩
      refine ZH.all 15 (by kernel_rfl) rfl rfl (fun _ => rfl) ⟨rfl, rfl, trivial⟩ ?_
      refine one_step (fun B1 F1 w1 => ?_)
      refine AOps.appo tok rfl rfl rfl rfl rfl rfl (by show ((EqsD ((ms.take i).map (eqM n))).length + 1) * 80 ≤ _; rw [hln]; omega) (by show (EqsD ((ms.take i).map (eqM n))).length + 1 ≤ _; rw [hln]; omega) ?_
      refine AOps.nil ⟨rfl, ?_⟩
      refine ZH.all 16 (by kernel_rfl) rfl rfl (fun _ => rfl) ⟨rfl, rfl, trivial⟩ ?_
      refine one_step (fun B1 F1 w1 => ?_)
      refine AOps.run tok 1 _ _ _ _ rfl ?_
      refine AOps.nil ⟨rfl, ?_⟩
      refine ZH.done (by kernel_rfl) ⟨rfl, rfl, trivial⟩ ?_
      refine AZ.reg (fun B1 F1 w1 => ?_)
      refine AOps.run tok 2 _ _ _ _ rfl ?_
      rw [wI64 (x := (i : Int) + 1) (by omega) (by omega)]
      refine AOps.run tok 1 _ _ _ _ rfl ?_
      refine AOps.nil ⟨rfl, ?_⟩
      refine ⟨i + 1, Prod.ext rfl ?_, hin, by omega⟩
      show _ = [(1, AV.bx [dI n, MshsD ms, PltsD ps, SpdsD gs]), (3, .ow 83 (EqsD ((ms.take (i + 1)).map (eqM n)))), (4, .d (dI ((i + 1 : Nat) : Int)))]
      rw [show EqsD ((ms.take (i + 1)).map (eqM n)) = EqsD ((ms.take i).map (eqM n)) ++ [EqD (addE (addE (zrE n) m.a m.ta) m.b z, 0)] by rw [htk, List.map_append, List.map_cons, List.map_nil, eqM, ← hz]; exact List.map_append]
      rfl
  have hin : ¬ i < ms.length := by have := of_decide_eq_false h; omega
  have hie : i = ms.length := by omega
  subst hie
  rw [List.take_length]
  refine AZ.exit ?_
  refine AZ.seq ?_
  refine AZ.seq ?_
  refine AZ.reg (fun B1 F1 w1 => ?_)
  refine AOps.run tok 1 _ _ _ _ rfl ?_
  refine AOps.nil ⟨rfl, ?_⟩
  refine AZ.block ?_
  refine AZ.loopS [1, 3, 7] (fun i : Nat => ([], [(1, .bx [dI n, MshsD ms, PltsD ps, SpdsD gs]), (3, .ow 83 (EqsD (ms.map (eqM n) ++ (ps.take i).map (eqP n)))), (7, .d (dI i))])) (fun i => i ≤ ps.length) (fun i => ps.length - i) 0 (by rw [List.take_zero, List.map_nil, List.append_nil]; rfl) (Nat.zero_le _) (fun i hi => ?_)
  show AZ _ _ _ _ _ _ _ [] [(1, .bx [dI n, MshsD ms, PltsD ps, SpdsD gs]), (3, .ow 83 (EqsD (ms.map (eqM n) ++ (ps.take i).map (eqP n)))), (7, .d (dI i))]
  refine AZ.seq ?_
  refine AZ.seq ?_
  refine AZ.reg (fun B1 F1 w1 => ?_)
  refine AOps.run tok 4 _ _ _ _ rfl ?_
  rw [List.length_map]
  refine AOps.run tok 1 _ _ _ _ rfl ?_
  refine AOps.nil ⟨rfl, ?_⟩
  refine AZ.cond rfl (fun h => ?_) (fun h => ?_)
  · have hin : i < ps.length := by have := of_decide_eq_true h; omega
    have hid : (ps.map Plt.D)[i]? = some (ps.getD i default).D := getM Plt.D hin
    have hmi := pltE_ok (hp i hin)
    have htk := take_snoc ps hin
    have hln : (EqsD (ms.map (eqM n) ++ (ps.take i).map (eqP n))).length = ms.length + i := by rw [List.length_map, List.length_append, List.length_map, List.length_map, List.length_take]; omega
    generalize ps.getD i default = m at hid hmi htk
    obtain ⟨⟨a1, a2⟩, ⟨b1, b2⟩, ⟨e1, e2⟩, hab, ⟨c1, c2⟩, d1, d2⟩ := hmi
    have l1 : (addE (zrE n) m.s m.ts).length = n.toNat := by rw [addE_len]; exact zl
    have l2 : (addE (addE (zrE n) m.s m.ts) m.r m.tr).length = n.toNat := by rw [addE_len]; exact l1
    have s1 := addE_sz (i := m.s) (z := m.ts) zs (by omega) (by omega) (by omega)
    have s2 := addE_sz (i := m.r) (z := m.tr) s1 (by omega) (by omega) (by omega)
    refine AZ.skip ?_
    refine AZ.seq ?_
    refine AZ.block ?_
    refine AZ.seq ?_
    refine AZ.reg (fun B1 F1 w1 => ?_)
    refine AOps.run tok 3 _ _ _ _ rfl ?_
    refine AOps.idx tok m.D rfl rfl rfl rfl (Int.natCast_nonneg i) hid ?_
    refine AOps.run tok 3 _ _ _ _ rfl ?_
    refine AOps.nil ⟨rfl, ?_⟩
    refine AZ.to [1, 3, 7, 8] [(1, .bx [dI n, MshsD ms, PltsD ps, SpdsD gs]), (3, .ow 83 (EqsD (ms.map (eqM n) ++ (ps.take i).map (eqP n)))), (7, .d (dI i)), (8, .bx m.D.flat)] rfl ?_
    refine AZ.seq ?_
    refine AZ.any hmix (ZH.any (β := [(1, [dI n, MshsD ms, PltsD ps, SpdsD gs]), (8, m.D.flat)]) ?_)
    refine ZH.fd tok 0 rfl rfl (by kernel_rfl) (by kernel_rfl) (by kernel_rfl) rfl (fun _ _ _ h => h) (fun _ => rfl) ⟨rfl, rfl, trivial⟩ (fun B1 F1 w1 => ?_)
    refine AOps.run tok 1 _ _ _ _ rfl ?_
    refine AOps.nil ⟨rfl, ?_⟩
    refine ZH.ld tok 1 rfl rfl (by kernel_rfl) (by kernel_rfl) (by kernel_rfl) rfl rfl (fun _ _ _ h => h) (fun _ => rfl) ⟨rfl, rfl, trivial⟩ (fun B1 F1 w1 => ?_)
    refine AOps.run tok 1 _ _ _ _ rfl ?_
    refine AOps.nil ⟨rfl, ?_⟩
    refine ZH.fd tok 4 rfl rfl (by kernel_rfl) (by kernel_rfl) (by kernel_rfl) rfl (fun _ _ _ h => h) (fun _ => rfl) ⟨rfl, rfl, trivial⟩ (fun B1 F1 w1 => ?_)
    refine AOps.run tok 1 _ _ _ _ rfl ?_
    refine AOps.nil ⟨rfl, ?_⟩
    refine ZH.ld tok 5 rfl rfl (by kernel_rfl) (by kernel_rfl) (by kernel_rfl) rfl rfl (fun _ _ _ h => h) (fun _ => rfl) ⟨rfl, rfl, trivial⟩ (fun B1 F1 w1 => ?_)
    refine AOps.run tok 1 _ _ _ _ rfl ?_
    refine AOps.nil ⟨rfl, ?_⟩
    refine ZH.fd tok 6 rfl rfl (by kernel_rfl) (by kernel_rfl) (by kernel_rfl) rfl (fun _ _ _ h => h) (fun _ => rfl) ⟨rfl, rfl, trivial⟩ (fun B1 F1 w1 => ?_)
    refine AOps.run tok 1 _ _ _ _ rfl ?_
    refine AOps.nil ⟨rfl, ?_⟩
    refine ZH.ld tok 7 rfl rfl (by kernel_rfl) (by kernel_rfl) (by kernel_rfl) rfl rfl (fun _ _ _ h => h) (fun _ => rfl) ⟨rfl, rfl, trivial⟩ (fun B1 F1 w1 => ?_)
    refine AOps.run tok 1 _ _ _ _ rfl ?_
    refine AOps.nil ⟨rfl, ?_⟩
    refine ZH.fd tok 9 rfl rfl (by kernel_rfl) (by kernel_rfl) (by kernel_rfl) rfl (fun _ _ _ h => h) (fun _ => rfl) ⟨rfl, rfl, trivial⟩ (fun B1 F1 w1 => ?_)
    refine AOps.run tok 1 _ _ _ _ rfl ?_
    refine AOps.nil ⟨rfl, ?_⟩
    refine ZH.ld tok 10 rfl rfl (by kernel_rfl) (by kernel_rfl) (by kernel_rfl) rfl rfl (fun _ _ _ h => h) (fun _ => rfl) ⟨rfl, rfl, trivial⟩ (fun B1 F1 w1 => ?_)
    refine AOps.run tok 1 _ _ _ _ rfl ?_
    refine AOps.nil ⟨rfl, ?_⟩
    refine ZH.fd tok 11 rfl rfl (by kernel_rfl) (by kernel_rfl) (by kernel_rfl) rfl (fun _ _ _ h => h) (fun _ => rfl) ⟨rfl, rfl, trivial⟩ (fun B1 F1 w1 => ?_)
    refine AOps.run tok 1 _ _ _ _ rfl ?_
    refine AOps.nil ⟨rfl, ?_⟩
    refine ZH.ld tok 12 rfl rfl (by kernel_rfl) (by kernel_rfl) (by kernel_rfl) rfl rfl (fun _ _ _ h => h) (fun _ => rfl) ⟨rfl, rfl, trivial⟩ (fun B1 F1 w1 => ?_)
    refine AOps.run tok 1 _ _ _ _ rfl ?_
    refine AOps.nil ⟨rfl, ?_⟩
    refine ZH.meet 1 #[true, true, true, true, true, true, true, true, true, true, true, true, true, true, true, false] (fun V => [(V, AV.ow 41 (QsD (addE (addE (zrE n) m.s m.ts) m.r m.tr)))]) (fun V => [(71, .d (EqV V ⟨false, [], []⟩)), (1, .bx [dI n, MshsD ms, PltsD ps, SpdsD gs]), (3, .ow 83 (EqsD (ms.map (eqM n) ++ (ps.take i).map (eqP n)))), (7, .d (dI i)), (8, .bx m.D.flat), (9, .bx [.sl 3 [], dB false, .sl 1 [], .sl 1 []])]) (fun V => ?_) (fun N4_1 => ?_)
    · refine ZH.all 15 (by kernel_rfl) rfl rfl (fun _ => rfl) ⟨rfl, rfl, trivial⟩ ?_
      refine one_step (fun B1 F1 w1 => ?_)
      refine AOps.run tok 1 _ _ _ _ rfl ?_
      refine AOps.nil ⟨rfl, ?_⟩
      refine ZH.done (by kernel_rfl) ⟨rfl, rfl, trivial⟩ ?_
      refine AZ.to [1, 3, 7, 8, 9] [(1, .bx [dI n, MshsD ms, PltsD ps, SpdsD gs]), (3, .ow 83 (EqsD (ms.map (eqM n) ++ (ps.take i).map (eqP n)))), (7, .d (dI i)), (8, .bx m.D.flat), (9, .bx [.v V, dB false, .sl 1 [], .sl 1 []])] rfl ?_
      refine AZ.region ?_
      refine AZOps.cut 10 rfl (fun B1 F1 w1 => ?_)
      refine AOps.run tok 7 _ _ _ _ rfl ?_
      rw [wI64 (by omega) (by omega)]
      refine AOps.run tok 3 _ _ _ _ rfl ?_
      rw [wI64 (by omega) (by omega), show 0 - m.ts - m.tr = -m.ts - m.tr by omega]
      refine AOps.nil ⟨rfl, ?_⟩
      refine AZOps.to [72, 73, 75, 81, 1, 3, 7] [(72, .al 3), (73, .d (EqV V ⟨false, [], []⟩)), (75, .d (dI m.c)), (81, .d (dI (-m.ts - m.tr))), (1, .bx [dI n, MshsD ms, PltsD ps, SpdsD gs]), (3, .ow 83 (EqsD (ms.map (eqM n) ++ (ps.take i).map (eqP n)))), (7, .d (dI i))] rfl ?_
      refine AZOps.callz tok [0] rfl rfl rfl rfl rfl (by simp) rfl (r51_with_ok V ⟨false, [], []⟩ (addE (addE (zrE n) m.s m.ts) m.r m.tr) m.c (-m.ts - m.tr) e1 (by omega) (by omega) (by omega) (Nat.le_trans (s2 _) (by decide))) (fun _ _ h => by rw [h.2]; exact Nat.le_refl _) (fun res R1 hP => ?_)
      obtain ⟨rfl, rfl⟩ := hP
      refine AZOps.frzd tok 82 0 0 rfl rfl rfl rfl ?_
      refine AZOps.forget ?_
      refine AZOps.to [82, 72, 1, 3, 7] [(82, .d (EqD (eqP n m))), (72, .al 3), (1, .bx [dI n, MshsD ms, PltsD ps, SpdsD gs]), (3, .ow 83 (EqsD (ms.map (eqM n) ++ (ps.take i).map (eqP n)))), (7, .d (dI i))] (by rw [eqP, eqD0]; rfl) ?_
      refine AZOps.cut 3 rfl (fun B1 F1 w1 => ?_)
      refine AOps.bsd tok rfl rfl rfl rfl rfl ?_
      refine AOps.appo tok rfl rfl rfl rfl rfl rfl (by show ((EqsD (ms.map (eqM n) ++ (ps.take i).map (eqP n))).length + 1) * 80 ≤ _; rw [hln]; omega) (by show (EqsD (ms.map (eqM n) ++ (ps.take i).map (eqP n))).length + 1 ≤ _; rw [hln]; omega) ?_
      refine AOps.run tok 1 _ _ _ _ rfl ?_
      refine AOps.nil ⟨rfl, ?_⟩
      refine AZOps.nil ?_
      refine AZ.reg (fun B1 F1 w1 => ?_)
      refine AOps.run tok 2 _ _ _ _ rfl ?_
      rw [wI64 (x := (i : Int) + 1) (by omega) (by omega)]
      refine AOps.run tok 1 _ _ _ _ rfl ?_
      refine AOps.nil ⟨rfl, ?_⟩
      refine ⟨i + 1, Prod.ext rfl ?_, hin, by omega⟩
      show _ = [(1, AV.bx [dI n, MshsD ms, PltsD ps, SpdsD gs]), (3, .ow 83 (EqsD (ms.map (eqM n) ++ (ps.take (i + 1)).map (eqP n)))), (7, .d (dI ((i + 1 : Nat) : Int)))]
      rw [show EqsD (ms.map (eqM n) ++ (ps.take (i + 1)).map (eqP n)) = EqsD (ms.map (eqM n) ++ (ps.take i).map (eqP n)) ++ [EqD (eqP n m)] by rw [htk, List.map_append, List.map_cons, List.map_nil, ← List.append_assoc]; exact List.map_append]
      rfl
    refine ZH.meet 2 #[true, true, true, true, true, true, true, true, true, true, true, true, true, false, true, false] (fun V => [(V, AV.ow 41 (QsD (addE (zrE n) m.s m.ts)))]) (fun V => [(66, .d (EqV V ⟨false, [], []⟩)), (63, .d (dI m.s)), (65, .d (dI m.ts)), (68, .d (dI m.r)), (70, .d (dI m.tr)), (1, .bx [dI n, MshsD ms, PltsD ps, SpdsD gs]), (3, .ow 83 (EqsD (ms.map (eqM n) ++ (ps.take i).map (eqP n)))), (7, .d (dI i)), (8, .bx m.D.flat), (9, .bx [.sl 3 [], dB false, .sl 1 [], .sl 1 []])]) (fun V => ?_) (fun N3_1 => ?_)
    · refine ZH.all 13 (by kernel_rfl) rfl rfl (fun _ => rfl) ⟨rfl, rfl, trivial⟩ ?_
      refine AZOps.callz tok [0] rfl rfl rfl rfl rfl (by simp) rfl (r51_with_ok V ⟨false, [], []⟩ (addE (zrE n) m.s m.ts) m.r m.tr b1 (by omega) (by omega) (by omega) (Nat.le_trans (s1 _) (by decide))) (fun _ _ h => by rw [h.2]; exact Nat.le_refl _) (fun res R1 hP => ?_)
      obtain ⟨rfl, rfl⟩ := hP
      refine AZOps.nil ?_
      refine ZH.to [71, 1, 3, 7, 8, 9] [(71, .d (EqV V ⟨false, [], []⟩)), (1, .bx [dI n, MshsD ms, PltsD ps, SpdsD gs]), (3, .ow 83 (EqsD (ms.map (eqM n) ++ (ps.take i).map (eqP n)))), (7, .d (dI i)), (8, .bx m.D.flat), (9, .bx [.sl 3 [], dB false, .sl 1 [], .sl 1 []])] rfl ⟨rfl, rfl, trivial⟩ ?_
      exact ZH.ls _ (by kernel_rfl) (N4_1 V)
    refine ZH.meet 2 #[true, true, true, true, true, true, true, true, true, true, true, true, true, true, false, false] (fun V => [(V, AV.ow 41 (QsD (addE (addE (zrE n) m.s m.ts) m.r m.tr)))]) (fun V => [(71, .d (EqV V ⟨false, [], []⟩)), (1, .bx [dI n, MshsD ms, PltsD ps, SpdsD gs]), (3, .ow 83 (EqsD (ms.map (eqM n) ++ (ps.take i).map (eqP n)))), (7, .d (dI i)), (8, .bx m.D.flat)]) (fun V => ?_) (fun N4_0 => ?_)
    · refine ZH.all 14 (by kernel_rfl) rfl rfl (fun _ => rfl) ⟨rfl, rfl, trivial⟩ ?_
      refine one_step (fun B1 F1 w1 => ?_)
      refine AOps.run tok 1 _ _ _ _ rfl ?_
      refine AOps.nil ⟨rfl, ?_⟩
      refine ZH.to [71, 1, 3, 7, 8, 9] [(71, .d (EqV V ⟨false, [], []⟩)), (1, .bx [dI n, MshsD ms, PltsD ps, SpdsD gs]), (3, .ow 83 (EqsD (ms.map (eqM n) ++ (ps.take i).map (eqP n)))), (7, .d (dI i)), (8, .bx m.D.flat), (9, .bx [.sl 3 [], dB false, .sl 1 [], .sl 1 []])] rfl ⟨rfl, rfl, trivial⟩ ?_
      exact ZH.ls _ (by kernel_rfl) (N4_1 V)
    refine ZH.meet 3 #[true, true, true, true, true, true, true, true, false, true, true, true, true, false, true, false] (fun V => [(V, AV.ow 41 (QsD (zrR (n - 1))))]) (fun V => [(61, .d (EqV V ⟨false, [], []⟩)), (63, .d (dI m.s)), (65, .d (dI m.ts)), (68, .d (dI m.r)), (70, .d (dI m.tr)), (1, .bx [dI n, MshsD ms, PltsD ps, SpdsD gs]), (3, .ow 83 (EqsD (ms.map (eqM n) ++ (ps.take i).map (eqP n)))), (7, .d (dI i)), (8, .bx m.D.flat), (9, .bx [.sl 3 [], dB false, .sl 1 [], .sl 1 []])]) (fun V => ?_) (fun N2_1 => ?_)
    · refine ZH.all 8 (by kernel_rfl) rfl rfl (fun _ => rfl) ⟨rfl, rfl, trivial⟩ ?_
      refine AZOps.callz tok [0] rfl rfl rfl rfl rfl (by simp) rfl (r51_with_ok V ⟨false, [], []⟩ (zrE n) m.s m.ts a1 (by omega) (by omega) (by omega) (Nat.le_trans (zs _) (by decide))) (fun _ _ h => by rw [h.2]; exact Nat.le_refl _) (fun res R1 hP => ?_)
      obtain ⟨rfl, rfl⟩ := hP
      refine AZOps.nil ?_
      refine ZH.to [66, 63, 65, 68, 70, 1, 3, 7, 8, 9] [(66, .d (EqV V ⟨false, [], []⟩)), (63, .d (dI m.s)), (65, .d (dI m.ts)), (68, .d (dI m.r)), (70, .d (dI m.tr)), (1, .bx [dI n, MshsD ms, PltsD ps, SpdsD gs]), (3, .ow 83 (EqsD (ms.map (eqM n) ++ (ps.take i).map (eqP n)))), (7, .d (dI i)), (8, .bx m.D.flat), (9, .bx [.sl 3 [], dB false, .sl 1 [], .sl 1 []])] rfl ⟨rfl, rfl, trivial⟩ ?_
      exact ZH.ls _ (by kernel_rfl) (N3_1 V)
    refine ZH.meet 3 #[true, true, true, true, true, true, true, true, true, true, true, true, true, false, false, false] (fun V => [(V, AV.ow 41 (QsD (addE (zrE n) m.s m.ts)))]) (fun V => [(66, .d (EqV V ⟨false, [], []⟩)), (63, .d (dI m.s)), (65, .d (dI m.ts)), (68, .d (dI m.r)), (70, .d (dI m.tr)), (1, .bx [dI n, MshsD ms, PltsD ps, SpdsD gs]), (3, .ow 83 (EqsD (ms.map (eqM n) ++ (ps.take i).map (eqP n)))), (7, .d (dI i)), (8, .bx m.D.flat)]) (fun V => ?_) (fun N3_0 => ?_)
    · refine ZH.two 13 14 (by kernel_rfl) rfl rfl rfl rfl (fun _ => rfl) (fun _ => rfl) ⟨rfl, rfl, trivial⟩ ?_ ?_
      · refine AZOps.callz tok [0] rfl rfl rfl rfl rfl (by simp) rfl (r51_with_ok V ⟨false, [], []⟩ (addE (zrE n) m.s m.ts) m.r m.tr b1 (by omega) (by omega) (by omega) (Nat.le_trans (s1 _) (by decide))) (fun _ _ h => by rw [h.2]; exact Nat.le_refl _) (fun res R1 hP => ?_)
        obtain ⟨rfl, rfl⟩ := hP
        refine AZOps.nil ?_
        refine ZH.to [71, 1, 3, 7, 8] [(71, .d (EqV V ⟨false, [], []⟩)), (1, .bx [dI n, MshsD ms, PltsD ps, SpdsD gs]), (3, .ow 83 (EqsD (ms.map (eqM n) ++ (ps.take i).map (eqP n)))), (7, .d (dI i)), (8, .bx m.D.flat)] rfl ⟨rfl, rfl, trivial⟩ ?_
        exact ZH.ls _ (by kernel_rfl) (N4_0 V)
      · refine one_step (fun B1 F1 w1 => ?_)
        refine AOps.run tok 1 _ _ _ _ rfl ?_
        refine AOps.nil ⟨rfl, ?_⟩
        refine ZH.to [66, 63, 65, 68, 70, 1, 3, 7, 8, 9] [(66, .d (EqV V ⟨false, [], []⟩)), (63, .d (dI m.s)), (65, .d (dI m.ts)), (68, .d (dI m.r)), (70, .d (dI m.tr)), (1, .bx [dI n, MshsD ms, PltsD ps, SpdsD gs]), (3, .ow 83 (EqsD (ms.map (eqM n) ++ (ps.take i).map (eqP n)))), (7, .d (dI i)), (8, .bx m.D.flat), (9, .bx [.sl 3 [], dB false, .sl 1 [], .sl 1 []])] rfl ⟨rfl, rfl, trivial⟩ ?_
        exact ZH.ls _ (by kernel_rfl) (N3_1 V)
    refine ZH.meet 4 #[true, true, true, false, true, true, true, true, false, true, true, true, true, false, true, false] (fun V => [(V, AV.ow 41 (QsD (zrR (n - 1))))]) (fun V => [(60, .d (.v V)), (63, .d (dI m.s)), (65, .d (dI m.ts)), (68, .d (dI m.r)), (70, .d (dI m.tr)), (1, .bx [dI n, MshsD ms, PltsD ps, SpdsD gs]), (3, .ow 83 (EqsD (ms.map (eqM n) ++ (ps.take i).map (eqP n)))), (7, .d (dI i)), (8, .bx m.D.flat), (9, .bx [.sl 3 [], dB false, .sl 1 [], .sl 1 []])]) (fun V => ?_) (fun N1_1 => ?_)
    · refine ZH.all 3 (by kernel_rfl) rfl rfl (fun _ => rfl) ⟨rfl, rfl, trivial⟩ ?_
      refine one_step (fun B1 F1 w1 => ?_)
      refine AOps.run tok 1 _ _ _ _ rfl ?_
      refine AOps.nil ⟨rfl, ?_⟩
      refine ZH.to [61, 63, 65, 68, 70, 1, 3, 7, 8, 9] [(61, .d (EqV V ⟨false, [], []⟩)), (63, .d (dI m.s)), (65, .d (dI m.ts)), (68, .d (dI m.r)), (70, .d (dI m.tr)), (1, .bx [dI n, MshsD ms, PltsD ps, SpdsD gs]), (3, .ow 83 (EqsD (ms.map (eqM n) ++ (ps.take i).map (eqP n)))), (7, .d (dI i)), (8, .bx m.D.flat), (9, .bx [.sl 3 [], dB false, .sl 1 [], .sl 1 []])] rfl ⟨rfl, rfl, trivial⟩ ?_
      exact ZH.ls _ (by kernel_rfl) (N2_1 V)
    refine ZH.meet 4 #[true, true, true, true, true, true, true, true, false, true, true, true, true, false, false, false] (fun V => [(V, AV.ow 41 (QsD (zrR (n - 1))))]) (fun V => [(61, .d (EqV V ⟨false, [], []⟩)), (63, .d (dI m.s)), (65, .d (dI m.ts)), (68, .d (dI m.r)), (70, .d (dI m.tr)), (1, .bx [dI n, MshsD ms, PltsD ps, SpdsD gs]), (3, .ow 83 (EqsD (ms.map (eqM n) ++ (ps.take i).map (eqP n)))), (7, .d (dI i)), (8, .bx m.D.flat)]) (fun V => ?_) (fun N2_0 => ?_)
    · refine ZH.two 8 14 (by kernel_rfl) rfl rfl rfl rfl (fun _ => rfl) (fun _ => rfl) ⟨rfl, rfl, trivial⟩ ?_ ?_
      · refine AZOps.callz tok [0] rfl rfl rfl rfl rfl (by simp) rfl (r51_with_ok V ⟨false, [], []⟩ (zrE n) m.s m.ts a1 (by omega) (by omega) (by omega) (Nat.le_trans (zs _) (by decide))) (fun _ _ h => by rw [h.2]; exact Nat.le_refl _) (fun res R1 hP => ?_)
        obtain ⟨rfl, rfl⟩ := hP
        refine AZOps.nil ?_
        refine ZH.to [66, 63, 65, 68, 70, 1, 3, 7, 8] [(66, .d (EqV V ⟨false, [], []⟩)), (63, .d (dI m.s)), (65, .d (dI m.ts)), (68, .d (dI m.r)), (70, .d (dI m.tr)), (1, .bx [dI n, MshsD ms, PltsD ps, SpdsD gs]), (3, .ow 83 (EqsD (ms.map (eqM n) ++ (ps.take i).map (eqP n)))), (7, .d (dI i)), (8, .bx m.D.flat)] rfl ⟨rfl, rfl, trivial⟩ ?_
        exact ZH.ls _ (by kernel_rfl) (N3_0 V)
      · refine one_step (fun B1 F1 w1 => ?_)
        refine AOps.run tok 1 _ _ _ _ rfl ?_
        refine AOps.nil ⟨rfl, ?_⟩
        refine ZH.to [61, 63, 65, 68, 70, 1, 3, 7, 8, 9] [(61, .d (EqV V ⟨false, [], []⟩)), (63, .d (dI m.s)), (65, .d (dI m.ts)), (68, .d (dI m.r)), (70, .d (dI m.tr)), (1, .bx [dI n, MshsD ms, PltsD ps, SpdsD gs]), (3, .ow 83 (EqsD (ms.map (eqM n) ++ (ps.take i).map (eqP n)))), (7, .d (dI i)), (8, .bx m.D.flat), (9, .bx [.sl 3 [], dB false, .sl 1 [], .sl 1 []])] rfl ⟨rfl, rfl, trivial⟩ ?_
        exact ZH.ls _ (by kernel_rfl) (N2_1 V)
    refine ZH.meet 5 #[true, true, false, false, true, true, true, true, false, true, true, true, true, false, true, false] (fun V => []) (fun V => [(59, .d (dI n)), (63, .d (dI m.s)), (65, .d (dI m.ts)), (68, .d (dI m.r)), (70, .d (dI m.tr)), (1, .bx [dI n, MshsD ms, PltsD ps, SpdsD gs]), (3, .ow 83 (EqsD (ms.map (eqM n) ++ (ps.take i).map (eqP n)))), (7, .d (dI i)), (8, .bx m.D.flat), (9, .bx [.sl 3 [], dB false, .sl 1 [], .sl 1 []])]) (fun V => ?_) (fun N0_1 => ?_)
    · refine ZH.all 2 (by kernel_rfl) rfl rfl (fun _ => rfl) ⟨rfl, rfl, trivial⟩ ?_
      refine AZOps.cut 1 rfl (fun B1 F1 w1 => ?_)
      refine AOps.makeQ tok (n - 1) rfl rfl rfl rfl rfl rfl rfl (by omega) (by omega) (by omega) ?_
      refine AOps.nil ⟨rfl, ?_⟩
      refine AZOps.loosen 60 rfl rfl rfl (fun V => ?_)
      refine AZOps.to [60, 63, 65, 68, 70, 1, 3, 7, 8, 9] [(60, .d (.v V)), (63, .d (dI m.s)), (65, .d (dI m.ts)), (68, .d (dI m.r)), (70, .d (dI m.tr)), (1, .bx [dI n, MshsD ms, PltsD ps, SpdsD gs]), (3, .ow 83 (EqsD (ms.map (eqM n) ++ (ps.take i).map (eqP n)))), (7, .d (dI i)), (8, .bx m.D.flat), (9, .bx [.sl 3 [], dB false, .sl 1 [], .sl 1 []])] rfl ?_
      refine AZOps.nil ?_
      refine ZH.to [60, 63, 65, 68, 70, 1, 3, 7, 8, 9] [(60, .d (.v V)), (63, .d (dI m.s)), (65, .d (dI m.ts)), (68, .d (dI m.r)), (70, .d (dI m.tr)), (1, .bx [dI n, MshsD ms, PltsD ps, SpdsD gs]), (3, .ow 83 (EqsD (ms.map (eqM n) ++ (ps.take i).map (eqP n)))), (7, .d (dI i)), (8, .bx m.D.flat), (9, .bx [.sl 3 [], dB false, .sl 1 [], .sl 1 []])] rfl ⟨rfl, rfl, trivial⟩ ?_
      exact ZH.ls _ (by kernel_rfl) (N1_1 V)
    refine ZH.meet 5 #[true, true, true, false, true, true, true, true, false, true, true, true, true, false, false, false] (fun V => [(V, AV.ow 41 (QsD (zrR (n - 1))))]) (fun V => [(60, .d (.v V)), (63, .d (dI m.s)), (65, .d (dI m.ts)), (68, .d (dI m.r)), (70, .d (dI m.tr)), (1, .bx [dI n, MshsD ms, PltsD ps, SpdsD gs]), (3, .ow 83 (EqsD (ms.map (eqM n) ++ (ps.take i).map (eqP n)))), (7, .d (dI i)), (8, .bx m.D.flat)]) (fun V => ?_) (fun N1_0 => ?_)
    · refine ZH.two 3 14 (by kernel_rfl) rfl rfl rfl rfl (fun _ => rfl) (fun _ => rfl) ⟨rfl, rfl, trivial⟩ ?_ ?_
      · refine one_step (fun B1 F1 w1 => ?_)
        refine AOps.run tok 1 _ _ _ _ rfl ?_
        refine AOps.nil ⟨rfl, ?_⟩
        refine ZH.to [61, 63, 65, 68, 70, 1, 3, 7, 8] [(61, .d (EqV V ⟨false, [], []⟩)), (63, .d (dI m.s)), (65, .d (dI m.ts)), (68, .d (dI m.r)), (70, .d (dI m.tr)), (1, .bx [dI n, MshsD ms, PltsD ps, SpdsD gs]), (3, .ow 83 (EqsD (ms.map (eqM n) ++ (ps.take i).map (eqP n)))), (7, .d (dI i)), (8, .bx m.D.flat)] rfl ⟨rfl, rfl, trivial⟩ ?_
        exact ZH.ls _ (by kernel_rfl) (N2_0 V)
      · refine one_step (fun B1 F1 w1 => ?_)
        refine AOps.run tok 1 _ _ _ _ rfl ?_
        refine AOps.nil ⟨rfl, ?_⟩
        refine ZH.to [60, 63, 65, 68, 70, 1, 3, 7, 8, 9] [(60, .d (.v V)), (63, .d (dI m.s)), (65, .d (dI m.ts)), (68, .d (dI m.r)), (70, .d (dI m.tr)), (1, .bx [dI n, MshsD ms, PltsD ps, SpdsD gs]), (3, .ow 83 (EqsD (ms.map (eqM n) ++ (ps.take i).map (eqP n)))), (7, .d (dI i)), (8, .bx m.D.flat), (9, .bx [.sl 3 [], dB false, .sl 1 [], .sl 1 []])] rfl ⟨rfl, rfl, trivial⟩ ?_
        exact ZH.ls _ (by kernel_rfl) (N1_1 V)
    refine ZH.meet 6 #[true, true, false, false, true, true, true, true, false, true, true, true, true, false, false, false] (fun V => []) (fun V => [(59, .d (dI n)), (63, .d (dI m.s)), (65, .d (dI m.ts)), (68, .d (dI m.r)), (70, .d (dI m.tr)), (1, .bx [dI n, MshsD ms, PltsD ps, SpdsD gs]), (3, .ow 83 (EqsD (ms.map (eqM n) ++ (ps.take i).map (eqP n)))), (7, .d (dI i)), (8, .bx m.D.flat)]) (fun V => ?_) (fun N0_0 => ?_)
    · refine ZH.two 2 14 (by kernel_rfl) rfl rfl rfl rfl (fun _ => rfl) (fun _ => rfl) ⟨rfl, rfl, trivial⟩ ?_ ?_
      · refine AZOps.cut 1 rfl (fun B1 F1 w1 => ?_)
        refine AOps.makeQ tok (n - 1) rfl rfl rfl rfl rfl rfl rfl (by omega) (by omega) (by omega) ?_
        refine AOps.nil ⟨rfl, ?_⟩
        refine AZOps.loosen 60 rfl rfl rfl (fun V => ?_)
        refine AZOps.to [60, 63, 65, 68, 70, 1, 3, 7, 8] [(60, .d (.v V)), (63, .d (dI m.s)), (65, .d (dI m.ts)), (68, .d (dI m.r)), (70, .d (dI m.tr)), (1, .bx [dI n, MshsD ms, PltsD ps, SpdsD gs]), (3, .ow 83 (EqsD (ms.map (eqM n) ++ (ps.take i).map (eqP n)))), (7, .d (dI i)), (8, .bx m.D.flat)] rfl ?_
        refine AZOps.nil ?_
        refine ZH.to [60, 63, 65, 68, 70, 1, 3, 7, 8] [(60, .d (.v V)), (63, .d (dI m.s)), (65, .d (dI m.ts)), (68, .d (dI m.r)), (70, .d (dI m.tr)), (1, .bx [dI n, MshsD ms, PltsD ps, SpdsD gs]), (3, .ow 83 (EqsD (ms.map (eqM n) ++ (ps.take i).map (eqP n)))), (7, .d (dI i)), (8, .bx m.D.flat)] rfl ⟨rfl, rfl, trivial⟩ ?_
        exact ZH.ls _ (by kernel_rfl) (N1_0 V)
      · refine one_step (fun B1 F1 w1 => ?_)
        refine AOps.run tok 1 _ _ _ _ rfl ?_
        refine AOps.nil ⟨rfl, ?_⟩
        refine ZH.to [59, 63, 65, 68, 70, 1, 3, 7, 8, 9] [(59, .d (dI n)), (63, .d (dI m.s)), (65, .d (dI m.ts)), (68, .d (dI m.r)), (70, .d (dI m.tr)), (1, .bx [dI n, MshsD ms, PltsD ps, SpdsD gs]), (3, .ow 83 (EqsD (ms.map (eqM n) ++ (ps.take i).map (eqP n)))), (7, .d (dI i)), (8, .bx m.D.flat), (9, .bx [.sl 3 [], dB false, .sl 1 [], .sl 1 []])] rfl ⟨rfl, rfl, trivial⟩ ?_
        exact ZH.ls _ (by kernel_rfl) (N0_1 V)
    refine ZH.to [59, 63, 65, 68, 70, 1, 3, 7, 8] [(59, .d (dI n)), (63, .d (dI m.s)), (65, .d (dI m.ts)), (68, .d (dI m.r)), (70, .d (dI m.tr)), (1, .bx [dI n, MshsD ms, PltsD ps, SpdsD gs]), (3, .ow 83 (EqsD (ms.map (eqM n) ++ (ps.take i).map (eqP n)))), (7, .d (dI i)), (8, .bx m.D.flat)] rfl ⟨rfl, rfl, trivial⟩ ?_
    exact ZH.ls _ (by kernel_rfl) (N0_0 nilS)
  have hin : ¬ i < ps.length := by have := of_decide_eq_false h; omega
  have hie : i = ps.length := by omega
  subst hie
  rw [List.take_length]
  refine AZ.exit ?_
  refine AZ.seq ?_
  refine AZ.seq ?_
  refine AZ.reg (fun B1 F1 w1 => ?_)
  refine AOps.run tok 1 _ _ _ _ rfl ?_
  refine AOps.nil ⟨rfl, ?_⟩
  refine AZ.block ?_
  refine AZ.loopS [1, 3, 10] (fun i : Nat => ([], [(1, .bx [dI n, MshsD ms, PltsD ps, SpdsD gs]), (3, .ow 83 (EqsD (ms.map (eqM n) ++ ps.map (eqP n) ++ (gs.take i).map (eqS n)))), (10, .d (dI i))])) (fun i => i ≤ gs.length) (fun i => gs.length - i) 0 (by rw [List.take_zero, List.map_nil, List.append_nil]; rfl) (Nat.zero_le _) (fun i hi => ?_)
  show AZ _ _ _ _ _ _ _ [] [(1, .bx [dI n, MshsD ms, PltsD ps, SpdsD gs]), (3, .ow 83 (EqsD (ms.map (eqM n) ++ ps.map (eqP n) ++ (gs.take i).map (eqS n)))), (10, .d (dI i))]
  refine AZ.seq ?_
  refine AZ.seq ?_
  refine AZ.reg (fun B1 F1 w1 => ?_)
  refine AOps.run tok 4 _ _ _ _ rfl ?_
  rw [List.length_map]
  refine AOps.run tok 1 _ _ _ _ rfl ?_
  refine AOps.nil ⟨rfl, ?_⟩
  refine AZ.cond rfl (fun h => ?_) (fun h => ?_)
  · have hin : i < gs.length := by have := of_decide_eq_true h; omega
    have hid : (gs.map Spd.D)[i]? = some (gs.getD i default).D := getM Spd.D hin
    have hmi := spdE_ok (hg i hin)
    have hmw := hgw i
    have htk := take_snoc gs hin
    have hln : (EqsD (ms.map (eqM n) ++ ps.map (eqP n) ++ (gs.take i).map (eqS n))).length = ms.length + ps.length + i := by rw [List.length_map, List.length_append, List.length_append, List.length_map, List.length_map, List.length_map, List.length_take]; omega
    generalize gs.getD i default = m at hid hmi hmw htk
    obtain ⟨⟨a1, a2⟩, b1⟩ := hmi
    have hcv := RD.canon hmw b1
    refine AZ.skip ?_
    refine AZ.seq ?_
    refine AZ.block ?_
    refine AZ.seq ?_
    refine AZ.any hmix (ZH.any (β := [(1, [dI n, MshsD ms, PltsD ps, SpdsD gs])]) ?_)
    refine ZH.fd tok 0 rfl rfl (by kernel_rfl) (by kernel_rfl) (by kernel_rfl) rfl (fun _ _ _ h => h) (fun _ => rfl) ⟨rfl, trivial⟩ (fun B1 F1 w1 => ?_)
    refine AOps.run tok 1 _ _ _ _ rfl ?_
    refine AOps.nil ⟨rfl, ?_⟩
    refine ZH.ld tok 1 rfl rfl (by kernel_rfl) (by kernel_rfl) (by kernel_rfl) rfl rfl (fun _ _ _ h => h) (fun _ => rfl) ⟨rfl, trivial⟩ (fun B1 F1 w1 => ?_)
    refine AOps.run tok 1 _ _ _ _ rfl ?_
    refine AOps.nil ⟨rfl, ?_⟩
    refine ZH.fd tok 4 rfl rfl (by kernel_rfl) (by kernel_rfl) (by kernel_rfl) rfl (fun _ _ _ h => h) (fun _ => rfl) ⟨rfl, trivial⟩ (fun B1 F1 w1 => ?_)
    refine AOps.run tok 1 _ _ _ _ rfl ?_
    refine AOps.nil ⟨rfl, ?_⟩
    refine ZH.mv 6 rfl rfl (by kernel_rfl) (by kernel_rfl) (by kernel_rfl) rfl (fun _ _ _ h => h) (fun _ => rfl) ⟨rfl, trivial⟩ (fun B1 F1 w1 => ?_)
    refine AOps.run tok 1 _ _ _ _ rfl ?_
    refine AOps.nil ⟨rfl, ?_⟩
    refine ZH.meet 1 #[true, true, true, true, true, true, true, true, true, true, true, true, false] (fun V => [(V, AV.ow 41 (QsD (addE (zrE n) m.sh 1)))]) (fun V => [(102, .d (EqV V ⟨false, [], []⟩)), (1, .bx [dI n, MshsD ms, PltsD ps, SpdsD gs]), (3, .ow 83 (EqsD (ms.map (eqM n) ++ ps.map (eqP n) ++ (gs.take i).map (eqS n)))), (10, .d (dI i)), (11, .bx [.sl 3 [], dB false, .sl 1 [], .sl 1 []])]) (fun V => ?_) (fun N2_4_1_1 => ?_)
    · refine ZH.all 12 (by kernel_rfl) rfl rfl (fun _ => rfl) ⟨rfl, trivial⟩ ?_
      refine one_step (fun B1 F1 w1 => ?_)
      refine AOps.run tok 1 _ _ _ _ rfl ?_
      refine AOps.nil ⟨rfl, ?_⟩
      refine ZH.done (by kernel_rfl) ⟨rfl, trivial⟩ ?_
      refine AZ.to [1, 3, 10, 11] [(1, .bx [dI n, MshsD ms, PltsD ps, SpdsD gs]), (3, .ow 83 (EqsD (ms.map (eqM n) ++ ps.map (eqP n) ++ (gs.take i).map (eqS n)))), (10, .d (dI i)), (11, .bx [.v V, dB false, .sl 1 [], .sl 1 []])] rfl ?_
      refine AZ.seq ?_
      refine AZ.reg (fun B1 F1 w1 => ?_)
      refine AOps.run tok 3 _ _ _ _ rfl ?_
      refine AOps.idx tok m.D rfl rfl rfl rfl (Int.natCast_nonneg i) hid ?_
      refine AOps.run tok 4 _ _ _ _ rfl ?_
      refine AOps.nil ⟨rfl, ?_⟩
      refine AZ.to [1, 3, 10, 11] [(1, .bx [dI n, MshsD ms, PltsD ps, SpdsD gs]), (3, .ow 83 (EqsD (ms.map (eqM n) ++ ps.map (eqP n) ++ (gs.take i).map (eqS n)))), (10, .d (dI i)), (11, .bx [.v V, dB m.v.g, Wd m.v.n, Wd m.v.d])] rfl ?_
      rw [hcv]
      refine AZ.region ?_
      refine AZOps.cut 2 rfl (fun B1 F1 w1 => ?_)
      refine AOps.run tok 2 _ _ _ _ rfl ?_
      refine AOps.nil ⟨rfl, ?_⟩
      refine AZOps.frzd tok 111 0 0 rfl rfl rfl rfl ?_
      refine AZOps.forget ?_
      refine AZOps.to [111, 110, 1, 3, 10] [(111, .d (EqD (eqS n m))), (110, .al 3), (1, .bx [dI n, MshsD ms, PltsD ps, SpdsD gs]), (3, .ow 83 (EqsD (ms.map (eqM n) ++ ps.map (eqP n) ++ (gs.take i).map (eqS n)))), (10, .d (dI i))] rfl ?_
      refine AZOps.cut 3 rfl (fun B1 F1 w1 => ?_)
      refine AOps.bsd tok rfl rfl rfl rfl rfl ?_
      refine AOps.appo tok rfl rfl rfl rfl rfl rfl (by show ((EqsD (ms.map (eqM n) ++ ps.map (eqP n) ++ (gs.take i).map (eqS n))).length + 1) * 80 ≤ _; rw [hln]; omega) (by show (EqsD (ms.map (eqM n) ++ ps.map (eqP n) ++ (gs.take i).map (eqS n))).length + 1 ≤ _; rw [hln]; omega) ?_
      refine AOps.run tok 1 _ _ _ _ rfl ?_
      refine AOps.nil ⟨rfl, ?_⟩
      refine AZOps.nil ?_
      refine AZ.reg (fun B1 F1 w1 => ?_)
      refine AOps.run tok 2 _ _ _ _ rfl ?_
      rw [wI64 (x := (i : Int) + 1) (by omega) (by omega)]
      refine AOps.run tok 1 _ _ _ _ rfl ?_
      refine AOps.nil ⟨rfl, ?_⟩
      refine ⟨i + 1, Prod.ext rfl ?_, hin, by omega⟩
      show _ = [(1, AV.bx [dI n, MshsD ms, PltsD ps, SpdsD gs]), (3, .ow 83 (EqsD (ms.map (eqM n) ++ ps.map (eqP n) ++ (gs.take (i + 1)).map (eqS n)))), (10, .d (dI ((i + 1 : Nat) : Int)))]
      rw [show EqsD (ms.map (eqM n) ++ ps.map (eqP n) ++ (gs.take (i + 1)).map (eqS n)) = EqsD (ms.map (eqM n) ++ ps.map (eqP n) ++ (gs.take i).map (eqS n)) ++ [EqD (eqS n m)] by rw [htk, List.map_append, List.map_cons, List.map_nil, ← List.append_assoc]; exact List.map_append]
      rfl
    refine ZH.meet 2 #[true, true, true, true, true, true, true, true, true, true, true, false, false] (fun V => [(V, AV.ow 41 (QsD (addE (zrE n) m.sh 1)))]) (fun V => [(102, .d (EqV V ⟨false, [], []⟩)), (1, .bx [dI n, MshsD ms, PltsD ps, SpdsD gs]), (3, .ow 83 (EqsD (ms.map (eqM n) ++ ps.map (eqP n) ++ (gs.take i).map (eqS n)))), (10, .d (dI i))]) (fun V => ?_) (fun N2_4_0_1 => ?_)
    · refine ZH.all 11 (by kernel_rfl) rfl rfl (fun _ => rfl) ⟨rfl, trivial⟩ ?_
      refine one_step (fun B1 F1 w1 => ?_)
      refine AOps.run tok 1 _ _ _ _ rfl ?_
      refine AOps.nil ⟨rfl, ?_⟩
      refine ZH.to [102, 1, 3, 10, 11] [(102, .d (EqV V ⟨false, [], []⟩)), (1, .bx [dI n, MshsD ms, PltsD ps, SpdsD gs]), (3, .ow 83 (EqsD (ms.map (eqM n) ++ ps.map (eqP n) ++ (gs.take i).map (eqS n)))), (10, .d (dI i)), (11, .bx [.sl 3 [], dB false, .sl 1 [], .sl 1 []])] rfl ⟨rfl, trivial⟩ ?_
      exact ZH.ls _ (by kernel_rfl) (N2_4_1_1 V)
    refine ZH.meet 2 #[true, true, true, true, true, true, true, true, true, true, false, true, false] (fun V => [(V, AV.ow 41 (QsD (zrR (n - 1))))]) (fun V => [(95, .d (EqV V ⟨false, [], []⟩)), (101, .d (dI m.sh)), (1, .bx [dI n, MshsD ms, PltsD ps, SpdsD gs]), (3, .ow 83 (EqsD (ms.map (eqM n) ++ ps.map (eqP n) ++ (gs.take i).map (eqS n)))), (10, .d (dI i)), (11, .bx [.sl 3 [], dB false, .sl 1 [], .sl 1 []])]) (fun V => ?_) (fun N2_4_1_0 => ?_)
    · refine ZH.all 10 (by kernel_rfl) rfl rfl (fun _ => rfl) ⟨rfl, trivial⟩ ?_
      refine AZOps.callz tok [0] rfl rfl rfl rfl rfl (by simp) rfl (r51_with_ok V ⟨false, [], []⟩ (zrE n) m.sh 1 a1 (by omega) (by omega) (by omega) (Nat.le_trans (zs _) (by decide))) (fun _ _ h => by rw [h.2]; exact Nat.le_refl _) (fun res R1 hP => ?_)
      obtain ⟨rfl, rfl⟩ := hP
      refine AZOps.nil ?_
      refine ZH.to [102, 1, 3, 10, 11] [(102, .d (EqV V ⟨false, [], []⟩)), (1, .bx [dI n, MshsD ms, PltsD ps, SpdsD gs]), (3, .ow 83 (EqsD (ms.map (eqM n) ++ ps.map (eqP n) ++ (gs.take i).map (eqS n)))), (10, .d (dI i)), (11, .bx [.sl 3 [], dB false, .sl 1 [], .sl 1 []])] rfl ⟨rfl, trivial⟩ ?_
      exact ZH.ls _ (by kernel_rfl) (N2_4_1_1 V)
    refine ZH.meet 3 #[true, true, true, false, true, true, true, true, true, true, false, true, false] (fun V => [(V, AV.ow 41 (QsD (zrR (n - 1))))]) (fun V => [(94, .d (.v V)), (101, .d (dI m.sh)), (1, .bx [dI n, MshsD ms, PltsD ps, SpdsD gs]), (3, .ow 83 (EqsD (ms.map (eqM n) ++ ps.map (eqP n) ++ (gs.take i).map (eqS n)))), (10, .d (dI i)), (11, .bx [.sl 3 [], dB false, .sl 1 [], .sl 1 []])]) (fun V => ?_) (fun N1_4_1_0 => ?_)
    · refine ZH.all 3 (by kernel_rfl) rfl rfl (fun _ => rfl) ⟨rfl, trivial⟩ ?_
      refine one_step (fun B1 F1 w1 => ?_)
      refine AOps.run tok 1 _ _ _ _ rfl ?_
      refine AOps.nil ⟨rfl, ?_⟩
      refine ZH.to [95, 101, 1, 3, 10, 11] [(95, .d (EqV V ⟨false, [], []⟩)), (101, .d (dI m.sh)), (1, .bx [dI n, MshsD ms, PltsD ps, SpdsD gs]), (3, .ow 83 (EqsD (ms.map (eqM n) ++ ps.map (eqP n) ++ (gs.take i).map (eqS n)))), (10, .d (dI i)), (11, .bx [.sl 3 [], dB false, .sl 1 [], .sl 1 []])] rfl ⟨rfl, trivial⟩ ?_
      exact ZH.ls _ (by kernel_rfl) (N2_4_1_0 V)
    refine ZH.meet 3 #[true, true, true, true, true, true, true, true, true, false, false, true, false] (fun V => [(V, AV.ow 41 (QsD (zrR (n - 1))))]) (fun V => [(95, .d (EqV V ⟨false, [], []⟩)), (100, .rf m.D.flat), (1, .bx [dI n, MshsD ms, PltsD ps, SpdsD gs]), (3, .ow 83 (EqsD (ms.map (eqM n) ++ ps.map (eqP n) ++ (gs.take i).map (eqS n)))), (10, .d (dI i)), (11, .bx [.sl 3 [], dB false, .sl 1 [], .sl 1 []])]) (fun V => ?_) (fun N2_3_1_0 => ?_)
    · refine ZH.all 9 (by kernel_rfl) rfl rfl (fun _ => rfl) ⟨rfl, trivial⟩ ?_
      refine one_step (fun B1 F1 w1 => ?_)
      refine AOps.run tok 1 _ _ _ _ rfl ?_
      refine AOps.nil ⟨rfl, ?_⟩
      refine ZH.to [95, 101, 1, 3, 10, 11] [(95, .d (EqV V ⟨false, [], []⟩)), (101, .d (dI m.sh)), (1, .bx [dI n, MshsD ms, PltsD ps, SpdsD gs]), (3, .ow 83 (EqsD (ms.map (eqM n) ++ ps.map (eqP n) ++ (gs.take i).map (eqS n)))), (10, .d (dI i)), (11, .bx [.sl 3 [], dB false, .sl 1 [], .sl 1 []])] rfl ⟨rfl, trivial⟩ ?_
      exact ZH.ls _ (by kernel_rfl) (N2_4_1_0 V)
    refine ZH.meet 3 #[true, true, true, true, true, true, true, true, true, true, false, false, false] (fun V => [(V, AV.ow 41 (QsD (zrR (n - 1))))]) (fun V => [(95, .d (EqV V ⟨false, [], []⟩)), (101, .d (dI m.sh)), (1, .bx [dI n, MshsD ms, PltsD ps, SpdsD gs]), (3, .ow 83 (EqsD (ms.map (eqM n) ++ ps.map (eqP n) ++ (gs.take i).map (eqS n)))), (10, .d (dI i))]) (fun V => ?_) (fun N2_4_0_0 => ?_)
    · refine ZH.two 10 11 (by kernel_rfl) rfl rfl rfl rfl (fun _ => rfl) (fun _ => rfl) ⟨rfl, trivial⟩ ?_ ?_
      · refine AZOps.callz tok [0] rfl rfl rfl rfl rfl (by simp) rfl (r51_with_ok V ⟨false, [], []⟩ (zrE n) m.sh 1 a1 (by omega) (by omega) (by omega) (Nat.le_trans (zs _) (by decide))) (fun _ _ h => by rw [h.2]; exact Nat.le_refl _) (fun res R1 hP => ?_)
        obtain ⟨rfl, rfl⟩ := hP
        refine AZOps.nil ?_
        refine ZH.to [102, 1, 3, 10] [(102, .d (EqV V ⟨false, [], []⟩)), (1, .bx [dI n, MshsD ms, PltsD ps, SpdsD gs]), (3, .ow 83 (EqsD (ms.map (eqM n) ++ ps.map (eqP n) ++ (gs.take i).map (eqS n)))), (10, .d (dI i))] rfl ⟨rfl, trivial⟩ ?_
        exact ZH.ls _ (by kernel_rfl) (N2_4_0_1 V)
      · refine one_step (fun B1 F1 w1 => ?_)
        refine AOps.run tok 1 _ _ _ _ rfl ?_
        refine AOps.nil ⟨rfl, ?_⟩
        refine ZH.to [95, 101, 1, 3, 10, 11] [(95, .d (EqV V ⟨false, [], []⟩)), (101, .d (dI m.sh)), (1, .bx [dI n, MshsD ms, PltsD ps, SpdsD gs]), (3, .ow 83 (EqsD (ms.map (eqM n) ++ ps.map (eqP n) ++ (gs.take i).map (eqS n)))), (10, .d (dI i)), (11, .bx [.sl 3 [], dB false, .sl 1 [], .sl 1 []])] rfl ⟨rfl, trivial⟩ ?_
        exact ZH.ls _ (by kernel_rfl) (N2_4_1_0 V)
    refine ZH.meet 4 #[true, true, false, false, true, true, true, true, true, true, false, true, false] (fun V => []) (fun V => [(93, .d (dI n)), (101, .d (dI m.sh)), (1, .bx [dI n, MshsD ms, PltsD ps, SpdsD gs]), (3, .ow 83 (EqsD (ms.map (eqM n) ++ ps.map (eqP n) ++ (gs.take i).map (eqS n)))), (10, .d (dI i)), (11, .bx [.sl 3 [], dB false, .sl 1 [], .sl 1 []])]) (fun V => ?_) (fun N0_4_1_0 => ?_)
    · refine ZH.all 2 (by kernel_rfl) rfl rfl (fun _ => rfl) ⟨rfl, trivial⟩ ?_
      refine AZOps.cut 1 rfl (fun B1 F1 w1 => ?_)
      refine AOps.makeQ tok (n - 1) rfl rfl rfl rfl rfl rfl rfl (by omega) (by omega) (by omega) ?_
      refine AOps.nil ⟨rfl, ?_⟩
      refine AZOps.loosen 94 rfl rfl rfl (fun V => ?_)
      refine AZOps.to [94, 101, 1, 3, 10, 11] [(94, .d (.v V)), (101, .d (dI m.sh)), (1, .bx [dI n, MshsD ms, PltsD ps, SpdsD gs]), (3, .ow 83 (EqsD (ms.map (eqM n) ++ ps.map (eqP n) ++ (gs.take i).map (eqS n)))), (10, .d (dI i)), (11, .bx [.sl 3 [], dB false, .sl 1 [], .sl 1 []])] rfl ?_
      refine AZOps.nil ?_
      refine ZH.to [94, 101, 1, 3, 10, 11] [(94, .d (.v V)), (101, .d (dI m.sh)), (1, .bx [dI n, MshsD ms, PltsD ps, SpdsD gs]), (3, .ow 83 (EqsD (ms.map (eqM n) ++ ps.map (eqP n) ++ (gs.take i).map (eqS n)))), (10, .d (dI i)), (11, .bx [.sl 3 [], dB false, .sl 1 [], .sl 1 []])] rfl ⟨rfl, trivial⟩ ?_
      exact ZH.ls _ (by kernel_rfl) (N1_4_1_0 V)
    refine ZH.meet 4 #[true, true, true, false, true, true, true, true, true, false, false, true, false] (fun V => [(V, AV.ow 41 (QsD (zrR (n - 1))))]) (fun V => [(94, .d (.v V)), (100, .rf m.D.flat), (1, .bx [dI n, MshsD ms, PltsD ps, SpdsD gs]), (3, .ow 83 (EqsD (ms.map (eqM n) ++ ps.map (eqP n) ++ (gs.take i).map (eqS n)))), (10, .d (dI i)), (11, .bx [.sl 3 [], dB false, .sl 1 [], .sl 1 []])]) (fun V => ?_) (fun N1_3_1_0 => ?_)
    · refine ZH.two 3 9 (by kernel_rfl) rfl rfl rfl rfl (fun _ => rfl) (fun _ => rfl) ⟨rfl, trivial⟩ ?_ ?_
      · refine one_step (fun B1 F1 w1 => ?_)
        refine AOps.run tok 1 _ _ _ _ rfl ?_
        refine AOps.nil ⟨rfl, ?_⟩
        refine ZH.to [95, 100, 1, 3, 10, 11] [(95, .d (EqV V ⟨false, [], []⟩)), (100, .rf m.D.flat), (1, .bx [dI n, MshsD ms, PltsD ps, SpdsD gs]), (3, .ow 83 (EqsD (ms.map (eqM n) ++ ps.map (eqP n) ++ (gs.take i).map (eqS n)))), (10, .d (dI i)), (11, .bx [.sl 3 [], dB false, .sl 1 [], .sl 1 []])] rfl ⟨rfl, trivial⟩ ?_
        exact ZH.ls _ (by kernel_rfl) (N2_3_1_0 V)
      · refine one_step (fun B1 F1 w1 => ?_)
        refine AOps.run tok 1 _ _ _ _ rfl ?_
        refine AOps.nil ⟨rfl, ?_⟩
        refine ZH.to [94, 101, 1, 3, 10, 11] [(94, .d (.v V)), (101, .d (dI m.sh)), (1, .bx [dI n, MshsD ms, PltsD ps, SpdsD gs]), (3, .ow 83 (EqsD (ms.map (eqM n) ++ ps.map (eqP n) ++ (gs.take i).map (eqS n)))), (10, .d (dI i)), (11, .bx [.sl 3 [], dB false, .sl 1 [], .sl 1 []])] rfl ⟨rfl, trivial⟩ ?_
        exact ZH.ls _ (by kernel_rfl) (N1_4_1_0 V)
    refine ZH.meet 4 #[true, true, true, false, true, true, true, true, true, true, false, false, false] (fun V => [(V, AV.ow 41 (QsD (zrR (n - 1))))]) (fun V => [(94, .d (.v V)), (101, .d (dI m.sh)), (1, .bx [dI n, MshsD ms, PltsD ps, SpdsD gs]), (3, .ow 83 (EqsD (ms.map (eqM n) ++ ps.map (eqP n) ++ (gs.take i).map (eqS n)))), (10, .d (dI i))]) (fun V => ?_) (fun N1_4_0_0 => ?_)
    · refine ZH.two 3 11 (by kernel_rfl) rfl rfl rfl rfl (fun _ => rfl) (fun _ => rfl) ⟨rfl, trivial⟩ ?_ ?_
      · refine one_step (fun B1 F1 w1 => ?_)
        refine AOps.run tok 1 _ _ _ _ rfl ?_
        refine AOps.nil ⟨rfl, ?_⟩
        refine ZH.to [95, 101, 1, 3, 10] [(95, .d (EqV V ⟨false, [], []⟩)), (101, .d (dI m.sh)), (1, .bx [dI n, MshsD ms, PltsD ps, SpdsD gs]), (3, .ow 83 (EqsD (ms.map (eqM n) ++ ps.map (eqP n) ++ (gs.take i).map (eqS n)))), (10, .d (dI i))] rfl ⟨rfl, trivial⟩ ?_
        exact ZH.ls _ (by kernel_rfl) (N2_4_0_0 V)
      · refine one_step (fun B1 F1 w1 => ?_)
        refine AOps.run tok 1 _ _ _ _ rfl ?_
        refine AOps.nil ⟨rfl, ?_⟩
        refine ZH.to [94, 101, 1, 3, 10, 11] [(94, .d (.v V)), (101, .d (dI m.sh)), (1, .bx [dI n, MshsD ms, PltsD ps, SpdsD gs]), (3, .ow 83 (EqsD (ms.map (eqM n) ++ ps.map (eqP n) ++ (gs.take i).map (eqS n)))), (10, .d (dI i)), (11, .bx [.sl 3 [], dB false, .sl 1 [], .sl 1 []])] rfl ⟨rfl, trivial⟩ ?_
        exact ZH.ls _ (by kernel_rfl) (N1_4_1_0 V)
    refine ZH.meet 4 #[true, true, true, true, true, true, true, true, false, false, false, true, false] (fun V => [(V, AV.ow 41 (QsD (zrR (n - 1))))]) (fun V => [(95, .d (EqV V ⟨false, [], []⟩)), (99, .rf m.D.flat), (1, .bx [dI n, MshsD ms, PltsD ps, SpdsD gs]), (3, .ow 83 (EqsD (ms.map (eqM n) ++ ps.map (eqP n) ++ (gs.take i).map (eqS n)))), (10, .d (dI i)), (11, .bx [.sl 3 [], dB false, .sl 1 [], .sl 1 []])]) (fun V => ?_) (fun N2_2_1_0 => ?_)
    · refine ZH.all 8 (by kernel_rfl) rfl rfl (fun _ => rfl) ⟨rfl, trivial⟩ ?_
      refine one_step (fun B1 F1 w1 => ?_)
      refine AOps.run tok 1 _ _ _ _ rfl ?_
      refine AOps.nil ⟨rfl, ?_⟩
      refine ZH.to [95, 100, 1, 3, 10, 11] [(95, .d (EqV V ⟨false, [], []⟩)), (100, .rf m.D.flat), (1, .bx [dI n, MshsD ms, PltsD ps, SpdsD gs]), (3, .ow 83 (EqsD (ms.map (eqM n) ++ ps.map (eqP n) ++ (gs.take i).map (eqS n)))), (10, .d (dI i)), (11, .bx [.sl 3 [], dB false, .sl 1 [], .sl 1 []])] rfl ⟨rfl, trivial⟩ ?_
      exact ZH.ls _ (by kernel_rfl) (N2_3_1_0 V)
    refine ZH.meet 4 #[true, true, true, true, true, true, true, true, true, false, false, false, false] (fun V => [(V, AV.ow 41 (QsD (zrR (n - 1))))]) (fun V => [(95, .d (EqV V ⟨false, [], []⟩)), (100, .rf m.D.flat), (1, .bx [dI n, MshsD ms, PltsD ps, SpdsD gs]), (3, .ow 83 (EqsD (ms.map (eqM n) ++ ps.map (eqP n) ++ (gs.take i).map (eqS n)))), (10, .d (dI i))]) (fun V => ?_) (fun N2_3_0_0 => ?_)
    · refine ZH.two 9 11 (by kernel_rfl) rfl rfl rfl rfl (fun _ => rfl) (fun _ => rfl) ⟨rfl, trivial⟩ ?_ ?_
      · refine one_step (fun B1 F1 w1 => ?_)
        refine AOps.run tok 1 _ _ _ _ rfl ?_
        refine AOps.nil ⟨rfl, ?_⟩
        refine ZH.to [95, 101, 1, 3, 10] [(95, .d (EqV V ⟨false, [], []⟩)), (101, .d (dI m.sh)), (1, .bx [dI n, MshsD ms, PltsD ps, SpdsD gs]), (3, .ow 83 (EqsD (ms.map (eqM n) ++ ps.map (eqP n) ++ (gs.take i).map (eqS n)))), (10, .d (dI i))] rfl ⟨rfl, trivial⟩ ?_
        exact ZH.ls _ (by kernel_rfl) (N2_4_0_0 V)
      · refine one_step (fun B1 F1 w1 => ?_)
        refine AOps.run tok 1 _ _ _ _ rfl ?_
        refine AOps.nil ⟨rfl, ?_⟩
        refine ZH.to [95, 100, 1, 3, 10, 11] [(95, .d (EqV V ⟨false, [], []⟩)), (100, .rf m.D.flat), (1, .bx [dI n, MshsD ms, PltsD ps, SpdsD gs]), (3, .ow 83 (EqsD (ms.map (eqM n) ++ ps.map (eqP n) ++ (gs.take i).map (eqS n)))), (10, .d (dI i)), (11, .bx [.sl 3 [], dB false, .sl 1 [], .sl 1 []])] rfl ⟨rfl, trivial⟩ ?_
        exact ZH.ls _ (by kernel_rfl) (N2_3_1_0 V)
    refine ZH.meet 5 #[true, true, false, false, true, true, true, true, true, false, false, true, false] (fun V => []) (fun V => [(93, .d (dI n)), (100, .rf m.D.flat), (1, .bx [dI n, MshsD ms, PltsD ps, SpdsD gs]), (3, .ow 83 (EqsD (ms.map (eqM n) ++ ps.map (eqP n) ++ (gs.take i).map (eqS n)))), (10, .d (dI i)), (11, .bx [.sl 3 [], dB false, .sl 1 [], .sl 1 []])]) (fun V => ?_) (fun N0_3_1_0 => ?_)
    · refine ZH.two 2 9 (by kernel_rfl) rfl rfl rfl rfl (fun _ => rfl) (fun _ => rfl) ⟨rfl, trivial⟩ ?_ ?_
      · refine AZOps.cut 1 rfl (fun B1 F1 w1 => ?_)
        refine AOps.makeQ tok (n - 1) rfl rfl rfl rfl rfl rfl rfl (by omega) (by omega) (by omega) ?_
        refine AOps.nil ⟨rfl, ?_⟩
        refine AZOps.loosen 94 rfl rfl rfl (fun V => ?_)
        refine AZOps.to [94, 100, 1, 3, 10, 11] [(94, .d (.v V)), (100, .rf m.D.flat), (1, .bx [dI n, MshsD ms, PltsD ps, SpdsD gs]), (3, .ow 83 (EqsD (ms.map (eqM n) ++ ps.map (eqP n) ++ (gs.take i).map (eqS n)))), (10, .d (dI i)), (11, .bx [.sl 3 [], dB false, .sl 1 [], .sl 1 []])] rfl ?_
        refine AZOps.nil ?_
        refine ZH.to [94, 100, 1, 3, 10, 11] [(94, .d (.v V)), (100, .rf m.D.flat), (1, .bx [dI n, MshsD ms, PltsD ps, SpdsD gs]), (3, .ow 83 (EqsD (ms.map (eqM n) ++ ps.map (eqP n) ++ (gs.take i).map (eqS n)))), (10, .d (dI i)), (11, .bx [.sl 3 [], dB false, .sl 1 [], .sl 1 []])] rfl ⟨rfl, trivial⟩ ?_
        exact ZH.ls _ (by kernel_rfl) (N1_3_1_0 V)
      · refine one_step (fun B1 F1 w1 => ?_)
        refine AOps.run tok 1 _ _ _ _ rfl ?_
        refine AOps.nil ⟨rfl, ?_⟩
        refine ZH.to [93, 101, 1, 3, 10, 11] [(93, .d (dI n)), (101, .d (dI m.sh)), (1, .bx [dI n, MshsD ms, PltsD ps, SpdsD gs]), (3, .ow 83 (EqsD (ms.map (eqM n) ++ ps.map (eqP n) ++ (gs.take i).map (eqS n)))), (10, .d (dI i)), (11, .bx [.sl 3 [], dB false, .sl 1 [], .sl 1 []])] rfl ⟨rfl, trivial⟩ ?_
        exact ZH.ls _ (by kernel_rfl) (N0_4_1_0 V)
    refine ZH.meet 5 #[true, true, false, false, true, true, true, true, true, true, false, false, false] (fun V => []) (fun V => [(93, .d (dI n)), (101, .d (dI m.sh)), (1, .bx [dI n, MshsD ms, PltsD ps, SpdsD gs]), (3, .ow 83 (EqsD (ms.map (eqM n) ++ ps.map (eqP n) ++ (gs.take i).map (eqS n)))), (10, .d (dI i))]) (fun V => ?_) (fun N0_4_0_0 => ?_)
    · refine ZH.two 2 11 (by kernel_rfl) rfl rfl rfl rfl (fun _ => rfl) (fun _ => rfl) ⟨rfl, trivial⟩ ?_ ?_
      · refine AZOps.cut 1 rfl (fun B1 F1 w1 => ?_)
        refine AOps.makeQ tok (n - 1) rfl rfl rfl rfl rfl rfl rfl (by omega) (by omega) (by omega) ?_
        refine AOps.nil ⟨rfl, ?_⟩
        refine AZOps.loosen 94 rfl rfl rfl (fun V => ?_)
        refine AZOps.to [94, 101, 1, 3, 10] [(94, .d (.v V)), (101, .d (dI m.sh)), (1, .bx [dI n, MshsD ms, PltsD ps, SpdsD gs]), (3, .ow 83 (EqsD (ms.map (eqM n) ++ ps.map (eqP n) ++ (gs.take i).map (eqS n)))), (10, .d (dI i))] rfl ?_
        refine AZOps.nil ?_
        refine ZH.to [94, 101, 1, 3, 10] [(94, .d (.v V)), (101, .d (dI m.sh)), (1, .bx [dI n, MshsD ms, PltsD ps, SpdsD gs]), (3, .ow 83 (EqsD (ms.map (eqM n) ++ ps.map (eqP n) ++ (gs.take i).map (eqS n)))), (10, .d (dI i))] rfl ⟨rfl, trivial⟩ ?_
        exact ZH.ls _ (by kernel_rfl) (N1_4_0_0 V)
      · refine one_step (fun B1 F1 w1 => ?_)
        refine AOps.run tok 1 _ _ _ _ rfl ?_
        refine AOps.nil ⟨rfl, ?_⟩
        refine ZH.to [93, 101, 1, 3, 10, 11] [(93, .d (dI n)), (101, .d (dI m.sh)), (1, .bx [dI n, MshsD ms, PltsD ps, SpdsD gs]), (3, .ow 83 (EqsD (ms.map (eqM n) ++ ps.map (eqP n) ++ (gs.take i).map (eqS n)))), (10, .d (dI i)), (11, .bx [.sl 3 [], dB false, .sl 1 [], .sl 1 []])] rfl ⟨rfl, trivial⟩ ?_
        exact ZH.ls _ (by kernel_rfl) (N0_4_1_0 V)
    refine ZH.meet 5 #[true, true, true, false, true, true, true, true, false, false, false, true, false] (fun V => [(V, AV.ow 41 (QsD (zrR (n - 1))))]) (fun V => [(94, .d (.v V)), (99, .rf m.D.flat), (1, .bx [dI n, MshsD ms, PltsD ps, SpdsD gs]), (3, .ow 83 (EqsD (ms.map (eqM n) ++ ps.map (eqP n) ++ (gs.take i).map (eqS n)))), (10, .d (dI i)), (11, .bx [.sl 3 [], dB false, .sl 1 [], .sl 1 []])]) (fun V => ?_) (fun N1_2_1_0 => ?_)
    · refine ZH.two 3 8 (by kernel_rfl) rfl rfl rfl rfl (fun _ => rfl) (fun _ => rfl) ⟨rfl, trivial⟩ ?_ ?_
      · refine one_step (fun B1 F1 w1 => ?_)
        refine AOps.run tok 1 _ _ _ _ rfl ?_
        refine AOps.nil ⟨rfl, ?_⟩
        refine ZH.to [95, 99, 1, 3, 10, 11] [(95, .d (EqV V ⟨false, [], []⟩)), (99, .rf m.D.flat), (1, .bx [dI n, MshsD ms, PltsD ps, SpdsD gs]), (3, .ow 83 (EqsD (ms.map (eqM n) ++ ps.map (eqP n) ++ (gs.take i).map (eqS n)))), (10, .d (dI i)), (11, .bx [.sl 3 [], dB false, .sl 1 [], .sl 1 []])] rfl ⟨rfl, trivial⟩ ?_
        exact ZH.ls _ (by kernel_rfl) (N2_2_1_0 V)
      · refine one_step (fun B1 F1 w1 => ?_)
        refine AOps.run tok 1 _ _ _ _ rfl ?_
        refine AOps.nil ⟨rfl, ?_⟩
        refine ZH.to [94, 100, 1, 3, 10, 11] [(94, .d (.v V)), (100, .rf m.D.flat), (1, .bx [dI n, MshsD ms, PltsD ps, SpdsD gs]), (3, .ow 83 (EqsD (ms.map (eqM n) ++ ps.map (eqP n) ++ (gs.take i).map (eqS n)))), (10, .d (dI i)), (11, .bx [.sl 3 [], dB false, .sl 1 [], .sl 1 []])] rfl ⟨rfl, trivial⟩ ?_
        exact ZH.ls _ (by kernel_rfl) (N1_3_1_0 V)
    refine ZH.meet 5 #[true, true, true, false, true, true, true, true, true, false, false, false, false] (fun V => [(V, AV.ow 41 (QsD (zrR (n - 1))))]) (fun V => [(94, .d (.v V)), (100, .rf m.D.flat), (1, .bx [dI n, MshsD ms, PltsD ps, SpdsD gs]), (3, .ow 83 (EqsD (ms.map (eqM n) ++ ps.map (eqP n) ++ (gs.take i).map (eqS n)))), (10, .d (dI i))]) (fun V => ?_) (fun N1_3_0_0 => ?_)
    · refine ZH.three 3 9 11 (by kernel_rfl) rfl rfl rfl rfl rfl rfl (fun _ => rfl) (fun _ => rfl) (fun _ => rfl) ⟨rfl, trivial⟩ ?_ ?_ ?_
      · refine one_step (fun B1 F1 w1 => ?_)
        refine AOps.run tok 1 _ _ _ _ rfl ?_
        refine AOps.nil ⟨rfl, ?_⟩
        refine ZH.to [95, 100, 1, 3, 10] [(95, .d (EqV V ⟨false, [], []⟩)), (100, .rf m.D.flat), (1, .bx [dI n, MshsD ms, PltsD ps, SpdsD gs]), (3, .ow 83 (EqsD (ms.map (eqM n) ++ ps.map (eqP n) ++ (gs.take i).map (eqS n)))), (10, .d (dI i))] rfl ⟨rfl, trivial⟩ ?_
        exact ZH.ls _ (by kernel_rfl) (N2_3_0_0 V)
      · refine one_step (fun B1 F1 w1 => ?_)
        refine AOps.run tok 1 _ _ _ _ rfl ?_
        refine AOps.nil ⟨rfl, ?_⟩
        refine ZH.to [94, 101, 1, 3, 10] [(94, .d (.v V)), (101, .d (dI m.sh)), (1, .bx [dI n, MshsD ms, PltsD ps, SpdsD gs]), (3, .ow 83 (EqsD (ms.map (eqM n) ++ ps.map (eqP n) ++ (gs.take i).map (eqS n)))), (10, .d (dI i))] rfl ⟨rfl, trivial⟩ ?_
        exact ZH.ls _ (by kernel_rfl) (N1_4_0_0 V)
      · refine one_step (fun B1 F1 w1 => ?_)
        refine AOps.run tok 1 _ _ _ _ rfl ?_
        refine AOps.nil ⟨rfl, ?_⟩
        refine ZH.to [94, 100, 1, 3, 10, 11] [(94, .d (.v V)), (100, .rf m.D.flat), (1, .bx [dI n, MshsD ms, PltsD ps, SpdsD gs]), (3, .ow 83 (EqsD (ms.map (eqM n) ++ ps.map (eqP n) ++ (gs.take i).map (eqS n)))), (10, .d (dI i)), (11, .bx [.sl 3 [], dB false, .sl 1 [], .sl 1 []])] rfl ⟨rfl, trivial⟩ ?_
        exact ZH.ls _ (by kernel_rfl) (N1_3_1_0 V)
    refine ZH.meet 5 #[true, true, true, true, true, true, true, false, false, false, false, true, false] (fun V => [(V, AV.ow 41 (QsD (zrR (n - 1))))]) (fun V => [(95, .d (EqV V ⟨false, [], []⟩)), (97, .d (SpdsD gs)), (98, .d (dI i)), (1, .bx [dI n, MshsD ms, PltsD ps, SpdsD gs]), (3, .ow 83 (EqsD (ms.map (eqM n) ++ ps.map (eqP n) ++ (gs.take i).map (eqS n)))), (10, .d (dI i)), (11, .bx [.sl 3 [], dB false, .sl 1 [], .sl 1 []])]) (fun V => ?_) (fun N2_1_1_0 => ?_)
    · refine ZH.all 7 (by kernel_rfl) rfl rfl (fun _ => rfl) ⟨rfl, trivial⟩ ?_
      refine one_step (fun B1 F1 w1 => ?_)
      refine AOps.idx tok m.D rfl rfl rfl rfl (Int.natCast_nonneg i) hid ?_
      refine AOps.nil ⟨rfl, ?_⟩
      refine ZH.to [95, 99, 1, 3, 10, 11] [(95, .d (EqV V ⟨false, [], []⟩)), (99, .rf m.D.flat), (1, .bx [dI n, MshsD ms, PltsD ps, SpdsD gs]), (3, .ow 83 (EqsD (ms.map (eqM n) ++ ps.map (eqP n) ++ (gs.take i).map (eqS n)))), (10, .d (dI i)), (11, .bx [.sl 3 [], dB false, .sl 1 [], .sl 1 []])] rfl ⟨rfl, trivial⟩ ?_
      exact ZH.ls _ (by kernel_rfl) (N2_2_1_0 V)
    refine ZH.meet 5 #[true, true, true, true, true, true, true, true, false, false, false, false, false] (fun V => [(V, AV.ow 41 (QsD (zrR (n - 1))))]) (fun V => [(95, .d (EqV V ⟨false, [], []⟩)), (99, .rf m.D.flat), (1, .bx [dI n, MshsD ms, PltsD ps, SpdsD gs]), (3, .ow 83 (EqsD (ms.map (eqM n) ++ ps.map (eqP n) ++ (gs.take i).map (eqS n)))), (10, .d (dI i))]) (fun V => ?_) (fun N2_2_0_0 => ?_)
    · refine ZH.two 8 11 (by kernel_rfl) rfl rfl rfl rfl (fun _ => rfl) (fun _ => rfl) ⟨rfl, trivial⟩ ?_ ?_
      · refine one_step (fun B1 F1 w1 => ?_)
        refine AOps.run tok 1 _ _ _ _ rfl ?_
        refine AOps.nil ⟨rfl, ?_⟩
        refine ZH.to [95, 100, 1, 3, 10] [(95, .d (EqV V ⟨false, [], []⟩)), (100, .rf m.D.flat), (1, .bx [dI n, MshsD ms, PltsD ps, SpdsD gs]), (3, .ow 83 (EqsD (ms.map (eqM n) ++ ps.map (eqP n) ++ (gs.take i).map (eqS n)))), (10, .d (dI i))] rfl ⟨rfl, trivial⟩ ?_
        exact ZH.ls _ (by kernel_rfl) (N2_3_0_0 V)
      · refine one_step (fun B1 F1 w1 => ?_)
        refine AOps.run tok 1 _ _ _ _ rfl ?_
        refine AOps.nil ⟨rfl, ?_⟩
        refine ZH.to [95, 99, 1, 3, 10, 11] [(95, .d (EqV V ⟨false, [], []⟩)), (99, .rf m.D.flat), (1, .bx [dI n, MshsD ms, PltsD ps, SpdsD gs]), (3, .ow 83 (EqsD (ms.map (eqM n) ++ ps.map (eqP n) ++ (gs.take i).map (eqS n)))), (10, .d (dI i)), (11, .bx [.sl 3 [], dB false, .sl 1 [], .sl 1 []])] rfl ⟨rfl, trivial⟩ ?_
        exact ZH.ls _ (by kernel_rfl) (N2_2_1_0 V)
    refine ZH.meet 6 #[true, true, false, false, true, true, true, true, false, false, false, true, false] (fun V => []) (fun V => [(93, .d (dI n)), (99, .rf m.D.flat), (1, .bx [dI n, MshsD ms, PltsD ps, SpdsD gs]), (3, .ow 83 (EqsD (ms.map (eqM n) ++ ps.map (eqP n) ++ (gs.take i).map (eqS n)))), (10, .d (dI i)), (11, .bx [.sl 3 [], dB false, .sl 1 [], .sl 1 []])]) (fun V => ?_) (fun N0_2_1_0 => ?_)
    · refine ZH.two 2 8 (by kernel_rfl) rfl rfl rfl rfl (fun _ => rfl) (fun _ => rfl) ⟨rfl, trivial⟩ ?_ ?_
      · refine AZOps.cut 1 rfl (fun B1 F1 w1 => ?_)
        refine AOps.makeQ tok (n - 1) rfl rfl rfl rfl rfl rfl rfl (by omega) (by omega) (by omega) ?_
        refine AOps.nil ⟨rfl, ?_⟩
        refine AZOps.loosen 94 rfl rfl rfl (fun V => ?_)
        refine AZOps.to [94, 99, 1, 3, 10, 11] [(94, .d (.v V)), (99, .rf m.D.flat), (1, .bx [dI n, MshsD ms, PltsD ps, SpdsD gs]), (3, .ow 83 (EqsD (ms.map (eqM n) ++ ps.map (eqP n) ++ (gs.take i).map (eqS n)))), (10, .d (dI i)), (11, .bx [.sl 3 [], dB false, .sl 1 [], .sl 1 []])] rfl ?_
        refine AZOps.nil ?_
        refine ZH.to [94, 99, 1, 3, 10, 11] [(94, .d (.v V)), (99, .rf m.D.flat), (1, .bx [dI n, MshsD ms, PltsD ps, SpdsD gs]), (3, .ow 83 (EqsD (ms.map (eqM n) ++ ps.map (eqP n) ++ (gs.take i).map (eqS n)))), (10, .d (dI i)), (11, .bx [.sl 3 [], dB false, .sl 1 [], .sl 1 []])] rfl ⟨rfl, trivial⟩ ?_
        exact ZH.ls _ (by kernel_rfl) (N1_2_1_0 V)
      · refine one_step (fun B1 F1 w1 => ?_)
        refine AOps.run tok 1 _ _ _ _ rfl ?_
        refine AOps.nil ⟨rfl, ?_⟩
        refine ZH.to [93, 100, 1, 3, 10, 11] [(93, .d (dI n)), (100, .rf m.D.flat), (1, .bx [dI n, MshsD ms, PltsD ps, SpdsD gs]), (3, .ow 83 (EqsD (ms.map (eqM n) ++ ps.map (eqP n) ++ (gs.take i).map (eqS n)))), (10, .d (dI i)), (11, .bx [.sl 3 [], dB false, .sl 1 [], .sl 1 []])] rfl ⟨rfl, trivial⟩ ?_
        exact ZH.ls _ (by kernel_rfl) (N0_3_1_0 V)
    refine ZH.meet 6 #[true, true, false, false, true, true, true, true, true, false, false, false, false] (fun V => []) (fun V => [(93, .d (dI n)), (100, .rf m.D.flat), (1, .bx [dI n, MshsD ms, PltsD ps, SpdsD gs]), (3, .ow 83 (EqsD (ms.map (eqM n) ++ ps.map (eqP n) ++ (gs.take i).map (eqS n)))), (10, .d (dI i))]) (fun V => ?_) (fun N0_3_0_0 => ?_)
    · refine ZH.three 2 9 11 (by kernel_rfl) rfl rfl rfl rfl rfl rfl (fun _ => rfl) (fun _ => rfl) (fun _ => rfl) ⟨rfl, trivial⟩ ?_ ?_ ?_
      · refine AZOps.cut 1 rfl (fun B1 F1 w1 => ?_)
        refine AOps.makeQ tok (n - 1) rfl rfl rfl rfl rfl rfl rfl (by omega) (by omega) (by omega) ?_
        refine AOps.nil ⟨rfl, ?_⟩
        refine AZOps.loosen 94 rfl rfl rfl (fun V => ?_)
        refine AZOps.to [94, 100, 1, 3, 10] [(94, .d (.v V)), (100, .rf m.D.flat), (1, .bx [dI n, MshsD ms, PltsD ps, SpdsD gs]), (3, .ow 83 (EqsD (ms.map (eqM n) ++ ps.map (eqP n) ++ (gs.take i).map (eqS n)))), (10, .d (dI i))] rfl ?_
        refine AZOps.nil ?_
        refine ZH.to [94, 100, 1, 3, 10] [(94, .d (.v V)), (100, .rf m.D.flat), (1, .bx [dI n, MshsD ms, PltsD ps, SpdsD gs]), (3, .ow 83 (EqsD (ms.map (eqM n) ++ ps.map (eqP n) ++ (gs.take i).map (eqS n)))), (10, .d (dI i))] rfl ⟨rfl, trivial⟩ ?_
        exact ZH.ls _ (by kernel_rfl) (N1_3_0_0 V)
      · refine one_step (fun B1 F1 w1 => ?_)
        refine AOps.run tok 1 _ _ _ _ rfl ?_
        refine AOps.nil ⟨rfl, ?_⟩
        refine ZH.to [93, 101, 1, 3, 10] [(93, .d (dI n)), (101, .d (dI m.sh)), (1, .bx [dI n, MshsD ms, PltsD ps, SpdsD gs]), (3, .ow 83 (EqsD (ms.map (eqM n) ++ ps.map (eqP n) ++ (gs.take i).map (eqS n)))), (10, .d (dI i))] rfl ⟨rfl, trivial⟩ ?_
        exact ZH.ls _ (by kernel_rfl) (N0_4_0_0 V)
      · refine one_step (fun B1 F1 w1 => ?_)
        refine AOps.run tok 1 _ _ _ _ rfl ?_
        refine AOps.nil ⟨rfl, ?_⟩
        refine ZH.to [93, 100, 1, 3, 10, 11] [(93, .d (dI n)), (100, .rf m.D.flat), (1, .bx [dI n, MshsD ms, PltsD ps, SpdsD gs]), (3, .ow 83 (EqsD (ms.map (eqM n) ++ ps.map (eqP n) ++ (gs.take i).map (eqS n)))), (10, .d (dI i)), (11, .bx [.sl 3 [], dB false, .sl 1 [], .sl 1 []])] rfl ⟨rfl, trivial⟩ ?_
        exact ZH.ls _ (by kernel_rfl) (N0_3_1_0 V)
    refine ZH.meet 6 #[true, true, true, false, true, true, true, false, false, false, false, true, false] (fun V => [(V, AV.ow 41 (QsD (zrR (n - 1))))]) (fun V => [(94, .d (.v V)), (97, .d (SpdsD gs)), (98, .d (dI i)), (1, .bx [dI n, MshsD ms, PltsD ps, SpdsD gs]), (3, .ow 83 (EqsD (ms.map (eqM n) ++ ps.map (eqP n) ++ (gs.take i).map (eqS n)))), (10, .d (dI i)), (11, .bx [.sl 3 [], dB false, .sl 1 [], .sl 1 []])]) (fun V => ?_) (fun N1_1_1_0 => ?_)
    · refine ZH.two 3 7 (by kernel_rfl) rfl rfl rfl rfl (fun _ => rfl) (fun _ => rfl) ⟨rfl, trivial⟩ ?_ ?_
      · refine one_step (fun B1 F1 w1 => ?_)
        refine AOps.run tok 1 _ _ _ _ rfl ?_
        refine AOps.nil ⟨rfl, ?_⟩
        refine ZH.to [95, 97, 98, 1, 3, 10, 11] [(95, .d (EqV V ⟨false, [], []⟩)), (97, .d (SpdsD gs)), (98, .d (dI i)), (1, .bx [dI n, MshsD ms, PltsD ps, SpdsD gs]), (3, .ow 83 (EqsD (ms.map (eqM n) ++ ps.map (eqP n) ++ (gs.take i).map (eqS n)))), (10, .d (dI i)), (11, .bx [.sl 3 [], dB false, .sl 1 [], .sl 1 []])] rfl ⟨rfl, trivial⟩ ?_
        exact ZH.ls _ (by kernel_rfl) (N2_1_1_0 V)
      · refine one_step (fun B1 F1 w1 => ?_)
        refine AOps.idx tok m.D rfl rfl rfl rfl (Int.natCast_nonneg i) hid ?_
        refine AOps.nil ⟨rfl, ?_⟩
        refine ZH.to [94, 99, 1, 3, 10, 11] [(94, .d (.v V)), (99, .rf m.D.flat), (1, .bx [dI n, MshsD ms, PltsD ps, SpdsD gs]), (3, .ow 83 (EqsD (ms.map (eqM n) ++ ps.map (eqP n) ++ (gs.take i).map (eqS n)))), (10, .d (dI i)), (11, .bx [.sl 3 [], dB false, .sl 1 [], .sl 1 []])] rfl ⟨rfl, trivial⟩ ?_
        exact ZH.ls _ (by kernel_rfl) (N1_2_1_0 V)
    refine ZH.meet 6 #[true, true, true, false, true, true, true, true, false, false, false, false, false] (fun V => [(V, AV.ow 41 (QsD (zrR (n - 1))))]) (fun V => [(94, .d (.v V)), (99, .rf m.D.flat), (1, .bx [dI n, MshsD ms, PltsD ps, SpdsD gs]), (3, .ow 83 (EqsD (ms.map (eqM n) ++ ps.map (eqP n) ++ (gs.take i).map (eqS n)))), (10, .d (dI i))]) (fun V => ?_) (fun N1_2_0_0 => ?_)
    · refine ZH.three 3 8 11 (by kernel_rfl) rfl rfl rfl rfl rfl rfl (fun _ => rfl) (fun _ => rfl) (fun _ => rfl) ⟨rfl, trivial⟩ ?_ ?_ ?_
      · refine one_step (fun B1 F1 w1 => ?_)
        refine AOps.run tok 1 _ _ _ _ rfl ?_
        refine AOps.nil ⟨rfl, ?_⟩
        refine ZH.to [95, 99, 1, 3, 10] [(95, .d (EqV V ⟨false, [], []⟩)), (99, .rf m.D.flat), (1, .bx [dI n, MshsD ms, PltsD ps, SpdsD gs]), (3, .ow 83 (EqsD (ms.map (eqM n) ++ ps.map (eqP n) ++ (gs.take i).map (eqS n)))), (10, .d (dI i))] rfl ⟨rfl, trivial⟩ ?_
        exact ZH.ls _ (by kernel_rfl) (N2_2_0_0 V)
      · refine one_step (fun B1 F1 w1 => ?_)
        refine AOps.run tok 1 _ _ _ _ rfl ?_
        refine AOps.nil ⟨rfl, ?_⟩
        refine ZH.to [94, 100, 1, 3, 10] [(94, .d (.v V)), (100, .rf m.D.flat), (1, .bx [dI n, MshsD ms, PltsD ps, SpdsD gs]), (3, .ow 83 (EqsD (ms.map (eqM n) ++ ps.map (eqP n) ++ (gs.take i).map (eqS n)))), (10, .d (dI i))] rfl ⟨rfl, trivial⟩ ?_
        exact ZH.ls _ (by kernel_rfl) (N1_3_0_0 V)
      · refine one_step (fun B1 F1 w1 => ?_)
        refine AOps.run tok 1 _ _ _ _ rfl ?_
        refine AOps.nil ⟨rfl, ?_⟩
        refine ZH.to [94, 99, 1, 3, 10, 11] [(94, .d (.v V)), (99, .rf m.D.flat), (1, .bx [dI n, MshsD ms, PltsD ps, SpdsD gs]), (3, .ow 83 (EqsD (ms.map (eqM n) ++ ps.map (eqP n) ++ (gs.take i).map (eqS n)))), (10, .d (dI i)), (11, .bx [.sl 3 [], dB false, .sl 1 [], .sl 1 []])] rfl ⟨rfl, trivial⟩ ?_
        exact ZH.ls _ (by kernel_rfl) (N1_2_1_0 V)
    refine ZH.meet 6 #[true, true, true, true, true, false, true, false, false, false, false, true, false] (fun V => [(V, AV.ow 41 (QsD (zrR (n - 1))))]) (fun V => [(95, .d (EqV V ⟨false, [], []⟩)), (96, .pt 1 3), (98, .d (dI i)), (1, .bx [dI n, MshsD ms, PltsD ps, SpdsD gs]), (3, .ow 83 (EqsD (ms.map (eqM n) ++ ps.map (eqP n) ++ (gs.take i).map (eqS n)))), (10, .d (dI i)), (11, .bx [.sl 3 [], dB false, .sl 1 [], .sl 1 []])]) (fun V => ?_) (fun N2_0_1_0 => ?_)
    · refine ZH.all 5 (by kernel_rfl) rfl rfl (fun _ => rfl) ⟨rfl, trivial⟩ ?_
      refine one_step (fun B1 F1 w1 => ?_)
      refine AOps.run tok 1 _ _ _ _ rfl ?_
      refine AOps.nil ⟨rfl, ?_⟩
      refine ZH.to [95, 97, 98, 1, 3, 10, 11] [(95, .d (EqV V ⟨false, [], []⟩)), (97, .d (SpdsD gs)), (98, .d (dI i)), (1, .bx [dI n, MshsD ms, PltsD ps, SpdsD gs]), (3, .ow 83 (EqsD (ms.map (eqM n) ++ ps.map (eqP n) ++ (gs.take i).map (eqS n)))), (10, .d (dI i)), (11, .bx [.sl 3 [], dB false, .sl 1 [], .sl 1 []])] rfl ⟨rfl, trivial⟩ ?_
      exact ZH.ls _ (by kernel_rfl) (N2_1_1_0 V)
    refine ZH.meet 6 #[true, true, true, true, true, true, true, false, false, false, false, false, false] (fun V => [(V, AV.ow 41 (QsD (zrR (n - 1))))]) (fun V => [(95, .d (EqV V ⟨false, [], []⟩)), (97, .d (SpdsD gs)), (98, .d (dI i)), (1, .bx [dI n, MshsD ms, PltsD ps, SpdsD gs]), (3, .ow 83 (EqsD (ms.map (eqM n) ++ ps.map (eqP n) ++ (gs.take i).map (eqS n)))), (10, .d (dI i))]) (fun V => ?_) (fun N2_1_0_0 => ?_)
    · refine ZH.two 7 11 (by kernel_rfl) rfl rfl rfl rfl (fun _ => rfl) (fun _ => rfl) ⟨rfl, trivial⟩ ?_ ?_
      · refine one_step (fun B1 F1 w1 => ?_)
        refine AOps.idx tok m.D rfl rfl rfl rfl (Int.natCast_nonneg i) hid ?_
        refine AOps.nil ⟨rfl, ?_⟩
        refine ZH.to [95, 99, 1, 3, 10] [(95, .d (EqV V ⟨false, [], []⟩)), (99, .rf m.D.flat), (1, .bx [dI n, MshsD ms, PltsD ps, SpdsD gs]), (3, .ow 83 (EqsD (ms.map (eqM n) ++ ps.map (eqP n) ++ (gs.take i).map (eqS n)))), (10, .d (dI i))] rfl ⟨rfl, trivial⟩ ?_
        exact ZH.ls _ (by kernel_rfl) (N2_2_0_0 V)
      · refine one_step (fun B1 F1 w1 => ?_)
        refine AOps.run tok 1 _ _ _ _ rfl ?_
        refine AOps.nil ⟨rfl, ?_⟩
        refine ZH.to [95, 97, 98, 1, 3, 10, 11] [(95, .d (EqV V ⟨false, [], []⟩)), (97, .d (SpdsD gs)), (98, .d (dI i)), (1, .bx [dI n, MshsD ms, PltsD ps, SpdsD gs]), (3, .ow 83 (EqsD (ms.map (eqM n) ++ ps.map (eqP n) ++ (gs.take i).map (eqS n)))), (10, .d (dI i)), (11, .bx [.sl 3 [], dB false, .sl 1 [], .sl 1 []])] rfl ⟨rfl, trivial⟩ ?_
        exact ZH.ls _ (by kernel_rfl) (N2_1_1_0 V)
    refine ZH.meet 7 #[true, true, false, false, true, true, true, false, false, false, false, true, false] (fun V => []) (fun V => [(93, .d (dI n)), (97, .d (SpdsD gs)), (98, .d (dI i)), (1, .bx [dI n, MshsD ms, PltsD ps, SpdsD gs]), (3, .ow 83 (EqsD (ms.map (eqM n) ++ ps.map (eqP n) ++ (gs.take i).map (eqS n)))), (10, .d (dI i)), (11, .bx [.sl 3 [], dB false, .sl 1 [], .sl 1 []])]) (fun V => ?_) (fun N0_1_1_0 => ?_)
    · refine ZH.two 2 7 (by kernel_rfl) rfl rfl rfl rfl (fun _ => rfl) (fun _ => rfl) ⟨rfl, trivial⟩ ?_ ?_
      · refine AZOps.cut 1 rfl (fun B1 F1 w1 => ?_)
        refine AOps.makeQ tok (n - 1) rfl rfl rfl rfl rfl rfl rfl (by omega) (by omega) (by omega) ?_
        refine AOps.nil ⟨rfl, ?_⟩
        refine AZOps.loosen 94 rfl rfl rfl (fun V => ?_)
        refine AZOps.to [94, 97, 98, 1, 3, 10, 11] [(94, .d (.v V)), (97, .d (SpdsD gs)), (98, .d (dI i)), (1, .bx [dI n, MshsD ms, PltsD ps, SpdsD gs]), (3, .ow 83 (EqsD (ms.map (eqM n) ++ ps.map (eqP n) ++ (gs.take i).map (eqS n)))), (10, .d (dI i)), (11, .bx [.sl 3 [], dB false, .sl 1 [], .sl 1 []])] rfl ?_
        refine AZOps.nil ?_
        refine ZH.to [94, 97, 98, 1, 3, 10, 11] [(94, .d (.v V)), (97, .d (SpdsD gs)), (98, .d (dI i)), (1, .bx [dI n, MshsD ms, PltsD ps, SpdsD gs]), (3, .ow 83 (EqsD (ms.map (eqM n) ++ ps.map (eqP n) ++ (gs.take i).map (eqS n)))), (10, .d (dI i)), (11, .bx [.sl 3 [], dB false, .sl 1 [], .sl 1 []])] rfl ⟨rfl, trivial⟩ ?_
        exact ZH.ls _ (by kernel_rfl) (N1_1_1_0 V)
      · refine one_step (fun B1 F1 w1 => ?_)
        refine AOps.idx tok m.D rfl rfl rfl rfl (Int.natCast_nonneg i) hid ?_
        refine AOps.nil ⟨rfl, ?_⟩
        refine ZH.to [93, 99, 1, 3, 10, 11] [(93, .d (dI n)), (99, .rf m.D.flat), (1, .bx [dI n, MshsD ms, PltsD ps, SpdsD gs]), (3, .ow 83 (EqsD (ms.map (eqM n) ++ ps.map (eqP n) ++ (gs.take i).map (eqS n)))), (10, .d (dI i)), (11, .bx [.sl 3 [], dB false, .sl 1 [], .sl 1 []])] rfl ⟨rfl, trivial⟩ ?_
        exact ZH.ls _ (by kernel_rfl) (N0_2_1_0 V)
    refine ZH.meet 7 #[true, true, false, false, true, true, true, true, false, false, false, false, false] (fun V => []) (fun V => [(93, .d (dI n)), (99, .rf m.D.flat), (1, .bx [dI n, MshsD ms, PltsD ps, SpdsD gs]), (3, .ow 83 (EqsD (ms.map (eqM n) ++ ps.map (eqP n) ++ (gs.take i).map (eqS n)))), (10, .d (dI i))]) (fun V => ?_) (fun N0_2_0_0 => ?_)
    · refine ZH.three 2 8 11 (by kernel_rfl) rfl rfl rfl rfl rfl rfl (fun _ => rfl) (fun _ => rfl) (fun _ => rfl) ⟨rfl, trivial⟩ ?_ ?_ ?_
      · refine AZOps.cut 1 rfl (fun B1 F1 w1 => ?_)
        refine AOps.makeQ tok (n - 1) rfl rfl rfl rfl rfl rfl rfl (by omega) (by omega) (by omega) ?_
        refine AOps.nil ⟨rfl, ?_⟩
        refine AZOps.loosen 94 rfl rfl rfl (fun V => ?_)
        refine AZOps.to [94, 99, 1, 3, 10] [(94, .d (.v V)), (99, .rf m.D.flat), (1, .bx [dI n, MshsD ms, PltsD ps, SpdsD gs]), (3, .ow 83 (EqsD (ms.map (eqM n) ++ ps.map (eqP n) ++ (gs.take i).map (eqS n)))), (10, .d (dI i))] rfl ?_
        refine AZOps.nil ?_
        refine ZH.to [94, 99, 1, 3, 10] [(94, .d (.v V)), (99, .rf m.D.flat), (1, .bx [dI n, MshsD ms, PltsD ps, SpdsD gs]), (3, .ow 83 (EqsD (ms.map (eqM n) ++ ps.map (eqP n) ++ (gs.take i).map (eqS n)))), (10, .d (dI i))] rfl ⟨rfl, trivial⟩ ?_
        exact ZH.ls _ (by kernel_rfl) (N1_2_0_0 V)
      · refine one_step (fun B1 F1 w1 => ?_)
        refine AOps.run tok 1 _ _ _ _ rfl ?_
        refine AOps.nil ⟨rfl, ?_⟩
        refine ZH.to [93, 100, 1, 3, 10] [(93, .d (dI n)), (100, .rf m.D.flat), (1, .bx [dI n, MshsD ms, PltsD ps, SpdsD gs]), (3, .ow 83 (EqsD (ms.map (eqM n) ++ ps.map (eqP n) ++ (gs.take i).map (eqS n)))), (10, .d (dI i))] rfl ⟨rfl, trivial⟩ ?_
        exact ZH.ls _ (by kernel_rfl) (N0_3_0_0 V)
      · refine one_step (fun B1 F1 w1 => ?_)
        refine AOps.run tok 1 _ _ _ _ rfl ?_
        refine AOps.nil ⟨rfl, ?_⟩
        refine ZH.to [93, 99, 1, 3, 10, 11] [(93, .d (dI n)), (99, .rf m.D.flat), (1, .bx [dI n, MshsD ms, PltsD ps, SpdsD gs]), (3, .ow 83 (EqsD (ms.map (eqM n) ++ ps.map (eqP n) ++ (gs.take i).map (eqS n)))), (10, .d (dI i)), (11, .bx [.sl 3 [], dB false, .sl 1 [], .sl 1 []])] rfl ⟨rfl, trivial⟩ ?_
        exact ZH.ls _ (by kernel_rfl) (N0_2_1_0 V)
    refine ZH.meet 7 #[true, true, true, false, true, false, true, false, false, false, false, true, false] (fun V => [(V, AV.ow 41 (QsD (zrR (n - 1))))]) (fun V => [(94, .d (.v V)), (96, .pt 1 3), (98, .d (dI i)), (1, .bx [dI n, MshsD ms, PltsD ps, SpdsD gs]), (3, .ow 83 (EqsD (ms.map (eqM n) ++ ps.map (eqP n) ++ (gs.take i).map (eqS n)))), (10, .d (dI i)), (11, .bx [.sl 3 [], dB false, .sl 1 [], .sl 1 []])]) (fun V => ?_) (fun N1_0_1_0 => ?_)
    · refine ZH.two 3 5 (by kernel_rfl) rfl rfl rfl rfl (fun _ => rfl) (fun _ => rfl) ⟨rfl, trivial⟩ ?_ ?_
      · refine one_step (fun B1 F1 w1 => ?_)
        refine AOps.run tok 1 _ _ _ _ rfl ?_
        refine AOps.nil ⟨rfl, ?_⟩
        refine ZH.to [95, 96, 98, 1, 3, 10, 11] [(95, .d (EqV V ⟨false, [], []⟩)), (96, .pt 1 3), (98, .d (dI i)), (1, .bx [dI n, MshsD ms, PltsD ps, SpdsD gs]), (3, .ow 83 (EqsD (ms.map (eqM n) ++ ps.map (eqP n) ++ (gs.take i).map (eqS n)))), (10, .d (dI i)), (11, .bx [.sl 3 [], dB false, .sl 1 [], .sl 1 []])] rfl ⟨rfl, trivial⟩ ?_
        exact ZH.ls _ (by kernel_rfl) (N2_0_1_0 V)
      · refine one_step (fun B1 F1 w1 => ?_)
        refine AOps.run tok 1 _ _ _ _ rfl ?_
        refine AOps.nil ⟨rfl, ?_⟩
        refine ZH.to [94, 97, 98, 1, 3, 10, 11] [(94, .d (.v V)), (97, .d (SpdsD gs)), (98, .d (dI i)), (1, .bx [dI n, MshsD ms, PltsD ps, SpdsD gs]), (3, .ow 83 (EqsD (ms.map (eqM n) ++ ps.map (eqP n) ++ (gs.take i).map (eqS n)))), (10, .d (dI i)), (11, .bx [.sl 3 [], dB false, .sl 1 [], .sl 1 []])] rfl ⟨rfl, trivial⟩ ?_
        exact ZH.ls _ (by kernel_rfl) (N1_1_1_0 V)
    refine ZH.meet 7 #[true, true, true, false, true, true, true, false, false, false, false, false, false] (fun V => [(V, AV.ow 41 (QsD (zrR (n - 1))))]) (fun V => [(94, .d (.v V)), (97, .d (SpdsD gs)), (98, .d (dI i)), (1, .bx [dI n, MshsD ms, PltsD ps, SpdsD gs]), (3, .ow 83 (EqsD (ms.map (eqM n) ++ ps.map (eqP n) ++ (gs.take i).map (eqS n)))), (10, .d (dI i))]) (fun V => ?_) (fun N1_1_0_0 => ?_)
    · refine ZH.three 3 7 11 (by kernel_rfl) rfl rfl rfl rfl rfl rfl (fun _ => rfl) (fun _ => rfl) (fun _ => rfl) ⟨rfl, trivial⟩ ?_ ?_ ?_
      · refine one_step (fun B1 F1 w1 => ?_)
        refine AOps.run tok 1 _ _ _ _ rfl ?_
        refine AOps.nil ⟨rfl, ?_⟩
        refine ZH.to [95, 97, 98, 1, 3, 10] [(95, .d (EqV V ⟨false, [], []⟩)), (97, .d (SpdsD gs)), (98, .d (dI i)), (1, .bx [dI n, MshsD ms, PltsD ps, SpdsD gs]), (3, .ow 83 (EqsD (ms.map (eqM n) ++ ps.map (eqP n) ++ (gs.take i).map (eqS n)))), (10, .d (dI i))] rfl ⟨rfl, trivial⟩ ?_
        exact ZH.ls _ (by kernel_rfl) (N2_1_0_0 V)
      · refine one_step (fun B1 F1 w1 => ?_)
        refine AOps.idx tok m.D rfl rfl rfl rfl (Int.natCast_nonneg i) hid ?_
        refine AOps.nil ⟨rfl, ?_⟩
        refine ZH.to [94, 99, 1, 3, 10] [(94, .d (.v V)), (99, .rf m.D.flat), (1, .bx [dI n, MshsD ms, PltsD ps, SpdsD gs]), (3, .ow 83 (EqsD (ms.map (eqM n) ++ ps.map (eqP n) ++ (gs.take i).map (eqS n)))), (10, .d (dI i))] rfl ⟨rfl, trivial⟩ ?_
        exact ZH.ls _ (by kernel_rfl) (N1_2_0_0 V)
      · refine one_step (fun B1 F1 w1 => ?_)
        refine AOps.run tok 1 _ _ _ _ rfl ?_
        refine AOps.nil ⟨rfl, ?_⟩
        refine ZH.to [94, 97, 98, 1, 3, 10, 11] [(94, .d (.v V)), (97, .d (SpdsD gs)), (98, .d (dI i)), (1, .bx [dI n, MshsD ms, PltsD ps, SpdsD gs]), (3, .ow 83 (EqsD (ms.map (eqM n) ++ ps.map (eqP n) ++ (gs.take i).map (eqS n)))), (10, .d (dI i)), (11, .bx [.sl 3 [], dB false, .sl 1 [], .sl 1 []])] rfl ⟨rfl, trivial⟩ ?_
        exact ZH.ls _ (by kernel_rfl) (N1_1_1_0 V)
    refine ZH.meet 7 #[true, true, true, true, true, false, true, false, false, false, false, false, false] (fun V => [(V, AV.ow 41 (QsD (zrR (n - 1))))]) (fun V => [(95, .d (EqV V ⟨false, [], []⟩)), (96, .pt 1 3), (98, .d (dI i)), (1, .bx [dI n, MshsD ms, PltsD ps, SpdsD gs]), (3, .ow 83 (EqsD (ms.map (eqM n) ++ ps.map (eqP n) ++ (gs.take i).map (eqS n)))), (10, .d (dI i))]) (fun V => ?_) (fun N2_0_0_0 => ?_)
    · refine ZH.two 5 11 (by kernel_rfl) rfl rfl rfl rfl (fun _ => rfl) (fun _ => rfl) ⟨rfl, trivial⟩ ?_ ?_
      · refine one_step (fun B1 F1 w1 => ?_)
        refine AOps.run tok 1 _ _ _ _ rfl ?_
        refine AOps.nil ⟨rfl, ?_⟩
        refine ZH.to [95, 97, 98, 1, 3, 10] [(95, .d (EqV V ⟨false, [], []⟩)), (97, .d (SpdsD gs)), (98, .d (dI i)), (1, .bx [dI n, MshsD ms, PltsD ps, SpdsD gs]), (3, .ow 83 (EqsD (ms.map (eqM n) ++ ps.map (eqP n) ++ (gs.take i).map (eqS n)))), (10, .d (dI i))] rfl ⟨rfl, trivial⟩ ?_
        exact ZH.ls _ (by kernel_rfl) (N2_1_0_0 V)
      · refine one_step (fun B1 F1 w1 => ?_)
        refine AOps.run tok 1 _ _ _ _ rfl ?_
        refine AOps.nil ⟨rfl, ?_⟩
        refine ZH.to [95, 96, 98, 1, 3, 10, 11] [(95, .d (EqV V ⟨false, [], []⟩)), (96, .pt 1 3), (98, .d (dI i)), (1, .bx [dI n, MshsD ms, PltsD ps, SpdsD gs]), (3, .ow 83 (EqsD (ms.map (eqM n) ++ ps.map (eqP n) ++ (gs.take i).map (eqS n)))), (10, .d (dI i)), (11, .bx [.sl 3 [], dB false, .sl 1 [], .sl 1 []])] rfl ⟨rfl, trivial⟩ ?_
        exact ZH.ls _ (by kernel_rfl) (N2_0_1_0 V)
    refine ZH.meet 8 #[true, true, false, false, true, false, true, false, false, false, false, true, false] (fun V => []) (fun V => [(93, .d (dI n)), (96, .pt 1 3), (98, .d (dI i)), (1, .bx [dI n, MshsD ms, PltsD ps, SpdsD gs]), (3, .ow 83 (EqsD (ms.map (eqM n) ++ ps.map (eqP n) ++ (gs.take i).map (eqS n)))), (10, .d (dI i)), (11, .bx [.sl 3 [], dB false, .sl 1 [], .sl 1 []])]) (fun V => ?_) (fun N0_0_1_0 => ?_)
    · refine ZH.two 2 5 (by kernel_rfl) rfl rfl rfl rfl (fun _ => rfl) (fun _ => rfl) ⟨rfl, trivial⟩ ?_ ?_
      · refine AZOps.cut 1 rfl (fun B1 F1 w1 => ?_)
        refine AOps.makeQ tok (n - 1) rfl rfl rfl rfl rfl rfl rfl (by omega) (by omega) (by omega) ?_
        refine AOps.nil ⟨rfl, ?_⟩
        refine AZOps.loosen 94 rfl rfl rfl (fun V => ?_)
        refine AZOps.to [94, 96, 98, 1, 3, 10, 11] [(94, .d (.v V)), (96, .pt 1 3), (98, .d (dI i)), (1, .bx [dI n, MshsD ms, PltsD ps, SpdsD gs]), (3, .ow 83 (EqsD (ms.map (eqM n) ++ ps.map (eqP n) ++ (gs.take i).map (eqS n)))), (10, .d (dI i)), (11, .bx [.sl 3 [], dB false, .sl 1 [], .sl 1 []])] rfl ?_
        refine AZOps.nil ?_
        refine ZH.to [94, 96, 98, 1, 3, 10, 11] [(94, .d (.v V)), (96, .pt 1 3), (98, .d (dI i)), (1, .bx [dI n, MshsD ms, PltsD ps, SpdsD gs]), (3, .ow 83 (EqsD (ms.map (eqM n) ++ ps.map (eqP n) ++ (gs.take i).map (eqS n)))), (10, .d (dI i)), (11, .bx [.sl 3 [], dB false, .sl 1 [], .sl 1 []])] rfl ⟨rfl, trivial⟩ ?_
        exact ZH.ls _ (by kernel_rfl) (N1_0_1_0 V)
      · refine one_step (fun B1 F1 w1 => ?_)
        refine AOps.run tok 1 _ _ _ _ rfl ?_
        refine AOps.nil ⟨rfl, ?_⟩
        refine ZH.to [93, 97, 98, 1, 3, 10, 11] [(93, .d (dI n)), (97, .d (SpdsD gs)), (98, .d (dI i)), (1, .bx [dI n, MshsD ms, PltsD ps, SpdsD gs]), (3, .ow 83 (EqsD (ms.map (eqM n) ++ ps.map (eqP n) ++ (gs.take i).map (eqS n)))), (10, .d (dI i)), (11, .bx [.sl 3 [], dB false, .sl 1 [], .sl 1 []])] rfl ⟨rfl, trivial⟩ ?_
        exact ZH.ls _ (by kernel_rfl) (N0_1_1_0 V)
    refine ZH.meet 8 #[true, true, false, false, true, true, true, false, false, false, false, false, false] (fun V => []) (fun V => [(93, .d (dI n)), (97, .d (SpdsD gs)), (98, .d (dI i)), (1, .bx [dI n, MshsD ms, PltsD ps, SpdsD gs]), (3, .ow 83 (EqsD (ms.map (eqM n) ++ ps.map (eqP n) ++ (gs.take i).map (eqS n)))), (10, .d (dI i))]) (fun V => ?_) (fun N0_1_0_0 => ?_)
    · refine ZH.three 2 7 11 (by kernel_rfl) rfl rfl rfl rfl rfl rfl (fun _ => rfl) (fun _ => rfl) (fun _ => rfl) ⟨rfl, trivial⟩ ?_ ?_ ?_
      · refine AZOps.cut 1 rfl (fun B1 F1 w1 => ?_)
        refine AOps.makeQ tok (n - 1) rfl rfl rfl rfl rfl rfl rfl (by omega) (by omega) (by omega) ?_
        refine AOps.nil ⟨rfl, ?_⟩
        refine AZOps.loosen 94 rfl rfl rfl (fun V => ?_)
        refine AZOps.to [94, 97, 98, 1, 3, 10] [(94, .d (.v V)), (97, .d (SpdsD gs)), (98, .d (dI i)), (1, .bx [dI n, MshsD ms, PltsD ps, SpdsD gs]), (3, .ow 83 (EqsD (ms.map (eqM n) ++ ps.map (eqP n) ++ (gs.take i).map (eqS n)))), (10, .d (dI i))] rfl ?_
        refine AZOps.nil ?_
        refine ZH.to [94, 97, 98, 1, 3, 10] [(94, .d (.v V)), (97, .d (SpdsD gs)), (98, .d (dI i)), (1, .bx [dI n, MshsD ms, PltsD ps, SpdsD gs]), (3, .ow 83 (EqsD (ms.map (eqM n) ++ ps.map (eqP n) ++ (gs.take i).map (eqS n)))), (10, .d (dI i))] rfl ⟨rfl, trivial⟩ ?_
        exact ZH.ls _ (by kernel_rfl) (N1_1_0_0 V)
      · refine one_step (fun B1 F1 w1 => ?_)
        refine AOps.idx tok m.D rfl rfl rfl rfl (Int.natCast_nonneg i) hid ?_
        refine AOps.nil ⟨rfl, ?_⟩
        refine ZH.to [93, 99, 1, 3, 10] [(93, .d (dI n)), (99, .rf m.D.flat), (1, .bx [dI n, MshsD ms, PltsD ps, SpdsD gs]), (3, .ow 83 (EqsD (ms.map (eqM n) ++ ps.map (eqP n) ++ (gs.take i).map (eqS n)))), (10, .d (dI i))] rfl ⟨rfl, trivial⟩ ?_
        exact ZH.ls _ (by kernel_rfl) (N0_2_0_0 V)
      · refine one_step (fun B1 F1 w1 => ?_)
        refine AOps.run tok 1 _ _ _ _ rfl ?_
        refine AOps.nil ⟨rfl, ?_⟩
        refine ZH.to [93, 97, 98, 1, 3, 10, 11] [(93, .d (dI n)), (97, .d (SpdsD gs)), (98, .d (dI i)), (1, .bx [dI n, MshsD ms, PltsD ps, SpdsD gs]), (3, .ow 83 (EqsD (ms.map (eqM n) ++ ps.map (eqP n) ++ (gs.take i).map (eqS n)))), (10, .d (dI i)), (11, .bx [.sl 3 [], dB false, .sl 1 [], .sl 1 []])] rfl ⟨rfl, trivial⟩ ?_
        exact ZH.ls _ (by kernel_rfl) (N0_1_1_0 V)
    refine ZH.meet 8 #[true, true, true, false, true, false, true, false, false, false, false, false, false] (fun V => [(V, AV.ow 41 (QsD (zrR (n - 1))))]) (fun V => [(94, .d (.v V)), (96, .pt 1 3), (98, .d (dI i)), (1, .bx [dI n, MshsD ms, PltsD ps, SpdsD gs]), (3, .ow 83 (EqsD (ms.map (eqM n) ++ ps.map (eqP n) ++ (gs.take i).map (eqS n)))), (10, .d (dI i))]) (fun V => ?_) (fun N1_0_0_0 => ?_)
    · refine ZH.three 3 5 11 (by kernel_rfl) rfl rfl rfl rfl rfl rfl (fun _ => rfl) (fun _ => rfl) (fun _ => rfl) ⟨rfl, trivial⟩ ?_ ?_ ?_
      · refine one_step (fun B1 F1 w1 => ?_)
        refine AOps.run tok 1 _ _ _ _ rfl ?_
        refine AOps.nil ⟨rfl, ?_⟩
        refine ZH.to [95, 96, 98, 1, 3, 10] [(95, .d (EqV V ⟨false, [], []⟩)), (96, .pt 1 3), (98, .d (dI i)), (1, .bx [dI n, MshsD ms, PltsD ps, SpdsD gs]), (3, .ow 83 (EqsD (ms.map (eqM n) ++ ps.map (eqP n) ++ (gs.take i).map (eqS n)))), (10, .d (dI i))] rfl ⟨rfl, trivial⟩ ?_
        exact ZH.ls _ (by kernel_rfl) (N2_0_0_0 V)
      · refine one_step (fun B1 F1 w1 => ?_)
        refine AOps.run tok 1 _ _ _ _ rfl ?_
        refine AOps.nil ⟨rfl, ?_⟩
        refine ZH.to [94, 97, 98, 1, 3, 10] [(94, .d (.v V)), (97, .d (SpdsD gs)), (98, .d (dI i)), (1, .bx [dI n, MshsD ms, PltsD ps, SpdsD gs]), (3, .ow 83 (EqsD (ms.map (eqM n) ++ ps.map (eqP n) ++ (gs.take i).map (eqS n)))), (10, .d (dI i))] rfl ⟨rfl, trivial⟩ ?_
        exact ZH.ls _ (by kernel_rfl) (N1_1_0_0 V)
      · refine one_step (fun B1 F1 w1 => ?_)
        refine AOps.run tok 1 _ _ _ _ rfl ?_
        refine AOps.nil ⟨rfl, ?_⟩
        refine ZH.to [94, 96, 98, 1, 3, 10, 11] [(94, .d (.v V)), (96, .pt 1 3), (98, .d (dI i)), (1, .bx [dI n, MshsD ms, PltsD ps, SpdsD gs]), (3, .ow 83 (EqsD (ms.map (eqM n) ++ ps.map (eqP n) ++ (gs.take i).map (eqS n)))), (10, .d (dI i)), (11, .bx [.sl 3 [], dB false, .sl 1 [], .sl 1 []])] rfl ⟨rfl, trivial⟩ ?_
        exact ZH.ls _ (by kernel_rfl) (N1_0_1_0 V)
    refine ZH.meet 9 #[true, true, false, false, true, false, true, false, false, false, false, false, false] (fun V => []) (fun V => [(93, .d (dI n)), (96, .pt 1 3), (98, .d (dI i)), (1, .bx [dI n, MshsD ms, PltsD ps, SpdsD gs]), (3, .ow 83 (EqsD (ms.map (eqM n) ++ ps.map (eqP n) ++ (gs.take i).map (eqS n)))), (10, .d (dI i))]) (fun V => ?_) (fun N0_0_0_0 => ?_)
    · refine ZH.three 2 5 11 (by kernel_rfl) rfl rfl rfl rfl rfl rfl (fun _ => rfl) (fun _ => rfl) (fun _ => rfl) ⟨rfl, trivial⟩ ?_ ?_ ?_
      · refine AZOps.cut 1 rfl (fun B1 F1 w1 => ?_)
        refine AOps.makeQ tok (n - 1) rfl rfl rfl rfl rfl rfl rfl (by omega) (by omega) (by omega) ?_
        refine AOps.nil ⟨rfl, ?_⟩
        refine AZOps.loosen 94 rfl rfl rfl (fun V => ?_)
        refine AZOps.to [94, 96, 98, 1, 3, 10] [(94, .d (.v V)), (96, .pt 1 3), (98, .d (dI i)), (1, .bx [dI n, MshsD ms, PltsD ps, SpdsD gs]), (3, .ow 83 (EqsD (ms.map (eqM n) ++ ps.map (eqP n) ++ (gs.take i).map (eqS n)))), (10, .d (dI i))] rfl ?_
        refine AZOps.nil ?_
        refine ZH.to [94, 96, 98, 1, 3, 10] [(94, .d (.v V)), (96, .pt 1 3), (98, .d (dI i)), (1, .bx [dI n, MshsD ms, PltsD ps, SpdsD gs]), (3, .ow 83 (EqsD (ms.map (eqM n) ++ ps.map (eqP n) ++ (gs.take i).map (eqS n)))), (10, .d (dI i))] rfl ⟨rfl, trivial⟩ ?_
        exact ZH.ls _ (by kernel_rfl) (N1_0_0_0 V)
      · refine one_step (fun B1 F1 w1 => ?_)
        refine AOps.run tok 1 _ _ _ _ rfl ?_
        refine AOps.nil ⟨rfl, ?_⟩
        refine ZH.to [93, 97, 98, 1, 3, 10] [(93, .d (dI n)), (97, .d (SpdsD gs)), (98, .d (dI i)), (1, .bx [dI n, MshsD ms, PltsD ps, SpdsD gs]), (3, .ow 83 (EqsD (ms.map (eqM n) ++ ps.map (eqP n) ++ (gs.take i).map (eqS n)))), (10, .d (dI i))] rfl ⟨rfl, trivial⟩ ?_
        exact ZH.ls _ (by kernel_rfl) (N0_1_0_0 V)
      · refine one_step (fun B1 F1 w1 => ?_)
        refine AOps.run tok 1 _ _ _ _ rfl ?_
        refine AOps.nil ⟨rfl, ?_⟩
        refine ZH.to [93, 96, 98, 1, 3, 10, 11] [(93, .d (dI n)), (96, .pt 1 3), (98, .d (dI i)), (1, .bx [dI n, MshsD ms, PltsD ps, SpdsD gs]), (3, .ow 83 (EqsD (ms.map (eqM n) ++ ps.map (eqP n) ++ (gs.take i).map (eqS n)))), (10, .d (dI i)), (11, .bx [.sl 3 [], dB false, .sl 1 [], .sl 1 []])] rfl ⟨rfl, trivial⟩ ?_
        exact ZH.ls _ (by kernel_rfl) (N0_0_1_0 V)
    refine ZH.to [93, 96, 98, 1, 3, 10] [(93, .d (dI n)), (96, .pt 1 3), (98, .d (dI i)), (1, .bx [dI n, MshsD ms, PltsD ps, SpdsD gs]), (3, .ow 83 (EqsD (ms.map (eqM n) ++ ps.map (eqP n) ++ (gs.take i).map (eqS n)))), (10, .d (dI i))] rfl ⟨rfl, trivial⟩ ?_
    exact ZH.ls _ (by kernel_rfl) (N0_0_0_0 nilS)
  have hin : ¬ i < gs.length := by have := of_decide_eq_false h; omega
  have hie : i = gs.length := by omega
  subst hie
  rw [List.take_length]
  refine AZ.exit ?_
  refine AZ.seq ?_
  refine AZ.reg (fun B1 F1 w1 => ?_)
  refine AOps.run tok 2 _ _ _ _ rfl ?_
  refine AOps.nil ⟨rfl, ?_⟩
  refine AZ.loosen 2 rfl rfl rfl (fun V0 => AZ.ret ⟨.v V0, rfl, V0, rfl, rfl⟩)
end Lift
/- Verify. -/
namespace Lift
open Go Go.Proofs

end Lift
/- The reference's equations agree with the program's rows; has. -/
namespace Lift
open Go Go.Proofs

abbrev NsD (l : List Int) : D := .sl 1 (l.map (fun n => dI n))
theorem getN {l : List Int} {i : Nat} (h : i < l.length) : (l.map (fun n => dI n))[i]? = some (dI (l.getD i 0)) := by simp [h]
theorem g51_hit {l : List Int} {z : Int} {i : Nat} (hi : i < l.length) (h : l.getD i 0 = z) : l.contains z = true := by
  rw [List.contains_iff_mem]
  subst h
  simp [hi]
theorem g51_miss {l : List Int} {z : Int} (h : ∀ k, k < l.length → l.getD k 0 ≠ z) : l.contains z = false := by
  apply Bool.eq_false_iff.2
  rw [ne_eq, List.contains_iff_mem]
  intro hm
  obtain ⟨k, hk, e⟩ := List.mem_iff_getElem.1 hm
  exact h k hk (by simp [hk, e])
theorem r51_has_ok (l : List Int) (z : Int) (hl : l.length ≤ big) : Pure Tryz.prog 33 [NsD l, dI z] (dB (l.contains z)) := by
  refine Pure.intro (n := 18) tok Tryz.func33 rfl rfl rfl (Nat.le_of_ble_eq_true rfl) (by kernel_rfl) (fun B F0 w0 => ?_)
  unfold big at hl
  refine AW.seq ?_
  refine AW.region ?_   -- "ref.go:171"
  refine AOps.run tok 1 _ _ _ _ rfl ?_
  refine AOps.nil ?_
  refine AW.seq ?_
  refine AW.seq ?_
  refine AW.region ?_   -- "ref.go:172"
  refine AOps.run tok 1 _ _ _ _ rfl ?_
  refine AOps.nil ?_
  refine AW.block ?_   -- block 0
  refine AW.loopS [0, 1, 5] (fun i : Nat => [(0, .d (NsD l)), (1, .d (dI z)), (5, .d (dI i))]) (fun i => i ≤ l.length ∧ ∀ k, k < i → l.getD k 0 ≠ z) (fun i => l.length - i) 0 rfl ⟨Nat.zero_le _, fun k hk => by omega⟩ (fun i hi => ?_)
  obtain ⟨hi, hall⟩ := hi
  · skip
    refine AW.seq ?_
    refine AW.seq ?_
    refine AW.region ?_   -- "ref.go:172"
    refine AOps.run tok 4 _ _ _ _ rfl ?_
    rw [List.length_map]
    refine AOps.nil ?_
    refine AW.cond rfl (fun h => ?_) (fun h => ?_)
    · skip
      have hin : i < l.length := by have := of_decide_eq_true h; omega
      refine AW.skip ?_
      refine AW.seq ?_
      refine AW.block ?_   -- block 1
      refine AW.seq ?_
      refine AW.region ?_   -- "ref.go:173"
      refine AOps.run tok 2 _ _ _ _ rfl ?_
      refine AOps.idx tok (dI (l.getD i 0)) rfl rfl rfl rfl (Int.natCast_nonneg i) (getN hin) ?_
      refine AOps.run tok 3 _ _ _ _ rfl ?_
      refine AOps.nil ?_
      refine AW.cond rfl (fun h => ?_) (fun h => ?_)
      · skip
        rw [g51_hit hin (of_decide_eq_true h)]
        refine AW.seq ?_
        refine AW.region ?_   -- "ref.go:174"
        refine AOps.run tok 1 _ _ _ _ rfl ?_
        refine AOps.nil ?_
        exact AW.ret rfl
      · skip
        refine AW.skip ?_
        refine AW.region ?_   -- "ref.go:172"
        refine AOps.run tok 3 _ _ _ _ rfl ?_
        rw [wI64 (x := (i : Int) + 1) (by omega) (by omega)]
        refine AOps.nil ?_
        exact ⟨i + 1, rfl, ⟨hin, fun k hk => by
          by_cases e : k = i
          · subst e; exact of_decide_eq_false h
          · exact hall k (by omega)⟩, by omega⟩
    · have hin : i = l.length := by have := of_decide_eq_false h; omega
      subst hin
      rw [g51_miss hall]
      refine AW.exit ?_
      refine AW.seq ?_
      refine AW.region ?_
      refine AOps.run tok 1 _ _ _ _ rfl ?_
      refine AOps.nil ?_
      exact AW.ret rfl

def RelQ (p : List Rat → List Rat × Rat → Prop) : Mt → Eqs → Prop
  | [], [] => True
  | a :: l, b :: m => p a b ∧ RelQ p l m
  | _, _ => False
theorem RelQ.app {p : List Rat → List Rat × Rat → Prop} : ∀ {a c : Mt} {b d : Eqs}, RelQ p a b → RelQ p c d → RelQ p (a ++ c) (b ++ d)
  | [], _, [], _, _, h => h
  | [], _, _ :: _, _, h, _ => by cases h
  | _ :: _, _, [], _, h, _ => by cases h
  | _ :: _, _, _ :: _, _, h, g => ⟨h.1, RelQ.app h.2 g⟩
theorem RelQ.map {α : Type} [Inhabited α] {p : List Rat → List Rat × Rat → Prop} {f : α → List Rat} {g : α → List Rat × Rat} : ∀ {l : List α}, (∀ i, i < l.length → p (f (l.getD i default)) (g (l.getD i default))) → RelQ p (l.map f) (l.map g)
  | [], _ => trivial
  | a :: l, h => ⟨h 0 (by simp), RelQ.map (fun i hi => by have := h (i + 1) (by simp; omega); simpa using this)⟩
theorem RelQ.get {p : List Rat → List Rat × Rat → Prop} : ∀ {a : Mt} {b : Eqs}, RelQ p a b → a.length = b.length ∧ ∀ j, j < a.length → p (a.getD j []) (gE b j)
  | [], [], _ => ⟨rfl, fun j h => by simp at h⟩
  | [], _ :: _, h => by cases h
  | _ :: _, [], h => by cases h
  | x :: a, y :: b, h => by
    have ih := RelQ.get h.2
    refine ⟨by simp [ih.1], fun j hj => ?_⟩
    cases j with
    | zero => simpa [gE] using h.1
    | succ j => have := ih.2 j (by simpa using hj); simpa [gE] using this
/-- A row of the program's and an equation of the reference's say the same. -/
def RE (n : Nat) (r : List Rat) (e : List Rat × Rat) : Prop := e.1.length = n ∧ ∀ c, c ≤ n → r.getD c 0 = cE e c
theorem zrE_get (n : Int) (c : Nat) : (zrE n).getD c 0 = 0 := by unfold zrE; rw [zrR_get]; rfl
theorem addE_new {r : List Rat} {i z : Int} {c : Nat} (h : i.toNat < r.length) (h0 : r.getD i.toNat 0 = 0) : (addE r i z).getD c 0 = if c = i.toNat then (z : Rat) else r.getD c 0 := by
  rw [addE_get h, h0, Rat.zero_add]
theorem re_M {n : Int} {m : Msh} (h1 : 1 ≤ n) (h : mshE n m = 0) : RE n.toNat (rwM n m) (eqM n m) := by
  have hm := mshE_ok h
  have zl := zrE_len h1
  obtain ⟨⟨a1, a2⟩, ⟨b1, b2⟩, hab, _⟩ := hm
  have l1 : (addE (zrE n) m.a m.ta).length = n.toNat := by rw [addE_len]; exact zl
  have g1 : ∀ c, (addE (zrE n) m.a m.ta).getD c 0 = if c = m.a.toNat then (m.ta : Rat) else 0 := fun c => by rw [addE_new (by omega) (zrE_get _ _), zrE_get]
  refine ⟨by unfold eqM; rw [addE_len]; exact l1, fun c hc => ?_⟩
  rw [rwM_f h1 h]
  unfold cE eqM
  simp only [addE_len, zl]
  by_cases hcn : c < n.toNat
  · rw [if_pos hcn, addE_new (by omega) (by rw [g1, if_neg (by omega)]), g1]
  · rw [if_neg hcn, if_neg (by omega), if_neg (by omega)]
theorem re_P {n : Int} {m : Plt} (h1 : 1 ≤ n) (h : pltE n m = 0) : RE n.toNat (rwP n m) (eqP n m) := by
  have hm := pltE_ok h
  have zl := zrE_len h1
  obtain ⟨⟨a1, a2⟩, ⟨b1, b2⟩, ⟨e1, e2⟩, hab, _⟩ := hm
  have l1 : (addE (zrE n) m.s m.ts).length = n.toNat := by rw [addE_len]; exact zl
  have l2 : (addE (addE (zrE n) m.s m.ts) m.r m.tr).length = n.toNat := by rw [addE_len]; exact l1
  have g1 : ∀ c, (addE (zrE n) m.s m.ts).getD c 0 = if c = m.s.toNat then (m.ts : Rat) else 0 := fun c => by rw [addE_new (by omega) (zrE_get _ _), zrE_get]
  have g2 : ∀ c, (addE (addE (zrE n) m.s m.ts) m.r m.tr).getD c 0 = if c = m.r.toNat then (m.tr : Rat) else if c = m.s.toNat then (m.ts : Rat) else 0 := fun c => by rw [addE_new (by omega) (by rw [g1, if_neg (by omega)]), g1]
  refine ⟨by unfold eqP; rw [addE_len]; exact l2, fun c hc => ?_⟩
  rw [rwP_f h1 h]
  unfold cE eqP
  simp only [addE_len, zl]
  by_cases hcn : c < n.toNat
  · rw [if_pos hcn, addE_new (by omega) (by rw [g2, if_neg (by omega), if_neg (by omega)]), g2]
  · rw [if_neg hcn, if_neg (by omega), if_neg (by omega), if_neg (by omega)]
theorem re_S {n : Int} {m : Spd} (h1 : 1 ≤ n) (h : spdE n m = 0) : RE n.toNat (rwS n m) (eqS n m) := by
  have hm := spdE_ok h
  have zl := zrE_len h1
  obtain ⟨⟨a1, a2⟩, _⟩ := hm
  refine ⟨by unfold eqS; rw [addE_len, zl], fun c hc => ?_⟩
  rw [rwS_f h1 h]
  unfold cE eqS
  simp only [addE_len, zl]
  by_cases hcn : c < n.toNat
  · rw [if_pos hcn, addE_new (by omega) (zrE_get _ _), zrE_get, if_neg (by omega)]; rfl
  · rw [if_neg hcn, if_pos (by omega)]
theorem eqs_rel {x : Trn} (h : TOkT x) : RelQ (RE x.n.toNat) (rowsM x) (eqsM x) :=
  ((RelQ.map (fun i hi => re_M h.n1 (h.m i hi))).app (RelQ.map (fun i hi => re_P h.n1 (h.p i hi)))).app (RelQ.map (fun i hi => re_S h.n1 (h.g i hi)))
theorem eqsM_len {x : Trn} (h : TOkT x) : (rowsM x).length = (eqsM x).length := (eqs_rel h).get.1
theorem eqsM_rect {x : Trn} (h : TOkT x) : RectE (eqsM x) x.n.toNat := fun e he => by
  obtain ⟨j, hj, rfl⟩ := List.getElem_of_mem he
  have := ((eqs_rel h).get.2 j (by rw [eqsM_len h]; exact hj)).1
  unfold gE at this
  rwa [List.getD_eq_getElem?_getD, List.getElem?_eq_getElem hj, Option.getD_some] at this
theorem eqsM_f {x : Trn} (h : TOkT x) {j c : Nat} (hj : j < (rowsM x).length) (hc : c ≤ x.n.toNat) : fM (rowsM x) j c = fE2 (eqsM x) j c := ((eqs_rel h).get.2 j hj).2 c hc
/-- The sizes of the equations. -/
def SzE (X : Nat) (l : Eqs) : Prop := ∀ j, j < l.length → SzF X (cE (gE l j))
theorem SzE.mono {X Y : Nat} {l : Eqs} (h : SzE X l) (hY : X ≤ Y) : SzE Y l := fun j hj => (h j hj).mono hY
theorem eqsM_sz {x : Trn} {k : Nat} (hw : x.w k) (hk : k ≤ 10) (h : TOkT x) : SzE (Xs 0) (eqsM x) := fun j hj => by
  have hj' : j < (rowsM x).length := by rw [eqsM_len h]; exact hj
  obtain ⟨D, N, h0, h1, h2⟩ := rowsM_sz hw hk h j
  refine ⟨D, fun c => N (min c x.n.toNat), h0, h1, fun c => ⟨(h2 _).1, ?_⟩⟩
  have hr := (eqsM_rect h).get hj
  rw [← (h2 _).2, eqsM_f h hj' (Nat.min_le_right _ _), fE2_eq]
  unfold cE
  rw [hr]
  by_cases hc : c < x.n.toNat
  · rw [Nat.min_eq_left (by omega)]
  · rw [Nat.min_eq_right (by omega), if_neg hc, if_neg (by omega)]
/-- The two eliminations answer alike. -/
theorem sol_congr {m n : Nat} {M N : Mx} (h : ∀ j, j < m → ∀ c, c ≤ n → M j c = N j c) (x : Nat → Rat) : Sol m n M x ↔ Sol m n N x :=
  ⟨fun g j hj => (eqn_congr (h j hj) x).1 (g j hj), fun g j hj => (eqn_congr (h j hj) x).2 (g j hj)⟩
theorem out_eq {x : Trn} (h : TOkT x) : outG x.n.toNat (rowsM x) = outR x.n.toNat (eqsM x) :=
  Right.unique (outG_right (rowsM_rect h)) ((eqsM_len h ▸ outR_right (eqsM_rect h) : Right (rowsM x).length x.n.toNat (fE2 (eqsM x)) _).congr (fun y => sol_congr (fun j hj c hc => (eqsM_f h hj hc).symm) y))
end Lift
/- The reference's Solve. -/
namespace Lift
open Go Go.Proofs

def finR (n : Nat) (r : Eqs × List Int) : Out :=
  if ovR r.1 r.2 = true then .over
  else if r.2.any (fun x => decide (x < 0)) = true then .free
  else .val ((List.range n).map fun i => (gE r.1 (r.2.getD i 0).toNat).2 / (gE r.1 (r.2.getD i 0).toNat).1.getD i 0)
def solDR : Out → D
  | .over => .tu [.sl 3 [], dI 19]
  | .free => .tu [.sl 3 [], dI 20]
  | .val l => .tu [.sl 3 (QsD l), dI 0]
theorem bneF {a b : Int} (h : (a != b) = false) : a = b := by simpa using h
theorem getEq {l : Eqs} {i : Nat} (h : i < l.length) : (EqsD l)[i]? = some (EqD (gE l i)) := by simp [gE, h]
theorem EqsD_set {l : Eqs} {i : Nat} {e : List Rat × Rat} : (EqsD l).set i (EqD e) = EqsD (l.set i e) := by simp [List.map_set]
structure RInv (N : Nat) (l0 : Eqs) (G : Eqs × List Int) (i : Nat) (l : Eqs) (dn : List Int) : Prop where
  ii : i ≤ N
  ll : l.length = l0.length
  ld : dn.length = i
  rc : RectE l N
  sz : SzE (Xs i) l
  gg : G = goR (N - i) i l dn
theorem cE_in {e : List Rat × Rat} {c : Nat} (h : c < e.1.length) : cE e c = e.1.getD c 0 := if_pos h
theorem cE_out {e : List Rat × Rat} {c : Nat} (h : ¬ c < e.1.length) : cE e c = e.2 := if_neg h
theorem SzE.c {X : Nat} {l : Eqs} {n j : Nat} (h : SzE X l) (hr : RectE l n) (hj : j < l.length) (c : Nat) : LQ ((gE l j).1.getD c 0) ≤ X := by
  by_cases hc : c < (gE l j).1.length
  · have := (h j hj).lq c
    rwa [cE_in hc] at this
  · rw [List.getD_eq_getElem?_getD, List.getElem?_eq_none (by omega)]
    have := (h j hj).one
    show LQ 0 ≤ X
    rw [LQ_zero]; exact this
theorem SzE.v {X : Nat} {l : Eqs} {j : Nat} (h : SzE X l) (hj : j < l.length) : LQ (gE l j).2 ≤ X := by
  have := (h j hj).lq (gE l j).1.length
  rwa [cE_out (Nat.lt_irrefl _)] at this
theorem clrR_sz {l : Eqs} {r i n X k : Nat} (hr : r < l.length) (hR : RectE l n) (hi : i < n) (h0 : (gE l r).1.getD i 0 ≠ 0) (h : SzE X l) (hk : k ≤ l.length) : SzE (2 * X + 1) (clrR l r i k) := by
  obtain ⟨h1, h2, h3, h4⟩ := clrR_spec (i := i) hr hR hk
  intro j hj
  have hjl : j < l.length := by omega
  by_cases e : j = r
  · subst e
    rw [h3]
    exact (h j hjl).mono (by omega)
  · rw [h4 j hjl e]
    split
    · have hc : ∀ j, j < l.length → (gE l j).1.getD i 0 = cE (gE l j) i := fun j hj => (cE_in (by rw [hR.get hj]; exact hi)).symm
      rw [hc j hjl, hc r hr]
      refine ((h j hjl).lessQ (h r hr) i (by rw [← hc r hr]; exact h0)).congr (fun c => ?_)
      exact (lessE_spec (by rw [hR.get hjl, hR.get hr])).2 c
    · exact (h j hjl).mono (by omega)
theorem RInv.skip {N : Nat} {l0 : Eqs} {G : Eqs × List Int} {i : Nat} {l : Eqs} {dn : List Int} (h : RInv N l0 G i l dn) (hi : i < N) (hr : rowR l dn i = l.length) : RInv N l0 G (i + 1) l (dn ++ [-1]) := by
  obtain ⟨h1, h2, h3, h4, h5, h6⟩ := h
  refine ⟨hi, h2, by simp [h3], h4, h5.mono (Xs_le (by omega)), ?_⟩
  rw [show N - i = (N - (i + 1)) + 1 by omega, goR, if_pos hr] at h6
  exact h6
theorem RInv.step {N : Nat} {l0 : Eqs} {G : Eqs × List Int} {i : Nat} {l : Eqs} {dn : List Int} (h : RInv N l0 G i l dn) (hi : i < N) (hr : rowR l dn i < l.length) (h0 : (gE l (rowR l dn i)).1.getD i 0 ≠ 0) : RInv N l0 G (i + 1) (clrR l (rowR l dn i) i l.length) (dn ++ [(rowR l dn i : Int)]) := by
  obtain ⟨h1, h2, h3, h4, h5, h6⟩ := h
  obtain ⟨c1, c2, c3, c4⟩ := clrR_spec (i := i) hr h4 (Nat.le_refl _)
  refine ⟨hi, by rw [c1]; exact h2, by simp [h3], c2, clrR_sz hr h4 hi h0 h5 (Nat.le_refl _), ?_⟩
  rw [show N - i = (N - (i + 1)) + 1 by omega, goR, if_neg (by omega)] at h6
  exact h6
def fdR (l : Eqs) (dn : List Int) (i : Nat) (k : Nat) : Bool := !(dn.contains (k : Int)) && nz ((gE l k).1.getD i 0)
theorem rowR_eq (l : Eqs) (dn : List Int) (i : Nat) : rowR l dn i = fstN (fdR l dn i) l.length 0 := rfl
theorem rowR_nz {l : Eqs} {dn : List Int} {i : Nat} (h : rowR l dn i < l.length) : (gE l (rowR l dn i)).1.getD i 0 ≠ 0 := by
  have := (fstN_spec (g := fdR l dn i) (m := l.length) (i := 0)).2.2.2 (by rw [← rowR_eq]; omega)
  rw [← rowR_eq] at this
  unfold fdR at this
  simp only [Bool.and_eq_true, nz, decide_eq_true_eq] at this
  exact this.2
theorem ovR_hit {l : Eqs} {dn : List Int} {k : Nat} (hk : k < l.length) (h1 : dn.contains (k : Int) = false) (h2 : nz (gE l k).2 = true) : ovR l dn = true := by
  unfold ovR
  rw [List.any_eq_true]
  exact ⟨k, List.mem_range.2 hk, by rw [h1, h2]; rfl⟩
theorem ovR_miss {l : Eqs} {dn : List Int} (h : ∀ k, k < l.length → (!(dn.contains (k : Int)) && nz (gE l k).2) = false) : ovR l dn = false := by
  unfold ovR
  rw [List.any_eq_false]
  intro k hk
  rw [h k (List.mem_range.1 hk)]
  simp
theorem neg_hit {dn : List Int} {i : Nat} (hi : i < dn.length) (h : dn.getD i 0 < 0) : dn.any (fun x => decide (x < 0)) = true := by
  rw [List.any_eq_true]
  exact ⟨dn.getD i 0, by simp [hi], decide_eq_true h⟩
theorem neg_miss {dn : List Int} (h : ∀ i, i < dn.length → 0 ≤ dn.getD i 0) : dn.any (fun x => decide (x < 0)) = false := by
  rw [List.any_eq_false]
  intro x hx
  obtain ⟨i, hi, rfl⟩ := List.getElem_of_mem hx
  have := h i hi
  simp [hi] at this
  simpa using this
theorem final_lt {N : Nat} {l0 : Eqs} (hr : RectE l0 N) {i : Nat} (hi : i < N) (hlen : (goR N 0 l0 []).2.length = N) (h0 : 0 ≤ (goR N 0 l0 []).2.getD i 0) :
    ((goR N 0 l0 []).2.getD i 0).toNat < (goR N 0 l0 []).1.length ∧ (gE (goR N 0 l0 []).1 ((goR N 0 l0 []).2.getD i 0).toNat).1.getD i 0 ≠ 0 := by
  obtain ⟨h1, h2, _⟩ := goR_right N N 0 l0 [] (by omega) ⟨hr, rfl, by
    have e : prR [] = fun _ => none := funext fun c => by simp [prR]
    rw [e]; exact Red.init _ _ _⟩
  have hp : prR (goR N 0 l0 []).2 i = some ((goR N 0 l0 []).2.getD i 0).toNat := by
    rw [prR_iff, Int.toNat_of_nonneg h0, List.getD_eq_getElem?_getD, List.getElem?_eq_getElem (by omega), Option.getD_some]
  have hlt := (h1.red.lt _ _ hp).2
  refine ⟨hlt, ?_⟩
  have := h1.red.piv _ _ hp
  rw [fE2_eq, cE_in (by rw [h1.rect.get hlt]; exact hi)] at this
  exact this
section
variable {P : Program} {T : Ty} {B : Nat} {F0 : Nat → Prop} {w0 : Bas} {n : Nat} {σ : St} {all : Array Oper} {rest : List Oper} {o : Oper} {K : St → Prop}
theorem AOps.storeE (hT : TOk P T) {k e i : Nat} {l : Eqs} (q : List Rat × Rat) (l' : Eqs) (hl : l.set i q = l') (hd : o.dst = none) (hg : guardOk all σ o = true) (hx : seF T σ o.op = some (k, .ow e (EqsD l), EqsD l, i, 0, EqD q)) (hi : i < l.length)
    (h : AOps P B F0 w0 n all rest K ((k, .ow e (EqsD l')) :: σ)) : AOps P B F0 w0 n all (o :: rest) K σ := by
  subst hl
  refine AOps.storeel hT (EqD (gE l i)) hd hg hx (getEq hi) rfl ?_
  show AOps P B F0 w0 n all rest K ((k, .ow e ((EqsD l).set i (EqD q))) :: σ)
  rw [EqsD_set]
  exact h
end
theorem AW.to {P : Program} {B n : Nat} {F0 : Nat → Prop} {w0 : Bas} {c : Code} {Q : Exit → St → Prop} {σ : St} (ks : List Nat) (τ : St) (h : σ.keep ks = τ) (hk : AW P B F0 w0 n c Q τ) : AW P B F0 w0 n c Q σ := AW.keep ks (h ▸ hk)
abbrev XD (N : Nat) (ms : List Msh) (ps : List Plt) (gs : List Spd) : List D := [dI N, MshsD ms, PltsD ps, SpdsD gs]
abbrev stR (N : Nat) (ms : List Msh) (ps : List Plt) (gs : List Spd) (l : Eqs) (dn : List Int) : St := [(1, .bx (XD N ms ps gs)), (4, .ow 83 (EqsD l)), (5, .ow 3 (dn.map (fun n => dI n)))]
set_option maxHeartbeats 12800000 in
theorem r51_Solve_ok (x : Trn) {k : Nat} (hw : x.w k) (hk : k ≤ 10) (hE : chkT x = 0) : Pure Tryz.prog 10 [x.D] (solDR (outR x.n.toNat (eqsM x))) := by
  refine Pure.intro (n := 158) tok Tryz.func10 rfl rfl rfl (Nat.le_of_ble_eq_true rfl) (by kernel_rfl) (fun B F0 w0 => ?_)
  have hT := chkT_ok hE
  have hrows := r51_equations_ok x hw hE
  have hsz := eqsM_sz hw hk hT
  have hrect := eqsM_rect hT
  have hlen : (eqsM x).length ≤ 96 := by rw [← eqsM_len hT]; exact rowsM_len hT
  have n1 := hT.n1
  have n2 := hT.n2
  obtain ⟨N, hN⟩ : ∃ N : Nat, x.n = N := ⟨x.n.toNat, by omega⟩
  rw [show x.n.toNat = N by omega] at hrect ⊢
  rw [hN] at n1 n2
  clear hT hE
  generalize eqsM x = l0 at hrows hsz hrect hlen ⊢
  obtain ⟨n, ms, ps, gs⟩ := x
  dsimp only at hN
  subst hN
  rw [show outR N l0 = finR N (goR N 0 l0 []) from rfl]
  have hfin := fun i (hi : i < N) => final_lt hrect hi
  obtain ⟨G, hG⟩ : ∃ G, G = goR N 0 l0 [] := ⟨_, rfl⟩
  rw [← hG] at hfin ⊢
  refine AW.seq ?_
  refine AW.region ?_   -- "ref.go:133"
  refine AOps.run tok 3 _ _ _ _ rfl ?_
  refine AOps.nil ?_
  refine AW.seq ?_
  refine AZ.aw ?_
  refine AZ.region ?_
  refine AZOps.cut 1 rfl (fun B1 F1 w1 => ?_)
  refine AOps.run tok 1 _ _ _ _ rfl ?_
  refine AOps.nil ⟨rfl, ?_⟩
  refine AZOps.callz tok [] rfl rfl rfl rfl rfl List.nodup_nil rfl hrows (fun _ _ _ => Nat.zero_le _) (fun res R1 hP => ?_)
  obtain ⟨V0, rfl, rfl⟩ := hP
  refine AZOps.cut 1 rfl (fun B1 F1 w1 => ?_)
  refine AOps.run tok 1 _ _ _ _ rfl ?_
  refine AOps.nil ⟨rfl, ?_⟩
  refine AZOps.to [1, 4] [(1, .bx (XD N ms ps gs)), (4, .d (.v V0))] rfl ?_
  refine AZOps.adopt 4 0 (V := V0) (av := .ow 83 (EqsD l0)) rfl rfl rfl ?_
  refine AZOps.to [1, 4] [(1, .bx (XD N ms ps gs)), (4, .ow 83 (EqsD l0))] rfl ?_
  refine AZOps.nil ?_
  refine AW.seq ?_
  refine AW.region ?_   -- "ref.go:135"
  refine AOps.run tok 1 _ _ _ _ rfl ?_
  refine AOps.nil ?_
  refine AW.seq ?_
  refine AW.seq ?_
  refine AW.region ?_   -- "ref.go:136"
  refine AOps.run tok 1 _ _ _ _ rfl ?_
  refine AOps.nil ?_
  refine AW.block ?_   -- block 0
  refine AW.loopS [1, 4, 5, 6] (fun s : Nat × Eqs × List Int => stR N ms ps gs s.2.1 s.2.2 ++ [(6, .d (dI s.1))]) (fun s => RInv N l0 G s.1 s.2.1 s.2.2) (fun s => N - s.1) (0, l0, []) rfl ⟨Nat.zero_le _, rfl, rfl, hrect, hsz, hG⟩ (fun s hs => ?_)
  obtain ⟨i, l, dn⟩ := s
  have hs : RInv N l0 G i l dn := hs
  have i1 := hs.ii
  have i2 := hs.ll
  have i3 := hs.ld
  have i4 := hs.rc
  have i5 := hs.sz
  have hX : Xs i ≤ 720895 := by have := Xs_le (show i ≤ 16 by omega); rw [Xs_16] at this; exact this
  show AW _ _ _ _ _ _ _ (stR N ms ps gs l dn ++ [(6, .d (dI i))])
  · skip
    refine AW.seq ?_
    refine AW.seq ?_
    refine AW.region ?_   -- "ref.go:136"
    refine AOps.run tok 4 _ _ _ _ rfl ?_
    refine AOps.nil ?_
    refine AW.cond rfl (fun h => ?_) (fun h => ?_)
    · have hin : i < N := by have := of_decide_eq_true h; omega
      refine AW.skip ?_
      refine AW.seq ?_
      refine AW.block ?_   -- block 1
      refine AW.seq ?_
      refine AW.region ?_   -- "ref.go:137"
      refine AOps.run tok 1 _ _ _ _ rfl ?_
      refine AOps.nil ?_
      refine AW.seq ?_
      refine AW.seq ?_
      refine AW.region ?_   -- "ref.go:138"
      refine AOps.run tok 1 _ _ _ _ rfl ?_
      refine AOps.nil ?_
      refine AW.block ?_   -- block 2
      obtain ⟨r, hr⟩ : ∃ r, r = rowR l dn i := ⟨_, rfl⟩
      refine AW.loopS [1, 4, 5, 6, 7, 8] (fun s : Nat × Int => stR N ms ps gs l dn ++ [(6, .d (dI i)), (7, .d (dI s.2)), (8, .d (dI s.1))])
        (fun s => s.1 ≤ l.length ∧ (s.2 = -1 ∧ fstN (fdR l dn i) (l.length - s.1) s.1 = r ∨ s.2 = (r : Int) ∧ r < l.length)) (fun s => l.length - s.1) (0, -1) rfl ⟨Nat.zero_le _, .inl ⟨rfl, by rw [hr, rowR_eq]; rfl⟩⟩ (fun s hs => ?_)
      obtain ⟨k, z⟩ := s
      obtain ⟨k1, k2⟩ := hs
      dsimp only at k1 k2
      show AW _ _ _ _ _ _ _ (stR N ms ps gs l dn ++ [(6, .d (dI i)), (7, .d (dI z)), (8, .d (dI k))])
      · skip
        refine AW.seq ?_
        refine AW.seq ?_
        refine AW.region ?_   -- "ref.go:138"
        refine AOps.run tok 4 _ _ _ _ rfl ?_
        rw [List.length_map]
        refine AOps.nil ?_
        refine AW.cond rfl (fun h => ?_) (fun h => ?_)
        · have hkl : k < l.length := by have := of_decide_eq_true h; omega
          refine AW.skip ?_
          refine AW.seq ?_
          refine AW.block ?_   -- block 3
          refine AW.seq ?_
          refine AW.region ?_   -- "ref.go:139"   -- GUARDS
          refine AOps.run tok 3 _ _ _ _ rfl ?_
          refine AOps.split (t := 33) rfl (fun g => ?_) (fun g => ?_)
          rotate_left
          · have k3 : z = (r : Int) ∧ r < l.length := by
              rcases k2 with ⟨rfl, _⟩ | g2
              · have := of_decide_eq_false g; omega
              · exact g2
            refine AOps.run tok 17 _ _ _ _ rfl ?_
            refine AOps.nil ?_
            refine AW.condF rfl ?_
            refine AW.skip ?_
            refine AW.region ?_
            refine AOps.run tok 3 _ _ _ _ rfl ?_
            rw [wI64 (x := (k : Int) + 1) (by omega) (by omega)]
            refine AOps.nil ?_
            exact ⟨(k + 1, z), rfl, ⟨hkl, .inr k3⟩, by show l.length - (k + 1) < l.length - k; omega⟩
          have k3 : z = -1 ∧ fstN (fdR l dn i) (l.length - k) k = r := by
            rcases k2 with g2 | ⟨rfl, _⟩
            · exact g2
            · have := of_decide_eq_true g; omega
          obtain ⟨rfl, k3⟩ := k3
          refine AOps.run tok 2 _ _ _ _ rfl ?_
          refine AOps.calls tok rfl rfl rfl rfl (r51_has_ok dn k (by unfold big; omega)) rfl ?_
          refine AOps.run tok 3 _ _ _ _ rfl ?_
          refine AOps.split (t := 39) rfl (fun g2 => ?_) (fun g2 => ?_)
          rotate_left
          · have hnx : fdR l dn i k = false := by unfold fdR; rw [g2]; rfl
            rw [fstN_step hkl hnx] at k3
            refine AOps.run tok 11 _ _ _ _ rfl ?_
            refine AOps.nil ?_
            refine AW.condF rfl ?_
            refine AW.skip ?_
            refine AW.region ?_
            refine AOps.run tok 3 _ _ _ _ rfl ?_
            rw [wI64 (x := (k : Int) + 1) (by omega) (by omega)]
            refine AOps.nil ?_
            exact ⟨(k + 1, -1), rfl, ⟨hkl, .inl ⟨rfl, k3⟩⟩, by show l.length - (k + 1) < l.length - k; omega⟩
          refine AOps.run tok 2 _ _ _ _ rfl ?_
          refine AOps.idxo tok rfl rfl rfl rfl (Int.natCast_nonneg k) (by rw [List.length_map]; exact hkl) ?_
          refine AOps.run tok 1 _ _ _ _ rfl ?_
          refine AOps.loadel tok (EqD (gE l k)) rfl rfl rfl rfl (getEq hkl) rfl ?_
          refine AOps.run tok 1 _ _ _ _ rfl ?_
          refine AOps.idx tok (Qr ((gE l k).1.getD i 0)).D rfl rfl rfl rfl (Int.natCast_nonneg i) (getQ (by rw [Int.toNat_natCast, i4.get hkl]; exact hin)) ?_
          refine AOps.run tok 1 _ _ _ _ rfl ?_
          refine AOps.call tok rfl rfl rfl rfl (r02_Sign_ok (Qr ((gE l k).1.getD i 0)) (k := Xs i) (Qr_w _ (i5.c i4 hkl i)) (by omega)) ?_
          rw [Qr_val]
          refine AOps.run tok 2 _ _ _ _ rfl ?_
          refine AOps.nil ?_
          refine AW.cond rfl (fun g3 => ?_) (fun g3 => ?_)
          · have hnx : fdR l dn i k = true := by
              unfold fdR nz
              rw [g2, Bool.true_and]
              exact decide_eq_true (fun e => bne_iff_ne.1 g3 (sgI0.2 e))
            rw [fstN_hit hkl hnx] at k3
            refine AW.region ?_
            refine AOps.run tok 2 _ _ _ _ rfl ?_
            refine AOps.nil ?_
            refine AW.region ?_
            refine AOps.run tok 3 _ _ _ _ rfl ?_
            rw [wI64 (x := (k : Int) + 1) (by omega) (by omega)]
            refine AOps.nil ?_
            exact ⟨(k + 1, (k : Int)), rfl, ⟨hkl, .inr ⟨by rw [k3], by rw [← k3]; exact hkl⟩⟩, by show l.length - (k + 1) < l.length - k; omega⟩
          · have hnx : fdR l dn i k = false := by
              unfold fdR nz
              rw [g2, Bool.true_and]
              exact decide_eq_false (fun e => e (sgI0.1 (bneF g3)))
            rw [fstN_step hkl hnx] at k3
            refine AW.skip ?_
            refine AW.region ?_
            refine AOps.run tok 3 _ _ _ _ rfl ?_
            rw [wI64 (x := (k : Int) + 1) (by omega) (by omega)]
            refine AOps.nil ?_
            exact ⟨(k + 1, -1), rfl, ⟨hkl, .inl ⟨rfl, k3⟩⟩, by show l.length - (k + 1) < l.length - k; omega⟩
        have hkl : k = l.length := by have := of_decide_eq_false h; omega
        subst hkl
        rw [Nat.sub_self] at k2
        have k2 : z = -1 ∧ r = l.length ∨ z = (r : Int) ∧ r < l.length := by
          rcases k2 with ⟨a, b⟩ | g
          · exact .inl ⟨a, b.symm⟩
          · exact .inr g
        refine AW.exit ?_
          -- exit 2
        -- END OF BODY; what follows the loop (from its exit):
        refine AW.seq ?_
        refine AW.region ?_   -- "ref.go:143"
        refine AOps.run tok 2 _ _ _ _ rfl ?_
        refine AOps.bs tok rfl rfl rfl rfl ?_
        refine AOps.appo tok rfl rfl rfl rfl rfl rfl (by show ((dn.map (fun n => dI n)).length + 1) * 8 ≤ _; rw [List.length_map]; omega) (by show (dn.map (fun n => dI n)).length + 1 ≤ _; rw [List.length_map]; omega) ?_
        refine AOps.run tok 1 _ _ _ _ rfl ?_
        refine AOps.nil ?_
        refine AW.to [1, 4, 5, 6, 7] (stR N ms ps gs l (dn ++ [z]) ++ [(6, .d (dI i)), (7, .d (dI z))]) (by simp only [stR, List.map_append]; rfl) ?_
        refine AW.seq ?_
        refine AW.seq ?_
        refine AW.region ?_   -- "ref.go:144"
        refine AOps.run tok 2 _ _ _ _ rfl ?_
        refine AOps.nil ?_
        refine AW.cond rfl (fun h => ?_) (fun h => ?_)
        · have hz : z = -1 ∧ r = l.length := by
            rcases k2 with g | ⟨rfl, _⟩
            · exact g
            · have := of_decide_eq_true h; omega
          obtain ⟨rfl, hz⟩ := hz
          refine AW.exit ?_
          refine AW.region ?_
          refine AOps.run tok 2 _ _ _ _ rfl ?_
          rw [wI64 (x := (i : Int) + 1) (by omega) (by omega)]
          refine AOps.run tok 1 _ _ _ _ rfl ?_
          refine AOps.nil ?_
          exact ⟨(i + 1, l, dn ++ [-1]), rfl, hs.skip hin (by rw [← hr]; exact hz), by show N - (i + 1) < N - i; omega⟩
          -- exit 1
        · have hz : z = (r : Int) ∧ r < l.length := by
            rcases k2 with ⟨rfl, _⟩ | g
            · have := of_decide_eq_false h; omega
            · exact g
          obtain ⟨rfl, hrl⟩ := hz
          have h0 : (gE l r).1.getD i 0 ≠ 0 := by have := rowR_nz (l := l) (dn := dn) (i := i) (by rw [← hr]; exact hrl); rwa [← hr] at this
          have hst := hs.step hin (by rw [← hr]; exact hrl) (by rw [← hr]; exact h0)
          rw [← hr] at hst
          have hX1 : Xs (i + 1) ≤ 720895 := by have := Xs_le (show i + 1 ≤ 16 by omega); rw [Xs_16] at this; exact this
          have hXe : Xs (i + 1) = 2 * Xs i + 1 := rfl
          refine AW.skip ?_
          refine AW.seq ?_
          refine AW.region ?_   -- "ref.go:147"
          refine AOps.run tok 1 _ _ _ _ rfl ?_
          refine AOps.nil ?_
          refine AW.block ?_   -- block 4
          refine AW.loopS [1, 4, 5, 6, 7, 9] (fun k : Nat => stR N ms ps gs (clrR l r i k) (dn ++ [(r : Int)]) ++ [(6, .d (dI i)), (7, .d (dI (r : Int))), (9, .d (dI k))]) (fun k => k ≤ l.length) (fun k => l.length - k) 0 rfl (Nat.zero_le _) (fun k hkl => ?_)
          have hc1 := (clrR_spec (i := i) hrl i4 hkl).1
          have hc2 := (clrR_spec (i := i) hrl i4 hkl).2.1
          have hc3 := (clrR_spec (i := i) hrl i4 hkl).2.2.1
          have hcz := clrR_sz hrl i4 hin h0 i5 hkl
          rw [← hXe] at hcz
          have hcs : clrR l r i (k + 1) = if k ≠ r then (clrR l r i k).set k (lessE (gE (clrR l r i k) k) (gE (clrR l r i k) r) ((gE (clrR l r i k) k).1.getD i 0 / (gE (clrR l r i k) r).1.getD i 0)) else clrR l r i k := rfl
          show AW _ _ _ _ _ _ _ (stR N ms ps gs (clrR l r i k) (dn ++ [(r : Int)]) ++ [(6, .d (dI i)), (7, .d (dI (r : Int))), (9, .d (dI k))])
          generalize hcg : clrR l r i k = c at hc1 hc2 hc3 hcz hcs ⊢
          · skip
            refine AW.seq ?_
            refine AW.seq ?_
            refine AW.region ?_   -- "ref.go:147"
            refine AOps.run tok 4 _ _ _ _ rfl ?_
            rw [List.length_map, hc1]
            refine AOps.nil ?_
            refine AW.cond rfl (fun h => ?_) (fun h => ?_)
            · have hkn : k < l.length := by have := of_decide_eq_true h; omega
              refine AW.skip ?_
              refine AW.seq ?_
              refine AW.block ?_   -- block 5
              refine AW.seq ?_
              refine AW.region ?_   -- "ref.go:148"
              refine AOps.run tok 3 _ _ _ _ rfl ?_
              refine AOps.nil ?_
              refine AW.cond rfl (fun g => ?_) (fun g => ?_)
              · have hkr : k ≠ r := fun e => bne_iff_ne.1 g (by rw [e])
                rw [if_pos hkr, hc3] at hcs
                have hkc : k < c.length := by omega
                have hrc : r < c.length := by omega
                obtain ⟨q, hq⟩ : ∃ q, q = (gE c k).1.getD i 0 / (gE l r).1.getD i 0 := ⟨_, rfl⟩
                have hqs : LQ q ≤ 1441790 := by
                  have := LQ_div (r := (gE c k).1.getD i 0) h0
                  have a1 := hcz.c hc2 hkc i
                  have a2 := i5.c i4 hrl i
                  rw [hq]; omega
                rw [← hq] at hcs
                have cD := r02_Div_ok (Qr ((gE c k).1.getD i 0)) (Qr ((gE c r).1.getD i 0)) (k := 720895) (Qr_w _ (Nat.le_trans (hcz.c hc2 hkc i) hX1)) (Qr_w _ (Nat.le_trans (hcz.c hc2 hrc i) hX1)) (by decide) (by rw [Qr_val, hc3]; exact h0)
                rw [Qr_val, Qr_val, hc3, ← hq, ← hc3] at cD
                have cL := r51_less_ok (gE c k) (gE c r) q (by rw [hc2.get hkc, hc2.get hrc]) (by rw [hc2.get hkc]; omega) (by rw [hc2.get hkc]; omega) (fun j => Nat.le_trans (hcz.c hc2 hkc j) (by omega)) (Nat.le_trans (hcz.v hkc) (by omega)) (fun j => Nat.le_trans (hcz.c hc2 hrc j) (by omega)) (Nat.le_trans (hcz.v hrc) (by omega)) (by omega)
                refine AW.seq ?_
                refine AW.draw3 tok hmix [(19, true), (1, false), (1, true)] 21 [10] (by kernel_rfl) ⟨rfl, ?_⟩
                refine APre.run tok 2 _ _ _ _ rfl ?_
                refine APre.idxo tok rfl rfl rfl rfl rfl rfl (Int.natCast_nonneg k) (by rw [List.length_map]; exact hkc) ?_
                refine APre.run tok 1 _ _ _ _ rfl ?_
                refine APre.loadel tok (EqD (gE c k)) rfl rfl rfl rfl rfl (getEq hkc) rfl ?_
                refine APre.run tok 1 _ _ _ _ rfl ?_
                refine APre.idx tok (Qr ((gE c k).1.getD i 0)).D rfl rfl rfl rfl rfl (Int.natCast_nonneg i) (getQ (by rw [Int.toNat_natCast, hc2.get hkc]; exact hin)) ?_
                refine APre.run tok 3 _ _ _ _ rfl ?_
                refine APre.idxo tok rfl rfl rfl rfl rfl rfl (Int.natCast_nonneg r) (by rw [List.length_map]; exact hrc) ?_
                refine APre.run tok 1 _ _ _ _ rfl ?_
                refine APre.loadel tok (EqD (gE c r)) rfl rfl rfl rfl rfl (getEq hrc) rfl ?_
                refine APre.run tok 1 _ _ _ _ rfl ?_
                refine APre.idx tok (Qr ((gE c r).1.getD i 0)).D rfl rfl rfl rfl rfl (Int.natCast_nonneg i) (getQ (by rw [Int.toNat_natCast, hc2.get hrc]; exact hin)) ?_
                refine APre.run tok 1 _ _ _ _ rfl ?_
                refine APre.call tok rfl rfl rfl rfl rfl cD ?_
                refine APre.run tok 2 _ _ _ _ rfl ?_
                refine APre.nil ⟨rfl, ?_⟩
                refine APre.run tok 1 _ _ _ _ rfl ?_
                refine APre.nil ⟨rfl, ?_⟩
                refine APre.run tok 1 _ _ _ _ rfl ?_
                refine APre.nil ⟨_, StL.cons (.bx rfl) (StL.nil), ?_⟩
                refine AOps.run tok 1 _ _ _ _ rfl ?_
                refine AOps.nil ?_
                refine AW.to [1, 4, 5, 6, 7, 9, 10] (stR N ms ps gs c (dn ++ [(r : Int)]) ++ [(6, .d (dI i)), (7, .d (dI (r : Int))), (9, .d (dI k)), (10, .bx (Qr q).D.flat)]) rfl ?_
                refine AW.draw hmix 13 (by kernel_rfl) ?_   -- "ref.go:150"
                refine APre.run tok 4 _ _ _ _ rfl ?_
                refine APre.idxo tok rfl rfl rfl rfl rfl rfl (Int.natCast_nonneg k) (by rw [List.length_map]; exact hkc) ?_
                refine APre.loadel tok (EqD (gE c k)) rfl rfl rfl rfl rfl (getEq hkc) rfl ?_
                refine APre.run tok 2 _ _ _ _ rfl ?_
                refine APre.idxo tok rfl rfl rfl rfl rfl rfl (Int.natCast_nonneg r) (by rw [List.length_map]; exact hrc) ?_
                refine APre.loadel tok (EqD (gE c r)) rfl rfl rfl rfl rfl (getEq hrc) rfl ?_
                refine APre.run tok 1 _ _ _ _ rfl ?_
                refine APre.call tok rfl rfl rfl rfl rfl cL ?_
                refine APre.idxo tok rfl rfl rfl rfl rfl rfl (Int.natCast_nonneg k) (by rw [List.length_map]; exact hkc) ?_
                refine APre.nil ?_
                refine AOps.storeE tok (lessE (gE c k) (gE c r) q) (clrR l r i (k + 1)) (by rw [hc3, Int.toNat_natCast, ← hcs]) rfl rfl rfl hkc ?_
                refine AOps.nil ?_
                refine AW.region ?_   -- "ref.go:147"
                refine AOps.run tok 2 _ _ _ _ rfl ?_
                rw [wI64 (x := (k : Int) + 1) (by omega) (by omega)]
                refine AOps.run tok 1 _ _ _ _ rfl ?_
                refine AOps.nil ?_
                exact ⟨k + 1, rfl, hkn, by omega⟩
              · have hkr : k = r := by have := bneF g; omega
                rw [if_neg (by omega)] at hcs
                refine AW.skip ?_
                refine AW.region ?_   -- "ref.go:147"
                refine AOps.run tok 2 _ _ _ _ rfl ?_
                rw [wI64 (x := (k : Int) + 1) (by omega) (by omega)]
                refine AOps.run tok 1 _ _ _ _ rfl ?_
                refine AOps.nil ?_
                exact ⟨k + 1, by rw [hcs]; rfl, hkn, by omega⟩
            have hkn : k = l.length := by have := of_decide_eq_false h; omega
            rw [hkn] at hcg
            rw [hcg] at hst
            refine AW.exit ?_
              -- exit 4
            -- END OF BODY; what follows the loop (from its exit):
            refine AW.region ?_   -- "ref.go:136"
            refine AOps.run tok 2 _ _ _ _ rfl ?_
            rw [wI64 (x := (i : Int) + 1) (by omega) (by omega)]
            refine AOps.run tok 1 _ _ _ _ rfl ?_
            refine AOps.nil ?_
            exact ⟨(i + 1, c, dn ++ [(r : Int)]), rfl, hst, by show N - (i + 1) < N - i; omega⟩
    have hin : i = N := by have := of_decide_eq_false h; omega
    subst hin
    have hGe : G = (l, dn) := by rw [hs.gg, Nat.sub_self]; rfl
    subst hGe
    clear hG
    refine AW.exit ?_
      -- exit 0
    -- END OF BODY; what follows the loop (from its exit):
    refine AW.seq ?_
    refine AW.seq ?_
    refine AW.region ?_   -- "ref.go:154"
    refine AOps.run tok 1 _ _ _ _ rfl ?_
    refine AOps.nil ?_
    refine AW.block ?_   -- block 6
    refine AW.loopS [1, 4, 5, 12] (fun k : Nat => stR i ms ps gs l dn ++ [(12, .d (dI k))]) (fun k => k ≤ l.length ∧ ∀ j, j < k → (!(dn.contains (j : Int)) && nz (gE l j).2) = false) (fun k => l.length - k) 0 rfl ⟨Nat.zero_le _, fun j hj => by omega⟩ (fun k hk => ?_)
    obtain ⟨k1, k2⟩ := hk
    show AW _ _ _ _ _ _ _ (stR i ms ps gs l dn ++ [(12, .d (dI k))])
    · skip
      refine AW.seq ?_
      refine AW.seq ?_
      refine AW.region ?_   -- "ref.go:154"
      refine AOps.run tok 4 _ _ _ _ rfl ?_
      rw [List.length_map]
      refine AOps.nil ?_
      refine AW.cond rfl (fun h => ?_) (fun h => ?_)
      · have hkl : k < l.length := by have := of_decide_eq_true h; omega
        refine AW.skip ?_
        refine AW.seq ?_
        refine AW.block ?_   -- block 7
        refine AW.seq ?_
        refine AW.region ?_   -- "ref.go:155"   -- GUARDS
        refine AOps.run tok 2 _ _ _ _ rfl ?_
        refine AOps.calls tok rfl rfl rfl rfl (r51_has_ok dn k (by unfold big; omega)) rfl ?_
        refine AOps.run tok 2 _ _ _ _ rfl ?_
        refine AOps.split (t := 110) rfl (fun g2 => ?_) (fun g2 => ?_)
        rotate_left
        · refine AOps.run tok 8 _ _ _ _ rfl ?_
          refine AOps.nil ?_
          refine AW.condF rfl ?_
          refine AW.skip ?_
          refine AW.region ?_
          refine AOps.run tok 2 _ _ _ _ rfl ?_
          rw [wI64 (x := (k : Int) + 1) (by omega) (by omega)]
          refine AOps.run tok 1 _ _ _ _ rfl ?_
          refine AOps.nil ?_
          exact ⟨k + 1, rfl, ⟨hkl, fun j hj => by
            by_cases e : j = k
            · rw [e, g2]; rfl
            · exact k2 j (by omega)⟩, by omega⟩
        refine AOps.run tok 2 _ _ _ _ rfl ?_
        refine AOps.idxo tok rfl rfl rfl rfl (Int.natCast_nonneg k) (by rw [List.length_map]; exact hkl) ?_
        refine AOps.run tok 1 _ _ _ _ rfl ?_
        refine AOps.loadel tok (EqD (gE l k)) rfl rfl rfl rfl (getEq hkl) rfl ?_
        refine AOps.call tok rfl rfl rfl rfl (r02_Sign_ok (Qr (gE l k).2) (k := Xs i) (Qr_w _ (i5.v hkl)) (by omega)) ?_
        rw [Qr_val]
        refine AOps.run tok 2 _ _ _ _ rfl ?_
        refine AOps.nil ?_
        refine AW.cond rfl (fun g3 => ?_) (fun g3 => ?_)
        · have hov : ovR l dn = true := ovR_hit hkl (by simpa using g2) (decide_eq_true (fun e => bne_iff_ne.1 g3 (sgI0.2 e)))
          rw [show finR i (l, dn) = .over by unfold finR; rw [if_pos hov]]
          refine AW.seq ?_
          refine AW.region ?_
          refine AOps.run tok 2 _ _ _ _ rfl ?_
          refine AOps.nil ?_
          exact AW.ret rfl
        · refine AW.skip ?_
          refine AW.region ?_
          refine AOps.run tok 2 _ _ _ _ rfl ?_
          rw [wI64 (x := (k : Int) + 1) (by omega) (by omega)]
          refine AOps.run tok 1 _ _ _ _ rfl ?_
          refine AOps.nil ?_
          exact ⟨k + 1, rfl, ⟨hkl, fun j hj => by
            by_cases e : j = k
            · rw [e, g2, Bool.true_and]
              exact decide_eq_false (fun e => e (sgI0.1 (bneF g3)))
            · exact k2 j (by omega)⟩, by omega⟩
      have hkl : k = l.length := by have := of_decide_eq_false h; omega
      subst hkl
      have hov := ovR_miss k2
      refine AW.exit ?_
        -- exit 6
      -- END OF BODY; what follows the loop (from its exit):
      refine AW.seq ?_
      refine AW.region ?_   -- "ref.go:159"
      refine AOps.run tok 1 _ _ _ _ rfl ?_
      refine AOps.nil ?_
      refine AW.seq ?_
      refine AW.seq ?_
      refine AW.region ?_   -- "ref.go:160"
      refine AOps.run tok 1 _ _ _ _ rfl ?_
      refine AOps.nil ?_
      refine AW.block ?_   -- block 8
      refine AW.loopS [1, 4, 5, 13, 14] (fun j : Nat => stR i ms ps gs l dn ++ [(13, .ow 41 (QsD ((List.range j).map fun c => (gE l (dn.getD c 0).toNat).2 / (gE l (dn.getD c 0).toNat).1.getD c 0))), (14, .d (dI j))]) (fun j => j ≤ i ∧ ∀ c, c < j → 0 ≤ dn.getD c 0) (fun j => i - j) 0 rfl ⟨Nat.zero_le _, fun j hj => by omega⟩ (fun j hj => ?_)
      obtain ⟨j1, j2⟩ := hj
      generalize hos : (List.range j).map (fun c => (gE l (dn.getD c 0).toNat).2 / (gE l (dn.getD c 0).toNat).1.getD c 0) = os
      have hol : os.length = j := by rw [← hos, List.length_map, List.length_range]
      show AW _ _ _ _ _ _ _ (stR i ms ps gs l dn ++ [(13, .ow 41 (QsD os)), (14, .d (dI j))])
      · skip
        refine AW.seq ?_
        refine AW.seq ?_
        refine AW.region ?_   -- "ref.go:160"
        refine AOps.run tok 4 _ _ _ _ rfl ?_
        refine AOps.nil ?_
        refine AW.cond rfl (fun h => ?_) (fun h => ?_)
        · have hji : j < i := by have := of_decide_eq_true h; omega
          refine AW.skip ?_
          refine AW.seq ?_
          refine AW.block ?_   -- block 9
          refine AW.seq ?_
          refine AW.seq ?_
          refine AW.region ?_   -- "ref.go:161"
          refine AOps.run tok 2 _ _ _ _ rfl ?_
          refine AOps.idxo tok rfl rfl rfl rfl (Int.natCast_nonneg j) (by rw [List.length_map]; omega) ?_
          refine AOps.loadel tok (dI (dn.getD j 0)) rfl rfl rfl rfl (getN (by omega)) rfl ?_
          refine AOps.run tok 1 _ _ _ _ rfl ?_
          refine AOps.nil ?_
          refine AW.cond rfl (fun h => ?_) (fun h => ?_)
          · rw [show finR i (l, dn) = .free by unfold finR; rw [if_neg (by rw [hov]; simp), if_pos (neg_hit (by omega) (of_decide_eq_true h))]]
            refine AW.seq ?_
            refine AW.region ?_   -- "ref.go:162"
            refine AOps.run tok 2 _ _ _ _ rfl ?_
            refine AOps.nil ?_
            exact AW.ret rfl
          · have hz := of_decide_eq_false h
            obtain ⟨f1, f2⟩ := hfin j hji (by show dn.length = i; omega) (by show 0 ≤ dn.getD j 0; omega)
            dsimp only at f1 f2
            obtain ⟨m, hm⟩ : ∃ m : Nat, dn.getD j 0 = m := ⟨(dn.getD j 0).toNat, by omega⟩
            rw [hm, Int.toNat_natCast] at f1 f2
            have cD := r02_Div_ok (Qr (gE l m).2) (Qr ((gE l m).1.getD j 0)) (k := 720895) (Qr_w _ (Nat.le_trans (i5.v f1) hX)) (Qr_w _ (Nat.le_trans (i5.c i4 f1 j) hX)) (by decide) (by rw [Qr_val]; exact f2)
            rw [Qr_val, Qr_val] at cD
            refine AW.skip ?_
            refine AW.seq ?_
            refine AW.draw3 tok hmix [(22, true), (1, false), (1, true)] 24 [15] (by kernel_rfl) ⟨rfl, ?_⟩
            refine APre.run tok 3 _ _ _ _ rfl ?_
            refine APre.idxo tok rfl rfl rfl rfl rfl rfl (Int.natCast_nonneg j) (by rw [List.length_map]; omega) ?_
            refine APre.loadel tok (dI (m : Int)) rfl rfl rfl rfl rfl (by rw [Int.toNat_natCast, getN (by omega), hm]) rfl ?_
            refine APre.idxo tok rfl rfl rfl rfl rfl rfl (Int.natCast_nonneg m) (by rw [List.length_map]; exact f1) ?_
            refine APre.run tok 1 _ _ _ _ rfl ?_
            refine APre.loadel tok (EqD (gE l m)) rfl rfl rfl rfl rfl (getEq f1) rfl ?_
            refine APre.run tok 3 _ _ _ _ rfl ?_
            refine APre.idxo tok rfl rfl rfl rfl rfl rfl (Int.natCast_nonneg j) (by rw [List.length_map]; omega) ?_
            refine APre.loadel tok (dI (m : Int)) rfl rfl rfl rfl rfl (by rw [Int.toNat_natCast, getN (by omega), hm]) rfl ?_
            refine APre.idxo tok rfl rfl rfl rfl rfl rfl (Int.natCast_nonneg m) (by rw [List.length_map]; exact f1) ?_
            refine APre.run tok 1 _ _ _ _ rfl ?_
            refine APre.loadel tok (EqD (gE l m)) rfl rfl rfl rfl rfl (getEq f1) rfl ?_
            refine APre.run tok 1 _ _ _ _ rfl ?_
            refine APre.idx tok (Qr ((gE l m).1.getD j 0)).D rfl rfl rfl rfl rfl (Int.natCast_nonneg j) (getQ (by rw [Int.toNat_natCast, i4.get f1]; exact hji)) ?_
            refine APre.run tok 1 _ _ _ _ rfl ?_
            refine APre.call tok rfl rfl rfl rfl rfl cD ?_
            refine APre.run tok 2 _ _ _ _ rfl ?_
            refine APre.nil ⟨rfl, ?_⟩
            refine APre.run tok 1 _ _ _ _ rfl ?_
            refine APre.nil ⟨rfl, ?_⟩
            refine APre.run tok 1 _ _ _ _ rfl ?_
            refine APre.nil ⟨_, StL.cons (.bx rfl) (StL.nil), ?_⟩
            refine AOps.run tok 1 _ _ _ _ rfl ?_
            refine AOps.nil ?_
            refine AW.region ?_   -- "ref.go:165"
            refine AOps.run tok 2 _ _ _ _ rfl ?_
            refine AOps.bsd tok rfl rfl rfl rfl rfl ?_
            refine AOps.appo tok rfl rfl rfl rfl rfl rfl (by show ((QsD os).length + 1) * 56 ≤ _; rw [List.length_map, hol]; omega) (by show (QsD os).length + 1 ≤ _; rw [List.length_map, hol]; omega) ?_
            refine AOps.run tok 1 _ _ _ _ rfl ?_
            refine AOps.nil ?_
            refine AW.region ?_   -- "ref.go:160"
            refine AOps.run tok 2 _ _ _ _ rfl ?_
            rw [wI64 (x := (j : Int) + 1) (by omega) (by omega)]
            refine AOps.run tok 1 _ _ _ _ rfl ?_
            refine AOps.nil ?_
            exact ⟨j + 1, by
              rw [List.range_succ, List.map_append, hos, List.map_cons, List.map_nil, hm, Int.toNat_natCast, show QsD (os ++ [(gE l m).2 / (gE l m).1.getD j 0]) = QsD os ++ [(Qr ((gE l m).2 / (gE l m).1.getD j 0)).D] by rw [QsD, List.map_append]; rfl]
              rfl, ⟨hji, fun c hc => by
              by_cases e : c = j
              · rw [e]; omega
              · exact j2 c (by omega)⟩, by omega⟩
        have hji : j = i := by have := of_decide_eq_false h; omega
        subst hji
        rw [show finR j (l, dn) = .val os by unfold finR; rw [if_neg (by rw [hov]; simp), if_neg (by rw [neg_miss (fun c hc => j2 c (by omega))]; simp), ← hos]]
        refine AW.exit ?_
          -- exit 8
        -- END OF BODY; what follows the loop (from its exit):
        refine AW.seq ?_
        refine AW.region ?_   -- "ref.go:167"
        refine AOps.run tok 3 _ _ _ _ rfl ?_
        refine AOps.nil ?_
        exact AW.ret rfl
end Lift
/- The reference's Check, CheckSpeeds, Verify; lists of fractions that are equal. -/
namespace Lift
open Go Go.Proofs

theorem r51_Check_ok (x : Trn) {k : Nat} (hw : x.w k) (hk : k ≤ 50000000) : Pure Tryz.prog 9 [x.D] (dI ((chkT x : Nat) : Int)) := by
  refine Pure.intro (n := 147) tok Tryz.func9 rfl rfl rfl (Nat.le_of_ble_eq_true rfl) (by kernel_rfl) (fun B F0 w0 => ?_)
  obtain ⟨w1, w2, w3, w4⟩ := hw
  refine AW.seq ?_
  refine AW.region ?_   -- "ref.go:25"
  refine AOps.run tok 2 _ _ _ _ rfl ?_
  refine AOps.nil ?_
  refine AW.seq ?_
  refine AW.seq ?_
  refine AW.region ?_   -- "ref.go:26"   -- GUARDS
  refine AOps.run tok 4 _ _ _ _ rfl ?_
  refine AOps.split (t := 11) rfl (fun h => ?_) (fun h0 => ?_)
  · rw [chkT_1 (x := x) (.inl (of_decide_eq_true h))]
    refine AOps.run tok 4 _ _ _ _ rfl ?_
    refine AOps.nil ?_
    refine AW.condT rfl ?_
    refine AW.seq ?_
    refine AW.region ?_
    refine AOps.run tok 1 _ _ _ _ rfl ?_
    refine AOps.nil ?_
    exact AW.ret rfl
  refine AOps.run tok 4 _ _ _ _ rfl ?_
  refine AOps.nil ?_
  refine AW.cond rfl (fun h => ?_) (fun h => ?_)
  · rw [chkT_1 (x := x) (.inr (by have := of_decide_eq_true h; omega))]
    refine AW.seq ?_
    refine AW.region ?_   -- "ref.go:27"
    refine AOps.run tok 1 _ _ _ _ rfl ?_
    refine AOps.nil ?_
    exact AW.ret rfl
  · have h1 : ¬ (x.n < 1 ∨ 16 < x.n) := by have := of_decide_eq_false h0; have := of_decide_eq_false h; omega
    refine AW.skip ?_
    refine AW.seq ?_
    refine AW.seq ?_
    refine AW.region ?_   -- "ref.go:29"   -- GUARDS
    refine AOps.run tok 5 _ _ _ _ rfl ?_
    rw [List.length_map]
    refine AOps.split (t := 20) rfl (fun h => ?_) (fun g0 => ?_)
    · rw [chkT_2 h1 (.inl (by have := of_decide_eq_true h; omega))]
      refine AOps.run tok 6 _ _ _ _ rfl ?_
      refine AOps.split (t := 26) rfl (fun h => ?_) (fun g0 => by cases g0)
      refine AOps.run tok 5 _ _ _ _ rfl ?_
      refine AOps.nil ?_
      refine AW.condT rfl ?_
      refine AW.seq ?_
      refine AW.region ?_
      refine AOps.run tok 1 _ _ _ _ rfl ?_
      refine AOps.nil ?_
      exact AW.ret rfl
    refine AOps.run tok 6 _ _ _ _ rfl ?_
    rw [List.length_map]
    refine AOps.split (t := 26) rfl (fun h => ?_) (fun g1 => ?_)
    · rw [chkT_2 h1 (.inr (.inl (by have := of_decide_eq_true h; omega)))]
      refine AOps.run tok 5 _ _ _ _ rfl ?_
      refine AOps.nil ?_
      refine AW.condT rfl ?_
      refine AW.seq ?_
      refine AW.region ?_
      refine AOps.run tok 1 _ _ _ _ rfl ?_
      refine AOps.nil ?_
      exact AW.ret rfl
    refine AOps.run tok 5 _ _ _ _ rfl ?_
    rw [List.length_map]
    refine AOps.nil ?_
    refine AW.cond rfl (fun h => ?_) (fun h => ?_)
    · rw [chkT_2 h1 (.inr (.inr (by have := of_decide_eq_true h; omega)))]
      refine AW.seq ?_
      refine AW.region ?_   -- "ref.go:30"
      refine AOps.run tok 1 _ _ _ _ rfl ?_
      refine AOps.nil ?_
      exact AW.ret rfl
    · have h2 : ¬ (32 < x.ms.length ∨ 32 < x.ps.length ∨ 32 < x.gs.length) := by have := of_decide_eq_false g0; have := of_decide_eq_false g1; have := of_decide_eq_false h; omega
      refine AW.skip ?_
      refine AW.seq ?_
      refine AW.seq ?_
      refine AW.region ?_   -- "ref.go:32"
      refine AOps.run tok 1 _ _ _ _ rfl ?_
      refine AOps.nil ?_
      refine AW.block ?_   -- block 0
      refine AW.loopS [1, 3] (fun i : Nat => [(1, .bx [dI x.n, MshsD x.ms, PltsD x.ps, SpdsD x.gs]), (3, .d (dI i))]) (fun i => i ≤ x.ms.length ∧ mshsE x.n x.ms = fE (fun i => mshE x.n (x.ms.getD i default)) (x.ms.length - i) i) (fun i => x.ms.length - i) 0 rfl ⟨Nat.zero_le _, rfl⟩ (fun i ⟨hi, hE⟩ => ?_)
      · skip
        refine AW.seq ?_
        refine AW.seq ?_
        refine AW.region ?_   -- "ref.go:32"
        refine AOps.run tok 4 _ _ _ _ rfl ?_
        rw [List.length_map]
        refine AOps.run tok 1 _ _ _ _ rfl ?_
        refine AOps.nil ?_
        refine AW.cond rfl (fun h => ?_) (fun h => ?_)
        · have hin : i < x.ms.length := by have := of_decide_eq_true h; omega
          have hM := fun h0 => hE.trans (fE_miss (f := fun i => mshE x.n (x.ms.getD i default)) hin h0)
          have hH := fun k hk => chkT_m (k := k) h1 h2 hin hE hk
          have hid : (x.ms.map Msh.D)[i]? = some (x.ms.getD i default).D := getM Msh.D hin
          generalize x.ms.getD i default = m at hid hM hH
          refine AW.skip ?_
          refine AW.seq ?_
          refine AW.block ?_   -- block 1
          refine AW.seq ?_
          refine AW.region ?_   -- "ref.go:33"
          refine AOps.run tok 3 _ _ _ _ rfl ?_
          refine AOps.idx tok m.D rfl rfl rfl rfl (Int.natCast_nonneg i) hid ?_
          refine AOps.run tok 3 _ _ _ _ rfl ?_
          refine AOps.nil ?_
          refine AW.seq ?_
          refine AW.seq ?_
          refine AW.region ?_   -- "ref.go:34"   -- GUARDS
          refine AOps.run tok 3 _ _ _ _ rfl ?_
          refine AOps.call tok rfl rfl rfl rfl (r51_shaft_ok _ m.a) ?_
          refine AOps.run tok 2 _ _ _ _ rfl ?_
          refine AOps.split (t := 49) rfl (fun h => ?_) (fun g => ?_)
          · rw [hH 8 (by unfold mshE; rw [show inS x.n m.a = false by simpa using h]; rfl)]
            refine AOps.run tok 6 _ _ _ _ rfl ?_
            refine AOps.nil ?_
            refine AW.condT rfl ?_
            refine AW.seq ?_
            refine AW.region ?_
            refine AOps.run tok 1 _ _ _ _ rfl ?_
            refine AOps.nil ?_
            exact AW.ret rfl
          refine AOps.run tok 3 _ _ _ _ rfl ?_
          refine AOps.call tok rfl rfl rfl rfl (r51_shaft_ok _ m.b) ?_
          refine AOps.run tok 2 _ _ _ _ rfl ?_
          refine AOps.nil ?_
          refine AW.cond rfl (fun h => ?_) (fun h => ?_)
          · rw [hH 8 (by unfold mshE; rw [show inS x.n m.b = false by simpa using h, Bool.and_false]; rfl)]
            refine AW.seq ?_
            refine AW.region ?_   -- "ref.go:35"
            refine AOps.run tok 1 _ _ _ _ rfl ?_
            refine AOps.nil ?_
            exact AW.ret rfl
          · have i1 : (inS x.n m.a && inS x.n m.b) = true := by rw [show inS x.n m.a = true by simpa using g, show inS x.n m.b = true by simpa using h]; rfl
            refine AW.skip ?_
            refine AW.seq ?_
            refine AW.seq ?_
            refine AW.region ?_   -- "ref.go:37"
            refine AOps.run tok 5 _ _ _ _ rfl ?_
            refine AOps.nil ?_
            refine AW.cond rfl (fun h => ?_) (fun h => ?_)
            · rw [hH 5 (by unfold mshE; rw [i1, if_neg (by simp), if_pos (of_decide_eq_true h)])]
              refine AW.seq ?_
              refine AW.region ?_   -- "ref.go:38"
              refine AOps.run tok 1 _ _ _ _ rfl ?_
              refine AOps.nil ?_
              exact AW.ret rfl
            · have i2 : ¬ m.a = m.b := of_decide_eq_false h
              refine AW.skip ?_
              refine AW.seq ?_
              refine AW.region ?_   -- "ref.go:40"
              refine AOps.run tok 4 _ _ _ _ rfl ?_
              refine AOps.call tok rfl rfl rfl rfl (r51_teeth_ok m.ta m.tb) ?_
              refine AOps.run tok 1 _ _ _ _ rfl ?_
              refine AOps.nil ?_
              refine AW.cond rfl (fun h => ?_) (fun h => ?_)
              · rw [hH 2 (by unfold mshE; rw [i1, if_neg (by simp), if_neg i2, if_pos (by simpa using h)])]
                refine AW.seq ?_
                refine AW.region ?_   -- "ref.go:41"
                refine AOps.run tok 1 _ _ _ _ rfl ?_
                refine AOps.nil ?_
                exact AW.ret rfl
              · have i3 : thB m.ta m.tb = true := by simpa using h
                refine AW.skip ?_
                refine AW.region ?_   -- "ref.go:32"
                refine AOps.run tok 2 _ _ _ _ rfl ?_
                rw [wI64 (x := (i : Int) + 1) (by omega) (by omega)]
                refine AOps.run tok 1 _ _ _ _ rfl ?_
                refine AOps.nil ?_
                exact ⟨i + 1, rfl, ⟨hin, hM (by unfold mshE; rw [i1, if_neg (by simp), if_neg i2, if_neg (by rw [i3]; simp)])⟩, by omega⟩
        have hin : ¬ i < x.ms.length := by have := of_decide_eq_false h; omega
        have h3 : mshsE x.n x.ms = 0 := hE.trans (fE_end hin)
        refine AW.exit ?_
          -- exit 0
        -- END OF BODY; what follows the loop (from its exit):
        refine AW.seq ?_
        refine AW.seq ?_
        refine AW.region ?_   -- "ref.go:44"
        refine AOps.run tok 1 _ _ _ _ rfl ?_
        refine AOps.nil ?_
        refine AW.block ?_   -- block 2
        refine AW.loopS [1, 5] (fun i : Nat => [(1, .bx [dI x.n, MshsD x.ms, PltsD x.ps, SpdsD x.gs]), (5, .d (dI i))]) (fun i => i ≤ x.ps.length ∧ pltsE x.n x.ps = fE (fun i => pltE x.n (x.ps.getD i default)) (x.ps.length - i) i) (fun i => x.ps.length - i) 0 rfl ⟨Nat.zero_le _, rfl⟩ (fun i ⟨hi, hE⟩ => ?_)
        · skip
          refine AW.seq ?_
          refine AW.seq ?_
          refine AW.region ?_   -- "ref.go:44"
          refine AOps.run tok 4 _ _ _ _ rfl ?_
          rw [List.length_map]
          refine AOps.run tok 1 _ _ _ _ rfl ?_
          refine AOps.nil ?_
          refine AW.cond rfl (fun h => ?_) (fun h => ?_)
          · have hin : i < x.ps.length := by have := of_decide_eq_true h; omega
            have hM := fun h0 => hE.trans (fE_miss (f := fun i => pltE x.n (x.ps.getD i default)) hin h0)
            have hH := fun k hk => chkT_p (k := k) h1 h2 h3 hin hE hk
            have hid : (x.ps.map Plt.D)[i]? = some (x.ps.getD i default).D := getM Plt.D hin
            generalize x.ps.getD i default = m at hid hM hH
            refine AW.skip ?_
            refine AW.seq ?_
            refine AW.block ?_   -- block 3
            refine AW.seq ?_
            refine AW.region ?_   -- "ref.go:45"
            refine AOps.run tok 3 _ _ _ _ rfl ?_
            refine AOps.idx tok m.D rfl rfl rfl rfl (Int.natCast_nonneg i) hid ?_
            refine AOps.run tok 3 _ _ _ _ rfl ?_
            refine AOps.nil ?_
            refine AW.seq ?_
            refine AW.seq ?_
            refine AW.region ?_   -- "ref.go:46"   -- GUARDS
            refine AOps.run tok 3 _ _ _ _ rfl ?_
            refine AOps.call tok rfl rfl rfl rfl (r51_shaft_ok _ m.s) ?_
            refine AOps.run tok 2 _ _ _ _ rfl ?_
            refine AOps.split (t := 84) rfl (fun h => ?_) (fun g => ?_)
            · rw [hH 8 (by unfold pltE; rw [show inS x.n m.s = false by simpa using h]; rfl)]
              refine AOps.run tok 7 _ _ _ _ rfl ?_
              refine AOps.split (t := 91) rfl (fun h => ?_) (fun g0 => by cases g0)
              refine AOps.run tok 6 _ _ _ _ rfl ?_
              refine AOps.nil ?_
              refine AW.condT rfl ?_
              refine AW.seq ?_
              refine AW.region ?_
              refine AOps.run tok 1 _ _ _ _ rfl ?_
              refine AOps.nil ?_
              exact AW.ret rfl
            refine AOps.run tok 3 _ _ _ _ rfl ?_
            refine AOps.call tok rfl rfl rfl rfl (r51_shaft_ok _ m.r) ?_
            refine AOps.run tok 3 _ _ _ _ rfl ?_
            refine AOps.split (t := 91) rfl (fun h => ?_) (fun g2 => ?_)
            · rw [hH 8 (by unfold pltE; rw [show inS x.n m.r = false by simpa using h, Bool.false_and, Bool.and_false]; rfl)]
              refine AOps.run tok 6 _ _ _ _ rfl ?_
              refine AOps.nil ?_
              refine AW.condT rfl ?_
              refine AW.seq ?_
              refine AW.region ?_
              refine AOps.run tok 1 _ _ _ _ rfl ?_
              refine AOps.nil ?_
              exact AW.ret rfl
            refine AOps.run tok 3 _ _ _ _ rfl ?_
            refine AOps.call tok rfl rfl rfl rfl (r51_shaft_ok _ m.c) ?_
            refine AOps.run tok 2 _ _ _ _ rfl ?_
            refine AOps.nil ?_
            refine AW.cond rfl (fun h => ?_) (fun h => ?_)
            · rw [hH 8 (by unfold pltE; rw [show inS x.n m.c = false by simpa using h, Bool.and_false, Bool.and_false]; rfl)]
              refine AW.seq ?_
              refine AW.region ?_   -- "ref.go:47"
              refine AOps.run tok 1 _ _ _ _ rfl ?_
              refine AOps.nil ?_
              exact AW.ret rfl
            · have i1 : (inS x.n m.s && (inS x.n m.r && inS x.n m.c)) = true := by rw [show inS x.n m.s = true by simpa using g, show inS x.n m.r = true by simpa using g2, show inS x.n m.c = true by simpa using h]; rfl
              refine AW.skip ?_
              refine AW.seq ?_
              refine AW.seq ?_
              refine AW.region ?_   -- "ref.go:49"   -- GUARDS
              refine AOps.run tok 6 _ _ _ _ rfl ?_
              refine AOps.split (t := 103) rfl (fun h => ?_) (fun g1 => ?_)
              · rw [hH 5 (by unfold pltE; rw [i1, if_neg (by simp), if_pos (.inl (of_decide_eq_true h))])]
                refine AOps.run tok 7 _ _ _ _ rfl ?_
                refine AOps.split (t := 110) rfl (fun h => ?_) (fun g0 => by cases g0)
                refine AOps.run tok 6 _ _ _ _ rfl ?_
                refine AOps.nil ?_
                refine AW.condT rfl ?_
                refine AW.seq ?_
                refine AW.region ?_
                refine AOps.run tok 1 _ _ _ _ rfl ?_
                refine AOps.nil ?_
                exact AW.ret rfl
              refine AOps.run tok 7 _ _ _ _ rfl ?_
              refine AOps.split (t := 110) rfl (fun h => ?_) (fun g3 => ?_)
              · rw [hH 5 (by unfold pltE; rw [i1, if_neg (by simp), if_pos (.inr (.inl (of_decide_eq_true h)))])]
                refine AOps.run tok 6 _ _ _ _ rfl ?_
                refine AOps.nil ?_
                refine AW.condT rfl ?_
                refine AW.seq ?_
                refine AW.region ?_
                refine AOps.run tok 1 _ _ _ _ rfl ?_
                refine AOps.nil ?_
                exact AW.ret rfl
              refine AOps.run tok 6 _ _ _ _ rfl ?_
              refine AOps.nil ?_
              refine AW.cond rfl (fun h => ?_) (fun h => ?_)
              · rw [hH 5 (by unfold pltE; rw [i1, if_neg (by simp), if_pos (.inr (.inr (of_decide_eq_true h)))])]
                refine AW.seq ?_
                refine AW.region ?_   -- "ref.go:50"
                refine AOps.run tok 1 _ _ _ _ rfl ?_
                refine AOps.nil ?_
                exact AW.ret rfl
              · have i2 : ¬ (m.s = m.r ∨ m.s = m.c ∨ m.r = m.c) := by have := of_decide_eq_false g1; have := of_decide_eq_false g3; have := of_decide_eq_false h; omega
                refine AW.skip ?_
                refine AW.seq ?_
                refine AW.region ?_   -- "ref.go:52"
                refine AOps.run tok 4 _ _ _ _ rfl ?_
                refine AOps.call tok rfl rfl rfl rfl (r51_teeth_ok m.ts m.tr) ?_
                refine AOps.run tok 1 _ _ _ _ rfl ?_
                refine AOps.nil ?_
                refine AW.cond rfl (fun h => ?_) (fun h => ?_)
                · rw [hH 2 (by unfold pltE; rw [i1, if_neg (by simp), if_neg i2, if_pos (by simpa using h)])]
                  refine AW.seq ?_
                  refine AW.region ?_   -- "ref.go:53"
                  refine AOps.run tok 1 _ _ _ _ rfl ?_
                  refine AOps.nil ?_
                  exact AW.ret rfl
                · have i3 : thB m.ts m.tr = true := by simpa using h
                  refine AW.skip ?_
                  refine AW.region ?_   -- "ref.go:44"
                  refine AOps.run tok 2 _ _ _ _ rfl ?_
                  rw [wI64 (x := (i : Int) + 1) (by omega) (by omega)]
                  refine AOps.run tok 1 _ _ _ _ rfl ?_
                  refine AOps.nil ?_
                  exact ⟨i + 1, rfl, ⟨hin, hM (by unfold pltE; rw [i1, if_neg (by simp), if_neg i2, if_neg (by rw [i3]; simp)])⟩, by omega⟩
          have hin : ¬ i < x.ps.length := by have := of_decide_eq_false h; omega
          have h4 : pltsE x.n x.ps = 0 := hE.trans (fE_end hin)
          rw [chkT_g h1 h2 h3 h4]
          refine AW.exit ?_
            -- exit 2
          -- END OF BODY; what follows the loop (from its exit):
          refine AW.seq ?_
          refine AW.seq ?_
          refine AW.region ?_   -- "ref.go:56"
          refine AOps.run tok 1 _ _ _ _ rfl ?_
          refine AOps.nil ?_
          refine AW.block ?_   -- block 4
          refine AW.loopS [1, 7] (fun i : Nat => [(1, .bx [dI x.n, MshsD x.ms, PltsD x.ps, SpdsD x.gs]), (7, .d (dI i))]) (fun i => i ≤ x.gs.length ∧ spdsE x.n x.gs = fE (fun i => spdE x.n (x.gs.getD i default)) (x.gs.length - i) i) (fun i => x.gs.length - i) 0 rfl ⟨Nat.zero_le _, rfl⟩ (fun i ⟨hi, hE⟩ => ?_)
          · skip
            refine AW.seq ?_
            refine AW.seq ?_
            refine AW.region ?_   -- "ref.go:56"
            refine AOps.run tok 4 _ _ _ _ rfl ?_
            rw [List.length_map]
            refine AOps.run tok 1 _ _ _ _ rfl ?_
            refine AOps.nil ?_
            refine AW.cond rfl (fun h => ?_) (fun h => ?_)
            · have hin : i < x.gs.length := by have := of_decide_eq_true h; omega
              have hM := fun h0 => hE.trans (fE_miss (f := fun i => spdE x.n (x.gs.getD i default)) hin h0)
              have hH := fun h0 => hE.trans (fE_hit (f := fun i => spdE x.n (x.gs.getD i default)) hin h0)
              have hid : (x.gs.map Spd.D)[i]? = some (x.gs.getD i default).D := getM Spd.D hin
              have hwi := w4 i
              generalize x.gs.getD i default = m at hid hM hH hwi
              refine AW.skip ?_
              refine AW.seq ?_
              refine AW.block ?_   -- block 5
              refine AW.seq ?_
              refine AW.seq ?_
              refine AW.draw hmix 9 (by kernel_rfl) ?_   -- "ref.go:57"
              refine APre.run tok 4 _ _ _ _ rfl ?_
              refine APre.idx tok m.D rfl rfl rfl rfl rfl (Int.natCast_nonneg i) hid ?_
              refine APre.run tok 2 _ _ _ _ rfl ?_
              refine APre.call tok rfl rfl rfl rfl rfl (r51_shaft_ok _ m.sh) ?_
              refine APre.run tok 1 _ _ _ _ rfl ?_
              refine APre.nil ?_
              refine AOps.nil ?_
              refine AW.cond rfl (fun h => ?_) (fun h => ?_)
              · have e : spdE x.n m = 9 := by unfold spdE; rw [if_pos (by simpa using h)]
                rw [hH (by rw [e]; decide), e]
                refine AW.seq ?_
                refine AW.region ?_   -- "ref.go:58"
                refine AOps.run tok 1 _ _ _ _ rfl ?_
                refine AOps.nil ?_
                exact AW.ret rfl
              · have i1 : inS x.n m.sh = true := by simpa using h
                refine AW.skip ?_
                refine AW.seq ?_
                refine AW.region ?_   -- "ref.go:60"
                refine AOps.run tok 3 _ _ _ _ rfl ?_
                refine AOps.idx tok m.D rfl rfl rfl rfl (Int.natCast_nonneg i) hid ?_
                refine AOps.run tok 2 _ _ _ _ rfl ?_
                refine AOps.call tok rfl rfl rfl rfl (r02_Valid_ok m.v hwi (by omega)) ?_
                refine AOps.run tok 1 _ _ _ _ rfl ?_
                refine AOps.nil ?_
                refine AW.cond rfl (fun h => ?_) (fun h => ?_)
                · have e : spdE x.n m = 3 := by unfold spdE; rw [i1, if_neg (by simp), if_pos (by simpa using h)]
                  rw [hH (by rw [e]; decide), e]
                  refine AW.seq ?_
                  refine AW.region ?_   -- "ref.go:61"
                  refine AOps.run tok 1 _ _ _ _ rfl ?_
                  refine AOps.nil ?_
                  exact AW.ret rfl
                · have i2 : m.v.okB = true := by simpa using h
                  refine AW.skip ?_
                  refine AW.region ?_   -- "ref.go:56"
                  refine AOps.run tok 2 _ _ _ _ rfl ?_
                  rw [wI64 (x := (i : Int) + 1) (by omega) (by omega)]
                  refine AOps.run tok 1 _ _ _ _ rfl ?_
                  refine AOps.nil ?_
                  exact ⟨i + 1, rfl, ⟨hin, hM (by unfold spdE; rw [i1, if_neg (by simp), i2, if_neg (by simp)])⟩, by omega⟩
            have hin : ¬ i < x.gs.length := by have := of_decide_eq_false h; omega
            rw [hE, fE_end hin]
            refine AW.exit ?_
              -- exit 4
            -- END OF BODY; what follows the loop (from its exit):
            refine AW.seq ?_
            refine AW.region ?_   -- "ref.go:64"
            refine AOps.run tok 1 _ _ _ _ rfl ?_
            refine AOps.nil ?_
            exact AW.ret rfl
end Lift
/- GearScales. -/
namespace Lift
open Go Go.Proofs

theorem outG_len {n : Nat} {a : Mt} {l : List Rat} (hR : Rect a (n + 1)) (h : outG n a = .val l) : l.length = n := by
  have := outG_right hR
  rw [h] at this
  exact this.1
end Lift
/- GearOnly. -/
namespace Lift
open Go Go.Proofs

theorem goG_dn (n : Nat) : ∀ (m k d : Nat) (a b : Mt) (e : Nat), m + k = n + 1 → d ≤ k → d ≤ n → goG n m k d a = some (b, e) → e ≤ n
  | 0, k, d, a, b, e, _, _, hd, h => by
    simp only [goG, Option.some.injEq, Prod.mk.injEq] at h
    omega
  | m + 1, k, d, a, b, e, hm, hk, hd, h => by
    simp only [goG] at h
    split at h
    · split at h
      · exact goG_dn n m (k + 1) d a b e (by omega) (by omega) hd h
      · split at h
        · cases h
        · exact goG_dn n m (k + 1) (d + 1) _ b e (by omega) (by omega) (by omega) h
    · simp only [Option.some.injEq, Prod.mk.injEq] at h
      omega
theorem outG_sz16 {n : Nat} {a : Mt} {l : List Rat} (hn : n ≤ 16) (hR : Rect a (n + 1)) (hs : SzM (Xs 0) (fM a)) (h : outG n a = .val l) (c : Nat) : LQ (l.getD c 0) ≤ 720895 := by
  unfold outG at h
  split at h
  · cases h
  · rename_i b d hg
    split at h
    · cases h
    · simp only [Out.val.injEq] at h
      subst h
      have h1 := goG_sz n (n + 1) 0 0 a b d hR (Nat.zero_le _) (Nat.le_refl _) hs hg
      have h0 := goG_dn n (n + 1) 0 0 a b d rfl (Nat.le_refl _) (Nat.zero_le _) hg
      have h2 : Xs d ≤ Xs 16 := Xs_le (by omega)
      have h3 : Xs 16 = 720895 := Xs_16
      rcases Nat.lt_or_ge c (b.take n).length with hc | hc
      · rw [getD_map_lt (fun r => r.getD n 0) [] _ hc]
        have hc2 := hc
        rw [List.length_take] at hc2
        have h4 := h1.2.lq c n
        have : (b.take n).getD c [] = b.getD c [] := by
          rw [List.getD_eq_getElem?_getD, List.getD_eq_getElem?_getD, List.getElem?_take_of_lt (by omega)]
        rw [this]
        unfold fM at h4
        omega
      · rw [List.getD_eq_getElem?_getD, List.getElem?_eq_none (by rw [List.length_map]; exact hc)]
        show LQ 0 ≤ _
        rw [LQ_zero]; omega
end Lift
/- Lists of fractions that are equal; the statement GearSolves: what its function answers. -/
namespace Lift
open Go Go.Proofs

theorem base_Rats_same (l : List Rat) (hl : l.length ≤ 1000000) (hs : ∀ i, LQ (l.getD i 0) ≤ 1000000) : Pure Tryz.prog 12 [.sl 3 (QsD l), .sl 3 (QsD l)] (dB true) := by
  refine Pure.intro (n := 27) tok Tryz.func12 rfl rfl rfl (Nat.le_of_ble_eq_true rfl) (by kernel_rfl) (fun B F0 w0 => ?_)
  refine AW.seq ?_
  refine AW.region ?_   -- "base.go:77"
  refine AOps.run tok 1 _ _ _ _ rfl ?_
  refine AOps.nil ?_
  refine AW.seq ?_
  refine AW.seq ?_
  refine AW.region ?_   -- "base.go:78"
  refine AOps.run tok 5 _ _ _ _ rfl ?_
  refine AOps.nil ?_
  refine AW.cond rfl (fun h => absurd (bne_iff_ne.1 h) (by simp)) (fun h => ?_)
  · skip
    refine AW.skip ?_
    refine AW.seq ?_
    refine AW.seq ?_
    refine AW.region ?_   -- "base.go:81"
    refine AOps.run tok 1 _ _ _ _ rfl ?_
    refine AOps.nil ?_
    refine AW.block ?_   -- block 0
    refine AW.loopS [0, 1, 5] (fun i : Nat => [(0, .d (.sl 3 (QsD l))), (1, .d (.sl 3 (QsD l))), (5, .d (dI i))]) (fun i => i ≤ l.length) (fun i => l.length - i) 0 rfl (Nat.zero_le _) (fun i hi => ?_)
    · skip
      refine AW.seq ?_
      refine AW.seq ?_
      refine AW.region ?_   -- "base.go:81"
      refine AOps.run tok 4 _ _ _ _ rfl ?_
      rw [List.length_map]
      refine AOps.nil ?_
      refine AW.cond rfl (fun h => ?_) (fun h => ?_)
      · have hin : i < l.length := by have := of_decide_eq_true h; omega
        refine AW.skip ?_
        refine AW.seq ?_
        refine AW.block ?_   -- block 1
        refine AW.seq ?_
        refine AW.draw hmix 10 (by kernel_rfl) ?_   -- "base.go:82"
        refine APre.run tok 2 _ _ _ _ rfl ?_
        refine APre.idx tok (Qr (l.getD i 0)).D rfl rfl rfl rfl rfl (Int.natCast_nonneg i) (getQ hin) ?_
        refine APre.run tok 3 _ _ _ _ rfl ?_
        refine APre.idx tok (Qr (l.getD i 0)).D rfl rfl rfl rfl rfl (Int.natCast_nonneg i) (getQ hin) ?_
        refine APre.run tok 1 _ _ _ _ rfl ?_
        refine APre.call tok rfl rfl rfl rfl rfl (base_Rat_ok (Qr (l.getD i 0)) (Qr (l.getD i 0)) (k := 1000000) (Qr_w _ (hs i)) (by unfold big; decide)) ?_
        rw [eqR_self]
        refine APre.run tok 1 _ _ _ _ rfl ?_
        refine APre.nil ?_
        refine AOps.nil ?_
        refine AW.condF rfl ?_
        refine AW.skip ?_
        refine AW.region ?_
        refine AOps.run tok 2 _ _ _ _ rfl ?_
        rw [wI64 (x := (i : Int) + 1) (by omega) (by omega)]
        refine AOps.run tok 1 _ _ _ _ rfl ?_
        refine AOps.nil ?_
        exact ⟨i + 1, rfl, hin, by omega⟩
      refine AW.exit ?_
        -- exit 0
      -- END OF BODY; what follows the loop (from its exit):
      refine AW.seq ?_
      refine AW.region ?_   -- "base.go:86"
      refine AOps.run tok 1 _ _ _ _ rfl ?_
      refine AOps.nil ?_
      exact AW.ret rfl

theorem solD_cases (x : Trn) {k : Nat} (hw : x.w k) (hk : k ≤ 10) (hT : TOkT x) : ∃ l n, solD (outG x.n.toNat (rowsM x)) = .tu [.sl 3 (QsD l), erV n] ∧ solDR (outR x.n.toNat (eqsM x)) = .tu [.sl 3 (QsD l), dI ((n : Nat) : Int)] ∧ l.length ≤ 1000000 ∧ ∀ i, LQ (l.getD i 0) ≤ 1000000 := by
  rw [← out_eq hT]
  have n2 := hT.n2
  rcases ho : outG x.n.toNat (rowsM x) with _ | _ | l
  · exact ⟨[], 19, rfl, rfl, by simp, fun i => by show LQ 0 ≤ _; rw [LQ_zero]; decide⟩
  · exact ⟨[], 20, rfl, rfl, by simp, fun i => by show LQ 0 ≤ _; rw [LQ_zero]; decide⟩
  · have hlen := outG_len (rowsM_rect hT) ho
    have hlq := outG_sz16 (by omega) (rowsM_rect hT) (rowsM_sz hw hk hT) ho
    exact ⟨l, 0, rfl, rfl, by omega, fun i => Nat.le_trans (hlq i) (by decide)⟩
theorem g51_Solves_ok (x : Trn) (hx : x.big) : Pure Tryz.prog 3 [x.D] (dB true) := by
  refine Pure.intro (n := 37) tok Tryz.func3 rfl rfl rfl (Nat.le_of_ble_eq_true rfl) (by kernel_rfl) (fun B F0 w0 => ?_)
  have cL := g51_large_ok x hx
  have hsm := hx.small
  refine AW.seq ?_
  refine AW.region ?_
  refine AOps.run tok 2 _ _ _ _ rfl ?_
  refine AOps.nil ?_
  refine AW.seq ?_
  refine AW.seq ?_
  refine AW.region ?_
  refine AOps.call tok rfl rfl rfl rfl g51_awake_ok ?_
  refine AOps.run tok 3 _ _ _ _ rfl ?_
  rcases hlg : lgT x with _ | _
  rotate_left
  · rw [hlg] at cL
    refine AOps.call tok rfl rfl rfl rfl cL ?_
    refine AOps.run tok 1 _ _ _ _ rfl ?_
    refine AOps.nil ?_
    refine AW.condT rfl ?_
    refine AW.seq ?_
    refine AW.region ?_
    refine AOps.call tok rfl rfl rfl rfl g51_awake_ok ?_
    refine AOps.run tok 1 _ _ _ _ rfl ?_
    refine AOps.nil ?_
    exact AW.ret rfl
  rw [hlg] at cL
  have hsm := hsm hlg
  have cS := gear_Solve_ok x (k := 6) hsm (by decide)
  have cC := r51_Check_ok x (k := 6) hsm (by decide)
  refine AOps.call tok rfl rfl rfl rfl cL ?_
  refine AOps.run tok 1 _ _ _ _ rfl ?_
  refine AOps.nil ?_
  refine AW.condF rfl ?_
  refine AW.skip ?_
  refine AW.seq ?_
  refine AW.region ?_
  refine AOps.run tok 1 _ _ _ _ rfl ?_
  rcases hE : chkT x with _ | m
  rotate_left
  · rw [solT_err hE] at cS
    rw [hE] at cC
    refine AOps.call tok rfl rfl rfl rfl cS ?_
    refine AOps.run tok 5 _ _ _ _ rfl ?_
    refine AOps.nil ?_
    refine AW.seq ?_
    refine AW.region ?_
    refine AOps.run tok 1 _ _ _ _ rfl ?_
    refine AOps.call tok rfl rfl rfl rfl cC ?_
    refine AOps.run tok 1 _ _ _ _ rfl ?_
    refine AOps.nil ?_
    refine AW.seq ?_
    refine AW.region ?_
    refine AOps.run tok 1 _ _ _ _ rfl ?_
    refine AOps.nil ?_
    refine AW.seq ?_
    refine AW.seq ?_
    refine AW.region ?_
    refine AOps.run tok 2 _ _ _ _ rfl ?_
    refine AOps.nil ?_
    refine AW.cond rfl (fun h => absurd h (by simp; omega)) (fun h => ?_)
    refine AW.skip ?_
    refine AW.seq ?_
    refine AW.region ?_
    refine AOps.run tok 1 _ _ _ _ rfl ?_
    refine AOps.call tok rfl rfl rfl rfl (base_Num_ok (m + 1)) ?_
    refine AOps.run tok 3 _ _ _ _ rfl ?_
    refine AOps.split (t := 32) rfl (fun h => ?_) (fun h => absurd h (by simp))
    refine AOps.run tok 2 _ _ _ _ rfl ?_
    refine AOps.calls tok rfl rfl rfl rfl (base_Rats_same [] (by simp) (fun i => by show LQ 0 ≤ _; rw [LQ_zero]; decide)) rfl ?_
    refine AOps.run tok 2 _ _ _ _ rfl ?_
    refine AOps.nil ?_
    exact AW.ret rfl
  rw [solT_ok hE] at cS
  rw [hE] at cC
  have cR := r51_Solve_ok x (k := 6) hsm (by decide) hE
  obtain ⟨l, n, e1, e2, e3, e4⟩ := solD_cases x hsm (by decide) (chkT_ok hE)
  rw [e1] at cS
  rw [e2] at cR
  refine AOps.call tok rfl rfl rfl rfl cS ?_
  refine AOps.run tok 5 _ _ _ _ rfl ?_
  refine AOps.nil ?_
  refine AW.seq ?_
  refine AW.region ?_
  refine AOps.run tok 1 _ _ _ _ rfl ?_
  refine AOps.call tok rfl rfl rfl rfl cC ?_
  refine AOps.run tok 1 _ _ _ _ rfl ?_
  refine AOps.nil ?_
  refine AW.seq ?_
  refine AW.region ?_
  refine AOps.run tok 1 _ _ _ _ rfl ?_
  refine AOps.nil ?_
  refine AW.seq ?_
  refine AW.seq ?_
  refine AW.region ?_
  refine AOps.run tok 2 _ _ _ _ rfl ?_
  refine AOps.nil ?_
  refine AW.condT rfl ?_
  refine AW.region ?_
  refine AOps.run tok 1 _ _ _ _ rfl ?_
  refine AOps.call tok rfl rfl rfl rfl cR ?_
  refine AOps.run tok 5 _ _ _ _ rfl ?_
  refine AOps.nil ?_
  refine AW.seq ?_
  refine AW.region ?_
  refine AOps.run tok 1 _ _ _ _ rfl ?_
  refine AOps.call tok rfl rfl rfl rfl (base_Num_ok n) ?_
  refine AOps.run tok 3 _ _ _ _ rfl ?_
  refine AOps.split (t := 32) rfl (fun h => ?_) (fun h => absurd h (by simp))
  refine AOps.run tok 2 _ _ _ _ rfl ?_
  refine AOps.call tok rfl rfl rfl rfl (base_Rats_same l e3 e4) ?_
  refine AOps.run tok 2 _ _ _ _ rfl ?_
  refine AOps.nil ?_
  exact AW.ret rfl
end Lift
/- What GearSolves stands on. -/
