/- Parts of the proof, one behind the other: the logic, the contracts of the functions that the statement reaches. -/
import Derived.Test.YtgednajkanfpaaaGreatD3E
set_option linter.unusedVariables false
set_option linter.unusedSimpArgs false
namespace Lift
open Go Go.Proofs
def PoD.rs (p : PoD) : List RD := [p.t.t, p.l.x, p.l.y]
def shP (p : PoD) : Bool := p.rs.all (shR 2)
def short17 (l : List PoD) : Bool := l.all shP
theorem short17_no {l : List PoD} {i : Nat} (hi : i < l.length) (h : shP (l.getD i default) = false) : short17 l = false := by
  unfold short17
  rw [List.all_eq_false]
  exact ⟨l.getD i default, by rw [List.getD_eq_getElem?_getD, List.getElem?_eq_getElem hi]; exact List.getElem_mem hi, by rw [h]; simp⟩
theorem short17_yes {l : List PoD} (h : ∀ i, i < l.length → shP (l.getD i default) = true) : short17 l = true := by
  unfold short17
  rw [List.all_eq_true]
  intro x hx
  obtain ⟨i, hi, rfl⟩ := List.mem_iff_getElem.1 hx
  have := h i hi
  rwa [List.getD_eq_getElem?_getD, List.getElem?_eq_getElem hi] at this
set_option maxHeartbeats 1600000 in
theorem r17_Short_ok (l : List PoD) (hl : l.length ≤ 4611686018427387904) : Pure Tryz.prog 33 [PoL l] (dB (short17 l)) := by
  refine Pure.intro (n := 40) tok Tryz.func33 rfl rfl rfl (Nat.le_of_ble_eq_true rfl) (by kernel_rfl) (fun B F0 w0 => ?_)
  have hno := fun i hi => short17_no (l := l) (i := i) hi
  have hyes := short17_yes (l := l)
  generalize short17 l = E at hno hyes ⊢
  refine AW.seq ?_
  refine AW.region ?_
  refine AOps.run tok 1 _ _ _ _ rfl ?_
  refine AOps.nil ?_
  refine AW.seq ?_
  refine AW.seq ?_
  refine AW.region ?_
  refine AOps.run tok 2 _ _ _ _ rfl ?_
  rw [List.length_map]
  refine AOps.run tok 1 _ _ _ _ rfl ?_
  refine AOps.nil ?_
  refine AW.block ?_
  refine AW.loopS [7, 8, 9] (fun i : Nat => [(7, .d (PoL l)), (8, .d (dI l.length)), (9, .d (dI i))]) (fun i => i ≤ l.length ∧ ∀ j, j < i → shP (l.getD j default) = true) (fun i => l.length - i) 0 rfl ⟨Nat.zero_le _, fun j h => by omega⟩ (fun i ⟨hi, hI⟩ => ?_)
  refine AW.seq ?_
  refine AW.region ?_
  refine AOps.run tok 1 _ _ _ _ rfl ?_
  refine AOps.nil ?_
  refine AW.seq ?_
  refine AW.cond rfl (fun h => ?_) (fun h => ?_)
  rotate_left
  · have hii : ¬ i < l.length := by have := of_decide_eq_false h; omega
    rw [hyes (fun j hj => hI j (by omega))]
    refine AW.exit ?_
    refine AW.seq ?_
    refine AW.region ?_
    refine AOps.run tok 1 _ _ _ _ rfl ?_
    refine AOps.nil ?_
    exact AW.ret rfl
  have hii : i < l.length := by have := of_decide_eq_true h; omega
  have hg := getM PoD.D (l := l) (i := i) hii
  have hnoi := hno i hii
  have hsP : shP (l.getD i default) = (l.getD i default).rs.all (shR 2) := rfl
  have hrs : ∀ p : PoD, p.rs.map RD.D = [p.t.t.D, p.l.x.D, p.l.y.D] := fun _ => rfl
  have hrl : ∀ p : PoD, p.rs.length = 3 := fun _ => rfl
  have hg0 := fun j hj => getM RD.D (l := (l.getD i default).rs) (i := j) hj
  have hn2 := fun j hj => all_noS (l := (l.getD i default).rs) (m := 2) (i := j) hj
  have hy2 := all_yesS (l := (l.getD i default).rs) (m := 2)
  rw [hrs] at hg0
  have hrl := hrl (l.getD i default)
  obtain ⟨p, hp⟩ : ∃ p, p = l.getD i default := ⟨_, rfl⟩
  rw [← hp] at hg hnoi hsP hg0 hn2 hy2 hrl
  rw [hsP] at hnoi
  generalize p.rs.all (shR 2) = e at hnoi hsP hn2 hy2
  generalize p.rs = L at hg0 hn2 hy2 hrl
  obtain ⟨⟨t, hf⟩, ⟨x, y⟩⟩ := p
  refine AW.skip ?_
  refine AW.seq ?_
  refine AW.block ?_
  refine AW.seq ?_
  refine AW.region ?_
  refine AOps.idx tok (PoD.mk ⟨t, hf⟩ ⟨x, y⟩).D rfl rfl rfl rfl (Int.natCast_nonneg i) hg ?_
  refine AOps.run tok 3 _ _ _ _ rfl ?_
  refine AOps.nil ?_
  refine AW.seq ?_
  refine AW.region ?_
  refine AOps.run tok 9 _ _ _ _ rfl ?_
  refine AOps.bsd tok rfl rfl rfl rfl rfl ?_
  refine AOps.run tok 2 _ _ _ _ rfl ?_
  refine AOps.nil ?_
  refine AW.block ?_
  refine AW.loopS [7, 8, 9, 22, 23, 24] (fun j : Nat => [(7, .d (PoL l)), (8, .d (dI l.length)), (9, .d (dI i)), (22, .d (.sl 3 [t.D, x.D, y.D])), (23, .d (dI 3)), (24, .d (dI j))]) (fun j => j ≤ 3 ∧ ∀ m, m < j → shR 2 (L.getD m default) = true) (fun j => 3 - j) 0 rfl ⟨Nat.zero_le _, fun m h => by omega⟩ (fun j ⟨hj, hJ⟩ => ?_)
  refine AW.seq ?_
  refine AW.region ?_
  refine AOps.run tok 1 _ _ _ _ rfl ?_
  refine AOps.nil ?_
  refine AW.seq ?_
  refine AW.cond rfl (fun h2 => ?_) (fun h2 => ?_)
  rotate_left
  · have hjj : j = 3 := by have := of_decide_eq_false h2; omega
    subst hjj
    have he := hy2 (fun m hm => hJ m (by omega))
    refine AW.exit ?_
    refine AW.region ?_
    refine AOps.run tok 1 _ _ _ _ rfl ?_
    rw [wI64 (x := (i : Int) + 1) (by omega) (by omega)]
    refine AOps.run tok 1 _ _ _ _ rfl ?_
    refine AOps.nil ?_
    refine ⟨i + 1, rfl, ⟨hii, fun m hm => ?_⟩, by omega⟩
    by_cases e1 : m = i
    · rw [e1, ← hp, hsP, he]
    · exact hI m (by omega)
  have hjj : j < 3 := by have := of_decide_eq_true h2; omega
  have hg2 := hg0 j (by omega)
  have hn2 := hn2 j (by omega)
  have hsh : shR 2 (L.getD j default) = (decide ((L.getD j default).n.length ≤ 2) && decide ((L.getD j default).d.length ≤ 2)) := rfl
  obtain ⟨q, hq⟩ : ∃ q, q = L.getD j default := ⟨_, rfl⟩
  rw [← hq] at hg2 hn2 hsh
  obtain ⟨qg, qn, qd⟩ := q
  simp only [] at hsh
  refine AW.skip ?_
  refine AW.seq ?_
  refine AW.block ?_
  refine AW.seq ?_
  refine AW.region ?_
  refine AOps.idx tok (RD.mk qg qn qd).D rfl rfl rfl rfl (Int.natCast_nonneg j) hg2 ?_
  refine AOps.run tok 3 _ _ _ _ rfl ?_
  refine AOps.nil ?_
  refine AW.seq ?_
  refine AW.region ?_
  refine AOps.run tok 3 _ _ _ _ rfl ?_
  rw [lenWd]
  refine AOps.run tok 2 _ _ _ _ rfl ?_
  by_cases h1 : qn.length ≤ 2
  rotate_left
  · rw [decide_eq_true (show (2 : Int) < (qn.length : Int) by omega)]
    rw [decide_eq_false h1] at hsh
    rw [hnoi (hn2 hsh)]
    refine AOps.run tok 5 _ _ _ _ rfl ?_
    refine AOps.nil ?_
    refine AW.condT rfl ?_
    refine AW.seq ?_
    refine AW.region ?_
    refine AOps.run tok 1 _ _ _ _ rfl ?_
    refine AOps.nil ?_
    exact AW.ret rfl
  rw [decide_eq_false (show ¬ (2 : Int) < (qn.length : Int) by omega)]
  refine AOps.run tok 3 _ _ _ _ rfl ?_
  rw [lenWd]
  refine AOps.run tok 1 _ _ _ _ rfl ?_
  by_cases h3 : qd.length ≤ 2
  rotate_left
  · rw [decide_eq_true (show (2 : Int) < (qd.length : Int) by omega)]
    rw [decide_eq_false h3, Bool.and_false] at hsh
    rw [hnoi (hn2 hsh)]
    refine AOps.run tok 1 _ _ _ _ rfl ?_
    refine AOps.nil ?_
    refine AW.condT rfl ?_
    refine AW.seq ?_
    refine AW.region ?_
    refine AOps.run tok 1 _ _ _ _ rfl ?_
    refine AOps.nil ?_
    exact AW.ret rfl
  rw [decide_eq_false (show ¬ (2 : Int) < (qd.length : Int) by omega)]
  refine AOps.run tok 1 _ _ _ _ rfl ?_
  refine AOps.nil ?_
  refine AW.condF rfl ?_
  refine AW.skip ?_
  refine AW.region ?_
  refine AOps.run tok 1 _ _ _ _ rfl ?_
  rw [wI64 (x := (j : Int) + 1) (by omega) (by omega)]
  refine AOps.run tok 1 _ _ _ _ rfl ?_
  refine AOps.nil ?_
  refine ⟨j + 1, rfl, ⟨hjj, fun m hm => ?_⟩, by omega⟩
  by_cases e1 : m = j
  · rw [e1, ← hq]; show (decide (qn.length ≤ 2) && decide (qd.length ≤ 2)) = true; rw [decide_eq_true h1, decide_eq_true h3]; rfl
  · exact hJ m (by omega)
end Lift
namespace Lift
open Go Go.Proofs
def exL : List PoD := [PoQ (some 0, (0, 0)), PoQ (some 0, (((1 : Int) : Rat), ((1 : Int) : Rat))), PoQ (some 0, (((2 : Int) : Rat), ((0 : Int) : Rat)))]
def exA : DyD := DyQ ((((1 : Int) : Rat), ((0 : Int) : Rat)), (0, 0), ((1 : Int) : Rat))
def exB : DyD := DyQ ((((5 : Int) : Rat), ((0 : Int) : Rat)), (((4 : Int) : Rat), ((0 : Int) : Rat)), ((1 : Int) : Rat))
theorem ex_chk : chkD exL exA exB = 0 := by decide +kernel
theorem ex_sg : (exL.map PoD.val).map (sgnF exA.val exB.val) = [0, -1, 0] := by decide +kernel
theorem ex_un : anyR (unB (rdB (exL.map PoD.val) exA.val exB.val)) ((rdB (exL.map PoD.val) exA.val exB.val).u.length - 1) = false := by decide +kernel
theorem ex_br : anyR (brB (rdB (exL.map PoD.val) exA.val exB.val).sg) (rdB (exL.map PoD.val) exA.val exB.val).sg.length = true := by decide +kernel
theorem ex_or : orderF (rdB (exL.map PoD.val) exA.val exB.val).u = false := by decide +kernel
theorem ex_ci : anyR (ciB (rdB (exL.map PoD.val) exA.val exB.val)) ((rdB (exL.map PoD.val) exA.val exB.val).u.length - 1) = true := by decide +kernel
theorem exL_D : PoL exL = .sl 10 [.ag [dB false, .sl 1 [], .sl 1 [], dB false, dB false, .sl 1 [], .sl 1 [], dB false, .sl 1 [], .sl 1 []], .ag [dB false, .sl 1 [], .sl 1 [], dB false, dB (Qr ((1 : Int) : Rat)).g, Wd (Qr ((1 : Int) : Rat)).n, Wd (Qr ((1 : Int) : Rat)).d, dB (Qr ((1 : Int) : Rat)).g, Wd (Qr ((1 : Int) : Rat)).n, Wd (Qr ((1 : Int) : Rat)).d], .ag [dB false, .sl 1 [], .sl 1 [], dB false, dB (Qr ((2 : Int) : Rat)).g, Wd (Qr ((2 : Int) : Rat)).n, Wd (Qr ((2 : Int) : Rat)).d, dB (Qr ((0 : Int) : Rat)).g, Wd (Qr ((0 : Int) : Rat)).n, Wd (Qr ((0 : Int) : Rat)).d]] := by
  show D.sl 10 [.ag [dB (Qr 0).g, Wd (Qr 0).n, Wd (Qr 0).d, dB false, dB (Qr 0).g, Wd (Qr 0).n, Wd (Qr 0).d, dB (Qr 0).g, Wd (Qr 0).n, Wd (Qr 0).d], .ag [dB (Qr 0).g, Wd (Qr 0).n, Wd (Qr 0).d, dB false, dB (Qr ((1 : Int) : Rat)).g, Wd (Qr ((1 : Int) : Rat)).n, Wd (Qr ((1 : Int) : Rat)).d, dB (Qr ((1 : Int) : Rat)).g, Wd (Qr ((1 : Int) : Rat)).n, Wd (Qr ((1 : Int) : Rat)).d], .ag [dB (Qr 0).g, Wd (Qr 0).n, Wd (Qr 0).d, dB false, dB (Qr ((2 : Int) : Rat)).g, Wd (Qr ((2 : Int) : Rat)).n, Wd (Qr ((2 : Int) : Rat)).d, dB (Qr ((0 : Int) : Rat)).g, Wd (Qr ((0 : Int) : Rat)).n, Wd (Qr ((0 : Int) : Rat)).d]] = _
  rw [Qr_zero]; rfl
theorem exA_D : exA.D = .ag [dB (Qr ((1 : Int) : Rat)).g, Wd (Qr ((1 : Int) : Rat)).n, Wd (Qr ((1 : Int) : Rat)).d, dB (Qr ((0 : Int) : Rat)).g, Wd (Qr ((0 : Int) : Rat)).n, Wd (Qr ((0 : Int) : Rat)).d, dB false, .sl 1 [], .sl 1 [], dB false, .sl 1 [], .sl 1 [], dB (Qr ((1 : Int) : Rat)).g, Wd (Qr ((1 : Int) : Rat)).n, Wd (Qr ((1 : Int) : Rat)).d] := by
  show D.ag [dB (Qr ((1 : Int) : Rat)).g, Wd (Qr ((1 : Int) : Rat)).n, Wd (Qr ((1 : Int) : Rat)).d, dB (Qr ((0 : Int) : Rat)).g, Wd (Qr ((0 : Int) : Rat)).n, Wd (Qr ((0 : Int) : Rat)).d, dB (Qr 0).g, Wd (Qr 0).n, Wd (Qr 0).d, dB (Qr 0).g, Wd (Qr 0).n, Wd (Qr 0).d, dB (Qr ((1 : Int) : Rat)).g, Wd (Qr ((1 : Int) : Rat)).n, Wd (Qr ((1 : Int) : Rat)).d] = _
  rw [Qr_zero]; rfl
abbrev ExD : D := .tu [PoL exL, exA.D, exB.D]
theorem law50_Example_ok : Pure Tryz.prog 37 [] ExD := by
  refine Pure.intro (n := 18) tok Tryz.func37 rfl rfl rfl (Nat.le_of_ble_eq_true rfl) (by kernel_rfl) (fun B F0 w0 => ?_)
  have o1 := r02_Of_ok 1 (by decide) (by decide)
  have c1 := law50_of_ok 1 1 (by decide) (by decide)
  have c2 := law50_of_ok 2 0 (by decide) (by decide)
  have c3 := law50_of_ok 1 0 (by decide) (by decide)
  have c4 := law50_of_ok 5 0 (by decide) (by decide)
  have c5 := law50_of_ok 4 0 (by decide) (by decide)
  refine AW.seq ?_
  refine AW.region ?_
  refine AOps.run tok 3 _ _ _ _ rfl ?_
  refine AOps.nil ?_
  refine AW.seq ?_
  refine AW.region ?_
  refine AOps.call tok rfl rfl rfl rfl o1 ?_
  refine AOps.run tok 2 _ _ _ _ rfl ?_
  refine AOps.nil ?_
  refine AW.seq ?_
  refine AW.draw3 tok hmix [(11, true), (2, false), (1, true)] 14 [1, 2] (by kernel_rfl) ⟨rfl, ?_⟩
  refine APre.run tok 1 _ _ _ _ rfl ?_
  refine APre.call tok rfl rfl rfl rfl rfl c1 ?_
  refine APre.run tok 1 _ _ _ _ rfl ?_
  refine APre.call tok rfl rfl rfl rfl rfl c2 ?_
  refine APre.run tok 1 _ _ _ _ rfl ?_
  refine APre.bsd tok rfl rfl rfl rfl rfl rfl ?_
  refine APre.call tok rfl rfl rfl rfl rfl c3 ?_
  refine APre.run tok 2 _ _ _ _ rfl ?_
  refine APre.call tok rfl rfl rfl rfl rfl c4 ?_
  refine APre.call tok rfl rfl rfl rfl rfl c5 ?_
  refine APre.nil ⟨rfl, ?_⟩
  refine APre.run tok 2 _ _ _ _ rfl ?_
  refine APre.nil ⟨rfl, ?_⟩
  refine APre.run tok 1 _ _ _ _ rfl ?_
  refine APre.nil ⟨_, StL.cons (.bx rfl) (StL.cons (.bx rfl) (StL.nil)), ?_⟩
  refine AOps.nil ?_
  unfold ExD
  rw [exL_D, exA_D]
  exact AW.ret rfl
end Lift
namespace Lift
open Go Go.Proofs
theorem LQ_i (n : Int) (h : -100 ≤ n ∧ n ≤ 100) : LQ (n : Rat) ≤ 2 := by
  have h1 := LQ_of n
  have h2 : L n ≤ 2 := L_le (by omega)
  omega
theorem exL_w : ∀ i, i < exL.length → (exL.getD i default).w 2 := fun i hi => by
  have z : LQ 0 ≤ 2 := by rw [LQ_zero]; decide
  have i0 := LQ_i 0 (by decide)
  have i1 := LQ_i 1 (by decide)
  have i2 := LQ_i 2 (by decide)
  have hi : i < 3 := hi
  rcases i with _ | _ | _ | i
  · exact ⟨Qr_w _ z, Qr_w _ z, Qr_w _ z⟩
  · exact ⟨Qr_w _ z, Qr_w _ i1, Qr_w _ i1⟩
  · exact ⟨Qr_w _ z, Qr_w _ i2, Qr_w _ i0⟩
  · omega
theorem exA_w : exA.w 2 := by
  have z : LQ 0 ≤ 2 := by rw [LQ_zero]; decide
  exact ⟨⟨Qr_w _ (LQ_i 1 (by decide)), Qr_w _ (LQ_i 0 (by decide))⟩, ⟨Qr_w _ z, Qr_w _ z⟩, Qr_w _ (LQ_i 1 (by decide))⟩
theorem exB_w : exB.w 2 := ⟨⟨Qr_w _ (LQ_i 5 (by decide)), Qr_w _ (LQ_i 0 (by decide))⟩, ⟨Qr_w _ (LQ_i 4 (by decide)), Qr_w _ (LQ_i 0 (by decide))⟩, Qr_w _ (LQ_i 1 (by decide))⟩
theorem ex_Signs : signsD exL exA exB = .tu [IsD [0, -1, 0], nilE] := by
  unfold signsD
  rw [if_pos ex_chk, ex_sg]
theorem ex_Report : reportD exL exA exB = .tu [DfD true false true, nilE] := by
  unfold reportD rptD
  rw [if_neg (by rw [ex_chk]; simp), ex_un, ex_br, ex_or, ex_ci, if_neg (by simp)]
theorem law50_awake_ok : Pure Tryz.prog 10 [] (dB true) := by
  refine Pure.intro (n := 43) tok Tryz.func10 rfl rfl rfl (Nat.le_of_ble_eq_true rfl) (by kernel_rfl) (fun B F0 w0 => ?_)
  have cE := law50_Example_ok
  have cS := defects_Signs_ok exL exA exB (k := 2) (show 3 ≤ 1000000 by decide) exL_w exA_w exB_w (by decide) (by decide)
  have cR := defects_Report_ok exL exA exB (k := 2) (show 3 ≤ 1000000 by decide) exL_w exA_w exB_w (by decide) (by decide)
  rw [ex_Signs] at cS
  rw [ex_Report] at cR
  have cI := base_Ints_ok [0, -1, 0] [0, -1, 0] (show 3 ≤ 1000000 by decide)
  rw [decide_eq_true rfl] at cI
  unfold ExD at cE
  generalize exL = l at cE cS cR
  generalize exA = d at cE cS cR
  generalize exB = e at cE cS cR
  refine AW.seq ?_
  refine AW.region ?_
  refine AOps.run tok 1 _ _ _ _ rfl ?_
  refine AOps.nil ?_
  refine AW.seq ?_
  refine AW.region ?_
  refine AOps.call tok rfl rfl rfl rfl cE ?_
  refine AOps.run tok 9 _ _ _ _ rfl ?_
  refine AOps.nil ?_
  refine AW.seq ?_
  refine AW.region ?_
  refine AOps.run tok 3 _ _ _ _ rfl ?_
  refine AOps.call tok rfl rfl rfl rfl cS ?_
  refine AOps.run tok 5 _ _ _ _ rfl ?_
  refine AOps.nil ?_
  refine AW.seq ?_
  refine AW.region ?_
  refine AOps.run tok 3 _ _ _ _ rfl ?_
  refine AOps.call tok rfl rfl rfl rfl cR ?_
  refine AOps.run tok 6 _ _ _ _ rfl ?_
  refine AOps.nil ?_
  refine AW.seq ?_
  refine AW.region ?_
  refine AOps.run tok 1 _ _ _ _ rfl ?_
  refine AOps.err tok rfl rfl rfl rfl rfl ?_
  refine AOps.run tok 2 _ _ _ _ rfl ?_
  refine AOps.err tok rfl rfl rfl rfl rfl ?_
  refine AOps.run tok 3 _ _ _ _ rfl ?_
  refine AOps.bsd tok rfl rfl rfl rfl rfl ?_
  refine AOps.call tok rfl rfl rfl rfl cI ?_
  refine AOps.run tok 4 _ _ _ _ rfl ?_
  refine AOps.se3 tok rfl rfl rfl rfl (by kernel_rfl) ?_
  refine AOps.run tok 2 _ _ _ _ rfl ?_
  refine AOps.nil ?_
  exact AW.ret rfl
abbrev FourD (d e : DyD) : D := .ag (d.D.flat ++ e.D.flat)
def shortB (l : List PoD) (d e : DyD) : Bool := decide (l.length ≤ 20) && (short17 l && (briefB d && briefB e))
theorem law50_short_ok (l : List PoD) (d e : DyD) (hl : l.length ≤ 4611686018427387904) : Pure Tryz.prog 11 [PoL l, FourD d e] (dB (shortB l d e)) := by
  refine Pure.intro (n := 22) tok Tryz.func11 rfl rfl rfl (Nat.le_of_ble_eq_true rfl) (by kernel_rfl) (fun B F0 w0 => ?_)
  have c1 := r17_Short_ok l hl
  have c2 := law50_brief_ok d
  have c3 := law50_brief_ok e
  unfold shortB
  generalize short17 l = s at c1 ⊢
  generalize briefB d = b1 at c2 ⊢
  generalize briefB e = b2 at c3 ⊢
  refine AW.seq ?_
  refine AW.region ?_
  refine AOps.run tok 2 _ _ _ _ rfl ?_
  refine AOps.nil ?_
  refine AW.seq ?_
  refine AW.region ?_
  refine AOps.run tok 2 _ _ _ _ rfl ?_
  rw [List.length_map]
  refine AOps.run tok 2 _ _ _ _ rfl ?_
  by_cases h : l.length ≤ 20
  rotate_left
  · rw [decide_eq_false h, decide_eq_false (show ¬ (l.length : Int) ≤ 20 by omega)]
    refine AOps.run tok 14 _ _ _ _ rfl ?_
    refine AOps.nil ?_
    exact AW.ret rfl
  rw [decide_eq_true h, decide_eq_true (show (l.length : Int) ≤ 20 by omega)]
  refine AOps.run tok 1 _ _ _ _ rfl ?_
  refine AOps.call tok rfl rfl rfl rfl c1 ?_
  refine AOps.run tok 2 _ _ _ _ rfl ?_
  cases s with
  | false =>
    refine AOps.run tok 10 _ _ _ _ rfl ?_
    refine AOps.nil ?_
    exact AW.ret rfl
  | true =>
  refine AOps.run tok 2 _ _ _ _ rfl ?_
  refine AOps.call tok rfl rfl rfl rfl c2 ?_
  refine AOps.run tok 2 _ _ _ _ rfl ?_
  cases b1 with
  | false =>
    refine AOps.run tok 5 _ _ _ _ rfl ?_
    refine AOps.nil ?_
    exact AW.ret rfl
  | true =>
  refine AOps.run tok 2 _ _ _ _ rfl ?_
  refine AOps.call tok rfl rfl rfl rfl c3 ?_
  refine AOps.run tok 2 _ _ _ _ rfl ?_
  refine AOps.nil ?_
  exact AW.ret rfl
end Lift
namespace Lift
open Go Go.Proofs
theorem r02_Div_ok (r s : RD) {k : Nat} (hr : r.w k) (hs : s.w k) (hk : k ≤ 20000000) (h0 : s.val ≠ 0) : Pure Tryz.prog 175 [r.D, s.D] (.tu [(Qr (r.val / s.val)).D, dI 0]) := by
  refine Pure.intro (n := 29) tok Tryz.func175 rfl rfl rfl (Nat.le_of_ble_eq_true rfl) (by kernel_rfl) (fun B F0 w0 => ?_)
  have hl := LQ_val (hr.mono (Nat.le_max_left k 1)) (Nat.le_max_right k 1)
  have hm := LQ_val (hs.mono (Nat.le_max_left k 1)) (Nat.le_max_right k 1)
  have := Lnum r.val; have := Lden r.val; have := Lnum s.val; have := Lden s.val
  obtain ⟨d1, d2, d3⟩ := div_sz hl hm h0
  rw [← div_divInt r.val s.val h0]
  refine AW.seq ?_
  refine AW.region ?_
  refine AOps.run tok 4 _ _ _ _ rfl ?_
  refine AOps.nil ?_
  refine AW.seq ?_
  refine AW.region ?_
  refine AOps.run tok 1 _ _ _ _ rfl ?_
  refine AOps.call tok rfl rfl rfl rfl (r02_Parts_ok r hr (by omega)) ?_
  refine AOps.run tok 7 _ _ _ _ rfl ?_
  refine AOps.nil ?_
  refine AW.seq ?_
  refine AW.region ?_
  refine AOps.run tok 1 _ _ _ _ rfl ?_
  refine AOps.call tok rfl rfl rfl rfl (r02_Parts_ok s hs (by omega)) ?_
  refine AOps.run tok 7 _ _ _ _ rfl ?_
  refine AOps.nil ?_
  refine AW.seq ?_
  refine AW.draw hmix 9 (by kernel_rfl) ?_
  refine APre.run tok 2 _ _ _ _ rfl ?_
  refine APre.call tok rfl rfl rfl rfl rfl (r01_Mul_ok r.val.num s.val.den (by omega) (by omega)) ?_
  refine APre.run tok 2 _ _ _ _ rfl ?_
  refine APre.call tok rfl rfl rfl rfl rfl (r01_Mul_ok r.val.den s.val.num (by omega) (by omega)) ?_
  refine APre.call tok rfl rfl rfl rfl rfl (r02_From_ok (r.val.num * s.val.den) (r.val.den * s.val.num) (by omega) (by omega) d3) ?_
  refine APre.run tok 2 _ _ _ _ rfl ?_
  refine APre.nil ?_
  refine AOps.run tok 2 _ _ _ _ rfl ?_
  refine AOps.nil ?_
  exact AW.ret rfl
theorem r17_Zero_ok (a : RD) {k : Nat} (h : a.w k) (hk : k ≤ 20000000) : Pure Tryz.prog 105 [a.D] (dB (decide (a.val = 0))) := by
  refine Pure.intro (n := 6) tok Tryz.func105 rfl rfl rfl (Nat.le_of_ble_eq_true rfl) (by kernel_rfl) (fun B F0 w0 => ?_)
  have c := r02_Sign_ok a h hk
  have e : decide (a.val = 0) = (sgI a.val.num == 0) := by
    by_cases h0 : a.val = 0
    · rw [decide_eq_true h0, beq_iff_eq.2 (sgI0.2 h0)]
    · rw [decide_eq_false h0, beq_eq_false_iff_ne.2 (fun h => h0 (sgI0.1 h))]
  rw [e]
  refine AW.seq ?_
  refine AW.region ?_
  refine AOps.run tok 2 _ _ _ _ rfl ?_
  refine AOps.nil ?_
  refine AW.seq ?_
  refine AW.region ?_
  refine AOps.run tok 1 _ _ _ _ rfl ?_
  refine AOps.call tok rfl rfl rfl rfl c ?_
  refine AOps.run tok 2 _ _ _ _ rfl ?_
  refine AOps.nil ?_
  exact AW.ret rfl
theorem r17_Turn_ok (a : TD) {k : Nat} (h : a.t.w k) (hk : k ≤ 20000000) : Pure Tryz.prog 129 [a.D] (dB a.okB) := by
  refine Pure.intro (n := 16) tok Tryz.func129 rfl rfl rfl (Nat.le_of_ble_eq_true rfl) (by kernel_rfl) (fun B F0 w0 => ?_)
  have c1 := r02_Valid_ok a.t h (by omega)
  have c2 := r17_Zero_ok a.t h hk
  unfold TD.okB
  obtain ⟨t, hf⟩ := a
  simp only [] at c1 c2 ⊢
  generalize decide (t.val = 0) = z at c2 ⊢
  generalize t.okB = v at c1 ⊢
  refine AW.seq ?_
  refine AW.region ?_
  refine AOps.run tok 2 _ _ _ _ rfl ?_
  refine AOps.nil ?_
  refine AW.seq ?_
  refine AW.region ?_
  refine AOps.run tok 2 _ _ _ _ rfl ?_
  refine AOps.call tok rfl rfl rfl rfl c1 ?_
  refine AOps.run tok 1 _ _ _ _ rfl ?_
  cases v with
  | false =>
    refine AOps.run tok 11 _ _ _ _ rfl ?_
    refine AOps.nil ?_
    exact AW.ret rfl
  | true =>
  refine AOps.run tok 3 _ _ _ _ rfl ?_
  cases hf with
  | false =>
    refine AOps.run tok 8 _ _ _ _ rfl ?_
    refine AOps.nil ?_
    exact AW.ret rfl
  | true =>
  refine AOps.run tok 3 _ _ _ _ rfl ?_
  refine AOps.call tok rfl rfl rfl rfl c2 ?_
  refine AOps.run tok 3 _ _ _ _ rfl ?_
  refine AOps.nil ?_
  exact AW.ret rfl
theorem r17_Place_ok (a : PD) {k : Nat} (h : a.w k) (hk : k ≤ 20000000) : Pure Tryz.prog 72 [a.D] (dB a.okB) := by
  refine Pure.intro (n := 11) tok Tryz.func72 rfl rfl rfl (Nat.le_of_ble_eq_true rfl) (by kernel_rfl) (fun B F0 w0 => ?_)
  have c1 := r02_Valid_ok a.x h.1 (by omega)
  have c2 := r02_Valid_ok a.y h.2 (by omega)
  unfold PD.okB
  generalize a.x.okB = v at c1 ⊢
  generalize a.y.okB = u at c2 ⊢
  refine AW.seq ?_
  refine AW.region ?_
  refine AOps.run tok 2 _ _ _ _ rfl ?_
  refine AOps.nil ?_
  refine AW.seq ?_
  refine AW.region ?_
  refine AOps.run tok 2 _ _ _ _ rfl ?_
  refine AOps.call tok rfl rfl rfl rfl c1 ?_
  refine AOps.run tok 1 _ _ _ _ rfl ?_
  cases v with
  | false =>
    refine AOps.run tok 5 _ _ _ _ rfl ?_
    refine AOps.nil ?_
    exact AW.ret rfl
  | true =>
  refine AOps.run tok 2 _ _ _ _ rfl ?_
  refine AOps.call tok rfl rfl rfl rfl c2 ?_
  refine AOps.run tok 2 _ _ _ _ rfl ?_
  refine AOps.nil ?_
  exact AW.ret rfl
theorem r17_Valid_ok (a : PoD) {k : Nat} (h : a.w k) (hk : k ≤ 20000000) : Pure Tryz.prog 81 [a.D] (dB a.okB) := by
  refine Pure.intro (n := 11) tok Tryz.func81 rfl rfl rfl (Nat.le_of_ble_eq_true rfl) (by kernel_rfl) (fun B F0 w0 => ?_)
  have c1 := r17_Turn_ok a.t h.1 hk
  have c2 := r17_Place_ok a.l h.2 hk
  unfold PoD.okB
  generalize a.t.okB = v at c1 ⊢
  generalize a.l.okB = u at c2 ⊢
  refine AW.seq ?_
  refine AW.region ?_
  refine AOps.run tok 2 _ _ _ _ rfl ?_
  refine AOps.nil ?_
  refine AW.seq ?_
  refine AW.region ?_
  refine AOps.run tok 2 _ _ _ _ rfl ?_
  refine AOps.call tok rfl rfl rfl rfl c1 ?_
  refine AOps.run tok 1 _ _ _ _ rfl ?_
  cases v with
  | false =>
    refine AOps.run tok 5 _ _ _ _ rfl ?_
    refine AOps.nil ?_
    exact AW.ret rfl
  | true =>
  refine AOps.run tok 2 _ _ _ _ rfl ?_
  refine AOps.call tok rfl rfl rfl rfl c2 ?_
  refine AOps.run tok 2 _ _ _ _ rfl ?_
  refine AOps.nil ?_
  exact AW.ret rfl
theorem r17_over_ok (r s : RD) {k : Nat} (hr : r.w k) (hs : s.w k) (hk : k ≤ 20000000) (h0 : s.val ≠ 0) : Pure Tryz.prog 159 [r.D, s.D] (Qr (r.val / s.val)).D := by
  refine Pure.intro (n := 14) tok Tryz.func159 rfl rfl rfl (Nat.le_of_ble_eq_true rfl) (by kernel_rfl) (fun B F0 w0 => ?_)
  have c := r02_Div_ok r s hr hs hk h0
  generalize Qr (r.val / s.val) = q at c ⊢
  refine AW.seq ?_
  refine AW.region ?_
  refine AOps.run tok 3 _ _ _ _ rfl ?_
  refine AOps.nil ?_
  refine AW.seq ?_
  refine AW.region ?_
  refine AOps.run tok 2 _ _ _ _ rfl ?_
  refine AOps.call tok rfl rfl rfl rfl c ?_
  refine AOps.run tok 6 _ _ _ _ rfl ?_
  refine AOps.nil ?_
  refine AW.seq ?_
  refine AW.region ?_
  refine AOps.run tok 2 _ _ _ _ rfl ?_
  refine AOps.nil ?_
  exact AW.ret rfl
theorem r17_Plus_ok (a b : V2) {k : Nat} (ha : szV a ≤ k) (hb : szV b ≤ k) (hk : k ≤ 1000000) : Pure Tryz.prog 86 [(VQ a).D, (VQ b).D] (VQ (vadd a b)).D := by
  refine Pure.intro (n := 16) tok Tryz.func86 rfl rfl rfl (Nat.le_of_ble_eq_true rfl) (by kernel_rfl) (fun B F0 w0 => ?_)
  have ha := szV_1 ha
  have hb := szV_1 hb
  have m1 := r02_Add_ok (Qr a.1) (Qr b.1) (k := k) (Qr_w _ (by omega)) (Qr_w _ (by omega)) (by omega)
  have m2 := r02_Add_ok (Qr a.2) (Qr b.2) (k := k) (Qr_w _ (by omega)) (Qr_w _ (by omega)) (by omega)
  simp only [Qr_val] at m1 m2
  refine AW.seq ?_
  refine AW.region ?_
  refine AOps.run tok 3 _ _ _ _ rfl ?_
  refine AOps.nil ?_
  refine AW.seq ?_
  refine AW.draw hmix 11 (by kernel_rfl) ?_
  refine APre.run tok 4 _ _ _ _ rfl ?_
  refine APre.call tok rfl rfl rfl rfl rfl m1 ?_
  refine APre.run tok 4 _ _ _ _ rfl ?_
  refine APre.call tok rfl rfl rfl rfl rfl m2 ?_
  refine APre.run tok 1 _ _ _ _ rfl ?_
  refine APre.nil ?_
  refine AOps.run tok 1 _ _ _ _ rfl ?_
  refine AOps.nil ?_
  exact AW.ret rfl
theorem r17_Less_ok (a b : V2) {k : Nat} (ha : szV a ≤ k) (hb : szV b ≤ k) (hk : k ≤ 1000000) : Pure Tryz.prog 45 [(VQ a).D, (VQ b).D] (VQ (vsub a b)).D := by
  refine Pure.intro (n := 16) tok Tryz.func45 rfl rfl rfl (Nat.le_of_ble_eq_true rfl) (by kernel_rfl) (fun B F0 w0 => ?_)
  have ha := szV_1 ha
  have hb := szV_1 hb
  have m1 := r02_Sub_ok (Qr a.1) (Qr b.1) (k := k) (Qr_w _ (by omega)) (Qr_w _ (by omega)) (by omega)
  have m2 := r02_Sub_ok (Qr a.2) (Qr b.2) (k := k) (Qr_w _ (by omega)) (Qr_w _ (by omega)) (by omega)
  simp only [Qr_val] at m1 m2
  refine AW.seq ?_
  refine AW.region ?_
  refine AOps.run tok 3 _ _ _ _ rfl ?_
  refine AOps.nil ?_
  refine AW.seq ?_
  refine AW.draw hmix 11 (by kernel_rfl) ?_
  refine APre.run tok 4 _ _ _ _ rfl ?_
  refine APre.call tok rfl rfl rfl rfl rfl m1 ?_
  refine APre.run tok 4 _ _ _ _ rfl ?_
  refine APre.call tok rfl rfl rfl rfl rfl m2 ?_
  refine APre.run tok 1 _ _ _ _ rfl ?_
  refine APre.nil ?_
  refine AOps.run tok 1 _ _ _ _ rfl ?_
  refine AOps.nil ?_
  exact AW.ret rfl
theorem r17_Square_ok (a : V2) {k : Nat} (ha : szV a ≤ k) (hk : k ≤ 1000000) : Pure Tryz.prog 68 [(VQ a).D] (Qr (dt a a)).D := by
  refine Pure.intro (n := 14) tok Tryz.func68 rfl rfl rfl (Nat.le_of_ble_eq_true rfl) (by kernel_rfl) (fun B F0 w0 => ?_)
  have ha := szV_1 ha
  have l1 := LQ_mul a.1 a.1
  have l2 := LQ_mul a.2 a.2
  have m1 := r02_Mul_ok (Qr a.1) (Qr a.1) (k := k) (Qr_w _ (by omega)) (Qr_w _ (by omega)) (by omega)
  have m2 := r02_Mul_ok (Qr a.2) (Qr a.2) (k := k) (Qr_w _ (by omega)) (Qr_w _ (by omega)) (by omega)
  have m3 := r02_Add_ok (Qr (a.1 * a.1)) (Qr (a.2 * a.2)) (k := 2 * k) (Qr_w _ (by omega)) (Qr_w _ (by omega)) (by omega)
  simp only [Qr_val] at m1 m2 m3
  refine AW.seq ?_
  refine AW.region ?_
  refine AOps.run tok 2 _ _ _ _ rfl ?_
  refine AOps.nil ?_
  refine AW.seq ?_
  refine AW.draw hmix 11 (by kernel_rfl) ?_
  refine APre.run tok 4 _ _ _ _ rfl ?_
  refine APre.call tok rfl rfl rfl rfl rfl m1 ?_
  refine APre.run tok 4 _ _ _ _ rfl ?_
  refine APre.call tok rfl rfl rfl rfl rfl m2 ?_
  refine APre.call tok rfl rfl rfl rfl rfl m3 ?_
  refine APre.nil ?_
  refine AOps.run tok 1 _ _ _ _ rfl ?_
  refine AOps.nil ?_
  exact AW.ret rfl
theorem r38_Cross_ok (a b : V2) {k : Nat} (ha : szV a ≤ k) (hb : szV b ≤ k) (hk : k ≤ 1000000) : Pure Tryz.prog 26 [(VQ a).D, (VQ b).D] (Qr (crs a b)).D := by
  refine Pure.intro (n := 16) tok Tryz.func26 rfl rfl rfl (Nat.le_of_ble_eq_true rfl) (by kernel_rfl) (fun B F0 w0 => ?_)
  have ha := szV_1 ha
  have hb := szV_1 hb
  have l1 := LQ_mul a.1 b.2
  have l2 := LQ_mul a.2 b.1
  have m1 := r02_Mul_ok (Qr a.1) (Qr b.2) (k := k) (Qr_w _ (by omega)) (Qr_w _ (by omega)) (by omega)
  have m2 := r02_Mul_ok (Qr a.2) (Qr b.1) (k := k) (Qr_w _ (by omega)) (Qr_w _ (by omega)) (by omega)
  have m3 := r02_Sub_ok (Qr (a.1 * b.2)) (Qr (a.2 * b.1)) (k := 2 * k) (Qr_w _ (by omega)) (Qr_w _ (by omega)) (by omega)
  simp only [Qr_val] at m1 m2 m3
  refine AW.seq ?_
  refine AW.region ?_
  refine AOps.run tok 3 _ _ _ _ rfl ?_
  refine AOps.nil ?_
  refine AW.seq ?_
  refine AW.draw hmix 11 (by kernel_rfl) ?_
  refine APre.run tok 4 _ _ _ _ rfl ?_
  refine APre.call tok rfl rfl rfl rfl rfl m1 ?_
  refine APre.run tok 4 _ _ _ _ rfl ?_
  refine APre.call tok rfl rfl rfl rfl rfl m2 ?_
  refine APre.call tok rfl rfl rfl rfl rfl m3 ?_
  refine APre.nil ?_
  refine AOps.run tok 1 _ _ _ _ rfl ?_
  refine AOps.nil ?_
  exact AW.ret rfl
theorem r50_Dot_ok (a b : V2) {k : Nat} (ha : szV a ≤ k) (hb : szV b ≤ k) (hk : k ≤ 1000000) : Pure Tryz.prog 28 [(VQ a).D, (VQ b).D] (Qr (dt a b)).D := by
  refine Pure.intro (n := 16) tok Tryz.func28 rfl rfl rfl (Nat.le_of_ble_eq_true rfl) (by kernel_rfl) (fun B F0 w0 => ?_)
  have ha := szV_1 ha
  have hb := szV_1 hb
  have l1 := LQ_mul a.1 b.1
  have l2 := LQ_mul a.2 b.2
  have m1 := r02_Mul_ok (Qr a.1) (Qr b.1) (k := k) (Qr_w _ (by omega)) (Qr_w _ (by omega)) (by omega)
  have m2 := r02_Mul_ok (Qr a.2) (Qr b.2) (k := k) (Qr_w _ (by omega)) (Qr_w _ (by omega)) (by omega)
  have m3 := r02_Add_ok (Qr (a.1 * b.1)) (Qr (a.2 * b.2)) (k := 2 * k) (Qr_w _ (by omega)) (Qr_w _ (by omega)) (by omega)
  simp only [Qr_val] at m1 m2 m3
  refine AW.seq ?_
  refine AW.region ?_
  refine AOps.run tok 3 _ _ _ _ rfl ?_
  refine AOps.nil ?_
  refine AW.seq ?_
  refine AW.draw hmix 11 (by kernel_rfl) ?_
  refine APre.run tok 4 _ _ _ _ rfl ?_
  refine APre.call tok rfl rfl rfl rfl rfl m1 ?_
  refine APre.run tok 4 _ _ _ _ rfl ?_
  refine APre.call tok rfl rfl rfl rfl rfl m2 ?_
  refine APre.call tok rfl rfl rfl rfl rfl m3 ?_
  refine APre.nil ?_
  refine AOps.run tok 1 _ _ _ _ rfl ?_
  refine AOps.nil ?_
  exact AW.ret rfl
def barF (a : V2) : V2 := (a.1, -a.2)
theorem r38_Bar_ok (a : V2) {k : Nat} (ha : szV a ≤ k) (hk : k ≤ 1000000) : Pure Tryz.prog 94 [(VQ a).D] (VQ (barF a)).D := by
  refine Pure.intro (n := 9) tok Tryz.func94 rfl rfl rfl (Nat.le_of_ble_eq_true rfl) (by kernel_rfl) (fun B F0 w0 => ?_)
  have ha := szV_1 ha
  have m1 := r02_Neg_ok (Qr a.2) (k := k) (Qr_w _ (by omega)) (by omega)
  simp only [Qr_val] at m1
  refine AW.seq ?_
  refine AW.region ?_
  refine AOps.run tok 2 _ _ _ _ rfl ?_
  refine AOps.nil ?_
  refine AW.seq ?_
  refine AW.draw hmix 6 (by kernel_rfl) ?_
  refine APre.run tok 4 _ _ _ _ rfl ?_
  refine APre.call tok rfl rfl rfl rfl rfl m1 ?_
  refine APre.run tok 1 _ _ _ _ rfl ?_
  refine APre.nil ?_
  refine AOps.run tok 1 _ _ _ _ rfl ?_
  refine AOps.nil ?_
  exact AW.ret rfl
def cmul (a b : V2) : V2 := (a.1 * b.1 - a.2 * b.2, a.1 * b.2 + a.2 * b.1)
theorem r38_Times_ok (a b : V2) {k : Nat} (ha : szV a ≤ k) (hb : szV b ≤ k) (hk : k ≤ 1000000) : Pure Tryz.prog 95 [(VQ a).D, (VQ b).D] (VQ (cmul a b)).D := by
  refine Pure.intro (n := 28) tok Tryz.func95 rfl rfl rfl (Nat.le_of_ble_eq_true rfl) (by kernel_rfl) (fun B F0 w0 => ?_)
  have ha := szV_1 ha
  have hb := szV_1 hb
  have l1 := LQ_mul a.1 b.1
  have l2 := LQ_mul a.2 b.2
  have l3 := LQ_mul a.1 b.2
  have l4 := LQ_mul a.2 b.1
  have m1 := r02_Mul_ok (Qr a.1) (Qr b.1) (k := k) (Qr_w _ (by omega)) (Qr_w _ (by omega)) (by omega)
  have m2 := r02_Mul_ok (Qr a.2) (Qr b.2) (k := k) (Qr_w _ (by omega)) (Qr_w _ (by omega)) (by omega)
  have m3 := r02_Sub_ok (Qr (a.1 * b.1)) (Qr (a.2 * b.2)) (k := 2 * k) (Qr_w _ (by omega)) (Qr_w _ (by omega)) (by omega)
  have m4 := r02_Mul_ok (Qr a.1) (Qr b.2) (k := k) (Qr_w _ (by omega)) (Qr_w _ (by omega)) (by omega)
  have m5 := r02_Mul_ok (Qr a.2) (Qr b.1) (k := k) (Qr_w _ (by omega)) (Qr_w _ (by omega)) (by omega)
  have m6 := r02_Add_ok (Qr (a.1 * b.2)) (Qr (a.2 * b.1)) (k := 2 * k) (Qr_w _ (by omega)) (Qr_w _ (by omega)) (by omega)
  simp only [Qr_val] at m1 m2 m3 m4 m5 m6
  refine AW.seq ?_
  refine AW.region ?_
  refine AOps.run tok 3 _ _ _ _ rfl ?_
  refine AOps.nil ?_
  refine AW.seq ?_
  refine AW.draw hmix 23 (by kernel_rfl) ?_
  refine APre.run tok 4 _ _ _ _ rfl ?_
  refine APre.call tok rfl rfl rfl rfl rfl m1 ?_
  refine APre.run tok 4 _ _ _ _ rfl ?_
  refine APre.call tok rfl rfl rfl rfl rfl m2 ?_
  refine APre.call tok rfl rfl rfl rfl rfl m3 ?_
  refine APre.run tok 4 _ _ _ _ rfl ?_
  refine APre.call tok rfl rfl rfl rfl rfl m4 ?_
  refine APre.run tok 4 _ _ _ _ rfl ?_
  refine APre.call tok rfl rfl rfl rfl rfl m5 ?_
  refine APre.call tok rfl rfl rfl rfl rfl m6 ?_
  refine APre.run tok 1 _ _ _ _ rfl ?_
  refine APre.nil ?_
  refine AOps.run tok 1 _ _ _ _ rfl ?_
  refine AOps.nil ?_
  exact AW.ret rfl
theorem r17_Direction_ok (v : Option Rat) {k : Nat} (h : szT v ≤ k) (h1 : 1 ≤ k) (hk : k ≤ 1000000) : Pure Tryz.prog 132 [(TQ v).D] (.tu [(Qr (dirT v).1).D, (Qr (dirT v).2).D]) := by
  refine Pure.intro (n := 32) tok Tryz.func132 rfl rfl rfl (Nat.le_of_ble_eq_true rfl) (by kernel_rfl) (fun B F0 w0 => ?_)
  cases v with
  | none =>
    have o1 := r02_Of_ok (-1) (by decide) (by decide)
    rw [show (TQ none).D = .ag [dB false, .sl 1 [], .sl 1 [], dB true] by unfold TQ; rw [Qr_zero]; rfl]
    rw [show ((-1 : Int) : Rat) = -1 from rfl] at o1
    show AW _ _ _ _ _ _ (retQ _ _ (.tu [(Qr (-1)).D, (Qr 0).D])) _
    rw [Qr_zero]
    refine AW.seq ?_
    refine AW.region ?_
    refine AOps.run tok 3 _ _ _ _ rfl ?_
    refine AOps.nil ?_
    refine AW.seq ?_
    refine AW.seq ?_
    refine AW.region ?_
    refine AOps.run tok 2 _ _ _ _ rfl ?_
    refine AOps.nil ?_
    refine AW.condT rfl ?_
    refine AW.seq ?_
    refine AW.region ?_
    refine AOps.call tok rfl rfl rfl rfl o1 ?_
    refine AOps.run tok 3 _ _ _ _ rfl ?_
    refine AOps.nil ?_
    exact AW.ret rfl
  | some t =>
  have h : LQ t ≤ k := h
  have o1 := r02_Of_ok 1 (by decide) (by decide)
  rw [show ((1 : Int) : Rat) = 1 from rfl] at o1
  have z1 := LQ_one
  have y1 := LQ_mul t t
  have c1 := r02_Mul_ok (Qr t) (Qr t) (k := k) (Qr_w _ h) (Qr_w _ h) (by omega)
  have c2 := r02_Add_ok (Qr 1) (Qr (t * t)) (k := 2 * k) (Qr_w _ (by omega)) (Qr_w _ (by omega)) (by omega)
  have y2 := LQ_add 1 (t * t)
  have c3 := r02_Sub_ok (Qr 1) (Qr (t * t)) (k := 2 * k) (Qr_w _ (by omega)) (Qr_w _ (by omega)) (by omega)
  have y3 := LQ_sub 1 (t * t)
  have c4 := r02_Add_ok (Qr t) (Qr t) (k := k) (Qr_w _ h) (Qr_w _ h) (by omega)
  have y4 := LQ_add t t
  have hn := dn_ne t
  have c5 := r17_over_ok (Qr (1 - t * t)) (Qr (1 + t * t)) (k := 4 * k + 4) (Qr_w _ (by omega)) (Qr_w _ (by omega)) (by omega) (by rw [Qr_val]; exact hn)
  have c6 := r17_over_ok (Qr (t + t)) (Qr (1 + t * t)) (k := 4 * k + 4) (Qr_w _ (by omega)) (Qr_w _ (by omega)) (by omega) (by rw [Qr_val]; exact hn)
  simp only [Qr_val] at c1 c2 c3 c4 c5 c6
  show AW _ _ _ _ _ _ (retQ _ _ (.tu [(Qr ((1 - t * t) / (1 + t * t))).D, (Qr ((t + t) / (1 + t * t))).D])) _
  refine AW.seq ?_
  refine AW.region ?_
  refine AOps.run tok 3 _ _ _ _ rfl ?_
  refine AOps.nil ?_
  refine AW.seq ?_
  refine AW.seq ?_
  refine AW.region ?_
  refine AOps.run tok 2 _ _ _ _ rfl ?_
  refine AOps.nil ?_
  refine AW.condF rfl ?_
  refine AW.skip ?_
  refine AW.seq ?_
  refine AW.draw hmix 8 (by kernel_rfl) ?_
  refine APre.call tok rfl rfl rfl rfl rfl o1 ?_
  refine APre.run tok 4 _ _ _ _ rfl ?_
  refine APre.call tok rfl rfl rfl rfl rfl c1 ?_
  refine APre.run tok 2 _ _ _ _ rfl ?_
  refine APre.nil ?_
  refine AOps.run tok 2 _ _ _ _ rfl ?_
  refine AOps.nil ?_
  refine AW.seq ?_
  refine AW.region ?_
  refine AOps.run tok 2 _ _ _ _ rfl ?_
  refine AOps.call tok rfl rfl rfl rfl c2 ?_
  refine AOps.run tok 2 _ _ _ _ rfl ?_
  refine AOps.nil ?_
  refine AW.seq ?_
  refine AW.draw hmix 12 (by kernel_rfl) ?_
  refine APre.run tok 2 _ _ _ _ rfl ?_
  refine APre.call tok rfl rfl rfl rfl rfl c3 ?_
  refine APre.run tok 1 _ _ _ _ rfl ?_
  refine APre.call tok rfl rfl rfl rfl rfl c5 ?_
  refine APre.run tok 4 _ _ _ _ rfl ?_
  refine APre.call tok rfl rfl rfl rfl rfl c4 ?_
  refine APre.run tok 1 _ _ _ _ rfl ?_
  refine APre.call tok rfl rfl rfl rfl rfl c6 ?_
  refine APre.nil ?_
  refine AOps.run tok 2 _ _ _ _ rfl ?_
  refine AOps.nil ?_
  exact AW.ret rfl
theorem r17_Rotate_ok (v : Option Rat) (q : V2) {k : Nat} (h : szT v ≤ k) (hq : szV q ≤ k) (h1 : 1 ≤ k) (hk : k ≤ 100000) : Pure Tryz.prog 87 [(TQ v).D, (VQ q).D] (VQ (rotF v q)).D := by
  refine Pure.intro (n := 31) tok Tryz.func87 rfl rfl rfl (Nat.le_of_ble_eq_true rfl) (by kernel_rfl) (fun B F0 w0 => ?_)
  have cd := r17_Direction_ok v h h1 (by omega)
  have hd := szV_1 (szV_dir v h h1)
  have hq := szV_1 hq
  unfold rotF
  generalize (dirT v).1 = c at cd hd ⊢
  generalize (dirT v).2 = s at cd hd ⊢
  obtain ⟨x, y⟩ := q
  simp only [] at hq ⊢
  have l1 := LQ_mul c x
  have l2 := LQ_mul s y
  have l3 := LQ_mul s x
  have l4 := LQ_mul c y
  have m1 := r02_Mul_ok (Qr c) (Qr x) (k := 4 * k + 4) (Qr_w _ (by omega)) (Qr_w _ (by omega)) (by omega)
  have m2 := r02_Mul_ok (Qr s) (Qr y) (k := 4 * k + 4) (Qr_w _ (by omega)) (Qr_w _ (by omega)) (by omega)
  have m3 := r02_Sub_ok (Qr (c * x)) (Qr (s * y)) (k := 8 * k + 8) (Qr_w _ (by omega)) (Qr_w _ (by omega)) (by omega)
  have m4 := r02_Mul_ok (Qr s) (Qr x) (k := 4 * k + 4) (Qr_w _ (by omega)) (Qr_w _ (by omega)) (by omega)
  have m5 := r02_Mul_ok (Qr c) (Qr y) (k := 4 * k + 4) (Qr_w _ (by omega)) (Qr_w _ (by omega)) (by omega)
  have m6 := r02_Add_ok (Qr (s * x)) (Qr (c * y)) (k := 8 * k + 8) (Qr_w _ (by omega)) (Qr_w _ (by omega)) (by omega)
  simp only [Qr_val] at m1 m2 m3 m4 m5 m6
  refine AW.seq ?_
  refine AW.region ?_
  refine AOps.run tok 3 _ _ _ _ rfl ?_
  refine AOps.nil ?_
  refine AW.seq ?_
  refine AW.region ?_
  refine AOps.run tok 1 _ _ _ _ rfl ?_
  refine AOps.call tok rfl rfl rfl rfl cd ?_
  refine AOps.run tok 7 _ _ _ _ rfl ?_
  refine AOps.nil ?_
  refine AW.seq ?_
  refine AW.draw hmix 19 (by kernel_rfl) ?_
  refine APre.run tok 3 _ _ _ _ rfl ?_
  refine APre.call tok rfl rfl rfl rfl rfl m1 ?_
  refine APre.run tok 3 _ _ _ _ rfl ?_
  refine APre.call tok rfl rfl rfl rfl rfl m2 ?_
  refine APre.call tok rfl rfl rfl rfl rfl m3 ?_
  refine APre.run tok 3 _ _ _ _ rfl ?_
  refine APre.call tok rfl rfl rfl rfl rfl m4 ?_
  refine APre.run tok 3 _ _ _ _ rfl ?_
  refine APre.call tok rfl rfl rfl rfl rfl m5 ?_
  refine APre.call tok rfl rfl rfl rfl rfl m6 ?_
  refine APre.run tok 1 _ _ _ _ rfl ?_
  refine APre.nil ?_
  refine AOps.run tok 1 _ _ _ _ rfl ?_
  refine AOps.nil ?_
  exact AW.ret rfl
theorem r17_Apply_ok (p : Option Rat × V2) (q : V2) {k : Nat} (h : szP p ≤ k) (hq : szV q ≤ k) (h1 : 1 ≤ k) (hk : k ≤ 10000) : Pure Tryz.prog 44 [(PoQ p).D, (VQ q).D] (VQ (appF p q)).D := by
  refine Pure.intro (n := 12) tok Tryz.func44 rfl rfl rfl (Nat.le_of_ble_eq_true rfl) (by kernel_rfl) (fun B F0 w0 => ?_)
  obtain ⟨h2, h3⟩ := szP_1 h
  have c1 := r17_Rotate_ok p.1 q h2 hq h1 (by omega)
  have z1 := szV_rot p.1 q h2 hq h1
  have c2 := r17_Plus_ok (rotF p.1 q) p.2 (k := 10 * k + 9) z1 (by omega) (by omega)
  unfold appF
  generalize rotF p.1 q = r at c1 c2 ⊢
  refine AW.seq ?_
  refine AW.region ?_
  refine AOps.run tok 3 _ _ _ _ rfl ?_
  refine AOps.nil ?_
  refine AW.seq ?_
  refine AW.draw hmix 7 (by kernel_rfl) ?_
  refine APre.run tok 3 _ _ _ _ rfl ?_
  refine APre.call tok rfl rfl rfl rfl rfl c1 ?_
  refine APre.run tok 2 _ _ _ _ rfl ?_
  refine APre.call tok rfl rfl rfl rfl rfl c2 ?_
  refine APre.nil ?_
  refine AOps.run tok 1 _ _ _ _ rfl ?_
  refine AOps.nil ?_
  exact AW.ret rfl
theorem r17_SamePlace_ok (a b : V2) {k : Nat} (ha : szV a ≤ k) (hb : szV b ≤ k) (hk : k ≤ 1000000) : Pure Tryz.prog 42 [(VQ a).D, (VQ b).D] (dB (decide (a = b))) := by
  refine Pure.intro (n := 19) tok Tryz.func42 rfl rfl rfl (Nat.le_of_ble_eq_true rfl) (by kernel_rfl) (fun B F0 w0 => ?_)
  have ha := szV_1 ha
  have hb := szV_1 hb
  have m1 := r02_Cmp_ok (Qr a.1) (Qr b.1) (k := k) (Qr_w _ (by omega)) (Qr_w _ (by omega)) (by omega)
  have m2 := r02_Cmp_ok (Qr a.2) (Qr b.2) (k := k) (Qr_w _ (by omega)) (Qr_w _ (by omega)) (by omega)
  simp only [Qr_val] at m1 m2
  have e0 : decide (a = b) = (decide (a.1 = b.1) && decide (a.2 = b.2)) := by
    rw [← Bool.decide_and]
    exact decide_eq_decide.2 Prod.ext_iff
  rw [e0]
  refine AW.seq ?_
  refine AW.region ?_
  refine AOps.run tok 3 _ _ _ _ rfl ?_
  refine AOps.nil ?_
  refine AW.seq ?_
  refine AW.region ?_
  refine AOps.run tok 4 _ _ _ _ rfl ?_
  refine AOps.call tok rfl rfl rfl rfl m1 ?_
  refine AOps.run tok 1 _ _ _ _ rfl ?_
  rw [cmpQ0]
  cases decide (a.1 = b.1) with
  | true =>
    refine AOps.run tok 5 _ _ _ _ rfl ?_
    refine AOps.call tok rfl rfl rfl rfl m2 ?_
    refine AOps.run tok 1 _ _ _ _ rfl ?_
    rw [cmpQ0]
    refine AOps.run tok 2 _ _ _ _ rfl ?_
    refine AOps.nil ?_
    exact AW.ret rfl
  | false =>
    refine AOps.run tok 9 _ _ _ _ rfl ?_
    refine AOps.nil ?_
    exact AW.ret rfl
end Lift
namespace Lift
open Go Go.Proofs
theorem r17_Places_ok (ps : List Po) (q : V2) {k : Nat} (hs : szL k ps) (hq : szV q ≤ k) (hl : ps.length ≤ 1000000) (h1 : 1 ≤ k) (hk : k ≤ 10000) : Pure Tryz.prog 85 [PsL ps, (VQ q).D] (VL (ps.map (fun p => appF p q))) := by
  refine Pure.intro (n := 22) tok Tryz.func85 rfl rfl rfl (Nat.le_of_ble_eq_true rfl) (by kernel_rfl) (fun B F0 w0 => ?_)
  refine AW.seq ?_
  refine AW.region ?_
  refine AOps.run tok 2 _ _ _ _ rfl ?_
  refine AOps.nil ?_
  refine AW.seq ?_
  refine AW.region ?_
  refine AOps.run tok 1 _ _ _ _ rfl ?_
  refine AOps.nil ?_
  refine AW.seq ?_
  refine AW.seq ?_
  refine AW.region ?_
  refine AOps.run tok 2 _ _ _ _ rfl ?_
  rw [List.length_map]
  refine AOps.run tok 1 _ _ _ _ rfl ?_
  refine AOps.nil ?_
  refine AW.block ?_
  refine AW.loopS [3, 5, 8, 9, 10] (fun i : Nat => [(3, .bx (VQ q).D.flat), (5, .ow 27 (((ps.take i).map (fun p => appF p q)).map (fun v => (VQ v).D))), (8, .d (PsL ps)), (9, .d (dI ps.length)), (10, .d (dI i))]) (fun i => i ≤ ps.length) (fun i => ps.length - i) 0 rfl (Nat.zero_le _) (fun i hi => ?_)
  · skip
    refine AW.seq ?_
    refine AW.region ?_
    refine AOps.run tok 1 _ _ _ _ rfl ?_
    refine AOps.nil ?_
    refine AW.seq ?_
    refine AW.cond rfl (fun h => ?_) (fun h => ?_)
    · have hii : i < ps.length := by have := of_decide_eq_true h; omega
      have hg := getPs hii
      have ca := r17_Apply_ok (ps.getD i (none, (0, 0))) q (hs i hii) hq h1 (by omega)
      have htk := take_snocD ps (none, (0, 0)) hii
      have hol : (ps.take i).length = i := by rw [List.length_take]; omega
      generalize ps.getD i (none, (0, 0)) = p at hg ca htk
      refine AW.skip ?_
      refine AW.seq ?_
      refine AW.block ?_
      refine AW.seq ?_
      refine AW.region ?_
      refine AOps.idx tok (PoQ p).D rfl rfl rfl rfl (Int.natCast_nonneg i) hg ?_
      refine AOps.run tok 3 _ _ _ _ rfl ?_
      refine AOps.nil ?_
      refine AW.region ?_
      refine AOps.run tok 3 _ _ _ _ rfl ?_
      refine AOps.call tok rfl rfl rfl rfl ca ?_
      refine AOps.bsd tok rfl rfl rfl rfl rfl ?_
      refine AOps.appo tok rfl rfl rfl rfl rfl rfl (by rw [List.length_map, List.length_map, hol]; show (_ + 1) * 112 ≤ _; omega) (by rw [List.length_map, List.length_map, hol]; show _ + 1 ≤ _; omega) ?_
      refine AOps.run tok 1 _ _ _ _ rfl ?_
      refine AOps.nil ?_
      refine AW.region ?_
      refine AOps.run tok 1 _ _ _ _ rfl ?_
      rw [wI64 (x := (i : Int) + 1) (by omega) (by omega)]
      refine AOps.run tok 1 _ _ _ _ rfl ?_
      refine AOps.nil ?_
      exact ⟨i + 1, by rw [htk, List.map_append, List.map_append]; rfl, hii, by omega⟩
    have hii : i = ps.length := by have := of_decide_eq_false h; omega
    subst hii
    rw [List.take_length]
    refine AW.exit ?_
    refine AW.seq ?_
    refine AW.region ?_
    refine AOps.run tok 2 _ _ _ _ rfl ?_
    refine AOps.nil ?_
    exact AW.ret rfl
theorem r46_Dyad_ok (d : DyD) {k : Nat} (h : d.w k) (hk : k ≤ 20000000) : Pure Tryz.prog 35 [d.D] (dB d.okB) := by
  refine Pure.intro (n := 16) tok Tryz.func35 rfl rfl rfl (Nat.le_of_ble_eq_true rfl) (by kernel_rfl) (fun B F0 w0 => ?_)
  have c1 := r17_Place_ok d.c h.1 hk
  have c2 := r17_Place_ok d.m h.2.1 hk
  have c3 := r02_Valid_ok d.r h.2.2 (by omega)
  unfold DyD.okB
  generalize d.c.okB = v at c1 ⊢
  generalize d.m.okB = u at c2 ⊢
  generalize d.r.okB = t at c3 ⊢
  refine AW.seq ?_
  refine AW.region ?_
  refine AOps.run tok 2 _ _ _ _ rfl ?_
  refine AOps.nil ?_
  refine AW.seq ?_
  refine AW.region ?_
  refine AOps.run tok 2 _ _ _ _ rfl ?_
  refine AOps.call tok rfl rfl rfl rfl c1 ?_
  refine AOps.run tok 1 _ _ _ _ rfl ?_
  cases v with
  | false =>
    refine AOps.run tok 10 _ _ _ _ rfl ?_
    refine AOps.nil ?_
    exact AW.ret rfl
  | true =>
  refine AOps.run tok 2 _ _ _ _ rfl ?_
  refine AOps.call tok rfl rfl rfl rfl c2 ?_
  refine AOps.run tok 2 _ _ _ _ rfl ?_
  cases u with
  | false =>
    refine AOps.run tok 5 _ _ _ _ rfl ?_
    refine AOps.nil ?_
    exact AW.ret rfl
  | true =>
  refine AOps.run tok 2 _ _ _ _ rfl ?_
  refine AOps.call tok rfl rfl rfl rfl c3 ?_
  refine AOps.run tok 2 _ _ _ _ rfl ?_
  refine AOps.nil ?_
  exact AW.ret rfl
theorem r46_Passes_ok (ps : List Po) (d : V2 × V2 × Rat) {k : Nat} (h : szL k ps) (hd : szD d ≤ k) (hl : ps.length ≤ 1000000) (h1 : 1 ≤ k) (hk : k ≤ 1000) : Pure Tryz.prog 43 [PsL ps, (DyQ d).D] (dB (pasB ps d)) := by
  refine Pure.intro (n := 26) tok Tryz.func43 rfl rfl rfl (Nat.le_of_ble_eq_true rfl) (by kernel_rfl) (fun B F0 w0 => ?_)
  obtain ⟨hd1, hd2, hd3⟩ := szD_1 hd
  have cI := r17_Places_ok ps d.2.1 h hd2 (by omega) h1 (by omega)
  have hsz : ∀ i, i < ps.length → szV (appF (ps.getD i (none, (0, 0))) d.2.1) ≤ 11 * k + 10 := fun i hi => szV_app _ _ (h i hi) hd2 h1
  have hno := fun i hi => pas_no (ps := ps) (d := d) (i := i) hi
  have hyes := pas_yes (ps := ps) (d := d)
  generalize pasB ps d = E at hno hyes ⊢
  obtain ⟨c, m, r⟩ := d
  simp only [] at hd1 hd2 hd3 cI hsz hno hyes
  have cS := fun a (ha : szV a ≤ 11 * k + 10) => r17_Less_ok a c (k := 11 * k + 10) ha (by omega) (by omega)
  have cQ := fun a (ha : szV a ≤ 11 * k + 10) => r17_Square_ok (vsub a c) (k := 12 * k + 11) (Nat.le_trans (szV_sub a c ha hd1) (by omega)) (by omega)
  have cC := fun a (ha : szV a ≤ 11 * k + 10) => r02_Cmp_ok (Qr (dt (vsub a c) (vsub a c))) (Qr r) (k := 100 * k + 100) (Qr_w _ (Nat.le_trans (LQ_dt _ _ (szV_sub a c ha hd1) (szV_sub a c ha hd1)).1 (by omega))) (Qr_w _ (by omega)) (by omega)
  simp only [Qr_val] at cC
  refine AW.seq ?_
  refine AW.region ?_
  refine AOps.run tok 2 _ _ _ _ rfl ?_
  refine AOps.nil ?_
  refine AW.seq ?_
  refine AW.seq ?_
  refine AW.region ?_
  refine AOps.run tok 3 _ _ _ _ rfl ?_
  refine AOps.call tok rfl rfl rfl rfl cI ?_
  refine AOps.run tok 1 _ _ _ _ rfl ?_
  rw [List.length_map, List.length_map]
  refine AOps.run tok 1 _ _ _ _ rfl ?_
  refine AOps.nil ?_
  refine AW.block ?_
  refine AW.loopS [3, 10, 11, 12] (fun i : Nat => [(3, .bx (DyQ (c, m, r)).D.flat), (10, .d (VL (ps.map (fun p => appF p m)))), (11, .d (dI ps.length)), (12, .d (dI i))]) (fun i => i ≤ ps.length ∧ ∀ j, j < i → dt (vsub (appF (ps.getD j (none, (0, 0))) m) c) (vsub (appF (ps.getD j (none, (0, 0))) m) c) = r) (fun i => ps.length - i) 0 rfl ⟨Nat.zero_le _, fun j h => by omega⟩ (fun i ⟨hi, hI⟩ => ?_)
  refine AW.seq ?_
  refine AW.region ?_
  refine AOps.run tok 1 _ _ _ _ rfl ?_
  refine AOps.nil ?_
  refine AW.seq ?_
  refine AW.cond rfl (fun h => ?_) (fun h => ?_)
  rotate_left
  · have hii : ¬ i < ps.length := by have := of_decide_eq_false h; omega
    rw [hyes (fun j hj => hI j (by omega))]
    refine AW.exit ?_
    refine AW.seq ?_
    refine AW.region ?_
    refine AOps.run tok 1 _ _ _ _ rfl ?_
    refine AOps.nil ?_
    exact AW.ret rfl
  have hii : i < ps.length := by have := of_decide_eq_true h; omega
  have hg : ((ps.map (fun p => appF p m)).map (fun v => (VQ v).D))[i]? = some (VQ (appF (ps.getD i (none, (0, 0))) m)).D := by simp [hii]
  have ha := hsz i hii
  have hno := hno i hii
  obtain ⟨x, hx⟩ : ∃ x, x = appF (ps.getD i (none, (0, 0))) m := ⟨_, rfl⟩
  rw [← hx] at hg ha hno
  have s1 := cS x ha
  have s2 := cQ x ha
  have s3 := cC x ha
  refine AW.skip ?_
  refine AW.seq ?_
  refine AW.block ?_
  refine AW.seq ?_
  refine AW.region ?_
  refine AOps.idx tok (VQ x).D rfl rfl rfl rfl (Int.natCast_nonneg i) hg ?_
  refine AOps.run tok 3 _ _ _ _ rfl ?_
  refine AOps.nil ?_
  refine AW.seq ?_
  refine AW.draw hmix 9 (by kernel_rfl) ?_
  refine APre.run tok 3 _ _ _ _ rfl ?_
  refine APre.call tok rfl rfl rfl rfl rfl s1 ?_
  refine APre.call tok rfl rfl rfl rfl rfl s2 ?_
  refine APre.run tok 2 _ _ _ _ rfl ?_
  refine APre.call tok rfl rfl rfl rfl rfl s3 ?_
  refine APre.run tok 1 _ _ _ _ rfl ?_
  rw [cmpNe]
  refine APre.nil ?_
  refine AOps.nil ?_
  by_cases e : dt (vsub x c) (vsub x c) = r
  rotate_left
  · rw [decide_eq_false e, hno e]
    refine AW.condT rfl ?_
    refine AW.seq ?_
    refine AW.region ?_
    refine AOps.run tok 1 _ _ _ _ rfl ?_
    refine AOps.nil ?_
    exact AW.ret rfl
  rw [decide_eq_true e]
  refine AW.condF rfl ?_
  refine AW.skip ?_
  refine AW.region ?_
  refine AOps.run tok 1 _ _ _ _ rfl ?_
  rw [wI64 (x := (i : Int) + 1) (by omega) (by omega)]
  refine AOps.run tok 1 _ _ _ _ rfl ?_
  refine AOps.nil ?_
  refine ⟨i + 1, rfl, ⟨hii, fun j hj => ?_⟩, by omega⟩
  by_cases e2 : j = i
  · rw [e2, ← hx]; exact e
  · exact hI j (by omega)
theorem r45_Check_ok (l : List PoD) (hl : l.length ≤ 1000000) {k : Nat} (hw : ∀ i, i < l.length → (l.getD i default).w k) (hk : k ≤ 20000000) : Pure Tryz.prog 40 [PoL l] (dI (chkPo l)) := by
  refine Pure.intro (n := 23) tok Tryz.func40 rfl rfl rfl (Nat.le_of_ble_eq_true rfl) (by kernel_rfl) (fun B F0 w0 => ?_)
  unfold chkPo
  refine AW.seq ?_
  refine AW.region ?_
  refine AOps.run tok 1 _ _ _ _ rfl ?_
  refine AOps.nil ?_
  refine AW.seq ?_
  refine AW.block ?_
  refine AW.seq ?_
  refine AW.region ?_
  refine AOps.run tok 2 _ _ _ _ rfl ?_
  rw [List.length_map]
  refine AOps.run tok 2 _ _ _ _ rfl ?_
  refine AOps.nil ?_
  by_cases h2 : l.length < 2
  · rw [if_pos h2, decide_eq_true (show (l.length : Int) < 2 by omega)]
    refine AW.condT rfl ?_
    refine AW.seq ?_
    refine AW.region ?_
    refine AOps.run tok 1 _ _ _ _ rfl ?_
    refine AOps.nil ?_
    exact AW.ret rfl
  rw [if_neg h2, decide_eq_false (show ¬ (l.length : Int) < 2 by omega)]
  refine AW.condF rfl ?_
  refine AW.seq ?_
  refine AW.region ?_
  refine AOps.run tok 2 _ _ _ _ rfl ?_
  rw [List.length_map]
  refine AOps.run tok 2 _ _ _ _ rfl ?_
  refine AOps.nil ?_
  by_cases h5 : 5 < l.length
  · rw [if_pos h5, decide_eq_true (show (5 : Int) < (l.length : Int) by omega)]
    refine AW.condT rfl ?_
    refine AW.seq ?_
    refine AW.region ?_
    refine AOps.run tok 1 _ _ _ _ rfl ?_
    refine AOps.nil ?_
    exact AW.ret rfl
  rw [if_neg h5, decide_eq_false (show ¬ (5 : Int) < (l.length : Int) by omega)]
  refine AW.condF rfl ?_
  refine AW.skip ?_
  refine AW.seq ?_
  refine AW.seq ?_
  refine AW.region ?_
  refine AOps.run tok 2 _ _ _ _ rfl ?_
  rw [List.length_map]
  refine AOps.run tok 1 _ _ _ _ rfl ?_
  refine AOps.nil ?_
  refine AW.block ?_
  refine AW.loopS [13, 14, 15] (fun i : Nat => [(13, .d (PoL l)), (14, .d (dI l.length)), (15, .d (dI i))]) (fun i => i ≤ l.length ∧ ∀ j, j < i → (l.getD j default).okB = true) (fun i => l.length - i) 0 rfl ⟨Nat.zero_le _, fun j hj => by omega⟩ (fun i ⟨hi, hall⟩ => ?_)
  refine AW.seq ?_
  refine AW.region ?_
  refine AOps.run tok 1 _ _ _ _ rfl ?_
  refine AOps.nil ?_
  refine AW.seq ?_
  refine AW.cond rfl (fun h => ?_) (fun h => ?_)
  rotate_left
  · have hii : i = l.length := by have := of_decide_eq_false h; omega
    subst hii
    rw [posOk_yes hall, if_neg (by simp)]
    refine AW.exit ?_
    refine AW.seq ?_
    refine AW.region ?_
    refine AOps.run tok 1 _ _ _ _ rfl ?_
    refine AOps.nil ?_
    exact AW.ret rfl
  have hii : i < l.length := by have := of_decide_eq_true h; omega
  have hg := getM PoD.D (l := l) (i := i) hii
  have hno := posOk_no (l := l) (i := i) hii
  have cv := r17_Valid_ok (l.getD i default) (hw i hii) hk
  refine AW.skip ?_
  refine AW.seq ?_
  refine AW.block ?_
  refine AW.seq ?_
  refine AW.region ?_
  refine AOps.idx tok (l.getD i default).D rfl rfl rfl rfl (Int.natCast_nonneg i) hg ?_
  refine AOps.run tok 3 _ _ _ _ rfl ?_
  refine AOps.nil ?_
  refine AW.seq ?_
  refine AW.region ?_
  refine AOps.run tok 1 _ _ _ _ rfl ?_
  refine AOps.call tok rfl rfl rfl rfl cv ?_
  refine AOps.run tok 1 _ _ _ _ rfl ?_
  refine AOps.nil ?_
  cases hv : (l.getD i default).okB with
  | false =>
    rw [hno hv, if_pos rfl]
    refine AW.condT rfl ?_
    refine AW.seq ?_
    refine AW.region ?_
    refine AOps.run tok 1 _ _ _ _ rfl ?_
    refine AOps.nil ?_
    exact AW.ret rfl
  | true =>
  refine AW.condF rfl ?_
  refine AW.skip ?_
  refine AW.region ?_
  refine AOps.run tok 1 _ _ _ _ rfl ?_
  rw [wI64 (x := (i : Int) + 1) (by omega) (by omega)]
  refine AOps.run tok 1 _ _ _ _ rfl ?_
  refine AOps.nil ?_
  exact ⟨i + 1, rfl, ⟨hii, fun j hj => by
    by_cases e : j = i
    · subst e; exact hv
    · exact hall j (by omega)⟩, by omega⟩
end Lift
namespace Lift
open Go Go.Proofs
set_option maxHeartbeats 1600000 in
theorem r50_Check_ok (l : List PoD) (d e : DyD) {k : Nat} (hl : l.length ≤ 1000000) (hw : ∀ i, i < l.length → (l.getD i default).w k) (hd : d.w k) (he : e.w k) (h1 : 1 ≤ k) (hk : k ≤ 1000) : Pure Tryz.prog 13 [PoL l, d.D, e.D] (dI (chkD l d e)) := by
  refine Pure.intro (n := 57) tok Tryz.func13 rfl rfl rfl (Nat.le_of_ble_eq_true rfl) (by kernel_rfl) (fun B F0 w0 => ?_)
  have cP := r45_Check_ok l hl hw (by omega)
  have v1 := r46_Dyad_ok d hd (by omega)
  have v2 := r46_Dyad_ok e he (by omega)
  have s1 := r02_Sign_ok d.r hd.2.2 (by omega)
  have s2 := r02_Sign_ok e.r he.2.2 (by omega)
  generalize hE : chkD l d e = E
  unfold chkD at hE
  refine AW.seq ?_
  refine AW.region ?_
  refine AOps.run tok 3 _ _ _ _ rfl ?_
  refine AOps.nil ?_
  refine AW.seq ?_
  refine AW.seq ?_
  refine AW.region ?_
  refine AOps.run tok 1 _ _ _ _ rfl ?_
  refine AOps.call tok rfl rfl rfl rfl cP ?_
  refine AOps.run tok 1 _ _ _ _ rfl ?_
  refine AOps.nil ?_
  by_cases hc : chkPo l = 0
  rotate_left
  · rw [if_pos hc] at hE
    subst hE
    refine AW.seq ?_
    refine AW.region ?_
    refine AOps.run tok 2 _ _ _ _ rfl ?_
    refine AOps.nil ?_
    rw [bne_iff_ne.2 (show ((chkPo l : Nat) : Int) ≠ 0 by omega)]
    refine AW.condT rfl ?_
    refine AW.seq ?_
    refine AW.region ?_
    refine AOps.run tok 2 _ _ _ _ rfl ?_
    refine AOps.nil ?_
    exact AW.ret rfl
  rw [if_neg (fun h => h hc)] at hE
  obtain ⟨hl2, hl5, hpo⟩ := chkPo_ok hc
  rw [hc]
  refine AW.seq ?_
  refine AW.region ?_
  refine AOps.run tok 2 _ _ _ _ rfl ?_
  refine AOps.nil ?_
  refine AW.condF rfl ?_
  refine AW.skip ?_
  refine AW.seq ?_
  refine AW.block ?_
  refine AW.seq ?_
  refine AW.region ?_
  refine AOps.run tok 1 _ _ _ _ rfl ?_
  refine AOps.call tok rfl rfl rfl rfl v1 ?_
  cases hv1 : d.okB with
  | false =>
    rw [hv1, if_pos (show (false && e.okB) = false from rfl)] at hE
    subst hE
    refine AOps.run tok 7 _ _ _ _ rfl ?_
    refine AOps.nil ?_
    refine AW.condT rfl ?_
    refine AW.seq ?_
    refine AW.region ?_
    refine AOps.run tok 1 _ _ _ _ rfl ?_
    refine AOps.nil ?_
    exact AW.ret rfl
  | true =>
  refine AOps.run tok 3 _ _ _ _ rfl ?_
  refine AOps.call tok rfl rfl rfl rfl v2 ?_
  refine AOps.run tok 3 _ _ _ _ rfl ?_
  refine AOps.nil ?_
  cases hv2 : e.okB with
  | false =>
    rw [hv1, hv2, if_pos (show (true && false) = false from rfl)] at hE
    subst hE
    refine AW.condT rfl ?_
    refine AW.seq ?_
    refine AW.region ?_
    refine AOps.run tok 1 _ _ _ _ rfl ?_
    refine AOps.nil ?_
    exact AW.ret rfl
  | true =>
  rw [hv1, hv2, if_neg (show ¬ (true && true) = false by simp)] at hE
  have q1 := DyD.canon hd hv1
  have q2 := DyD.canon he hv2
  have qd : d.m = VQ d.m.val := congrArg DyD.m q1
  have qe : e.m = VQ e.m.val := congrArg DyD.m q2
  have qdc : d.c = VQ d.c.val := congrArg DyD.c q1
  have qec : e.c = VQ e.c.val := congrArg DyD.c q2
  have sd := szD_1 (szD_val hd h1)
  have se := szD_1 (szD_val he h1)
  have m1 := r17_SamePlace_ok d.m.val e.m.val (k := k) sd.2.1 se.2.1 (by omega)
  have m2 := r17_SamePlace_ok d.c.val e.c.val (k := k) sd.1 se.1 (by omega)
  rw [← qd, ← qe] at m1
  rw [← qdc, ← qec] at m2
  have ql := PoL_canon hw hpo
  have p1 := r46_Passes_ok (l.map PoD.val) d.val (k := k) (szL_val hw h1) (szD_val hd h1) (by rw [List.length_map]; omega) h1 hk
  have p2 := r46_Passes_ok (l.map PoD.val) e.val (k := k) (szL_val hw h1) (szD_val he h1) (by rw [List.length_map]; omega) h1 hk
  rw [← PoL_q, ← ql, ← q1] at p1
  rw [← PoL_q, ← ql, ← q2] at p2
  refine AW.condF rfl ?_
  refine AW.seq ?_
  refine AW.region ?_
  refine AOps.run tok 2 _ _ _ _ rfl ?_
  refine AOps.call tok rfl rfl rfl rfl s1 ?_
  refine AOps.run tok 2 _ _ _ _ rfl ?_
  by_cases g1 : sgI d.r.val.num ≤ 0
  · rw [if_pos (.inl g1)] at hE
    subst hE
    rw [decide_eq_true g1]
    refine AOps.run tok 6 _ _ _ _ rfl ?_
    refine AOps.nil ?_
    refine AW.condT rfl ?_
    refine AW.seq ?_
    refine AW.region ?_
    refine AOps.run tok 1 _ _ _ _ rfl ?_
    refine AOps.nil ?_
    exact AW.ret rfl
  rw [decide_eq_false g1]
  refine AOps.run tok 2 _ _ _ _ rfl ?_
  refine AOps.call tok rfl rfl rfl rfl s2 ?_
  refine AOps.run tok 3 _ _ _ _ rfl ?_
  refine AOps.nil ?_
  by_cases g2 : sgI e.r.val.num ≤ 0
  · rw [if_pos (.inr g2)] at hE
    subst hE
    rw [decide_eq_true g2]
    refine AW.condT rfl ?_
    refine AW.seq ?_
    refine AW.region ?_
    refine AOps.run tok 1 _ _ _ _ rfl ?_
    refine AOps.nil ?_
    exact AW.ret rfl
  rw [decide_eq_false g2]
  rw [if_neg (fun h => h.elim g1 g2)] at hE
  refine AW.condF rfl ?_
  refine AW.seq ?_
  refine AW.region ?_
  refine AOps.run tok 4 _ _ _ _ rfl ?_
  refine AOps.call tok rfl rfl rfl rfl m1 ?_
  refine AOps.run tok 1 _ _ _ _ rfl ?_
  by_cases w1 : d.m.val = e.m.val
  · rw [if_pos (.inl w1)] at hE
    subst hE
    rw [decide_eq_true w1]
    refine AOps.run tok 7 _ _ _ _ rfl ?_
    refine AOps.nil ?_
    refine AW.condT rfl ?_
    refine AW.seq ?_
    refine AW.region ?_
    refine AOps.run tok 1 _ _ _ _ rfl ?_
    refine AOps.nil ?_
    exact AW.ret rfl
  rw [decide_eq_false w1]
  refine AOps.run tok 4 _ _ _ _ rfl ?_
  refine AOps.call tok rfl rfl rfl rfl m2 ?_
  refine AOps.run tok 2 _ _ _ _ rfl ?_
  refine AOps.nil ?_
  by_cases w2 : d.c.val = e.c.val
  · rw [if_pos (.inr w2)] at hE
    subst hE
    rw [decide_eq_true w2]
    refine AW.condT rfl ?_
    refine AW.seq ?_
    refine AW.region ?_
    refine AOps.run tok 1 _ _ _ _ rfl ?_
    refine AOps.nil ?_
    exact AW.ret rfl
  rw [decide_eq_false w2]
  rw [if_neg (fun h => h.elim w1 w2)] at hE
  refine AW.condF rfl ?_
  refine AW.seq ?_
  refine AW.region ?_
  refine AOps.run tok 2 _ _ _ _ rfl ?_
  refine AOps.call tok rfl rfl rfl rfl p1 ?_
  refine AOps.run tok 2 _ _ _ _ rfl ?_
  cases y1 : pasB (l.map PoD.val) d.val with
  | false =>
    rw [if_pos (.inl y1)] at hE
    subst hE
    refine AOps.run tok 6 _ _ _ _ rfl ?_
    refine AOps.nil ?_
    refine AW.condT rfl ?_
    refine AW.seq ?_
    refine AW.region ?_
    refine AOps.run tok 1 _ _ _ _ rfl ?_
    refine AOps.nil ?_
    exact AW.ret rfl
  | true =>
  refine AOps.run tok 2 _ _ _ _ rfl ?_
  refine AOps.call tok rfl rfl rfl rfl p2 ?_
  refine AOps.run tok 3 _ _ _ _ rfl ?_
  refine AOps.nil ?_
  cases y2 : pasB (l.map PoD.val) e.val with
  | false =>
    rw [if_pos (.inr y2)] at hE
    subst hE
    refine AW.condT rfl ?_
    refine AW.seq ?_
    refine AW.region ?_
    refine AOps.run tok 1 _ _ _ _ rfl ?_
    refine AOps.nil ?_
    exact AW.ret rfl
  | true =>
  rw [if_neg (fun h => by rw [y1, y2] at h; rcases h with h | h <;> cases h)] at hE
  subst hE
  refine AW.condF rfl ?_
  refine AW.skip ?_
  refine AW.seq ?_
  refine AW.region ?_
  refine AOps.run tok 1 _ _ _ _ rfl ?_
  refine AOps.nil ?_
  exact AW.ret rfl
theorem r50_Signs_ok (ps : List Po) (d e : Dy) {k : Nat} (hs : szL k ps) (hd : szD d ≤ k) (he : szD e ≤ k) (hl : ps.length ≤ 1000000) (h1 : 1 ≤ k) (hk : k ≤ 1000) : Pure Tryz.prog 16 [PsL ps, (DyQ d).D, (DyQ e).D] (IsD (ps.map (sgnF d e))) := by
  refine Pure.intro (n := 40) tok Tryz.func16 rfl rfl rfl (Nat.le_of_ble_eq_true rfl) (by kernel_rfl) (fun B F0 w0 => ?_)
  have hd := szD_1 hd
  have he := szD_1 he
  obtain ⟨dc, dm, dr⟩ := d
  obtain ⟨ec, em, er⟩ := e
  simp only [] at hd he
  refine AW.seq ?_
  refine AW.region ?_
  refine AOps.run tok 3 _ _ _ _ rfl ?_
  refine AOps.nil ?_
  refine AW.seq ?_
  refine AW.region ?_
  refine AOps.run tok 1 _ _ _ _ rfl ?_
  refine AOps.nil ?_
  refine AW.seq ?_
  refine AW.seq ?_
  refine AW.region ?_
  refine AOps.run tok 2 _ _ _ _ rfl ?_
  rw [List.length_map]
  refine AOps.run tok 1 _ _ _ _ rfl ?_
  refine AOps.nil ?_
  refine AW.block ?_
  refine AW.loopS [4, 5, 7, 12, 13, 14] (fun i : Nat => [(4, .bx (DyQ (dc, dm, dr)).D.flat), (5, .bx (DyQ (ec, em, er)).D.flat), (7, .ow 3 (IL ((ps.take i).map (sgnF (dc, dm, dr) (ec, em, er))))), (12, .d (PsL ps)), (13, .d (dI ps.length)), (14, .d (dI i))]) (fun i => i ≤ ps.length) (fun i => ps.length - i) 0 rfl (Nat.zero_le _) (fun i hi => ?_)
  · skip
    refine AW.seq ?_
    refine AW.region ?_
    refine AOps.run tok 1 _ _ _ _ rfl ?_
    refine AOps.nil ?_
    refine AW.seq ?_
    refine AW.cond rfl (fun h => ?_) (fun h => ?_)
    · have hii : i < ps.length := by have := of_decide_eq_true h; omega
      have hg := getPs hii
      have hsz := hs i hii
      have htk := take_snocD ps (none, (0, 0)) hii
      have hol : (ps.take i).length = i := by rw [List.length_take]; omega
      have hs1 : ∀ p, sgnF (dc, dm, dr) (ec, em, er) p = sgI (crs (vsub (appF p em) (appF p dm)) (vsub ec (appF p dm))).num := fun _ => rfl
      generalize sgnF (dc, dm, dr) (ec, em, er) = sF at hs1
      generalize ps.getD i (none, (0, 0)) = p at hg hsz htk
      have a1 := r17_Apply_ok p dm hsz hd.2.1 h1 (by omega)
      have a2 := r17_Apply_ok p em hsz he.2.1 h1 (by omega)
      have z1 := szV_app p dm hsz hd.2.1 h1
      have z2 := szV_app p em hsz he.2.1 h1
      have hs1 := hs1 p
      generalize appF p dm = a at a1 z1 hs1
      generalize appF p em = b at a2 z2 hs1
      have b1 := r17_Less_ok b a (k := 11 * k + 10) z2 z1 (by omega)
      have y1 := szV_sub b a z2 z1
      have b2 := r17_Less_ok ec a (k := 11 * k + 10) (by omega) z1 (by omega)
      have y2 := szV_sub ec a he.1 z1
      generalize vsub b a = u at b1 y1 hs1
      generalize vsub ec a = v at b2 y2 hs1
      have b3 := r38_Cross_ok u v (k := 22 * k + 21) (by omega) (by omega) (by omega)
      have y3 := (LQ_dt u v (k := 22 * k + 21) (m := 22 * k + 21) (by omega) (by omega)).2
      have b4 := r02_Sign_ok (Qr (crs u v)) (k := 100 * k + 100) (Qr_w _ (by omega)) (by omega)
      rw [Qr_val, ← hs1] at b4
      refine AW.skip ?_
      refine AW.seq ?_
      refine AW.block ?_
      refine AW.seq ?_
      refine AW.region ?_
      refine AOps.idx tok (PoQ p).D rfl rfl rfl rfl (Int.natCast_nonneg i) hg ?_
      refine AOps.run tok 3 _ _ _ _ rfl ?_
      refine AOps.nil ?_
      refine AW.seq ?_
      refine AW.draw hmix 10 (by kernel_rfl) ?_
      refine APre.run tok 3 _ _ _ _ rfl ?_
      refine APre.call tok rfl rfl rfl rfl rfl a1 ?_
      refine APre.run tok 3 _ _ _ _ rfl ?_
      refine APre.call tok rfl rfl rfl rfl rfl a2 ?_
      refine APre.run tok 2 _ _ _ _ rfl ?_
      refine APre.nil ?_
      refine AOps.run tok 2 _ _ _ _ rfl ?_
      refine AOps.nil ?_
      refine AW.draw hmix 11 (by kernel_rfl) ?_
      refine APre.run tok 3 _ _ _ _ rfl ?_
      refine APre.call tok rfl rfl rfl rfl rfl b1 ?_
      refine APre.run tok 3 _ _ _ _ rfl ?_
      refine APre.call tok rfl rfl rfl rfl rfl b2 ?_
      refine APre.call tok rfl rfl rfl rfl rfl b3 ?_
      refine APre.call tok rfl rfl rfl rfl rfl b4 ?_
      refine APre.bsd tok rfl rfl rfl rfl rfl rfl ?_
      refine APre.nil ?_
      refine AOps.appo tok rfl rfl rfl rfl rfl rfl (by rw [List.length_map, List.length_map, hol]; show (_ + 1) * 8 ≤ _; omega) (by rw [List.length_map, List.length_map, hol]; show _ + 1 ≤ _; omega) ?_
      refine AOps.run tok 1 _ _ _ _ rfl ?_
      refine AOps.nil ?_
      refine AW.region ?_
      refine AOps.run tok 1 _ _ _ _ rfl ?_
      rw [wI64 (x := (i : Int) + 1) (by omega) (by omega)]
      refine AOps.run tok 1 _ _ _ _ rfl ?_
      refine AOps.nil ?_
      exact ⟨i + 1, by rw [htk, List.map_append]; show _ = ([_, _, (7, AV.ow _ (List.map _ (_ ++ _))), _, _, _] : St); rw [List.map_append]; rfl, hii, by omega⟩
    have hii : i = ps.length := by have := of_decide_eq_false h; omega
    subst hii
    rw [List.take_length]
    refine AW.exit ?_
    refine AW.seq ?_
    refine AW.region ?_
    refine AOps.run tok 2 _ _ _ _ rfl ?_
    refine AOps.nil ?_
    exact AW.ret rfl
end Lift
namespace Lift
open Go Go.Proofs
def ok50 (l : List PoD) (d e : DyD) : Prop := l.length ≤ 4611686018427387904 ∧ (∀ i, i < l.length → (l.getD i default).w 35184372087808) ∧ d.w 35184372087808 ∧ e.w 35184372087808
theorem shR_w {r : RD} {K m k : Nat} (h : r.w K) (hs : shR m r = true) (hk : m ≤ k) : r.w k := by
  unfold shR at hs
  rw [Bool.and_eq_true, decide_eq_true_iff, decide_eq_true_iff] at hs
  exact ⟨h.1, h.2.1, by omega, by omega⟩
theorem rs_get {l : List RD} {m : Nat} (h : l.all (shR m) = true) {r : RD} (hr : r ∈ l) : shR m r = true := by
  rw [List.all_eq_true] at h
  exact h r hr
theorem brief_w {d : DyD} {K : Nat} (h : d.w K) (hb : briefB d = true) : d.w 6 := by
  have h1 := rs_get hb (r := d.c.x) (by show _ ∈ [d.c.x, d.c.y, d.m.x, d.m.y, d.r]; simp)
  have h2 := rs_get hb (r := d.c.y) (by show _ ∈ [d.c.x, d.c.y, d.m.x, d.m.y, d.r]; simp)
  have h3 := rs_get hb (r := d.m.x) (by show _ ∈ [d.c.x, d.c.y, d.m.x, d.m.y, d.r]; simp)
  have h4 := rs_get hb (r := d.m.y) (by show _ ∈ [d.c.x, d.c.y, d.m.x, d.m.y, d.r]; simp)
  have h5 := rs_get hb (r := d.r) (by show _ ∈ [d.c.x, d.c.y, d.m.x, d.m.y, d.r]; simp)
  exact ⟨⟨shR_w h.1.1 h1 (Nat.le_refl _), shR_w h.1.2 h2 (Nat.le_refl _)⟩, ⟨shR_w h.2.1.1 h3 (Nat.le_refl _), shR_w h.2.1.2 h4 (Nat.le_refl _)⟩, shR_w h.2.2 h5 (Nat.le_refl _)⟩
theorem shP_w {p : PoD} {K : Nat} (h : p.w K) (hb : shP p = true) : p.w 6 := by
  have h1 := rs_get hb (r := p.t.t) (by show _ ∈ [p.t.t, p.l.x, p.l.y]; simp)
  have h2 := rs_get hb (r := p.l.x) (by show _ ∈ [p.t.t, p.l.x, p.l.y]; simp)
  have h3 := rs_get hb (r := p.l.y) (by show _ ∈ [p.t.t, p.l.x, p.l.y]; simp)
  exact ⟨shR_w h.1 h1 (by decide), shR_w h.2.1 h2 (by decide), shR_w h.2.2 h3 (by decide)⟩
theorem short_w {l : List PoD} {d e : DyD} (h : ok50 l d e) (hs : shortB l d e = true) : l.length ≤ 20 ∧ (∀ i, i < l.length → (l.getD i default).w 6) ∧ d.w 6 ∧ e.w 6 := by
  unfold shortB at hs
  rw [Bool.and_eq_true, Bool.and_eq_true, Bool.and_eq_true, decide_eq_true_iff] at hs
  obtain ⟨h1, h2, h3, h4⟩ := hs
  refine ⟨h1, fun i hi => ?_, brief_w h.2.2.1 h3, brief_w h.2.2.2 h4⟩
  refine shP_w (h.2.1 i hi) ?_
  unfold short17 at h2
  rw [List.all_eq_true] at h2
  refine h2 _ ?_
  rw [List.getD_eq_getElem?_getD, List.getElem?_eq_getElem hi]
  exact List.getElem_mem hi
theorem ok_canon {l : List PoD} {d e : DyD} {k : Nat} (hw : ∀ i, i < l.length → (l.getD i default).w k) (hd : d.w k) (he : e.w k) (hc : chkD l d e = 0) : l = (l.map PoD.val).map PoQ ∧ d = DyQ d.val ∧ e = DyQ e.val := by
  obtain ⟨⟨_, _, hp⟩, h2, h3, _⟩ := chkD_ok hc
  exact ⟨PoL_canon hw hp, DyD.canon hd h2, DyD.canon he h3⟩
end Lift
namespace Lift
open Go Go.Proofs
theorem u_turn4 : RT Tryz.prog 50 TD (fun a => a.D.flat) (fun a => a.t.w 35184372087808) := by
  have h := RT.struct (P := Tryz.prog) (t := 50) (m := 4) Tryz.underlying50 (by kernel_rfl) (RTF.cons (by kernel_rfl) u_rat4 (RTF.cons (by kernel_rfl) u_bool RTF.nil)) (fun v => rfl)
  exact h.map (fun v => ⟨v.1, v.2.1⟩) (fun v h => rfl) (fun v h => h.1) (fun v => ⟨by kernel_rfl, fun d hd => by
    simp only [D.flat, List.mem_cons, List.mem_nil_iff, or_false] at hd
    rcases hd with rfl | rfl | rfl | rfl <;> rfl⟩)
theorem u_place4 : RT Tryz.prog 27 PD (fun a => a.D.flat) (fun a => a.w 35184372087808) := by
  have h := RT.struct (P := Tryz.prog) (t := 27) (m := 6) Tryz.underlying27 (by kernel_rfl) (RTF.cons (by kernel_rfl) u_rat4 (RTF.cons (by kernel_rfl) u_rat4 RTF.nil)) (fun v => rfl)
  exact h.map (fun v => ⟨v.1, v.2.1⟩) (fun v h => rfl) (fun v h => ⟨h.1, h.2.1⟩) (fun v => ⟨by kernel_rfl, fun d hd => by
    simp only [D.flat, List.mem_cons, List.mem_nil_iff, or_false] at hd
    rcases hd with rfl | rfl | rfl | rfl | rfl | rfl <;> rfl⟩)
theorem u_pose4 : RT Tryz.prog 52 PoD (fun a => a.D.flat) (fun a => a.w 35184372087808) := by
  have h := RT.struct (P := Tryz.prog) (t := 52) (m := 10) Tryz.underlying52 (by kernel_rfl) (RTF.cons (by kernel_rfl) u_turn4 (RTF.cons (by kernel_rfl) u_place4 RTF.nil)) (fun v => rfl)
  exact h.map (fun v => ⟨v.1, v.2.1⟩) (fun v h => rfl) (fun v h => ⟨h.1, h.2.1⟩) (fun v => ⟨by kernel_rfl, fun d hd => by
    simp only [D.flat, List.mem_cons, List.mem_nil_iff, or_false] at hd
    rcases hd with rfl | rfl | rfl | rfl | rfl | rfl | rfl | rfl | rfl | rfl <;> rfl⟩)
theorem u_poses4 : RT Tryz.prog 22 (List PoD) (fun l => [PoL l]) (fun l => l.length ≤ reachBytes ∧ ∀ v ∈ l, v.w 35184372087808) :=
  RT.slice (el := PoD.D) (s := 10) (by kernel_rfl) (by kernel_rfl) (by kernel_rfl) (by decide) (Nat.le_of_ble_eq_true (by kernel_rfl)) u_pose4 (fun v => rfl)
theorem u_dyad4 : RT Tryz.prog 29 DyD (fun a => a.D.flat) (fun a => a.w 35184372087808) := by
  have h := RT.struct (P := Tryz.prog) (t := 29) (m := 15) Tryz.underlying29 (by kernel_rfl) (RTF.cons (by kernel_rfl) u_place4 (RTF.cons (by kernel_rfl) u_place4 (RTF.cons (by kernel_rfl) u_rat4 RTF.nil))) (fun v => rfl)
  exact h.map (fun v => ⟨v.1, v.2.1, v.2.2.1⟩) (fun v h => rfl) (fun v h => ⟨h.1, h.2.1, h.2.2.1⟩) (fun v => ⟨by kernel_rfl, fun d hd => by
    simp only [D.flat, List.mem_cons, List.mem_nil_iff, or_false] at hd
    rcases hd with rfl | rfl | rfl | rfl | rfl | rfl | rfl | rfl | rfl | rfl | rfl | rfl | rfl | rfl | rfl <;> rfl⟩)
theorem u_four4 : RT Tryz.prog 31 (DyD × DyD) (fun a => (FourD a.1 a.2).flat) (fun a => a.1.w 35184372087808 ∧ a.2.w 35184372087808) := by
  have h := RT.struct (P := Tryz.prog) (t := 31) (m := 30) Tryz.underlying31 (by kernel_rfl) (RTF.cons (by kernel_rfl) u_dyad4 (RTF.cons (by kernel_rfl) u_dyad4 RTF.nil)) (fun v => rfl)
  exact h.map (fun v => (v.1, v.2.1)) (fun v h => rfl) (fun v h => ⟨h.1, h.2.1⟩) (fun v => ⟨by kernel_rfl, fun d hd => by
    simp only [D.flat, List.cons_append, List.nil_append, List.mem_cons, List.mem_nil_iff, or_false] at hd
    rcases hd with rfl | rfl | rfl | rfl | rfl | rfl | rfl | rfl | rfl | rfl | rfl | rfl | rfl | rfl | rfl | rfl | rfl | rfl | rfl | rfl | rfl | rfl | rfl | rfl | rfl | rfl | rfl | rfl | rfl | rfl <;> rfl⟩)
def ok50L (l : List PoD) : Prop := l.length ≤ 4611686018427387904 ∧ (∀ i, i < l.length → (l.getD i default).w 35184372087808)
def ok50F (x : DyD × DyD) : Prop := x.1.w 35184372087808 ∧ x.2.w 35184372087808
theorem ok50_of {l : List PoD} {x : DyD × DyD} (h1 : ok50L l) (h2 : ok50F x) : ok50 l x.1 x.2 := ⟨h1.1, h1.2, h2.1, h2.2⟩
theorem ok50L_of {l : List PoD} (h : l.length ≤ reachBytes ∧ ∀ v ∈ l, v.w 35184372087808) : ok50L l := ⟨Nat.le_trans h.1 (by decide), fun i hi => by
  rw [List.getD_eq_getElem?_getD, List.getElem?_eq_getElem hi]
  exact h.2 _ (List.getElem_mem hi)⟩
end Lift
namespace Lift
open Go Go.Proofs
def insR (u v w : V2) : Bool := !decide (sgQ (crs u v) = 0) && (decide (sgQ (crs u w) = sgQ (crs u v)) && decide (sgQ (crs w v) = sgQ (crs u v)))
theorem r50_inside_ok (u v w : V2) {k : Nat} (hu : szV u ≤ k) (hv : szV v ≤ k) (hw : szV w ≤ k) (hk : k ≤ 10000) : Pure Tryz.prog 58 [(VQ u).D, (VQ v).D, (VQ w).D] (dB (insR u v w)) := by
  refine Pure.intro (n := 30) tok Tryz.func58 rfl rfl rfl (Nat.le_of_ble_eq_true rfl) (by kernel_rfl) (fun B F0 w0 => ?_)
  have z0 := (LQ_dt u v hu hv).2
  have z1 := (LQ_dt u w hu hw).2
  have z2 := (LQ_dt w v hw hv).2
  have m1 := r38_Cross_ok u v hu hv (by omega)
  have m2 := r02_Sign_ok (Qr (crs u v)) (k := 4 * k + 1) (Qr_w _ (by omega)) (by omega)
  have m3 := r38_Cross_ok u w hu hw (by omega)
  have m4 := r02_Sign_ok (Qr (crs u w)) (k := 4 * k + 1) (Qr_w _ (by omega)) (by omega)
  have m5 := r38_Cross_ok w v hw hv (by omega)
  have m6 := r02_Sign_ok (Qr (crs w v)) (k := 4 * k + 1) (Qr_w _ (by omega)) (by omega)
  rw [Qr_val, sgI_num] at m2 m4 m6
  unfold insR
  generalize sgQ (crs u v) = s at m2 ⊢
  generalize sgQ (crs u w) = t at m4 ⊢
  generalize sgQ (crs w v) = r at m6 ⊢
  refine AW.seq ?_
  refine AW.region ?_
  refine AOps.run tok 4 _ _ _ _ rfl ?_
  refine AOps.nil ?_
  refine AW.seq ?_
  refine AW.region ?_
  refine AOps.run tok 2 _ _ _ _ rfl ?_
  refine AOps.call tok rfl rfl rfl rfl m1 ?_
  refine AOps.call tok rfl rfl rfl rfl m2 ?_
  refine AOps.run tok 1 _ _ _ _ rfl ?_
  refine AOps.nil ?_
  refine AW.seq ?_
  refine AW.region ?_
  refine AOps.run tok 2 _ _ _ _ rfl ?_
  by_cases h0 : s = 0
  · rw [decide_eq_true h0, bne_eq_false_iff_eq.2 h0]
    refine AOps.run tok 17 _ _ _ _ rfl ?_
    refine AOps.nil ?_
    exact AW.ret rfl
  rw [decide_eq_false h0, bne_iff_ne.2 h0]
  refine AOps.run tok 3 _ _ _ _ rfl ?_
  refine AOps.call tok rfl rfl rfl rfl m3 ?_
  refine AOps.call tok rfl rfl rfl rfl m4 ?_
  refine AOps.run tok 2 _ _ _ _ rfl ?_
  by_cases h1 : t = s
  rotate_left
  · rw [decide_eq_false h1, beq_eq_false_iff_ne.2 h1]
    refine AOps.run tok 10 _ _ _ _ rfl ?_
    refine AOps.nil ?_
    exact AW.ret rfl
  rw [decide_eq_true h1, beq_iff_eq.2 h1]
  refine AOps.run tok 4 _ _ _ _ rfl ?_
  refine AOps.call tok rfl rfl rfl rfl m5 ?_
  refine AOps.call tok rfl rfl rfl rfl m6 ?_
  refine AOps.run tok 2 _ _ _ _ rfl ?_
  by_cases h2 : r = s
  · rw [decide_eq_true h2, beq_iff_eq.2 h2]
    refine AOps.run tok 2 _ _ _ _ rfl ?_
    refine AOps.nil ?_
    exact AW.ret rfl
  · rw [decide_eq_false h2, beq_eq_false_iff_ne.2 h2]
    refine AOps.run tok 2 _ _ _ _ rfl ?_
    refine AOps.nil ?_
    exact AW.ret rfl
theorem r50_Opposite_ok (u v : V2) {k : Nat} (hu : szV u ≤ k) (hv : szV v ≤ k) (hk : k ≤ 10000) : Pure Tryz.prog 56 [(VQ u).D, (VQ v).D] (dB (btwU u v)) := by
  refine Pure.intro (n := 16) tok Tryz.func56 rfl rfl rfl (Nat.le_of_ble_eq_true rfl) (by kernel_rfl) (fun B F0 w0 => ?_)
  have z0 := LQ_dt u v hu hv
  have m1 := r38_Cross_ok u v hu hv (by omega)
  have m2 := r17_Zero_ok (Qr (crs u v)) (k := 4 * k + 1) (Qr_w _ (by omega)) (by omega)
  have m3 := r50_Dot_ok u v hu hv (by omega)
  have m4 := r02_Sign_ok (Qr (dt u v)) (k := 4 * k + 1) (Qr_w _ (by omega)) (by omega)
  rw [Qr_val] at m2 m4
  rw [sgI_num] at m4
  have e : decide (sgQ (crs u v) = 0) = decide (crs u v = 0) := decide_eq_decide.2 sgQ_zero
  unfold btwU
  rw [e]
  refine AW.seq ?_
  refine AW.region ?_
  refine AOps.run tok 3 _ _ _ _ rfl ?_
  refine AOps.nil ?_
  refine AW.seq ?_
  refine AW.region ?_
  refine AOps.run tok 2 _ _ _ _ rfl ?_
  refine AOps.call tok rfl rfl rfl rfl m1 ?_
  refine AOps.call tok rfl rfl rfl rfl m2 ?_
  refine AOps.run tok 1 _ _ _ _ rfl ?_
  cases decide (crs u v = 0) with
  | false =>
    refine AOps.run tok 7 _ _ _ _ rfl ?_
    refine AOps.nil ?_
    exact AW.ret rfl
  | true =>
  refine AOps.run tok 2 _ _ _ _ rfl ?_
  refine AOps.call tok rfl rfl rfl rfl m3 ?_
  refine AOps.call tok rfl rfl rfl rfl m4 ?_
  refine AOps.run tok 3 _ _ _ _ rfl ?_
  refine AOps.nil ?_
  exact AW.ret rfl
def b2F (d e : Dy) : Rat := dt (vsub e.2.1 d.2.1) (vsub e.2.1 d.2.1)
theorem r50_B2_ok (d e : Dy) {k : Nat} (hd : szD d ≤ k) (he : szD e ≤ k) (hk : k ≤ 10000) : Pure Tryz.prog 107 [(DyQ d).D, (DyQ e).D] (Qr (b2F d e)).D := by
  refine Pure.intro (n := 11) tok Tryz.func107 rfl rfl rfl (Nat.le_of_ble_eq_true rfl) (by kernel_rfl) (fun B F0 w0 => ?_)
  have hd := szD_1 hd
  have he := szD_1 he
  unfold b2F
  obtain ⟨dc, dm, dr⟩ := d
  obtain ⟨ec, em, er⟩ := e
  simp only [] at hd he ⊢
  have m1 := r17_Less_ok em dm (k := k) he.2.1 hd.2.1 (by omega)
  have z1 := szV_sub em dm he.2.1 hd.2.1
  generalize vsub em dm = u at m1 z1 ⊢
  have m2 := r17_Square_ok u z1 (by omega)
  refine AW.seq ?_
  refine AW.region ?_
  refine AOps.run tok 3 _ _ _ _ rfl ?_
  refine AOps.nil ?_
  refine AW.seq ?_
  refine AW.region ?_
  refine AOps.run tok 4 _ _ _ _ rfl ?_
  refine AOps.call tok rfl rfl rfl rfl m1 ?_
  refine AOps.call tok rfl rfl rfl rfl m2 ?_
  refine AOps.run tok 1 _ _ _ _ rfl ?_
  refine AOps.nil ?_
  exact AW.ret rfl
def areaF (a b c : Rat) : Rat := ((4 : Int) : Rat) * (a * b) - ((a + b) - c) * ((a + b) - c)
theorem r36_Area_ok (a b c : Rat) {k : Nat} (ha : LQ a ≤ k) (hb : LQ b ≤ k) (hc : LQ c ≤ k) (hk : k ≤ 100000) : Pure Tryz.prog 106 [(Qr a).D, (Qr b).D, (Qr c).D] (Qr (areaF a b c)).D := by
  refine Pure.intro (n := 24) tok Tryz.func106 rfl rfl rfl (Nat.le_of_ble_eq_true rfl) (by kernel_rfl) (fun B F0 w0 => ?_)
  unfold areaF
  have o4 := r02_Of_ok 4 (by decide) (by decide)
  have zo := LQ_four 4 (by decide)
  generalize ((4 : Int) : Rat) = r4 at o4 zo ⊢
  have c1 := r02_Add_ok (Qr a) (Qr b) (k := k) (Qr_w _ ha) (Qr_w _ hb) (by omega)
  have z1 := LQ_add a b
  have c2 := r02_Sub_ok (Qr (a + b)) (Qr c) (k := 2 * k + 1) (Qr_w _ (by omega)) (Qr_w _ (by omega)) (by omega)
  have z2 := LQ_sub (a + b) c
  have c3 := r02_Mul_ok (Qr a) (Qr b) (k := k) (Qr_w _ ha) (Qr_w _ hb) (by omega)
  have z3 := LQ_mul a b
  have c4 := r02_Mul_ok (Qr r4) (Qr (a * b)) (k := 2 * k + 2) (Qr_w _ (by omega)) (Qr_w _ (by omega)) (by omega)
  have z4 := LQ_mul r4 (a * b)
  simp only [Qr_val] at c1 c2 c3 c4
  generalize (a + b) - c = x at c2 z2 ⊢
  have c5 := r02_Mul_ok (Qr x) (Qr x) (k := 3 * k + 2) (Qr_w _ (by omega)) (Qr_w _ (by omega)) (by omega)
  have z5 := LQ_mul x x
  have c6 := r02_Sub_ok (Qr (r4 * (a * b))) (Qr (x * x)) (k := 10 * k + 10) (Qr_w _ (by omega)) (Qr_w _ (by omega)) (by omega)
  simp only [Qr_val] at c5 c6
  refine AW.seq ?_
  refine AW.region ?_
  refine AOps.run tok 4 _ _ _ _ rfl ?_
  refine AOps.nil ?_
  refine AW.seq ?_
  refine AW.region ?_
  refine AOps.call tok rfl rfl rfl rfl o4 ?_
  refine AOps.run tok 2 _ _ _ _ rfl ?_
  refine AOps.nil ?_
  refine AW.seq ?_
  refine AW.draw hmix 6 (by kernel_rfl) ?_
  refine APre.run tok 2 _ _ _ _ rfl ?_
  refine APre.call tok rfl rfl rfl rfl rfl c1 ?_
  refine APre.run tok 1 _ _ _ _ rfl ?_
  refine APre.call tok rfl rfl rfl rfl rfl c2 ?_
  refine APre.run tok 1 _ _ _ _ rfl ?_
  refine APre.nil ?_
  refine AOps.run tok 1 _ _ _ _ rfl ?_
  refine AOps.nil ?_
  refine AW.seq ?_
  refine AW.draw hmix 9 (by kernel_rfl) ?_
  refine APre.run tok 3 _ _ _ _ rfl ?_
  refine APre.call tok rfl rfl rfl rfl rfl c3 ?_
  refine APre.call tok rfl rfl rfl rfl rfl c4 ?_
  refine APre.run tok 2 _ _ _ _ rfl ?_
  refine APre.call tok rfl rfl rfl rfl rfl c5 ?_
  refine APre.call tok rfl rfl rfl rfl rfl c6 ?_
  refine APre.nil ?_
  refine AOps.run tok 1 _ _ _ _ rfl ?_
  refine AOps.nil ?_
  exact AW.ret rfl
def barO (d e : Dy) : BarR := ⟨d.2.2, b2F d e, e.2.2, vsub e.1 d.1, [], []⟩
theorem r50_Disc_ok (d e : Dy) (u : V2) {k : Nat} (hd : szD d ≤ k) (he : szD e ≤ k) (hu : szV u ≤ k) (hk : k ≤ 1000) : Pure Tryz.prog 57 [(DyQ d).D, (DyQ e).D, (VQ u).D] (Qr (discQ (barO d e) u)).D := by
  refine Pure.intro (n := 23) tok Tryz.func57 rfl rfl rfl (Nat.le_of_ble_eq_true rfl) (by kernel_rfl) (fun B F0 w0 => ?_)
  have cb := r50_B2_ok d e hd he (by omega)
  have hd := szD_1 hd
  have he := szD_1 he
  have eD : discQ (barO d e) u = areaF (b2F d e) e.2.2 (dt (vsub (vsub e.1 d.1) u) (vsub (vsub e.1 d.1) u)) := rfl
  have zb : LQ (b2F d e) ≤ 8 * k + 5 := by
    have z1 := szV_sub e.2.1 d.2.1 he.2.1 hd.2.1
    have := (LQ_dt _ _ z1 z1).1
    show LQ (dt _ _) ≤ _
    exact Nat.le_trans this (by omega)
  rw [eD]
  obtain ⟨dc, dm, dr⟩ := d
  obtain ⟨ec, em, er⟩ := e
  simp only [] at hd he ⊢
  generalize b2F (dc, dm, dr) (ec, em, er) = bb at cb zb ⊢
  have m1 := r17_Less_ok ec dc (k := k) he.1 hd.1 (by omega)
  have z1 := szV_sub ec dc he.1 hd.1
  generalize vsub ec dc = f at m1 z1 ⊢
  have m2 := r17_Less_ok f u (k := 2 * k + 1) (by omega) (by omega) (by omega)
  have z2 := szV_sub f u z1 hu
  generalize vsub f u = w at m2 z2 ⊢
  have m3 := r17_Square_ok w z2 (by omega)
  have z3 := (LQ_dt w w z2 z2).1
  have m4 := r36_Area_ok bb er (dt w w) (k := 20 * k + 20) (by omega) (by omega) (by omega) (by omega)
  refine AW.seq ?_
  refine AW.region ?_
  refine AOps.run tok 4 _ _ _ _ rfl ?_
  refine AOps.nil ?_
  refine AW.seq ?_
  refine AW.region ?_
  refine AOps.run tok 4 _ _ _ _ rfl ?_
  refine AOps.call tok rfl rfl rfl rfl m1 ?_
  refine AOps.run tok 2 _ _ _ _ rfl ?_
  refine AOps.nil ?_
  refine AW.seq ?_
  refine AW.draw hmix 10 (by kernel_rfl) ?_
  refine APre.run tok 2 _ _ _ _ rfl ?_
  refine APre.call tok rfl rfl rfl rfl rfl cb ?_
  refine APre.run tok 4 _ _ _ _ rfl ?_
  refine APre.call tok rfl rfl rfl rfl rfl m2 ?_
  refine APre.call tok rfl rfl rfl rfl rfl m3 ?_
  refine APre.call tok rfl rfl rfl rfl rfl m4 ?_
  refine APre.nil ?_
  refine AOps.run tok 1 _ _ _ _ rfl ?_
  refine AOps.nil ?_
  exact AW.ret rfl
def surdR (x a p : Rat) : Int := if sgQ x = 0 ∨ sgQ a * sgQ p = 0 ∨ sgQ x = sgQ a * sgQ p then (if sgQ x = 0 then sgQ a * sgQ p else sgQ x) else sgQ x * sgQ (x * x - a * a * p)
theorem surd_eq {x a p : Rat} (hp : 0 < p) : surdR x a p = surdF x a p := by
  have h1 : sgQ p = 1 := by
    have h := sgQ_pos.2 hp
    rcases sgQ_cases p with e | e | e <;> omega
  unfold surdR surdF
  rw [h1, Int.mul_one]
  by_cases h2 : sgQ x = 0
  · rw [if_pos (.inl h2), if_pos h2]
    by_cases h3 : sgQ x = sgQ a ∨ sgQ a = 0
    · rw [if_pos h3]; omega
    · rw [if_neg h3, if_pos h2]
  · by_cases h3 : sgQ x = sgQ a ∨ sgQ a = 0
    · rw [if_pos (.inr h3.symm), if_neg h2, if_pos h3]
    · rw [if_neg (fun h => h.elim h2 (fun h => h3 h.symm)), if_neg h3, if_neg h2]
theorem r34_Surd_ok (x a p : Rat) {k : Nat} (hx : LQ x ≤ k) (ha : LQ a ≤ k) (hp : LQ p ≤ k) (hk : k ≤ 100000) : Pure Tryz.prog 108 [(Qr x).D, (Qr a).D, (Qr p).D] (dI (surdR x a p)) := by
  refine Pure.intro (n := 44) tok Tryz.func108 rfl rfl rfl (Nat.le_of_ble_eq_true rfl) (by kernel_rfl) (fun B F0 w0 => ?_)
  have s1 := r02_Sign_ok (Qr x) (k := k) (Qr_w _ hx) (by omega)
  have s2 := r02_Sign_ok (Qr a) (k := k) (Qr_w _ ha) (by omega)
  have s3 := r02_Sign_ok (Qr p) (k := k) (Qr_w _ hp) (by omega)
  have c1 := r02_Mul_ok (Qr a) (Qr a) (k := k) (Qr_w _ ha) (Qr_w _ ha) (by omega)
  have z1 := LQ_mul a a
  have c2 := r02_Mul_ok (Qr (a * a)) (Qr p) (k := 2 * k) (Qr_w _ (by omega)) (Qr_w _ (by omega)) (by omega)
  have z2 := LQ_mul (a * a) p
  have c3 := r02_Mul_ok (Qr x) (Qr x) (k := k) (Qr_w _ hx) (Qr_w _ hx) (by omega)
  have z3 := LQ_mul x x
  have c4 := r02_Cmp_ok (Qr (x * x)) (Qr (a * a * p)) (k := 4 * k) (Qr_w _ (by omega)) (Qr_w _ (by omega)) (by omega)
  simp only [Qr_val] at c1 c2 c3 c4 s1 s2 s3
  rw [sgI_num] at s1 s2 s3
  rw [← cmpQ_sub, sgI_num] at c4
  unfold surdR
  have t1 := sgQ_cases x
  have t2 := sgQ_cases a
  have t3 := sgQ_cases p
  have t4 := sgQ_cases (x * x - a * a * p)
  generalize sgQ (x * x - a * a * p) = u at c4 t4 ⊢
  generalize sgQ x = s at s1 t1 ⊢
  generalize sgQ a = y at s2 t2 ⊢
  generalize sgQ p = z at s3 t3 ⊢
  have tm : tri (y * z) := tri_mul t2 t3
  have tm2 : tri (s * u) := tri_mul t1 t4
  refine AW.seq ?_
  refine AW.region ?_
  refine AOps.run tok 4 _ _ _ _ rfl ?_
  refine AOps.nil ?_
  refine AW.seq ?_
  refine AW.draw hmix 8 (by kernel_rfl) ?_
  refine APre.run tok 1 _ _ _ _ rfl ?_
  refine APre.call tok rfl rfl rfl rfl rfl s1 ?_
  refine APre.run tok 1 _ _ _ _ rfl ?_
  refine APre.call tok rfl rfl rfl rfl rfl s2 ?_
  refine APre.run tok 1 _ _ _ _ rfl ?_
  refine APre.call tok rfl rfl rfl rfl rfl s3 ?_
  refine APre.run tok 1 _ _ _ _ rfl ?_
  rw [wI64 (x := y * z) (by unfold tri at tm; omega) (by unfold tri at tm; omega)]
  generalize y * z = t at tm ⊢
  refine APre.run tok 1 _ _ _ _ rfl ?_
  refine APre.nil ?_
  refine AOps.run tok 1 _ _ _ _ rfl ?_
  refine AOps.nil ?_
  refine AW.cut [3, 4, 5, 7, 8] (fun _ : Unit => [(3, .bx (Qr x).D.flat), (4, .bx (Qr a).D.flat), (5, .bx (Qr p).D.flat), (7, .d (dI s)), (8, .d (dI t))]) (fun _ => ¬ (s = 0 ∨ t = 0 ∨ s = t)) ?_ (fun _ hN => ?_)
  · refine AW.seq ?_
    refine AW.region ?_
    refine AOps.run tok 2 _ _ _ _ rfl ?_
    by_cases h0 : s = 0
    · rw [beq_iff_eq.2 h0, if_pos (.inl h0), if_pos h0]
      refine AOps.run tok 9 _ _ _ _ rfl ?_
      refine AOps.nil ?_
      refine AW.condT rfl ?_
      refine AW.seq ?_
      refine AW.seq ?_
      refine AW.region ?_
      refine AOps.run tok 2 _ _ _ _ rfl ?_
      refine AOps.nil ?_
      rw [beq_iff_eq.2 h0]
      refine AW.condT rfl ?_
      refine AW.seq ?_
      refine AW.region ?_
      refine AOps.run tok 2 _ _ _ _ rfl ?_
      refine AOps.nil ?_
      exact AW.ret rfl
    rw [beq_eq_false_iff_ne.2 h0]
    refine AOps.run tok 3 _ _ _ _ rfl ?_
    by_cases h1 : t = 0
    · rw [beq_iff_eq.2 h1, if_pos (.inr (.inl h1)), if_neg h0]
      refine AOps.run tok 6 _ _ _ _ rfl ?_
      refine AOps.nil ?_
      refine AW.condT rfl ?_
      refine AW.seq ?_
      refine AW.seq ?_
      refine AW.region ?_
      refine AOps.run tok 2 _ _ _ _ rfl ?_
      refine AOps.nil ?_
      rw [beq_eq_false_iff_ne.2 h0]
      refine AW.condF rfl ?_
      refine AW.skip ?_
      refine AW.seq ?_
      refine AW.region ?_
      refine AOps.run tok 2 _ _ _ _ rfl ?_
      refine AOps.nil ?_
      exact AW.ret rfl
    rw [beq_eq_false_iff_ne.2 h1]
    refine AOps.run tok 5 _ _ _ _ rfl ?_
    by_cases h2 : s = t
    · rw [beq_iff_eq.2 h2, if_pos (.inr (.inr h2)), if_neg h0]
      refine AOps.run tok 1 _ _ _ _ rfl ?_
      refine AOps.nil ?_
      refine AW.condT rfl ?_
      refine AW.seq ?_
      refine AW.seq ?_
      refine AW.region ?_
      refine AOps.run tok 2 _ _ _ _ rfl ?_
      refine AOps.nil ?_
      rw [beq_eq_false_iff_ne.2 h0]
      refine AW.condF rfl ?_
      refine AW.skip ?_
      refine AW.seq ?_
      refine AW.region ?_
      refine AOps.run tok 2 _ _ _ _ rfl ?_
      refine AOps.nil ?_
      exact AW.ret rfl
    rw [beq_eq_false_iff_ne.2 h2]
    refine AOps.run tok 1 _ _ _ _ rfl ?_
    refine AOps.nil ?_
    refine AW.condF rfl ?_
    refine AW.skip ?_
    exact ⟨(), rfl, fun h => h.elim h0 (fun h => h.elim h1 h2)⟩
  rw [if_neg hN]
  show AW _ _ _ _ _ _ _ [(3, .bx (Qr x).D.flat), (4, .bx (Qr a).D.flat), (5, .bx (Qr p).D.flat), (7, .d (dI s)), (8, .d (dI t))]
  refine AW.seq ?_
  refine AW.draw hmix 6 (by kernel_rfl) ?_
  refine APre.run tok 2 _ _ _ _ rfl ?_
  refine APre.call tok rfl rfl rfl rfl rfl c1 ?_
  refine APre.run tok 1 _ _ _ _ rfl ?_
  refine APre.call tok rfl rfl rfl rfl rfl c2 ?_
  refine APre.run tok 1 _ _ _ _ rfl ?_
  refine APre.nil ?_
  refine AOps.run tok 1 _ _ _ _ rfl ?_
  refine AOps.nil ?_
  refine AW.seq ?_
  refine AW.draw hmix 7 (by kernel_rfl) ?_
  refine APre.run tok 3 _ _ _ _ rfl ?_
  refine APre.call tok rfl rfl rfl rfl rfl c3 ?_
  refine APre.run tok 1 _ _ _ _ rfl ?_
  refine APre.call tok rfl rfl rfl rfl rfl c4 ?_
  refine APre.run tok 1 _ _ _ _ rfl ?_
  rw [wI64 (x := s * u) (by unfold tri at tm2; omega) (by unfold tri at tm2; omega)]
  refine APre.nil ?_
  refine AOps.run tok 1 _ _ _ _ rfl ?_
  refine AOps.nil ?_
  exact AW.ret rfl
end Lift
namespace Lift
theorem sgQ_mul (x y : Rat) : sgQ (x * y) = sgQ x * sgQ y := by
  have key : ∀ {z : Rat}, 0 < z → sgQ z = 1 := fun {z} h => by
    have := sgQ_pos.2 h
    rcases sgQ_cases z with e | e | e <;> omega
  have keyn : ∀ {z : Rat}, z < 0 → sgQ z = -1 := fun {z} h => by
    have := sgQ_neg.2 h
    rcases sgQ_cases z with e | e | e <;> omega
  by_cases hx : x = 0
  · subst hx; rw [Rat.zero_mul, sgQ_0, Int.zero_mul]
  by_cases hy : y = 0
  · subst hy; rw [Rat.mul_zero, sgQ_0, Int.mul_zero]
  have cx : 0 < x ∨ x < 0 := by grind
  have cy : 0 < y ∨ y < 0 := by grind
  rcases cx with cx | cx <;> rcases cy with cy | cy
  · rw [key cx, key cy, key (Rat.mul_pos cx cy)]; rfl
  · have : 0 < x * (-y) := Rat.mul_pos cx (by grind)
    rw [key cx, keyn cy, keyn (by grind)]; rfl
  · have : 0 < (-x) * y := Rat.mul_pos (by grind) cy
    rw [keyn cx, key cy, keyn (by grind)]; rfl
  · have : 0 < (-x) * (-y) := Rat.mul_pos (by grind) (by grind)
    rw [keyn cx, keyn cy, key (by grind)]; rfl
theorem sgQ_one {z : Rat} (h : 0 < z) : sgQ z = 1 := by
  have := sgQ_pos.2 h
  rcases sgQ_cases z with e | e | e <;> omega
theorem sgQ_m1 {z : Rat} (h : z < 0) : sgQ z = -1 := by
  have := sgQ_neg.2 h
  rcases sgQ_cases z with e | e | e <;> omega
theorem surd_sq {P Y r : Rat} (hr : 0 < r) : surdF P Y (r * r) = sgQ (P + Y * r) := by
  unfold surdF
  have e : P * P - Y * Y * (r * r) = (P - Y * r) * (P + Y * r) := by grind
  rw [e, sgQ_mul]
  by_cases hY : Y = 0
  · subst hY; rw [if_pos (.inr sgQ_0), Rat.zero_mul, Rat.add_zero]
  by_cases hP : P = 0
  · subst hP
    rw [sgQ_0, Rat.zero_add, sgQ_mul, sgQ_one hr, Int.mul_one]
    by_cases h : (0 : Int) = sgQ Y ∨ sgQ Y = 0
    · rw [if_pos h]; omega
    · rw [if_neg h, if_pos rfl]
  have cY : 0 < Y ∨ Y < 0 := by grind
  have cP : 0 < P ∨ P < 0 := by grind
  rcases cY with cY | cY
  · have h1 : 0 < Y * r := Rat.mul_pos cY hr
    rcases cP with cP | cP
    · rw [sgQ_one cP, sgQ_one cY, if_pos (.inl rfl), sgQ_one (by grind)]
    · rw [sgQ_m1 cP, sgQ_one cY, if_neg (by decide), if_neg (by decide), sgQ_m1 (z := P - Y * r) (by grind)]
      omega
  · have h1 : 0 < (-Y) * r := Rat.mul_pos (by grind) hr
    rcases cP with cP | cP
    · rw [sgQ_one cP, sgQ_m1 cY, if_neg (by decide), if_neg (by decide), sgQ_one (z := P - Y * r) (by grind)]
      omega
    · rw [sgQ_m1 cP, sgQ_m1 cY, if_pos (.inl rfl), sgQ_m1 (by grind)]
theorem lagr (u w : V2) : dt u w * dt u w + crs u w * crs u w = dt u u * dt w w := by unfold dt crs; grind
theorem dt_vneg (u w : V2) : dt u (vneg w) = -dt u w := by unfold dt vneg; grind
theorem crs_vneg (u w : V2) : crs u (vneg w) = -crs u w := by unfold crs vneg; grind
theorem disc_dt {b : BarR} {u : V2} (h : dt u u = b.a2) : discQ b u = ((4 : Int) : Rat) * (b.b2 * b.c2) - (xlF b + 2 * dt u b.f) * (xlF b + 2 * dt u b.f) := by
  unfold discQ xlF
  have e : dt (vsub b.f u) (vsub b.f u) = dt b.f b.f - 2 * dt u b.f + dt u u := by unfold dt vsub; grind
  rw [e, h]
  grind
theorem four4 : ((4 : Int) : Rat) = 4 := rfl
theorem al_pos {b : BarR} {u : V2} (h : dt u u = b.a2) (hc : crs u b.f = 0) (hd : 0 < dt u b.f) : inLF b 1 = sgQ (discQ b u) := by
  have hp : prodF b = dt u b.f * dt u b.f := by
    have := lagr u b.f
    unfold prodF
    rw [← h, ← this, hc]; grind
  unfold inLF plainF
  rw [hp, surd_sq hd, disc_dt h]
  congr 1
  rw [four4, show ((-4 * 1 : Int) : Rat) = -4 from rfl]
  grind
theorem al_neg {b : BarR} {u : V2} (h : dt u u = b.a2) (hc : crs u b.f = 0) (hd : dt u b.f < 0) : inLF b (-1) = sgQ (discQ b u) := by
  have hp : prodF b = (-dt u b.f) * (-dt u b.f) := by
    have := lagr u b.f
    unfold prodF
    rw [← h, ← this, hc]; grind
  unfold inLF plainF
  rw [hp, surd_sq (by grind), disc_dt h]
  congr 1
  rw [four4, show ((-4 * -1 : Int) : Rat) = 4 from rfl]
  grind
def dirS (b : BarR) (s : Int) : V2 := if s < 0 then vneg b.f else b.f
theorem al_any {b : BarR} {u : V2} {s : Int} (hs : s = 1 ∨ s = -1) (h : dt u u = b.a2) (hc : crs u (dirS b s) = 0) (hd : 0 < dt u (dirS b s)) : inLF b s = sgQ (discQ b u) := by
  unfold dirS at hc hd
  rcases hs with rfl | rfl
  · rw [if_neg (by decide)] at hc hd
    exact al_pos h hc hd
  · rw [if_pos (by decide), crs_vneg] at hc
    rw [if_pos (by decide), dt_vneg] at hd
    exact al_neg h (by grind) (by grind)
theorem dirS_dt (b : BarR) (s : Int) : dt (dirS b s) (dirS b s) = dt b.f b.f := by
  unfold dirS
  split
  · unfold dt vneg; grind
  · rfl
theorem crs_comm (u v : V2) : crs u v = -crs v u := by unfold crs; grind
theorem along {u v w : V2} (h0 : 0 < dt u u) (hw : 0 < dt w w) (ht : 0 < crs u v) (hc : crs u w = 0) (hv : 0 ≤ crs w v) : 0 < dt u w := by
  have e : dt u u * crs w v = dt u w * crs u v - crs u w * dt u v := by unfold dt crs; grind
  have l := lagr u w
  have hn : dt u w ≠ 0 := fun h => by
    have := Rat.mul_pos h0 hw
    rw [h, hc] at l
    grind
  have h1 : 0 ≤ dt u u * crs w v := Rat.mul_nonneg (by grind) hv
  by_cases h : 0 < dt u w
  · exact h
  · have : 0 < (-dt u w) * crs u v := Rat.mul_pos (by grind) ht
    rw [hc] at e
    grind
theorem along' {u v w : V2} (h0 : 0 < dt v v) (hw : 0 < dt w w) (ht : 0 < crs u v) (hc : crs w v = 0) (hv : 0 ≤ crs u w) : 0 < dt v w := by
  have e : dt v v * crs u w = dt v w * crs u v + dt u v * crs v w := by unfold dt crs; grind
  have l := lagr v w
  have hc2 : crs v w = 0 := by rw [crs_comm, hc]; grind
  have hn : dt v w ≠ 0 := fun h => by
    have := Rat.mul_pos h0 hw
    rw [h, hc2] at l
    grind
  have h1 : 0 ≤ dt v v * crs u w := Rat.mul_nonneg (by grind) hv
  by_cases h : 0 < dt v w
  · exact h
  · have : 0 < (-dt v w) * crs u v := Rat.mul_pos (by grind) ht
    rw [hc2] at e
    grind
theorem insR_of {u v w : V2} (ht : 0 < crs u v) : insR u v w = (decide (0 < crs u w) && decide (0 < crs w v)) := by
  unfold insR
  rw [sgQ_one ht]
  have k : ∀ x : Rat, decide (sgQ x = 1) = decide (0 < x) := fun x => decide_eq_decide.2 ⟨fun h => sgQ_pos.1 (by omega), fun h => sgQ_one h⟩
  rw [k, k]
  rfl
theorem insF_of (u v w : V2) : insF u v w = (decide (0 ≤ crs u w) && decide (0 ≤ crs w v)) := by
  unfold insF
  have k : ∀ x : Rat, decide (0 ≤ sgQ x) = decide (0 ≤ x) := fun x => decide_eq_decide.2 ⟨fun h => by
    by_cases hx : x < 0
    · have := sgQ_neg.2 hx; omega
    · grind, fun h => by
    rcases sgQ_cases x with e | e | e
    · omega
    · omega
    · have h1 : x < 0 := sgQ_neg.1 (by rw [e]; decide)
      grind⟩
  rw [k, k]
theorem way_eq {b : BarR} {u v : V2} {s : Int} (hs : s = 1 ∨ s = -1) (hu : dt u u = b.a2) (hv : dt v v = b.a2) (ha : 0 < b.a2) (hf : 0 < dt b.f b.f) (ht : 0 < crs u v) (pu : posF b u = true) (pv : posF b v = true) :
    wayF b u v s = (!insR u v (dirS b s) || decide (0 < inLF b s)) := by
  have e0 : wayF b u v s = (!insF u v (dirS b s) || decide (0 < inLF b s)) := rfl
  have hw := dirS_dt b s
  rw [e0, insR_of ht, insF_of]
  have pu : 0 < sgQ (discQ b u) := of_decide_eq_true pu
  have pv : 0 < sgQ (discQ b v) := of_decide_eq_true pv
  have a1 := fun hc hd => al_any (u := u) hs hu hc hd
  have a2 := fun hc hd => al_any (u := v) hs hv hc hd
  generalize dirS b s = w at hw a1 a2 ⊢
  by_cases h1 : 0 ≤ crs u w
  rotate_left
  · rw [decide_eq_false h1, decide_eq_false (show ¬ 0 < crs u w by grind), Bool.false_and, Bool.false_and]
  by_cases h2 : 0 ≤ crs w v
  rotate_left
  · rw [decide_eq_false h2, decide_eq_false (show ¬ 0 < crs w v by grind), Bool.and_false, Bool.and_false]
  rw [decide_eq_true h1, decide_eq_true h2]
  by_cases h3 : 0 < crs u w
  rotate_left
  · have h3 : crs u w = 0 := by grind
    have := a1 h3 (along (by rw [hu]; exact ha) (by rw [hw]; exact hf) ht h3 h2)
    rw [this, decide_eq_true pu, Bool.or_true, Bool.or_true]
  by_cases h4 : 0 < crs w v
  rotate_left
  · have h4 : crs w v = 0 := by grind
    have hc : crs v w = 0 := by rw [crs_comm, h4]; grind
    have := a2 hc (along' (by rw [hv]; exact ha) (by rw [hw]; exact hf) ht h4 h1)
    rw [this, decide_eq_true pv, Bool.or_true, Bool.or_true]
  rw [decide_eq_true h3, decide_eq_true h4]
theorem insR_swap (u v w : V2) : insR u v w = insR v u w := by
  unfold insR
  have e1 : sgQ (crs v u) = -sgQ (crs u v) := by rw [crs_comm v u, sgQ_negate]
  have e2 : sgQ (crs v w) = -sgQ (crs w v) := by rw [crs_comm v w, sgQ_negate]
  have e3 : sgQ (crs w u) = -sgQ (crs u w) := by rw [crs_comm w u, sgQ_negate]
  rw [e1, e2, e3]
  generalize sgQ (crs u v) = a
  generalize sgQ (crs u w) = x
  generalize sgQ (crs w v) = y
  have h1 : decide (-a = 0) = decide (a = 0) := decide_eq_decide.2 (by omega)
  have h2 : decide (-y = -a) = decide (y = a) := decide_eq_decide.2 (by omega)
  have h3 : decide (-x = -a) = decide (x = a) := decide_eq_decide.2 (by omega)
  rw [h1, h2, h3, Bool.and_comm (decide (y = a))]
def betG (b : BarR) (u v : V2) : Bool := if insR u v b.f = true then (posF b u && posF b v) && decide (0 < inLF b 1) else posF b u && posF b v
def betR (b : BarR) (u v : V2) : Bool := if insR u v (vneg b.f) = true then betG b u v && decide (0 < inLF b (-1)) else betG b u v
theorem btw_eq {b : BarR} {u v : V2} (hu : dt u u = b.a2) (hv : dt v v = b.a2) (ha : 0 < b.a2) (hf : 0 < dt b.f b.f) : btwV b u v = betR b u v := by
  have key : ∀ u v : V2, dt u u = b.a2 → dt v v = b.a2 → 0 < crs u v → posF b u = true → posF b v = true → (wayF b u v 1 && wayF b u v (-1)) = ((!insR u v b.f || decide (0 < inLF b 1)) && (!insR u v (vneg b.f) || decide (0 < inLF b (-1)))) := fun u v hu hv ht pu pv => by
    rw [way_eq (.inl rfl) hu hv ha hf ht pu pv, way_eq (.inr rfl) hu hv ha hf ht pu pv]
    rfl
  have k1 := key u v hu hv
  have k2 := key v u hv hu
  rw [insR_swap v u, insR_swap v u] at k2
  have hz : crs u v = 0 → ∀ w, insR u v w = false := fun h w => by unfold insR; rw [h, sgQ_0]; rfl
  unfold btwV betR betG
  cases hpu : posF b u with
  | false => cases insR u v b.f <;> cases insR u v (vneg b.f) <;> simp
  | true =>
  cases hpv : posF b v with
  | false => cases insR u v b.f <;> cases insR u v (vneg b.f) <;> simp
  | true =>
  by_cases h0 : crs u v = 0
  · rw [hz h0, hz h0, h0, sgQ_0]; rfl
  have hs0 : sgQ (crs u v) ≠ 0 := fun h => h0 (sgQ_zero.1 h)
  rw [decide_eq_false hs0]
  have fin : ∀ i1 i2 o1 o2 : Bool, ((!i1 || o1) && (!i2 || o2)) = (if i2 = true then (if i1 = true then (true && true) && o1 else (true && true)) && o2 else (if i1 = true then (true && true) && o1 else (true && true))) := by decide
  by_cases h1 : sgQ (crs u v) < 0
  · rw [if_pos h1]
    have h2 := sgQ_neg.1 h1
    rw [k2 (by rw [crs_comm]; grind) hpv hpu]
    show (true && (true && (false || _))) = _
    rw [Bool.true_and, Bool.true_and, Bool.false_or]
    exact fin _ _ _ _
  · rw [if_neg h1]
    have h2 : 0 < crs u v := by
      have : ¬ crs u v < 0 := fun h => h1 (sgQ_neg.2 h)
      grind
    rw [k1 h2 hpu hpv]
    show (true && (true && (false || _))) = _
    rw [Bool.true_and, Bool.true_and, Bool.false_or]
    exact fin _ _ _ _
end Lift
namespace Lift
open Go Go.Proofs
theorem r50_Direction_ok (p : Po) (d : Dy) {k : Nat} (h : szP p ≤ k) (hd : szD d ≤ k) (h1 : 1 ≤ k) (hk : k ≤ 1000) : Pure Tryz.prog 24 [(PoQ p).D, (DyQ d).D] (VQ (dirF d p)).D := by
  refine Pure.intro (n := 12) tok Tryz.func24 rfl rfl rfl (Nat.le_of_ble_eq_true rfl) (by kernel_rfl) (fun B F0 w0 => ?_)
  have hd := szD_1 hd
  unfold dirF
  obtain ⟨dc, dm, dr⟩ := d
  simp only [] at hd ⊢
  have c1 := r17_Apply_ok p dm h hd.2.1 h1 (by omega)
  have z1 := szV_app p dm h hd.2.1 h1
  generalize appF p dm = a at c1 z1 ⊢
  have c2 := r17_Less_ok a dc (k := 11 * k + 10) z1 (by omega) (by omega)
  refine AW.seq ?_
  refine AW.region ?_
  refine AOps.run tok 3 _ _ _ _ rfl ?_
  refine AOps.nil ?_
  refine AW.seq ?_
  refine AW.draw hmix 7 (by kernel_rfl) ?_
  refine APre.run tok 3 _ _ _ _ rfl ?_
  refine APre.call tok rfl rfl rfl rfl rfl c1 ?_
  refine APre.run tok 2 _ _ _ _ rfl ?_
  refine APre.call tok rfl rfl rfl rfl rfl c2 ?_
  refine APre.nil ?_
  refine AOps.run tok 1 _ _ _ _ rfl ?_
  refine AOps.nil ?_
  exact AW.ret rfl
set_option maxHeartbeats 800000 in
theorem r50_aligned_ok (d e : Dy) (s : Int) {k : Nat} (hs : s = 1 ∨ s = -1) (hd : szD d ≤ k) (he : szD e ≤ k) (hp : 0 < prodF (barO d e)) (hk : k ≤ 500) : Pure Tryz.prog 59 [(DyQ d).D, (DyQ e).D, dI s] (dI (inLF (barO d e) s)) := by
  refine Pure.intro (n := 58) tok Tryz.func59 rfl rfl rfl (Nat.le_of_ble_eq_true rfl) (by kernel_rfl) (fun B F0 w0 => ?_)
  have cb := r50_B2_ok d e hd he (by omega)
  have hd := szD_1 hd
  have he := szD_1 he
  have zb : LQ (b2F d e) ≤ 8 * k + 5 := by
    have z1 := szV_sub e.2.1 d.2.1 he.2.1 hd.2.1
    have := (LQ_dt _ _ z1 z1).1
    show LQ (dt _ _) ≤ _
    exact Nat.le_trans this (by omega)
  unfold inLF
  rw [← surd_eq hp]
  have e1 : prodF (barO d e) = d.2.2 * dt (vsub e.1 d.1) (vsub e.1 d.1) := rfl
  have e2 : xlF (barO d e) = (b2F d e + e.2.2) - (d.2.2 + dt (vsub e.1 d.1) (vsub e.1 d.1)) := rfl
  have e3 : plainF (barO d e) = ((4 : Int) : Rat) * (b2F d e * e.2.2) - (xlF (barO d e) * xlF (barO d e) + ((4 : Int) : Rat) * prodF (barO d e)) := rfl
  rw [e3]
  clear e3
  generalize prodF (barO d e) = p at e1 hp ⊢
  generalize xlF (barO d e) = x at e2 ⊢
  obtain ⟨dc, dm, a2⟩ := d
  obtain ⟨ec, em, c2⟩ := e
  simp only [] at hd he e1 e2 ⊢
  obtain ⟨_, _, h1⟩ := hd
  generalize b2F (dc, dm, a2) (ec, em, c2) = b2 at cb zb e2 ⊢
  have m1 := r17_Less_ok ec dc (k := k) he.1 (by omega) (by omega)
  have z1 := szV_sub ec dc (k := k) (m := k) he.1 (by omega)
  generalize vsub ec dc = f at m1 z1 e1 e2 ⊢
  have m2 := r17_Square_ok f z1 (by omega)
  have z2 := (LQ_dt f f z1 z1).1
  generalize dt f f = q at m2 z2 e1 e2 ⊢
  have d1 := r02_Mul_ok (Qr a2) (Qr q) (k := 10 * k + 10) (Qr_w _ (by omega)) (Qr_w _ (by omega)) (by omega)
  have y1 := LQ_mul a2 q
  have d2 := r02_Add_ok (Qr b2) (Qr c2) (k := 10 * k + 10) (Qr_w _ (by omega)) (Qr_w _ (by omega)) (by omega)
  have y2 := LQ_add b2 c2
  have d3 := r02_Add_ok (Qr a2) (Qr q) (k := 10 * k + 10) (Qr_w _ (by omega)) (Qr_w _ (by omega)) (by omega)
  have y3 := LQ_add a2 q
  have d4 := r02_Sub_ok (Qr (b2 + c2)) (Qr (a2 + q)) (k := 20 * k + 20) (Qr_w _ (by omega)) (Qr_w _ (by omega)) (by omega)
  have y4 := LQ_sub (b2 + c2) (a2 + q)
  rw [Qr_val, Qr_val] at d1 d2 d3 d4
  rw [← e1] at d1 y1
  rw [← e2] at d4 y4
  clear e1 e2
  have o4 := r02_Of_ok 4 (by decide) (by decide)
  have zo := LQ_four 4 (by decide)
  generalize ((4 : Int) : Rat) = r4 at o4 zo ⊢
  have c5 := r02_Mul_ok (Qr b2) (Qr c2) (k := 10 * k + 10) (Qr_w _ (by omega)) (Qr_w _ (by omega)) (by omega)
  have z5 := LQ_mul b2 c2
  have c6 := r02_Mul_ok (Qr r4) (Qr (b2 * c2)) (k := 20 * k + 20) (Qr_w _ (by omega)) (Qr_w _ (by omega)) (by omega)
  have z6 := LQ_mul r4 (b2 * c2)
  have c7 := r02_Mul_ok (Qr x) (Qr x) (k := 20 * k + 30) (Qr_w _ (by omega)) (Qr_w _ (by omega)) (by omega)
  have z7 := LQ_mul x x
  have c8 := r02_Mul_ok (Qr r4) (Qr p) (k := 20 * k + 30) (Qr_w _ (by omega)) (Qr_w _ (by omega)) (by omega)
  have z8 := LQ_mul r4 p
  have c9 := r02_Add_ok (Qr (x * x)) (Qr (r4 * p)) (k := 100 * k + 100) (Qr_w _ (by omega)) (Qr_w _ (by omega)) (by omega)
  have z9 := LQ_add (x * x) (r4 * p)
  have c10 := r02_Sub_ok (Qr (r4 * (b2 * c2))) (Qr (x * x + r4 * p)) (k := 200 * k + 200) (Qr_w _ (by omega)) (Qr_w _ (by omega)) (by omega)
  have z10 := LQ_sub (r4 * (b2 * c2)) (x * x + r4 * p)
  simp only [Qr_val] at c5 c6 c7 c8 c9 c10
  generalize r4 * (b2 * c2) - (x * x + r4 * p) = P at c10 z10 ⊢
  have os := r02_Of_ok (-4 * s) (by omega) (by omega)
  have zs := LQ_four (-4 * s) (by omega)
  generalize ((-4 * s : Int) : Rat) = rs at os zs ⊢
  have c11 := r02_Mul_ok (Qr rs) (Qr x) (k := 20 * k + 30) (Qr_w _ (by omega)) (Qr_w _ (by omega)) (by omega)
  have z11 := LQ_mul rs x
  rw [Qr_val, Qr_val] at c11
  generalize rs * x = Y at c11 z11 ⊢
  have c12 := r34_Surd_ok P Y p (k := 100 * k + 200) (by omega) (by omega) (by omega) (by omega)
  refine AW.seq ?_
  refine AW.region ?_
  refine AOps.run tok 3 _ _ _ _ rfl ?_
  refine AOps.nil ?_
  refine AW.seq ?_
  refine AW.region ?_
  refine AOps.run tok 4 _ _ _ _ rfl ?_
  refine AOps.call tok rfl rfl rfl rfl m1 ?_
  refine AOps.call tok rfl rfl rfl rfl m2 ?_
  refine AOps.run tok 2 _ _ _ _ rfl ?_
  refine AOps.nil ?_
  refine AW.seq ?_
  refine AW.region ?_
  refine AOps.run tok 2 _ _ _ _ rfl ?_
  refine AOps.call tok rfl rfl rfl rfl cb ?_
  refine AOps.run tok 2 _ _ _ _ rfl ?_
  refine AOps.nil ?_
  refine AW.seq ?_
  refine AW.draw hmix 10 (by kernel_rfl) ?_
  refine APre.run tok 3 _ _ _ _ rfl ?_
  refine APre.call tok rfl rfl rfl rfl rfl d2 ?_
  refine APre.run tok 3 _ _ _ _ rfl ?_
  refine APre.call tok rfl rfl rfl rfl rfl d3 ?_
  refine APre.call tok rfl rfl rfl rfl rfl d4 ?_
  refine APre.run tok 1 _ _ _ _ rfl ?_
  refine APre.nil ?_
  refine AOps.run tok 1 _ _ _ _ rfl ?_
  refine AOps.nil ?_
  refine AW.seq ?_
  refine AW.region ?_
  refine AOps.run tok 3 _ _ _ _ rfl ?_
  refine AOps.call tok rfl rfl rfl rfl d1 ?_
  refine AOps.call tok rfl rfl rfl rfl o4 ?_
  refine AOps.run tok 4 _ _ _ _ rfl ?_
  refine AOps.nil ?_
  refine AW.seq ?_
  refine AW.draw hmix 15 (by kernel_rfl) ?_
  refine APre.run tok 4 _ _ _ _ rfl ?_
  refine APre.call tok rfl rfl rfl rfl rfl c5 ?_
  refine APre.call tok rfl rfl rfl rfl rfl c6 ?_
  refine APre.run tok 2 _ _ _ _ rfl ?_
  refine APre.call tok rfl rfl rfl rfl rfl c7 ?_
  refine APre.run tok 2 _ _ _ _ rfl ?_
  refine APre.call tok rfl rfl rfl rfl rfl c8 ?_
  refine APre.call tok rfl rfl rfl rfl rfl c9 ?_
  refine APre.call tok rfl rfl rfl rfl rfl c10 ?_
  refine APre.run tok 1 _ _ _ _ rfl ?_
  refine APre.nil ?_
  refine AOps.run tok 1 _ _ _ _ rfl ?_
  refine AOps.nil ?_
  refine AW.seq ?_
  refine AW.draw hmix 8 (by kernel_rfl) ?_
  refine APre.run tok 3 _ _ _ _ rfl ?_
  rw [wI64 (x := -4 * s) (by omega) (by omega)]
  refine APre.call tok rfl rfl rfl rfl rfl os ?_
  refine APre.run tok 1 _ _ _ _ rfl ?_
  refine APre.call tok rfl rfl rfl rfl rfl c11 ?_
  refine APre.run tok 1 _ _ _ _ rfl ?_
  refine APre.call tok rfl rfl rfl rfl rfl c12 ?_
  refine APre.nil ?_
  refine AOps.run tok 1 _ _ _ _ rfl ?_
  refine AOps.nil ?_
  exact AW.ret rfl
theorem VQ0 : (VQ (0, 0)).D = .ag [dB false, .sl 1 [], .sl 1 [], dB false, .sl 1 [], .sl 1 []] := by
  show D.ag [dB (Qr 0).g, Wd (Qr 0).n, Wd (Qr 0).d, dB (Qr 0).g, Wd (Qr 0).n, Wd (Qr 0).d] = _
  rw [Qr_zero]; rfl
theorem vsub0 (f : V2) : vsub (0, 0) f = vneg f := Prod.ext (by show 0 - f.1 = -f.1; grind) (by show 0 - f.2 = -f.2; grind)
def poG (ps : List Po) (i : Nat) : Po := ps.getD i (none, (0, 0))
def betweenR (ps : List Po) (d e : Dy) (i : Int) : D := if i < 0 ∨ (ps.length : Int) - 2 < i then .tu [dB false, dI 9] else if btwU (dirF d (poG ps i.toNat)) (dirF d (poG ps (i.toNat + 1))) = true then .tu [dB false, dI 15] else
  .tu [dB (betR (barO d e) (dirF d (poG ps i.toNat)) (dirF d (poG ps (i.toNat + 1)))), dI 0]
set_option maxHeartbeats 1600000 in
theorem r50_Between_ok (ps : List Po) (d e : Dy) (i : Int) {k : Nat} (hsz : szL k ps) (hd : szD d ≤ k) (he : szD e ≤ k) (hp : 0 < prodF (barO d e)) (hl : ps.length ≤ 1000) (h1 : 1 ≤ k) (hk : k ≤ 20) (i0 : -9223372036854775808 ≤ i) (i1 : i ≤ 9223372036854775807) : Pure Tryz.prog 23 [PsL ps, (DyQ d).D, (DyQ e).D, dI i] (betweenR ps d e i) := by
  refine Pure.intro (n := 85) tok Tryz.func23 rfl rfl rfl (Nat.le_of_ble_eq_true rfl) (by kernel_rfl) (fun B F0 w0 => ?_)
  unfold betweenR
  refine AW.seq ?_
  refine AW.region ?_
  refine AOps.run tok 4 _ _ _ _ rfl ?_
  refine AOps.nil ?_
  refine AW.seq ?_
  refine AW.seq ?_
  refine AW.region ?_
  refine AOps.run tok 2 _ _ _ _ rfl ?_
  by_cases h0 : i < 0
  · rw [decide_eq_true h0, if_pos (.inl h0)]
    refine AOps.run tok 7 _ _ _ _ rfl ?_
    refine AOps.nil ?_
    refine AW.condT rfl ?_
    refine AW.seq ?_
    refine AW.region ?_
    refine AOps.run tok 2 _ _ _ _ rfl ?_
    refine AOps.nil ?_
    exact AW.ret rfl
  rw [decide_eq_false h0]
  refine AOps.run tok 4 _ _ _ _ rfl ?_
  rw [List.length_map]
  refine AOps.run tok 1 _ _ _ _ rfl ?_
  rw [wI64 (x := (ps.length : Int) - 2) (by omega) (by omega)]
  refine AOps.run tok 2 _ _ _ _ rfl ?_
  refine AOps.nil ?_
  by_cases h2 : (ps.length : Int) - 2 < i
  · rw [decide_eq_true h2, if_pos (.inr h2)]
    refine AW.condT rfl ?_
    refine AW.seq ?_
    refine AW.region ?_
    refine AOps.run tok 2 _ _ _ _ rfl ?_
    refine AOps.nil ?_
    exact AW.ret rfl
  rw [decide_eq_false h2, if_neg (fun h => h.elim h0 h2)]
  obtain ⟨j, rfl⟩ : ∃ j : Nat, i = (j : Int) := ⟨i.toNat, by omega⟩
  rw [show ((j : Int)).toNat = j from rfl]
  have hj : j + 1 < ps.length := by omega
  have g1 := getPs (ps := ps) (i := j) (by omega)
  have g2 := getPs hj
  have s1 := hsz j (by omega)
  have s2 := hsz (j + 1) hj
  unfold poG
  generalize ps.getD j (none, (0, 0)) = p at g1 s1 ⊢
  generalize ps.getD (j + 1) (none, (0, 0)) = q at g2 s2 ⊢
  have c1 := r50_Direction_ok p d s1 hd h1 (by omega)
  have c2 := r50_Direction_ok q d s2 hd h1 (by omega)
  have hd' := szD_1 hd
  have he' := szD_1 he
  have zu : szV (dirF d p) ≤ 12 * k + 11 := Nat.le_trans (szV_sub _ _ (szV_app p d.2.1 s1 hd'.2.1 h1) hd'.1) (by omega)
  have zv : szV (dirF d q) ≤ 12 * k + 11 := Nat.le_trans (szV_sub _ _ (szV_app q d.2.1 s2 hd'.2.1 h1) hd'.1) (by omega)
  generalize dirF d p = u at c1 zu ⊢
  generalize dirF d q = v at c2 zv ⊢
  have cO := r50_Opposite_ok u v (k := 12 * k + 11) zu zv (by omega)
  have cf := r17_Less_ok e.1 d.1 (k := k) he'.1 hd'.1 (by omega)
  have zf := szV_sub e.1 d.1 he'.1 hd'.1
  have ef : (barO d e).f = vsub e.1 d.1 := rfl
  have cn := r17_Less_ok (0, 0) (vsub e.1 d.1) (k := 2 * k + 1) (by show max (LQ 0) (LQ 0) ≤ _; rw [LQ_zero]; omega) (by omega) (by omega)
  rw [VQ0, vsub0] at cn
  have znf : szV (vneg (vsub e.1 d.1)) ≤ 12 * k + 11 := by rw [sgV_neg]; omega
  have D1 := r50_Disc_ok d e u (k := 12 * k + 11) (by omega) (by omega) zu (by omega)
  have D2 := r50_Disc_ok d e v (k := 12 * k + 11) (by omega) (by omega) zv (by omega)
  have zD : ∀ w, szV w ≤ 12 * k + 11 → LQ (discQ (barO d e) w) ≤ 1000 * k + 1000 := fun w hw => by
    have zb : LQ (b2F d e) ≤ 8 * k + 5 := by
      have z1 := szV_sub e.2.1 d.2.1 he'.2.1 hd'.2.1
      have := (LQ_dt _ _ z1 z1).1
      show LQ (dt _ _) ≤ _
      exact Nat.le_trans this (by omega)
    have z2 := szV_sub (vsub e.1 d.1) w zf hw
    have z3 := (LQ_dt _ _ z2 z2).1
    have z4 := LQ_mul (b2F d e) e.2.2
    have z5 := LQ_mul ((4 : Int) : Rat) (b2F d e * e.2.2)
    have zo := LQ_four 4 (by decide)
    have z6 := LQ_add (b2F d e) e.2.2
    have z7 := LQ_sub (b2F d e + e.2.2) (dt (vsub (vsub e.1 d.1) w) (vsub (vsub e.1 d.1) w))
    have z8 := LQ_mul ((b2F d e + e.2.2) - dt (vsub (vsub e.1 d.1) w) (vsub (vsub e.1 d.1) w)) ((b2F d e + e.2.2) - dt (vsub (vsub e.1 d.1) w) (vsub (vsub e.1 d.1) w))
    have z9 := LQ_sub (((4 : Int) : Rat) * (b2F d e * e.2.2)) (((b2F d e + e.2.2) - dt (vsub (vsub e.1 d.1) w) (vsub (vsub e.1 d.1) w)) * ((b2F d e + e.2.2) - dt (vsub (vsub e.1 d.1) w) (vsub (vsub e.1 d.1) w)))
    show LQ (((4 : Int) : Rat) * (b2F d e * e.2.2) - ((b2F d e + e.2.2) - dt (vsub (vsub e.1 d.1) w) (vsub (vsub e.1 d.1) w)) * ((b2F d e + e.2.2) - dt (vsub (vsub e.1 d.1) w) (vsub (vsub e.1 d.1) w))) ≤ _
    omega
  have S1 := r02_Sign_ok (Qr (discQ (barO d e) u)) (k := 1000 * k + 1000) (Qr_w _ (zD u zu)) (by omega)
  have S2 := r02_Sign_ok (Qr (discQ (barO d e) v)) (k := 1000 * k + 1000) (Qr_w _ (zD v zv)) (by omega)
  rw [Qr_val, sgI_num] at S1 S2
  have I1 := r50_inside_ok u v (vsub e.1 d.1) (k := 12 * k + 11) zu zv (by omega) (by omega)
  have I2 := r50_inside_ok u v (vneg (vsub e.1 d.1)) (k := 12 * k + 11) zu zv znf (by omega)
  have A1 := r50_aligned_ok d e 1 (.inl rfl) hd he hp (by omega)
  have A2 := r50_aligned_ok d e (-1) (.inr rfl) hd he hp (by omega)
  unfold betR betG posF
  rw [ef]
  clear ef zD
  generalize discQ (barO d e) u = du at D1 S1 ⊢
  generalize discQ (barO d e) v = dv at D2 S2 ⊢
  generalize inLF (barO d e) 1 = l1 at A1 ⊢
  generalize inLF (barO d e) (-1) = l2 at A2 ⊢
  generalize vneg (vsub e.1 d.1) = nf at cn znf I2 ⊢
  generalize vsub e.1 d.1 = f at cf zf cn I1 ⊢
  generalize insR u v f = i1 at I1 ⊢
  generalize insR u v nf = i2 at I2 ⊢
  generalize sgQ du = s1 at S1 ⊢
  generalize sgQ dv = s2 at S2 ⊢
  refine AW.condF rfl ?_
  refine AW.skip ?_
  refine AW.seq ?_
  refine AW.draw hmix 15 (by kernel_rfl) ?_
  refine APre.run tok 2 _ _ _ _ rfl ?_
  refine APre.idx tok (PoQ p).D rfl rfl rfl rfl rfl (Int.natCast_nonneg j) g1 ?_
  refine APre.run tok 2 _ _ _ _ rfl ?_
  refine APre.call tok rfl rfl rfl rfl rfl c1 ?_
  refine APre.run tok 3 _ _ _ _ rfl ?_
  rw [wI64 (x := (j : Int) + 1) (by omega) (by omega)]
  refine APre.idx tok (PoQ q).D rfl rfl rfl rfl rfl (Int.natCast_nonneg (j + 1)) g2 ?_
  refine APre.run tok 2 _ _ _ _ rfl ?_
  refine APre.call tok rfl rfl rfl rfl rfl c2 ?_
  refine APre.run tok 2 _ _ _ _ rfl ?_
  refine APre.nil ?_
  refine AOps.run tok 2 _ _ _ _ rfl ?_
  refine AOps.nil ?_
  refine AW.seq ?_
  refine AW.seq ?_
  refine AW.region ?_
  refine AOps.run tok 2 _ _ _ _ rfl ?_
  refine AOps.call tok rfl rfl rfl rfl cO ?_
  refine AOps.nil ?_
  cases btwU u v with
  | true =>
    rw [if_pos rfl]
    refine AW.condT rfl ?_
    refine AW.seq ?_
    refine AW.region ?_
    refine AOps.run tok 2 _ _ _ _ rfl ?_
    refine AOps.nil ?_
    exact AW.ret rfl
  | false =>
  rw [if_neg (by simp)]
  refine AW.condF rfl ?_
  refine AW.skip ?_
  refine AW.seq ?_
  refine AW.region ?_
  refine AOps.run tok 4 _ _ _ _ rfl ?_
  refine AOps.call tok rfl rfl rfl rfl cf ?_
  refine AOps.run tok 2 _ _ _ _ rfl ?_
  refine AOps.nil ?_
  refine AW.seq ?_
  refine AW.region ?_
  refine AOps.run tok 2 _ _ _ _ rfl ?_
  refine AOps.call tok rfl rfl rfl rfl cn ?_
  refine AOps.run tok 2 _ _ _ _ rfl ?_
  refine AOps.nil ?_
  refine AW.cut [5, 6, 10, 11, 12, 13, 14] (fun _ : Unit => [(5, .bx (DyQ d).D.flat), (6, .bx (DyQ e).D.flat), (10, .bx (VQ u).D.flat), (11, .bx (VQ v).D.flat), (12, .bx (VQ f).D.flat), (13, .bx (VQ nf).D.flat), (14, .d (dB (decide (0 < s1) && decide (0 < s2))))]) (fun _ => True) ?_ (fun _ _ => ?_)
  · refine AW.region ?_
    refine AOps.run tok 3 _ _ _ _ rfl ?_
    refine AOps.call tok rfl rfl rfl rfl D1 ?_
    refine AOps.call tok rfl rfl rfl rfl S1 ?_
    refine AOps.run tok 2 _ _ _ _ rfl ?_
    cases decide (0 < s1) with
    | false =>
      refine AOps.run tok 8 _ _ _ _ rfl ?_
      refine AOps.nil ?_
      exact ⟨(), rfl, trivial⟩
    | true =>
    refine AOps.run tok 3 _ _ _ _ rfl ?_
    refine AOps.call tok rfl rfl rfl rfl D2 ?_
    refine AOps.call tok rfl rfl rfl rfl S2 ?_
    refine AOps.run tok 3 _ _ _ _ rfl ?_
    refine AOps.nil ?_
    exact ⟨(), rfl, trivial⟩
  show AW _ _ _ _ _ _ _ [(5, .bx (DyQ d).D.flat), (6, .bx (DyQ e).D.flat), (10, .bx (VQ u).D.flat), (11, .bx (VQ v).D.flat), (12, .bx (VQ f).D.flat), (13, .bx (VQ nf).D.flat), (14, .d (dB (decide (0 < s1) && decide (0 < s2))))]
  generalize (decide (0 < s1) && decide (0 < s2)) = g
  refine AW.cut [5, 6, 10, 11, 12, 13, 14] (fun _ : Unit => [(5, .bx (DyQ d).D.flat), (6, .bx (DyQ e).D.flat), (10, .bx (VQ u).D.flat), (11, .bx (VQ v).D.flat), (12, .bx (VQ f).D.flat), (13, .bx (VQ nf).D.flat), (14, .d (dB (if i1 = true then g && decide (0 < l1) else g)))]) (fun _ => True) ?_ (fun _ _ => ?_)
  · refine AW.seq ?_
    refine AW.region ?_
    refine AOps.run tok 3 _ _ _ _ rfl ?_
    refine AOps.call tok rfl rfl rfl rfl I1 ?_
    refine AOps.nil ?_
    cases i1 with
    | false =>
      refine AW.condF rfl ?_
      refine AW.skip ?_
      exact ⟨(), rfl, trivial⟩
    | true =>
    refine AW.condT rfl ?_
    refine AW.region ?_
    refine AOps.run tok 2 _ _ _ _ rfl ?_
    cases g with
    | false =>
      refine AOps.run tok 6 _ _ _ _ rfl ?_
      refine AOps.nil ?_
      exact ⟨(), rfl, trivial⟩
    | true =>
    refine AOps.run tok 2 _ _ _ _ rfl ?_
    refine AOps.call tok rfl rfl rfl rfl A1 ?_
    refine AOps.run tok 3 _ _ _ _ rfl ?_
    refine AOps.nil ?_
    exact ⟨(), rfl, trivial⟩
  show AW _ _ _ _ _ _ _ [(5, .bx (DyQ d).D.flat), (6, .bx (DyQ e).D.flat), (10, .bx (VQ u).D.flat), (11, .bx (VQ v).D.flat), (12, .bx (VQ f).D.flat), (13, .bx (VQ nf).D.flat), (14, .d (dB (if i1 = true then g && decide (0 < l1) else g)))]
  generalize (if i1 = true then g && decide (0 < l1) else g) = g1
  refine AW.cut [14] (fun _ : Unit => [(14, .d (dB (if i2 = true then g1 && decide (0 < l2) else g1)))]) (fun _ => True) ?_ (fun _ _ => ?_)
  · refine AW.seq ?_
    refine AW.region ?_
    refine AOps.run tok 3 _ _ _ _ rfl ?_
    refine AOps.call tok rfl rfl rfl rfl I2 ?_
    refine AOps.nil ?_
    cases i2 with
    | false =>
      refine AW.condF rfl ?_
      refine AW.skip ?_
      exact ⟨(), rfl, trivial⟩
    | true =>
    refine AW.condT rfl ?_
    refine AW.region ?_
    refine AOps.run tok 2 _ _ _ _ rfl ?_
    cases g1 with
    | false =>
      refine AOps.run tok 6 _ _ _ _ rfl ?_
      refine AOps.nil ?_
      exact ⟨(), rfl, trivial⟩
    | true =>
    refine AOps.run tok 2 _ _ _ _ rfl ?_
    refine AOps.call tok rfl rfl rfl rfl A2 ?_
    refine AOps.run tok 3 _ _ _ _ rfl ?_
    refine AOps.nil ?_
    exact ⟨(), rfl, trivial⟩
  show AW _ _ _ _ _ _ _ [(14, .d (dB (if i2 = true then g1 && decide (0 < l2) else g1)))]
  generalize (if i2 = true then g1 && decide (0 < l2) else g1) = g2
  refine AW.seq ?_
  refine AW.region ?_
  refine AOps.run tok 3 _ _ _ _ rfl ?_
  refine AOps.nil ?_
  exact AW.ret rfl
end Lift
namespace Lift
open Go Go.Proofs
theorem pas_dir {ps : List Po} {d : Dy} (h : pasB ps d = true) {i : Nat} (hi : i < ps.length) : dt (dirF d (poG ps i)) (dirF d (poG ps i)) = d.2.2 := by
  unfold pasB at h
  rw [List.all_eq_true] at h
  have := h (poG ps i) (by unfold poG; rw [List.getD_eq_getElem?_getD, List.getElem?_eq_getElem hi]; exact List.getElem_mem hi)
  exact of_decide_eq_true this
theorem u_get (ps : List Po) (d e : Dy) {i : Nat} (hi : i < ps.length) : (rdB ps d e).u.getD i (0, 0) = dirF d (poG ps i) := by
  show (ps.map (dirF d)).getD i (0, 0) = dirF d (ps.getD i (none, (0, 0)))
  rw [List.getD_eq_getElem?_getD, List.getElem?_map, List.getD_eq_getElem?_getD, List.getElem?_eq_getElem hi]; rfl
structure Good (ps : List Po) (d e : Dy) : Prop where
  pd : pasB ps d = true
  pe : pasB ps e = true
  ap : 0 < d.2.2
  fp : 0 < dt (vsub e.1 d.1) (vsub e.1 d.1)
  l2 : 2 ≤ ps.length
  l5 : ps.length ≤ 5
theorem chk_good {l : List PoD} {d e : DyD} (h0 : chkD l d e = 0) : Good (l.map PoD.val) d.val e.val := by
  obtain ⟨⟨hl2, hl5, hp⟩, _, _, r1, r2, _, hc, h1, h2⟩ := chkD_ok h0
  exact ⟨h1, h2, sgI_pos r1, dt_pos (vsub_ne hc), by rw [List.length_map]; exact hl2, by rw [List.length_map]; exact hl5⟩
theorem Good.prod {ps : List Po} {d e : Dy} (g : Good ps d e) : 0 < prodF (barO d e) := Rat.mul_pos g.ap g.fp
theorem Good.btw {ps : List Po} {d e : Dy} (g : Good ps d e) {i : Nat} (hi : i + 1 < ps.length) : btwV (rdB ps d e) (dirF d (poG ps i)) (dirF d (poG ps (i + 1))) = betR (barO d e) (dirF d (poG ps i)) (dirF d (poG ps (i + 1))) :=
  btw_eq (b := rdB ps d e) (pas_dir g.pd (by omega)) (pas_dir g.pd hi) g.ap g.fp
end Lift
namespace Lift
open Go Go.Proofs
def lowR (r : V2) : Bool := decide (sgQ r.2 < 0) || (decide (sgQ r.2 = 0) && decide (sgQ r.1 < 0))
theorem r50_lower_ok (r : V2) {k : Nat} (h : szV r ≤ k) (hk : k ≤ 1000000) : Pure Tryz.prog 135 [(VQ r).D] (dB (lowR r)) := by
  refine Pure.intro (n := 19) tok Tryz.func135 rfl rfl rfl (Nat.le_of_ble_eq_true rfl) (by kernel_rfl) (fun B F0 w0 => ?_)
  have h := szV_1 h
  have s1 := r02_Sign_ok (Qr r.1) (k := k) (Qr_w _ h.1) (by omega)
  have s2 := r02_Sign_ok (Qr r.2) (k := k) (Qr_w _ h.2) (by omega)
  rw [Qr_val, sgI_num] at s1 s2
  unfold lowR
  generalize sgQ r.1 = x at s1 ⊢
  generalize sgQ r.2 = y at s2 ⊢
  refine AW.seq ?_
  refine AW.region ?_
  refine AOps.run tok 2 _ _ _ _ rfl ?_
  refine AOps.nil ?_
  refine AW.seq ?_
  refine AW.region ?_
  refine AOps.run tok 2 _ _ _ _ rfl ?_
  refine AOps.call tok rfl rfl rfl rfl s2 ?_
  refine AOps.run tok 1 _ _ _ _ rfl ?_
  refine AOps.nil ?_
  refine AW.seq ?_
  refine AW.region ?_
  refine AOps.run tok 2 _ _ _ _ rfl ?_
  by_cases h0 : y < 0
  · rw [decide_eq_true h0]
    refine AOps.run tok 11 _ _ _ _ rfl ?_
    refine AOps.nil ?_
    exact AW.ret rfl
  rw [decide_eq_false h0]
  refine AOps.run tok 3 _ _ _ _ rfl ?_
  by_cases h1 : y = 0
  rotate_left
  · rw [decide_eq_false h1, beq_eq_false_iff_ne.2 h1]
    refine AOps.run tok 8 _ _ _ _ rfl ?_
    refine AOps.nil ?_
    exact AW.ret rfl
  rw [decide_eq_true h1, beq_iff_eq.2 h1]
  refine AOps.run tok 3 _ _ _ _ rfl ?_
  refine AOps.call tok rfl rfl rfl rfl s1 ?_
  refine AOps.run tok 4 _ _ _ _ rfl ?_
  refine AOps.nil ?_
  exact AW.ret rfl
def lesR (a b : V2) : Bool := if lowR a ≠ lowR b then lowR b else decide (0 < sgQ (crs a b))
theorem r50_less_ok (a b : V2) {k : Nat} (ha : szV a ≤ k) (hb : szV b ≤ k) (hk : k ≤ 100000) : Pure Tryz.prog 96 [(VQ a).D, (VQ b).D] (dB (lesR a b)) := by
  refine Pure.intro (n := 17) tok Tryz.func96 rfl rfl rfl (Nat.le_of_ble_eq_true rfl) (by kernel_rfl) (fun B F0 w0 => ?_)
  have z := (LQ_dt a b ha hb).2
  have m1 := r50_lower_ok a ha (by omega)
  have m2 := r50_lower_ok b hb (by omega)
  have m3 := r38_Cross_ok a b ha hb (by omega)
  have m4 := r02_Sign_ok (Qr (crs a b)) (k := 4 * k + 1) (Qr_w _ (by omega)) (by omega)
  rw [Qr_val, sgI_num] at m4
  unfold lesR
  generalize lowR a = x at m1 ⊢
  generalize lowR b = y at m2 ⊢
  refine AW.seq ?_
  refine AW.region ?_
  refine AOps.run tok 3 _ _ _ _ rfl ?_
  refine AOps.nil ?_
  refine AW.seq ?_
  refine AW.seq ?_
  refine AW.draw hmix 5 (by kernel_rfl) ?_
  refine APre.run tok 1 _ _ _ _ rfl ?_
  refine APre.call tok rfl rfl rfl rfl rfl m1 ?_
  refine APre.run tok 1 _ _ _ _ rfl ?_
  refine APre.call tok rfl rfl rfl rfl rfl m2 ?_
  refine APre.be tok rfl rfl rfl rfl rfl ?_
  refine APre.nil ?_
  refine AOps.nil ?_
  by_cases hxy : x = y
  · rw [if_neg (fun h => h hxy), show ((x == y) == false) = false by rw [hxy]; cases y <;> rfl]
    refine AW.condF rfl ?_
    refine AW.skip ?_
    refine AW.seq ?_
    refine AW.region ?_
    refine AOps.run tok 2 _ _ _ _ rfl ?_
    refine AOps.call tok rfl rfl rfl rfl m3 ?_
    refine AOps.call tok rfl rfl rfl rfl m4 ?_
    refine AOps.run tok 2 _ _ _ _ rfl ?_
    refine AOps.nil ?_
    exact AW.ret rfl
  rw [if_pos hxy, show ((x == y) == false) = true by cases x <;> cases y <;> first | rfl | exact absurd rfl hxy]
  refine AW.condT rfl ?_
  refine AW.seq ?_
  refine AW.region ?_
  refine AOps.run tok 1 _ _ _ _ rfl ?_
  refine AOps.call tok rfl rfl rfl rfl m2 ?_
  refine AOps.run tok 1 _ _ _ _ rfl ?_
  refine AOps.nil ?_
  exact AW.ret rfl
def allR (f : Nat → Bool) (n : Nat) : Bool := (List.range n).all f
theorem allR_succ (f : Nat → Bool) (n : Nat) : allR f (n + 1) = (allR f n && f n) := by
  unfold allR
  rw [List.range_succ, List.all_append]
  simp
def rS (f : Nat → V2) : Nat → V2
  | 0 => (((1 : Int) : Rat), 0)
  | j + 1 => cmul (barF (f 0)) (f (j + 1))
def lfB (f : Nat → V2) (j : Nat) : Bool := lesR (rS f j) (rS f (j + 1))
def rtB (f : Nat → V2) (j : Nat) : Bool := lesR (barF (rS f j)) (barF (rS f (j + 1)))
def ordR (f : Nat → V2) (n : Nat) : Bool := allR (lfB f) n || allR (rtB f) n
theorem szV_bar (a : V2) : szV (barF a) = szV a := by show max (LQ a.1) (LQ (-a.2)) = max (LQ a.1) (LQ a.2); rw [LQ_neg]
theorem szV_mul {a b : V2} {k : Nat} (ha : szV a ≤ k) (hb : szV b ≤ k) : szV (cmul a b) ≤ 4 * k + 1 := by
  have ha := szV_1 ha
  have hb := szV_1 hb
  have l1 := LQ_mul a.1 b.1
  have l2 := LQ_mul a.2 b.2
  have l3 := LQ_mul a.1 b.2
  have l4 := LQ_mul a.2 b.1
  have l5 := LQ_sub (a.1 * b.1) (a.2 * b.2)
  have l6 := LQ_add (a.1 * b.2) (a.2 * b.1)
  show max (LQ (a.1 * b.1 - a.2 * b.2)) (LQ (a.1 * b.2 + a.2 * b.1)) ≤ _
  omega
theorem szV_rS {f : Nat → V2} {k n : Nat} (h1 : 1 ≤ k) (h : ∀ i, i < n → szV (f i) ≤ k) : ∀ j, j < n → szV (rS f j) ≤ 4 * k + 1
  | 0, _ => by
    have o := LQ_four 1 (by decide)
    show max (LQ ((1 : Int) : Rat)) (LQ 0) ≤ _
    rw [LQ_zero]; omega
  | j + 1, hj => szV_mul (by rw [szV_bar]; exact h 0 (by omega)) (h (j + 1) hj)
theorem VQ10 : (VQ (((1 : Int) : Rat), 0)).D = .ag [dB (Qr ((1 : Int) : Rat)).g, Wd (Qr ((1 : Int) : Rat)).n, Wd (Qr ((1 : Int) : Rat)).d, dB false, .sl 1 [], .sl 1 []] := by
  show D.ag [dB (Qr ((1 : Int) : Rat)).g, Wd (Qr ((1 : Int) : Rat)).n, Wd (Qr ((1 : Int) : Rat)).d, dB (Qr 0).g, Wd (Qr 0).n, Wd (Qr 0).d] = _
  rw [Qr_zero]; rfl
theorem drop_row {α : Type} (g : α → D) (l : List α) : ((l.map g).take (hiN (l.map g).length none)).drop (loN (some 1)) = (l.drop 1).map g := by
  show ((l.map g).take (l.map g).length).drop 1 = _
  rw [List.take_length, List.map_drop]
set_option maxHeartbeats 1600000 in
theorem r50_Ordered_ok (ps : List Po) (d : Dy) {k : Nat} (hsz : szL k ps) (hd : szD d ≤ k) (h1 : 1 ≤ k) (hk : k ≤ 1000) (hl1 : 1 ≤ ps.length) (hl : ps.length ≤ 1000) : Pure Tryz.prog 49 [PsL ps, (DyQ d).D] (dB (ordR (fun j => dirF d (poG ps j)) (ps.length - 1))) := by
  refine Pure.intro (n := 52) tok Tryz.func49 rfl rfl rfl (Nat.le_of_ble_eq_true rfl) (by kernel_rfl) (fun B F0 w0 => ?_)
  have hd' := szD_1 hd
  have gp : ∀ i, i < ps.length → (ps.map (fun p => (PoQ p).D))[i]? = some (PoQ (poG ps i)).D := fun i hi => getPs hi
  have cD : ∀ i, i < ps.length → Pure Tryz.prog 24 [(PoQ (poG ps i)).D, (DyQ d).D] (VQ (dirF d (poG ps i))).D := fun i hi => r50_Direction_ok _ d (hsz i hi) hd h1 hk
  have zD : ∀ i, i < ps.length → szV (dirF d (poG ps i)) ≤ 12 * k + 11 := fun i hi => Nat.le_trans (szV_sub _ _ (szV_app (poG ps i) d.2.1 (hsz i hi) hd'.2.1 h1) hd'.1) (by omega)
  unfold ordR
  generalize hf : (fun j => dirF d (poG ps j)) = f
  have hf : ∀ j, dirF d (poG ps j) = f j := fun j => by rw [← hf]
  simp only [hf] at cD zD
  have zR := szV_rS (f := f) (k := 12 * k + 11) (n := ps.length) (by omega) zD
  have hr1 : ∀ j, rS f (j + 1) = cmul (barF (f 0)) (f (j + 1)) := fun _ => rfl
  have hl1' := fun j => allR_succ (lfB f) j
  have hr1' := fun j => allR_succ (rtB f) j
  have hlB : ∀ j, lfB f j = lesR (rS f j) (rS f (j + 1)) := fun _ => rfl
  have hrB : ∀ j, rtB f j = lesR (barF (rS f j)) (barF (rS f (j + 1))) := fun _ => rfl
  have h0 : rS f 0 = (((1 : Int) : Rat), 0) := rfl
  generalize lfB f = lf at hl1' hlB ⊢
  generalize rtB f = rt at hr1' hrB ⊢
  generalize rS f = r at zR hr1 hlB hrB h0
  have b0 := r38_Bar_ok (f 0) (zD 0 (by omega)) (by omega)
  have zb0 : szV (barF (f 0)) ≤ 12 * k + 11 := by rw [szV_bar]; exact zD 0 (by omega)
  generalize barF (f 0) = fb at b0 zb0 hr1
  have o1 := r02_Of_ok 1 (by decide) (by decide)
  refine AW.seq ?_
  refine AW.region ?_
  refine AOps.run tok 2 _ _ _ _ rfl ?_
  refine AOps.nil ?_
  refine AW.seq ?_
  refine AW.draw hmix 7 (by kernel_rfl) ?_
  refine APre.run tok 1 _ _ _ _ rfl ?_
  refine APre.idx tok (PoQ (poG ps 0)).D rfl rfl rfl rfl rfl (Int.le_refl _) (gp 0 (by omega)) ?_
  refine APre.run tok 2 _ _ _ _ rfl ?_
  refine APre.call tok rfl rfl rfl rfl rfl (cD 0 (by omega)) ?_
  refine APre.call tok rfl rfl rfl rfl rfl b0 ?_
  refine APre.run tok 1 _ _ _ _ rfl ?_
  refine APre.nil ?_
  refine AOps.run tok 1 _ _ _ _ rfl ?_
  refine AOps.nil ?_
  refine AW.seq ?_
  refine AW.region ?_
  refine AOps.run tok 2 _ _ _ _ rfl ?_
  refine AOps.nil ?_
  refine AW.seq ?_
  refine AW.region ?_
  refine AOps.call tok rfl rfl rfl rfl o1 ?_
  refine AOps.run tok 3 _ _ _ _ rfl ?_
  refine AOps.nil ?_
  refine AW.seq ?_
  refine AW.seq ?_
  refine AW.region ?_
  refine AOps.run tok 1 _ _ _ _ rfl ?_
  refine AOps.slc tok rfl rfl rfl rfl (show (0 : Int) ≤ 1 by decide) trivial (show 1 ≤ (ps.map (fun p => (PoQ p).D)).length by rw [List.length_map]; omega) (Nat.le_refl _) ?_
  rw [drop_row]
  refine AOps.run tok 1 _ _ _ _ rfl ?_
  rw [List.length_map, List.length_drop, show ((ps.length - 1 : Nat) : Int) = ((ps.length - 1 : Nat) : Int) from rfl]
  refine AOps.run tok 1 _ _ _ _ rfl ?_
  refine AOps.nil ?_
  refine AW.block ?_
  refine AW.loopS [3, 5, 6, 7, 8, 21, 22, 23] (fun i : Nat => [(3, .bx (DyQ d).D.flat), (5, .bx (VQ fb).D.flat), (6, .d (dB (allR lf i))), (7, .d (dB (allR rt i))), (8, .bx (VQ (r i)).D.flat), (21, .d (.sl 10 ((ps.drop 1).map (fun p => (PoQ p).D)))), (22, .d (dI (ps.length - 1 : Nat))), (23, .d (dI i))]) (fun i => i ≤ ps.length - 1) (fun i => ps.length - 1 - i) 0 (by show _ = ([(3, .bx (DyQ d).D.flat), (5, .bx (VQ fb).D.flat), (6, .d (dB true)), (7, .d (dB true)), (8, .bx (VQ (r 0)).D.flat), (21, .d (.sl 10 ((ps.drop 1).map (fun p => (PoQ p).D)))), (22, .d (dI (ps.length - 1 : Nat))), (23, .d (dI (0 : Nat)))] : St); rw [h0, VQ10]; rfl) (Nat.zero_le _) (fun i hi => ?_)
  refine AW.seq ?_
  refine AW.region ?_
  refine AOps.run tok 1 _ _ _ _ rfl ?_
  refine AOps.nil ?_
  refine AW.seq ?_
  refine AW.cond rfl (fun h => ?_) (fun h => ?_)
  rotate_left
  · have hii : i = ps.length - 1 := by have := of_decide_eq_false h; have : i ≤ ps.length - 1 := hi; omega
    subst hii
    refine AW.exit ?_
    refine AW.seq ?_
    refine AW.region ?_
    refine AOps.run tok 2 _ _ _ _ rfl ?_
    cases allR lf (ps.length - 1) with
    | true =>
      refine AOps.run tok 3 _ _ _ _ rfl ?_
      refine AOps.nil ?_
      exact AW.ret rfl
    | false =>
      refine AOps.run tok 3 _ _ _ _ rfl ?_
      refine AOps.nil ?_
      exact AW.ret rfl
  have hii : i + 1 < ps.length := by have := of_decide_eq_true h; omega
  have hg : ((ps.drop 1).map (fun p => (PoQ p).D))[i]? = some (PoQ (poG ps (i + 1))).D := by
    rw [List.map_drop, List.getElem?_drop, Nat.add_comm]; exact gp (i + 1) hii
  have c1 := cD (i + 1) hii
  have c2 := r38_Times_ok fb (f (i + 1)) (k := 12 * k + 11) zb0 (zD (i + 1) hii) (by omega)
  rw [← hr1] at c2
  have e1 := hl1' i
  have e2 := hr1' i
  rw [hlB] at e1
  rw [hrB] at e2
  have z1 := zR i (by omega)
  have z2 := zR (i + 1) hii
  generalize r i = x at z1 e1 e2 ⊢
  generalize hy : r (i + 1) = y at z2 e1 e2 c2
  have c3 := r50_less_ok x y z1 z2 (by omega)
  have c4 := r38_Bar_ok x z1 (by omega)
  have c5 := r38_Bar_ok y z2 (by omega)
  have c6 := r50_less_ok (barF x) (barF y) (k := 4 * (12 * k + 11) + 1) (by rw [szV_bar]; exact z1) (by rw [szV_bar]; exact z2) (by omega)
  generalize lesR x y = b1 at c3 e1
  generalize lesR (barF x) (barF y) = b2 at c6 e2
  generalize barF x = bx at c4 c6
  generalize barF y = bY at c5 c6
  refine AW.skip ?_
  refine AW.seq ?_
  refine AW.block ?_
  refine AW.seq ?_
  refine AW.region ?_
  refine AOps.idx tok (PoQ (poG ps (i + 1))).D rfl rfl rfl rfl (Int.natCast_nonneg i) hg ?_
  refine AOps.run tok 3 _ _ _ _ rfl ?_
  refine AOps.nil ?_
  refine AW.seq ?_
  refine AW.draw hmix 6 (by kernel_rfl) ?_
  refine APre.run tok 3 _ _ _ _ rfl ?_
  refine APre.call tok rfl rfl rfl rfl rfl c1 ?_
  refine APre.call tok rfl rfl rfl rfl rfl c2 ?_
  refine APre.run tok 1 _ _ _ _ rfl ?_
  refine APre.nil ?_
  refine AOps.run tok 1 _ _ _ _ rfl ?_
  refine AOps.nil ?_
  refine AW.cut [3, 5, 6, 7, 8, 11, 21, 22, 23] (fun _ : Unit => [(3, .bx (DyQ d).D.flat), (5, .bx (VQ fb).D.flat), (6, .d (dB (allR lf (i + 1)))), (7, .d (dB (allR rt i))), (8, .bx (VQ x).D.flat), (11, .bx (VQ y).D.flat), (21, .d (.sl 10 ((ps.drop 1).map (fun p => (PoQ p).D)))), (22, .d (dI (ps.length - 1 : Nat))), (23, .d (dI i))]) (fun _ => True) ?_ (fun _ _ => ?_)
  · rw [e1]
    refine AW.region ?_
    refine AOps.run tok 2 _ _ _ _ rfl ?_
    cases allR lf i with
    | false =>
      refine AOps.run tok 5 _ _ _ _ rfl ?_
      refine AOps.nil ?_
      exact ⟨(), rfl, trivial⟩
    | true =>
      refine AOps.run tok 2 _ _ _ _ rfl ?_
      refine AOps.call tok rfl rfl rfl rfl c3 ?_
      refine AOps.run tok 2 _ _ _ _ rfl ?_
      refine AOps.nil ?_
      exact ⟨(), rfl, trivial⟩
  show AW _ _ _ _ _ _ _ [(3, .bx (DyQ d).D.flat), (5, .bx (VQ fb).D.flat), (6, .d (dB (allR lf (i + 1)))), (7, .d (dB (allR rt i))), (8, .bx (VQ x).D.flat), (11, .bx (VQ y).D.flat), (21, .d (.sl 10 ((ps.drop 1).map (fun p => (PoQ p).D)))), (22, .d (dI (ps.length - 1 : Nat))), (23, .d (dI i))]
  refine AW.cut [3, 5, 6, 7, 8, 11, 21, 22, 23] (fun _ : Unit => [(3, .bx (DyQ d).D.flat), (5, .bx (VQ fb).D.flat), (6, .d (dB (allR lf (i + 1)))), (7, .d (dB (allR rt (i + 1)))), (8, .bx (VQ x).D.flat), (11, .bx (VQ y).D.flat), (21, .d (.sl 10 ((ps.drop 1).map (fun p => (PoQ p).D)))), (22, .d (dI (ps.length - 1 : Nat))), (23, .d (dI i))]) (fun _ => True) ?_ (fun _ _ => ?_)
  · rw [e2]
    cases hb : allR rt i with
    | false =>
      refine AW.draw hmix 8 (by kernel_rfl) ?_
      refine APre.run tok 8 _ _ _ _ rfl ?_
      refine APre.nil ?_
      refine AOps.run tok 1 _ _ _ _ rfl ?_
      refine AOps.nil ?_
      exact ⟨(), rfl, trivial⟩
    | true =>
      refine AW.draw hmix 8 (by kernel_rfl) ?_
      refine APre.run tok 3 _ _ _ _ rfl ?_
      refine APre.call tok rfl rfl rfl rfl rfl c4 ?_
      refine APre.run tok 1 _ _ _ _ rfl ?_
      refine APre.call tok rfl rfl rfl rfl rfl c5 ?_
      refine APre.call tok rfl rfl rfl rfl rfl c6 ?_
      refine APre.run tok 1 _ _ _ _ rfl ?_
      refine APre.nil ?_
      refine AOps.run tok 1 _ _ _ _ rfl ?_
      refine AOps.nil ?_
      exact ⟨(), rfl, trivial⟩
  show AW _ _ _ _ _ _ _ [(3, .bx (DyQ d).D.flat), (5, .bx (VQ fb).D.flat), (6, .d (dB (allR lf (i + 1)))), (7, .d (dB (allR rt (i + 1)))), (8, .bx (VQ x).D.flat), (11, .bx (VQ y).D.flat), (21, .d (.sl 10 ((ps.drop 1).map (fun p => (PoQ p).D)))), (22, .d (dI (ps.length - 1 : Nat))), (23, .d (dI i))]
  refine AW.region ?_
  refine AOps.run tok 2 _ _ _ _ rfl ?_
  refine AOps.nil ?_
  refine AW.region ?_
  refine AOps.run tok 1 _ _ _ _ rfl ?_
  rw [wI64 (x := (i : Int) + 1) (by omega) (by omega)]
  refine AOps.run tok 1 _ _ _ _ rfl ?_
  refine AOps.nil ?_
  exact ⟨i + 1, by show _ = ([(3, .bx (DyQ d).D.flat), (5, .bx (VQ fb).D.flat), (6, .d (dB (allR lf (i + 1)))), (7, .d (dB (allR rt (i + 1)))), (8, .bx (VQ (r (i + 1))).D.flat), (21, .d (.sl 10 ((ps.drop 1).map (fun p => (PoQ p).D)))), (22, .d (dI (ps.length - 1 : Nat))), (23, .d (dI (i + 1 : Nat)))] : St); rw [hy]; rfl, by omega, by omega⟩
end Lift
namespace Lift
open Go Go.Proofs
def unR (ps : List Po) (d : Dy) (i : Nat) : Bool := btwU (dirF d (poG ps i)) (dirF d (poG ps (i + 1)))
def ciR (ps : List Po) (d e : Dy) (i : Nat) : Bool := !betR (barO d e) (dirF d (poG ps i)) (dirF d (poG ps (i + 1)))
def rptR (ps : List Po) (d e : Dy) : D := if anyR (unR ps d) (ps.length - 1) = true then .tu [DfD false false false, dI 15] else .tu [DfD (anyR (brB (ps.map (sgnF d e))) ps.length) (!ordR (fun j => dirF d (poG ps j)) (ps.length - 1)) (anyR (ciR ps d e) (ps.length - 1)), dI 0]
set_option maxHeartbeats 1600000 in
theorem r50_Report_ok (ps : List Po) (d e : Dy) {k : Nat} (hsz : szL k ps) (hd : szD d ≤ k) (he : szD e ≤ k) (hp : 0 < prodF (barO d e)) (hl1 : 1 ≤ ps.length) (hl : ps.length ≤ 1000) (h1 : 1 ≤ k) (hk : k ≤ 20) : Pure Tryz.prog 18 [PsL ps, (DyQ d).D, (DyQ e).D] (rptR ps d e) := by
  refine Pure.intro (n := 72) tok Tryz.func18 rfl rfl rfl (Nat.le_of_ble_eq_true rfl) (by kernel_rfl) (fun B F0 w0 => ?_)
  have cO := r50_Ordered_ok ps d hsz hd h1 (by omega) hl1 hl
  have cS := r50_Signs_ok ps d e hsz hd he (by omega) h1 (by omega)
  have hsl : (ps.map (sgnF d e)).length = ps.length := List.length_map ..
  have cB : ∀ i : Nat, i + 1 < ps.length → Pure Tryz.prog 23 [PsL ps, (DyQ d).D, (DyQ e).D, dI i] (if unR ps d i = true then .tu [dB false, dI 15] else .tu [dB (!ciR ps d e i), dI 0]) := fun i hi => by
    have c := r50_Between_ok ps d e (i : Int) hsz hd he hp hl h1 hk (by omega) (by omega)
    unfold betweenR at c
    rw [if_neg (by omega), show ((i : Int)).toNat = i from rfl] at c
    unfold unR ciR
    rw [Bool.not_not]
    exact c
  unfold rptR
  generalize ordR (fun j => dirF d (poG ps j)) (ps.length - 1) = o at cO ⊢
  generalize unR ps d = un at cB ⊢
  generalize ciR ps d e = ci at cB ⊢
  generalize ps.map (sgnF d e) = sg at cS hsl ⊢
  have gs : ∀ i, i < ps.length → (sg.map (fun n => dI n))[i]? = some (dI (sg.getD i 0)) := fun i hi => getI (by omega)
  have hbr : ∀ i, brB sg i = (decide (sg.getD i 0 = 0) || decide (sg.getD i 0 ≠ sg.getD 0 0)) := fun _ => rfl
  generalize brB sg = br at hbr ⊢
  refine AW.seq ?_
  refine AW.region ?_
  refine AOps.run tok 4 _ _ _ _ rfl ?_
  refine AOps.nil ?_
  refine AW.seq ?_
  refine AW.region ?_
  refine AOps.run tok 2 _ _ _ _ rfl ?_
  refine AOps.call tok rfl rfl rfl rfl cO ?_
  refine AOps.run tok 4 _ _ _ _ rfl ?_
  refine AOps.nil ?_
  refine AW.seq ?_
  refine AW.seq ?_
  refine AW.region ?_
  refine AOps.run tok 2 _ _ _ _ rfl ?_
  rw [List.length_map]
  refine AOps.run tok 1 _ _ _ _ rfl ?_
  rw [wI64 (x := (ps.length : Int) - 1) (by omega) (by omega), show (ps.length : Int) - 1 = ((ps.length - 1 : Nat) : Int) by omega]
  refine AOps.run tok 1 _ _ _ _ rfl ?_
  refine AOps.nil ?_
  refine AW.block ?_
  refine AW.loopS [0, 4, 5, 6, 8, 22, 23] (fun i : Nat => [(0, .d (PsL ps)), (4, .bx (DyQ d).D.flat), (5, .bx (DyQ e).D.flat), (6, .bx [dB false, dB false, dB false]), (8, .bx [dB false, dB (!o), dB (anyR ci i)]), (22, .d (dI (ps.length - 1 : Nat))), (23, .d (dI i))]) (fun i => i ≤ ps.length - 1 ∧ anyR un i = false) (fun i => ps.length - 1 - i) 0 rfl ⟨Nat.zero_le _, rfl⟩ (fun i ⟨hi, hU⟩ => ?_)
  refine AW.seq ?_
  refine AW.region ?_
  refine AOps.run tok 1 _ _ _ _ rfl ?_
  refine AOps.nil ?_
  refine AW.seq ?_
  refine AW.cond rfl (fun h => ?_) (fun h => ?_)
  rotate_left
  · have hii : i = ps.length - 1 := by have := of_decide_eq_false h; omega
    subst hii
    rw [if_neg (by rw [hU]; simp)]
    refine AW.exit ?_
    refine AW.seq ?_
    refine AW.region ?_
    refine AOps.run tok 3 _ _ _ _ rfl ?_
    refine AOps.call tok rfl rfl rfl rfl cS ?_
    refine AOps.run tok 1 _ _ _ _ rfl ?_
    refine AOps.nil ?_
    refine AW.seq ?_
    refine AW.seq ?_
    refine AW.region ?_
    refine AOps.run tok 2 _ _ _ _ rfl ?_
    rw [List.length_map, hsl]
    refine AOps.run tok 1 _ _ _ _ rfl ?_
    refine AOps.nil ?_
    refine AW.block ?_
    refine AW.loopS [6, 8, 12, 50, 51, 52] (fun i : Nat => [(6, .bx [dB false, dB false, dB false]), (8, .bx [dB (anyR br i), dB (!o), dB (anyR ci (ps.length - 1))]), (12, .d (IsD sg)), (50, .d (IsD sg)), (51, .d (dI ps.length)), (52, .d (dI i))]) (fun i => i ≤ ps.length) (fun i => ps.length - i) 0 rfl (Nat.zero_le _) (fun i hi => ?_)
    refine AW.seq ?_
    refine AW.region ?_
    refine AOps.run tok 1 _ _ _ _ rfl ?_
    refine AOps.nil ?_
    refine AW.seq ?_
    refine AW.cond rfl (fun h => ?_) (fun h => ?_)
    rotate_left
    · have hii : i = ps.length := by have := of_decide_eq_false h; have : i ≤ ps.length := hi; omega
      subst hii
      refine AW.exit ?_
      refine AW.seq ?_
      refine AW.region ?_
      refine AOps.run tok 3 _ _ _ _ rfl ?_
      refine AOps.nil ?_
      exact AW.ret rfl
    have hii : i < ps.length := by have := of_decide_eq_true h; omega
    have g0 := gs i hii
    have g00 := gs 0 (by omega)
    have hbi := hbr i
    have hbs := anyR_succ br i
    refine AW.skip ?_
    refine AW.seq ?_
    refine AW.block ?_
    refine AW.seq ?_
    refine AW.region ?_
    refine AOps.idx tok (dI (sg.getD i 0)) rfl rfl rfl rfl (Int.natCast_nonneg i) g0 ?_
    refine AOps.run tok 2 _ _ _ _ rfl ?_
    refine AOps.nil ?_
    generalize sg.getD i 0 = s at hbi
    generalize sg.getD 0 0 = s0 at hbi g00
    have fin : ∀ (x : Bool) , anyR br (i + 1) = x → (([(6, .bx [dB false, dB false, dB false]), (8, .bx [dB x, dB (!o), dB (anyR ci (ps.length - 1))]), (12, .d (IsD sg)), (50, .d (IsD sg)), (51, .d (dI ps.length)), (52, .d (dI (i + 1 : Nat)))] : St) = ([(6, .bx [dB false, dB false, dB false]), (8, .bx [dB (anyR br (i + 1)), dB (!o), dB (anyR ci (ps.length - 1))]), (12, .d (IsD sg)), (50, .d (IsD sg)), (51, .d (dI ps.length)), (52, .d (dI (i + 1 : Nat)))] : St)) := fun x h => by rw [h]
    rw [hbi] at hbs
    refine AW.region ?_
    refine AOps.run tok 3 _ _ _ _ rfl ?_
    cases hab : anyR br i with
    | true =>
      rw [hab] at hbs
      refine AOps.run tok 12 _ _ _ _ rfl ?_
      refine AOps.nil ?_
      refine AW.region ?_
      refine AOps.run tok 1 _ _ _ _ rfl ?_
      rw [wI64 (x := (i : Int) + 1) (by omega) (by omega)]
      refine AOps.run tok 1 _ _ _ _ rfl ?_
      refine AOps.nil ?_
      exact ⟨i + 1, fin _ hbs, hii, by omega⟩
    | false =>
    rw [hab] at hbs
    refine AOps.run tok 2 _ _ _ _ rfl ?_
    by_cases h0 : s = 0
    · rw [beq_iff_eq.2 h0]
      rw [decide_eq_true h0] at hbs
      refine AOps.run tok 10 _ _ _ _ rfl ?_
      refine AOps.nil ?_
      refine AW.region ?_
      refine AOps.run tok 1 _ _ _ _ rfl ?_
      rw [wI64 (x := (i : Int) + 1) (by omega) (by omega)]
      refine AOps.run tok 1 _ _ _ _ rfl ?_
      refine AOps.nil ?_
      exact ⟨i + 1, fin _ hbs, hii, by omega⟩
    rw [beq_eq_false_iff_ne.2 h0]
    rw [decide_eq_false h0] at hbs
    refine AOps.run tok 4 _ _ _ _ rfl ?_
    refine AOps.idx tok (dI s0) rfl rfl rfl rfl (Int.le_refl _) g00 ?_
    refine AOps.run tok 2 _ _ _ _ rfl ?_
    by_cases h2 : s = s0
    · rw [bne_eq_false_iff_eq.2 h2]
      rw [decide_eq_false (fun h => h h2)] at hbs
      refine AOps.run tok 3 _ _ _ _ rfl ?_
      refine AOps.nil ?_
      refine AW.region ?_
      refine AOps.run tok 1 _ _ _ _ rfl ?_
      rw [wI64 (x := (i : Int) + 1) (by omega) (by omega)]
      refine AOps.run tok 1 _ _ _ _ rfl ?_
      refine AOps.nil ?_
      exact ⟨i + 1, fin _ hbs, hii, by omega⟩
    · rw [bne_iff_ne.2 h2]
      rw [decide_eq_true h2] at hbs
      refine AOps.run tok 3 _ _ _ _ rfl ?_
      refine AOps.nil ?_
      refine AW.region ?_
      refine AOps.run tok 1 _ _ _ _ rfl ?_
      rw [wI64 (x := (i : Int) + 1) (by omega) (by omega)]
      refine AOps.run tok 1 _ _ _ _ rfl ?_
      refine AOps.nil ?_
      exact ⟨i + 1, fin _ hbs, hii, by omega⟩
  have hii : i + 1 < ps.length := by have := of_decide_eq_true h; omega
  have cb := cB i hii
  have hcs := anyR_succ ci i
  have hus := anyR_succ un i
  refine AW.skip ?_
  refine AW.seq ?_
  refine AW.block ?_
  refine AW.seq ?_
  refine AW.region ?_
  refine AOps.run tok 2 _ _ _ _ rfl ?_
  refine AOps.nil ?_
  refine AW.seq ?_
  refine AW.region ?_
  refine AOps.run tok 4 _ _ _ _ rfl ?_
  cases hbu : un i with
  | true =>
    rw [hbu, if_pos rfl] at cb
    rw [if_pos (anyR_in (i := i) (by omega) hbu)]
    refine AOps.call tok rfl rfl rfl rfl cb ?_
    refine AOps.run tok 5 _ _ _ _ rfl ?_
    refine AOps.nil ?_
    refine AW.seq ?_
    refine AW.seq ?_
    refine AW.region ?_
    refine AOps.run tok 2 _ _ _ _ rfl ?_
    refine AOps.nil ?_
    refine AW.condT rfl ?_
    refine AW.seq ?_
    refine AW.region ?_
    refine AOps.run tok 4 _ _ _ _ rfl ?_
    refine AOps.nil ?_
    exact AW.ret rfl
  | false =>
  rw [hbu, if_neg (by simp)] at cb
  rw [hbu, hU] at hus
  refine AOps.call tok rfl rfl rfl rfl cb ?_
  generalize ci i = c at hcs
  refine AOps.run tok 5 _ _ _ _ rfl ?_
  refine AOps.nil ?_
  refine AW.seq ?_
  refine AW.seq ?_
  refine AW.region ?_
  refine AOps.run tok 2 _ _ _ _ rfl ?_
  refine AOps.nil ?_
  refine AW.condF rfl ?_
  refine AW.skip ?_
  refine AW.region ?_
  refine AOps.run tok 3 _ _ _ _ rfl ?_
  cases hca : anyR ci i with
  | true =>
    rw [hca] at hcs
    refine AOps.run tok 5 _ _ _ _ rfl ?_
    refine AOps.nil ?_
    refine AW.region ?_
    refine AOps.run tok 1 _ _ _ _ rfl ?_
    rw [wI64 (x := (i : Int) + 1) (by omega) (by omega)]
    refine AOps.run tok 1 _ _ _ _ rfl ?_
    refine AOps.nil ?_
    refine ⟨i + 1, ?_, ⟨by omega, hus⟩, by omega⟩
    show _ = ([(0, .d (PsL ps)), (4, .bx (DyQ d).D.flat), (5, .bx (DyQ e).D.flat), (6, .bx [dB false, dB false, dB false]), (8, .bx [dB false, dB (!o), dB (anyR ci (i + 1))]), (22, .d (dI (ps.length - 1 : Nat))), (23, .d (dI (i + 1 : Nat)))] : St)
    rw [hcs]; rfl
  | false =>
    rw [hca] at hcs
    refine AOps.run tok 2 _ _ _ _ rfl ?_
    rw [Bool.not_not]
    refine AOps.run tok 3 _ _ _ _ rfl ?_
    refine AOps.nil ?_
    refine AW.region ?_
    refine AOps.run tok 1 _ _ _ _ rfl ?_
    rw [wI64 (x := (i : Int) + 1) (by omega) (by omega)]
    refine AOps.run tok 1 _ _ _ _ rfl ?_
    refine AOps.nil ?_
    refine ⟨i + 1, ?_, ⟨by omega, hus⟩, by omega⟩
    show _ = ([(0, .d (PsL ps)), (4, .bx (DyQ d).D.flat), (5, .bx (DyQ e).D.flat), (6, .bx [dB false, dB false, dB false]), (8, .bx [dB false, dB (!o), dB (anyR ci (i + 1))]), (22, .d (dI (ps.length - 1 : Nat))), (23, .d (dI (i + 1 : Nat)))] : St)
    rw [hcs]; rfl
end Lift
namespace Lift
theorem half_01 (u v : V2) : halfF u v = 0 ∨ halfF u v = 1 := by
  unfold halfF
  split
  · exact .inl rfl
  · exact .inr rfl
theorem low_half {u v : V2} {r : V2} (hu : 0 < dt u u) (hv : 0 < dt v v) (h1 : sgQ r.1 = sgQ (dt u v)) (h2 : sgQ r.2 = sgQ (crs u v)) : lowR r = decide (halfF u v = 1) := by
  have hn : ¬ (dt u v = 0 ∧ crs u v = 0) := fun h => by
    have l := lagr u v
    have := Rat.mul_pos hu hv
    rw [h.1, h.2] at l
    grind
  have hn : ¬ (sgQ (dt u v) = 0 ∧ sgQ (crs u v) = 0) := fun h => hn ⟨sgQ_zero.1 h.1, sgQ_zero.1 h.2⟩
  unfold lowR halfF
  rw [h1, h2]
  generalize sgQ (dt u v) = x at hn
  generalize sgQ (crs u v) = y at hn
  by_cases c : 0 < y ∨ (y = 0 ∧ 0 < x)
  · rw [if_pos c, decide_eq_false (show ¬ y < 0 by omega)]
    by_cases c2 : y = 0
    · rw [decide_eq_false (show ¬ x < 0 by omega), Bool.and_false]; rfl
    · rw [decide_eq_false c2]; rfl
  · rw [if_neg c]
    by_cases c2 : y < 0
    · rw [decide_eq_true c2]; rfl
    · rw [decide_eq_false c2, decide_eq_true (show y = 0 by omega), decide_eq_true (show x < 0 by omega)]; rfl
theorem les_eq {u v w r s : V2} (hr : lowR r = decide (halfF u v = 1)) (hs : lowR s = decide (halfF u w = 1)) (hc : 0 < sgQ (crs r s) ↔ 0 < sgQ (crs v w)) : lessF u v w = lesR r s := by
  have hd : decide (0 < sgQ (crs r s)) = decide (0 < sgQ (crs v w)) := decide_eq_decide.2 hc
  unfold lessF lesR
  rw [hr, hs, hd]
  rcases half_01 u v with e | e <;> rcases half_01 u w with e' | e' <;> rw [e, e'] <;> simp
structure Turned (u v r : V2) : Prop where
  nz : 0 < dt v v
  s1 : sgQ r.1 = sgQ (dt u v)
  s2 : sgQ r.2 = sgQ (crs u v)
theorem turned_cmul {u v : V2} (hv : 0 < dt v v) : Turned u v (cmul (barF u) v) := ⟨hv, by
    have : (cmul (barF u) v).1 = dt u v := by show u.1 * v.1 - -u.2 * v.2 = u.1 * v.1 + u.2 * v.2; grind
    rw [this], by
    have : (cmul (barF u) v).2 = crs u v := by show u.1 * v.2 + -u.2 * v.1 = u.1 * v.2 - u.2 * v.1; grind
    rw [this]⟩
theorem turned_one {u : V2} (hu : 0 < dt u u) : Turned u u (((1 : Int) : Rat), 0) := ⟨hu, by
    rw [sgQ_one hu, sgQ_one (show (0 : Rat) < ((1 : Int) : Rat) by decide)], by
    have : crs u u = 0 := by unfold crs; grind
    rw [this]⟩
theorem Turned.bar {u v r : V2} (h : Turned u v r) : Turned (barF u) (barF v) (barF r) := ⟨by
    have : dt (barF v) (barF v) = dt v v := by unfold dt barF; grind
    rw [this]; exact h.nz, by
    have : dt (barF u) (barF v) = dt u v := by unfold dt barF; grind
    rw [this]; exact h.s1, by
    have : crs (barF u) (barF v) = -crs u v := by unfold crs barF; grind
    rw [this, sgQ_negate, ← h.s2]
    show sgQ (-r.2) = _
    rw [sgQ_negate]⟩
theorem rS_turned {f : Nat → V2} {n : Nat} (h : ∀ j, j < n → 0 < dt (f j) (f j)) : ∀ j, j < n → Turned (f 0) (f j) (rS f j)
  | 0, hj => turned_one (h 0 hj)
  | j + 1, hj => turned_cmul (h (j + 1) hj)
theorem rS_crs {f : Nat → V2} (h0 : 0 < dt (f 0) (f 0)) : ∀ j, 0 < sgQ (crs (rS f j) (rS f (j + 1))) ↔ 0 < sgQ (crs (f j) (f (j + 1)))
  | 0 => by
    have : crs (rS f 0) (rS f 1) = crs (f 0) (f 1) := by
      show ((1 : Int) : Rat) * ((f 0).1 * (f 1).2 + -(f 0).2 * (f 1).1) - 0 * _ = (f 0).1 * (f 1).2 - (f 0).2 * (f 1).1
      rw [show ((1 : Int) : Rat) = 1 from rfl]; grind
    rw [this]
  | j + 1 => by
    have : crs (rS f (j + 1)) (rS f (j + 2)) = dt (f 0) (f 0) * crs (f (j + 1)) (f (j + 2)) := by
      show ((f 0).1 * (f (j + 1)).1 - -(f 0).2 * (f (j + 1)).2) * ((f 0).1 * (f (j + 2)).2 + -(f 0).2 * (f (j + 2)).1) - ((f 0).1 * (f (j + 1)).2 + -(f 0).2 * (f (j + 1)).1) * ((f 0).1 * (f (j + 2)).1 - -(f 0).2 * (f (j + 2)).2) = ((f 0).1 * (f 0).1 + (f 0).2 * (f 0).2) * ((f (j + 1)).1 * (f (j + 2)).2 - (f (j + 1)).2 * (f (j + 2)).1)
      grind
    rw [this, sgQ_mul, sgQ_one h0, Int.one_mul]
theorem crs_bar (a b : V2) : crs (barF a) (barF b) = -crs a b := by unfold crs barF; grind
theorem dt_bar (a b : V2) : dt (barF a) (barF b) = dt a b := by unfold dt barF; grind
theorem less_left {f : Nat → V2} {n : Nat} (h : ∀ j, j < n → 0 < dt (f j) (f j)) {j : Nat} (hj : j + 1 < n) : lessF (f 0) (f j) (f (j + 1)) = lfB f j := by
  have h0 := h 0 (by omega)
  have t1 := rS_turned h j (by omega)
  have t2 := rS_turned h (j + 1) hj
  exact les_eq (low_half h0 t1.nz t1.s1 t1.s2) (low_half h0 t2.nz t2.s1 t2.s2) (rS_crs h0 j)
theorem less_right {f : Nat → V2} {n : Nat} (h : ∀ j, j < n → 0 < dt (f j) (f j)) {j : Nat} (hj : j + 1 < n) : lessF (barF (f 0)) (barF (f j)) (barF (f (j + 1))) = rtB f j := by
  have h0 := h 0 (by omega)
  have h0' : 0 < dt (barF (f 0)) (barF (f 0)) := by rw [dt_bar]; exact h0
  have t1 := (rS_turned h j (by omega)).bar
  have t2 := (rS_turned h (j + 1) hj).bar
  have c : 0 < sgQ (crs (barF (rS f j)) (barF (rS f (j + 1)))) ↔ 0 < sgQ (crs (barF (f j)) (barF (f (j + 1)))) := by
    rw [crs_bar, crs_bar]
    match j with
    | 0 =>
      have : crs (rS f 0) (rS f 1) = crs (f 0) (f 1) := by
        show ((1 : Int) : Rat) * ((f 0).1 * (f 1).2 + -(f 0).2 * (f 1).1) - 0 * _ = (f 0).1 * (f 1).2 - (f 0).2 * (f 1).1
        rw [show ((1 : Int) : Rat) = 1 from rfl]; grind
      rw [this]
    | j + 1 =>
      have : crs (rS f (j + 1)) (rS f (j + 2)) = dt (f 0) (f 0) * crs (f (j + 1)) (f (j + 2)) := by
        show ((f 0).1 * (f (j + 1)).1 - -(f 0).2 * (f (j + 1)).2) * ((f 0).1 * (f (j + 2)).2 + -(f 0).2 * (f (j + 2)).1) - ((f 0).1 * (f (j + 1)).2 + -(f 0).2 * (f (j + 1)).1) * ((f 0).1 * (f (j + 2)).1 - -(f 0).2 * (f (j + 2)).2) = ((f 0).1 * (f 0).1 + (f 0).2 * (f 0).2) * ((f (j + 1)).1 * (f (j + 2)).2 - (f (j + 1)).2 * (f (j + 2)).1)
        grind
      rw [this, sgQ_negate, sgQ_negate, sgQ_mul, sgQ_one h0, Int.one_mul]
  exact les_eq (low_half h0' t1.nz t1.s1 t1.s2) (low_half h0' t2.nz t2.s1 t2.s2) c
theorem asc_all (l : List V2) : ascF l = allR (fun i => lessF (l.getD 0 (0, 0)) (l.getD i (0, 0)) (l.getD (i + 1) (0, 0))) (l.length - 1) := by
  match l with
  | [] => rfl
  | u :: r => rfl
theorem allR_congr {f g : Nat → Bool} {n : Nat} (h : ∀ i, i < n → f i = g i) : allR f n = allR g n := by
  induction n with
  | zero => rfl
  | succ n ih => rw [allR_succ, allR_succ, ih (fun i hi => h i (by omega)), h n (by omega)]
theorem anyR_congr {f g : Nat → Bool} {n : Nat} (h : ∀ i, i < n → f i = g i) : anyR f n = anyR g n := by
  induction n with
  | zero => rfl
  | succ n ih => rw [anyR_succ, anyR_succ, ih (fun i hi => h i (by omega)), h n (by omega)]
theorem mirF_get {l : List V2} {i : Nat} (hi : i < l.length) : (mirF l).getD i (0, 0) = barF (l.getD i (0, 0)) := by
  unfold mirF
  rw [List.getD_eq_getElem?_getD, List.getElem?_map, List.getD_eq_getElem?_getD, List.getElem?_eq_getElem hi]; rfl
theorem order_eq {l : List V2} {f : Nat → V2} (hl : 1 ≤ l.length) (hf : ∀ j, j < l.length → l.getD j (0, 0) = f j) (h : ∀ j, j < l.length → 0 < dt (f j) (f j)) : orderF l = !ordR f (l.length - 1) := by
  unfold orderF ordR
  have e1 : ascF l = allR (lfB f) (l.length - 1) := by
    rw [asc_all]
    refine allR_congr fun i hi => ?_
    rw [hf 0 (by omega), hf i (by omega), hf (i + 1) (by omega), less_left h (by omega)]
  have e2 : ascF (mirF l) = allR (rtB f) (l.length - 1) := by
    rw [asc_all, mirF_len]
    refine allR_congr fun i hi => ?_
    rw [mirF_get (by omega), mirF_get (by omega), mirF_get (by omega), hf 0 (by omega), hf i (by omega), hf (i + 1) (by omega), less_right h (by omega)]
  rw [e1, e2, Bool.not_or]
end Lift
namespace Lift
open Go Go.Proofs
theorem u_len (ps : List Po) (d e : Dy) : (rdB ps d e).u.length = ps.length := List.length_map ..
theorem sg_len (ps : List Po) (d e : Dy) : (rdB ps d e).sg.length = ps.length := List.length_map ..
theorem rpt_parts {ps : List Po} {d e : Dy} (g : Good ps d e) : anyR (unB (rdB ps d e)) ((rdB ps d e).u.length - 1) = anyR (unR ps d) (ps.length - 1) ∧ orderF (rdB ps d e).u = (!ordR (fun j => dirF d (poG ps j)) (ps.length - 1)) ∧ anyR (ciB (rdB ps d e)) ((rdB ps d e).u.length - 1) = anyR (ciR ps d e) (ps.length - 1) := by
  have l2 := g.l2
  rw [u_len]
  refine ⟨anyR_congr fun i hi => ?_, ?_, anyR_congr fun i hi => ?_⟩
  · unfold unB unR
    rw [u_get _ _ _ (by omega), u_get _ _ _ (by omega)]
  · have := order_eq (l := (rdB ps d e).u) (f := fun j => dirF d (poG ps j)) (by rw [u_len]; omega) (fun j hj => u_get ps d e (by rw [u_len] at hj; exact hj)) (fun j hj => by
      rw [u_len] at hj
      show 0 < dt (dirF d (poG ps j)) (dirF d (poG ps j))
      rw [pas_dir g.pd hj]; exact g.ap)
    rw [u_len] at this
    exact this
  · unfold ciB ciR
    rw [u_get _ _ _ (by omega), u_get _ _ _ (by omega), g.btw (by omega)]
set_option maxHeartbeats 800000 in
theorem law50_Reports_ok (l : List PoD) (d e : DyD) (h : ok50 l d e) : Pure Tryz.prog 4 [PoL l, FourD d e] (dB true) := by
  refine Pure.intro (n := 63) tok Tryz.func4 rfl rfl rfl (Nat.le_of_ble_eq_true rfl) (by kernel_rfl) (fun B F0 w0 => ?_)
  have cA := law50_awake_ok
  have cS := law50_short_ok l d e h.1
  refine AW.seq ?_
  refine AW.region ?_
  refine AOps.run tok 2 _ _ _ _ rfl ?_
  refine AOps.nil ?_
  refine AW.seq ?_
  refine AW.seq ?_
  refine AW.region ?_
  refine AOps.call tok rfl rfl rfl rfl cA ?_
  refine AOps.run tok 4 _ _ _ _ rfl ?_
  refine AOps.call tok rfl rfl rfl rfl cS ?_
  refine AOps.run tok 2 _ _ _ _ rfl ?_
  refine AOps.nil ?_
  cases hs : shortB l d e with
  | false =>
    refine AW.condT rfl ?_
    refine AW.seq ?_
    refine AW.region ?_
    refine AOps.call tok rfl rfl rfl rfl cA ?_
    refine AOps.run tok 1 _ _ _ _ rfl ?_
    refine AOps.nil ?_
    exact AW.ret rfl
  | true =>
  obtain ⟨hl, hw, hd, he⟩ := short_w h hs
  have c1 := defects_Report_ok l d e (by omega) hw hd he (by decide) (by decide)
  have c2 := r50_Check_ok l d e (by omega) hw hd he (by decide) (by decide)
  refine AW.condF rfl ?_
  refine AW.skip ?_
  by_cases hc : chkD l d e = 0
  rotate_left
  · unfold reportD at c1
    rw [if_pos hc] at c1
    have cN := base_Num_ok (chkD l d e)
    generalize chkD l d e = m at c1 c2 cN hc
    refine AW.seq ?_
    refine AW.region ?_
    refine AOps.run tok 5 _ _ _ _ rfl ?_
    refine AOps.call tok rfl rfl rfl rfl c1 ?_
    refine AOps.run tok 6 _ _ _ _ rfl ?_
    refine AOps.nil ?_
    refine AW.seq ?_
    refine AW.seq ?_
    refine AW.region ?_
    refine AOps.run tok 5 _ _ _ _ rfl ?_
    refine AOps.call tok rfl rfl rfl rfl c2 ?_
    refine AOps.run tok 1 _ _ _ _ rfl ?_
    refine AOps.nil ?_
    refine AW.seq ?_
    refine AW.region ?_
    refine AOps.run tok 2 _ _ _ _ rfl ?_
    refine AOps.nil ?_
    rw [bne_iff_ne.2 (show (m : Int) ≠ 0 by omega)]
    refine AW.condT rfl ?_
    refine AW.seq ?_
    refine AW.region ?_
    refine AOps.run tok 2 _ _ _ _ rfl ?_
    refine AOps.se3 tok rfl rfl rfl rfl (by kernel_rfl) ?_
    refine AOps.run tok 2 _ _ _ _ rfl ?_
    refine AOps.call tok rfl rfl rfl rfl cN ?_
    refine AOps.run tok 2 _ _ _ _ rfl ?_
    rw [beq_iff_eq.2 rfl]
    refine AOps.run tok 2 _ _ _ _ rfl ?_
    refine AOps.nil ?_
    exact AW.ret rfl
  have G := chk_good hc
  obtain ⟨q1, q2, q3⟩ := ok_canon hw hd he hc
  have hml : (l.map PoD.val).length = l.length := List.length_map ..
  have l2 := G.l2
  have c3 := r50_Report_ok (l.map PoD.val) d.val e.val (k := 6) (szL_val hw (by decide)) (szD_val hd (by decide)) (szD_val he (by decide)) G.prod (by omega) (by omega) (by decide) (by decide)
  rw [← PoL_q, ← q1, ← q2, ← q3] at c3
  obtain ⟨x, y, z, m, e1, e2⟩ : ∃ (x y z : Bool) (m : Nat), reportD l d e = .tu [DfD x y z, erV m] ∧ rptR (l.map PoD.val) d.val e.val = .tu [DfD x y z, dI m] := by
    obtain ⟨p1, p2, p3⟩ := rpt_parts G
    unfold reportD rptD rptR
    rw [if_neg (by rw [hc]; simp), p1, p2, p3, sg_len]
    by_cases hu : anyR (unR (l.map PoD.val) d.val) ((l.map PoD.val).length - 1) = true
    · rw [if_pos hu, if_pos hu]; exact ⟨false, false, false, 15, rfl, rfl⟩
    · rw [if_neg hu, if_neg hu]; exact ⟨_, _, _, 0, rfl, rfl⟩
  rw [e1] at c1
  rw [e2] at c3
  rw [hc] at c2
  have cN := base_Num_ok m
  refine AW.seq ?_
  refine AW.region ?_
  refine AOps.run tok 5 _ _ _ _ rfl ?_
  refine AOps.call tok rfl rfl rfl rfl c1 ?_
  refine AOps.run tok 6 _ _ _ _ rfl ?_
  refine AOps.nil ?_
  refine AW.seq ?_
  refine AW.seq ?_
  refine AW.region ?_
  refine AOps.run tok 5 _ _ _ _ rfl ?_
  refine AOps.call tok rfl rfl rfl rfl c2 ?_
  refine AOps.run tok 1 _ _ _ _ rfl ?_
  refine AOps.nil ?_
  refine AW.seq ?_
  refine AW.region ?_
  refine AOps.run tok 2 _ _ _ _ rfl ?_
  refine AOps.nil ?_
  refine AW.condF rfl ?_
  refine AW.skip ?_
  refine AW.seq ?_
  refine AW.region ?_
  refine AOps.run tok 5 _ _ _ _ rfl ?_
  refine AOps.call tok rfl rfl rfl rfl c3 ?_
  refine AOps.run tok 6 _ _ _ _ rfl ?_
  refine AOps.nil ?_
  refine AW.seq ?_
  refine AW.region ?_
  refine AOps.run tok 2 _ _ _ _ rfl ?_
  refine AOps.se3 tok rfl rfl rfl rfl (by kernel_rfl) ?_
  rw [show (((x, y, z) == (x, y, z)) == true) = true by cases x <;> cases y <;> cases z <;> rfl]
  refine AOps.run tok 2 _ _ _ _ rfl ?_
  refine AOps.call tok rfl rfl rfl rfl cN ?_
  refine AOps.run tok 2 _ _ _ _ rfl ?_
  rw [beq_iff_eq.2 rfl]
  refine AOps.run tok 2 _ _ _ _ rfl ?_
  refine AOps.nil ?_
  exact AW.ret rfl
end Lift
