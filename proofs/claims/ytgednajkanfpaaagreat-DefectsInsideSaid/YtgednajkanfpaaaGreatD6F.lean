/- Parts of the proof, one behind the other: the logic, the contracts of the functions that the statement reaches. -/
import Derived.Test.YtgednajkanfpaaaGreatD6E
import Derived.OpenShut
set_option linter.unusedVariables false
set_option linter.unusedSimpArgs false
namespace Lift
open Go Go.Proofs
def PoD.rs (p : PoD) : List RD := [p.t.t, p.l.x, p.l.y]
def shP (p : PoD) : Bool := p.rs.all (shR 2)
def short17 (l : List PoD) : Bool := l.all shP
theorem short17_no {l : List PoD} {i : Nat} (hi : i < l.length) (h : shP (l.getD i default) = false) : short17 l = false := by
  unfold short17
  rw [List.all_eq_false]
  exact ⟨l.getD i default, by rw [List.getD_eq_getElem?_getD, List.getElem?_eq_getElem hi]; exact List.getElem_mem hi, by rw [h]; simp⟩
theorem short17_yes {l : List PoD} (h : ∀ i, i < l.length → shP (l.getD i default) = true) : short17 l = true := by
  unfold short17
  rw [List.all_eq_true]
  intro x hx
  obtain ⟨i, hi, rfl⟩ := List.mem_iff_getElem.1 hx
  have := h i hi
  rwa [List.getD_eq_getElem?_getD, List.getElem?_eq_getElem hi] at this
set_option maxHeartbeats 1600000 in
theorem r17_Short_ok (l : List PoD) (hl : l.length ≤ 4611686018427387904) : Pure Tryz.prog 33 [PoL l] (dB (short17 l)) := by
  refine Pure.intro (n := 40) tok Tryz.func33 rfl rfl rfl (Nat.le_of_ble_eq_true rfl) (by kernel_rfl) (fun B F0 w0 => ?_)
  have hno := fun i hi => short17_no (l := l) (i := i) hi
  have hyes := short17_yes (l := l)
  generalize short17 l = E at hno hyes ⊢
  refine AW.seq ?_
  refine AW.region ?_
  refine AOps.run tok 1 _ _ _ _ rfl ?_
  refine AOps.nil ?_
  refine AW.seq ?_
  refine AW.seq ?_
  refine AW.region ?_
  refine AOps.run tok 2 _ _ _ _ rfl ?_
  rw [List.length_map]
  refine AOps.run tok 1 _ _ _ _ rfl ?_
  refine AOps.nil ?_
  refine AW.block ?_
  refine AW.loopS [7, 8, 9] (fun i : Nat => [(7, .d (PoL l)), (8, .d (dI l.length)), (9, .d (dI i))]) (fun i => i ≤ l.length ∧ ∀ j, j < i → shP (l.getD j default) = true) (fun i => l.length - i) 0 rfl ⟨Nat.zero_le _, fun j h => by omega⟩ (fun i ⟨hi, hI⟩ => ?_)
  refine AW.seq ?_
  refine AW.region ?_
  refine AOps.run tok 1 _ _ _ _ rfl ?_
  refine AOps.nil ?_
  refine AW.seq ?_
  refine AW.cond rfl (fun h => ?_) (fun h => ?_)
  rotate_left
  · have hii : ¬ i < l.length := by have := of_decide_eq_false h; omega
    rw [hyes (fun j hj => hI j (by omega))]
    refine AW.exit ?_
    refine AW.seq ?_
    refine AW.region ?_
    refine AOps.run tok 1 _ _ _ _ rfl ?_
    refine AOps.nil ?_
    exact AW.ret rfl
  have hii : i < l.length := by have := of_decide_eq_true h; omega
  have hg := getM PoD.D (l := l) (i := i) hii
  have hnoi := hno i hii
  have hsP : shP (l.getD i default) = (l.getD i default).rs.all (shR 2) := rfl
  have hrs : ∀ p : PoD, p.rs.map RD.D = [p.t.t.D, p.l.x.D, p.l.y.D] := fun _ => rfl
  have hrl : ∀ p : PoD, p.rs.length = 3 := fun _ => rfl
  have hg0 := fun j hj => getM RD.D (l := (l.getD i default).rs) (i := j) hj
  have hn2 := fun j hj => all_noS (l := (l.getD i default).rs) (m := 2) (i := j) hj
  have hy2 := all_yesS (l := (l.getD i default).rs) (m := 2)
  rw [hrs] at hg0
  have hrl := hrl (l.getD i default)
  obtain ⟨p, hp⟩ : ∃ p, p = l.getD i default := ⟨_, rfl⟩
  rw [← hp] at hg hnoi hsP hg0 hn2 hy2 hrl
  rw [hsP] at hnoi
  generalize p.rs.all (shR 2) = e at hnoi hsP hn2 hy2
  generalize p.rs = L at hg0 hn2 hy2 hrl
  obtain ⟨⟨t, hf⟩, ⟨x, y⟩⟩ := p
  refine AW.skip ?_
  refine AW.seq ?_
  refine AW.block ?_
  refine AW.seq ?_
  refine AW.region ?_
  refine AOps.idx tok (PoD.mk ⟨t, hf⟩ ⟨x, y⟩).D rfl rfl rfl rfl (Int.natCast_nonneg i) hg ?_
  refine AOps.run tok 3 _ _ _ _ rfl ?_
  refine AOps.nil ?_
  refine AW.seq ?_
  refine AW.region ?_
  refine AOps.run tok 9 _ _ _ _ rfl ?_
  refine AOps.bsd tok rfl rfl rfl rfl rfl ?_
  refine AOps.run tok 2 _ _ _ _ rfl ?_
  refine AOps.nil ?_
  refine AW.block ?_
  refine AW.loopS [7, 8, 9, 22, 23, 24] (fun j : Nat => [(7, .d (PoL l)), (8, .d (dI l.length)), (9, .d (dI i)), (22, .d (.sl 3 [t.D, x.D, y.D])), (23, .d (dI 3)), (24, .d (dI j))]) (fun j => j ≤ 3 ∧ ∀ m, m < j → shR 2 (L.getD m default) = true) (fun j => 3 - j) 0 rfl ⟨Nat.zero_le _, fun m h => by omega⟩ (fun j ⟨hj, hJ⟩ => ?_)
  refine AW.seq ?_
  refine AW.region ?_
  refine AOps.run tok 1 _ _ _ _ rfl ?_
  refine AOps.nil ?_
  refine AW.seq ?_
  refine AW.cond rfl (fun h2 => ?_) (fun h2 => ?_)
  rotate_left
  · have hjj : j = 3 := by have := of_decide_eq_false h2; omega
    subst hjj
    have he := hy2 (fun m hm => hJ m (by omega))
    refine AW.exit ?_
    refine AW.region ?_
    refine AOps.run tok 1 _ _ _ _ rfl ?_
    rw [wI64 (x := (i : Int) + 1) (by omega) (by omega)]
    refine AOps.run tok 1 _ _ _ _ rfl ?_
    refine AOps.nil ?_
    refine ⟨i + 1, rfl, ⟨hii, fun m hm => ?_⟩, by omega⟩
    by_cases e1 : m = i
    · rw [e1, ← hp, hsP, he]
    · exact hI m (by omega)
  have hjj : j < 3 := by have := of_decide_eq_true h2; omega
  have hg2 := hg0 j (by omega)
  have hn2 := hn2 j (by omega)
  have hsh : shR 2 (L.getD j default) = (decide ((L.getD j default).n.length ≤ 2) && decide ((L.getD j default).d.length ≤ 2)) := rfl
  obtain ⟨q, hq⟩ : ∃ q, q = L.getD j default := ⟨_, rfl⟩
  rw [← hq] at hg2 hn2 hsh
  obtain ⟨qg, qn, qd⟩ := q
  simp only [] at hsh
  refine AW.skip ?_
  refine AW.seq ?_
  refine AW.block ?_
  refine AW.seq ?_
  refine AW.region ?_
  refine AOps.idx tok (RD.mk qg qn qd).D rfl rfl rfl rfl (Int.natCast_nonneg j) hg2 ?_
  refine AOps.run tok 3 _ _ _ _ rfl ?_
  refine AOps.nil ?_
  refine AW.seq ?_
  refine AW.region ?_
  refine AOps.run tok 3 _ _ _ _ rfl ?_
  rw [lenWd]
  refine AOps.run tok 2 _ _ _ _ rfl ?_
  by_cases h1 : qn.length ≤ 2
  rotate_left
  · rw [decide_eq_true (show (2 : Int) < (qn.length : Int) by omega)]
    rw [decide_eq_false h1] at hsh
    rw [hnoi (hn2 hsh)]
    refine AOps.run tok 5 _ _ _ _ rfl ?_
    refine AOps.nil ?_
    refine AW.condT rfl ?_
    refine AW.seq ?_
    refine AW.region ?_
    refine AOps.run tok 1 _ _ _ _ rfl ?_
    refine AOps.nil ?_
    exact AW.ret rfl
  rw [decide_eq_false (show ¬ (2 : Int) < (qn.length : Int) by omega)]
  refine AOps.run tok 3 _ _ _ _ rfl ?_
  rw [lenWd]
  refine AOps.run tok 1 _ _ _ _ rfl ?_
  by_cases h3 : qd.length ≤ 2
  rotate_left
  · rw [decide_eq_true (show (2 : Int) < (qd.length : Int) by omega)]
    rw [decide_eq_false h3, Bool.and_false] at hsh
    rw [hnoi (hn2 hsh)]
    refine AOps.run tok 1 _ _ _ _ rfl ?_
    refine AOps.nil ?_
    refine AW.condT rfl ?_
    refine AW.seq ?_
    refine AW.region ?_
    refine AOps.run tok 1 _ _ _ _ rfl ?_
    refine AOps.nil ?_
    exact AW.ret rfl
  rw [decide_eq_false (show ¬ (2 : Int) < (qd.length : Int) by omega)]
  refine AOps.run tok 1 _ _ _ _ rfl ?_
  refine AOps.nil ?_
  refine AW.condF rfl ?_
  refine AW.skip ?_
  refine AW.region ?_
  refine AOps.run tok 1 _ _ _ _ rfl ?_
  rw [wI64 (x := (j : Int) + 1) (by omega) (by omega)]
  refine AOps.run tok 1 _ _ _ _ rfl ?_
  refine AOps.nil ?_
  refine ⟨j + 1, rfl, ⟨hjj, fun m hm => ?_⟩, by omega⟩
  by_cases e1 : m = j
  · rw [e1, ← hq]; show (decide (qn.length ≤ 2) && decide (qd.length ≤ 2)) = true; rw [decide_eq_true h1, decide_eq_true h3]; rfl
  · exact hJ m (by omega)
end Lift
namespace Lift
open Go Go.Proofs
def exL : List PoD := [PoQ (some 0, (0, 0)), PoQ (some 0, (((1 : Int) : Rat), ((1 : Int) : Rat))), PoQ (some 0, (((2 : Int) : Rat), ((0 : Int) : Rat)))]
def exA : DyD := DyQ ((((1 : Int) : Rat), ((0 : Int) : Rat)), (0, 0), ((1 : Int) : Rat))
def exB : DyD := DyQ ((((5 : Int) : Rat), ((0 : Int) : Rat)), (((4 : Int) : Rat), ((0 : Int) : Rat)), ((1 : Int) : Rat))
theorem ex_chk : chkD exL exA exB = 0 := by decide +kernel
theorem ex_sg : (exL.map PoD.val).map (sgnF exA.val exB.val) = [0, -1, 0] := by decide +kernel
theorem ex_un : anyR (unB (rdB (exL.map PoD.val) exA.val exB.val)) ((rdB (exL.map PoD.val) exA.val exB.val).u.length - 1) = false := by decide +kernel
theorem ex_br : anyR (brB (rdB (exL.map PoD.val) exA.val exB.val).sg) (rdB (exL.map PoD.val) exA.val exB.val).sg.length = true := by decide +kernel
theorem ex_or : orderF (rdB (exL.map PoD.val) exA.val exB.val).u = false := by decide +kernel
theorem ex_ci : anyR (ciB (rdB (exL.map PoD.val) exA.val exB.val)) ((rdB (exL.map PoD.val) exA.val exB.val).u.length - 1) = true := by decide +kernel
theorem exL_D : PoL exL = .sl 10 [.ag [dB false, .sl 1 [], .sl 1 [], dB false, dB false, .sl 1 [], .sl 1 [], dB false, .sl 1 [], .sl 1 []], .ag [dB false, .sl 1 [], .sl 1 [], dB false, dB (Qr ((1 : Int) : Rat)).g, Wd (Qr ((1 : Int) : Rat)).n, Wd (Qr ((1 : Int) : Rat)).d, dB (Qr ((1 : Int) : Rat)).g, Wd (Qr ((1 : Int) : Rat)).n, Wd (Qr ((1 : Int) : Rat)).d], .ag [dB false, .sl 1 [], .sl 1 [], dB false, dB (Qr ((2 : Int) : Rat)).g, Wd (Qr ((2 : Int) : Rat)).n, Wd (Qr ((2 : Int) : Rat)).d, dB (Qr ((0 : Int) : Rat)).g, Wd (Qr ((0 : Int) : Rat)).n, Wd (Qr ((0 : Int) : Rat)).d]] := by
  show D.sl 10 [.ag [dB (Qr 0).g, Wd (Qr 0).n, Wd (Qr 0).d, dB false, dB (Qr 0).g, Wd (Qr 0).n, Wd (Qr 0).d, dB (Qr 0).g, Wd (Qr 0).n, Wd (Qr 0).d], .ag [dB (Qr 0).g, Wd (Qr 0).n, Wd (Qr 0).d, dB false, dB (Qr ((1 : Int) : Rat)).g, Wd (Qr ((1 : Int) : Rat)).n, Wd (Qr ((1 : Int) : Rat)).d, dB (Qr ((1 : Int) : Rat)).g, Wd (Qr ((1 : Int) : Rat)).n, Wd (Qr ((1 : Int) : Rat)).d], .ag [dB (Qr 0).g, Wd (Qr 0).n, Wd (Qr 0).d, dB false, dB (Qr ((2 : Int) : Rat)).g, Wd (Qr ((2 : Int) : Rat)).n, Wd (Qr ((2 : Int) : Rat)).d, dB (Qr ((0 : Int) : Rat)).g, Wd (Qr ((0 : Int) : Rat)).n, Wd (Qr ((0 : Int) : Rat)).d]] = _
  rw [Qr_zero]; rfl
theorem exA_D : exA.D = .ag [dB (Qr ((1 : Int) : Rat)).g, Wd (Qr ((1 : Int) : Rat)).n, Wd (Qr ((1 : Int) : Rat)).d, dB (Qr ((0 : Int) : Rat)).g, Wd (Qr ((0 : Int) : Rat)).n, Wd (Qr ((0 : Int) : Rat)).d, dB false, .sl 1 [], .sl 1 [], dB false, .sl 1 [], .sl 1 [], dB (Qr ((1 : Int) : Rat)).g, Wd (Qr ((1 : Int) : Rat)).n, Wd (Qr ((1 : Int) : Rat)).d] := by
  show D.ag [dB (Qr ((1 : Int) : Rat)).g, Wd (Qr ((1 : Int) : Rat)).n, Wd (Qr ((1 : Int) : Rat)).d, dB (Qr ((0 : Int) : Rat)).g, Wd (Qr ((0 : Int) : Rat)).n, Wd (Qr ((0 : Int) : Rat)).d, dB (Qr 0).g, Wd (Qr 0).n, Wd (Qr 0).d, dB (Qr 0).g, Wd (Qr 0).n, Wd (Qr 0).d, dB (Qr ((1 : Int) : Rat)).g, Wd (Qr ((1 : Int) : Rat)).n, Wd (Qr ((1 : Int) : Rat)).d] = _
  rw [Qr_zero]; rfl
abbrev ExD : D := .tu [PoL exL, exA.D, exB.D]
theorem law50_Example_ok : Pure Tryz.prog 37 [] ExD := by
  refine Pure.intro (n := 18) tok Tryz.func37 rfl rfl rfl (Nat.le_of_ble_eq_true rfl) (by kernel_rfl) (fun B F0 w0 => ?_)
  have o1 := r02_Of_ok 1 (by decide) (by decide)
  have c1 := law50_of_ok 1 1 (by decide) (by decide)
  have c2 := law50_of_ok 2 0 (by decide) (by decide)
  have c3 := law50_of_ok 1 0 (by decide) (by decide)
  have c4 := law50_of_ok 5 0 (by decide) (by decide)
  have c5 := law50_of_ok 4 0 (by decide) (by decide)
  refine AW.seq ?_
  refine AW.region ?_
  refine AOps.run tok 3 _ _ _ _ rfl ?_
  refine AOps.nil ?_
  refine AW.seq ?_
  refine AW.region ?_
  refine AOps.call tok rfl rfl rfl rfl o1 ?_
  refine AOps.run tok 2 _ _ _ _ rfl ?_
  refine AOps.nil ?_
  refine AW.seq ?_
  refine AW.draw3 tok hmix [(11, true), (2, false), (1, true)] 14 [1, 2] (by kernel_rfl) ⟨rfl, ?_⟩
  refine APre.run tok 1 _ _ _ _ rfl ?_
  refine APre.call tok rfl rfl rfl rfl rfl c1 ?_
  refine APre.run tok 1 _ _ _ _ rfl ?_
  refine APre.call tok rfl rfl rfl rfl rfl c2 ?_
  refine APre.run tok 1 _ _ _ _ rfl ?_
  refine APre.bsd tok rfl rfl rfl rfl rfl rfl ?_
  refine APre.call tok rfl rfl rfl rfl rfl c3 ?_
  refine APre.run tok 2 _ _ _ _ rfl ?_
  refine APre.call tok rfl rfl rfl rfl rfl c4 ?_
  refine APre.call tok rfl rfl rfl rfl rfl c5 ?_
  refine APre.nil ⟨rfl, ?_⟩
  refine APre.run tok 2 _ _ _ _ rfl ?_
  refine APre.nil ⟨rfl, ?_⟩
  refine APre.run tok 1 _ _ _ _ rfl ?_
  refine APre.nil ⟨_, StL.cons (.bx rfl) (StL.cons (.bx rfl) (StL.nil)), ?_⟩
  refine AOps.nil ?_
  unfold ExD
  rw [exL_D, exA_D]
  exact AW.ret rfl
end Lift
namespace Lift
open Go Go.Proofs
theorem LQ_i (n : Int) (h : -100 ≤ n ∧ n ≤ 100) : LQ (n : Rat) ≤ 2 := by
  have h1 := LQ_of n
  have h2 : L n ≤ 2 := L_le (by omega)
  omega
theorem exL_w : ∀ i, i < exL.length → (exL.getD i default).w 2 := fun i hi => by
  have z : LQ 0 ≤ 2 := by rw [LQ_zero]; decide
  have i0 := LQ_i 0 (by decide)
  have i1 := LQ_i 1 (by decide)
  have i2 := LQ_i 2 (by decide)
  have hi : i < 3 := hi
  rcases i with _ | _ | _ | i
  · exact ⟨Qr_w _ z, Qr_w _ z, Qr_w _ z⟩
  · exact ⟨Qr_w _ z, Qr_w _ i1, Qr_w _ i1⟩
  · exact ⟨Qr_w _ z, Qr_w _ i2, Qr_w _ i0⟩
  · omega
theorem exA_w : exA.w 2 := by
  have z : LQ 0 ≤ 2 := by rw [LQ_zero]; decide
  exact ⟨⟨Qr_w _ (LQ_i 1 (by decide)), Qr_w _ (LQ_i 0 (by decide))⟩, ⟨Qr_w _ z, Qr_w _ z⟩, Qr_w _ (LQ_i 1 (by decide))⟩
theorem exB_w : exB.w 2 := ⟨⟨Qr_w _ (LQ_i 5 (by decide)), Qr_w _ (LQ_i 0 (by decide))⟩, ⟨Qr_w _ (LQ_i 4 (by decide)), Qr_w _ (LQ_i 0 (by decide))⟩, Qr_w _ (LQ_i 1 (by decide))⟩
theorem ex_Signs : signsD exL exA exB = .tu [IsD [0, -1, 0], nilE] := by
  unfold signsD
  rw [if_pos ex_chk, ex_sg]
theorem ex_Report : reportD exL exA exB = .tu [DfD true false true, nilE] := by
  unfold reportD rptD
  rw [if_neg (by rw [ex_chk]; simp), ex_un, ex_br, ex_or, ex_ci, if_neg (by simp)]
theorem law50_awake_ok : Pure Tryz.prog 10 [] (dB true) := by
  refine Pure.intro (n := 43) tok Tryz.func10 rfl rfl rfl (Nat.le_of_ble_eq_true rfl) (by kernel_rfl) (fun B F0 w0 => ?_)
  have cE := law50_Example_ok
  have cS := defects_Signs_ok exL exA exB (k := 2) (show 3 ≤ 1000000 by decide) exL_w exA_w exB_w (by decide) (by decide)
  have cR := defects_Report_ok exL exA exB (k := 2) (show 3 ≤ 1000000 by decide) exL_w exA_w exB_w (by decide) (by decide)
  rw [ex_Signs] at cS
  rw [ex_Report] at cR
  have cI := base_Ints_ok [0, -1, 0] [0, -1, 0] (show 3 ≤ 1000000 by decide)
  rw [decide_eq_true rfl] at cI
  unfold ExD at cE
  generalize exL = l at cE cS cR
  generalize exA = d at cE cS cR
  generalize exB = e at cE cS cR
  refine AW.seq ?_
  refine AW.region ?_
  refine AOps.run tok 1 _ _ _ _ rfl ?_
  refine AOps.nil ?_
  refine AW.seq ?_
  refine AW.region ?_
  refine AOps.call tok rfl rfl rfl rfl cE ?_
  refine AOps.run tok 9 _ _ _ _ rfl ?_
  refine AOps.nil ?_
  refine AW.seq ?_
  refine AW.region ?_
  refine AOps.run tok 3 _ _ _ _ rfl ?_
  refine AOps.call tok rfl rfl rfl rfl cS ?_
  refine AOps.run tok 5 _ _ _ _ rfl ?_
  refine AOps.nil ?_
  refine AW.seq ?_
  refine AW.region ?_
  refine AOps.run tok 3 _ _ _ _ rfl ?_
  refine AOps.call tok rfl rfl rfl rfl cR ?_
  refine AOps.run tok 6 _ _ _ _ rfl ?_
  refine AOps.nil ?_
  refine AW.seq ?_
  refine AW.region ?_
  refine AOps.run tok 1 _ _ _ _ rfl ?_
  refine AOps.err tok rfl rfl rfl rfl rfl ?_
  refine AOps.run tok 2 _ _ _ _ rfl ?_
  refine AOps.err tok rfl rfl rfl rfl rfl ?_
  refine AOps.run tok 3 _ _ _ _ rfl ?_
  refine AOps.bsd tok rfl rfl rfl rfl rfl ?_
  refine AOps.call tok rfl rfl rfl rfl cI ?_
  refine AOps.run tok 4 _ _ _ _ rfl ?_
  refine AOps.se3 tok rfl rfl rfl rfl (by kernel_rfl) ?_
  refine AOps.run tok 2 _ _ _ _ rfl ?_
  refine AOps.nil ?_
  exact AW.ret rfl
abbrev FourD (d e : DyD) : D := .ag (d.D.flat ++ e.D.flat)
def shortB (l : List PoD) (d e : DyD) : Bool := decide (l.length ≤ 20) && (short17 l && (briefB d && briefB e))
theorem law50_short_ok (l : List PoD) (d e : DyD) (hl : l.length ≤ 4611686018427387904) : Pure Tryz.prog 11 [PoL l, FourD d e] (dB (shortB l d e)) := by
  refine Pure.intro (n := 22) tok Tryz.func11 rfl rfl rfl (Nat.le_of_ble_eq_true rfl) (by kernel_rfl) (fun B F0 w0 => ?_)
  have c1 := r17_Short_ok l hl
  have c2 := law50_brief_ok d
  have c3 := law50_brief_ok e
  unfold shortB
  generalize short17 l = s at c1 ⊢
  generalize briefB d = b1 at c2 ⊢
  generalize briefB e = b2 at c3 ⊢
  refine AW.seq ?_
  refine AW.region ?_
  refine AOps.run tok 2 _ _ _ _ rfl ?_
  refine AOps.nil ?_
  refine AW.seq ?_
  refine AW.region ?_
  refine AOps.run tok 2 _ _ _ _ rfl ?_
  rw [List.length_map]
  refine AOps.run tok 2 _ _ _ _ rfl ?_
  by_cases h : l.length ≤ 20
  rotate_left
  · rw [decide_eq_false h, decide_eq_false (show ¬ (l.length : Int) ≤ 20 by omega)]
    refine AOps.run tok 14 _ _ _ _ rfl ?_
    refine AOps.nil ?_
    exact AW.ret rfl
  rw [decide_eq_true h, decide_eq_true (show (l.length : Int) ≤ 20 by omega)]
  refine AOps.run tok 1 _ _ _ _ rfl ?_
  refine AOps.call tok rfl rfl rfl rfl c1 ?_
  refine AOps.run tok 2 _ _ _ _ rfl ?_
  cases s with
  | false =>
    refine AOps.run tok 10 _ _ _ _ rfl ?_
    refine AOps.nil ?_
    exact AW.ret rfl
  | true =>
  refine AOps.run tok 2 _ _ _ _ rfl ?_
  refine AOps.call tok rfl rfl rfl rfl c2 ?_
  refine AOps.run tok 2 _ _ _ _ rfl ?_
  cases b1 with
  | false =>
    refine AOps.run tok 5 _ _ _ _ rfl ?_
    refine AOps.nil ?_
    exact AW.ret rfl
  | true =>
  refine AOps.run tok 2 _ _ _ _ rfl ?_
  refine AOps.call tok rfl rfl rfl rfl c3 ?_
  refine AOps.run tok 2 _ _ _ _ rfl ?_
  refine AOps.nil ?_
  exact AW.ret rfl
end Lift
namespace Lift
open Go Go.Proofs
theorem r02_Div_ok (r s : RD) {k : Nat} (hr : r.w k) (hs : s.w k) (hk : k ≤ 20000000) (h0 : s.val ≠ 0) : Pure Tryz.prog 175 [r.D, s.D] (.tu [(Qr (r.val / s.val)).D, dI 0]) := by
  refine Pure.intro (n := 29) tok Tryz.func175 rfl rfl rfl (Nat.le_of_ble_eq_true rfl) (by kernel_rfl) (fun B F0 w0 => ?_)
  have hl := LQ_val (hr.mono (Nat.le_max_left k 1)) (Nat.le_max_right k 1)
  have hm := LQ_val (hs.mono (Nat.le_max_left k 1)) (Nat.le_max_right k 1)
  have := Lnum r.val; have := Lden r.val; have := Lnum s.val; have := Lden s.val
  obtain ⟨d1, d2, d3⟩ := div_sz hl hm h0
  rw [← div_divInt r.val s.val h0]
  refine AW.seq ?_
  refine AW.region ?_
  refine AOps.run tok 4 _ _ _ _ rfl ?_
  refine AOps.nil ?_
  refine AW.seq ?_
  refine AW.region ?_
  refine AOps.run tok 1 _ _ _ _ rfl ?_
  refine AOps.call tok rfl rfl rfl rfl (r02_Parts_ok r hr (by omega)) ?_
  refine AOps.run tok 7 _ _ _ _ rfl ?_
  refine AOps.nil ?_
  refine AW.seq ?_
  refine AW.region ?_
  refine AOps.run tok 1 _ _ _ _ rfl ?_
  refine AOps.call tok rfl rfl rfl rfl (r02_Parts_ok s hs (by omega)) ?_
  refine AOps.run tok 7 _ _ _ _ rfl ?_
  refine AOps.nil ?_
  refine AW.seq ?_
  refine AW.draw hmix 9 (by kernel_rfl) ?_
  refine APre.run tok 2 _ _ _ _ rfl ?_
  refine APre.call tok rfl rfl rfl rfl rfl (r01_Mul_ok r.val.num s.val.den (by omega) (by omega)) ?_
  refine APre.run tok 2 _ _ _ _ rfl ?_
  refine APre.call tok rfl rfl rfl rfl rfl (r01_Mul_ok r.val.den s.val.num (by omega) (by omega)) ?_
  refine APre.call tok rfl rfl rfl rfl rfl (r02_From_ok (r.val.num * s.val.den) (r.val.den * s.val.num) (by omega) (by omega) d3) ?_
  refine APre.run tok 2 _ _ _ _ rfl ?_
  refine APre.nil ?_
  refine AOps.run tok 2 _ _ _ _ rfl ?_
  refine AOps.nil ?_
  exact AW.ret rfl
theorem r17_over_ok (r s : RD) {k : Nat} (hr : r.w k) (hs : s.w k) (hk : k ≤ 20000000) (h0 : s.val ≠ 0) : Pure Tryz.prog 159 [r.D, s.D] (Qr (r.val / s.val)).D := by
  refine Pure.intro (n := 14) tok Tryz.func159 rfl rfl rfl (Nat.le_of_ble_eq_true rfl) (by kernel_rfl) (fun B F0 w0 => ?_)
  have c := r02_Div_ok r s hr hs hk h0
  generalize Qr (r.val / s.val) = q at c ⊢
  refine AW.seq ?_
  refine AW.region ?_
  refine AOps.run tok 3 _ _ _ _ rfl ?_
  refine AOps.nil ?_
  refine AW.seq ?_
  refine AW.region ?_
  refine AOps.run tok 2 _ _ _ _ rfl ?_
  refine AOps.call tok rfl rfl rfl rfl c ?_
  refine AOps.run tok 6 _ _ _ _ rfl ?_
  refine AOps.nil ?_
  refine AW.seq ?_
  refine AW.region ?_
  refine AOps.run tok 2 _ _ _ _ rfl ?_
  refine AOps.nil ?_
  exact AW.ret rfl
theorem r17_Plus_ok (a b : V2) {k : Nat} (ha : szV a ≤ k) (hb : szV b ≤ k) (hk : k ≤ 1000000) : Pure Tryz.prog 86 [(VQ a).D, (VQ b).D] (VQ (vadd a b)).D := by
  refine Pure.intro (n := 16) tok Tryz.func86 rfl rfl rfl (Nat.le_of_ble_eq_true rfl) (by kernel_rfl) (fun B F0 w0 => ?_)
  have ha := szV_1 ha
  have hb := szV_1 hb
  have m1 := r02_Add_ok (Qr a.1) (Qr b.1) (k := k) (Qr_w _ (by omega)) (Qr_w _ (by omega)) (by omega)
  have m2 := r02_Add_ok (Qr a.2) (Qr b.2) (k := k) (Qr_w _ (by omega)) (Qr_w _ (by omega)) (by omega)
  simp only [Qr_val] at m1 m2
  refine AW.seq ?_
  refine AW.region ?_
  refine AOps.run tok 3 _ _ _ _ rfl ?_
  refine AOps.nil ?_
  refine AW.seq ?_
  refine AW.draw hmix 11 (by kernel_rfl) ?_
  refine APre.run tok 4 _ _ _ _ rfl ?_
  refine APre.call tok rfl rfl rfl rfl rfl m1 ?_
  refine APre.run tok 4 _ _ _ _ rfl ?_
  refine APre.call tok rfl rfl rfl rfl rfl m2 ?_
  refine APre.run tok 1 _ _ _ _ rfl ?_
  refine APre.nil ?_
  refine AOps.run tok 1 _ _ _ _ rfl ?_
  refine AOps.nil ?_
  exact AW.ret rfl
theorem r17_Less_ok (a b : V2) {k : Nat} (ha : szV a ≤ k) (hb : szV b ≤ k) (hk : k ≤ 1000000) : Pure Tryz.prog 45 [(VQ a).D, (VQ b).D] (VQ (vsub a b)).D := by
  refine Pure.intro (n := 16) tok Tryz.func45 rfl rfl rfl (Nat.le_of_ble_eq_true rfl) (by kernel_rfl) (fun B F0 w0 => ?_)
  have ha := szV_1 ha
  have hb := szV_1 hb
  have m1 := r02_Sub_ok (Qr a.1) (Qr b.1) (k := k) (Qr_w _ (by omega)) (Qr_w _ (by omega)) (by omega)
  have m2 := r02_Sub_ok (Qr a.2) (Qr b.2) (k := k) (Qr_w _ (by omega)) (Qr_w _ (by omega)) (by omega)
  simp only [Qr_val] at m1 m2
  refine AW.seq ?_
  refine AW.region ?_
  refine AOps.run tok 3 _ _ _ _ rfl ?_
  refine AOps.nil ?_
  refine AW.seq ?_
  refine AW.draw hmix 11 (by kernel_rfl) ?_
  refine APre.run tok 4 _ _ _ _ rfl ?_
  refine APre.call tok rfl rfl rfl rfl rfl m1 ?_
  refine APre.run tok 4 _ _ _ _ rfl ?_
  refine APre.call tok rfl rfl rfl rfl rfl m2 ?_
  refine APre.run tok 1 _ _ _ _ rfl ?_
  refine APre.nil ?_
  refine AOps.run tok 1 _ _ _ _ rfl ?_
  refine AOps.nil ?_
  exact AW.ret rfl
theorem r17_Square_ok (a : V2) {k : Nat} (ha : szV a ≤ k) (hk : k ≤ 1000000) : Pure Tryz.prog 68 [(VQ a).D] (Qr (dt a a)).D := by
  refine Pure.intro (n := 14) tok Tryz.func68 rfl rfl rfl (Nat.le_of_ble_eq_true rfl) (by kernel_rfl) (fun B F0 w0 => ?_)
  have ha := szV_1 ha
  have l1 := LQ_mul a.1 a.1
  have l2 := LQ_mul a.2 a.2
  have m1 := r02_Mul_ok (Qr a.1) (Qr a.1) (k := k) (Qr_w _ (by omega)) (Qr_w _ (by omega)) (by omega)
  have m2 := r02_Mul_ok (Qr a.2) (Qr a.2) (k := k) (Qr_w _ (by omega)) (Qr_w _ (by omega)) (by omega)
  have m3 := r02_Add_ok (Qr (a.1 * a.1)) (Qr (a.2 * a.2)) (k := 2 * k) (Qr_w _ (by omega)) (Qr_w _ (by omega)) (by omega)
  simp only [Qr_val] at m1 m2 m3
  refine AW.seq ?_
  refine AW.region ?_
  refine AOps.run tok 2 _ _ _ _ rfl ?_
  refine AOps.nil ?_
  refine AW.seq ?_
  refine AW.draw hmix 11 (by kernel_rfl) ?_
  refine APre.run tok 4 _ _ _ _ rfl ?_
  refine APre.call tok rfl rfl rfl rfl rfl m1 ?_
  refine APre.run tok 4 _ _ _ _ rfl ?_
  refine APre.call tok rfl rfl rfl rfl rfl m2 ?_
  refine APre.call tok rfl rfl rfl rfl rfl m3 ?_
  refine APre.nil ?_
  refine AOps.run tok 1 _ _ _ _ rfl ?_
  refine AOps.nil ?_
  exact AW.ret rfl
theorem r38_Cross_ok (a b : V2) {k : Nat} (ha : szV a ≤ k) (hb : szV b ≤ k) (hk : k ≤ 1000000) : Pure Tryz.prog 26 [(VQ a).D, (VQ b).D] (Qr (crs a b)).D := by
  refine Pure.intro (n := 16) tok Tryz.func26 rfl rfl rfl (Nat.le_of_ble_eq_true rfl) (by kernel_rfl) (fun B F0 w0 => ?_)
  have ha := szV_1 ha
  have hb := szV_1 hb
  have l1 := LQ_mul a.1 b.2
  have l2 := LQ_mul a.2 b.1
  have m1 := r02_Mul_ok (Qr a.1) (Qr b.2) (k := k) (Qr_w _ (by omega)) (Qr_w _ (by omega)) (by omega)
  have m2 := r02_Mul_ok (Qr a.2) (Qr b.1) (k := k) (Qr_w _ (by omega)) (Qr_w _ (by omega)) (by omega)
  have m3 := r02_Sub_ok (Qr (a.1 * b.2)) (Qr (a.2 * b.1)) (k := 2 * k) (Qr_w _ (by omega)) (Qr_w _ (by omega)) (by omega)
  simp only [Qr_val] at m1 m2 m3
  refine AW.seq ?_
  refine AW.region ?_
  refine AOps.run tok 3 _ _ _ _ rfl ?_
  refine AOps.nil ?_
  refine AW.seq ?_
  refine AW.draw hmix 11 (by kernel_rfl) ?_
  refine APre.run tok 4 _ _ _ _ rfl ?_
  refine APre.call tok rfl rfl rfl rfl rfl m1 ?_
  refine APre.run tok 4 _ _ _ _ rfl ?_
  refine APre.call tok rfl rfl rfl rfl rfl m2 ?_
  refine APre.call tok rfl rfl rfl rfl rfl m3 ?_
  refine APre.nil ?_
  refine AOps.run tok 1 _ _ _ _ rfl ?_
  refine AOps.nil ?_
  exact AW.ret rfl
theorem r50_Dot_ok (a b : V2) {k : Nat} (ha : szV a ≤ k) (hb : szV b ≤ k) (hk : k ≤ 1000000) : Pure Tryz.prog 28 [(VQ a).D, (VQ b).D] (Qr (dt a b)).D := by
  refine Pure.intro (n := 16) tok Tryz.func28 rfl rfl rfl (Nat.le_of_ble_eq_true rfl) (by kernel_rfl) (fun B F0 w0 => ?_)
  have ha := szV_1 ha
  have hb := szV_1 hb
  have l1 := LQ_mul a.1 b.1
  have l2 := LQ_mul a.2 b.2
  have m1 := r02_Mul_ok (Qr a.1) (Qr b.1) (k := k) (Qr_w _ (by omega)) (Qr_w _ (by omega)) (by omega)
  have m2 := r02_Mul_ok (Qr a.2) (Qr b.2) (k := k) (Qr_w _ (by omega)) (Qr_w _ (by omega)) (by omega)
  have m3 := r02_Add_ok (Qr (a.1 * b.1)) (Qr (a.2 * b.2)) (k := 2 * k) (Qr_w _ (by omega)) (Qr_w _ (by omega)) (by omega)
  simp only [Qr_val] at m1 m2 m3
  refine AW.seq ?_
  refine AW.region ?_
  refine AOps.run tok 3 _ _ _ _ rfl ?_
  refine AOps.nil ?_
  refine AW.seq ?_
  refine AW.draw hmix 11 (by kernel_rfl) ?_
  refine APre.run tok 4 _ _ _ _ rfl ?_
  refine APre.call tok rfl rfl rfl rfl rfl m1 ?_
  refine APre.run tok 4 _ _ _ _ rfl ?_
  refine APre.call tok rfl rfl rfl rfl rfl m2 ?_
  refine APre.call tok rfl rfl rfl rfl rfl m3 ?_
  refine APre.nil ?_
  refine AOps.run tok 1 _ _ _ _ rfl ?_
  refine AOps.nil ?_
  exact AW.ret rfl
def barF (a : V2) : V2 := (a.1, -a.2)
theorem r17_Direction_ok (v : Option Rat) {k : Nat} (h : szT v ≤ k) (h1 : 1 ≤ k) (hk : k ≤ 1000000) : Pure Tryz.prog 132 [(TQ v).D] (.tu [(Qr (dirT v).1).D, (Qr (dirT v).2).D]) := by
  refine Pure.intro (n := 32) tok Tryz.func132 rfl rfl rfl (Nat.le_of_ble_eq_true rfl) (by kernel_rfl) (fun B F0 w0 => ?_)
  cases v with
  | none =>
    have o1 := r02_Of_ok (-1) (by decide) (by decide)
    rw [show (TQ none).D = .ag [dB false, .sl 1 [], .sl 1 [], dB true] by unfold TQ; rw [Qr_zero]; rfl]
    rw [show ((-1 : Int) : Rat) = -1 from rfl] at o1
    show AW _ _ _ _ _ _ (retQ _ _ (.tu [(Qr (-1)).D, (Qr 0).D])) _
    rw [Qr_zero]
    refine AW.seq ?_
    refine AW.region ?_
    refine AOps.run tok 3 _ _ _ _ rfl ?_
    refine AOps.nil ?_
    refine AW.seq ?_
    refine AW.seq ?_
    refine AW.region ?_
    refine AOps.run tok 2 _ _ _ _ rfl ?_
    refine AOps.nil ?_
    refine AW.condT rfl ?_
    refine AW.seq ?_
    refine AW.region ?_
    refine AOps.call tok rfl rfl rfl rfl o1 ?_
    refine AOps.run tok 3 _ _ _ _ rfl ?_
    refine AOps.nil ?_
    exact AW.ret rfl
  | some t =>
  have h : LQ t ≤ k := h
  have o1 := r02_Of_ok 1 (by decide) (by decide)
  rw [show ((1 : Int) : Rat) = 1 from rfl] at o1
  have z1 := LQ_one
  have y1 := LQ_mul t t
  have c1 := r02_Mul_ok (Qr t) (Qr t) (k := k) (Qr_w _ h) (Qr_w _ h) (by omega)
  have c2 := r02_Add_ok (Qr 1) (Qr (t * t)) (k := 2 * k) (Qr_w _ (by omega)) (Qr_w _ (by omega)) (by omega)
  have y2 := LQ_add 1 (t * t)
  have c3 := r02_Sub_ok (Qr 1) (Qr (t * t)) (k := 2 * k) (Qr_w _ (by omega)) (Qr_w _ (by omega)) (by omega)
  have y3 := LQ_sub 1 (t * t)
  have c4 := r02_Add_ok (Qr t) (Qr t) (k := k) (Qr_w _ h) (Qr_w _ h) (by omega)
  have y4 := LQ_add t t
  have hn := dn_ne t
  have c5 := r17_over_ok (Qr (1 - t * t)) (Qr (1 + t * t)) (k := 4 * k + 4) (Qr_w _ (by omega)) (Qr_w _ (by omega)) (by omega) (by rw [Qr_val]; exact hn)
  have c6 := r17_over_ok (Qr (t + t)) (Qr (1 + t * t)) (k := 4 * k + 4) (Qr_w _ (by omega)) (Qr_w _ (by omega)) (by omega) (by rw [Qr_val]; exact hn)
  simp only [Qr_val] at c1 c2 c3 c4 c5 c6
  show AW _ _ _ _ _ _ (retQ _ _ (.tu [(Qr ((1 - t * t) / (1 + t * t))).D, (Qr ((t + t) / (1 + t * t))).D])) _
  refine AW.seq ?_
  refine AW.region ?_
  refine AOps.run tok 3 _ _ _ _ rfl ?_
  refine AOps.nil ?_
  refine AW.seq ?_
  refine AW.seq ?_
  refine AW.region ?_
  refine AOps.run tok 2 _ _ _ _ rfl ?_
  refine AOps.nil ?_
  refine AW.condF rfl ?_
  refine AW.skip ?_
  refine AW.seq ?_
  refine AW.draw hmix 8 (by kernel_rfl) ?_
  refine APre.call tok rfl rfl rfl rfl rfl o1 ?_
  refine APre.run tok 4 _ _ _ _ rfl ?_
  refine APre.call tok rfl rfl rfl rfl rfl c1 ?_
  refine APre.run tok 2 _ _ _ _ rfl ?_
  refine APre.nil ?_
  refine AOps.run tok 2 _ _ _ _ rfl ?_
  refine AOps.nil ?_
  refine AW.seq ?_
  refine AW.region ?_
  refine AOps.run tok 2 _ _ _ _ rfl ?_
  refine AOps.call tok rfl rfl rfl rfl c2 ?_
  refine AOps.run tok 2 _ _ _ _ rfl ?_
  refine AOps.nil ?_
  refine AW.seq ?_
  refine AW.draw hmix 12 (by kernel_rfl) ?_
  refine APre.run tok 2 _ _ _ _ rfl ?_
  refine APre.call tok rfl rfl rfl rfl rfl c3 ?_
  refine APre.run tok 1 _ _ _ _ rfl ?_
  refine APre.call tok rfl rfl rfl rfl rfl c5 ?_
  refine APre.run tok 4 _ _ _ _ rfl ?_
  refine APre.call tok rfl rfl rfl rfl rfl c4 ?_
  refine APre.run tok 1 _ _ _ _ rfl ?_
  refine APre.call tok rfl rfl rfl rfl rfl c6 ?_
  refine APre.nil ?_
  refine AOps.run tok 2 _ _ _ _ rfl ?_
  refine AOps.nil ?_
  exact AW.ret rfl
theorem r17_Rotate_ok (v : Option Rat) (q : V2) {k : Nat} (h : szT v ≤ k) (hq : szV q ≤ k) (h1 : 1 ≤ k) (hk : k ≤ 100000) : Pure Tryz.prog 87 [(TQ v).D, (VQ q).D] (VQ (rotF v q)).D := by
  refine Pure.intro (n := 31) tok Tryz.func87 rfl rfl rfl (Nat.le_of_ble_eq_true rfl) (by kernel_rfl) (fun B F0 w0 => ?_)
  have cd := r17_Direction_ok v h h1 (by omega)
  have hd := szV_1 (szV_dir v h h1)
  have hq := szV_1 hq
  unfold rotF
  generalize (dirT v).1 = c at cd hd ⊢
  generalize (dirT v).2 = s at cd hd ⊢
  obtain ⟨x, y⟩ := q
  simp only [] at hq ⊢
  have l1 := LQ_mul c x
  have l2 := LQ_mul s y
  have l3 := LQ_mul s x
  have l4 := LQ_mul c y
  have m1 := r02_Mul_ok (Qr c) (Qr x) (k := 4 * k + 4) (Qr_w _ (by omega)) (Qr_w _ (by omega)) (by omega)
  have m2 := r02_Mul_ok (Qr s) (Qr y) (k := 4 * k + 4) (Qr_w _ (by omega)) (Qr_w _ (by omega)) (by omega)
  have m3 := r02_Sub_ok (Qr (c * x)) (Qr (s * y)) (k := 8 * k + 8) (Qr_w _ (by omega)) (Qr_w _ (by omega)) (by omega)
  have m4 := r02_Mul_ok (Qr s) (Qr x) (k := 4 * k + 4) (Qr_w _ (by omega)) (Qr_w _ (by omega)) (by omega)
  have m5 := r02_Mul_ok (Qr c) (Qr y) (k := 4 * k + 4) (Qr_w _ (by omega)) (Qr_w _ (by omega)) (by omega)
  have m6 := r02_Add_ok (Qr (s * x)) (Qr (c * y)) (k := 8 * k + 8) (Qr_w _ (by omega)) (Qr_w _ (by omega)) (by omega)
  simp only [Qr_val] at m1 m2 m3 m4 m5 m6
  refine AW.seq ?_
  refine AW.region ?_
  refine AOps.run tok 3 _ _ _ _ rfl ?_
  refine AOps.nil ?_
  refine AW.seq ?_
  refine AW.region ?_
  refine AOps.run tok 1 _ _ _ _ rfl ?_
  refine AOps.call tok rfl rfl rfl rfl cd ?_
  refine AOps.run tok 7 _ _ _ _ rfl ?_
  refine AOps.nil ?_
  refine AW.seq ?_
  refine AW.draw hmix 19 (by kernel_rfl) ?_
  refine APre.run tok 3 _ _ _ _ rfl ?_
  refine APre.call tok rfl rfl rfl rfl rfl m1 ?_
  refine APre.run tok 3 _ _ _ _ rfl ?_
  refine APre.call tok rfl rfl rfl rfl rfl m2 ?_
  refine APre.call tok rfl rfl rfl rfl rfl m3 ?_
  refine APre.run tok 3 _ _ _ _ rfl ?_
  refine APre.call tok rfl rfl rfl rfl rfl m4 ?_
  refine APre.run tok 3 _ _ _ _ rfl ?_
  refine APre.call tok rfl rfl rfl rfl rfl m5 ?_
  refine APre.call tok rfl rfl rfl rfl rfl m6 ?_
  refine APre.run tok 1 _ _ _ _ rfl ?_
  refine APre.nil ?_
  refine AOps.run tok 1 _ _ _ _ rfl ?_
  refine AOps.nil ?_
  exact AW.ret rfl
theorem r17_Apply_ok (p : Option Rat × V2) (q : V2) {k : Nat} (h : szP p ≤ k) (hq : szV q ≤ k) (h1 : 1 ≤ k) (hk : k ≤ 10000) : Pure Tryz.prog 44 [(PoQ p).D, (VQ q).D] (VQ (appF p q)).D := by
  refine Pure.intro (n := 12) tok Tryz.func44 rfl rfl rfl (Nat.le_of_ble_eq_true rfl) (by kernel_rfl) (fun B F0 w0 => ?_)
  obtain ⟨h2, h3⟩ := szP_1 h
  have c1 := r17_Rotate_ok p.1 q h2 hq h1 (by omega)
  have z1 := szV_rot p.1 q h2 hq h1
  have c2 := r17_Plus_ok (rotF p.1 q) p.2 (k := 10 * k + 9) z1 (by omega) (by omega)
  unfold appF
  generalize rotF p.1 q = r at c1 c2 ⊢
  refine AW.seq ?_
  refine AW.region ?_
  refine AOps.run tok 3 _ _ _ _ rfl ?_
  refine AOps.nil ?_
  refine AW.seq ?_
  refine AW.draw hmix 7 (by kernel_rfl) ?_
  refine APre.run tok 3 _ _ _ _ rfl ?_
  refine APre.call tok rfl rfl rfl rfl rfl c1 ?_
  refine APre.run tok 2 _ _ _ _ rfl ?_
  refine APre.call tok rfl rfl rfl rfl rfl c2 ?_
  refine APre.nil ?_
  refine AOps.run tok 1 _ _ _ _ rfl ?_
  refine AOps.nil ?_
  exact AW.ret rfl
end Lift
namespace Lift
open Go Go.Proofs
end Lift
namespace Lift
open Go Go.Proofs
end Lift
namespace Lift
open Go Go.Proofs
def ok50 (l : List PoD) (d e : DyD) : Prop := l.length ≤ 4611686018427387904 ∧ (∀ i, i < l.length → (l.getD i default).w 35184372087808) ∧ d.w 35184372087808 ∧ e.w 35184372087808
theorem shR_w {r : RD} {K m k : Nat} (h : r.w K) (hs : shR m r = true) (hk : m ≤ k) : r.w k := by
  unfold shR at hs
  rw [Bool.and_eq_true, decide_eq_true_iff, decide_eq_true_iff] at hs
  exact ⟨h.1, h.2.1, by omega, by omega⟩
theorem rs_get {l : List RD} {m : Nat} (h : l.all (shR m) = true) {r : RD} (hr : r ∈ l) : shR m r = true := by
  rw [List.all_eq_true] at h
  exact h r hr
theorem brief_w {d : DyD} {K : Nat} (h : d.w K) (hb : briefB d = true) : d.w 6 := by
  have h1 := rs_get hb (r := d.c.x) (by show _ ∈ [d.c.x, d.c.y, d.m.x, d.m.y, d.r]; simp)
  have h2 := rs_get hb (r := d.c.y) (by show _ ∈ [d.c.x, d.c.y, d.m.x, d.m.y, d.r]; simp)
  have h3 := rs_get hb (r := d.m.x) (by show _ ∈ [d.c.x, d.c.y, d.m.x, d.m.y, d.r]; simp)
  have h4 := rs_get hb (r := d.m.y) (by show _ ∈ [d.c.x, d.c.y, d.m.x, d.m.y, d.r]; simp)
  have h5 := rs_get hb (r := d.r) (by show _ ∈ [d.c.x, d.c.y, d.m.x, d.m.y, d.r]; simp)
  exact ⟨⟨shR_w h.1.1 h1 (Nat.le_refl _), shR_w h.1.2 h2 (Nat.le_refl _)⟩, ⟨shR_w h.2.1.1 h3 (Nat.le_refl _), shR_w h.2.1.2 h4 (Nat.le_refl _)⟩, shR_w h.2.2 h5 (Nat.le_refl _)⟩
theorem shP_w {p : PoD} {K : Nat} (h : p.w K) (hb : shP p = true) : p.w 6 := by
  have h1 := rs_get hb (r := p.t.t) (by show _ ∈ [p.t.t, p.l.x, p.l.y]; simp)
  have h2 := rs_get hb (r := p.l.x) (by show _ ∈ [p.t.t, p.l.x, p.l.y]; simp)
  have h3 := rs_get hb (r := p.l.y) (by show _ ∈ [p.t.t, p.l.x, p.l.y]; simp)
  exact ⟨shR_w h.1 h1 (by decide), shR_w h.2.1 h2 (by decide), shR_w h.2.2 h3 (by decide)⟩
theorem short_w {l : List PoD} {d e : DyD} (h : ok50 l d e) (hs : shortB l d e = true) : l.length ≤ 20 ∧ (∀ i, i < l.length → (l.getD i default).w 6) ∧ d.w 6 ∧ e.w 6 := by
  unfold shortB at hs
  rw [Bool.and_eq_true, Bool.and_eq_true, Bool.and_eq_true, decide_eq_true_iff] at hs
  obtain ⟨h1, h2, h3, h4⟩ := hs
  refine ⟨h1, fun i hi => ?_, brief_w h.2.2.1 h3, brief_w h.2.2.2 h4⟩
  refine shP_w (h.2.1 i hi) ?_
  unfold short17 at h2
  rw [List.all_eq_true] at h2
  refine h2 _ ?_
  rw [List.getD_eq_getElem?_getD, List.getElem?_eq_getElem hi]
  exact List.getElem_mem hi
theorem ok_canon {l : List PoD} {d e : DyD} {k : Nat} (hw : ∀ i, i < l.length → (l.getD i default).w k) (hd : d.w k) (he : e.w k) (hc : chkD l d e = 0) : l = (l.map PoD.val).map PoQ ∧ d = DyQ d.val ∧ e = DyQ e.val := by
  obtain ⟨⟨_, _, hp⟩, h2, h3, _⟩ := chkD_ok hc
  exact ⟨PoL_canon hw hp, DyD.canon hd h2, DyD.canon he h3⟩
end Lift
namespace Lift
open Go Go.Proofs
theorem u_turn4 : RT Tryz.prog 50 TD (fun a => a.D.flat) (fun a => a.t.w 35184372087808) := by
  have h := RT.struct (P := Tryz.prog) (t := 50) (m := 4) Tryz.underlying50 (by kernel_rfl) (RTF.cons (by kernel_rfl) u_rat4 (RTF.cons (by kernel_rfl) u_bool RTF.nil)) (fun v => rfl)
  exact h.map (fun v => ⟨v.1, v.2.1⟩) (fun v h => rfl) (fun v h => h.1) (fun v => ⟨by kernel_rfl, fun d hd => by
    simp only [D.flat, List.mem_cons, List.mem_nil_iff, or_false] at hd
    rcases hd with rfl | rfl | rfl | rfl <;> rfl⟩)
theorem u_place4 : RT Tryz.prog 27 PD (fun a => a.D.flat) (fun a => a.w 35184372087808) := by
  have h := RT.struct (P := Tryz.prog) (t := 27) (m := 6) Tryz.underlying27 (by kernel_rfl) (RTF.cons (by kernel_rfl) u_rat4 (RTF.cons (by kernel_rfl) u_rat4 RTF.nil)) (fun v => rfl)
  exact h.map (fun v => ⟨v.1, v.2.1⟩) (fun v h => rfl) (fun v h => ⟨h.1, h.2.1⟩) (fun v => ⟨by kernel_rfl, fun d hd => by
    simp only [D.flat, List.mem_cons, List.mem_nil_iff, or_false] at hd
    rcases hd with rfl | rfl | rfl | rfl | rfl | rfl <;> rfl⟩)
theorem u_pose4 : RT Tryz.prog 52 PoD (fun a => a.D.flat) (fun a => a.w 35184372087808) := by
  have h := RT.struct (P := Tryz.prog) (t := 52) (m := 10) Tryz.underlying52 (by kernel_rfl) (RTF.cons (by kernel_rfl) u_turn4 (RTF.cons (by kernel_rfl) u_place4 RTF.nil)) (fun v => rfl)
  exact h.map (fun v => ⟨v.1, v.2.1⟩) (fun v h => rfl) (fun v h => ⟨h.1, h.2.1⟩) (fun v => ⟨by kernel_rfl, fun d hd => by
    simp only [D.flat, List.mem_cons, List.mem_nil_iff, or_false] at hd
    rcases hd with rfl | rfl | rfl | rfl | rfl | rfl | rfl | rfl | rfl | rfl <;> rfl⟩)
theorem u_poses4 : RT Tryz.prog 22 (List PoD) (fun l => [PoL l]) (fun l => l.length ≤ reachBytes ∧ ∀ v ∈ l, v.w 35184372087808) :=
  RT.slice (el := PoD.D) (s := 10) (by kernel_rfl) (by kernel_rfl) (by kernel_rfl) (by decide) (Nat.le_of_ble_eq_true (by kernel_rfl)) u_pose4 (fun v => rfl)
theorem u_dyad4 : RT Tryz.prog 29 DyD (fun a => a.D.flat) (fun a => a.w 35184372087808) := by
  have h := RT.struct (P := Tryz.prog) (t := 29) (m := 15) Tryz.underlying29 (by kernel_rfl) (RTF.cons (by kernel_rfl) u_place4 (RTF.cons (by kernel_rfl) u_place4 (RTF.cons (by kernel_rfl) u_rat4 RTF.nil))) (fun v => rfl)
  exact h.map (fun v => ⟨v.1, v.2.1, v.2.2.1⟩) (fun v h => rfl) (fun v h => ⟨h.1, h.2.1, h.2.2.1⟩) (fun v => ⟨by kernel_rfl, fun d hd => by
    simp only [D.flat, List.mem_cons, List.mem_nil_iff, or_false] at hd
    rcases hd with rfl | rfl | rfl | rfl | rfl | rfl | rfl | rfl | rfl | rfl | rfl | rfl | rfl | rfl | rfl <;> rfl⟩)
theorem u_four4 : RT Tryz.prog 31 (DyD × DyD) (fun a => (FourD a.1 a.2).flat) (fun a => a.1.w 35184372087808 ∧ a.2.w 35184372087808) := by
  have h := RT.struct (P := Tryz.prog) (t := 31) (m := 30) Tryz.underlying31 (by kernel_rfl) (RTF.cons (by kernel_rfl) u_dyad4 (RTF.cons (by kernel_rfl) u_dyad4 RTF.nil)) (fun v => rfl)
  exact h.map (fun v => (v.1, v.2.1)) (fun v h => rfl) (fun v h => ⟨h.1, h.2.1⟩) (fun v => ⟨by kernel_rfl, fun d hd => by
    simp only [D.flat, List.cons_append, List.nil_append, List.mem_cons, List.mem_nil_iff, or_false] at hd
    rcases hd with rfl | rfl | rfl | rfl | rfl | rfl | rfl | rfl | rfl | rfl | rfl | rfl | rfl | rfl | rfl | rfl | rfl | rfl | rfl | rfl | rfl | rfl | rfl | rfl | rfl | rfl | rfl | rfl | rfl | rfl <;> rfl⟩)
def ok50L (l : List PoD) : Prop := l.length ≤ 4611686018427387904 ∧ (∀ i, i < l.length → (l.getD i default).w 35184372087808)
def ok50F (x : DyD × DyD) : Prop := x.1.w 35184372087808 ∧ x.2.w 35184372087808
theorem ok50_of {l : List PoD} {x : DyD × DyD} (h1 : ok50L l) (h2 : ok50F x) : ok50 l x.1 x.2 := ⟨h1.1, h1.2, h2.1, h2.2⟩
theorem ok50L_of {l : List PoD} (h : l.length ≤ reachBytes ∧ ∀ v ∈ l, v.w 35184372087808) : ok50L l := ⟨Nat.le_trans h.1 (by decide), fun i hi => by
  rw [List.getD_eq_getElem?_getD, List.getElem?_eq_getElem hi]
  exact h.2 _ (List.getElem_mem hi)⟩
end Lift
namespace Lift
open Go
open Go.RowKit (Below)
section
variable {P : Program}
theorem RT.arr2 {t e : TypeId} {s : Nat} {α : Type} {ca : α → List D} {oa : α → Prop} (ht : P.underlying t = some (.array 2 e)) (hm : P.cellsOf t = s + s) (hs : P.cellsOf e = s) (h : RT P e α ca oa) : RT P t (α × α) (fun v => ca v.1 ++ ca v.2) (fun v => oa v.1 ∧ oa v.2) := by
  refine ⟨fun v => ⟨by rw [List.length_append, (h.1 v.1).1, (h.1 v.2).1, hs, hm], fun d hd => ?_⟩, fun H enc w fuel cs x hx hw => ?_⟩
  · rcases List.mem_append.1 hd with hd | hd
    · exact (h.1 v.1).2 d hd
    · exact (h.1 v.2).2 d hd
  obtain ⟨xs, m, _, rfl, hl, hxl, hf⟩ := DataW.trod_array ht hx
  match xs, hxl with
  | [x1, x2], _ =>
    have f0 := hf 0 (by decide)
    have f1 := hf 1 (by decide)
    rw [hs] at f0 f1
    rw [Nat.zero_mul, List.drop_zero] at f0
    rw [Nat.one_mul] at f1
    unfold Wt at hw
    rw [DataW.weights, ht] at hw
    obtain ⟨a, ha, hra⟩ := h.2 H enc w m _ x1 f0 (fun n hn => hw n (mem_weightsAll hn (by simp)))
    obtain ⟨b, hb, hrb⟩ := h.2 H enc w m _ x2 f1 (fun n hn => hw n (mem_weightsAll hn (by simp)))
    refine ⟨(a, b), ⟨ha, hb⟩, ?_⟩
    have := hra.append hrb
    rw [List.take_of_length_le (l := cs.drop s) (by rw [List.length_drop, hl, hm]; omega), List.take_append_drop] at this
    exact this
theorem RA.arr {t e : TypeId} {k : Nat} {α : Type} {cells : α → List D} {ok : α → Prop} (ht : P.underlying t = some (.array k e)) (h : RT P t α cells ok) : RA P t α (fun a => .ag (cells a)) ok := by
  intro H enc w v d ps r b0 ⟨fuel, hd⟩ hw hv
  unfold Value.okWide at hv
  rw [ht] at hv
  obtain ⟨cs, rfl, _, _⟩ := hv
  obtain ⟨a, ha, hl, hr⟩ := h.2 H enc w fuel _ _ hd hw
  refine ⟨a, ha, ?_⟩
  have := Rd.ag (w := w) (F := fun b => b < w.heap.size) (l := cells a) (vs := cs.toList) (by simpa [Value.cells] using hl) (fun d hd => (h.1 a).2 d hd) (fun i d u h1 h2 => (hr i d u h1 (by simpa [Value.cells] using h2)).2)
  simpa using this
end
end Lift
namespace Lift
open Go Go.Proofs
def insR (u v w : V2) : Bool := !decide (sgQ (crs u v) = 0) && (decide (sgQ (crs u w) = sgQ (crs u v)) && decide (sgQ (crs w v) = sgQ (crs u v)))
def b2F (d e : Dy) : Rat := dt (vsub e.2.1 d.2.1) (vsub e.2.1 d.2.1)
def barO (d e : Dy) : BarR := ⟨d.2.2, b2F d e, e.2.2, vsub e.1 d.1, [], []⟩
end Lift
namespace Lift
theorem sgQ_mul (x y : Rat) : sgQ (x * y) = sgQ x * sgQ y := by
  have key : ∀ {z : Rat}, 0 < z → sgQ z = 1 := fun {z} h => by
    have := sgQ_pos.2 h
    rcases sgQ_cases z with e | e | e <;> omega
  have keyn : ∀ {z : Rat}, z < 0 → sgQ z = -1 := fun {z} h => by
    have := sgQ_neg.2 h
    rcases sgQ_cases z with e | e | e <;> omega
  by_cases hx : x = 0
  · subst hx; rw [Rat.zero_mul, sgQ_0, Int.zero_mul]
  by_cases hy : y = 0
  · subst hy; rw [Rat.mul_zero, sgQ_0, Int.mul_zero]
  have cx : 0 < x ∨ x < 0 := by grind
  have cy : 0 < y ∨ y < 0 := by grind
  rcases cx with cx | cx <;> rcases cy with cy | cy
  · rw [key cx, key cy, key (Rat.mul_pos cx cy)]; rfl
  · have : 0 < x * (-y) := Rat.mul_pos cx (by grind)
    rw [key cx, keyn cy, keyn (by grind)]; rfl
  · have : 0 < (-x) * y := Rat.mul_pos (by grind) cy
    rw [keyn cx, key cy, keyn (by grind)]; rfl
  · have : 0 < (-x) * (-y) := Rat.mul_pos (by grind) (by grind)
    rw [keyn cx, keyn cy, key (by grind)]; rfl
theorem sgQ_one {z : Rat} (h : 0 < z) : sgQ z = 1 := by
  have := sgQ_pos.2 h
  rcases sgQ_cases z with e | e | e <;> omega
theorem sgQ_m1 {z : Rat} (h : z < 0) : sgQ z = -1 := by
  have := sgQ_neg.2 h
  rcases sgQ_cases z with e | e | e <;> omega
theorem surd_sq {P Y r : Rat} (hr : 0 < r) : surdF P Y (r * r) = sgQ (P + Y * r) := by
  unfold surdF
  have e : P * P - Y * Y * (r * r) = (P - Y * r) * (P + Y * r) := by grind
  rw [e, sgQ_mul]
  by_cases hY : Y = 0
  · subst hY; rw [if_pos (.inr sgQ_0), Rat.zero_mul, Rat.add_zero]
  by_cases hP : P = 0
  · subst hP
    rw [sgQ_0, Rat.zero_add, sgQ_mul, sgQ_one hr, Int.mul_one]
    by_cases h : (0 : Int) = sgQ Y ∨ sgQ Y = 0
    · rw [if_pos h]; omega
    · rw [if_neg h, if_pos rfl]
  have cY : 0 < Y ∨ Y < 0 := by grind
  have cP : 0 < P ∨ P < 0 := by grind
  rcases cY with cY | cY
  · have h1 : 0 < Y * r := Rat.mul_pos cY hr
    rcases cP with cP | cP
    · rw [sgQ_one cP, sgQ_one cY, if_pos (.inl rfl), sgQ_one (by grind)]
    · rw [sgQ_m1 cP, sgQ_one cY, if_neg (by decide), if_neg (by decide), sgQ_m1 (z := P - Y * r) (by grind)]
      omega
  · have h1 : 0 < (-Y) * r := Rat.mul_pos (by grind) hr
    rcases cP with cP | cP
    · rw [sgQ_one cP, sgQ_m1 cY, if_neg (by decide), if_neg (by decide), sgQ_one (z := P - Y * r) (by grind)]
      omega
    · rw [sgQ_m1 cP, sgQ_m1 cY, if_pos (.inl rfl), sgQ_m1 (by grind)]
theorem lagr (u w : V2) : dt u w * dt u w + crs u w * crs u w = dt u u * dt w w := by unfold dt crs; grind
theorem dt_vneg (u w : V2) : dt u (vneg w) = -dt u w := by unfold dt vneg; grind
theorem crs_vneg (u w : V2) : crs u (vneg w) = -crs u w := by unfold crs vneg; grind
theorem disc_dt {b : BarR} {u : V2} (h : dt u u = b.a2) : discQ b u = ((4 : Int) : Rat) * (b.b2 * b.c2) - (xlF b + 2 * dt u b.f) * (xlF b + 2 * dt u b.f) := by
  unfold discQ xlF
  have e : dt (vsub b.f u) (vsub b.f u) = dt b.f b.f - 2 * dt u b.f + dt u u := by unfold dt vsub; grind
  rw [e, h]
  grind
theorem four4 : ((4 : Int) : Rat) = 4 := rfl
theorem al_pos {b : BarR} {u : V2} (h : dt u u = b.a2) (hc : crs u b.f = 0) (hd : 0 < dt u b.f) : inLF b 1 = sgQ (discQ b u) := by
  have hp : prodF b = dt u b.f * dt u b.f := by
    have := lagr u b.f
    unfold prodF
    rw [← h, ← this, hc]; grind
  unfold inLF plainF
  rw [hp, surd_sq hd, disc_dt h]
  congr 1
  rw [four4, show ((-4 * 1 : Int) : Rat) = -4 from rfl]
  grind
theorem al_neg {b : BarR} {u : V2} (h : dt u u = b.a2) (hc : crs u b.f = 0) (hd : dt u b.f < 0) : inLF b (-1) = sgQ (discQ b u) := by
  have hp : prodF b = (-dt u b.f) * (-dt u b.f) := by
    have := lagr u b.f
    unfold prodF
    rw [← h, ← this, hc]; grind
  unfold inLF plainF
  rw [hp, surd_sq (by grind), disc_dt h]
  congr 1
  rw [four4, show ((-4 * -1 : Int) : Rat) = 4 from rfl]
  grind
def dirS (b : BarR) (s : Int) : V2 := if s < 0 then vneg b.f else b.f
theorem al_any {b : BarR} {u : V2} {s : Int} (hs : s = 1 ∨ s = -1) (h : dt u u = b.a2) (hc : crs u (dirS b s) = 0) (hd : 0 < dt u (dirS b s)) : inLF b s = sgQ (discQ b u) := by
  unfold dirS at hc hd
  rcases hs with rfl | rfl
  · rw [if_neg (by decide)] at hc hd
    exact al_pos h hc hd
  · rw [if_pos (by decide), crs_vneg] at hc
    rw [if_pos (by decide), dt_vneg] at hd
    exact al_neg h (by grind) (by grind)
theorem dirS_dt (b : BarR) (s : Int) : dt (dirS b s) (dirS b s) = dt b.f b.f := by
  unfold dirS
  split
  · unfold dt vneg; grind
  · rfl
theorem crs_comm (u v : V2) : crs u v = -crs v u := by unfold crs; grind
theorem along {u v w : V2} (h0 : 0 < dt u u) (hw : 0 < dt w w) (ht : 0 < crs u v) (hc : crs u w = 0) (hv : 0 ≤ crs w v) : 0 < dt u w := by
  have e : dt u u * crs w v = dt u w * crs u v - crs u w * dt u v := by unfold dt crs; grind
  have l := lagr u w
  have hn : dt u w ≠ 0 := fun h => by
    have := Rat.mul_pos h0 hw
    rw [h, hc] at l
    grind
  have h1 : 0 ≤ dt u u * crs w v := Rat.mul_nonneg (by grind) hv
  by_cases h : 0 < dt u w
  · exact h
  · have : 0 < (-dt u w) * crs u v := Rat.mul_pos (by grind) ht
    rw [hc] at e
    grind
theorem along' {u v w : V2} (h0 : 0 < dt v v) (hw : 0 < dt w w) (ht : 0 < crs u v) (hc : crs w v = 0) (hv : 0 ≤ crs u w) : 0 < dt v w := by
  have e : dt v v * crs u w = dt v w * crs u v + dt u v * crs v w := by unfold dt crs; grind
  have l := lagr v w
  have hc2 : crs v w = 0 := by rw [crs_comm, hc]; grind
  have hn : dt v w ≠ 0 := fun h => by
    have := Rat.mul_pos h0 hw
    rw [h, hc2] at l
    grind
  have h1 : 0 ≤ dt v v * crs u w := Rat.mul_nonneg (by grind) hv
  by_cases h : 0 < dt v w
  · exact h
  · have : 0 < (-dt v w) * crs u v := Rat.mul_pos (by grind) ht
    rw [hc2] at e
    grind
theorem insR_of {u v w : V2} (ht : 0 < crs u v) : insR u v w = (decide (0 < crs u w) && decide (0 < crs w v)) := by
  unfold insR
  rw [sgQ_one ht]
  have k : ∀ x : Rat, decide (sgQ x = 1) = decide (0 < x) := fun x => decide_eq_decide.2 ⟨fun h => sgQ_pos.1 (by omega), fun h => sgQ_one h⟩
  rw [k, k]
  rfl
theorem insF_of (u v w : V2) : insF u v w = (decide (0 ≤ crs u w) && decide (0 ≤ crs w v)) := by
  unfold insF
  have k : ∀ x : Rat, decide (0 ≤ sgQ x) = decide (0 ≤ x) := fun x => decide_eq_decide.2 ⟨fun h => by
    by_cases hx : x < 0
    · have := sgQ_neg.2 hx; omega
    · grind, fun h => by
    rcases sgQ_cases x with e | e | e
    · omega
    · omega
    · have h1 : x < 0 := sgQ_neg.1 (by rw [e]; decide)
      grind⟩
  rw [k, k]
theorem way_eq {b : BarR} {u v : V2} {s : Int} (hs : s = 1 ∨ s = -1) (hu : dt u u = b.a2) (hv : dt v v = b.a2) (ha : 0 < b.a2) (hf : 0 < dt b.f b.f) (ht : 0 < crs u v) (pu : posF b u = true) (pv : posF b v = true) :
    wayF b u v s = (!insR u v (dirS b s) || decide (0 < inLF b s)) := by
  have e0 : wayF b u v s = (!insF u v (dirS b s) || decide (0 < inLF b s)) := rfl
  have hw := dirS_dt b s
  rw [e0, insR_of ht, insF_of]
  have pu : 0 < sgQ (discQ b u) := of_decide_eq_true pu
  have pv : 0 < sgQ (discQ b v) := of_decide_eq_true pv
  have a1 := fun hc hd => al_any (u := u) hs hu hc hd
  have a2 := fun hc hd => al_any (u := v) hs hv hc hd
  generalize dirS b s = w at hw a1 a2 ⊢
  by_cases h1 : 0 ≤ crs u w
  rotate_left
  · rw [decide_eq_false h1, decide_eq_false (show ¬ 0 < crs u w by grind), Bool.false_and, Bool.false_and]
  by_cases h2 : 0 ≤ crs w v
  rotate_left
  · rw [decide_eq_false h2, decide_eq_false (show ¬ 0 < crs w v by grind), Bool.and_false, Bool.and_false]
  rw [decide_eq_true h1, decide_eq_true h2]
  by_cases h3 : 0 < crs u w
  rotate_left
  · have h3 : crs u w = 0 := by grind
    have := a1 h3 (along (by rw [hu]; exact ha) (by rw [hw]; exact hf) ht h3 h2)
    rw [this, decide_eq_true pu, Bool.or_true, Bool.or_true]
  by_cases h4 : 0 < crs w v
  rotate_left
  · have h4 : crs w v = 0 := by grind
    have hc : crs v w = 0 := by rw [crs_comm, h4]; grind
    have := a2 hc (along' (by rw [hv]; exact ha) (by rw [hw]; exact hf) ht h4 h1)
    rw [this, decide_eq_true pv, Bool.or_true, Bool.or_true]
  rw [decide_eq_true h3, decide_eq_true h4]
theorem insR_swap (u v w : V2) : insR u v w = insR v u w := by
  unfold insR
  have e1 : sgQ (crs v u) = -sgQ (crs u v) := by rw [crs_comm v u, sgQ_negate]
  have e2 : sgQ (crs v w) = -sgQ (crs w v) := by rw [crs_comm v w, sgQ_negate]
  have e3 : sgQ (crs w u) = -sgQ (crs u w) := by rw [crs_comm w u, sgQ_negate]
  rw [e1, e2, e3]
  generalize sgQ (crs u v) = a
  generalize sgQ (crs u w) = x
  generalize sgQ (crs w v) = y
  have h1 : decide (-a = 0) = decide (a = 0) := decide_eq_decide.2 (by omega)
  have h2 : decide (-y = -a) = decide (y = a) := decide_eq_decide.2 (by omega)
  have h3 : decide (-x = -a) = decide (x = a) := decide_eq_decide.2 (by omega)
  rw [h1, h2, h3, Bool.and_comm (decide (y = a))]
def betG (b : BarR) (u v : V2) : Bool := if insR u v b.f = true then (posF b u && posF b v) && decide (0 < inLF b 1) else posF b u && posF b v
def betR (b : BarR) (u v : V2) : Bool := if insR u v (vneg b.f) = true then betG b u v && decide (0 < inLF b (-1)) else betG b u v
theorem btw_eq {b : BarR} {u v : V2} (hu : dt u u = b.a2) (hv : dt v v = b.a2) (ha : 0 < b.a2) (hf : 0 < dt b.f b.f) : btwV b u v = betR b u v := by
  have key : ∀ u v : V2, dt u u = b.a2 → dt v v = b.a2 → 0 < crs u v → posF b u = true → posF b v = true → (wayF b u v 1 && wayF b u v (-1)) = ((!insR u v b.f || decide (0 < inLF b 1)) && (!insR u v (vneg b.f) || decide (0 < inLF b (-1)))) := fun u v hu hv ht pu pv => by
    rw [way_eq (.inl rfl) hu hv ha hf ht pu pv, way_eq (.inr rfl) hu hv ha hf ht pu pv]
    rfl
  have k1 := key u v hu hv
  have k2 := key v u hv hu
  rw [insR_swap v u, insR_swap v u] at k2
  have hz : crs u v = 0 → ∀ w, insR u v w = false := fun h w => by unfold insR; rw [h, sgQ_0]; rfl
  unfold btwV betR betG
  cases hpu : posF b u with
  | false => cases insR u v b.f <;> cases insR u v (vneg b.f) <;> simp
  | true =>
  cases hpv : posF b v with
  | false => cases insR u v b.f <;> cases insR u v (vneg b.f) <;> simp
  | true =>
  by_cases h0 : crs u v = 0
  · rw [hz h0, hz h0, h0, sgQ_0]; rfl
  have hs0 : sgQ (crs u v) ≠ 0 := fun h => h0 (sgQ_zero.1 h)
  rw [decide_eq_false hs0]
  have fin : ∀ i1 i2 o1 o2 : Bool, ((!i1 || o1) && (!i2 || o2)) = (if i2 = true then (if i1 = true then (true && true) && o1 else (true && true)) && o2 else (if i1 = true then (true && true) && o1 else (true && true))) := by decide
  by_cases h1 : sgQ (crs u v) < 0
  · rw [if_pos h1]
    have h2 := sgQ_neg.1 h1
    rw [k2 (by rw [crs_comm]; grind) hpv hpu]
    show (true && (true && (false || _))) = _
    rw [Bool.true_and, Bool.true_and, Bool.false_or]
    exact fin _ _ _ _
  · rw [if_neg h1]
    have h2 : 0 < crs u v := by
      have : ¬ crs u v < 0 := fun h => h1 (sgQ_neg.2 h)
      grind
    rw [k1 h2 hpu hpv]
    show (true && (true && (false || _))) = _
    rw [Bool.true_and, Bool.true_and, Bool.false_or]
    exact fin _ _ _ _
end Lift
namespace Lift
open Go Go.Proofs
theorem r50_Direction_ok (p : Po) (d : Dy) {k : Nat} (h : szP p ≤ k) (hd : szD d ≤ k) (h1 : 1 ≤ k) (hk : k ≤ 1000) : Pure Tryz.prog 24 [(PoQ p).D, (DyQ d).D] (VQ (dirF d p)).D := by
  refine Pure.intro (n := 12) tok Tryz.func24 rfl rfl rfl (Nat.le_of_ble_eq_true rfl) (by kernel_rfl) (fun B F0 w0 => ?_)
  have hd := szD_1 hd
  unfold dirF
  obtain ⟨dc, dm, dr⟩ := d
  simp only [] at hd ⊢
  have c1 := r17_Apply_ok p dm h hd.2.1 h1 (by omega)
  have z1 := szV_app p dm h hd.2.1 h1
  generalize appF p dm = a at c1 z1 ⊢
  have c2 := r17_Less_ok a dc (k := 11 * k + 10) z1 (by omega) (by omega)
  refine AW.seq ?_
  refine AW.region ?_
  refine AOps.run tok 3 _ _ _ _ rfl ?_
  refine AOps.nil ?_
  refine AW.seq ?_
  refine AW.draw hmix 7 (by kernel_rfl) ?_
  refine APre.run tok 3 _ _ _ _ rfl ?_
  refine APre.call tok rfl rfl rfl rfl rfl c1 ?_
  refine APre.run tok 2 _ _ _ _ rfl ?_
  refine APre.call tok rfl rfl rfl rfl rfl c2 ?_
  refine APre.nil ?_
  refine AOps.run tok 1 _ _ _ _ rfl ?_
  refine AOps.nil ?_
  exact AW.ret rfl
def poG (ps : List Po) (i : Nat) : Po := ps.getD i (none, (0, 0))
end Lift
namespace Lift
open Go Go.Proofs
theorem pas_dir {ps : List Po} {d : Dy} (h : pasB ps d = true) {i : Nat} (hi : i < ps.length) : dt (dirF d (poG ps i)) (dirF d (poG ps i)) = d.2.2 := by
  unfold pasB at h
  rw [List.all_eq_true] at h
  have := h (poG ps i) (by unfold poG; rw [List.getD_eq_getElem?_getD, List.getElem?_eq_getElem hi]; exact List.getElem_mem hi)
  exact of_decide_eq_true this
theorem u_get (ps : List Po) (d e : Dy) {i : Nat} (hi : i < ps.length) : (rdB ps d e).u.getD i (0, 0) = dirF d (poG ps i) := by
  show (ps.map (dirF d)).getD i (0, 0) = dirF d (ps.getD i (none, (0, 0)))
  rw [List.getD_eq_getElem?_getD, List.getElem?_map, List.getD_eq_getElem?_getD, List.getElem?_eq_getElem hi]; rfl
structure Good (ps : List Po) (d e : Dy) : Prop where
  pd : pasB ps d = true
  pe : pasB ps e = true
  ap : 0 < d.2.2
  fp : 0 < dt (vsub e.1 d.1) (vsub e.1 d.1)
  l2 : 2 ≤ ps.length
  l5 : ps.length ≤ 5
theorem chk_good {l : List PoD} {d e : DyD} (h0 : chkD l d e = 0) : Good (l.map PoD.val) d.val e.val := by
  obtain ⟨⟨hl2, hl5, hp⟩, _, _, r1, r2, _, hc, h1, h2⟩ := chkD_ok h0
  exact ⟨h1, h2, sgI_pos r1, dt_pos (vsub_ne hc), by rw [List.length_map]; exact hl2, by rw [List.length_map]; exact hl5⟩
theorem Good.btw {ps : List Po} {d e : Dy} (g : Good ps d e) {i : Nat} (hi : i + 1 < ps.length) : btwV (rdB ps d e) (dirF d (poG ps i)) (dirF d (poG ps (i + 1))) = betR (barO d e) (dirF d (poG ps i)) (dirF d (poG ps (i + 1))) :=
  btw_eq (b := rdB ps d e) (pas_dir g.pd (by omega)) (pas_dir g.pd hi) g.ap g.fp
end Lift
namespace Lift
open Go Go.Proofs
end Lift
namespace Lift
open Go Go.Proofs
end Lift
namespace Lift
structure Turned (u v r : V2) : Prop where
  nz : 0 < dt v v
  s1 : sgQ r.1 = sgQ (dt u v)
  s2 : sgQ r.2 = sgQ (crs u v)
theorem Turned.bar {u v r : V2} (h : Turned u v r) : Turned (barF u) (barF v) (barF r) := ⟨by
    have : dt (barF v) (barF v) = dt v v := by unfold dt barF; grind
    rw [this]; exact h.nz, by
    have : dt (barF u) (barF v) = dt u v := by unfold dt barF; grind
    rw [this]; exact h.s1, by
    have : crs (barF u) (barF v) = -crs u v := by unfold crs barF; grind
    rw [this, sgQ_negate, ← h.s2]
    show sgQ (-r.2) = _
    rw [sgQ_negate]⟩
end Lift
namespace Lift
open Go Go.Proofs
theorem u_len (ps : List Po) (d e : Dy) : (rdB ps d e).u.length = ps.length := List.length_map ..
end Lift
namespace Lift
def NzV (l : List V2) : Prop := ∀ i, i < l.length → 0 < dt (l.getD i (0, 0)) (l.getD i (0, 0))
theorem betR_comm (b : BarR) (u v : V2) : betR b u v = betR b v u := by
  unfold betR betG
  rw [insR_swap u v, insR_swap u v, Bool.and_comm (posF b u) (posF b v)]
theorem Good.nz {ps : List Po} {d e : Dy} (g : Good ps d e) : NzV (rdB ps d e).u := fun i hi => by
  rw [u_len] at hi
  rw [u_get _ _ _ hi, pas_dir g.pd hi]
  exact g.ap
end Lift
namespace Lift
open Go Go.Proofs
end Lift
namespace Lift
open Go Go.Proofs
end Lift
namespace Lift
open Go Go.Proofs
end Lift
namespace Lift
theorem nvp_pos (v : Option Rat) : 0 < pX v * pX v + pY v * pY v := by
  cases v with
  | none => simp only [pX, pY]; grind
  | some t => have := rsq t; simp only [pX, pY]; grind
theorem dir_N (v : Option Rat) : (dirT v).1 * (pX v * pX v + pY v * pY v) = pX v * pX v - pY v * pY v ∧ (dirT v).2 * (pX v * pX v + pY v * pY v) = 2 * pX v * pY v := by
  cases v with
  | none => simp only [pX, pY, dirT]; constructor <;> grind
  | some t =>
    have h := dn_ne t
    simp only [pX, pY, dirT]
    constructor
    · have : (1 - t * t) / (1 + t * t) * (1 + t * t) = 1 - t * t := by rw [Rat.div_mul_cancel h]
      grind
    · have : (t + t) / (1 + t * t) * (1 + t * t) = t + t := by rw [Rat.div_mul_cancel h]
      grind
theorem dir_one (v : Option Rat) : (dirT v).1 * (dirT v).1 + (dirT v).2 * (dirT v).2 = 1 := by
  obtain ⟨h1, h2⟩ := dir_N v
  have hp := nvp_pos v
  generalize pX v = x at h1 h2 hp
  generalize pY v = y at h1 h2 hp
  generalize (dirT v).1 = c at h1 ⊢
  generalize (dirT v).2 = s at h2 ⊢
  have e : (c * c + s * s - 1) * ((x * x + y * y) * (x * x + y * y)) = 0 := by
    have e1 : (c * (x * x + y * y)) * (c * (x * x + y * y)) = (x * x - y * y) * (x * x - y * y) := by rw [h1]
    have e2 : (s * (x * x + y * y)) * (s * (x * x + y * y)) = (2 * x * y) * (2 * x * y) := by rw [h2]
    grind
  rcases Rat.mul_eq_zero.1 e with e | e
  · grind
  · have := Rat.mul_pos hp hp; grind
theorem rot_dt (v : Option Rat) (a b : V2) : dt (rotF v a) (rotF v b) = dt a b := by
  have h := dir_one v
  unfold rotF dt
  generalize (dirT v).1 = c at h ⊢
  generalize (dirT v).2 = s at h ⊢
  have : (c * a.1 - s * a.2) * (c * b.1 - s * b.2) + (s * a.1 + c * a.2) * (s * b.1 + c * b.2) = (c * c + s * s) * (a.1 * b.1 + a.2 * b.2) := by grind
  show (c * a.1 - s * a.2) * (c * b.1 - s * b.2) + (s * a.1 + c * a.2) * (s * b.1 + c * b.2) = _
  rw [this, h]; grind
theorem rot_sub (v : Option Rat) (a b : V2) : vsub (rotF v a) (rotF v b) = rotF v (vsub a b) := Prod.ext (by show ((dirT v).1 * a.1 - (dirT v).2 * a.2) - ((dirT v).1 * b.1 - (dirT v).2 * b.2) = (dirT v).1 * (a.1 - b.1) - (dirT v).2 * (a.2 - b.2); grind) (by show ((dirT v).2 * a.1 + (dirT v).1 * a.2) - ((dirT v).2 * b.1 + (dirT v).1 * b.2) = (dirT v).2 * (a.1 - b.1) + (dirT v).1 * (a.2 - b.2); grind)
theorem app_sub (p : Po) (a b : V2) : vsub (appF p a) (appF p b) = rotF p.1 (vsub a b) := by
  rw [← rot_sub]
  unfold appF
  generalize rotF p.1 a = x
  generalize rotF p.1 b = y
  exact Prod.ext (by show (x.1 + p.2.1) - (y.1 + p.2.1) = x.1 - y.1; grind) (by show (x.2 + p.2.2) - (y.2 + p.2.2) = x.2 - y.2; grind)
end Lift
namespace Lift
open Go Go.Proofs
end Lift
namespace Lift
theorem sg_same {x y : Rat} (h : 0 < x * y) : sgQ y = sgQ x := by
  have e := sgQ_mul x y
  rw [sgQ_one h] at e
  rcases sgQ_cases x with a | a | a <;> rcases sgQ_cases y with b | b | b <;> rw [a, b] at e <;> first | (rw [a, b]; done) | (exact absurd e (by decide))
theorem neg_iff {x y : Rat} (h : 0 ≤ x * y) (hx : 0 < x) : 0 ≤ y := by
  by_cases c : 0 ≤ y
  · exact c
  · have := Rat.mul_pos hx (show 0 < -y by grind)
    grind
theorem pos_of {x y : Rat} (h : 0 < x * y) (hx : 0 ≤ x) : 0 < y := by
  by_cases c : 0 < y
  · exact c
  · have := Rat.mul_nonneg hx (show 0 ≤ -y by grind)
    grind
theorem surd_mono {K x0 P m : Rat} (hs : 0 < surdF (K - (x0 * x0 + 4 * P)) (-4 * x0) P) (hm : m * m ≤ P) (hc : 0 < x0 + 2 * m) : (x0 + 2 * m) * (x0 + 2 * m) < K := by
  by_cases hK : (x0 + 2 * m) * (x0 + 2 * m) < K
  · exact hK
  exfalso
  have hK : K ≤ (x0 + 2 * m) * (x0 + 2 * m) := by grind
  have key : K - (x0 * x0 + 4 * P) ≤ 4 * x0 * m + 4 * (m * m) - 4 * P := by grind
  have fin : ∀ {X : Rat}, X ≤ 0 → sgQ X = 0 ∨ sgQ X = -1 := fun {X} h => by
    rcases sgQ_cases X with a | a | a
    · exact .inl a
    · have := sgQ_pos.1 (show 0 < sgQ X by omega); grind
    · exact .inr a
  by_cases hx : 0 ≤ x0
  ·
    have hY : -4 * x0 ≤ 0 := by grind
    generalize hPl : K - (x0 * x0 + 4 * P) = Pl at hs key
    have l1 : Pl ≤ 4 * x0 * m := by grind
    by_cases hp : Pl ≤ 0
    · have s1 := fin hp
      have s2 := fin hY
      unfold surdF at hs
      generalize hz : sgQ (Pl * Pl - -4 * x0 * (-4 * x0) * P) = z at hs
      generalize sgQ Pl = p at hs s1
      generalize sgQ (-4 * x0) = y at hs s2
      by_cases e : p = y ∨ y = 0
      · rw [if_pos e] at hs; omega
      · rw [if_neg e] at hs
        by_cases e2 : p = 0
        · rw [if_pos e2] at hs; omega
        · omega
    · have hp : 0 < Pl := by grind
      have hm0 : 0 < m := by
        by_cases c : 0 < m
        · exact c
        · have := Rat.mul_nonneg hx (show 0 ≤ -m by grind)
          grind
      have hx0 : 0 < x0 := by
        by_cases c : x0 = 0
        · rw [c] at l1; grind
        · grind
      have sq : Pl * Pl - -4 * x0 * (-4 * x0) * P ≤ 0 := by
        have a1 := Rat.mul_nonneg (show 0 ≤ 4 * x0 * m - Pl by grind) (show 0 ≤ 4 * x0 * m + Pl by grind)
        have a2 := Rat.mul_nonneg (Rat.mul_nonneg hx hx) (show 0 ≤ P - m * m by grind)
        grind
      have s1 := sgQ_one hp
      have s2 := sgQ_m1 (show -4 * x0 < 0 by grind)
      have s3 := fin sq
      unfold surdF at hs
      rw [s1, s2, if_neg (by decide), if_neg (by decide), Int.one_mul] at hs
      omega
  ·
    have hx : x0 < 0 := by grind
    have hm0 : 0 < m := by grind
    generalize hPl : K - (x0 * x0 + 4 * P) = Pl at hs key
    have hn : 0 < -x0 * m := Rat.mul_pos (by grind) hm0
    have l1 : 4 * (-x0 * m) + 4 * (P - m * m) ≤ -Pl := by grind
    have hp : Pl < 0 := by grind
    have hB : 0 ≤ 4 * (-x0 * m) + 4 * (P - m * m) := by grind
    have sq : 0 ≤ Pl * Pl - -4 * x0 * (-4 * x0) * P := by
      have a1 := Rat.mul_nonneg (show 0 ≤ -Pl - (4 * (-x0 * m) + 4 * (P - m * m)) by grind) (show 0 ≤ -Pl + (4 * (-x0 * m) + 4 * (P - m * m)) by grind)
      have d := show 0 ≤ P - m * m by grind
      have a2 := Rat.mul_nonneg d (Rat.mul_nonneg (show 0 ≤ -x0 by grind) (show 0 ≤ 2 * m + x0 by grind))
      have a3 := Rat.mul_nonneg d d
      grind
    have s1 := sgQ_m1 hp
    have s2 := sgQ_one (show 0 < -4 * x0 by grind)
    unfold surdF at hs
    rw [s1, s2, if_neg (by decide), if_neg (by decide)] at hs
    generalize hz : Pl * Pl - -4 * x0 * (-4 * x0) * P = z at hs sq
    rcases sgQ_cases z with a | a | a
    · rw [a] at hs; exact absurd hs (by decide)
    · rw [a] at hs; exact absurd hs (by decide)
    · have := sgQ_neg.1 (show sgQ z < 0 by omega); grind
theorem sq_mono {c c' K : Rat} (h0 : 0 < c) (h : c ≤ c') (hK : c' * c' < K) : c * c < K := by
  have := Rat.mul_nonneg (show 0 ≤ c' - c by grind) (show 0 ≤ c' + c by grind)
  grind
theorem arc_top {u v w f : V2} {N : Rat} (hu : dt u u = N) (hv : dt v v = N) (hw : dt w w = N) (hT : crs u v ≠ 0) (hA : 0 ≤ crs u v * crs u w) (hB : 0 ≤ crs u v * crs w v) (h1 : dt u f < dt w f) (h2 : dt v f < dt w f) : insR u v f = true := by
  have hT2 : 0 < crs u v * crs u v := by
    have := rsq (crs u v)
    have hn : crs u v * crs u v ≠ 0 := fun h => hT (rsq0 h)
    grind
  have e1 : dt (vadd w u) (vadd w u) * (dt w f - dt u f) = 2 * crs u w * crs (vadd w u) f := by
    have : dt (vadd w u) (vadd w u) * (dt w f - dt u f) - 2 * crs u w * crs (vadd w u) f = (dt w w - dt u u) * dt (vadd w u) f := by unfold dt crs vadd; grind
    rw [hu, hw] at this; grind
  have e2 : dt (vadd w v) (vadd w v) * (dt w f - dt v f) = 2 * crs w v * crs f (vadd w v) := by
    have : dt (vadd w v) (vadd w v) * (dt w f - dt v f) - 2 * crs w v * crs f (vadd w v) = (dt w w - dt v v) * dt (vadd w v) f := by unfold dt crs vadd; grind
    rw [hv, hw] at this; grind
  have n1 : 0 < dt (vadd w u) (vadd w u) := by
    have nn := dt_nn (vadd w u)
    by_cases c : dt (vadd w u) (vadd w u) = 0
    · exfalso
      have s := sum0 c
      have s1 : w.1 + u.1 = 0 := s.1
      have s2 : w.2 + u.2 = 0 := s.2
      have : crs w v = -crs u v := by
        unfold crs
        rw [show w.1 = -u.1 by grind, show w.2 = -u.2 by grind]; grind
      rw [this] at hB; grind
    · grind
  have n2 : 0 < dt (vadd w v) (vadd w v) := by
    have nn := dt_nn (vadd w v)
    by_cases c : dt (vadd w v) (vadd w v) = 0
    · exfalso
      have s := sum0 c
      have s1 : w.1 + v.1 = 0 := s.1
      have s2 : w.2 + v.2 = 0 := s.2
      have : crs u w = -crs u v := by
        unfold crs
        rw [show w.1 = -v.1 by grind, show w.2 = -v.2 by grind]; grind
      rw [this] at hA; grind
    · grind
  have m1 := Rat.mul_pos n1 (show 0 < dt w f - dt u f by grind)
  have m2 := Rat.mul_pos n2 (show 0 < dt w f - dt v f by grind)
  rw [e1] at m1
  rw [e2] at m2
  have g1 : 0 < crs u v * crs (vadd w u) f := by
    have : (crs u v * crs u w) * (crs u v * crs (vadd w u) f) = (crs u v * crs u v) * (crs u w * crs (vadd w u) f) := by grind
    exact pos_of (x := crs u v * crs u w) (by rw [this]; exact Rat.mul_pos hT2 (by grind)) hA
  have g2 : 0 < crs u v * crs f (vadd w v) := by
    have : (crs u v * crs w v) * (crs u v * crs f (vadd w v)) = (crs u v * crs u v) * (crs w v * crs f (vadd w v)) := by grind
    exact pos_of (x := crs u v * crs w v) (by rw [this]; exact Rat.mul_pos hT2 (by grind)) hB
  have i1 : crs u v * crs (vadd w u) f = (crs u v + crs w v) * crs u f - crs u w * crs f v := by unfold crs vadd; grind
  have i2 : crs u v * crs f (vadd w v) = (crs u v + crs u w) * crs f v - crs w v * crs u f := by unfold crs vadd; grind
  rw [i1] at g1
  rw [i2] at g2
  generalize crs u w = A at *
  generalize crs w v = B at *
  have fx : 0 < crs u v * crs u f := by
    have p1 := Rat.mul_pos (Rat.mul_pos (show 0 < crs u v * crs u v + crs u v * A by grind) hT2) g1
    have p2 : 0 ≤ (crs u v * A) * (crs u v * crs u v) * ((crs u v + A) * crs f v - B * crs u f) := Rat.mul_nonneg (Rat.mul_nonneg hA (by grind)) (by grind)
    have e : (crs u v * crs u v + crs u v * A) * (crs u v * crs u v) * ((crs u v + B) * crs u f - A * crs f v) + (crs u v * A) * (crs u v * crs u v) * ((crs u v + A) * crs f v - B * crs u f) = ((crs u v * crs u v) * (crs u v * crs u v + crs u v * A + crs u v * B)) * (crs u v * crs u f) := by grind
    exact pos_of (x := (crs u v * crs u v) * (crs u v * crs u v + crs u v * A + crs u v * B)) (by rw [← e]; grind) (Rat.mul_nonneg (by grind) (by grind))
  have fz : 0 < crs u v * crs f v := by
    have p1 := Rat.mul_pos (Rat.mul_pos (show 0 < crs u v * crs u v + crs u v * B by grind) hT2) g2
    have p2 : 0 ≤ (crs u v * B) * (crs u v * crs u v) * ((crs u v + B) * crs u f - A * crs f v) := Rat.mul_nonneg (Rat.mul_nonneg hB (by grind)) (by grind)
    have e : (crs u v * crs u v + crs u v * B) * (crs u v * crs u v) * ((crs u v + A) * crs f v - B * crs u f) + (crs u v * B) * (crs u v * crs u v) * ((crs u v + B) * crs u f - A * crs f v) = ((crs u v * crs u v) * (crs u v * crs u v + crs u v * A + crs u v * B)) * (crs u v * crs f v) := by grind
    exact pos_of (x := (crs u v * crs u v) * (crs u v * crs u v + crs u v * A + crs u v * B)) (by rw [← e]; grind) (Rat.mul_nonneg (by grind) (by grind))
  unfold insR
  rw [sg_same fx, sg_same fz, decide_eq_false (fun h => hT (sgQ_zero.1 h)), decide_eq_true rfl]
  rfl
theorem inLF_1 {b : BarR} {m : Rat} (h : 0 < inLF b 1) (hm : m * m ≤ prodF b) (hc : 0 < xlF b + 2 * m) : (xlF b + 2 * m) * (xlF b + 2 * m) < 4 * (b.b2 * b.c2) := by
  unfold inLF plainF at h
  rw [four4, show ((-4 * 1 : Int) : Rat) = -4 from rfl] at h
  exact surd_mono h hm hc
theorem inLF_m {b : BarR} {m : Rat} (h : 0 < inLF b (-1)) (hm : m * m ≤ prodF b) (hc : xlF b + 2 * m < 0) : (xlF b + 2 * m) * (xlF b + 2 * m) < 4 * (b.b2 * b.c2) := by
  unfold inLF plainF at h
  rw [four4, show ((-4 * -1 : Int) : Rat) = 4 from rfl] at h
  have := surd_mono (K := 4 * (b.b2 * b.c2)) (x0 := -xlF b) (P := prodF b) (m := -m) (by
    rw [show -xlF b * -xlF b = xlF b * xlF b by grind, show -4 * -xlF b = 4 * xlF b by grind]; exact h) (by grind) (by grind)
  grind
theorem arc_disc {b : BarR} {u v w : V2} (hu : dt u u = b.a2) (hv : dt v v = b.a2) (hw : dt w w = b.a2) (hT : crs u v ≠ 0) (hA : 0 ≤ crs u v * crs u w) (hB : 0 ≤ crs u v * crs w v) (hb : betR b u v = true) : 0 < discQ b w := by
  have pu : posF b u = true := by
    unfold betR betG at hb
    cases h : posF b u
    · rw [h] at hb; cases insR u v b.f <;> cases insR u v (vneg b.f) <;> simp at hb
    · rfl
  have pv : posF b v = true := by
    unfold betR betG at hb
    cases h : posF b v
    · rw [h] at hb; cases insR u v b.f <;> cases insR u v (vneg b.f) <;> simp at hb
    · rfl
  have p1 : insR u v b.f = true → 0 < inLF b 1 := fun h => by
    unfold betR betG at hb
    rw [h, if_pos rfl] at hb
    cases h2 : decide (0 < inLF b 1)
    · rw [h2] at hb; cases insR u v (vneg b.f) <;> simp at hb
    · exact of_decide_eq_true h2
  have p2 : insR u v (vneg b.f) = true → 0 < inLF b (-1) := fun h => by
    unfold betR at hb
    rw [h, if_pos rfl, Bool.and_eq_true] at hb
    exact of_decide_eq_true hb.2
  have du := sgQ_pos.1 (of_decide_eq_true pu)
  have dv := sgQ_pos.1 (of_decide_eq_true pv)
  rw [disc_dt hu, four4] at du
  rw [disc_dt hv, four4] at dv
  rw [disc_dt hw, four4]
  have hl : dt w b.f * dt w b.f ≤ prodF b := by
    have := lagr w b.f
    have h2 := rsq (crs w b.f)
    unfold prodF
    rw [← hw]; grind
  have top : dt w b.f ≤ dt u b.f ∨ dt w b.f ≤ dt v b.f ∨ insR u v b.f = true := by
    by_cases h1 : dt w b.f ≤ dt u b.f
    · exact .inl h1
    by_cases h2 : dt w b.f ≤ dt v b.f
    · exact .inr (.inl h2)
    exact .inr (.inr (arc_top hu hv hw hT hA hB (by grind) (by grind)))
  have bot : dt u b.f ≤ dt w b.f ∨ dt v b.f ≤ dt w b.f ∨ insR u v (vneg b.f) = true := by
    by_cases h1 : dt u b.f ≤ dt w b.f
    · exact .inl h1
    by_cases h2 : dt v b.f ≤ dt w b.f
    · exact .inr (.inl h2)
    exact .inr (.inr (arc_top hu hv hw hT hA hB (by rw [dt_vneg, dt_vneg]; grind) (by rw [dt_vneg, dt_vneg]; grind)))
  have q1 := fun h hc => inLF_1 (b := b) (m := dt w b.f) (p1 h) hl hc
  have q2 := fun h hc => inLF_m (b := b) (m := dt w b.f) (p2 h) hl hc
  generalize dt w b.f = m at *
  generalize dt u b.f = mu at *
  generalize dt v b.f = mv at *
  generalize xlF b = x at *
  generalize 4 * (b.b2 * b.c2) = K at *
  suffices h : (x + 2 * m) * (x + 2 * m) < K by grind
  by_cases hc : 0 < x + 2 * m
  · rcases top with h | h | h
    · exact sq_mono hc (c' := x + 2 * mu) (by grind) (by grind)
    · exact sq_mono hc (c' := x + 2 * mv) (by grind) (by grind)
    · exact q1 h hc
  by_cases hd : x + 2 * m < 0
  · rcases bot with h | h | h
    · have := sq_mono (c := -(x + 2 * m)) (c' := -(x + 2 * mu)) (K := K) (by grind) (by grind) (by grind)
      grind
    · have := sq_mono (c := -(x + 2 * m)) (c' := -(x + 2 * mv)) (K := K) (by grind) (by grind) (by grind)
      grind
    · exact q2 h hd
  · have e : x + 2 * m = 0 := by grind
    have := rsq (x + 2 * mu)
    rw [e]; grind
theorem half_pos {u v : V2} {N : Rat} (hu : dt u u = N) (hv : dt v v = N) (hN : 0 < N) (hn : btwU u v = false) : 0 < N + dt u v := by
  have l := lagr u v
  rw [hu, hv] at l
  by_cases h : 0 < N + dt u v
  · exact h
  exfalso
  have e : (N + dt u v) * (N - dt u v) = crs u v * crs u v := by grind
  have n := rsq (crs u v)
  have p : 0 < N - dt u v := by grind
  have z : N + dt u v = 0 := by
    by_cases c : N + dt u v = 0
    · exact c
    · have := Rat.mul_pos (show 0 < -(N + dt u v) by grind) p
      grind
  rw [z] at e
  have c0 : crs u v = 0 := rsq0 (by grind)
  unfold btwU at hn
  rw [c0, sgQ_0, decide_eq_true rfl, Bool.true_and] at hn
  exact of_decide_eq_false hn (sgQ_neg.2 (by grind))
theorem arc_part {u v : V2} {N lam : Rat} (hu : dt u u = N) (hv : dt v v = N) (hN : 0 < N) (hh : 0 < N + dt u v) (l0 : 0 ≤ lam) (l1 : lam ≤ 1) {t : Rat} (ht : (N + dt u v) * t = lam * crs u v) :
    dt (rotF (some t) u) (rotF (some t) u) = N ∧ 0 ≤ crs u v * crs u (rotF (some t) u) ∧ 0 ≤ crs u v * crs (rotF (some t) u) v := by
  have l := lagr u v
  rw [hu, hv] at l
  have hd := dn_ne t
  have hp : 0 < 1 + t * t := by have := rsq t; grind
  have c1 : (dirT (some t)).1 * (1 + t * t) = 1 - t * t := by
    show (1 - t * t) / (1 + t * t) * (1 + t * t) = _
    rw [Rat.div_mul_cancel hd]
  have c2 : (dirT (some t)).2 * (1 + t * t) = t + t := by
    show (t + t) / (1 + t * t) * (1 + t * t) = _
    rw [Rat.div_mul_cancel hd]
  have hA : (1 + t * t) * crs u (rotF (some t) u) = 2 * t * N := by
    have : crs u (rotF (some t) u) = (dirT (some t)).2 * dt u u := by
      unfold crs rotF dt
      simp only []
      grind
    rw [this, hu]
    have : (1 + t * t) * ((dirT (some t)).2 * N) = ((dirT (some t)).2 * (1 + t * t)) * N := by grind
    rw [this, c2]; grind
  have hB : (1 + t * t) * crs (rotF (some t) u) v = (1 - t * t) * crs u v - 2 * t * dt u v := by
    have : crs (rotF (some t) u) v = (dirT (some t)).1 * crs u v - (dirT (some t)).2 * dt u v := by
      unfold crs rotF dt
      simp only []
      grind
    rw [this]
    have : (1 + t * t) * ((dirT (some t)).1 * crs u v - (dirT (some t)).2 * dt u v) = ((dirT (some t)).1 * (1 + t * t)) * crs u v - ((dirT (some t)).2 * (1 + t * t)) * dt u v := by grind
    rw [this, c1, c2]; grind
  refine ⟨by rw [rot_dt, hu], ?_, ?_⟩
  · have tt : 0 ≤ t * crs u v := by
      have e : (N + dt u v) * (t * crs u v) = lam * (crs u v * crs u v) := by
        have : (N + dt u v) * (t * crs u v) = ((N + dt u v) * t) * crs u v := by grind
        rw [this, ht]; grind
      exact neg_iff (x := N + dt u v) (by rw [e]; exact Rat.mul_nonneg l0 (rsq _)) hh
    have e : (1 + t * t) * (crs u v * crs u (rotF (some t) u)) = 2 * N * (t * crs u v) := by
      have : (1 + t * t) * (crs u v * crs u (rotF (some t) u)) = crs u v * ((1 + t * t) * crs u (rotF (some t) u)) := by grind
      rw [this, hA]; grind
    exact neg_iff (x := 1 + t * t) (by rw [e]; exact Rat.mul_nonneg (by grind) tt) hp
  · generalize crs (rotF (some t) u) v = B at hB ⊢
    generalize crs u v = T at *
    generalize dt u v = E at *
    have ee : (N - E) * (N + E) = T * T := by grind
    have e : ((N + E) * (N + E) * (1 + t * t)) * (T * B) = (T * T) * ((N + E) * ((1 - lam) * ((N + E) + lam * (N - E)))) := by
      have s1 : ((N + E) * (N + E) * (1 + t * t)) * (T * B) = T * ((N + E) * (N + E)) * ((1 + t * t) * B) := by grind
      rw [s1, hB]
      have s2 : T * ((N + E) * (N + E)) * ((1 - t * t) * T - 2 * t * E) = T * (((N + E) * (N + E) - ((N + E) * t) * ((N + E) * t)) * T - 2 * ((N + E) * t) * (N + E) * E) := by grind
      rw [s2, ht]
      have s3 : T * (((N + E) * (N + E) - lam * T * (lam * T)) * T - 2 * (lam * T) * (N + E) * E) = (T * T) * ((N + E) * (N + E) - lam * lam * (T * T) - 2 * lam * (N + E) * E) := by grind
      rw [s3, ← ee]; grind
    have hE : 0 ≤ N - E := by
      by_cases c : 0 ≤ N - E
      · exact c
      · have := Rat.mul_pos (show 0 < -(N - E) by grind) hh
        have := rsq T
        grind
    refine neg_iff (x := (N + E) * (N + E) * (1 + t * t)) ?_ (Rat.mul_pos (Rat.mul_pos hh hh) hp)
    rw [e]
    exact Rat.mul_nonneg (rsq T) (Rat.mul_nonneg (by grind) (Rat.mul_nonneg (by grind) (by have := Rat.mul_nonneg l0 hE; grind)))
theorem disc_sgn {ps : List Po} {d e : Dy} (he : pasB ps e = true) {i : Nat} (hi : i < ps.length) (h : 0 < discQ (barO d e) (dirF d (poG ps i))) : sgnF d e (poG ps i) ≠ 0 := by
  have pe := pas_dir he hi
  generalize poG ps i = p at *
  have hb : b2F d e = dt (vsub (appF p e.2.1) (appF p d.2.1)) (vsub (appF p e.2.1) (appF p d.2.1)) := by
    rw [app_sub, rot_dt]; rfl
  have hd : discQ (barO d e) (dirF d p) = 4 * (b2F d e * e.2.2) - ((b2F d e + e.2.2) - dt (vsub (vsub e.1 d.1) (dirF d p)) (vsub (vsub e.1 d.1) (dirF d p))) * ((b2F d e + e.2.2) - dt (vsub (vsub e.1 d.1) (dirF d p)) (vsub (vsub e.1 d.1) (dirF d p))) := rfl
  rw [hd, hb, ← pe] at h
  unfold sgnF
  rw [sgI_num]
  unfold dirF at h
  generalize appF p e.2.1 = B at *
  generalize appF p d.2.1 = A at *
  intro hz
  have hz := sgQ_zero.1 hz
  have key : 4 * (dt (vsub B A) (vsub B A) * dt (vsub B e.1) (vsub B e.1)) - ((dt (vsub B A) (vsub B A) + dt (vsub B e.1) (vsub B e.1)) - dt (vsub (vsub e.1 d.1) (vsub A d.1)) (vsub (vsub e.1 d.1) (vsub A d.1))) * ((dt (vsub B A) (vsub B A) + dt (vsub B e.1) (vsub B e.1)) - dt (vsub (vsub e.1 d.1) (vsub A d.1)) (vsub (vsub e.1 d.1) (vsub A d.1))) = 4 * (crs (vsub B A) (vsub e.1 A) * crs (vsub B A) (vsub e.1 A)) := by
    unfold dt crs vsub
    simp only []
    grind
  rw [key, hz] at h
  grind
end Lift
namespace Lift
open Go
open Go.RowKit (Below)
section
variable {P : Program} {T : Ty} {B : Nat} {F0 : Nat → Prop} {w0 : Bas} {n : Nat} {σ τ σ0 : St} {ops all : Array Oper} {l rest : List Oper} {o : Oper} {d : Nat} {lk hm : Nat → Option AV} {K : St → Prop} {ds : List Nat}
theorem TIok.kind9 {t : Nat} {i : TI} {info : TypeInfo} {d : TypeDesc} {z : Value} (h : TIok P t i info d z) (hk : Nat.beq i.kind 9 = true) : ∃ n, P.underlying t = some (.array n i.elem) ∧ i.fields = [(n, P.cellsOf i.elem, true)] := by
  have hk := Nat.eq_of_beq_eq_true hk
  have hd := h.desc
  have hu := h.und
  cases d <;> simp [descOk, hk] at hd
  rename_i n e
  obtain ⟨⟨_, h1⟩, h2⟩ := hd
  exact ⟨n, by rw [h1]; exact hu, by rw [h1, h2]⟩
def ixaF (T : Ty) (lk hm : Nat → Option AV) : Op → Option (Int × AV)
  | .indexAddr t x i => match T.get t, scal (datF T (ex T lk 0 i)) with
    | some ti, some (.int _ iv) => match Nat.beq ti.kind 9, ti.fields, T.get ti.elem with
      | true, (m, s, _) :: _, some _ => match Nat.ble (iv.toNat + 1) m with
        | true => match addrF hm (iv.toNat * s) (ex T lk 0 x) with
          | some r => some (iv, r)
          | none => none
        | false => none
      | _, _, _ => none
    | _, _ => none
  | _ => none
theorem PStep.ixa (hT : TOk P T) {iv : Int} {r : AV} (hd : o.dst = some d) (hn : hm d = none) (hx : ixaF T lk hm o.op = some (iv, r)) (h0 : 0 ≤ iv) : PStep P B F0 w0 d o lk hm r := by
  refine ⟨hd, hn, fun a w O hI K Q hK => ?_⟩
  obtain ⟨dst, op, ty, pos, after, guard⟩ := o
  simp only [] at hd hx hI
  cases op <;> simp only [ixaF] at hx <;> try (cases hx; done)
  rename_i t x i
  split at hx <;> try (cases hx; done)
  rename_i ti k iv' hti hi
  split at hx <;> try (cases hx; done)
  rename_i m s g fr te hk hf hte
  split at hx <;> try (cases hx; done)
  rename_i hle
  split at hx <;> simp at hx
  rename_i r' ha
  obtain ⟨rfl, rfl⟩ := hx
  have hle := Nat.le_of_ble_eq_true hle
  obtain ⟨info, dd, z, hok⟩ := hT t ti hti
  obtain ⟨info', dd', z', hok'⟩ := hT _ te hte
  obtain ⟨m', hu, hfl⟩ := hok.kind9 hk
  rw [hf] at hfl
  simp only [List.cons.injEq, Prod.mk.injEq] at hfl
  obtain ⟨⟨rfl, rfl, _⟩, _⟩ := hfl
  have hiv := (scal_ex hT hI (fun t ht => by subst ht; simp [Op.operands]) hi).1
  cases hxe : ex T lk 0 x with
  | none => rw [hxe] at ha; simp [addrF] at ha
  | some b =>
    rw [hxe] at ha
    have hr := (ex_sound hI (fun t ht => by subst ht; simp [Op.operands]) hxe d).1
    obtain ⟨b, o', hv, hr'⟩ := addrF_sound hr ha
    have h1 : 0 ≤ iv' ∧ iv' < (m : Int) := by omega
    refine wp_val (v := .pointer (some ⟨b, o' + iv'.toNat * P.cellsOf ti.elem, none⟩)) (w' := w) ?_ (hK _ w O (Grow.refl hI.lt) hr')
    simp [execOp, Instr.indexAt, hv, hiv, asIntOf, run_underlying hu, Instr.sureAddr, h1, Go.sizeOf, typeInfo, hok'.hinfo, hok'.size, hok'.cellsOf, Addr.add_lit]
theorem AOps.ixa (hT : TOk P T) {iv : Int} {r : AV} (hd : o.dst = some d) (hdn : Nat.ble (d + 1) n = true) (hg : guardOk all σ o = true) (hx : ixaF T σ.get (hmx σ d) o.op = some (iv, r)) (h0 : 0 ≤ iv) (hh : r.home = false)
    (h : AOps P B F0 w0 n all rest K ((d, r) :: σ)) : AOps P B F0 w0 n all (o :: rest) K σ := AOps.pure hg hdn (PStep.ixa hT hd (hmx_self σ d) hx h0) (by rw [St.put, hh]; exact h)
end
end Lift
namespace Lift
open Go Go.Proofs
set_option maxHeartbeats 800000 in
theorem law50_disc_ok (d e : Dy) (u : V2) {k : Nat} (hd : szD d ≤ k) (he : szD e ≤ k) (hu : szV u ≤ k) (hk : k ≤ 10000) : Pure Tryz.prog 32 [FourD (DyQ d) (DyQ e), (VQ u).D] (Qr (discQ (barO d e) u)).D := by
  refine Pure.intro (n := 44) tok Tryz.func32 rfl rfl rfl (Nat.le_of_ble_eq_true rfl) (by kernel_rfl) (fun B F0 w0 => ?_)
  have hd := szD_1 hd
  have he := szD_1 he
  have hD : discQ (barO d e) u = ((4 : Int) : Rat) * (dt (vsub e.2.1 d.2.1) (vsub e.2.1 d.2.1) * e.2.2) - ((dt (vsub e.2.1 d.2.1) (vsub e.2.1 d.2.1) + e.2.2) - dt (vsub (vsub e.1 d.1) u) (vsub (vsub e.1 d.1) u)) * ((dt (vsub e.2.1 d.2.1) (vsub e.2.1 d.2.1) + e.2.2) - dt (vsub (vsub e.1 d.1) u) (vsub (vsub e.1 d.1) u)) := rfl
  rw [hD]
  clear hD
  obtain ⟨dc, dm, a2⟩ := d
  obtain ⟨ec, em, c2⟩ := e
  simp only [] at hd he ⊢
  have m1 := r17_Less_ok ec dc (k := k) he.1 hd.1 (by omega)
  have z1 := szV_sub ec dc he.1 hd.1
  generalize vsub ec dc = f at m1 z1 ⊢
  have m2 := r17_Less_ok em dm (k := k) he.2.1 hd.2.1 (by omega)
  have z2 := szV_sub em dm he.2.1 hd.2.1
  generalize vsub em dm = g at m2 z2 ⊢
  have m3 := r17_Square_ok g z2 (by omega)
  have z3 := (LQ_dt g g z2 z2).1
  generalize dt g g = b at m3 z3 ⊢
  have m4 := fraction_Add_ok (Qr b) (Qr c2) (k := 10 * k + 10) (Qr_w _ (by omega)) (Qr_w _ (by omega)) (by omega)
  rw [Qr_val, Qr_val] at m4
  have z4 := LQ_add b c2
  have m5 := r17_Less_ok f u (k := 2 * k + 1) (by omega) (by omega) (by omega)
  have z5 := szV_sub f u (k := 2 * k + 1) (m := 2 * k + 1) (by omega) (by omega)
  generalize vsub f u = w at m5 z5 ⊢
  have m6 := r17_Square_ok w z5 (by omega)
  have z6 := (LQ_dt w w z5 z5).1
  generalize dt w w = q at m6 z6 ⊢
  have m7 := fraction_Sub_ok (Qr (b + c2)) (Qr q) (k := 40 * k + 40) (Qr_w _ (by omega)) (Qr_w _ (by omega)) (by omega)
  rw [Qr_val, Qr_val] at m7
  have z7 := LQ_sub (b + c2) q
  generalize (b + c2) - q = x at m7 z7 ⊢
  have m8 := fraction_Of_ok 4 (by decide) (by decide)
  have z8 := LQ_four 4 (by decide)
  generalize ((4 : Int) : Rat) = r4 at m8 z8 ⊢
  have m9 := fraction_Mul_ok (Qr b) (Qr c2) (k := 10 * k + 10) (Qr_w _ (by omega)) (Qr_w _ (by omega)) (by omega)
  rw [Qr_val, Qr_val] at m9
  have z9 := LQ_mul b c2
  generalize b * c2 = y at m9 z9 ⊢
  have m10 := fraction_Mul_ok (Qr r4) (Qr y) (k := 40 * k + 40) (Qr_w _ (by omega)) (Qr_w _ (by omega)) (by omega)
  rw [Qr_val, Qr_val] at m10
  have z10 := LQ_mul r4 y
  have m11 := fraction_Mul_ok (Qr x) (Qr x) (k := 100 * k + 100) (Qr_w _ (by omega)) (Qr_w _ (by omega)) (by omega)
  rw [Qr_val] at m11
  have z11 := LQ_mul x x
  have m12 := fraction_Sub_ok (Qr (r4 * y)) (Qr (x * x)) (k := 300 * k + 300) (Qr_w _ (by omega)) (Qr_w _ (by omega)) (by omega)
  rw [Qr_val, Qr_val] at m12
  refine AW.seq ?_
  refine AW.region ?_
  refine AOps.run tok 3 _ _ _ _ rfl ?_
  refine AOps.nil ?_
  refine AW.seq ?_
  refine AW.region ?_
  refine AOps.run tok 6 _ _ _ _ rfl ?_
  refine AOps.call tok rfl rfl rfl rfl m1 ?_
  refine AOps.run tok 2 _ _ _ _ rfl ?_
  refine AOps.nil ?_
  refine AW.seq ?_
  refine AW.region ?_
  refine AOps.run tok 6 _ _ _ _ rfl ?_
  refine AOps.call tok rfl rfl rfl rfl m2 ?_
  refine AOps.call tok rfl rfl rfl rfl m3 ?_
  refine AOps.run tok 2 _ _ _ _ rfl ?_
  refine AOps.nil ?_
  refine AW.seq ?_
  refine AW.draw hmix 11 (by kernel_rfl) ?_
  refine APre.run tok 4 _ _ _ _ rfl ?_
  refine APre.call tok rfl rfl rfl rfl rfl m4 ?_
  refine APre.run tok 2 _ _ _ _ rfl ?_
  refine APre.call tok rfl rfl rfl rfl rfl m5 ?_
  refine APre.call tok rfl rfl rfl rfl rfl m6 ?_
  refine APre.call tok rfl rfl rfl rfl rfl m7 ?_
  refine APre.run tok 1 _ _ _ _ rfl ?_
  refine APre.nil ?_
  refine AOps.run tok 1 _ _ _ _ rfl ?_
  refine AOps.nil ?_
  refine AW.seq ?_
  refine AW.draw hmix 11 (by kernel_rfl) ?_
  refine APre.call tok rfl rfl rfl rfl rfl m8 ?_
  refine APre.run tok 4 _ _ _ _ rfl ?_
  refine APre.call tok rfl rfl rfl rfl rfl m9 ?_
  refine APre.call tok rfl rfl rfl rfl rfl m10 ?_
  refine APre.run tok 2 _ _ _ _ rfl ?_
  refine APre.call tok rfl rfl rfl rfl rfl m11 ?_
  refine APre.call tok rfl rfl rfl rfl rfl m12 ?_
  refine APre.nil ?_
  refine AOps.run tok 1 _ _ _ _ rfl ?_
  refine AOps.nil ?_
  exact AW.ret rfl
theorem part_01 {b : Int} (h0 : 0 ≤ b) (h1 : b ≤ 255) : 0 ≤ Rat.divInt b 255 ∧ Rat.divInt b 255 ≤ 1 := by
  have e : Rat.divInt b 255 * 255 = (b : Rat) := by
    rw [Rat.divInt_eq_div]
    exact Rat.div_mul_cancel (by decide)
  have g0 : (0 : Rat) ≤ (b : Rat) := Rat.intCast_nonneg.2 h0
  have g1 : (b : Rat) ≤ ((255 : Int) : Rat) := Rat.intCast_le_intCast.2 h1
  rw [show ((255 : Int) : Rat) = 255 from rfl] at g1
  generalize Rat.divInt b 255 = x at e ⊢
  constructor
  · exact neg_iff (x := 255) (by grind) (by decide)
  · grind
theorem part_sz {b : Int} (h0 : 0 ≤ b) (h1 : b ≤ 255) : LQ (Rat.divInt b 255) ≤ 2 := by
  refine Nat.le_trans (LQ_divInt b 255 (by decide)) ?_
  have l1 : L b ≤ 1 := L_le (by rw [Nat.pow_one]; omega)
  have l2 : L 255 ≤ 1 := L_le (by rw [Nat.pow_one]; decide)
  omega
theorem app_turn (t : Rat) (u : V2) : appF (some t, (0, 0)) u = rotF (some t) u := by
  show vadd (rotF (some t) u) (0, 0) = _
  exact Prod.ext (by show _ + (0 : Rat) = _; grind) (by show _ + (0 : Rat) = _; grind)
theorem turn_pose (t : Rat) : (PoQ (some t, (0, 0))).D = .ag [dB (Qr t).g, Wd (Qr t).n, Wd (Qr t).d, dB false, dB false, .sl 1 [], .sl 1 [], dB false, .sl 1 [], .sl 1 []] := by
  show D.ag [dB (Qr t).g, Wd (Qr t).n, Wd (Qr t).d, dB false, dB (Qr 0).g, Wd (Qr 0).n, Wd (Qr 0).d, dB (Qr 0).g, Wd (Qr 0).n, Wd (Qr 0).d] = _
  rw [Qr_zero]; rfl
theorem inside_plain {ps : List Po} {d e : Dy} (g : Good ps d e) {i : Nat} (hi : i + 1 < ps.length) (hb : btwV (rdB ps d e) (dirF d (poG ps i)) (dirF d (poG ps (i + 1))) = true) (hn : btwU (dirF d (poG ps i)) (dirF d (poG ps (i + 1))) = false) :
    sgnF d e (poG ps i) ≠ 0 ∧ sgnF d e (poG ps (i + 1)) ≠ 0 ∧ d.2.2 + dt (dirF d (poG ps i)) (dirF d (poG ps (i + 1))) ≠ 0 ∧ 0 < discQ (barO d e) (dirF d (poG ps (i + 1))) ∧
    ∀ lam : Rat, 0 ≤ lam → lam ≤ 1 → 0 < discQ (barO d e) (rotF (some (crs (dirF d (poG ps i)) (dirF d (poG ps (i + 1))) / (d.2.2 + dt (dirF d (poG ps i)) (dirF d (poG ps (i + 1)))) * lam)) (dirF d (poG ps i))) := by
  rw [g.btw hi] at hb
  have pu := pas_dir g.pd (i := i) (by omega)
  have pv := pas_dir g.pd hi
  have s1 := disc_sgn (d := d) (e := e) g.pe (i := i) (by omega)
  have s2 := disc_sgn (d := d) (e := e) g.pe hi
  have ap := g.ap
  have hbu : posF (barO d e) (dirF d (poG ps i)) = true := by
    unfold betR betG at hb
    cases h : posF (barO d e) (dirF d (poG ps i))
    · rw [h] at hb; cases insR (dirF d (poG ps i)) (dirF d (poG ps (i + 1))) (barO d e).f <;> cases insR (dirF d (poG ps i)) (dirF d (poG ps (i + 1))) (vneg (barO d e).f) <;> simp at hb
    · rfl
  have hbv : posF (barO d e) (dirF d (poG ps (i + 1))) = true := by
    rw [betR_comm] at hb
    unfold betR betG at hb
    cases h : posF (barO d e) (dirF d (poG ps (i + 1)))
    · rw [h] at hb; cases insR (dirF d (poG ps (i + 1))) (dirF d (poG ps i)) (barO d e).f <;> cases insR (dirF d (poG ps (i + 1))) (dirF d (poG ps i)) (vneg (barO d e).f) <;> simp at hb
    · rfl
  have du := sgQ_pos.1 (of_decide_eq_true hbu)
  have dv := sgQ_pos.1 (of_decide_eq_true hbv)
  have h1 := s1 du
  have h2 := s2 dv
  have ha2 : (barO d e).a2 = d.2.2 := rfl
  generalize dirF d (poG ps i) = u at *
  generalize dirF d (poG ps (i + 1)) = v at *
  have hh := half_pos pu pv ap hn
  refine ⟨h1, h2, by grind, dv, fun lam l0 l1 => ?_⟩
  have hne : d.2.2 + dt u v ≠ 0 := by grind
  have ht : (d.2.2 + dt u v) * (crs u v / (d.2.2 + dt u v) * lam) = lam * crs u v := by
    have : (d.2.2 + dt u v) * (crs u v / (d.2.2 + dt u v) * lam) = (crs u v / (d.2.2 + dt u v) * (d.2.2 + dt u v)) * lam := by grind
    rw [this, Rat.div_mul_cancel hne]; grind
  by_cases hT : crs u v = 0
  · have t0 : crs u v / (d.2.2 + dt u v) * lam = 0 := by
      rw [hT] at ht ⊢
      rcases Rat.mul_eq_zero.1 (show (d.2.2 + dt u v) * (0 / (d.2.2 + dt u v) * lam) = 0 by grind) with h | h
      · exact absurd h hne
      · exact h
    rw [t0]
    have : rotF (some 0) u = u := by
      have d1 : dirT (some 0) = (1, 0) := by
        show ((1 - (0 : Rat) * 0) / (1 + 0 * 0), (0 + 0 : Rat) / (1 + 0 * 0)) = (1, 0)
        decide +kernel
      unfold rotF
      rw [d1]
      exact Prod.ext (by show (1 : Rat) * u.1 - 0 * u.2 = u.1; grind) (by show (0 : Rat) * u.1 + 1 * u.2 = u.2; grind)
    rw [this]; exact du
  · obtain ⟨q1, q2, q3⟩ := arc_part pu pv ap hh l0 l1 ht
    exact arc_disc (b := barO d e) (u := u) (v := v) pu pv q1 hT q2 q3 hb
theorem disc_sz {d e : Dy} {w : V2} {k : Nat} (hd : szD d ≤ k) (he : szD e ≤ k) (hw : szV w ≤ k) : LQ (discQ (barO d e) w) ≤ 1000 * k + 1000 := by
  have hd' := szD_1 hd
  have he' := szD_1 he
  have zf := szV_sub e.1 d.1 he'.1 hd'.1
  have zb : LQ (b2F d e) ≤ 8 * k + 5 := by
    have z1 := szV_sub e.2.1 d.2.1 he'.2.1 hd'.2.1
    have := (LQ_dt _ _ z1 z1).1
    show LQ (dt _ _) ≤ _
    exact Nat.le_trans this (by omega)
  have z2 := szV_sub (vsub e.1 d.1) w zf hw
  have z3 := (LQ_dt _ _ z2 z2).1
  have z4 := LQ_mul (b2F d e) e.2.2
  have z5 := LQ_mul ((4 : Int) : Rat) (b2F d e * e.2.2)
  have zo := LQ_four 4 (by decide)
  have z6 := LQ_add (b2F d e) e.2.2
  have z7 := LQ_sub (b2F d e + e.2.2) (dt (vsub (vsub e.1 d.1) w) (vsub (vsub e.1 d.1) w))
  have z8 := LQ_mul ((b2F d e + e.2.2) - dt (vsub (vsub e.1 d.1) w) (vsub (vsub e.1 d.1) w)) ((b2F d e + e.2.2) - dt (vsub (vsub e.1 d.1) w) (vsub (vsub e.1 d.1) w))
  have z9 := LQ_sub (((4 : Int) : Rat) * (b2F d e * e.2.2)) (((b2F d e + e.2.2) - dt (vsub (vsub e.1 d.1) w) (vsub (vsub e.1 d.1) w)) * ((b2F d e + e.2.2) - dt (vsub (vsub e.1 d.1) w) (vsub (vsub e.1 d.1) w)))
  show LQ (((4 : Int) : Rat) * (b2F d e * e.2.2) - ((b2F d e + e.2.2) - dt (vsub (vsub e.1 d.1) w) (vsub (vsub e.1 d.1) w)) * ((b2F d e + e.2.2) - dt (vsub (vsub e.1 d.1) w) (vsub (vsub e.1 d.1) w))) ≤ _
  omega
abbrev KD (a b : Int) : D := .ag [.v (.int .u8 a), .v (.int .u8 b)]
set_option maxHeartbeats 3200000 in
theorem law50_Inside_ok (l : List PoD) (d e : DyD) (a b : Int) (h : ok50 l d e) (a0 : 0 ≤ a) (a1 : a ≤ 255) (b0 : 0 ≤ b) (b1 : b ≤ 255) : Pure Tryz.prog 8 [PoL l, FourD d e, KD a b] (dB true) := by
  refine Pure.intro (n := 166) tok Tryz.func8 rfl rfl rfl (Nat.le_of_ble_eq_true rfl) (by kernel_rfl) (fun B F0 w0 => ?_)
  have cA := law50_awake_ok
  have cS := law50_short_ok l d e h.1
  refine AW.seq ?_
  refine AW.region ?_
  refine AOps.run tok 3 _ _ _ _ rfl ?_
  refine AOps.nil ?_
  refine AW.seq ?_
  refine AW.seq ?_
  refine AW.region ?_
  refine AOps.call tok rfl rfl rfl rfl cA ?_
  refine AOps.run tok 4 _ _ _ _ rfl ?_
  refine AOps.call tok rfl rfl rfl rfl cS ?_
  cases hs : shortB l d e with
  | false =>
    refine AOps.run tok 7 _ _ _ _ rfl ?_
    refine AOps.nil ?_
    refine AW.condT rfl ?_
    refine AW.seq ?_
    refine AW.region ?_
    refine AOps.call tok rfl rfl rfl rfl cA ?_
    refine AOps.run tok 1 _ _ _ _ rfl ?_
    refine AOps.nil ?_
    exact AW.ret rfl
  | true =>
  obtain ⟨hl, hw, hd, he⟩ := short_w h hs
  refine AOps.run tok 5 _ _ _ _ rfl ?_
  rw [List.length_map]
  refine AOps.run tok 1 _ _ _ _ rfl ?_
  by_cases h2 : (l.length : Int) < 2
  · rw [decide_eq_true h2]
    refine AOps.run tok 1 _ _ _ _ rfl ?_
    refine AOps.nil ?_
    refine AW.condT rfl ?_
    refine AW.seq ?_
    refine AW.region ?_
    refine AOps.call tok rfl rfl rfl rfl cA ?_
    refine AOps.run tok 1 _ _ _ _ rfl ?_
    refine AOps.nil ?_
    exact AW.ret rfl
  rw [decide_eq_false h2]
  refine AOps.run tok 1 _ _ _ _ rfl ?_
  refine AOps.nil ?_
  refine AW.condF rfl ?_
  refine AW.skip ?_
  refine AW.seq ?_
  refine AW.region ?_
  refine AOps.ixa tok rfl rfl rfl rfl (Int.le_refl _) rfl ?_
  refine AOps.run tok 4 _ _ _ _ rfl ?_
  rw [List.length_map, wI64 (x := a) (by omega) (by omega)]
  refine AOps.run tok 1 _ _ _ _ rfl ?_
  rw [wI64 (x := (l.length : Int) - 1) (by omega) (by omega)]
  obtain ⟨A, rfl⟩ : ∃ A : Nat, a = (A : Int) := ⟨a.toNat, by omega⟩
  obtain ⟨n, hn⟩ : ∃ n : Nat, l.length = n + 1 := ⟨l.length - 1, by omega⟩
  rw [show (l.length : Int) - 1 = (n : Int) by omega]
  refine AOps.div tok rfl rfl rfl rfl (by omega) ?_
  rw [show divV false .i64 (A : Int) (n : Int) = .int .i64 ((A % n : Nat) : Int) from rfl]
  refine AOps.run tok 1 _ _ _ _ rfl ?_
  refine AOps.nil ?_
  have hi : A % n < n := Nat.mod_lt _ (by omega)
  generalize A % n = i at hi ⊢
  have c1 := defects_Between_ok l d e (i : Int) (by omega) hw hd he (by decide) (by decide) (by omega) (by omega)
  have c2 := defects_Signs_ok l d e (by omega) hw hd he (by decide) (by decide)
  by_cases hc : chkD l d e = 0
  rotate_left
  · unfold betweenD at c1
    unfold signsD at c2
    rw [if_pos hc] at c1
    rw [if_neg hc] at c2
    obtain ⟨m, hm⟩ : ∃ m, chkD l d e = m + 1 := ⟨chkD l d e - 1, by omega⟩
    rw [hm] at c1 c2
    refine AW.seq ?_
    refine AW.region ?_
    refine AOps.run tok 6 _ _ _ _ rfl ?_
    refine AOps.call tok rfl rfl rfl rfl c1 ?_
    refine AOps.run tok 5 _ _ _ _ rfl ?_
    refine AOps.nil ?_
    refine AW.seq ?_
    refine AW.region ?_
    refine AOps.run tok 5 _ _ _ _ rfl ?_
    refine AOps.call tok rfl rfl rfl rfl c2 ?_
    refine AOps.run tok 5 _ _ _ _ rfl ?_
    refine AOps.nil ?_
    refine AW.seq ?_
    refine AW.seq ?_
    refine AW.region ?_
    refine AOps.run tok 1 _ _ _ _ rfl ?_
    refine AOps.err tok rfl rfl rfl rfl rfl ?_
    refine AOps.run tok 4 _ _ _ _ rfl ?_
    refine AOps.nil ?_
    refine AW.condT rfl ?_
    refine AW.seq ?_
    refine AW.region ?_
    refine AOps.run tok 4 _ _ _ _ rfl ?_
    refine AOps.err tok rfl rfl rfl rfl rfl ?_
    refine AOps.run tok 6 _ _ _ _ rfl ?_
    refine AOps.nil ?_
    exact AW.ret rfl
  have G := chk_good hc
  obtain ⟨q1, q2, q3⟩ := ok_canon hw hd he hc
  have hml : (l.map PoD.val).length = l.length := List.length_map ..
  have zl := szL_val hw (by decide)
  have zd := szD_val hd (by decide)
  have ze := szD_val he (by decide)
  unfold betweenD at c1
  unfold signsD at c2
  rw [if_neg (by rw [hc]; simp), if_neg (by omega), show ((i : Int)).toNat = i from rfl, u_get _ _ _ (by omega), u_get _ _ _ (by omega)] at c1
  rw [if_pos hc] at c2
  have hi1 : i + 1 < (l.map PoD.val).length := by omega
  have K := inside_plain G (i := i) hi1
  have cD1 := r50_Direction_ok (poG (l.map PoD.val) i) d.val (k := 6) (zl i (by omega)) zd (by decide) (by decide)
  have cD2 := r50_Direction_ok (poG (l.map PoD.val) (i + 1)) d.val (k := 6) (zl (i + 1) hi1) zd (by decide) (by decide)
  have hd' := szD_1 zd
  have zu : szV (dirF d.val (poG (l.map PoD.val) i)) ≤ 83 := Nat.le_trans (szV_sub _ _ (szV_app _ d.val.2.1 (zl i (by omega)) hd'.2.1 (by decide)) hd'.1) (by decide)
  have zv : szV (dirF d.val (poG (l.map PoD.val) (i + 1))) ≤ 83 := Nat.le_trans (szV_sub _ _ (szV_app _ d.val.2.1 (zl (i + 1) hi1) hd'.2.1 (by decide)) hd'.1) (by decide)
  have eL : l.map PoD.D = (l.map PoD.val).map (fun p => (PoQ p).D) := by
    have : ((l.map PoD.val).map PoQ).map PoD.D = (l.map PoD.val).map (fun p => (PoQ p).D) := by rw [List.map_map]; rfl
    rw [← this, ← q1]
  have g1 := getPs (ps := l.map PoD.val) (i := i) (by omega)
  have g2 := getPs (ps := l.map PoD.val) hi1
  rw [← eL] at g1 g2
  have g1 : (l.map PoD.D)[i]? = some (PoQ (poG (l.map PoD.val) i)).D := g1
  have g2 : (l.map PoD.D)[i + 1]? = some (PoQ (poG (l.map PoD.val) (i + 1))).D := g2
  have gS : ∀ j, j < (l.map PoD.val).length → (IL ((l.map PoD.val).map (sgnF d.val e.val)))[j]? = some (dI (sgnF d.val e.val (poG (l.map PoD.val) j))) := fun j hj => by
    unfold poG
    show (((l.map PoD.val).map (sgnF d.val e.val)).map (fun n => dI n))[j]? = _
    rw [List.getElem?_map, List.getElem?_map, List.getElem?_eq_getElem hj, List.getD_eq_getElem?_getD, List.getElem?_eq_getElem hj]; rfl
  have gS1 := gS i (by omega)
  have gS2 := gS (i + 1) hi1
  have hSl : ((l.map PoD.val).map (sgnF d.val e.val)).length = l.length := by rw [List.length_map, hml]
  have cX := fun w (hw : szV w ≤ 8000) => law50_disc_ok d.val e.val w (k := 8000) (by omega) (by omega) hw (by decide)
  rw [← q2] at cD1 cD2
  rw [← q2, ← q3] at cX
  have hrw : d.r.w 6 := hd.2.2
  have hrv : d.r.val = d.val.2.2 := rfl
  have hdr : LQ d.val.2.2 ≤ 6 := hd'.2.2
  have er : d.r = Qr d.val.2.2 := congrArg DyD.r q2
  generalize poG (l.map PoD.val) i = p at *
  generalize poG (l.map PoD.val) (i + 1) = q at *
  generalize (l.map PoD.val).map (sgnF d.val e.val) = S at c2 gS1 gS2 hSl
  unfold btwD at c1
  generalize btwV (rdB (l.map PoD.val) d.val e.val) = bv at c1 K
  generalize sgnF d.val e.val p = s1 at *
  generalize sgnF d.val e.val q = s2 at *
  generalize dirF d.val p = u at *
  generalize dirF d.val q = v at *
  clear gS eL q1 zl hi1 G hrw hrv
  refine AW.seq ?_
  refine AW.region ?_
  refine AOps.run tok 6 _ _ _ _ rfl ?_
  cases hbu : btwU u v with
  | true =>
    rw [hbu, if_pos rfl] at c1
    refine AOps.call tok rfl rfl rfl rfl c1 ?_
    refine AOps.run tok 5 _ _ _ _ rfl ?_
    refine AOps.nil ?_
    refine AW.seq ?_
    refine AW.region ?_
    refine AOps.run tok 5 _ _ _ _ rfl ?_
    refine AOps.call tok rfl rfl rfl rfl c2 ?_
    refine AOps.run tok 5 _ _ _ _ rfl ?_
    refine AOps.nil ?_
    refine AW.seq ?_
    refine AW.seq ?_
    refine AW.region ?_
    refine AOps.run tok 1 _ _ _ _ rfl ?_
    refine AOps.err tok rfl rfl rfl rfl rfl ?_
    refine AOps.run tok 4 _ _ _ _ rfl ?_
    refine AOps.nil ?_
    refine AW.condT rfl ?_
    refine AW.seq ?_
    refine AW.region ?_
    refine AOps.run tok 4 _ _ _ _ rfl ?_
    refine AOps.err tok rfl rfl rfl rfl rfl ?_
    refine AOps.run tok 2 _ _ _ _ rfl ?_
    refine AOps.call tok rfl rfl rfl rfl (base_Is_ok 15 15) ?_
    rw [decide_eq_true (rfl : 15 = 15)]
    refine AOps.run tok 3 _ _ _ _ rfl ?_
    refine AOps.nil ?_
    exact AW.ret rfl
  | false =>
  rw [hbu, if_neg (by simp)] at c1
  refine AOps.call tok rfl rfl rfl rfl c1 ?_
  refine AOps.run tok 5 _ _ _ _ rfl ?_
  refine AOps.nil ?_
  refine AW.seq ?_
  refine AW.region ?_
  refine AOps.run tok 5 _ _ _ _ rfl ?_
  refine AOps.call tok rfl rfl rfl rfl c2 ?_
  refine AOps.run tok 5 _ _ _ _ rfl ?_
  refine AOps.nil ?_
  refine AW.seq ?_
  refine AW.seq ?_
  refine AW.region ?_
  refine AOps.run tok 1 _ _ _ _ rfl ?_
  refine AOps.err tok rfl rfl rfl rfl rfl ?_
  refine AOps.run tok 2 _ _ _ _ rfl ?_
  refine AOps.err tok rfl rfl rfl rfl rfl ?_
  refine AOps.run tok 1 _ _ _ _ rfl ?_
  refine AOps.nil ?_
  refine AW.condF rfl ?_
  refine AW.skip ?_
  refine AW.seq ?_
  refine AW.seq ?_
  refine AW.region ?_
  refine AOps.run tok 4 _ _ _ _ rfl ?_
  rw [List.length_map, List.length_map, hSl]
  refine AOps.run tok 1 _ _ _ _ rfl ?_
  rw [bne_eq_false_iff_eq.2 (rfl : (l.length : Int) = l.length)]
  refine AOps.nil ?_
  refine AW.condF rfl ?_
  refine AW.skip ?_
  refine AW.seq ?_
  refine AW.seq ?_
  refine AW.region ?_
  cases hbv : bv u v with
  | false =>
    refine AOps.run tok 2 _ _ _ _ rfl ?_
    refine AOps.nil ?_
    refine AW.condT rfl ?_
    refine AW.seq ?_
    refine AW.region ?_
    refine AOps.run tok 1 _ _ _ _ rfl ?_
    refine AOps.nil ?_
    exact AW.ret rfl
  | true =>
  obtain ⟨k1, k2, k3, k4, k5⟩ := K hbv hbu
  refine AOps.run tok 2 _ _ _ _ rfl ?_
  refine AOps.nil ?_
  refine AW.condF rfl ?_
  refine AW.skip ?_
  refine AW.seq ?_
  refine AW.seq ?_
  refine AW.region ?_
  refine AOps.run tok 2 _ _ _ _ rfl ?_
  refine AOps.idx tok (dI s1) rfl rfl rfl rfl (Int.natCast_nonneg i) gS1 ?_
  refine AOps.run tok 2 _ _ _ _ rfl ?_
  rw [beq_eq_false_iff_ne.2 k1]
  refine AOps.run tok 4 _ _ _ _ rfl ?_
  rw [wI64 (x := (i : Int) + 1) (by omega) (by omega)]
  refine AOps.idx tok (dI s2) rfl rfl rfl rfl (Int.natCast_nonneg (i + 1)) gS2 ?_
  refine AOps.run tok 2 _ _ _ _ rfl ?_
  rw [beq_eq_false_iff_ne.2 k2]
  refine AOps.run tok 1 _ _ _ _ rfl ?_
  refine AOps.nil ?_
  refine AW.condF rfl ?_
  refine AW.skip ?_
  have x1 := r38_Cross_ok u v (k := 83) zu zv (by decide)
  have x2 := r50_Dot_ok u v (k := 83) zu zv (by decide)
  have zc := LQ_dt u v zu zv
  have x3 := fraction_Add_ok (Qr d.val.2.2) (Qr (dt u v)) (k := 340) (Qr_w _ (by omega)) (Qr_w _ (by omega)) (by decide)
  rw [Qr_val, Qr_val, ← er] at x3
  have z3 := LQ_add d.val.2.2 (dt u v)
  have x4 := fraction_Div_ok (Qr (crs u v)) (Qr (d.val.2.2 + dt u v)) (k := 400) (Qr_w _ (by omega)) (Qr_w _ (by omega)) (by decide) (by rw [Qr_val]; exact k3)
  rw [Qr_val, Qr_val] at x4
  have z4 := LQ_div (r := crs u v) k3
  have x5 := fraction_Make_ok b 255 (by omega) (by omega) (by decide) (by decide) (by decide)
  have z5 := part_sz b0 b1
  have k5 := k5 _ (part_01 b0 b1).1 (part_01 b0 b1).2
  generalize Rat.divInt b 255 = lam at x5 z5 k5
  generalize crs u v / (d.val.2.2 + dt u v) = wh at x4 z4 k5
  have x6 := fraction_Mul_ok (Qr wh) (Qr lam) (k := 800) (Qr_w _ (by omega)) (Qr_w _ (by omega)) (by decide)
  rw [Qr_val, Qr_val] at x6
  have z6 := LQ_mul wh lam
  generalize wh * lam = t at x6 z6 k5
  have zp : szP ((some t, (0, 0)) : Po) ≤ 700 := by
    show max (LQ t) (max (LQ 0) (LQ 0)) ≤ _
    rw [LQ_zero]; omega
  have x7 := pose_Apply_ok (some t, (0, 0)) u (k := 700) zp (by omega) (by decide) (by decide)
  have z7 := szV_app (some t, (0, 0)) u (k := 700) zp (by omega) (by decide)
  rw [app_turn] at x7 z7
  rw [turn_pose] at x7
  generalize rotF (some t) u = w at x7 z7 k5
  have x8 := cX w (by omega)
  have x9 := cX v (by omega)
  have y8 := disc_sz (d := d.val) (e := e.val) (w := w) (k := 8000) (by omega) (by omega) (by omega)
  have y9 := disc_sz (d := d.val) (e := e.val) (w := v) (k := 8000) (by omega) (by omega) (by omega)
  generalize discQ (barO d.val e.val) w = D1 at x8 y8 k5
  generalize discQ (barO d.val e.val) v = D2 at x9 y9 k4
  have s8 := fraction_Sign_ok (Qr D1) (k := 9000000) (Qr_w _ (by omega)) (by decide)
  have s9 := fraction_Sign_ok (Qr D2) (k := 9000000) (Qr_w _ (by omega)) (by decide)
  rw [Qr_val, sgI_num] at s8 s9
  have t8 := sgQ_pos.2 k5
  have t9 := sgQ_pos.2 k4
  refine AW.seq ?_
  refine AW.draw hmix 17 (by kernel_rfl) ?_
  refine APre.run tok 2 _ _ _ _ rfl ?_
  refine APre.idx tok (PoQ p).D rfl rfl rfl rfl rfl (Int.natCast_nonneg i) g1 ?_
  refine APre.run tok 3 _ _ _ _ rfl ?_
  refine APre.call tok rfl rfl rfl rfl rfl cD1 ?_
  refine APre.run tok 3 _ _ _ _ rfl ?_
  rw [wI64 (x := (i : Int) + 1) (by omega) (by omega)]
  refine APre.idx tok (PoQ q).D rfl rfl rfl rfl rfl (Int.natCast_nonneg (i + 1)) g2 ?_
  refine APre.run tok 3 _ _ _ _ rfl ?_
  refine APre.call tok rfl rfl rfl rfl rfl cD2 ?_
  refine APre.run tok 2 _ _ _ _ rfl ?_
  refine APre.nil ?_
  refine AOps.run tok 2 _ _ _ _ rfl ?_
  refine AOps.nil ?_
  refine AW.seq ?_
  refine AW.draw3 tok hmix [(13, true), (1, false), (1, true)] 15 [14] (by kernel_rfl) ⟨rfl, ?_⟩
  refine APre.run tok 2 _ _ _ _ rfl ?_
  refine APre.call tok rfl rfl rfl rfl rfl x1 ?_
  refine APre.run tok 5 _ _ _ _ rfl ?_
  refine APre.call tok rfl rfl rfl rfl rfl x2 ?_
  refine APre.call tok rfl rfl rfl rfl rfl x3 ?_
  refine APre.call tok rfl rfl rfl rfl rfl x4 ?_
  refine APre.run tok 2 _ _ _ _ rfl ?_
  refine APre.nil ⟨rfl, ?_⟩
  refine APre.run tok 1 _ _ _ _ rfl ?_
  refine APre.nil ⟨rfl, ?_⟩
  refine APre.run tok 1 _ _ _ _ rfl ?_
  refine APre.nil ⟨_, StL.cons (.bx rfl) StL.nil, ?_⟩
  refine AOps.run tok 1 _ _ _ _ rfl ?_
  refine AOps.nil ?_
  refine AW.seq ?_
  refine AW.region ?_
  refine AOps.ixa tok rfl rfl rfl rfl (by decide) rfl ?_
  refine AOps.run tok 2 _ _ _ _ rfl ?_
  rw [wI64 (x := b) (by omega) (by omega)]
  refine AOps.call tok rfl rfl rfl rfl x5 ?_
  refine AOps.run tok 6 _ _ _ _ rfl ?_
  refine AOps.nil ?_
  refine AW.seq ?_
  refine AW.draw3 tok hmix [(9, true), (1, false), (1, true)] 11 [18] (by kernel_rfl) ⟨rfl, ?_⟩
  refine APre.run tok 2 _ _ _ _ rfl ?_
  refine APre.call tok rfl rfl rfl rfl rfl x6 ?_
  refine APre.run tok 3 _ _ _ _ rfl ?_
  refine APre.call tok rfl rfl rfl rfl rfl x7 ?_
  refine APre.run tok 2 _ _ _ _ rfl ?_
  refine APre.nil ⟨rfl, ?_⟩
  refine APre.run tok 1 _ _ _ _ rfl ?_
  refine APre.nil ⟨rfl, ?_⟩
  refine APre.run tok 1 _ _ _ _ rfl ?_
  refine APre.nil ⟨_, StL.cons (.bx rfl) StL.nil, ?_⟩
  refine AOps.run tok 1 _ _ _ _ rfl ?_
  refine AOps.nil ?_
  refine AW.seq ?_
  refine AW.region ?_
  refine AOps.run tok 1 _ _ _ _ rfl ?_
  refine AOps.err tok rfl rfl rfl rfl rfl ?_
  refine AOps.run tok 2 _ _ _ _ rfl ?_
  refine AOps.err tok rfl rfl rfl rfl rfl ?_
  refine AOps.run tok 3 _ _ _ _ rfl ?_
  refine AOps.err tok rfl rfl rfl rfl rfl ?_
  refine AOps.run tok 4 _ _ _ _ rfl ?_
  refine AOps.call tok rfl rfl rfl rfl x8 ?_
  refine AOps.call tok rfl rfl rfl rfl s8 ?_
  refine AOps.run tok 1 _ _ _ _ rfl ?_
  rw [decide_eq_true t8]
  refine AOps.run tok 4 _ _ _ _ rfl ?_
  refine AOps.call tok rfl rfl rfl rfl x9 ?_
  refine AOps.call tok rfl rfl rfl rfl s9 ?_
  refine AOps.run tok 1 _ _ _ _ rfl ?_
  rw [decide_eq_true t9]
  refine AOps.run tok 2 _ _ _ _ rfl ?_
  refine AOps.nil ?_
  exact AW.ret rfl
end Lift
namespace Lift
open Go Go.Proofs
def ok50K (k : Int × Int) : Prop := (0 ≤ k.1 ∧ k.1 ≤ 255) ∧ (0 ≤ k.2 ∧ k.2 ≤ 255)
theorem u_u8 : RT Tryz.prog 5 Int (fun n => [.v (.int .u8 n)]) (fun n => 0 ≤ n ∧ n ≤ 255) :=
  (RT.int (P := Tryz.prog) (t := 5) (k := .u8) (by kernel_rfl) (by kernel_rfl)).map id (fun _ _ => rfl) (fun n h => by simpa [Lit.wf, IntKind.min, IntKind.max, IntKind.signed, IntKind.bits] using h) (fun v => ⟨by kernel_rfl, fun d hd => by simp at hd; subst hd; rfl⟩)
theorem u_key : RT Tryz.prog 65 (Int × Int) (fun k => [.v (.int .u8 k.1), .v (.int .u8 k.2)]) (fun k => ok50K k) :=
  RT.arr2 (s := 1) Tryz.underlying65 (by kernel_rfl) (by kernel_rfl) u_u8
end Lift
