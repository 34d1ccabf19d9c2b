/- Parts of the proof, one behind the other: the logic, the contracts of the functions that the statement reaches. -/
import Derived.Test.YtgednajkanfpaaaGreatD1E
set_option linter.unusedVariables false
set_option linter.unusedSimpArgs false
/- Law 50: its helpers. -/
namespace Lift
open Go Go.Proofs

theorem ext_getI {a b : List Int} (h : a.length = b.length) (hk : ∀ k, k < a.length → a.getD k 0 = b.getD k 0) : a = b := by
  refine List.ext_getElem h fun i h1 h2 => ?_
  have := hk i h1
  rwa [List.getD_eq_getElem?_getD, List.getElem?_eq_getElem h1, List.getD_eq_getElem?_getD, List.getElem?_eq_getElem h2] at this
abbrev IsD (l : List Int) : D := .sl 1 (IL l)
set_option maxHeartbeats 800000 in
theorem base_Ints_ok (a b : List Int) (ha : a.length ≤ 1000000) : Pure Tryz.prog 15 [IsD a, IsD b] (dB (decide (a = b))) := by
  refine Pure.intro (n := 26) tok Tryz.func15 rfl rfl rfl (Nat.le_of_ble_eq_true rfl) (by kernel_rfl) (fun B F0 w0 => ?_)
  refine AW.seq ?_
  refine AW.region ?_   -- "base.go:22"
  refine AOps.run tok 1 _ _ _ _ rfl ?_
  refine AOps.nil ?_
  refine AW.seq ?_
  refine AW.seq ?_
  refine AW.region ?_   -- "base.go:23"
  refine AOps.run tok 5 _ _ _ _ rfl ?_
  rw [List.length_map, List.length_map]
  refine AOps.nil ?_
  refine AW.cond rfl (fun h => ?_) (fun h => ?_)
  · have hne : a ≠ b := by rintro rfl; simp at h
    rw [decide_eq_false hne]
    refine AW.seq ?_
    refine AW.region ?_
    refine AOps.run tok 1 _ _ _ _ rfl ?_
    refine AOps.nil ?_
    exact AW.ret rfl
  have hlen : a.length = b.length := by
    have : (a.length : Int) = b.length := by simpa using h
    omega
  refine AW.skip ?_
  refine AW.seq ?_
  refine AW.seq ?_
  refine AW.region ?_
  refine AOps.run tok 1 _ _ _ _ rfl ?_
  refine AOps.nil ?_
  refine AW.block ?_
  refine AW.loopS [0, 1, 5] (fun i : Nat => [(0, .d (IsD a)), (1, .d (IsD b)), (5, .d (dI i))]) (fun i => i ≤ a.length ∧ ∀ k, k < i → a.getD k 0 = b.getD k 0) (fun i => a.length - i) 0 rfl ⟨Nat.zero_le _, fun k hk => by omega⟩ (fun i ⟨hi, hI⟩ => ?_)
  refine AW.seq ?_
  refine AW.seq ?_
  refine AW.region ?_
  refine AOps.run tok 4 _ _ _ _ rfl ?_
  rw [List.length_map]
  refine AOps.nil ?_
  refine AW.cond rfl (fun h => ?_) (fun h => ?_)
  · have hin : i < a.length := by have := of_decide_eq_true h; omega
    refine AW.skip ?_
    refine AW.seq ?_
    refine AW.block ?_
    refine AW.seq ?_
    refine AW.draw hmix 9 (by kernel_rfl) ?_
    refine APre.run tok 2 _ _ _ _ rfl ?_
    refine APre.idx tok (dI (a.getD i 0)) rfl rfl rfl rfl rfl (Int.natCast_nonneg i) (getI hin) ?_
    refine APre.run tok 3 _ _ _ _ rfl ?_
    refine APre.idx tok (dI (b.getD i 0)) rfl rfl rfl rfl rfl (Int.natCast_nonneg i) (getI (by omega)) ?_
    refine APre.run tok 2 _ _ _ _ rfl ?_
    refine APre.nil ?_
    refine AOps.nil ?_
    refine AW.cond rfl (fun h => ?_) (fun h => ?_)
    · have hne : a ≠ b := by rintro rfl; simp at h
      rw [decide_eq_false hne]
      refine AW.seq ?_
      refine AW.region ?_
      refine AOps.run tok 1 _ _ _ _ rfl ?_
      refine AOps.nil ?_
      exact AW.ret rfl
    · have he : a.getD i 0 = b.getD i 0 := by simpa using h
      refine AW.skip ?_
      refine AW.region ?_
      refine AOps.run tok 3 _ _ _ _ rfl ?_
      rw [wI64 (x := (i : Int) + 1) (by omega) (by omega)]
      refine AOps.nil ?_
      refine ⟨i + 1, rfl, ⟨hin, fun k hk => ?_⟩, by omega⟩
      rcases Nat.lt_or_ge k i with e | e
      · exact hI k e
      · rw [show k = i by omega]; exact he
  have hin : ¬ i < a.length := by have := of_decide_eq_false h; omega
  have hab : a = b := ext_getI hlen (fun k hk => hI k (by omega))
  rw [decide_eq_true hab]
  refine AW.exit ?_
  refine AW.seq ?_
  refine AW.region ?_
  refine AOps.run tok 1 _ _ _ _ rfl ?_
  refine AOps.nil ?_
  exact AW.ret rfl
theorem law50_of_ok (x y : Int) (hx : -100 ≤ x ∧ x ≤ 100) (hy : -100 ≤ y ∧ y ≤ 100) : Pure Tryz.prog 76 [dI x, dI y] (VQ ((x : Rat), (y : Rat))).D := by
  refine Pure.intro (n := 10) tok Tryz.func76 rfl rfl rfl (Nat.le_of_ble_eq_true rfl) (by kernel_rfl) (fun B F0 w0 => ?_)
  have c1 := r02_Of_ok x (by omega) (by omega)
  have c2 := r02_Of_ok y (by omega) (by omega)
  refine AW.seq ?_
  refine AW.region ?_   -- "law.go:18"
  refine AOps.run tok 1 _ _ _ _ rfl ?_
  refine AOps.nil ?_
  refine AW.seq ?_
  refine AW.region ?_   -- "law.go:19"
  refine AOps.run tok 1 _ _ _ _ rfl ?_
  refine AOps.call tok rfl rfl rfl rfl c1 ?_
  refine AOps.run tok 1 _ _ _ _ rfl ?_
  refine AOps.call tok rfl rfl rfl rfl c2 ?_
  refine AOps.run tok 2 _ _ _ _ rfl ?_
  refine AOps.nil ?_
  exact AW.ret rfl
def shR (m : Nat) (r : RD) : Bool := decide (r.n.length ≤ m) && decide (r.d.length ≤ m)
def briefB (d : DyD) : Bool := d.rs.all (shR 6)
theorem all_noS {l : List RD} {m i : Nat} (hi : i < l.length) (h : shR m (l.getD i default) = false) : l.all (shR m) = false := by
  rw [List.all_eq_false]
  exact ⟨l.getD i default, by rw [List.getD_eq_getElem?_getD, List.getElem?_eq_getElem hi]; exact List.getElem_mem hi, by rw [h]; simp⟩
theorem all_yesS {l : List RD} {m : Nat} (h : ∀ i, i < l.length → shR m (l.getD i default) = true) : l.all (shR m) = true := by
  rw [List.all_eq_true]
  intro x hx
  obtain ⟨i, hi, rfl⟩ := List.mem_iff_getElem.1 hx
  have := h i hi
  rwa [List.getD_eq_getElem?_getD, List.getElem?_eq_getElem hi] at this
set_option maxHeartbeats 800000 in
theorem law50_brief_ok (d : DyD) : Pure Tryz.prog 38 [d.D] (dB (briefB d)) := by
  refine Pure.intro (n := 36) tok Tryz.func38 rfl rfl rfl (Nat.le_of_ble_eq_true rfl) (by kernel_rfl) (fun B F0 w0 => ?_)
  unfold briefB
  have hno := fun i hi => all_noS (l := d.rs) (m := 6) (i := i) hi
  have hyes := all_yesS (l := d.rs) (m := 6)
  have hr : d.rs.map RD.D = [d.c.x.D, d.c.y.D, d.m.x.D, d.m.y.D, d.r.D] := rfl
  have hrl : d.rs.length = 5 := rfl
  have hg0 := fun i hi => getM RD.D (l := d.rs) (i := i) hi
  generalize d.rs.all (shR 6) = E at hno hyes ⊢
  generalize d.rs = L at hno hyes hr hrl hg0
  obtain ⟨⟨x, y⟩, ⟨mx, my⟩, r⟩ := d
  rw [hr] at hg0
  refine AW.seq ?_
  refine AW.region ?_   -- "law.go:45"
  refine AOps.run tok 2 _ _ _ _ rfl ?_
  refine AOps.nil ?_
  refine AW.seq ?_
  refine AW.seq ?_
  refine AW.region ?_   -- "law.go:46"
  refine AOps.run tok 14 _ _ _ _ rfl ?_
  refine AOps.bsd tok rfl rfl rfl rfl rfl ?_
  refine AOps.run tok 2 _ _ _ _ rfl ?_
  refine AOps.nil ?_
  refine AW.block ?_   -- block 0
  refine AW.loopS [19, 20, 21] (fun i : Nat => [(19, .d (.sl 3 [x.D, y.D, mx.D, my.D, r.D])), (20, .d (dI 5)), (21, .d (dI i))]) (fun i => i ≤ 5 ∧ ∀ j, j < i → shR 6 (L.getD j default) = true) (fun i => 5 - i) 0 rfl ⟨Nat.zero_le _, fun j h => by omega⟩ (fun i ⟨hi, hI⟩ => ?_)
  refine AW.seq ?_
  refine AW.region ?_
  refine AOps.run tok 1 _ _ _ _ rfl ?_
  refine AOps.nil ?_
  refine AW.seq ?_
  refine AW.cond rfl (fun h => ?_) (fun h => ?_)
  rotate_left
  · have hii : i = 5 := by have := of_decide_eq_false h; omega
    subst hii
    rw [hyes (fun j hj => hI j (by omega))]
    refine AW.exit ?_
    refine AW.seq ?_
    refine AW.region ?_
    refine AOps.run tok 1 _ _ _ _ rfl ?_
    refine AOps.nil ?_
    exact AW.ret rfl
  have hii : i < 5 := by have := of_decide_eq_true h; omega
  have hg := hg0 i (by omega)
  have hno := hno i (by omega)
  have hsh : shR 6 (L.getD i default) = (decide ((L.getD i default).n.length ≤ 6) && decide ((L.getD i default).d.length ≤ 6)) := rfl
  obtain ⟨q, hq⟩ : ∃ q, q = L.getD i default := ⟨_, rfl⟩
  rw [← hq] at hg hno hsh
  obtain ⟨qg, qn, qd⟩ := q
  simp only [] at hsh
  refine AW.skip ?_
  refine AW.seq ?_
  refine AW.block ?_
  refine AW.seq ?_
  refine AW.region ?_
  refine AOps.idx tok (RD.mk qg qn qd).D rfl rfl rfl rfl (Int.natCast_nonneg i) hg ?_
  refine AOps.run tok 3 _ _ _ _ rfl ?_
  refine AOps.nil ?_
  refine AW.seq ?_
  refine AW.region ?_
  refine AOps.run tok 3 _ _ _ _ rfl ?_
  rw [lenWd]
  refine AOps.run tok 2 _ _ _ _ rfl ?_
  by_cases h1 : qn.length ≤ 6
  rotate_left
  · rw [decide_eq_true (show (6 : Int) < (qn.length : Int) by omega)]
    rw [decide_eq_false h1] at hsh
    rw [hno hsh]
    refine AOps.run tok 5 _ _ _ _ rfl ?_
    refine AOps.nil ?_
    refine AW.condT rfl ?_
    refine AW.seq ?_
    refine AW.region ?_
    refine AOps.run tok 1 _ _ _ _ rfl ?_
    refine AOps.nil ?_
    exact AW.ret rfl
  rw [decide_eq_false (show ¬ (6 : Int) < (qn.length : Int) by omega)]
  refine AOps.run tok 3 _ _ _ _ rfl ?_
  rw [lenWd]
  refine AOps.run tok 1 _ _ _ _ rfl ?_
  by_cases h2 : qd.length ≤ 6
  rotate_left
  · rw [decide_eq_true (show (6 : Int) < (qd.length : Int) by omega)]
    rw [decide_eq_false h2, Bool.and_false] at hsh
    rw [hno hsh]
    refine AOps.run tok 1 _ _ _ _ rfl ?_
    refine AOps.nil ?_
    refine AW.condT rfl ?_
    refine AW.seq ?_
    refine AW.region ?_
    refine AOps.run tok 1 _ _ _ _ rfl ?_
    refine AOps.nil ?_
    exact AW.ret rfl
  rw [decide_eq_false (show ¬ (6 : Int) < (qd.length : Int) by omega)]
  refine AOps.run tok 1 _ _ _ _ rfl ?_
  refine AOps.nil ?_
  refine AW.condF rfl ?_
  refine AW.skip ?_
  refine AW.region ?_
  refine AOps.run tok 1 _ _ _ _ rfl ?_
  rw [wI64 (x := (i : Int) + 1) (by omega) (by omega)]
  refine AOps.run tok 1 _ _ _ _ rfl ?_
  refine AOps.nil ?_
  refine ⟨i + 1, rfl, ⟨hii, fun j hj => ?_⟩, by omega⟩
  by_cases e : j = i
  · rw [e, ← hq]; show (decide (qn.length ≤ 6) && decide (qd.length ≤ 6)) = true; rw [decide_eq_true h1, decide_eq_true h2]; rfl
  · exact hI j (by omega)
end Lift
/- Law 50: short, the example, awake. -/
namespace Lift
open Go Go.Proofs

def PoD.rs (p : PoD) : List RD := [p.t.t, p.l.x, p.l.y]
def shP (p : PoD) : Bool := p.rs.all (shR 2)
def short17 (l : List PoD) : Bool := l.all shP
theorem short17_no {l : List PoD} {i : Nat} (hi : i < l.length) (h : shP (l.getD i default) = false) : short17 l = false := by
  unfold short17
  rw [List.all_eq_false]
  exact ⟨l.getD i default, by rw [List.getD_eq_getElem?_getD, List.getElem?_eq_getElem hi]; exact List.getElem_mem hi, by rw [h]; simp⟩
theorem short17_yes {l : List PoD} (h : ∀ i, i < l.length → shP (l.getD i default) = true) : short17 l = true := by
  unfold short17
  rw [List.all_eq_true]
  intro x hx
  obtain ⟨i, hi, rfl⟩ := List.mem_iff_getElem.1 hx
  have := h i hi
  rwa [List.getD_eq_getElem?_getD, List.getElem?_eq_getElem hi] at this
set_option maxHeartbeats 1600000 in
theorem r17_Short_ok (l : List PoD) (hl : l.length ≤ 4611686018427387904) : Pure Tryz.prog 33 [PoL l] (dB (short17 l)) := by
  refine Pure.intro (n := 40) tok Tryz.func33 rfl rfl rfl (Nat.le_of_ble_eq_true rfl) (by kernel_rfl) (fun B F0 w0 => ?_)
  have hno := fun i hi => short17_no (l := l) (i := i) hi
  have hyes := short17_yes (l := l)
  generalize short17 l = E at hno hyes ⊢
  refine AW.seq ?_
  refine AW.region ?_   -- "ref.go:130"
  refine AOps.run tok 1 _ _ _ _ rfl ?_
  refine AOps.nil ?_
  refine AW.seq ?_
  refine AW.seq ?_
  refine AW.region ?_   -- "ref.go:131"
  refine AOps.run tok 2 _ _ _ _ rfl ?_
  rw [List.length_map]
  refine AOps.run tok 1 _ _ _ _ rfl ?_
  refine AOps.nil ?_
  refine AW.block ?_   -- block 0
  refine AW.loopS [7, 8, 9] (fun i : Nat => [(7, .d (PoL l)), (8, .d (dI l.length)), (9, .d (dI i))]) (fun i => i ≤ l.length ∧ ∀ j, j < i → shP (l.getD j default) = true) (fun i => l.length - i) 0 rfl ⟨Nat.zero_le _, fun j h => by omega⟩ (fun i ⟨hi, hI⟩ => ?_)
  refine AW.seq ?_
  refine AW.region ?_
  refine AOps.run tok 1 _ _ _ _ rfl ?_
  refine AOps.nil ?_
  refine AW.seq ?_
  refine AW.cond rfl (fun h => ?_) (fun h => ?_)
  rotate_left
  · have hii : ¬ i < l.length := by have := of_decide_eq_false h; omega
    rw [hyes (fun j hj => hI j (by omega))]
    refine AW.exit ?_
    refine AW.seq ?_
    refine AW.region ?_
    refine AOps.run tok 1 _ _ _ _ rfl ?_
    refine AOps.nil ?_
    exact AW.ret rfl
  have hii : i < l.length := by have := of_decide_eq_true h; omega
  have hg := getM PoD.D (l := l) (i := i) hii
  have hnoi := hno i hii
  have hsP : shP (l.getD i default) = (l.getD i default).rs.all (shR 2) := rfl
  have hrs : ∀ p : PoD, p.rs.map RD.D = [p.t.t.D, p.l.x.D, p.l.y.D] := fun _ => rfl
  have hrl : ∀ p : PoD, p.rs.length = 3 := fun _ => rfl
  have hg0 := fun j hj => getM RD.D (l := (l.getD i default).rs) (i := j) hj
  have hn2 := fun j hj => all_noS (l := (l.getD i default).rs) (m := 2) (i := j) hj
  have hy2 := all_yesS (l := (l.getD i default).rs) (m := 2)
  rw [hrs] at hg0
  have hrl := hrl (l.getD i default)
  obtain ⟨p, hp⟩ : ∃ p, p = l.getD i default := ⟨_, rfl⟩
  rw [← hp] at hg hnoi hsP hg0 hn2 hy2 hrl
  rw [hsP] at hnoi
  generalize p.rs.all (shR 2) = e at hnoi hsP hn2 hy2
  generalize p.rs = L at hg0 hn2 hy2 hrl
  obtain ⟨⟨t, hf⟩, ⟨x, y⟩⟩ := p
  refine AW.skip ?_
  refine AW.seq ?_
  refine AW.block ?_
  refine AW.seq ?_
  refine AW.region ?_
  refine AOps.idx tok (PoD.mk ⟨t, hf⟩ ⟨x, y⟩).D rfl rfl rfl rfl (Int.natCast_nonneg i) hg ?_
  refine AOps.run tok 3 _ _ _ _ rfl ?_
  refine AOps.nil ?_
  refine AW.seq ?_
  refine AW.region ?_
  refine AOps.run tok 9 _ _ _ _ rfl ?_
  refine AOps.bsd tok rfl rfl rfl rfl rfl ?_
  refine AOps.run tok 2 _ _ _ _ rfl ?_
  refine AOps.nil ?_
  refine AW.block ?_
  refine AW.loopS [7, 8, 9, 22, 23, 24] (fun j : Nat => [(7, .d (PoL l)), (8, .d (dI l.length)), (9, .d (dI i)), (22, .d (.sl 3 [t.D, x.D, y.D])), (23, .d (dI 3)), (24, .d (dI j))]) (fun j => j ≤ 3 ∧ ∀ m, m < j → shR 2 (L.getD m default) = true) (fun j => 3 - j) 0 rfl ⟨Nat.zero_le _, fun m h => by omega⟩ (fun j ⟨hj, hJ⟩ => ?_)
  refine AW.seq ?_
  refine AW.region ?_
  refine AOps.run tok 1 _ _ _ _ rfl ?_
  refine AOps.nil ?_
  refine AW.seq ?_
  refine AW.cond rfl (fun h2 => ?_) (fun h2 => ?_)
  rotate_left
  · have hjj : j = 3 := by have := of_decide_eq_false h2; omega
    subst hjj
    have he := hy2 (fun m hm => hJ m (by omega))
    refine AW.exit ?_
    refine AW.region ?_
    refine AOps.run tok 1 _ _ _ _ rfl ?_
    rw [wI64 (x := (i : Int) + 1) (by omega) (by omega)]
    refine AOps.run tok 1 _ _ _ _ rfl ?_
    refine AOps.nil ?_
    refine ⟨i + 1, rfl, ⟨hii, fun m hm => ?_⟩, by omega⟩
    by_cases e1 : m = i
    · rw [e1, ← hp, hsP, he]
    · exact hI m (by omega)
  have hjj : j < 3 := by have := of_decide_eq_true h2; omega
  have hg2 := hg0 j (by omega)
  have hn2 := hn2 j (by omega)
  have hsh : shR 2 (L.getD j default) = (decide ((L.getD j default).n.length ≤ 2) && decide ((L.getD j default).d.length ≤ 2)) := rfl
  obtain ⟨q, hq⟩ : ∃ q, q = L.getD j default := ⟨_, rfl⟩
  rw [← hq] at hg2 hn2 hsh
  obtain ⟨qg, qn, qd⟩ := q
  simp only [] at hsh
  refine AW.skip ?_
  refine AW.seq ?_
  refine AW.block ?_
  refine AW.seq ?_
  refine AW.region ?_
  refine AOps.idx tok (RD.mk qg qn qd).D rfl rfl rfl rfl (Int.natCast_nonneg j) hg2 ?_
  refine AOps.run tok 3 _ _ _ _ rfl ?_
  refine AOps.nil ?_
  refine AW.seq ?_
  refine AW.region ?_
  refine AOps.run tok 3 _ _ _ _ rfl ?_
  rw [lenWd]
  refine AOps.run tok 2 _ _ _ _ rfl ?_
  by_cases h1 : qn.length ≤ 2
  rotate_left
  · rw [decide_eq_true (show (2 : Int) < (qn.length : Int) by omega)]
    rw [decide_eq_false h1] at hsh
    rw [hnoi (hn2 hsh)]
    refine AOps.run tok 5 _ _ _ _ rfl ?_
    refine AOps.nil ?_
    refine AW.condT rfl ?_
    refine AW.seq ?_
    refine AW.region ?_
    refine AOps.run tok 1 _ _ _ _ rfl ?_
    refine AOps.nil ?_
    exact AW.ret rfl
  rw [decide_eq_false (show ¬ (2 : Int) < (qn.length : Int) by omega)]
  refine AOps.run tok 3 _ _ _ _ rfl ?_
  rw [lenWd]
  refine AOps.run tok 1 _ _ _ _ rfl ?_
  by_cases h3 : qd.length ≤ 2
  rotate_left
  · rw [decide_eq_true (show (2 : Int) < (qd.length : Int) by omega)]
    rw [decide_eq_false h3, Bool.and_false] at hsh
    rw [hnoi (hn2 hsh)]
    refine AOps.run tok 1 _ _ _ _ rfl ?_
    refine AOps.nil ?_
    refine AW.condT rfl ?_
    refine AW.seq ?_
    refine AW.region ?_
    refine AOps.run tok 1 _ _ _ _ rfl ?_
    refine AOps.nil ?_
    exact AW.ret rfl
  rw [decide_eq_false (show ¬ (2 : Int) < (qd.length : Int) by omega)]
  refine AOps.run tok 1 _ _ _ _ rfl ?_
  refine AOps.nil ?_
  refine AW.condF rfl ?_
  refine AW.skip ?_
  refine AW.region ?_
  refine AOps.run tok 1 _ _ _ _ rfl ?_
  rw [wI64 (x := (j : Int) + 1) (by omega) (by omega)]
  refine AOps.run tok 1 _ _ _ _ rfl ?_
  refine AOps.nil ?_
  refine ⟨j + 1, rfl, ⟨hjj, fun m hm => ?_⟩, by omega⟩
  by_cases e1 : m = j
  · rw [e1, ← hq]; show (decide (qn.length ≤ 2) && decide (qd.length ≤ 2)) = true; rw [decide_eq_true h1, decide_eq_true h3]; rfl
  · exact hJ m (by omega)
end Lift
/- Law 50: the example, awake. -/
namespace Lift
open Go Go.Proofs

def exL : List PoD := [PoQ (some 0, (0, 0)), PoQ (some 0, (((1 : Int) : Rat), ((1 : Int) : Rat))), PoQ (some 0, (((2 : Int) : Rat), ((0 : Int) : Rat)))]
def exA : DyD := DyQ ((((1 : Int) : Rat), ((0 : Int) : Rat)), (0, 0), ((1 : Int) : Rat))
def exB : DyD := DyQ ((((5 : Int) : Rat), ((0 : Int) : Rat)), (((4 : Int) : Rat), ((0 : Int) : Rat)), ((1 : Int) : Rat))
theorem ex_chk : chkD exL exA exB = 0 := by decide +kernel
theorem ex_sg : (exL.map PoD.val).map (sgnF exA.val exB.val) = [0, -1, 0] := by decide +kernel
theorem ex_un : anyR (unB (rdB (exL.map PoD.val) exA.val exB.val)) ((rdB (exL.map PoD.val) exA.val exB.val).u.length - 1) = false := by decide +kernel
theorem ex_br : anyR (brB (rdB (exL.map PoD.val) exA.val exB.val).sg) (rdB (exL.map PoD.val) exA.val exB.val).sg.length = true := by decide +kernel
theorem ex_or : orderF (rdB (exL.map PoD.val) exA.val exB.val).u = false := by decide +kernel
theorem ex_ci : anyR (ciB (rdB (exL.map PoD.val) exA.val exB.val)) ((rdB (exL.map PoD.val) exA.val exB.val).u.length - 1) = true := by decide +kernel
theorem exL_D : PoL exL = .sl 10 [.ag [dB false, .sl 1 [], .sl 1 [], dB false, dB false, .sl 1 [], .sl 1 [], dB false, .sl 1 [], .sl 1 []], .ag [dB false, .sl 1 [], .sl 1 [], dB false, dB (Qr ((1 : Int) : Rat)).g, Wd (Qr ((1 : Int) : Rat)).n, Wd (Qr ((1 : Int) : Rat)).d, dB (Qr ((1 : Int) : Rat)).g, Wd (Qr ((1 : Int) : Rat)).n, Wd (Qr ((1 : Int) : Rat)).d], .ag [dB false, .sl 1 [], .sl 1 [], dB false, dB (Qr ((2 : Int) : Rat)).g, Wd (Qr ((2 : Int) : Rat)).n, Wd (Qr ((2 : Int) : Rat)).d, dB (Qr ((0 : Int) : Rat)).g, Wd (Qr ((0 : Int) : Rat)).n, Wd (Qr ((0 : Int) : Rat)).d]] := by
  show D.sl 10 [.ag [dB (Qr 0).g, Wd (Qr 0).n, Wd (Qr 0).d, dB false, dB (Qr 0).g, Wd (Qr 0).n, Wd (Qr 0).d, dB (Qr 0).g, Wd (Qr 0).n, Wd (Qr 0).d], .ag [dB (Qr 0).g, Wd (Qr 0).n, Wd (Qr 0).d, dB false, dB (Qr ((1 : Int) : Rat)).g, Wd (Qr ((1 : Int) : Rat)).n, Wd (Qr ((1 : Int) : Rat)).d, dB (Qr ((1 : Int) : Rat)).g, Wd (Qr ((1 : Int) : Rat)).n, Wd (Qr ((1 : Int) : Rat)).d], .ag [dB (Qr 0).g, Wd (Qr 0).n, Wd (Qr 0).d, dB false, dB (Qr ((2 : Int) : Rat)).g, Wd (Qr ((2 : Int) : Rat)).n, Wd (Qr ((2 : Int) : Rat)).d, dB (Qr ((0 : Int) : Rat)).g, Wd (Qr ((0 : Int) : Rat)).n, Wd (Qr ((0 : Int) : Rat)).d]] = _
  rw [Qr_zero]; rfl
theorem exA_D : exA.D = .ag [dB (Qr ((1 : Int) : Rat)).g, Wd (Qr ((1 : Int) : Rat)).n, Wd (Qr ((1 : Int) : Rat)).d, dB (Qr ((0 : Int) : Rat)).g, Wd (Qr ((0 : Int) : Rat)).n, Wd (Qr ((0 : Int) : Rat)).d, dB false, .sl 1 [], .sl 1 [], dB false, .sl 1 [], .sl 1 [], dB (Qr ((1 : Int) : Rat)).g, Wd (Qr ((1 : Int) : Rat)).n, Wd (Qr ((1 : Int) : Rat)).d] := by
  show D.ag [dB (Qr ((1 : Int) : Rat)).g, Wd (Qr ((1 : Int) : Rat)).n, Wd (Qr ((1 : Int) : Rat)).d, dB (Qr ((0 : Int) : Rat)).g, Wd (Qr ((0 : Int) : Rat)).n, Wd (Qr ((0 : Int) : Rat)).d, dB (Qr 0).g, Wd (Qr 0).n, Wd (Qr 0).d, dB (Qr 0).g, Wd (Qr 0).n, Wd (Qr 0).d, dB (Qr ((1 : Int) : Rat)).g, Wd (Qr ((1 : Int) : Rat)).n, Wd (Qr ((1 : Int) : Rat)).d] = _
  rw [Qr_zero]; rfl
abbrev ExD : D := .tu [PoL exL, exA.D, exB.D]
theorem law50_Example_ok : Pure Tryz.prog 37 [] ExD := by
  refine Pure.intro (n := 18) tok Tryz.func37 rfl rfl rfl (Nat.le_of_ble_eq_true rfl) (by kernel_rfl) (fun B F0 w0 => ?_)
  have o1 := r02_Of_ok 1 (by decide) (by decide)
  have c1 := law50_of_ok 1 1 (by decide) (by decide)
  have c2 := law50_of_ok 2 0 (by decide) (by decide)
  have c3 := law50_of_ok 1 0 (by decide) (by decide)
  have c4 := law50_of_ok 5 0 (by decide) (by decide)
  have c5 := law50_of_ok 4 0 (by decide) (by decide)
  refine AW.seq ?_
  refine AW.region ?_   -- "law.go:23"
  refine AOps.run tok 3 _ _ _ _ rfl ?_
  refine AOps.nil ?_
  refine AW.seq ?_
  refine AW.region ?_   -- "law.go:24"
  refine AOps.call tok rfl rfl rfl rfl o1 ?_
  refine AOps.run tok 2 _ _ _ _ rfl ?_
  refine AOps.nil ?_
  refine AW.seq ?_
  refine AW.draw3 tok hmix [(11, true), (2, false), (1, true)] 14 [1, 2] (by kernel_rfl) ⟨rfl, ?_⟩
  refine APre.run tok 1 _ _ _ _ rfl ?_
  refine APre.call tok rfl rfl rfl rfl rfl c1 ?_
  refine APre.run tok 1 _ _ _ _ rfl ?_
  refine APre.call tok rfl rfl rfl rfl rfl c2 ?_
  refine APre.run tok 1 _ _ _ _ rfl ?_
  refine APre.bsd tok rfl rfl rfl rfl rfl rfl ?_
  refine APre.call tok rfl rfl rfl rfl rfl c3 ?_
  refine APre.run tok 2 _ _ _ _ rfl ?_
  refine APre.call tok rfl rfl rfl rfl rfl c4 ?_
  refine APre.call tok rfl rfl rfl rfl rfl c5 ?_
  refine APre.nil ⟨rfl, ?_⟩
  refine APre.run tok 2 _ _ _ _ rfl ?_
  refine APre.nil ⟨rfl, ?_⟩
  refine APre.run tok 1 _ _ _ _ rfl ?_
  refine APre.nil ⟨_, StL.cons (.bx rfl) (StL.cons (.bx rfl) (StL.nil)), ?_⟩
  refine AOps.nil ?_
  unfold ExD
  rw [exL_D, exA_D]
  exact AW.ret rfl
end Lift
/- Law 50: awake, short. -/
namespace Lift
open Go Go.Proofs

theorem LQ_i (n : Int) (h : -100 ≤ n ∧ n ≤ 100) : LQ (n : Rat) ≤ 2 := by
  have h1 := LQ_of n
  have h2 : L n ≤ 2 := L_le (by omega)
  omega
theorem exL_w : ∀ i, i < exL.length → (exL.getD i default).w 2 := fun i hi => by
  have z : LQ 0 ≤ 2 := by rw [LQ_zero]; decide
  have i0 := LQ_i 0 (by decide)
  have i1 := LQ_i 1 (by decide)
  have i2 := LQ_i 2 (by decide)
  have hi : i < 3 := hi
  rcases i with _ | _ | _ | i
  · exact ⟨Qr_w _ z, Qr_w _ z, Qr_w _ z⟩
  · exact ⟨Qr_w _ z, Qr_w _ i1, Qr_w _ i1⟩
  · exact ⟨Qr_w _ z, Qr_w _ i2, Qr_w _ i0⟩
  · omega
theorem exA_w : exA.w 2 := by
  have z : LQ 0 ≤ 2 := by rw [LQ_zero]; decide
  exact ⟨⟨Qr_w _ (LQ_i 1 (by decide)), Qr_w _ (LQ_i 0 (by decide))⟩, ⟨Qr_w _ z, Qr_w _ z⟩, Qr_w _ (LQ_i 1 (by decide))⟩
theorem exB_w : exB.w 2 := ⟨⟨Qr_w _ (LQ_i 5 (by decide)), Qr_w _ (LQ_i 0 (by decide))⟩, ⟨Qr_w _ (LQ_i 4 (by decide)), Qr_w _ (LQ_i 0 (by decide))⟩, Qr_w _ (LQ_i 1 (by decide))⟩
theorem ex_Signs : signsD exL exA exB = .tu [IsD [0, -1, 0], nilE] := by
  unfold signsD
  rw [if_pos ex_chk, ex_sg]
theorem ex_Report : reportD exL exA exB = .tu [DfD true false true, nilE] := by
  unfold reportD rptD
  rw [if_neg (by rw [ex_chk]; simp), ex_un, ex_br, ex_or, ex_ci, if_neg (by simp)]
theorem law50_awake_ok : Pure Tryz.prog 10 [] (dB true) := by
  refine Pure.intro (n := 43) tok Tryz.func10 rfl rfl rfl (Nat.le_of_ble_eq_true rfl) (by kernel_rfl) (fun B F0 w0 => ?_)
  have cE := law50_Example_ok
  have cS := defects_Signs_ok exL exA exB (k := 2) (show 3 ≤ 1000000 by decide) exL_w exA_w exB_w (by decide) (by decide)
  have cR := defects_Report_ok exL exA exB (k := 2) (show 3 ≤ 1000000 by decide) exL_w exA_w exB_w (by decide) (by decide)
  rw [ex_Signs] at cS
  rw [ex_Report] at cR
  have cI := base_Ints_ok [0, -1, 0] [0, -1, 0] (show 3 ≤ 1000000 by decide)
  rw [decide_eq_true rfl] at cI
  unfold ExD at cE
  generalize exL = l at cE cS cR
  generalize exA = d at cE cS cR
  generalize exB = e at cE cS cR
  refine AW.seq ?_
  refine AW.region ?_   -- "law.go:29"
  refine AOps.run tok 1 _ _ _ _ rfl ?_
  refine AOps.nil ?_
  refine AW.seq ?_
  refine AW.region ?_   -- "law.go:30"
  refine AOps.call tok rfl rfl rfl rfl cE ?_
  refine AOps.run tok 9 _ _ _ _ rfl ?_
  refine AOps.nil ?_
  refine AW.seq ?_
  refine AW.region ?_   -- "law.go:31"
  refine AOps.run tok 3 _ _ _ _ rfl ?_
  refine AOps.call tok rfl rfl rfl rfl cS ?_
  refine AOps.run tok 5 _ _ _ _ rfl ?_
  refine AOps.nil ?_
  refine AW.seq ?_
  refine AW.region ?_   -- "law.go:32"
  refine AOps.run tok 3 _ _ _ _ rfl ?_
  refine AOps.call tok rfl rfl rfl rfl cR ?_
  refine AOps.run tok 6 _ _ _ _ rfl ?_
  refine AOps.nil ?_
  refine AW.seq ?_
  refine AW.region ?_   -- "law.go:33"   -- GUARDS
  refine AOps.run tok 1 _ _ _ _ rfl ?_
  refine AOps.err tok rfl rfl rfl rfl rfl ?_
  refine AOps.run tok 2 _ _ _ _ rfl ?_
  refine AOps.err tok rfl rfl rfl rfl rfl ?_
  refine AOps.run tok 3 _ _ _ _ rfl ?_
  refine AOps.bsd tok rfl rfl rfl rfl rfl ?_
  refine AOps.call tok rfl rfl rfl rfl cI ?_
  refine AOps.run tok 4 _ _ _ _ rfl ?_
  refine AOps.se3 tok rfl rfl rfl rfl (by kernel_rfl) ?_
  refine AOps.run tok 2 _ _ _ _ rfl ?_
  refine AOps.nil ?_
  exact AW.ret rfl
/-- A four-bar: two dyads. -/
abbrev FourD (d e : DyD) : D := .ag (d.D.flat ++ e.D.flat)
def shortB (l : List PoD) (d e : DyD) : Bool := decide (l.length ≤ 20) && (short17 l && (briefB d && briefB e))
theorem law50_short_ok (l : List PoD) (d e : DyD) (hl : l.length ≤ 4611686018427387904) : Pure Tryz.prog 11 [PoL l, FourD d e] (dB (shortB l d e)) := by
  refine Pure.intro (n := 22) tok Tryz.func11 rfl rfl rfl (Nat.le_of_ble_eq_true rfl) (by kernel_rfl) (fun B F0 w0 => ?_)
  have c1 := r17_Short_ok l hl
  have c2 := law50_brief_ok d
  have c3 := law50_brief_ok e
  unfold shortB
  generalize short17 l = s at c1 ⊢
  generalize briefB d = b1 at c2 ⊢
  generalize briefB e = b2 at c3 ⊢
  refine AW.seq ?_
  refine AW.region ?_   -- "law.go:40"
  refine AOps.run tok 2 _ _ _ _ rfl ?_
  refine AOps.nil ?_
  refine AW.seq ?_
  refine AW.region ?_   -- "law.go:41"   -- GUARDS
  refine AOps.run tok 2 _ _ _ _ rfl ?_
  rw [List.length_map]
  refine AOps.run tok 2 _ _ _ _ rfl ?_
  by_cases h : l.length ≤ 20
  rotate_left
  · rw [decide_eq_false h, decide_eq_false (show ¬ (l.length : Int) ≤ 20 by omega)]
    refine AOps.run tok 14 _ _ _ _ rfl ?_
    refine AOps.nil ?_
    exact AW.ret rfl
  rw [decide_eq_true h, decide_eq_true (show (l.length : Int) ≤ 20 by omega)]
  refine AOps.run tok 1 _ _ _ _ rfl ?_
  refine AOps.call tok rfl rfl rfl rfl c1 ?_
  refine AOps.run tok 2 _ _ _ _ rfl ?_
  cases s with
  | false =>
    refine AOps.run tok 10 _ _ _ _ rfl ?_
    refine AOps.nil ?_
    exact AW.ret rfl
  | true =>
  refine AOps.run tok 2 _ _ _ _ rfl ?_
  refine AOps.call tok rfl rfl rfl rfl c2 ?_
  refine AOps.run tok 2 _ _ _ _ rfl ?_
  cases b1 with
  | false =>
    refine AOps.run tok 5 _ _ _ _ rfl ?_
    refine AOps.nil ?_
    exact AW.ret rfl
  | true =>
  refine AOps.run tok 2 _ _ _ _ rfl ?_
  refine AOps.call tok rfl rfl rfl rfl c3 ?_
  refine AOps.run tok 2 _ _ _ _ rfl ?_
  refine AOps.nil ?_
  exact AW.ret rfl
end Lift
/- The reference: places and poses. Partly as GearW. -/
namespace Lift
open Go Go.Proofs

theorem r02_Div_ok (r s : RD) {k : Nat} (hr : r.w k) (hs : s.w k) (hk : k ≤ 20000000) (h0 : s.val ≠ 0) : Pure Tryz.prog 175 [r.D, s.D] (.tu [(Qr (r.val / s.val)).D, dI 0]) := by
  refine Pure.intro (n := 29) tok Tryz.func175 rfl rfl rfl (Nat.le_of_ble_eq_true rfl) (by kernel_rfl) (fun B F0 w0 => ?_)
  have hl := LQ_val (hr.mono (Nat.le_max_left k 1)) (Nat.le_max_right k 1)
  have hm := LQ_val (hs.mono (Nat.le_max_left k 1)) (Nat.le_max_right k 1)
  have := Lnum r.val; have := Lden r.val; have := Lnum s.val; have := Lden s.val
  obtain ⟨d1, d2, d3⟩ := div_sz hl hm h0
  rw [← div_divInt r.val s.val h0]
  refine AW.seq ?_
  refine AW.region ?_
  refine AOps.run tok 4 _ _ _ _ rfl ?_
  refine AOps.nil ?_
  refine AW.seq ?_
  refine AW.region ?_
  refine AOps.run tok 1 _ _ _ _ rfl ?_
  refine AOps.call tok rfl rfl rfl rfl (r02_Parts_ok r hr (by omega)) ?_
  refine AOps.run tok 7 _ _ _ _ rfl ?_
  refine AOps.nil ?_
  refine AW.seq ?_
  refine AW.region ?_
  refine AOps.run tok 1 _ _ _ _ rfl ?_
  refine AOps.call tok rfl rfl rfl rfl (r02_Parts_ok s hs (by omega)) ?_
  refine AOps.run tok 7 _ _ _ _ rfl ?_
  refine AOps.nil ?_
  refine AW.seq ?_
  refine AW.draw hmix 9 (by kernel_rfl) ?_
  refine APre.run tok 2 _ _ _ _ rfl ?_
  refine APre.call tok rfl rfl rfl rfl rfl (r01_Mul_ok r.val.num s.val.den (by omega) (by omega)) ?_
  refine APre.run tok 2 _ _ _ _ rfl ?_
  refine APre.call tok rfl rfl rfl rfl rfl (r01_Mul_ok r.val.den s.val.num (by omega) (by omega)) ?_
  refine APre.call tok rfl rfl rfl rfl rfl (r02_From_ok (r.val.num * s.val.den) (r.val.den * s.val.num) (by omega) (by omega) d3) ?_
  refine APre.run tok 2 _ _ _ _ rfl ?_
  refine APre.nil ?_
  refine AOps.run tok 2 _ _ _ _ rfl ?_
  refine AOps.nil ?_
  exact AW.ret rfl
theorem r17_Zero_ok (a : RD) {k : Nat} (h : a.w k) (hk : k ≤ 20000000) : Pure Tryz.prog 105 [a.D] (dB (decide (a.val = 0))) := by
  refine Pure.intro (n := 6) tok Tryz.func105 rfl rfl rfl (Nat.le_of_ble_eq_true rfl) (by kernel_rfl) (fun B F0 w0 => ?_)
  have c := r02_Sign_ok a h hk
  have e : decide (a.val = 0) = (sgI a.val.num == 0) := by
    by_cases h0 : a.val = 0
    · rw [decide_eq_true h0, beq_iff_eq.2 (sgI0.2 h0)]
    · rw [decide_eq_false h0, beq_eq_false_iff_ne.2 (fun h => h0 (sgI0.1 h))]
  rw [e]
  refine AW.seq ?_
  refine AW.region ?_   -- "ref.go:10"
  refine AOps.run tok 2 _ _ _ _ rfl ?_
  refine AOps.nil ?_
  refine AW.seq ?_
  refine AW.region ?_   -- "ref.go:10"
  refine AOps.run tok 1 _ _ _ _ rfl ?_
  refine AOps.call tok rfl rfl rfl rfl c ?_
  refine AOps.run tok 2 _ _ _ _ rfl ?_
  refine AOps.nil ?_
  exact AW.ret rfl
theorem r17_Turn_ok (a : TD) {k : Nat} (h : a.t.w k) (hk : k ≤ 20000000) : Pure Tryz.prog 129 [a.D] (dB a.okB) := by
  refine Pure.intro (n := 16) tok Tryz.func129 rfl rfl rfl (Nat.le_of_ble_eq_true rfl) (by kernel_rfl) (fun B F0 w0 => ?_)
  have c1 := r02_Valid_ok a.t h (by omega)
  have c2 := r17_Zero_ok a.t h hk
  unfold TD.okB
  obtain ⟨t, hf⟩ := a
  simp only [] at c1 c2 ⊢
  generalize decide (t.val = 0) = z at c2 ⊢
  generalize t.okB = v at c1 ⊢
  refine AW.seq ?_
  refine AW.region ?_   -- "ref.go:13"
  refine AOps.run tok 2 _ _ _ _ rfl ?_
  refine AOps.nil ?_
  refine AW.seq ?_
  refine AW.region ?_   -- "ref.go:13"   -- GUARDS
  refine AOps.run tok 2 _ _ _ _ rfl ?_
  refine AOps.call tok rfl rfl rfl rfl c1 ?_
  refine AOps.run tok 1 _ _ _ _ rfl ?_
  cases v with
  | false =>
    refine AOps.run tok 11 _ _ _ _ rfl ?_
    refine AOps.nil ?_
    exact AW.ret rfl
  | true =>
  refine AOps.run tok 3 _ _ _ _ rfl ?_
  cases hf with
  | false =>
    refine AOps.run tok 8 _ _ _ _ rfl ?_
    refine AOps.nil ?_
    exact AW.ret rfl
  | true =>
  refine AOps.run tok 3 _ _ _ _ rfl ?_
  refine AOps.call tok rfl rfl rfl rfl c2 ?_
  refine AOps.run tok 3 _ _ _ _ rfl ?_
  refine AOps.nil ?_
  exact AW.ret rfl
theorem r17_Place_ok (a : PD) {k : Nat} (h : a.w k) (hk : k ≤ 20000000) : Pure Tryz.prog 72 [a.D] (dB a.okB) := by
  refine Pure.intro (n := 11) tok Tryz.func72 rfl rfl rfl (Nat.le_of_ble_eq_true rfl) (by kernel_rfl) (fun B F0 w0 => ?_)
  have c1 := r02_Valid_ok a.x h.1 (by omega)
  have c2 := r02_Valid_ok a.y h.2 (by omega)
  unfold PD.okB
  generalize a.x.okB = v at c1 ⊢
  generalize a.y.okB = u at c2 ⊢
  refine AW.seq ?_
  refine AW.region ?_   -- "ref.go:16"
  refine AOps.run tok 2 _ _ _ _ rfl ?_
  refine AOps.nil ?_
  refine AW.seq ?_
  refine AW.region ?_   -- "ref.go:16"   -- GUARDS
  refine AOps.run tok 2 _ _ _ _ rfl ?_
  refine AOps.call tok rfl rfl rfl rfl c1 ?_
  refine AOps.run tok 1 _ _ _ _ rfl ?_
  cases v with
  | false =>
    refine AOps.run tok 5 _ _ _ _ rfl ?_
    refine AOps.nil ?_
    exact AW.ret rfl
  | true =>
  refine AOps.run tok 2 _ _ _ _ rfl ?_
  refine AOps.call tok rfl rfl rfl rfl c2 ?_
  refine AOps.run tok 2 _ _ _ _ rfl ?_
  refine AOps.nil ?_
  exact AW.ret rfl
theorem r17_Valid_ok (a : PoD) {k : Nat} (h : a.w k) (hk : k ≤ 20000000) : Pure Tryz.prog 81 [a.D] (dB a.okB) := by
  refine Pure.intro (n := 11) tok Tryz.func81 rfl rfl rfl (Nat.le_of_ble_eq_true rfl) (by kernel_rfl) (fun B F0 w0 => ?_)
  have c1 := r17_Turn_ok a.t h.1 hk
  have c2 := r17_Place_ok a.l h.2 hk
  unfold PoD.okB
  generalize a.t.okB = v at c1 ⊢
  generalize a.l.okB = u at c2 ⊢
  refine AW.seq ?_
  refine AW.region ?_   -- "ref.go:19"
  refine AOps.run tok 2 _ _ _ _ rfl ?_
  refine AOps.nil ?_
  refine AW.seq ?_
  refine AW.region ?_   -- "ref.go:19"   -- GUARDS
  refine AOps.run tok 2 _ _ _ _ rfl ?_
  refine AOps.call tok rfl rfl rfl rfl c1 ?_
  refine AOps.run tok 1 _ _ _ _ rfl ?_
  cases v with
  | false =>
    refine AOps.run tok 5 _ _ _ _ rfl ?_
    refine AOps.nil ?_
    exact AW.ret rfl
  | true =>
  refine AOps.run tok 2 _ _ _ _ rfl ?_
  refine AOps.call tok rfl rfl rfl rfl c2 ?_
  refine AOps.run tok 2 _ _ _ _ rfl ?_
  refine AOps.nil ?_
  exact AW.ret rfl
theorem r17_over_ok (r s : RD) {k : Nat} (hr : r.w k) (hs : s.w k) (hk : k ≤ 20000000) (h0 : s.val ≠ 0) : Pure Tryz.prog 159 [r.D, s.D] (Qr (r.val / s.val)).D := by
  refine Pure.intro (n := 14) tok Tryz.func159 rfl rfl rfl (Nat.le_of_ble_eq_true rfl) (by kernel_rfl) (fun B F0 w0 => ?_)
  have c := r02_Div_ok r s hr hs hk h0
  generalize Qr (r.val / s.val) = q at c ⊢
  refine AW.seq ?_
  refine AW.region ?_   -- "ref.go:22"
  refine AOps.run tok 3 _ _ _ _ rfl ?_
  refine AOps.nil ?_
  refine AW.seq ?_
  refine AW.region ?_   -- "ref.go:23"
  refine AOps.run tok 2 _ _ _ _ rfl ?_
  refine AOps.call tok rfl rfl rfl rfl c ?_
  refine AOps.run tok 6 _ _ _ _ rfl ?_
  refine AOps.nil ?_
  refine AW.seq ?_
  refine AW.region ?_   -- "ref.go:24"
  refine AOps.run tok 2 _ _ _ _ rfl ?_
  refine AOps.nil ?_
  exact AW.ret rfl
theorem r17_Plus_ok (a b : V2) {k : Nat} (ha : szV a ≤ k) (hb : szV b ≤ k) (hk : k ≤ 1000000) : Pure Tryz.prog 86 [(VQ a).D, (VQ b).D] (VQ (vadd a b)).D := by
  refine Pure.intro (n := 16) tok Tryz.func86 rfl rfl rfl (Nat.le_of_ble_eq_true rfl) (by kernel_rfl) (fun B F0 w0 => ?_)
  have ha := szV_1 ha
  have hb := szV_1 hb
  have m1 := r02_Add_ok (Qr a.1) (Qr b.1) (k := k) (Qr_w _ (by omega)) (Qr_w _ (by omega)) (by omega)
  have m2 := r02_Add_ok (Qr a.2) (Qr b.2) (k := k) (Qr_w _ (by omega)) (Qr_w _ (by omega)) (by omega)
  simp only [Qr_val] at m1 m2
  refine AW.seq ?_
  refine AW.region ?_   -- "ref.go:47"
  refine AOps.run tok 3 _ _ _ _ rfl ?_
  refine AOps.nil ?_
  refine AW.seq ?_
  refine AW.draw hmix 11 (by kernel_rfl) ?_   -- "ref.go:48"
  refine APre.run tok 4 _ _ _ _ rfl ?_
  refine APre.call tok rfl rfl rfl rfl rfl m1 ?_
  refine APre.run tok 4 _ _ _ _ rfl ?_
  refine APre.call tok rfl rfl rfl rfl rfl m2 ?_
  refine APre.run tok 1 _ _ _ _ rfl ?_
  refine APre.nil ?_
  refine AOps.run tok 1 _ _ _ _ rfl ?_
  refine AOps.nil ?_
  exact AW.ret rfl
theorem r17_Less_ok (a b : V2) {k : Nat} (ha : szV a ≤ k) (hb : szV b ≤ k) (hk : k ≤ 1000000) : Pure Tryz.prog 45 [(VQ a).D, (VQ b).D] (VQ (vsub a b)).D := by
  refine Pure.intro (n := 16) tok Tryz.func45 rfl rfl rfl (Nat.le_of_ble_eq_true rfl) (by kernel_rfl) (fun B F0 w0 => ?_)
  have ha := szV_1 ha
  have hb := szV_1 hb
  have m1 := r02_Sub_ok (Qr a.1) (Qr b.1) (k := k) (Qr_w _ (by omega)) (Qr_w _ (by omega)) (by omega)
  have m2 := r02_Sub_ok (Qr a.2) (Qr b.2) (k := k) (Qr_w _ (by omega)) (Qr_w _ (by omega)) (by omega)
  simp only [Qr_val] at m1 m2
  refine AW.seq ?_
  refine AW.region ?_   -- "ref.go:52"
  refine AOps.run tok 3 _ _ _ _ rfl ?_
  refine AOps.nil ?_
  refine AW.seq ?_
  refine AW.draw hmix 11 (by kernel_rfl) ?_   -- "ref.go:53"
  refine APre.run tok 4 _ _ _ _ rfl ?_
  refine APre.call tok rfl rfl rfl rfl rfl m1 ?_
  refine APre.run tok 4 _ _ _ _ rfl ?_
  refine APre.call tok rfl rfl rfl rfl rfl m2 ?_
  refine APre.run tok 1 _ _ _ _ rfl ?_
  refine APre.nil ?_
  refine AOps.run tok 1 _ _ _ _ rfl ?_
  refine AOps.nil ?_
  exact AW.ret rfl
theorem r17_Square_ok (a : V2) {k : Nat} (ha : szV a ≤ k) (hk : k ≤ 1000000) : Pure Tryz.prog 68 [(VQ a).D] (Qr (dt a a)).D := by
  refine Pure.intro (n := 14) tok Tryz.func68 rfl rfl rfl (Nat.le_of_ble_eq_true rfl) (by kernel_rfl) (fun B F0 w0 => ?_)
  have ha := szV_1 ha
  have l1 := LQ_mul a.1 a.1
  have l2 := LQ_mul a.2 a.2
  have m1 := r02_Mul_ok (Qr a.1) (Qr a.1) (k := k) (Qr_w _ (by omega)) (Qr_w _ (by omega)) (by omega)
  have m2 := r02_Mul_ok (Qr a.2) (Qr a.2) (k := k) (Qr_w _ (by omega)) (Qr_w _ (by omega)) (by omega)
  have m3 := r02_Add_ok (Qr (a.1 * a.1)) (Qr (a.2 * a.2)) (k := 2 * k) (Qr_w _ (by omega)) (Qr_w _ (by omega)) (by omega)
  simp only [Qr_val] at m1 m2 m3
  refine AW.seq ?_
  refine AW.region ?_   -- "ref.go:57"
  refine AOps.run tok 2 _ _ _ _ rfl ?_
  refine AOps.nil ?_
  refine AW.seq ?_
  refine AW.draw hmix 11 (by kernel_rfl) ?_   -- "ref.go:58"
  refine APre.run tok 4 _ _ _ _ rfl ?_
  refine APre.call tok rfl rfl rfl rfl rfl m1 ?_
  refine APre.run tok 4 _ _ _ _ rfl ?_
  refine APre.call tok rfl rfl rfl rfl rfl m2 ?_
  refine APre.call tok rfl rfl rfl rfl rfl m3 ?_
  refine APre.nil ?_
  refine AOps.run tok 1 _ _ _ _ rfl ?_
  refine AOps.nil ?_
  exact AW.ret rfl
theorem r38_Cross_ok (a b : V2) {k : Nat} (ha : szV a ≤ k) (hb : szV b ≤ k) (hk : k ≤ 1000000) : Pure Tryz.prog 26 [(VQ a).D, (VQ b).D] (Qr (crs a b)).D := by
  refine Pure.intro (n := 16) tok Tryz.func26 rfl rfl rfl (Nat.le_of_ble_eq_true rfl) (by kernel_rfl) (fun B F0 w0 => ?_)
  have ha := szV_1 ha
  have hb := szV_1 hb
  have l1 := LQ_mul a.1 b.2
  have l2 := LQ_mul a.2 b.1
  have m1 := r02_Mul_ok (Qr a.1) (Qr b.2) (k := k) (Qr_w _ (by omega)) (Qr_w _ (by omega)) (by omega)
  have m2 := r02_Mul_ok (Qr a.2) (Qr b.1) (k := k) (Qr_w _ (by omega)) (Qr_w _ (by omega)) (by omega)
  have m3 := r02_Sub_ok (Qr (a.1 * b.2)) (Qr (a.2 * b.1)) (k := 2 * k) (Qr_w _ (by omega)) (Qr_w _ (by omega)) (by omega)
  simp only [Qr_val] at m1 m2 m3
  refine AW.seq ?_
  refine AW.region ?_   -- "ref.go:52"
  refine AOps.run tok 3 _ _ _ _ rfl ?_
  refine AOps.nil ?_
  refine AW.seq ?_
  refine AW.draw hmix 11 (by kernel_rfl) ?_   -- "ref.go:53"
  refine APre.run tok 4 _ _ _ _ rfl ?_
  refine APre.call tok rfl rfl rfl rfl rfl m1 ?_
  refine APre.run tok 4 _ _ _ _ rfl ?_
  refine APre.call tok rfl rfl rfl rfl rfl m2 ?_
  refine APre.call tok rfl rfl rfl rfl rfl m3 ?_
  refine APre.nil ?_
  refine AOps.run tok 1 _ _ _ _ rfl ?_
  refine AOps.nil ?_
  exact AW.ret rfl
theorem r17_Direction_ok (v : Option Rat) {k : Nat} (h : szT v ≤ k) (h1 : 1 ≤ k) (hk : k ≤ 1000000) : Pure Tryz.prog 132 [(TQ v).D] (.tu [(Qr (dirT v).1).D, (Qr (dirT v).2).D]) := by
  refine Pure.intro (n := 32) tok Tryz.func132 rfl rfl rfl (Nat.le_of_ble_eq_true rfl) (by kernel_rfl) (fun B F0 w0 => ?_)
  cases v with
  | none =>
    have o1 := r02_Of_ok (-1) (by decide) (by decide)
    rw [show (TQ none).D = .ag [dB false, .sl 1 [], .sl 1 [], dB true] by unfold TQ; rw [Qr_zero]; rfl]
    rw [show ((-1 : Int) : Rat) = -1 from rfl] at o1
    show AW _ _ _ _ _ _ (retQ _ _ (.tu [(Qr (-1)).D, (Qr 0).D])) _
    rw [Qr_zero]
    refine AW.seq ?_
    refine AW.region ?_
    refine AOps.run tok 3 _ _ _ _ rfl ?_
    refine AOps.nil ?_
    refine AW.seq ?_
    refine AW.seq ?_
    refine AW.region ?_
    refine AOps.run tok 2 _ _ _ _ rfl ?_
    refine AOps.nil ?_
    refine AW.condT rfl ?_
    refine AW.seq ?_
    refine AW.region ?_
    refine AOps.call tok rfl rfl rfl rfl o1 ?_
    refine AOps.run tok 3 _ _ _ _ rfl ?_
    refine AOps.nil ?_
    exact AW.ret rfl
  | some t =>
  have h : LQ t ≤ k := h
  have o1 := r02_Of_ok 1 (by decide) (by decide)
  rw [show ((1 : Int) : Rat) = 1 from rfl] at o1
  have z1 := LQ_one
  have y1 := LQ_mul t t
  have c1 := r02_Mul_ok (Qr t) (Qr t) (k := k) (Qr_w _ h) (Qr_w _ h) (by omega)
  have c2 := r02_Add_ok (Qr 1) (Qr (t * t)) (k := 2 * k) (Qr_w _ (by omega)) (Qr_w _ (by omega)) (by omega)
  have y2 := LQ_add 1 (t * t)
  have c3 := r02_Sub_ok (Qr 1) (Qr (t * t)) (k := 2 * k) (Qr_w _ (by omega)) (Qr_w _ (by omega)) (by omega)
  have y3 := LQ_sub 1 (t * t)
  have c4 := r02_Add_ok (Qr t) (Qr t) (k := k) (Qr_w _ h) (Qr_w _ h) (by omega)
  have y4 := LQ_add t t
  have hn := dn_ne t
  have c5 := r17_over_ok (Qr (1 - t * t)) (Qr (1 + t * t)) (k := 4 * k + 4) (Qr_w _ (by omega)) (Qr_w _ (by omega)) (by omega) (by rw [Qr_val]; exact hn)
  have c6 := r17_over_ok (Qr (t + t)) (Qr (1 + t * t)) (k := 4 * k + 4) (Qr_w _ (by omega)) (Qr_w _ (by omega)) (by omega) (by rw [Qr_val]; exact hn)
  simp only [Qr_val] at c1 c2 c3 c4 c5 c6
  show AW _ _ _ _ _ _ (retQ _ _ (.tu [(Qr ((1 - t * t) / (1 + t * t))).D, (Qr ((t + t) / (1 + t * t))).D])) _
  refine AW.seq ?_
  refine AW.region ?_   -- "ref.go:28"
  refine AOps.run tok 3 _ _ _ _ rfl ?_
  refine AOps.nil ?_
  refine AW.seq ?_
  refine AW.seq ?_
  refine AW.region ?_   -- "ref.go:29"
  refine AOps.run tok 2 _ _ _ _ rfl ?_
  refine AOps.nil ?_
  refine AW.condF rfl ?_
  refine AW.skip ?_
  refine AW.seq ?_
  refine AW.draw hmix 8 (by kernel_rfl) ?_
  refine APre.call tok rfl rfl rfl rfl rfl o1 ?_
  refine APre.run tok 4 _ _ _ _ rfl ?_
  refine APre.call tok rfl rfl rfl rfl rfl c1 ?_
  refine APre.run tok 2 _ _ _ _ rfl ?_
  refine APre.nil ?_
  refine AOps.run tok 2 _ _ _ _ rfl ?_
  refine AOps.nil ?_
  refine AW.seq ?_
  refine AW.region ?_
  refine AOps.run tok 2 _ _ _ _ rfl ?_
  refine AOps.call tok rfl rfl rfl rfl c2 ?_
  refine AOps.run tok 2 _ _ _ _ rfl ?_
  refine AOps.nil ?_
  refine AW.seq ?_
  refine AW.draw hmix 12 (by kernel_rfl) ?_
  refine APre.run tok 2 _ _ _ _ rfl ?_
  refine APre.call tok rfl rfl rfl rfl rfl c3 ?_
  refine APre.run tok 1 _ _ _ _ rfl ?_
  refine APre.call tok rfl rfl rfl rfl rfl c5 ?_
  refine APre.run tok 4 _ _ _ _ rfl ?_
  refine APre.call tok rfl rfl rfl rfl rfl c4 ?_
  refine APre.run tok 1 _ _ _ _ rfl ?_
  refine APre.call tok rfl rfl rfl rfl rfl c6 ?_
  refine APre.nil ?_
  refine AOps.run tok 2 _ _ _ _ rfl ?_
  refine AOps.nil ?_
  exact AW.ret rfl
theorem r17_Rotate_ok (v : Option Rat) (q : V2) {k : Nat} (h : szT v ≤ k) (hq : szV q ≤ k) (h1 : 1 ≤ k) (hk : k ≤ 100000) : Pure Tryz.prog 87 [(TQ v).D, (VQ q).D] (VQ (rotF v q)).D := by
  refine Pure.intro (n := 31) tok Tryz.func87 rfl rfl rfl (Nat.le_of_ble_eq_true rfl) (by kernel_rfl) (fun B F0 w0 => ?_)
  have cd := r17_Direction_ok v h h1 (by omega)
  have hd := szV_1 (szV_dir v h h1)
  have hq := szV_1 hq
  unfold rotF
  generalize (dirT v).1 = c at cd hd ⊢
  generalize (dirT v).2 = s at cd hd ⊢
  obtain ⟨x, y⟩ := q
  simp only [] at hq ⊢
  have l1 := LQ_mul c x
  have l2 := LQ_mul s y
  have l3 := LQ_mul s x
  have l4 := LQ_mul c y
  have m1 := r02_Mul_ok (Qr c) (Qr x) (k := 4 * k + 4) (Qr_w _ (by omega)) (Qr_w _ (by omega)) (by omega)
  have m2 := r02_Mul_ok (Qr s) (Qr y) (k := 4 * k + 4) (Qr_w _ (by omega)) (Qr_w _ (by omega)) (by omega)
  have m3 := r02_Sub_ok (Qr (c * x)) (Qr (s * y)) (k := 8 * k + 8) (Qr_w _ (by omega)) (Qr_w _ (by omega)) (by omega)
  have m4 := r02_Mul_ok (Qr s) (Qr x) (k := 4 * k + 4) (Qr_w _ (by omega)) (Qr_w _ (by omega)) (by omega)
  have m5 := r02_Mul_ok (Qr c) (Qr y) (k := 4 * k + 4) (Qr_w _ (by omega)) (Qr_w _ (by omega)) (by omega)
  have m6 := r02_Add_ok (Qr (s * x)) (Qr (c * y)) (k := 8 * k + 8) (Qr_w _ (by omega)) (Qr_w _ (by omega)) (by omega)
  simp only [Qr_val] at m1 m2 m3 m4 m5 m6
  refine AW.seq ?_
  refine AW.region ?_   -- "ref.go:38"
  refine AOps.run tok 3 _ _ _ _ rfl ?_
  refine AOps.nil ?_
  refine AW.seq ?_
  refine AW.region ?_   -- "ref.go:39"
  refine AOps.run tok 1 _ _ _ _ rfl ?_
  refine AOps.call tok rfl rfl rfl rfl cd ?_
  refine AOps.run tok 7 _ _ _ _ rfl ?_
  refine AOps.nil ?_
  refine AW.seq ?_
  refine AW.draw hmix 19 (by kernel_rfl) ?_   -- "ref.go:40"
  refine APre.run tok 3 _ _ _ _ rfl ?_
  refine APre.call tok rfl rfl rfl rfl rfl m1 ?_
  refine APre.run tok 3 _ _ _ _ rfl ?_
  refine APre.call tok rfl rfl rfl rfl rfl m2 ?_
  refine APre.call tok rfl rfl rfl rfl rfl m3 ?_
  refine APre.run tok 3 _ _ _ _ rfl ?_
  refine APre.call tok rfl rfl rfl rfl rfl m4 ?_
  refine APre.run tok 3 _ _ _ _ rfl ?_
  refine APre.call tok rfl rfl rfl rfl rfl m5 ?_
  refine APre.call tok rfl rfl rfl rfl rfl m6 ?_
  refine APre.run tok 1 _ _ _ _ rfl ?_
  refine APre.nil ?_
  refine AOps.run tok 1 _ _ _ _ rfl ?_
  refine AOps.nil ?_
  exact AW.ret rfl
theorem r17_Apply_ok (p : Option Rat × V2) (q : V2) {k : Nat} (h : szP p ≤ k) (hq : szV q ≤ k) (h1 : 1 ≤ k) (hk : k ≤ 10000) : Pure Tryz.prog 44 [(PoQ p).D, (VQ q).D] (VQ (appF p q)).D := by
  refine Pure.intro (n := 12) tok Tryz.func44 rfl rfl rfl (Nat.le_of_ble_eq_true rfl) (by kernel_rfl) (fun B F0 w0 => ?_)
  obtain ⟨h2, h3⟩ := szP_1 h
  have c1 := r17_Rotate_ok p.1 q h2 hq h1 (by omega)
  have z1 := szV_rot p.1 q h2 hq h1
  have c2 := r17_Plus_ok (rotF p.1 q) p.2 (k := 10 * k + 9) z1 (by omega) (by omega)
  unfold appF
  generalize rotF p.1 q = r at c1 c2 ⊢
  refine AW.seq ?_
  refine AW.region ?_   -- "ref.go:86"
  refine AOps.run tok 3 _ _ _ _ rfl ?_
  refine AOps.nil ?_
  refine AW.seq ?_
  refine AW.draw hmix 7 (by kernel_rfl) ?_   -- "ref.go:86"
  refine APre.run tok 3 _ _ _ _ rfl ?_
  refine APre.call tok rfl rfl rfl rfl rfl c1 ?_
  refine APre.run tok 2 _ _ _ _ rfl ?_
  refine APre.call tok rfl rfl rfl rfl rfl c2 ?_
  refine APre.nil ?_
  refine AOps.run tok 1 _ _ _ _ rfl ?_
  refine AOps.nil ?_
  exact AW.ret rfl
theorem r17_SamePlace_ok (a b : V2) {k : Nat} (ha : szV a ≤ k) (hb : szV b ≤ k) (hk : k ≤ 1000000) : Pure Tryz.prog 42 [(VQ a).D, (VQ b).D] (dB (decide (a = b))) := by
  refine Pure.intro (n := 19) tok Tryz.func42 rfl rfl rfl (Nat.le_of_ble_eq_true rfl) (by kernel_rfl) (fun B F0 w0 => ?_)
  have ha := szV_1 ha
  have hb := szV_1 hb
  have m1 := r02_Cmp_ok (Qr a.1) (Qr b.1) (k := k) (Qr_w _ (by omega)) (Qr_w _ (by omega)) (by omega)
  have m2 := r02_Cmp_ok (Qr a.2) (Qr b.2) (k := k) (Qr_w _ (by omega)) (Qr_w _ (by omega)) (by omega)
  simp only [Qr_val] at m1 m2
  have e0 : decide (a = b) = (decide (a.1 = b.1) && decide (a.2 = b.2)) := by
    rw [← Bool.decide_and]
    exact decide_eq_decide.2 Prod.ext_iff
  rw [e0]
  refine AW.seq ?_
  refine AW.region ?_   -- "ref.go:120"
  refine AOps.run tok 3 _ _ _ _ rfl ?_
  refine AOps.nil ?_
  refine AW.seq ?_
  refine AW.region ?_   -- "ref.go:121"   -- GUARDS
  refine AOps.run tok 4 _ _ _ _ rfl ?_
  refine AOps.call tok rfl rfl rfl rfl m1 ?_
  refine AOps.run tok 1 _ _ _ _ rfl ?_
  rw [cmpQ0]
  cases decide (a.1 = b.1) with
  | true =>
    refine AOps.run tok 5 _ _ _ _ rfl ?_
    refine AOps.call tok rfl rfl rfl rfl m2 ?_
    refine AOps.run tok 1 _ _ _ _ rfl ?_
    rw [cmpQ0]
    refine AOps.run tok 2 _ _ _ _ rfl ?_
    refine AOps.nil ?_
    exact AW.ret rfl
  | false =>
    refine AOps.run tok 9 _ _ _ _ rfl ?_
    refine AOps.nil ?_
    exact AW.ret rfl
end Lift
/- The reference: the check of poses and dyads, Signs. -/
namespace Lift
open Go Go.Proofs

theorem r17_Places_ok (ps : List Po) (q : V2) {k : Nat} (hs : szL k ps) (hq : szV q ≤ k) (hl : ps.length ≤ 1000000) (h1 : 1 ≤ k) (hk : k ≤ 10000) : Pure Tryz.prog 85 [PsL ps, (VQ q).D] (VL (ps.map (fun p => appF p q))) := by
  refine Pure.intro (n := 22) tok Tryz.func85 rfl rfl rfl (Nat.le_of_ble_eq_true rfl) (by kernel_rfl) (fun B F0 w0 => ?_)
  refine AW.seq ?_
  refine AW.region ?_   -- "ref.go:154"
  refine AOps.run tok 2 _ _ _ _ rfl ?_
  refine AOps.nil ?_
  refine AW.seq ?_
  refine AW.region ?_   -- "ref.go:155"
  refine AOps.run tok 1 _ _ _ _ rfl ?_
  refine AOps.nil ?_
  refine AW.seq ?_
  refine AW.seq ?_
  refine AW.region ?_   -- "ref.go:156"
  refine AOps.run tok 2 _ _ _ _ rfl ?_
  rw [List.length_map]
  refine AOps.run tok 1 _ _ _ _ rfl ?_
  refine AOps.nil ?_
  refine AW.block ?_   -- block 0
  refine AW.loopS [3, 5, 8, 9, 10] (fun i : Nat => [(3, .bx (VQ q).D.flat), (5, .ow 27 (((ps.take i).map (fun p => appF p q)).map (fun v => (VQ v).D))), (8, .d (PsL ps)), (9, .d (dI ps.length)), (10, .d (dI i))]) (fun i => i ≤ ps.length) (fun i => ps.length - i) 0 rfl (Nat.zero_le _) (fun i hi => ?_)
  · skip
    refine AW.seq ?_
    refine AW.region ?_   -- "ref.go:156"
    refine AOps.run tok 1 _ _ _ _ rfl ?_
    refine AOps.nil ?_
    refine AW.seq ?_
    refine AW.cond rfl (fun h => ?_) (fun h => ?_)
    · have hii : i < ps.length := by have := of_decide_eq_true h; omega
      have hg := getPs hii
      have ca := r17_Apply_ok (ps.getD i (none, (0, 0))) q (hs i hii) hq h1 (by omega)
      have htk := take_snocD ps (none, (0, 0)) hii
      have hol : (ps.take i).length = i := by rw [List.length_take]; omega
      generalize ps.getD i (none, (0, 0)) = p at hg ca htk
      refine AW.skip ?_
      refine AW.seq ?_
      refine AW.block ?_   -- block 1
      refine AW.seq ?_
      refine AW.region ?_   -- "ref.go:156"
      refine AOps.idx tok (PoQ p).D rfl rfl rfl rfl (Int.natCast_nonneg i) hg ?_
      refine AOps.run tok 3 _ _ _ _ rfl ?_
      refine AOps.nil ?_
      refine AW.region ?_   -- "ref.go:157"
      refine AOps.run tok 3 _ _ _ _ rfl ?_
      refine AOps.call tok rfl rfl rfl rfl ca ?_
      refine AOps.bsd tok rfl rfl rfl rfl rfl ?_
      refine AOps.appo tok rfl rfl rfl rfl rfl rfl (by rw [List.length_map, List.length_map, hol]; show (_ + 1) * 112 ≤ _; omega) (by rw [List.length_map, List.length_map, hol]; show _ + 1 ≤ _; omega) ?_
      refine AOps.run tok 1 _ _ _ _ rfl ?_
      refine AOps.nil ?_
      refine AW.region ?_   -- "ref.go:156"
      refine AOps.run tok 1 _ _ _ _ rfl ?_
      rw [wI64 (x := (i : Int) + 1) (by omega) (by omega)]
      refine AOps.run tok 1 _ _ _ _ rfl ?_
      refine AOps.nil ?_
      exact ⟨i + 1, by rw [htk, List.map_append, List.map_append]; rfl, hii, by omega⟩
    have hii : i = ps.length := by have := of_decide_eq_false h; omega
    subst hii
    rw [List.take_length]
    refine AW.exit ?_
    -- END OF BODY; what follows the loop (from its exit):
    refine AW.seq ?_
    refine AW.region ?_   -- "ref.go:159"
    refine AOps.run tok 2 _ _ _ _ rfl ?_
    refine AOps.nil ?_
    exact AW.ret rfl
theorem r46_Dyad_ok (d : DyD) {k : Nat} (h : d.w k) (hk : k ≤ 20000000) : Pure Tryz.prog 35 [d.D] (dB d.okB) := by
  refine Pure.intro (n := 16) tok Tryz.func35 rfl rfl rfl (Nat.le_of_ble_eq_true rfl) (by kernel_rfl) (fun B F0 w0 => ?_)
  have c1 := r17_Place_ok d.c h.1 hk
  have c2 := r17_Place_ok d.m h.2.1 hk
  have c3 := r02_Valid_ok d.r h.2.2 (by omega)
  unfold DyD.okB
  generalize d.c.okB = v at c1 ⊢
  generalize d.m.okB = u at c2 ⊢
  generalize d.r.okB = t at c3 ⊢
  refine AW.seq ?_
  refine AW.region ?_   -- "ref.go:81"
  refine AOps.run tok 2 _ _ _ _ rfl ?_
  refine AOps.nil ?_
  refine AW.seq ?_
  refine AW.region ?_   -- "ref.go:82"   -- GUARDS
  refine AOps.run tok 2 _ _ _ _ rfl ?_
  refine AOps.call tok rfl rfl rfl rfl c1 ?_
  refine AOps.run tok 1 _ _ _ _ rfl ?_
  cases v with
  | false =>
    refine AOps.run tok 10 _ _ _ _ rfl ?_
    refine AOps.nil ?_
    exact AW.ret rfl
  | true =>
  refine AOps.run tok 2 _ _ _ _ rfl ?_
  refine AOps.call tok rfl rfl rfl rfl c2 ?_
  refine AOps.run tok 2 _ _ _ _ rfl ?_
  cases u with
  | false =>
    refine AOps.run tok 5 _ _ _ _ rfl ?_
    refine AOps.nil ?_
    exact AW.ret rfl
  | true =>
  refine AOps.run tok 2 _ _ _ _ rfl ?_
  refine AOps.call tok rfl rfl rfl rfl c3 ?_
  refine AOps.run tok 2 _ _ _ _ rfl ?_
  refine AOps.nil ?_
  exact AW.ret rfl
theorem r46_Passes_ok (ps : List Po) (d : V2 × V2 × Rat) {k : Nat} (h : szL k ps) (hd : szD d ≤ k) (hl : ps.length ≤ 1000000) (h1 : 1 ≤ k) (hk : k ≤ 1000) : Pure Tryz.prog 43 [PsL ps, (DyQ d).D] (dB (pasB ps d)) := by
  refine Pure.intro (n := 26) tok Tryz.func43 rfl rfl rfl (Nat.le_of_ble_eq_true rfl) (by kernel_rfl) (fun B F0 w0 => ?_)
  obtain ⟨hd1, hd2, hd3⟩ := szD_1 hd
  have cI := r17_Places_ok ps d.2.1 h hd2 (by omega) h1 (by omega)
  have hsz : ∀ i, i < ps.length → szV (appF (ps.getD i (none, (0, 0))) d.2.1) ≤ 11 * k + 10 := fun i hi => szV_app _ _ (h i hi) hd2 h1
  have hno := fun i hi => pas_no (ps := ps) (d := d) (i := i) hi
  have hyes := pas_yes (ps := ps) (d := d)
  generalize pasB ps d = E at hno hyes ⊢
  obtain ⟨c, m, r⟩ := d
  simp only [] at hd1 hd2 hd3 cI hsz hno hyes
  have cS := fun a (ha : szV a ≤ 11 * k + 10) => r17_Less_ok a c (k := 11 * k + 10) ha (by omega) (by omega)
  have cQ := fun a (ha : szV a ≤ 11 * k + 10) => r17_Square_ok (vsub a c) (k := 12 * k + 11) (Nat.le_trans (szV_sub a c ha hd1) (by omega)) (by omega)
  have cC := fun a (ha : szV a ≤ 11 * k + 10) => r02_Cmp_ok (Qr (dt (vsub a c) (vsub a c))) (Qr r) (k := 100 * k + 100) (Qr_w _ (Nat.le_trans (LQ_dt _ _ (szV_sub a c ha hd1) (szV_sub a c ha hd1)).1 (by omega))) (Qr_w _ (by omega)) (by omega)
  simp only [Qr_val] at cC
  refine AW.seq ?_
  refine AW.region ?_   -- "ref.go:86"
  refine AOps.run tok 2 _ _ _ _ rfl ?_
  refine AOps.nil ?_
  refine AW.seq ?_
  refine AW.seq ?_
  refine AW.region ?_   -- "ref.go:87"
  refine AOps.run tok 3 _ _ _ _ rfl ?_
  refine AOps.call tok rfl rfl rfl rfl cI ?_
  refine AOps.run tok 1 _ _ _ _ rfl ?_
  rw [List.length_map, List.length_map]
  refine AOps.run tok 1 _ _ _ _ rfl ?_
  refine AOps.nil ?_
  refine AW.block ?_   -- block 0
  refine AW.loopS [3, 10, 11, 12] (fun i : Nat => [(3, .bx (DyQ (c, m, r)).D.flat), (10, .d (VL (ps.map (fun p => appF p m)))), (11, .d (dI ps.length)), (12, .d (dI i))]) (fun i => i ≤ ps.length ∧ ∀ j, j < i → dt (vsub (appF (ps.getD j (none, (0, 0))) m) c) (vsub (appF (ps.getD j (none, (0, 0))) m) c) = r) (fun i => ps.length - i) 0 rfl ⟨Nat.zero_le _, fun j h => by omega⟩ (fun i ⟨hi, hI⟩ => ?_)
  refine AW.seq ?_
  refine AW.region ?_
  refine AOps.run tok 1 _ _ _ _ rfl ?_
  refine AOps.nil ?_
  refine AW.seq ?_
  refine AW.cond rfl (fun h => ?_) (fun h => ?_)
  rotate_left
  · have hii : ¬ i < ps.length := by have := of_decide_eq_false h; omega
    rw [hyes (fun j hj => hI j (by omega))]
    refine AW.exit ?_
    refine AW.seq ?_
    refine AW.region ?_
    refine AOps.run tok 1 _ _ _ _ rfl ?_
    refine AOps.nil ?_
    exact AW.ret rfl
  have hii : i < ps.length := by have := of_decide_eq_true h; omega
  have hg : ((ps.map (fun p => appF p m)).map (fun v => (VQ v).D))[i]? = some (VQ (appF (ps.getD i (none, (0, 0))) m)).D := by simp [hii]
  have ha := hsz i hii
  have hno := hno i hii
  obtain ⟨x, hx⟩ : ∃ x, x = appF (ps.getD i (none, (0, 0))) m := ⟨_, rfl⟩
  rw [← hx] at hg ha hno
  have s1 := cS x ha
  have s2 := cQ x ha
  have s3 := cC x ha
  refine AW.skip ?_
  refine AW.seq ?_
  refine AW.block ?_
  refine AW.seq ?_
  refine AW.region ?_
  refine AOps.idx tok (VQ x).D rfl rfl rfl rfl (Int.natCast_nonneg i) hg ?_
  refine AOps.run tok 3 _ _ _ _ rfl ?_
  refine AOps.nil ?_
  refine AW.seq ?_
  refine AW.draw hmix 9 (by kernel_rfl) ?_
  refine APre.run tok 3 _ _ _ _ rfl ?_
  refine APre.call tok rfl rfl rfl rfl rfl s1 ?_
  refine APre.call tok rfl rfl rfl rfl rfl s2 ?_
  refine APre.run tok 2 _ _ _ _ rfl ?_
  refine APre.call tok rfl rfl rfl rfl rfl s3 ?_
  refine APre.run tok 1 _ _ _ _ rfl ?_
  rw [cmpNe]
  refine APre.nil ?_
  refine AOps.nil ?_
  by_cases e : dt (vsub x c) (vsub x c) = r
  rotate_left
  · rw [decide_eq_false e, hno e]
    refine AW.condT rfl ?_
    refine AW.seq ?_
    refine AW.region ?_
    refine AOps.run tok 1 _ _ _ _ rfl ?_
    refine AOps.nil ?_
    exact AW.ret rfl
  rw [decide_eq_true e]
  refine AW.condF rfl ?_
  refine AW.skip ?_
  refine AW.region ?_
  refine AOps.run tok 1 _ _ _ _ rfl ?_
  rw [wI64 (x := (i : Int) + 1) (by omega) (by omega)]
  refine AOps.run tok 1 _ _ _ _ rfl ?_
  refine AOps.nil ?_
  refine ⟨i + 1, rfl, ⟨hii, fun j hj => ?_⟩, by omega⟩
  by_cases e2 : j = i
  · rw [e2, ← hx]; exact e
  · exact hI j (by omega)
theorem r45_Check_ok (l : List PoD) (hl : l.length ≤ 1000000) {k : Nat} (hw : ∀ i, i < l.length → (l.getD i default).w k) (hk : k ≤ 20000000) : Pure Tryz.prog 40 [PoL l] (dI (chkPo l)) := by
  refine Pure.intro (n := 23) tok Tryz.func40 rfl rfl rfl (Nat.le_of_ble_eq_true rfl) (by kernel_rfl) (fun B F0 w0 => ?_)
  unfold chkPo
  refine AW.seq ?_
  refine AW.region ?_   -- "ref.go:11"
  refine AOps.run tok 1 _ _ _ _ rfl ?_
  refine AOps.nil ?_
  refine AW.seq ?_
  refine AW.block ?_   -- block 0
  refine AW.seq ?_
  refine AW.region ?_   -- "ref.go:13"
  refine AOps.run tok 2 _ _ _ _ rfl ?_
  rw [List.length_map]
  refine AOps.run tok 2 _ _ _ _ rfl ?_
  refine AOps.nil ?_
  by_cases h2 : l.length < 2
  · rw [if_pos h2, decide_eq_true (show (l.length : Int) < 2 by omega)]
    refine AW.condT rfl ?_
    refine AW.seq ?_
    refine AW.region ?_
    refine AOps.run tok 1 _ _ _ _ rfl ?_
    refine AOps.nil ?_
    exact AW.ret rfl
  rw [if_neg h2, decide_eq_false (show ¬ (l.length : Int) < 2 by omega)]
  refine AW.condF rfl ?_
  refine AW.seq ?_
  refine AW.region ?_
  refine AOps.run tok 2 _ _ _ _ rfl ?_
  rw [List.length_map]
  refine AOps.run tok 2 _ _ _ _ rfl ?_
  refine AOps.nil ?_
  by_cases h5 : 5 < l.length
  · rw [if_pos h5, decide_eq_true (show (5 : Int) < (l.length : Int) by omega)]
    refine AW.condT rfl ?_
    refine AW.seq ?_
    refine AW.region ?_
    refine AOps.run tok 1 _ _ _ _ rfl ?_
    refine AOps.nil ?_
    exact AW.ret rfl
  rw [if_neg h5, decide_eq_false (show ¬ (5 : Int) < (l.length : Int) by omega)]
  refine AW.condF rfl ?_
  refine AW.skip ?_
  refine AW.seq ?_
  refine AW.seq ?_
  refine AW.region ?_
  refine AOps.run tok 2 _ _ _ _ rfl ?_
  rw [List.length_map]
  refine AOps.run tok 1 _ _ _ _ rfl ?_
  refine AOps.nil ?_
  refine AW.block ?_
  refine AW.loopS [13, 14, 15] (fun i : Nat => [(13, .d (PoL l)), (14, .d (dI l.length)), (15, .d (dI i))]) (fun i => i ≤ l.length ∧ ∀ j, j < i → (l.getD j default).okB = true) (fun i => l.length - i) 0 rfl ⟨Nat.zero_le _, fun j hj => by omega⟩ (fun i ⟨hi, hall⟩ => ?_)
  refine AW.seq ?_
  refine AW.region ?_
  refine AOps.run tok 1 _ _ _ _ rfl ?_
  refine AOps.nil ?_
  refine AW.seq ?_
  refine AW.cond rfl (fun h => ?_) (fun h => ?_)
  rotate_left
  · have hii : i = l.length := by have := of_decide_eq_false h; omega
    subst hii
    rw [posOk_yes hall, if_neg (by simp)]
    refine AW.exit ?_
    refine AW.seq ?_
    refine AW.region ?_
    refine AOps.run tok 1 _ _ _ _ rfl ?_
    refine AOps.nil ?_
    exact AW.ret rfl
  have hii : i < l.length := by have := of_decide_eq_true h; omega
  have hg := getM PoD.D (l := l) (i := i) hii
  have hno := posOk_no (l := l) (i := i) hii
  have cv := r17_Valid_ok (l.getD i default) (hw i hii) hk
  refine AW.skip ?_
  refine AW.seq ?_
  refine AW.block ?_
  refine AW.seq ?_
  refine AW.region ?_
  refine AOps.idx tok (l.getD i default).D rfl rfl rfl rfl (Int.natCast_nonneg i) hg ?_
  refine AOps.run tok 3 _ _ _ _ rfl ?_
  refine AOps.nil ?_
  refine AW.seq ?_
  refine AW.region ?_
  refine AOps.run tok 1 _ _ _ _ rfl ?_
  refine AOps.call tok rfl rfl rfl rfl cv ?_
  refine AOps.run tok 1 _ _ _ _ rfl ?_
  refine AOps.nil ?_
  cases hv : (l.getD i default).okB with
  | false =>
    rw [hno hv, if_pos rfl]
    refine AW.condT rfl ?_
    refine AW.seq ?_
    refine AW.region ?_
    refine AOps.run tok 1 _ _ _ _ rfl ?_
    refine AOps.nil ?_
    exact AW.ret rfl
  | true =>
  refine AW.condF rfl ?_
  refine AW.skip ?_
  refine AW.region ?_
  refine AOps.run tok 1 _ _ _ _ rfl ?_
  rw [wI64 (x := (i : Int) + 1) (by omega) (by omega)]
  refine AOps.run tok 1 _ _ _ _ rfl ?_
  refine AOps.nil ?_
  exact ⟨i + 1, rfl, ⟨hii, fun j hj => by
    by_cases e : j = i
    · subst e; exact hv
    · exact hall j (by omega)⟩, by omega⟩
end Lift
/- The reference of layer 50: Check, Signs; law 50: DefectsSigns. -/
namespace Lift
open Go Go.Proofs

set_option maxHeartbeats 1600000 in
theorem r50_Check_ok (l : List PoD) (d e : DyD) {k : Nat} (hl : l.length ≤ 1000000) (hw : ∀ i, i < l.length → (l.getD i default).w k) (hd : d.w k) (he : e.w k) (h1 : 1 ≤ k) (hk : k ≤ 1000) : Pure Tryz.prog 13 [PoL l, d.D, e.D] (dI (chkD l d e)) := by
  refine Pure.intro (n := 57) tok Tryz.func13 rfl rfl rfl (Nat.le_of_ble_eq_true rfl) (by kernel_rfl) (fun B F0 w0 => ?_)
  have cP := r45_Check_ok l hl hw (by omega)
  have v1 := r46_Dyad_ok d hd (by omega)
  have v2 := r46_Dyad_ok e he (by omega)
  have s1 := r02_Sign_ok d.r hd.2.2 (by omega)
  have s2 := r02_Sign_ok e.r he.2.2 (by omega)
  generalize hE : chkD l d e = E
  unfold chkD at hE
  refine AW.seq ?_
  refine AW.region ?_   -- "ref.go:16"
  refine AOps.run tok 3 _ _ _ _ rfl ?_
  refine AOps.nil ?_
  refine AW.seq ?_
  refine AW.seq ?_
  refine AW.region ?_   -- "ref.go:17"
  refine AOps.run tok 1 _ _ _ _ rfl ?_
  refine AOps.call tok rfl rfl rfl rfl cP ?_
  refine AOps.run tok 1 _ _ _ _ rfl ?_
  refine AOps.nil ?_
  by_cases hc : chkPo l = 0
  rotate_left
  · rw [if_pos hc] at hE
    subst hE
    refine AW.seq ?_
    refine AW.region ?_
    refine AOps.run tok 2 _ _ _ _ rfl ?_
    refine AOps.nil ?_
    rw [bne_iff_ne.2 (show ((chkPo l : Nat) : Int) ≠ 0 by omega)]
    refine AW.condT rfl ?_
    refine AW.seq ?_
    refine AW.region ?_
    refine AOps.run tok 2 _ _ _ _ rfl ?_
    refine AOps.nil ?_
    exact AW.ret rfl
  rw [if_neg (fun h => h hc)] at hE
  obtain ⟨hl2, hl5, hpo⟩ := chkPo_ok hc
  rw [hc]
  refine AW.seq ?_
  refine AW.region ?_
  refine AOps.run tok 2 _ _ _ _ rfl ?_
  refine AOps.nil ?_
  refine AW.condF rfl ?_
  refine AW.skip ?_
  refine AW.seq ?_
  refine AW.block ?_
  refine AW.seq ?_
  refine AW.region ?_
  refine AOps.run tok 1 _ _ _ _ rfl ?_
  refine AOps.call tok rfl rfl rfl rfl v1 ?_
  cases hv1 : d.okB with
  | false =>
    rw [hv1, if_pos (show (false && e.okB) = false from rfl)] at hE
    subst hE
    refine AOps.run tok 7 _ _ _ _ rfl ?_
    refine AOps.nil ?_
    refine AW.condT rfl ?_
    refine AW.seq ?_
    refine AW.region ?_
    refine AOps.run tok 1 _ _ _ _ rfl ?_
    refine AOps.nil ?_
    exact AW.ret rfl
  | true =>
  refine AOps.run tok 3 _ _ _ _ rfl ?_
  refine AOps.call tok rfl rfl rfl rfl v2 ?_
  refine AOps.run tok 3 _ _ _ _ rfl ?_
  refine AOps.nil ?_
  cases hv2 : e.okB with
  | false =>
    rw [hv1, hv2, if_pos (show (true && false) = false from rfl)] at hE
    subst hE
    refine AW.condT rfl ?_
    refine AW.seq ?_
    refine AW.region ?_
    refine AOps.run tok 1 _ _ _ _ rfl ?_
    refine AOps.nil ?_
    exact AW.ret rfl
  | true =>
  rw [hv1, hv2, if_neg (show ¬ (true && true) = false by simp)] at hE
  have q1 := DyD.canon hd hv1
  have q2 := DyD.canon he hv2
  have qd : d.m = VQ d.m.val := congrArg DyD.m q1
  have qe : e.m = VQ e.m.val := congrArg DyD.m q2
  have qdc : d.c = VQ d.c.val := congrArg DyD.c q1
  have qec : e.c = VQ e.c.val := congrArg DyD.c q2
  have sd := szD_1 (szD_val hd h1)
  have se := szD_1 (szD_val he h1)
  have m1 := r17_SamePlace_ok d.m.val e.m.val (k := k) sd.2.1 se.2.1 (by omega)
  have m2 := r17_SamePlace_ok d.c.val e.c.val (k := k) sd.1 se.1 (by omega)
  rw [← qd, ← qe] at m1
  rw [← qdc, ← qec] at m2
  have ql := PoL_canon hw hpo
  have p1 := r46_Passes_ok (l.map PoD.val) d.val (k := k) (szL_val hw h1) (szD_val hd h1) (by rw [List.length_map]; omega) h1 hk
  have p2 := r46_Passes_ok (l.map PoD.val) e.val (k := k) (szL_val hw h1) (szD_val he h1) (by rw [List.length_map]; omega) h1 hk
  rw [← PoL_q, ← ql, ← q1] at p1
  rw [← PoL_q, ← ql, ← q2] at p2
  refine AW.condF rfl ?_
  refine AW.seq ?_
  refine AW.region ?_
  refine AOps.run tok 2 _ _ _ _ rfl ?_
  refine AOps.call tok rfl rfl rfl rfl s1 ?_
  refine AOps.run tok 2 _ _ _ _ rfl ?_
  by_cases g1 : sgI d.r.val.num ≤ 0
  · rw [if_pos (.inl g1)] at hE
    subst hE
    rw [decide_eq_true g1]
    refine AOps.run tok 6 _ _ _ _ rfl ?_
    refine AOps.nil ?_
    refine AW.condT rfl ?_
    refine AW.seq ?_
    refine AW.region ?_
    refine AOps.run tok 1 _ _ _ _ rfl ?_
    refine AOps.nil ?_
    exact AW.ret rfl
  rw [decide_eq_false g1]
  refine AOps.run tok 2 _ _ _ _ rfl ?_
  refine AOps.call tok rfl rfl rfl rfl s2 ?_
  refine AOps.run tok 3 _ _ _ _ rfl ?_
  refine AOps.nil ?_
  by_cases g2 : sgI e.r.val.num ≤ 0
  · rw [if_pos (.inr g2)] at hE
    subst hE
    rw [decide_eq_true g2]
    refine AW.condT rfl ?_
    refine AW.seq ?_
    refine AW.region ?_
    refine AOps.run tok 1 _ _ _ _ rfl ?_
    refine AOps.nil ?_
    exact AW.ret rfl
  rw [decide_eq_false g2]
  rw [if_neg (fun h => h.elim g1 g2)] at hE
  refine AW.condF rfl ?_
  refine AW.seq ?_
  refine AW.region ?_
  refine AOps.run tok 4 _ _ _ _ rfl ?_
  refine AOps.call tok rfl rfl rfl rfl m1 ?_
  refine AOps.run tok 1 _ _ _ _ rfl ?_
  by_cases w1 : d.m.val = e.m.val
  · rw [if_pos (.inl w1)] at hE
    subst hE
    rw [decide_eq_true w1]
    refine AOps.run tok 7 _ _ _ _ rfl ?_
    refine AOps.nil ?_
    refine AW.condT rfl ?_
    refine AW.seq ?_
    refine AW.region ?_
    refine AOps.run tok 1 _ _ _ _ rfl ?_
    refine AOps.nil ?_
    exact AW.ret rfl
  rw [decide_eq_false w1]
  refine AOps.run tok 4 _ _ _ _ rfl ?_
  refine AOps.call tok rfl rfl rfl rfl m2 ?_
  refine AOps.run tok 2 _ _ _ _ rfl ?_
  refine AOps.nil ?_
  by_cases w2 : d.c.val = e.c.val
  · rw [if_pos (.inr w2)] at hE
    subst hE
    rw [decide_eq_true w2]
    refine AW.condT rfl ?_
    refine AW.seq ?_
    refine AW.region ?_
    refine AOps.run tok 1 _ _ _ _ rfl ?_
    refine AOps.nil ?_
    exact AW.ret rfl
  rw [decide_eq_false w2]
  rw [if_neg (fun h => h.elim w1 w2)] at hE
  refine AW.condF rfl ?_
  refine AW.seq ?_
  refine AW.region ?_
  refine AOps.run tok 2 _ _ _ _ rfl ?_
  refine AOps.call tok rfl rfl rfl rfl p1 ?_
  refine AOps.run tok 2 _ _ _ _ rfl ?_
  cases y1 : pasB (l.map PoD.val) d.val with
  | false =>
    rw [if_pos (.inl y1)] at hE
    subst hE
    refine AOps.run tok 6 _ _ _ _ rfl ?_
    refine AOps.nil ?_
    refine AW.condT rfl ?_
    refine AW.seq ?_
    refine AW.region ?_
    refine AOps.run tok 1 _ _ _ _ rfl ?_
    refine AOps.nil ?_
    exact AW.ret rfl
  | true =>
  refine AOps.run tok 2 _ _ _ _ rfl ?_
  refine AOps.call tok rfl rfl rfl rfl p2 ?_
  refine AOps.run tok 3 _ _ _ _ rfl ?_
  refine AOps.nil ?_
  cases y2 : pasB (l.map PoD.val) e.val with
  | false =>
    rw [if_pos (.inr y2)] at hE
    subst hE
    refine AW.condT rfl ?_
    refine AW.seq ?_
    refine AW.region ?_
    refine AOps.run tok 1 _ _ _ _ rfl ?_
    refine AOps.nil ?_
    exact AW.ret rfl
  | true =>
  rw [if_neg (fun h => by rw [y1, y2] at h; rcases h with h | h <;> cases h)] at hE
  subst hE
  refine AW.condF rfl ?_
  refine AW.skip ?_
  refine AW.seq ?_
  refine AW.region ?_
  refine AOps.run tok 1 _ _ _ _ rfl ?_
  refine AOps.nil ?_
  exact AW.ret rfl
theorem r50_Signs_ok (ps : List Po) (d e : Dy) {k : Nat} (hs : szL k ps) (hd : szD d ≤ k) (he : szD e ≤ k) (hl : ps.length ≤ 1000000) (h1 : 1 ≤ k) (hk : k ≤ 1000) : Pure Tryz.prog 16 [PsL ps, (DyQ d).D, (DyQ e).D] (IsD (ps.map (sgnF d e))) := by
  refine Pure.intro (n := 40) tok Tryz.func16 rfl rfl rfl (Nat.le_of_ble_eq_true rfl) (by kernel_rfl) (fun B F0 w0 => ?_)
  have hd := szD_1 hd
  have he := szD_1 he
  obtain ⟨dc, dm, dr⟩ := d
  obtain ⟨ec, em, er⟩ := e
  simp only [] at hd he
  refine AW.seq ?_
  refine AW.region ?_   -- "ref.go:34"
  refine AOps.run tok 3 _ _ _ _ rfl ?_
  refine AOps.nil ?_
  refine AW.seq ?_
  refine AW.region ?_   -- "ref.go:35"
  refine AOps.run tok 1 _ _ _ _ rfl ?_
  refine AOps.nil ?_
  refine AW.seq ?_
  refine AW.seq ?_
  refine AW.region ?_   -- "ref.go:36"
  refine AOps.run tok 2 _ _ _ _ rfl ?_
  rw [List.length_map]
  refine AOps.run tok 1 _ _ _ _ rfl ?_
  refine AOps.nil ?_
  refine AW.block ?_   -- block 0
  refine AW.loopS [4, 5, 7, 12, 13, 14] (fun i : Nat => [(4, .bx (DyQ (dc, dm, dr)).D.flat), (5, .bx (DyQ (ec, em, er)).D.flat), (7, .ow 3 (IL ((ps.take i).map (sgnF (dc, dm, dr) (ec, em, er))))), (12, .d (PsL ps)), (13, .d (dI ps.length)), (14, .d (dI i))]) (fun i => i ≤ ps.length) (fun i => ps.length - i) 0 rfl (Nat.zero_le _) (fun i hi => ?_)
  · skip
    refine AW.seq ?_
    refine AW.region ?_   -- "ref.go:36"
    refine AOps.run tok 1 _ _ _ _ rfl ?_
    refine AOps.nil ?_
    refine AW.seq ?_
    refine AW.cond rfl (fun h => ?_) (fun h => ?_)
    · have hii : i < ps.length := by have := of_decide_eq_true h; omega
      have hg := getPs hii
      have hsz := hs i hii
      have htk := take_snocD ps (none, (0, 0)) hii
      have hol : (ps.take i).length = i := by rw [List.length_take]; omega
      have hs1 : ∀ p, sgnF (dc, dm, dr) (ec, em, er) p = sgI (crs (vsub (appF p em) (appF p dm)) (vsub ec (appF p dm))).num := fun _ => rfl
      generalize sgnF (dc, dm, dr) (ec, em, er) = sF at hs1
      generalize ps.getD i (none, (0, 0)) = p at hg hsz htk
      have a1 := r17_Apply_ok p dm hsz hd.2.1 h1 (by omega)
      have a2 := r17_Apply_ok p em hsz he.2.1 h1 (by omega)
      have z1 := szV_app p dm hsz hd.2.1 h1
      have z2 := szV_app p em hsz he.2.1 h1
      have hs1 := hs1 p
      generalize appF p dm = a at a1 z1 hs1
      generalize appF p em = b at a2 z2 hs1
      have b1 := r17_Less_ok b a (k := 11 * k + 10) z2 z1 (by omega)
      have y1 := szV_sub b a z2 z1
      have b2 := r17_Less_ok ec a (k := 11 * k + 10) (by omega) z1 (by omega)
      have y2 := szV_sub ec a he.1 z1
      generalize vsub b a = u at b1 y1 hs1
      generalize vsub ec a = v at b2 y2 hs1
      have b3 := r38_Cross_ok u v (k := 22 * k + 21) (by omega) (by omega) (by omega)
      have y3 := (LQ_dt u v (k := 22 * k + 21) (m := 22 * k + 21) (by omega) (by omega)).2
      have b4 := r02_Sign_ok (Qr (crs u v)) (k := 100 * k + 100) (Qr_w _ (by omega)) (by omega)
      rw [Qr_val, ← hs1] at b4
      refine AW.skip ?_
      refine AW.seq ?_
      refine AW.block ?_   -- block 1
      refine AW.seq ?_
      refine AW.region ?_   -- "ref.go:36"
      refine AOps.idx tok (PoQ p).D rfl rfl rfl rfl (Int.natCast_nonneg i) hg ?_
      refine AOps.run tok 3 _ _ _ _ rfl ?_
      refine AOps.nil ?_
      refine AW.seq ?_
      refine AW.draw hmix 10 (by kernel_rfl) ?_   -- "ref.go:37"
      refine APre.run tok 3 _ _ _ _ rfl ?_
      refine APre.call tok rfl rfl rfl rfl rfl a1 ?_
      refine APre.run tok 3 _ _ _ _ rfl ?_
      refine APre.call tok rfl rfl rfl rfl rfl a2 ?_
      refine APre.run tok 2 _ _ _ _ rfl ?_
      refine APre.nil ?_
      refine AOps.run tok 2 _ _ _ _ rfl ?_
      refine AOps.nil ?_
      refine AW.draw hmix 11 (by kernel_rfl) ?_
      refine APre.run tok 3 _ _ _ _ rfl ?_
      refine APre.call tok rfl rfl rfl rfl rfl b1 ?_
      refine APre.run tok 3 _ _ _ _ rfl ?_
      refine APre.call tok rfl rfl rfl rfl rfl b2 ?_
      refine APre.call tok rfl rfl rfl rfl rfl b3 ?_
      refine APre.call tok rfl rfl rfl rfl rfl b4 ?_
      refine APre.bsd tok rfl rfl rfl rfl rfl rfl ?_
      refine APre.nil ?_
      refine AOps.appo tok rfl rfl rfl rfl rfl rfl (by rw [List.length_map, List.length_map, hol]; show (_ + 1) * 8 ≤ _; omega) (by rw [List.length_map, List.length_map, hol]; show _ + 1 ≤ _; omega) ?_
      refine AOps.run tok 1 _ _ _ _ rfl ?_
      refine AOps.nil ?_
      refine AW.region ?_   -- "ref.go:36"
      refine AOps.run tok 1 _ _ _ _ rfl ?_
      rw [wI64 (x := (i : Int) + 1) (by omega) (by omega)]
      refine AOps.run tok 1 _ _ _ _ rfl ?_
      refine AOps.nil ?_
      exact ⟨i + 1, by rw [htk, List.map_append]; show _ = ([_, _, (7, AV.ow _ (List.map _ (_ ++ _))), _, _, _] : St); rw [List.map_append]; rfl, hii, by omega⟩
    have hii : i = ps.length := by have := of_decide_eq_false h; omega
    subst hii
    rw [List.take_length]
    refine AW.exit ?_
    -- END OF BODY; what follows the loop (from its exit):
    refine AW.seq ?_
    refine AW.region ?_   -- "ref.go:40"
    refine AOps.run tok 2 _ _ _ _ rfl ?_
    refine AOps.nil ?_
    exact AW.ret rfl
end Lift
/- Law 50: DefectsSigns. -/
namespace Lift
open Go Go.Proofs

/-- What a law of layer 50 is handed. -/
def ok50 (l : List PoD) (d e : DyD) : Prop := l.length ≤ 4611686018427387904 ∧ (∀ i, i < l.length → (l.getD i default).w 35184372087808) ∧ d.w 35184372087808 ∧ e.w 35184372087808
theorem shR_w {r : RD} {K m k : Nat} (h : r.w K) (hs : shR m r = true) (hk : m ≤ k) : r.w k := by
  unfold shR at hs
  rw [Bool.and_eq_true, decide_eq_true_iff, decide_eq_true_iff] at hs
  exact ⟨h.1, h.2.1, by omega, by omega⟩
theorem rs_get {l : List RD} {m : Nat} (h : l.all (shR m) = true) {r : RD} (hr : r ∈ l) : shR m r = true := by
  rw [List.all_eq_true] at h
  exact h r hr
theorem brief_w {d : DyD} {K : Nat} (h : d.w K) (hb : briefB d = true) : d.w 6 := by
  have h1 := rs_get hb (r := d.c.x) (by show _ ∈ [d.c.x, d.c.y, d.m.x, d.m.y, d.r]; simp)
  have h2 := rs_get hb (r := d.c.y) (by show _ ∈ [d.c.x, d.c.y, d.m.x, d.m.y, d.r]; simp)
  have h3 := rs_get hb (r := d.m.x) (by show _ ∈ [d.c.x, d.c.y, d.m.x, d.m.y, d.r]; simp)
  have h4 := rs_get hb (r := d.m.y) (by show _ ∈ [d.c.x, d.c.y, d.m.x, d.m.y, d.r]; simp)
  have h5 := rs_get hb (r := d.r) (by show _ ∈ [d.c.x, d.c.y, d.m.x, d.m.y, d.r]; simp)
  exact ⟨⟨shR_w h.1.1 h1 (Nat.le_refl _), shR_w h.1.2 h2 (Nat.le_refl _)⟩, ⟨shR_w h.2.1.1 h3 (Nat.le_refl _), shR_w h.2.1.2 h4 (Nat.le_refl _)⟩, shR_w h.2.2 h5 (Nat.le_refl _)⟩
theorem shP_w {p : PoD} {K : Nat} (h : p.w K) (hb : shP p = true) : p.w 6 := by
  have h1 := rs_get hb (r := p.t.t) (by show _ ∈ [p.t.t, p.l.x, p.l.y]; simp)
  have h2 := rs_get hb (r := p.l.x) (by show _ ∈ [p.t.t, p.l.x, p.l.y]; simp)
  have h3 := rs_get hb (r := p.l.y) (by show _ ∈ [p.t.t, p.l.x, p.l.y]; simp)
  exact ⟨shR_w h.1 h1 (by decide), shR_w h.2.1 h2 (by decide), shR_w h.2.2 h3 (by decide)⟩
theorem short_w {l : List PoD} {d e : DyD} (h : ok50 l d e) (hs : shortB l d e = true) : l.length ≤ 20 ∧ (∀ i, i < l.length → (l.getD i default).w 6) ∧ d.w 6 ∧ e.w 6 := by
  unfold shortB at hs
  rw [Bool.and_eq_true, Bool.and_eq_true, Bool.and_eq_true, decide_eq_true_iff] at hs
  obtain ⟨h1, h2, h3, h4⟩ := hs
  refine ⟨h1, fun i hi => ?_, brief_w h.2.2.1 h3, brief_w h.2.2.2 h4⟩
  refine shP_w (h.2.1 i hi) ?_
  unfold short17 at h2
  rw [List.all_eq_true] at h2
  refine h2 _ ?_
  rw [List.getD_eq_getElem?_getD, List.getElem?_eq_getElem hi]
  exact List.getElem_mem hi
/-- What is known when poses and dyads are few and short, and accepted. -/
theorem ok_canon {l : List PoD} {d e : DyD} {k : Nat} (hw : ∀ i, i < l.length → (l.getD i default).w k) (hd : d.w k) (he : e.w k) (hc : chkD l d e = 0) : l = (l.map PoD.val).map PoQ ∧ d = DyQ d.val ∧ e = DyQ e.val := by
  obtain ⟨⟨_, _, hp⟩, h2, h3, _⟩ := chkD_ok hc
  exact ⟨PoL_canon hw hp, DyD.canon hd h2, DyD.canon he h3⟩
set_option maxHeartbeats 800000 in
theorem law50_Signs_ok (l : List PoD) (d e : DyD) (h : ok50 l d e) : Pure Tryz.prog 3 [PoL l, FourD d e] (dB true) := by
  refine Pure.intro (n := 55) tok Tryz.func3 rfl rfl rfl (Nat.le_of_ble_eq_true rfl) (by kernel_rfl) (fun B F0 w0 => ?_)
  have cA := law50_awake_ok
  have cS := law50_short_ok l d e h.1
  refine AW.seq ?_
  refine AW.region ?_   -- "law.go:55"
  refine AOps.run tok 2 _ _ _ _ rfl ?_
  refine AOps.nil ?_
  refine AW.seq ?_
  refine AW.seq ?_
  refine AW.region ?_   -- "law.go:56"   -- GUARDS
  refine AOps.call tok rfl rfl rfl rfl cA ?_
  refine AOps.run tok 4 _ _ _ _ rfl ?_
  refine AOps.call tok rfl rfl rfl rfl cS ?_
  refine AOps.run tok 2 _ _ _ _ rfl ?_
  refine AOps.nil ?_
  cases hs : shortB l d e with
  | false =>
    refine AW.condT rfl ?_
    refine AW.seq ?_
    refine AW.region ?_
    refine AOps.call tok rfl rfl rfl rfl cA ?_
    refine AOps.run tok 1 _ _ _ _ rfl ?_
    refine AOps.nil ?_
    exact AW.ret rfl
  | true =>
  obtain ⟨hl, hw, hd, he⟩ := short_w h hs
  have c1 := defects_Signs_ok l d e (by omega) hw hd he (by decide) (by decide)
  have c2 := r50_Check_ok l d e (by omega) hw hd he (by decide) (by decide)
  unfold signsD at c1
  refine AW.condF rfl ?_
  refine AW.skip ?_
  by_cases hc : chkD l d e = 0
  rotate_left
  · rw [if_neg hc] at c1
    have cN := base_Num_ok (chkD l d e)
    generalize chkD l d e = m at c1 c2 cN hc
    refine AW.seq ?_
    refine AW.region ?_
    refine AOps.run tok 5 _ _ _ _ rfl ?_
    refine AOps.call tok rfl rfl rfl rfl c1 ?_
    refine AOps.run tok 5 _ _ _ _ rfl ?_
    refine AOps.nil ?_
    refine AW.seq ?_
    refine AW.seq ?_
    refine AW.region ?_
    refine AOps.run tok 5 _ _ _ _ rfl ?_
    refine AOps.call tok rfl rfl rfl rfl c2 ?_
    refine AOps.run tok 1 _ _ _ _ rfl ?_
    refine AOps.nil ?_
    refine AW.seq ?_
    refine AW.region ?_
    refine AOps.run tok 2 _ _ _ _ rfl ?_
    refine AOps.nil ?_
    rw [bne_iff_ne.2 (show (m : Int) ≠ 0 by omega)]
    refine AW.condT rfl ?_
    refine AW.seq ?_
    refine AW.region ?_
    refine AOps.run tok 5 _ _ _ _ rfl ?_
    refine AOps.call tok rfl rfl rfl rfl cN ?_
    refine AOps.run tok 2 _ _ _ _ rfl ?_
    rw [beq_iff_eq.2 rfl]
    refine AOps.run tok 2 _ _ _ _ rfl ?_
    refine AOps.nil ?_
    exact AW.ret rfl
  rw [if_pos hc] at c1
  rw [hc] at c2
  obtain ⟨q1, q2, q3⟩ := ok_canon hw hd he hc
  have c3 := r50_Signs_ok (l.map PoD.val) d.val e.val (k := 6) (szL_val hw (by decide)) (szD_val hd (by decide)) (szD_val he (by decide)) (by rw [List.length_map]; omega) (by decide) (by decide)
  rw [← PoL_q, ← q1, ← q2, ← q3] at c3
  have c4 := base_Ints_ok ((l.map PoD.val).map (sgnF d.val e.val)) ((l.map PoD.val).map (sgnF d.val e.val)) (by rw [List.length_map, List.length_map]; omega)
  rw [decide_eq_true rfl] at c4
  generalize (l.map PoD.val).map (sgnF d.val e.val) = S at c1 c3 c4
  refine AW.seq ?_
  refine AW.region ?_
  refine AOps.run tok 5 _ _ _ _ rfl ?_
  refine AOps.call tok rfl rfl rfl rfl c1 ?_
  refine AOps.run tok 5 _ _ _ _ rfl ?_
  refine AOps.nil ?_
  refine AW.seq ?_
  refine AW.seq ?_
  refine AW.region ?_
  refine AOps.run tok 5 _ _ _ _ rfl ?_
  refine AOps.call tok rfl rfl rfl rfl c2 ?_
  refine AOps.run tok 1 _ _ _ _ rfl ?_
  refine AOps.nil ?_
  refine AW.seq ?_
  refine AW.region ?_
  refine AOps.run tok 2 _ _ _ _ rfl ?_
  refine AOps.nil ?_
  refine AW.condF rfl ?_
  refine AW.skip ?_
  refine AW.seq ?_
  refine AW.region ?_
  refine AOps.run tok 1 _ _ _ _ rfl ?_
  refine AOps.err tok rfl rfl rfl rfl rfl ?_
  refine AOps.run tok 7 _ _ _ _ rfl ?_
  refine AOps.call tok rfl rfl rfl rfl c3 ?_
  refine AOps.call tok rfl rfl rfl rfl c4 ?_
  refine AOps.run tok 2 _ _ _ _ rfl ?_
  refine AOps.nil ?_
  exact AW.ret rfl
end Lift
/- Poses, dyads and four-bars as they are handed to a function. -/
namespace Lift
open Go Go.Proofs

theorem u_turn4 : RT Tryz.prog 50 TD (fun a => a.D.flat) (fun a => a.t.w 35184372087808) := by
  have h := RT.struct (P := Tryz.prog) (t := 50) (m := 4) Tryz.underlying50 (by kernel_rfl) (RTF.cons (by kernel_rfl) u_rat4 (RTF.cons (by kernel_rfl) u_bool RTF.nil)) (fun v => rfl)
  exact h.map (fun v => ⟨v.1, v.2.1⟩) (fun v h => rfl) (fun v h => h.1) (fun v => ⟨by kernel_rfl, fun d hd => by
    simp only [D.flat, List.mem_cons, List.mem_nil_iff, or_false] at hd
    rcases hd with rfl | rfl | rfl | rfl <;> rfl⟩)
theorem u_place4 : RT Tryz.prog 27 PD (fun a => a.D.flat) (fun a => a.w 35184372087808) := by
  have h := RT.struct (P := Tryz.prog) (t := 27) (m := 6) Tryz.underlying27 (by kernel_rfl) (RTF.cons (by kernel_rfl) u_rat4 (RTF.cons (by kernel_rfl) u_rat4 RTF.nil)) (fun v => rfl)
  exact h.map (fun v => ⟨v.1, v.2.1⟩) (fun v h => rfl) (fun v h => ⟨h.1, h.2.1⟩) (fun v => ⟨by kernel_rfl, fun d hd => by
    simp only [D.flat, List.mem_cons, List.mem_nil_iff, or_false] at hd
    rcases hd with rfl | rfl | rfl | rfl | rfl | rfl <;> rfl⟩)
theorem u_pose4 : RT Tryz.prog 52 PoD (fun a => a.D.flat) (fun a => a.w 35184372087808) := by
  have h := RT.struct (P := Tryz.prog) (t := 52) (m := 10) Tryz.underlying52 (by kernel_rfl) (RTF.cons (by kernel_rfl) u_turn4 (RTF.cons (by kernel_rfl) u_place4 RTF.nil)) (fun v => rfl)
  exact h.map (fun v => ⟨v.1, v.2.1⟩) (fun v h => rfl) (fun v h => ⟨h.1, h.2.1⟩) (fun v => ⟨by kernel_rfl, fun d hd => by
    simp only [D.flat, List.mem_cons, List.mem_nil_iff, or_false] at hd
    rcases hd with rfl | rfl | rfl | rfl | rfl | rfl | rfl | rfl | rfl | rfl <;> rfl⟩)
theorem u_poses4 : RT Tryz.prog 22 (List PoD) (fun l => [PoL l]) (fun l => l.length ≤ reachBytes ∧ ∀ v ∈ l, v.w 35184372087808) :=
  RT.slice (el := PoD.D) (s := 10) (by kernel_rfl) (by kernel_rfl) (by kernel_rfl) (by decide) (Nat.le_of_ble_eq_true (by kernel_rfl)) u_pose4 (fun v => rfl)
theorem u_dyad4 : RT Tryz.prog 29 DyD (fun a => a.D.flat) (fun a => a.w 35184372087808) := by
  have h := RT.struct (P := Tryz.prog) (t := 29) (m := 15) Tryz.underlying29 (by kernel_rfl) (RTF.cons (by kernel_rfl) u_place4 (RTF.cons (by kernel_rfl) u_place4 (RTF.cons (by kernel_rfl) u_rat4 RTF.nil))) (fun v => rfl)
  exact h.map (fun v => ⟨v.1, v.2.1, v.2.2.1⟩) (fun v h => rfl) (fun v h => ⟨h.1, h.2.1, h.2.2.1⟩) (fun v => ⟨by kernel_rfl, fun d hd => by
    simp only [D.flat, List.mem_cons, List.mem_nil_iff, or_false] at hd
    rcases hd with rfl | rfl | rfl | rfl | rfl | rfl | rfl | rfl | rfl | rfl | rfl | rfl | rfl | rfl | rfl <;> rfl⟩)
theorem u_four4 : RT Tryz.prog 31 (DyD × DyD) (fun a => (FourD a.1 a.2).flat) (fun a => a.1.w 35184372087808 ∧ a.2.w 35184372087808) := by
  have h := RT.struct (P := Tryz.prog) (t := 31) (m := 30) Tryz.underlying31 (by kernel_rfl) (RTF.cons (by kernel_rfl) u_dyad4 (RTF.cons (by kernel_rfl) u_dyad4 RTF.nil)) (fun v => rfl)
  exact h.map (fun v => (v.1, v.2.1)) (fun v h => rfl) (fun v h => ⟨h.1, h.2.1⟩) (fun v => ⟨by kernel_rfl, fun d hd => by
    simp only [D.flat, List.cons_append, List.nil_append, List.mem_cons, List.mem_nil_iff, or_false] at hd
    rcases hd with rfl | rfl | rfl | rfl | rfl | rfl | rfl | rfl | rfl | rfl | rfl | rfl | rfl | rfl | rfl | rfl | rfl | rfl | rfl | rfl | rfl | rfl | rfl | rfl | rfl | rfl | rfl | rfl | rfl | rfl <;> rfl⟩)
def ok50L (l : List PoD) : Prop := l.length ≤ 4611686018427387904 ∧ (∀ i, i < l.length → (l.getD i default).w 35184372087808)
def ok50F (x : DyD × DyD) : Prop := x.1.w 35184372087808 ∧ x.2.w 35184372087808
theorem ok50_of {l : List PoD} {x : DyD × DyD} (h1 : ok50L l) (h2 : ok50F x) : ok50 l x.1 x.2 := ⟨h1.1, h1.2, h2.1, h2.2⟩
theorem ok50L_of {l : List PoD} (h : l.length ≤ reachBytes ∧ ∀ v ∈ l, v.w 35184372087808) : ok50L l := ⟨Nat.le_trans h.1 (by decide), fun i hi => by
  rw [List.getD_eq_getElem?_getD, List.getElem?_eq_getElem hi]
  exact h.2 _ (List.getElem_mem hi)⟩
end Lift
/- Imports. -/
