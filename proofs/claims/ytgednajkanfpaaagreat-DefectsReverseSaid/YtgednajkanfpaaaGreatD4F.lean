/- Parts of the proof, one behind the other: the logic, the contracts of the functions that the statement reaches. -/
import Derived.Test.YtgednajkanfpaaaGreatD4E
set_option linter.unusedVariables false
set_option linter.unusedSimpArgs false
namespace Lift
def Hp (u v : V2) : Prop := 0 < crs u v ∨ (crs u v = 0 ∧ 0 < dt u v)
theorem half_iff {u v : V2} : halfF u v = 0 ↔ Hp u v := by
  have k : (0 < sgQ (crs u v) ∨ (sgQ (crs u v) = 0 ∧ 0 < sgQ (dt u v))) ↔ Hp u v := by
    unfold Hp
    rw [sgQ_pos, sgQ_zero, sgQ_pos]
  unfold halfF
  rw [← k]
  split
  · rename_i h; exact ⟨fun _ => h, fun _ => rfl⟩
  · rename_i h; exact ⟨fun e => absurd e (by decide), fun e => absurd e h⟩
theorem half_one {u v : V2} : halfF u v = 1 ↔ ¬ Hp u v := by
  rw [← half_iff]
  rcases half_01 u v with e | e <;> rw [e] <;> simp
theorem less_iff {u v w : V2} : lessF u v w = true ↔ (Hp u v ∧ ¬ Hp u w) ∨ ((Hp u v ↔ Hp u w) ∧ 0 < crs v w) := by
  unfold lessF
  by_cases a : Hp u v <;> by_cases b : Hp u w
  · rw [half_iff.2 a, half_iff.2 b, if_neg (by simp), decide_eq_true_eq, sgQ_pos]
    exact ⟨fun h => .inr ⟨⟨fun _ => b, fun _ => a⟩, h⟩, fun h => h.elim (fun h => absurd b h.2) fun h => h.2⟩
  · rw [half_iff.2 a, half_one.2 b, if_pos (by decide)]
    exact ⟨fun _ => .inl ⟨a, b⟩, fun _ => rfl⟩
  · rw [half_one.2 a, half_iff.2 b, if_pos (by decide)]
    exact ⟨fun h => Bool.noConfusion h, fun h => h.elim (fun h => absurd h.1 a) fun h => absurd (h.1.2 b) a⟩
  · rw [half_one.2 a, half_one.2 b, if_neg (by simp), decide_eq_true_eq, sgQ_pos]
    exact ⟨fun h => .inr ⟨⟨fun x => absurd x a, fun x => absurd x b⟩, h⟩, fun h => h.elim (fun h => absurd h.1 a) fun h => h.2⟩
theorem plu (u a b c : V2) : crs u b * crs a c = crs u c * crs a b + crs u a * crs b c := by unfold crs; grind
theorem plu2 (u a b : V2) : dt u u * crs a b = dt u a * crs u b - crs u a * dt u b := by unfold crs dt; grind
theorem plu3 (u a b : V2) : dt u u * dt a b = dt u a * dt u b + crs u a * crs u b := by unfold crs dt; grind
theorem hp_trans {u a b c : V2} (hu : 0 < dt u u) (ha : Hp u a) (hb : Hp u b) (hc : Hp u c) (h1 : 0 < crs a b) (h2 : 0 < crs b c) : 0 < crs a c := by
  have p := plu u a b c
  have p1 := plu2 u a b
  have p2 := plu2 u b c
  have m1 := Rat.mul_pos hu h1
  have m2 := Rat.mul_pos hu h2
  rcases hb with hb | ⟨hb, hb'⟩
  rotate_left
  · rw [hb] at p1
    have : 0 ≤ crs u a := by rcases ha with h | h; grind; grind
    have := Rat.mul_nonneg this (show 0 ≤ dt u b by grind)
    grind
  rcases hc with hc | ⟨hc, hc'⟩
  rotate_left
  · rw [hc] at p2
    have := Rat.mul_pos hb hc'
    grind
  have q1 := Rat.mul_pos hc h1
  have q2 : 0 ≤ crs u a * crs b c := Rat.mul_nonneg (by rcases ha with h | h; grind; grind) (by grind)
  have q3 : 0 < crs u b * crs a c := by grind
  by_cases h : 0 < crs a c
  · exact h
  · have := Rat.mul_nonneg (show 0 ≤ crs u b by grind) (show 0 ≤ -crs a c by grind)
    grind
theorem hp_neg {u v : V2} (hu : 0 < dt u u) (hv : 0 < dt v v) (h : ¬ Hp u v) : Hp u (vneg v) := by
  unfold Hp at h ⊢
  rw [crs_vneg, dt_vneg]
  have l := lagr u v
  have := Rat.mul_pos hu hv
  by_cases h1 : crs u v = 0
  · by_cases h2 : dt u v = 0
    · rw [h1, h2] at l; grind
    · right; constructor
      · grind
      · have : ¬ 0 < dt u v := fun h3 => h (.inr ⟨h1, h3⟩)
        grind
  · left
    have : ¬ 0 < crs u v := fun h3 => h (.inl h3)
    grind
theorem crs_nn (a b : V2) : crs (vneg a) (vneg b) = crs a b := by unfold crs vneg; grind
theorem crs_n1 (a b : V2) : crs (vneg a) b = -crs a b := by unfold crs vneg; grind
theorem hp_same {u a c : V2} (hu : 0 < dt u u) (ha : Hp u a) (hc : Hp u c) (h : crs a c = 0) : 0 < dt a c := by
  have p := plu2 u a c
  have q := plu3 u a c
  rw [h] at p
  have done : 0 < dt u a * dt u c + crs u a * crs u c → 0 < dt a c := fun k => by
    by_cases h : 0 < dt a c
    · exact h
    · have := Rat.mul_nonneg (show 0 ≤ dt u u by grind) (show 0 ≤ -dt a c by grind)
      grind
  apply done
  rcases ha with ha | ⟨ha, ha'⟩ <;> rcases hc with hc | ⟨hc, hc'⟩
  · have m := Rat.mul_pos ha hc
    have e : dt u a * crs u c = crs u a * dt u c := by grind
    have : 0 ≤ dt u a * dt u c := by
      by_cases g : 0 ≤ dt u a
      · have g2 : 0 ≤ dt u c := by
          by_cases g2 : 0 ≤ dt u c
          · exact g2
          · have := Rat.mul_pos ha (show 0 < -dt u c by grind)
            have := Rat.mul_nonneg g (show 0 ≤ crs u c by grind)
            grind
        exact Rat.mul_nonneg g g2
      · have g2 : dt u c ≤ 0 := by
          by_cases g2 : dt u c ≤ 0
          · exact g2
          · have := Rat.mul_pos ha (show 0 < dt u c by grind)
            have := Rat.mul_pos (show 0 < -dt u a by grind) hc
            grind
        have := Rat.mul_nonneg (show 0 ≤ -dt u a by grind) (show 0 ≤ -dt u c by grind)
        grind
    grind
  · rw [hc] at p
    have := Rat.mul_pos ha hc'
    grind
  · rw [ha] at p
    have := Rat.mul_pos ha' hc
    grind
  · have := Rat.mul_pos ha' hc'
    rw [ha]; grind
theorem less_trans {u a b c : V2} (hu : 0 < dt u u) (ha : 0 < dt a a) (hb : 0 < dt b b) (hc : 0 < dt c c) (h1 : lessF u a b = true) (h2 : lessF u b c = true) : lessF u a c = true := by
  rw [less_iff] at *
  by_cases pa : Hp u a <;> by_cases pb : Hp u b <;> by_cases pc : Hp u c <;> simp only [pa, pb, pc, not_true, not_false_iff, and_true, true_and, and_false, false_and, false_or, or_false, true_or, iff_true, iff_false, true_iff, false_iff] at h1 h2 ⊢
  · exact hp_trans hu pa pb pc h1 h2
  · have := hp_trans hu (hp_neg hu ha pa) (hp_neg hu hb pb) (hp_neg hu hc pc) (by rw [crs_nn]; exact h1) (by rw [crs_nn]; exact h2)
    rw [crs_nn] at this; exact this
theorem less_back {u a b c : V2} (hu : 0 < dt u u) (ha : 0 < dt a a) (hb : 0 < dt b b) (hc : 0 < dt c c) (h1 : lessF u a b = true) (h2 : b = c ∨ lessF u b c = true) : lessF (barF c) (barF b) (barF a) = true := by
  have hH : ∀ x, Hp (barF c) (barF x) ↔ Hp x c := fun x => by
    unfold Hp
    rw [crs_bar, dt_bar, crs_comm c x, dt_comm c x, show -(-crs x c) = crs x c by grind]
  have hx : crs (barF b) (barF a) = crs a b := by rw [crs_bar, crs_comm b a]; grind
  rw [less_iff, hH, hH, hx]
  rw [less_iff] at h1
  have same : b = c → Hp b c := fun e => by subst e; exact .inr ⟨by unfold crs; grind, hb⟩
  by_cases pab : 0 < crs a b
  · by_cases hbc : Hp b c
    · by_cases hac : Hp a c
      · exact .inr ⟨⟨fun _ => hac, fun _ => hbc⟩, pab⟩
      · exact .inl ⟨hbc, hac⟩
    · rcases h2 with h2 | h2
      · exact absurd (same h2) hbc
      by_cases hac : Hp a c
      rotate_left
      · exact .inr ⟨⟨fun h => absurd h hbc, fun h => absurd h hac⟩, pab⟩
      exfalso
      rw [less_iff] at h2
      have hbc' : ¬ 0 < crs b c := fun h => hbc (.inl h)
      rcases h2 with ⟨pb, pc⟩ | h2
      rotate_left
      · exact hbc' h2.2
      have pa : Hp u a := by
        rcases h1 with h1 | h1
        · exact h1.1
        · exact h1.1.2 pb
      have nc := hp_neg hu hc pc
      have hac' : 0 < crs a c := by
        rcases hac with h | ⟨h, h'⟩
        · exact h
        · have := hp_same hu pa nc (by rw [crs_vneg, h]; grind)
          rw [dt_vneg] at this; grind
      have := hp_trans hu nc pa pb (by rw [crs_n1, crs_comm c a]; grind) pab
      rw [crs_n1, crs_comm c b] at this
      grind
  ·
    rcases h1 with ⟨pa, pb⟩ | h1
    rotate_left
    · exact absurd h1.2 pab
    have hbc : Hp b c := by
      rcases h2 with h2 | h2
      · exact same h2
      · rw [less_iff] at h2
        rcases h2 with h2 | h2
        · exact absurd h2.1 pb
        · exact .inl h2.2
    by_cases hac : Hp a c
    rotate_left
    · exact .inl ⟨hbc, hac⟩
    exfalso
    apply pab
    have nb := hp_neg hu hb pb
    have pc : ¬ Hp u c := by
      rcases h2 with h2 | h2
      · rw [← h2]; exact pb
      · rw [less_iff] at h2
        rcases h2 with h2 | h2
        · exact absurd h2.1 pb
        · exact fun h => pb (h2.1.2 h)
    have nc := hp_neg hu hc pc
    have hac' : 0 < crs a c := by
      rcases hac with h | ⟨h, h'⟩
      · exact h
      · have := hp_same hu pa nc (by rw [crs_vneg, h]; grind)
        rw [dt_vneg] at this; grind
    rcases h2 with h2 | h2
    · rw [h2]; exact hac'
    · rw [less_iff] at h2
      rcases h2 with h2 | h2
      · exact absurd h2.1 pb
      · have := hp_trans hu nb nc pa (by rw [crs_nn]; exact h2.2) (by rw [crs_n1, crs_comm c a]; grind)
        rw [crs_n1, crs_comm b a] at this
        grind
theorem allR_iff {f : Nat → Bool} {n : Nat} : allR f n = true ↔ ∀ i, i < n → f i = true := by
  unfold allR
  rw [List.all_eq_true]
  exact ⟨fun h i hi => h i (List.mem_range.2 hi), fun h i hi => h i (List.mem_range.1 hi)⟩
theorem anyR_iff {f : Nat → Bool} {n : Nat} : anyR f n = true ↔ ∃ i, i < n ∧ f i = true := by
  unfold anyR
  rw [List.any_eq_true]
  exact ⟨fun ⟨i, hi, h⟩ => ⟨i, List.mem_range.1 hi, h⟩, fun ⟨i, hi, h⟩ => ⟨i, List.mem_range.2 hi, h⟩⟩
theorem rev_get {α : Type} {l : List α} {x : α} {i : Nat} (hi : i < l.length) : l.reverse.getD i x = l.getD (l.length - 1 - i) x := by
  rw [List.getD_eq_getElem?_getD, List.getElem?_reverse hi, List.getD_eq_getElem?_getD]
def NzV (l : List V2) : Prop := ∀ i, i < l.length → 0 < dt (l.getD i (0, 0)) (l.getD i (0, 0))
theorem nz_rev {l : List V2} (h : NzV l) : NzV l.reverse := fun i hi => by
  rw [List.length_reverse] at hi
  rw [rev_get hi]
  exact h _ (by omega)
theorem nz_mir {l : List V2} (h : NzV l) : NzV (mirF l) := fun i hi => by
  rw [mirF_len] at hi
  rw [mirF_get hi, dt_bar]
  exact h i hi
theorem mir_mir (l : List V2) : mirF (mirF l) = l := by
  unfold mirF
  rw [List.map_map]
  have : ((fun p : V2 => (p.1, -p.2)) ∘ fun p : V2 => (p.1, -p.2)) = id := by
    funext p
    show (p.1, - -p.2) = p
    rw [show - -p.2 = p.2 by grind]
  rw [this, List.map_id]
theorem mir_rev (l : List V2) : mirF l.reverse = (mirF l).reverse := by unfold mirF; rw [List.map_reverse]
theorem asc_last {l : List V2} (hz : NzV l) (h : ascF l = true) {i j : Nat} (hij : i < j) (hj : j < l.length) : lessF (l.getD 0 (0, 0)) (l.getD i (0, 0)) (l.getD j (0, 0)) = true := by
  rw [asc_all, allR_iff] at h
  induction j with
  | zero => omega
  | succ j ih =>
    have s := h j (by omega)
    by_cases e : i = j
    · rw [e]; exact s
    · exact less_trans (hz 0 (by omega)) (hz i (by omega)) (hz j (by omega)) (hz (j + 1) hj) (ih (by omega) (by omega)) s
theorem asc_rev {l : List V2} (hz : NzV l) (h : ascF l = true) : ascF (mirF l.reverse) = true := by
  rw [asc_all, allR_iff, mirF_len, List.length_reverse]
  intro i hi
  have e0 : (mirF l.reverse).getD 0 (0, 0) = barF (l.getD (l.length - 1) (0, 0)) := by
    rw [mirF_get (by rw [List.length_reverse]; omega), rev_get (by omega), Nat.sub_zero]
  have e1 : (mirF l.reverse).getD i (0, 0) = barF (l.getD (l.length - 1 - i) (0, 0)) := by
    rw [mirF_get (by rw [List.length_reverse]; omega), rev_get (by omega)]
  have e2 : (mirF l.reverse).getD (i + 1) (0, 0) = barF (l.getD (l.length - 1 - (i + 1)) (0, 0)) := by
    rw [mirF_get (by rw [List.length_reverse]; omega), rev_get (by omega)]
  rw [e0, e1, e2]
  refine less_back (hz 0 (by omega)) (hz _ (by omega)) (hz _ (by omega)) (hz _ (by omega)) (asc_last hz h (i := l.length - 1 - (i + 1)) (j := l.length - 1 - i) (by omega) (by omega)) ?_
  by_cases hi0 : i = 0
  · left; rw [hi0, Nat.sub_zero]
  · right; exact asc_last hz h (by omega) (by omega)
theorem order_rev {l : List V2} (hz : NzV l) : orderF l.reverse = orderF l := by
  have a : ascF (mirF l.reverse) = ascF l := Bool.eq_iff_iff.2 ⟨fun h => by
    have := asc_rev (nz_mir (nz_rev hz)) h
    rw [← mir_rev, List.reverse_reverse, mir_mir] at this
    exact this, asc_rev hz⟩
  have b : ascF l.reverse = ascF (mirF l) := Bool.eq_iff_iff.2 ⟨fun h => by
    have := asc_rev (nz_rev hz) h
    rw [List.reverse_reverse] at this
    exact this, fun h => by
    have := asc_rev (nz_mir hz) h
    rw [← mir_rev, mir_mir] at this
    exact this⟩
  unfold orderF
  rw [a, b, Bool.and_comm]
theorem anyR_rev {f g : Nat → Bool} {n : Nat} (h : ∀ i, i < n → g i = f (n - 1 - i)) : anyR g n = anyR f n := Bool.eq_iff_iff.2 ⟨fun k => by
    obtain ⟨i, hi, e⟩ := anyR_iff.1 k
    rw [h i hi] at e
    exact anyR_iff.2 ⟨_, by omega, e⟩, fun k => by
    obtain ⟨i, hi, e⟩ := anyR_iff.1 k
    refine anyR_iff.2 ⟨n - 1 - i, by omega, ?_⟩
    rw [h _ (by omega), show n - 1 - (n - 1 - i) = i by omega]
    exact e⟩
theorem btwU_comm (u v : V2) : btwU u v = btwU v u := by
  unfold btwU
  rw [crs_comm u v, dt_comm u v, sgQ_negate, decide_eq_decide.2 (show -sgQ (crs v u) = 0 ↔ sgQ (crs v u) = 0 by omega)]
theorem betR_comm (b : BarR) (u v : V2) : betR b u v = betR b v u := by
  unfold betR betG
  rw [insR_swap u v, insR_swap u v, Bool.and_comm (posF b u) (posF b v)]
theorem br_iff {sg : List Int} : anyR (brB sg) sg.length = false ↔ ∃ c, c ≠ 0 ∧ ∀ i, i < sg.length → sg.getD i 0 = c := by
  constructor
  · intro h
    by_cases h0 : sg.length = 0
    · exact ⟨1, by decide, fun i hi => by omega⟩
    have f0 := anyR_no h 0 (by omega)
    unfold brB at f0
    rw [Bool.or_eq_false_iff] at f0
    refine ⟨sg.getD 0 0, of_decide_eq_false f0.1, fun i hi => ?_⟩
    have fi := anyR_no h i hi
    unfold brB at fi
    rw [Bool.or_eq_false_iff] at fi
    have := of_decide_eq_false fi.2
    exact Classical.not_not.1 this
  · rintro ⟨c, hc, hs⟩
    cases hv : anyR (brB sg) sg.length
    · rfl
    · obtain ⟨i, hi, e⟩ := anyR_iff.1 hv
      unfold brB at e
      rw [hs i hi, hs 0 (by omega), decide_eq_false hc, decide_eq_false (by simp)] at e
      cases e
theorem br_rev (sg : List Int) : anyR (brB sg.reverse) sg.length = anyR (brB sg) sg.length := by
  have key : ∀ sg : List Int, anyR (brB sg) sg.length = false → anyR (brB sg.reverse) sg.length = false := fun sg h => by
    obtain ⟨c, hc, hs⟩ := br_iff.1 h
    have := (br_iff (sg := sg.reverse)).2 ⟨c, hc, fun i hi => by
      rw [List.length_reverse] at hi
      rw [rev_get hi]
      exact hs _ (by omega)⟩
    rw [List.length_reverse] at this
    exact this
  cases h : anyR (brB sg) sg.length
  · exact key sg h
  · cases h2 : anyR (brB sg.reverse) sg.length
    · have := key sg.reverse (by rw [List.length_reverse]; exact h2)
      rw [List.reverse_reverse, List.length_reverse, h] at this
      exact this.symm
    · rfl
theorem Good.rev {ps : List Po} {d e : Dy} (g : Good ps d e) : Good ps.reverse d e := ⟨by unfold pasB; rw [List.all_reverse]; exact g.pd, by unfold pasB; rw [List.all_reverse]; exact g.pe, g.ap, g.fp, by rw [List.length_reverse]; exact g.l2, by rw [List.length_reverse]; exact g.l5⟩
theorem Good.nz {ps : List Po} {d e : Dy} (g : Good ps d e) : NzV (rdB ps d e).u := fun i hi => by
  rw [u_len] at hi
  rw [u_get _ _ _ hi, pas_dir g.pd hi]
  exact g.ap
theorem poG_rev {ps : List Po} {i : Nat} (hi : i < ps.length) : poG ps.reverse i = poG ps (ps.length - 1 - i) := rev_get hi
theorem rpt_rev {ps : List Po} {d e : Dy} (g : Good ps d e) : rptD (rdB ps.reverse d e) = rptD (rdB ps d e) := by
  have eu : (rdB ps.reverse d e).u = (rdB ps d e).u.reverse := List.map_reverse
  have es : (rdB ps.reverse d e).sg = (rdB ps d e).sg.reverse := List.map_reverse
  obtain ⟨p1, p2, p3⟩ := rpt_parts g
  obtain ⟨r1, r2, r3⟩ := rpt_parts g.rev
  have l2 := g.l2
  have a1 : anyR (unR ps.reverse d) (ps.length - 1) = anyR (unR ps d) (ps.length - 1) := anyR_rev fun i hi => by
    unfold unR
    rw [poG_rev (by omega), poG_rev (by omega), btwU_comm, show ps.length - 1 - (i + 1) = ps.length - 1 - 1 - i by omega, show ps.length - 1 - i = ps.length - 1 - 1 - i + 1 by omega]
  have a2 : anyR (ciR ps.reverse d e) (ps.length - 1) = anyR (ciR ps d e) (ps.length - 1) := anyR_rev fun i hi => by
    unfold ciR
    rw [poG_rev (by omega), poG_rev (by omega), betR_comm, show ps.length - 1 - (i + 1) = ps.length - 1 - 1 - i by omega, show ps.length - 1 - i = ps.length - 1 - 1 - i + 1 by omega]
  have a3 : orderF (rdB ps.reverse d e).u = orderF (rdB ps d e).u := by rw [eu]; exact order_rev g.nz
  have a4 : anyR (brB (rdB ps.reverse d e).sg) (rdB ps.reverse d e).sg.length = anyR (brB (rdB ps d e).sg) (rdB ps d e).sg.length := by
    rw [es, List.length_reverse]; exact br_rev _
  unfold rptD
  rw [r1, r3, p1, p3, List.length_reverse, a1, a2, a3, a4]
theorem val_rev (l : List PoD) : l.reverse.map PoD.val = (l.map PoD.val).reverse := List.map_reverse
theorem chkD_rev (l : List PoD) (d e : DyD) : chkD l.reverse d e = chkD l d e := by
  have a : chkPo l.reverse = chkPo l := by
    unfold chkPo posOk
    rw [List.length_reverse, List.all_reverse]
  have b : ∀ x : Dy, pasB (l.reverse.map PoD.val) x = pasB (l.map PoD.val) x := fun x => by
    unfold pasB
    rw [val_rev, List.all_reverse]
  unfold chkD
  rw [a, b, b]
theorem report_rev (l : List PoD) (d e : DyD) : reportD l.reverse d e = reportD l d e := by
  unfold reportD
  rw [chkD_rev]
  by_cases h : chkD l d e = 0
  · rw [if_neg (by rw [h]; simp), if_neg (by rw [h]; simp), val_rev, rpt_rev (chk_good h)]
  · rw [if_pos h, if_pos h]
end Lift
namespace Lift
open Go Go.Proofs
theorem signs_rev {l : List PoD} {d e : DyD} (hl : l.length ≤ 20) : ∃ (S : List Int) (m : Nat), S.length ≤ 20 ∧ signsD l d e = .tu [.sl 1 (IL S), erV m] ∧ signsD l.reverse d e = .tu [.sl 1 (IL S.reverse), erV m] := by
  unfold signsD
  rw [chkD_rev]
  by_cases h : chkD l d e = 0
  · rw [if_pos h, if_pos h, val_rev, List.map_reverse]
    exact ⟨_, 0, by rw [List.length_map, List.length_map]; exact hl, rfl, rfl⟩
  · rw [if_neg h, if_neg h]
    exact ⟨[], _, by decide, rfl, rfl⟩
theorem report_form (l : List PoD) (d e : DyD) : ∃ (x y z : Bool) (m : Nat), reportD l d e = .tu [DfD x y z, erV m] := by
  unfold reportD rptD
  split
  · exact ⟨_, _, _, _, rfl⟩
  · split
    · exact ⟨_, _, _, 15, rfl⟩
    · exact ⟨_, _, _, 0, rfl⟩
set_option maxHeartbeats 1600000 in
theorem law50_Reverse_ok (l : List PoD) (d e : DyD) (h : ok50 l d e) : Pure Tryz.prog 5 [PoL l, FourD d e] (dB true) := by
  refine Pure.intro (n := 118) tok Tryz.func5 rfl rfl rfl (Nat.le_of_ble_eq_true rfl) (by kernel_rfl) (fun B F0 w0 => ?_)
  have cA := law50_awake_ok
  have cS := law50_short_ok l d e h.1
  refine AW.seq ?_
  refine AW.region ?_
  refine AOps.run tok 2 _ _ _ _ rfl ?_
  refine AOps.nil ?_
  refine AW.seq ?_
  refine AW.seq ?_
  refine AW.region ?_
  refine AOps.call tok rfl rfl rfl rfl cA ?_
  refine AOps.run tok 4 _ _ _ _ rfl ?_
  refine AOps.call tok rfl rfl rfl rfl cS ?_
  refine AOps.run tok 2 _ _ _ _ rfl ?_
  refine AOps.nil ?_
  cases hs : shortB l d e with
  | false =>
    refine AW.condT rfl ?_
    refine AW.seq ?_
    refine AW.region ?_
    refine AOps.call tok rfl rfl rfl rfl cA ?_
    refine AOps.run tok 1 _ _ _ _ rfl ?_
    refine AOps.nil ?_
    exact AW.ret rfl
  | true =>
  obtain ⟨hl, hw, hd, he⟩ := short_w h hs
  have c1 := defects_Signs_ok l d e (by omega) hw hd he (by decide) (by decide)
  have c2 := defects_Signs_ok l.reverse d e (k := 6) (by rw [List.length_reverse]; omega) (fun i hi => by rw [List.length_reverse] at hi; rw [rev_get hi]; exact hw _ (by omega)) hd he (by decide) (by decide)
  have c3 := defects_Report_ok l d e (by omega) hw hd he (by decide) (by decide)
  have c4 := defects_Report_ok l.reverse d e (k := 6) (by rw [List.length_reverse]; omega) (fun i hi => by rw [List.length_reverse] at hi; rw [rev_get hi]; exact hw _ (by omega)) hd he (by decide) (by decide)
  rw [report_rev] at c4
  obtain ⟨S, m, hS, e1, e2⟩ := signs_rev (l := l) (d := d) (e := e) hl
  obtain ⟨x, y, z, m2, e3⟩ := report_form l d e
  rw [e1] at c1
  rw [e2] at c2
  rw [e3] at c3 c4
  clear e1 e2 e3
  have hrl : l.reverse.length = l.length := List.length_reverse
  have hr : ∀ j, j < l.length → l.reverse.getD j default = l.getD (l.length - 1 - j) default := fun j hj => rev_get hj
  have gl : ∀ j, j < l.length → (l.map (fun p => p.D))[j]? = some (l.getD j default).D := fun j hj => by simp [hj]
  generalize l.reverse = B' at c2 c4 hrl hr
  · refine AW.condF rfl ?_
    refine AW.skip ?_
    refine AW.seq ?_
    refine AW.region ?_
    refine AOps.run tok 1 _ _ _ _ rfl ?_
    refine AOps.nil ?_
    refine AW.seq ?_
    refine AW.seq ?_
    refine AW.region ?_
    refine AOps.run tok 2 _ _ _ _ rfl ?_
    rw [List.length_map]
    refine AOps.run tok 1 _ _ _ _ rfl ?_
    rw [wI64 (x := (l.length : Int) - 1) (by omega) (by omega)]
    refine AOps.run tok 1 _ _ _ _ rfl ?_
    refine AOps.nil ?_
    refine AW.block ?_
    refine AW.loopS [0, 3, 5, 6] (fun j : Nat => [(0, .d (PoL l)), (3, .bx (d.D.flat ++ e.D.flat)), (5, .ow 52 ((B'.take j).map (fun p => p.D))), (6, .d (dI ((l.length : Int) - 1 - j)))]) (fun j => j ≤ l.length) (fun j => l.length - j) 0 (by show _ = ([(0, .d (PoL l)), (3, .bx (d.D.flat ++ e.D.flat)), (5, .ow 52 []), (6, .d (dI ((l.length : Int) - 1 - ((0 : Nat) : Int))))] : St); rw [show (l.length : Int) - 1 - ((0 : Nat) : Int) = (l.length : Int) - 1 by omega]; rfl) (Nat.zero_le _) (fun j hj => ?_)
    refine AW.seq ?_
    refine AW.seq ?_
    refine AW.region ?_
    refine AOps.run tok 2 _ _ _ _ rfl ?_
    refine AOps.nil ?_
    refine AW.cond rfl (fun h => ?_) (fun h => ?_)
    · have hj2 : j < l.length := by have := of_decide_eq_true h; omega
      have hg := gl (l.length - 1 - j) (by omega)
      have hrj := hr j hj2
      have htk := take_snocD B' default (i := j) (by omega)
      rw [hrj] at htk
      have hol : (B'.take j).length = j := by rw [List.length_take]; omega
      generalize l.getD (l.length - 1 - j) default = p at hg htk
      refine AW.skip ?_
      refine AW.seq ?_
      refine AW.block ?_
      refine AW.region ?_
      refine AOps.run tok 3 _ _ _ _ rfl ?_
      refine AOps.idx tok p.D rfl rfl rfl rfl (show (0 : Int) ≤ (l.length : Int) - 1 - j by omega) (by rw [show ((l.length : Int) - 1 - j).toNat = l.length - 1 - j by omega]; exact hg) ?_
      refine AOps.run tok 1 _ _ _ _ rfl ?_
      refine AOps.bs tok rfl rfl rfl rfl ?_
      refine AOps.appo tok rfl rfl rfl rfl rfl rfl (by rw [List.length_map, hol]; show (_ + 1) * 176 ≤ _; omega) (by rw [List.length_map, hol]; show _ + 1 ≤ _; omega) ?_
      refine AOps.run tok 1 _ _ _ _ rfl ?_
      refine AOps.nil ?_
      refine AW.region ?_
      refine AOps.run tok 2 _ _ _ _ rfl ?_
      rw [wI64 (x := (l.length : Int) - 1 - j - 1) (by omega) (by omega), show (l.length : Int) - 1 - j - 1 = (l.length : Int) - 1 - ((j + 1 : Nat) : Int) by omega]
      refine AOps.run tok 1 _ _ _ _ rfl ?_
      refine AOps.nil ?_
      exact ⟨j + 1, by rw [htk, List.map_append]; rfl, hj2, by omega⟩
    have hj2 : j = l.length := by have := of_decide_eq_false h; have : j ≤ l.length := hj; omega
    subst hj2
    rw [List.take_of_length_le (by omega)]
    · refine AW.exit ?_
      refine AW.seq ?_
      refine AW.region ?_
      refine AOps.frz tok 5 rfl rfl ?_
      refine AOps.run tok 5 _ _ _ _ rfl ?_
      refine AOps.call tok rfl rfl rfl rfl c1 ?_
      refine AOps.run tok 5 _ _ _ _ rfl ?_
      refine AOps.nil ?_
      refine AW.seq ?_
      refine AW.region ?_
      refine AOps.run tok 5 _ _ _ _ rfl ?_
      refine AOps.call tok rfl rfl rfl rfl c2 ?_
      refine AOps.run tok 5 _ _ _ _ rfl ?_
      refine AOps.nil ?_
      refine AW.seq ?_
      refine AW.region ?_
      refine AOps.run tok 5 _ _ _ _ rfl ?_
      refine AOps.call tok rfl rfl rfl rfl c3 ?_
      refine AOps.run tok 6 _ _ _ _ rfl ?_
      refine AOps.nil ?_
      refine AW.seq ?_
      refine AW.region ?_
      refine AOps.run tok 5 _ _ _ _ rfl ?_
      refine AOps.call tok rfl rfl rfl rfl c4 ?_
      refine AOps.run tok 6 _ _ _ _ rfl ?_
      refine AOps.nil ?_
      refine AW.seq ?_
      refine AW.seq ?_
      refine AW.region ?_
      refine AOps.run tok 1 _ _ _ _ rfl ?_
      refine AOps.call tok rfl rfl rfl rfl (base_Num_ok m) ?_
      refine AOps.run tok 1 _ _ _ _ rfl ?_
      refine AOps.call tok rfl rfl rfl rfl (base_Num_ok m) ?_
      refine AOps.run tok 1 _ _ _ _ rfl ?_
      rw [bne_eq_false_iff_eq.2 (rfl : (m : Int) = m)]
      refine AOps.run tok 2 _ _ _ _ rfl ?_
      refine AOps.call tok rfl rfl rfl rfl (base_Num_ok m2) ?_
      refine AOps.run tok 1 _ _ _ _ rfl ?_
      refine AOps.call tok rfl rfl rfl rfl (base_Num_ok m2) ?_
      refine AOps.run tok 1 _ _ _ _ rfl ?_
      rw [bne_eq_false_iff_eq.2 (rfl : (m2 : Int) = m2)]
      refine AOps.run tok 4 _ _ _ _ rfl ?_
      refine AOps.se3 tok rfl rfl rfl rfl (by kernel_rfl) ?_
      rw [show (((x, y, z) == (x, y, z)) == false) = false by cases x <;> cases y <;> cases z <;> rfl]
      refine AOps.run tok 6 _ _ _ _ rfl ?_
      rw [List.length_map, List.length_map, List.length_reverse]
      refine AOps.run tok 1 _ _ _ _ rfl ?_
      rw [bne_eq_false_iff_eq.2 (rfl : (S.length : Int) = S.length)]
      refine AOps.run tok 1 _ _ _ _ rfl ?_
      refine AOps.nil ?_
      · refine AW.condF rfl ?_
        refine AW.skip ?_
        refine AW.seq ?_
        refine AW.seq ?_
        refine AW.region ?_
        refine AOps.run tok 2 _ _ _ _ rfl ?_
        rw [List.length_map]
        refine AOps.run tok 1 _ _ _ _ rfl ?_
        refine AOps.nil ?_
        refine AW.block ?_
        refine AW.loopS [7, 9, 100, 101] (fun i : Nat => [(7, .d (.sl 1 (IL S))), (9, .d (.sl 1 (IL S.reverse))), (100, .d (dI S.length)), (101, .d (dI i))]) (fun i => i ≤ S.length) (fun i => S.length - i) 0 rfl (Nat.zero_le _) (fun i hi => ?_)
        refine AW.seq ?_
        refine AW.region ?_
        refine AOps.run tok 1 _ _ _ _ rfl ?_
        refine AOps.nil ?_
        refine AW.seq ?_
        refine AW.cond rfl (fun h => ?_) (fun h => ?_)
        rotate_left
        · refine AW.exit ?_
          refine AW.seq ?_
          refine AW.region ?_
          refine AOps.run tok 1 _ _ _ _ rfl ?_
          refine AOps.nil ?_
          exact AW.ret rfl
        have hi2 : i < S.length := by have := of_decide_eq_true h; omega
        have g1 := getI (l := S) hi2
        have g2 := getI (l := S.reverse) (i := S.length - 1 - i) (by rw [List.length_reverse]; omega)
        rw [rev_get (by omega), show S.length - 1 - (S.length - 1 - i) = i by omega] at g2
        generalize S.getD i 0 = s at g1 g2
        refine AW.skip ?_
        refine AW.seq ?_
        refine AW.block ?_
        refine AW.seq ?_
        refine AW.region ?_
        refine AOps.run tok 2 _ _ _ _ rfl ?_
        refine AOps.nil ?_
        refine AW.seq ?_
        refine AW.draw hmix 13 (by kernel_rfl) ?_
        refine APre.run tok 2 _ _ _ _ rfl ?_
        refine APre.idx tok (dI s) rfl rfl rfl rfl rfl (Int.natCast_nonneg i) g1 ?_
        refine APre.run tok 4 _ _ _ _ rfl ?_
        rw [List.length_map, List.length_reverse]
        refine APre.run tok 1 _ _ _ _ rfl ?_
        rw [wI64 (x := (S.length : Int) - 1) (by omega) (by omega)]
        refine APre.run tok 2 _ _ _ _ rfl ?_
        rw [wI64 (x := (S.length : Int) - 1 - i) (by omega) (by omega), show (S.length : Int) - 1 - i = ((S.length - 1 - i : Nat) : Int) by omega]
        refine APre.idx tok (dI s) rfl rfl rfl rfl rfl (Int.natCast_nonneg _) g2 ?_
        refine APre.run tok 2 _ _ _ _ rfl ?_
        rw [bne_eq_false_iff_eq.2 (rfl : s = s)]
        refine APre.nil ?_
        refine AOps.nil ?_
        refine AW.condF rfl ?_
        refine AW.skip ?_
        refine AW.region ?_
        refine AOps.run tok 1 _ _ _ _ rfl ?_
        rw [wI64 (x := (i : Int) + 1) (by omega) (by omega)]
        refine AOps.run tok 1 _ _ _ _ rfl ?_
        refine AOps.nil ?_
        exact ⟨i + 1, rfl, hi2, by omega⟩
end Lift
