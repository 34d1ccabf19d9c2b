/- Parts of the proof, one behind the other: the logic, the contracts of the functions that the statement reaches. -/
import Derived.Test.YtjjebjajjjjcjaaGmC
import Derived.OrdersHeld
import Derived.OrdersIn
import Derived.TacticsIn
import Derived.RangeFuncCalls
import Derived.RangeFuncKeeps
import Derived.RangeFuncNested
import Derived.RangeFuncLeaves
set_option linter.unusedVariables false
set_option linter.unusedSimpArgs false
/- Rows of the call's own that no slot is the home of: they are known by their value. -/
namespace Lift
open Go
open Go.RowKit (Below)

abbrev LR := Value × AV
section
variable {P : Program} {T : Ty} {B : Nat} {F0 : Nat → Prop} {w0 : Bas} {n : Nat} {σ σ' : St} {R R' : List LR} {a : Act} {w : World}

def LooseAt (P : Program) (w : World) (O : Nat → Option Nat) (F : Nat → Prop) (t : Nat) (r : LR) : Prop :=
  r.2 = .junk ∨ r.2.row.isSome = true ∧ r.2.tag = false ∧ AVR P (fun _ => False) w O F (fun _ => none) (fun _ => none) t r.2 r.1

structure RelZ (P : Program) (B : Nat) (F0 : Nat → Prop) (w0 : Bas) (n : Nat) (R : List LR) (σ : St) (a : Act) (w : World) : Prop where
  below : BelY B w0 w0.w w
  base : B ≤ w.heap.size
  f0 : F0ok B F0 w0
  defers : a.defers = []
  size : a.tmps.size = n
  own : ∃ O : Nat → Option Nat, (∀ b t, O b = some t → OwnR B w0 w b) ∧ (∀ t av, σ.get t = some av → ∃ v, a.tmps[t]? = some v ∧ AVR P w0.X w O (FW B F0 w) σ.get (fun h => a.tmps[h]?) t av v) ∧
    ∀ i r, R[i]? = some r → LooseAt P w O (FW B F0 w) (n + i) r

theorem RelZ.rel (h : RelZ P B F0 w0 n R σ a w) : Rel P B F0 w0 n σ a w := by
  obtain ⟨O, h1, h2, _⟩ := h.own
  exact ⟨h.below, h.base, h.f0, h.defers, h.size, O, h1, h2⟩
theorem Rel.z (h : Rel P B F0 w0 n σ a w) : RelZ P B F0 w0 n [] σ a w := by
  obtain ⟨O, h1, h2⟩ := h.own
  exact ⟨h.below, h.base, h.f0, h.defers, h.size, O, h1, h2, fun i r hr => by simp at hr⟩

theorem AVR.reX {X X' : Nat → Prop} {O : Nat → Option Nat} {F : Nat → Prop} {hm : Nat → Option AV} {tm : Nat → Option Value} {t : Nat} {av : AV} {v : Value} (h : AVR P X w O F hm tm t av v)
    (hx : av.tag = true → ∀ b, O b = some t → X' b) : AVR P X' w O F hm tm t av v := by
  cases av with
  | wn q e l lo m =>
    rcases h with h | ⟨b, o, cap, cs, hq, h1, h0, h2, h3⟩
    · exact .inl h
    · exact .inr ⟨b, o, cap, cs, fun e => hx e b h2, h1, h0, h2, h3⟩
  | _ => exact h
/-- A row's owner gets another number. -/
theorem AVR.owner {X X' : Nat → Prop} {O O' : Nat → Option Nat} {F F' : Nat → Prop} {hm hm' : Nat → Option AV} {tm tm' : Nat → Option Value} {s t : Nat} {av : AV} {v : Value} (h : AVR P X w O F hm tm s av v) (hrow : av.row.isSome = true) (htag : av.tag = false)
    (hO : ∀ c, O c = some s → O' c = some t) (hF : ∀ c, Free O F c → Free O' F' c) : AVR P X' w O' F' hm' tm' t av v := by
  cases av <;> simp [AV.row] at hrow
  · rcases h with h | ⟨b, cap, cs, h1, h2, h3, h4, h5, h6, h7, h8⟩
    · exact .inl h
    · exact .inr ⟨b, cap, cs, h1, hO b h2, h3, h4, h5, h6, h7, fun i d hd => ⟨(h8 i d hd).1, let ⟨u, hu, hr⟩ := (h8 i d hd).2; ⟨u, hu, hr.mono hF (fun _ _ => rfl)⟩⟩⟩
  · simp only [AV.tag] at htag
    subst htag
    rcases h with h | ⟨b, o, cap, cs, _, h1, h0, h2, h3, h4, h5, h6, h7, h8⟩
    · exact .inl h
    · exact .inr ⟨b, o, cap, cs, (fun e => by cases e), h1, h0, hO b h2, h3, h4, h5, h6, h7, fun i d hd => ⟨(h8 i d hd).1, let ⟨u, hu, hr⟩ := (h8 i d hd).2; ⟨u, hu, hr.mono hF (fun _ _ => rfl)⟩⟩⟩

/-- No slot holds a row that the call was handed. -/
def St.noTag : St → Bool
  | [] => true
  | (_, a) :: r => match a.tag with
    | true => false
    | false => St.noTag r
theorem St.noTag_get : ∀ {σ : St}, σ.noTag = true → ∀ (t : Nat) (av : AV), σ.get t = some av → av.tag = false
  | [], _, t, av, h => by cases h
  | (k, a) :: r, hn, t, av, h => by
    rw [St.get_cons] at h
    simp only [St.noTag] at hn
    split at hn
    · cases hn
    · rename_i ha
      split at h
      · cases h; exact ha
      · exact St.noTag_get hn t av h

/-- A row of the base that no slot is the home of: it stays as it was. -/
def Seen (P : Program) (B : Nat) (F0 : Nat → Prop) (w0 : Bas) (V : Value) (e : Nat) (xs : List D) : Prop :=
  ∃ b cap cs, V = .slice (some ⟨b, 0, none⟩) xs.length cap ∧ b < B ∧ ¬ w0.X b ∧ w0.w.heap[b]? = some (.cells cs e (0, 0)) ∧ (∀ x, x ∈ xs → x.flat.length = P.cellsOf e) ∧
    ∀ (i : Nat) (d : D), (flatAll xs)[i]? = some d → d.isCell = true ∧ ∃ u, cs[i]? = some u ∧ ∀ (w : World) (O : Nat → Option Nat), BelY B w0 w0.w w → (∀ b t, O b = some t → OwnR B w0 w b) → Rd w (Free O (FW B F0 w)) d u

/-- The loose rows out of sight: a new base; and back. -/
theorem RelZ.subS (hR : RelZ P B F0 w0 n R σ a w) : ∃ B1 F1 w1, Rel P B1 F1 w1 n σ a w ∧ (∀ (i : Nat) (V : Value) (e : Nat) (xs : List D), R[i]? = some (V, .ow e xs) → xs ≠ [] → Seen P B1 F1 w1 V e xs) ∧ ∀ σ' a' w', σ'.noTag = true → Rel P B1 F1 w1 n σ' a' w' → RelZ P B F0 w0 n R σ' a' w' := by
  obtain ⟨O, hOr, hO, hL⟩ := hR.own
  let X1 : Nat → Prop := fun b => ∃ t, t < n ∧ O b = some t
  let F1 : Nat → Prop := fun b => FW B F0 w b ∧ ∀ t, O b = some t → t < n
  let O1 : Nat → Option Nat := fun b => match O b with
    | some t => if t < n then some t else none
    | none => none
  have hO1 : ∀ b t, O1 b = some t ↔ O b = some t ∧ t < n := fun b t => by
    simp only [O1]
    split
    · rename_i t' ht'
      rw [ht']
      split
      · rename_i hlt
        constructor
        · intro h; cases h; exact ⟨rfl, hlt⟩
        · intro h; exact h.1
      · rename_i hlt
        constructor
        · intro h; cases h
        · intro h; obtain ⟨h, h'⟩ := h; cases h; exact absurd h' hlt
    · rename_i ht'; rw [ht']; simp
  have hO1z : ∀ b, O b = none → O1 b = none := fun b hb => by simp only [O1, hb]
  have hlt : ∀ t av, σ.get t = some av → t < n := fun t av h => by
    obtain ⟨v, hv, _⟩ := hO t av h
    rw [← hR.size]
    exact (Array.getElem?_eq_some_iff.1 hv).1
  have hFlt : ∀ b, FW B F0 w b → b < w.heap.size := fun b hb => (FW.step hR.f0 hR.base (Nat.le_refl _) b hb).1
  have hFree : ∀ c, Free O (FW B F0 w) c → Free O1 (FW w.heap.size F1 w) c := fun c hc => ⟨hO1z c hc.1, .inl ⟨hc.2, fun t ht => by rw [hc.1] at ht; cases ht⟩⟩
  refine ⟨w.heap.size, F1, ⟨w, X1⟩, ⟨.refl _ _ _, Nat.le_refl _, ⟨fun b hb => hFlt b hb.1, fun b hb => ?_⟩, hR.defers, hR.size, O1, fun b t hb => ?_, fun t av hav => ?_⟩, fun i V e xs hi hne => ?_, ?_⟩
  · obtain ⟨t, h1, h2⟩ := hb
    exact ⟨(hOr b t h2).fw hR.f0, fun t' h' => by rw [h2] at h'; cases h'; exact h1⟩
  · have := (hO1 b t).1 hb
    exact ⟨.inr ⟨t, this.2, this.1⟩, (hOr b t this.1).2⟩
  · obtain ⟨v, hv, hr⟩ := hO t av hav
    refine ⟨v, hv, AVR.reX (hr.move (fun c hc => ⟨hFree c hc, rfl⟩) (fun _ c hc => ⟨(hO1 c t).2 ⟨hc, hlt t av hav⟩, rfl⟩) (fun k _ x _ hk => ⟨hk, rfl⟩)) (fun _ b hb => ?_)⟩
    have := (hO1 b t).1 hb
    exact ⟨t, this.2, this.1⟩
  · rcases hL i _ hi with h | ⟨_, _, h⟩
    · cases h
    · rcases h with ⟨base, _, h4⟩ | ⟨b, cap, cs, h3, h4, h5, h6, h7, h8, h9, h10⟩
      · exact absurd h4 hne
      refine ⟨b, cap, cs, h3, (hOr b _ h4).2, fun ⟨t, g1, g2⟩ => by rw [h4] at g2; cases g2; omega, h5, h9, fun j d hd => ?_⟩
      obtain ⟨f1, u, f2, f3⟩ := h10 j d hd
      refine ⟨f1, u, f2, fun w' O' hb' hO' => f3.mono (fun c hc => ?_) (fun c hc => hb'.block c (hFlt c hc.2) (fun ⟨t, _, g⟩ => by rw [hc.1] at g; cases g))⟩
      refine ⟨?_, .inl ⟨hc.2, fun t ht => by rw [hc.1] at ht; cases ht⟩⟩
      cases hx : O' c with
      | none => rfl
      | some t =>
        exfalso
        rcases (hO' c t hx).1 with g | ⟨s, _, g⟩
        · have := hFlt c hc.2
          have g : w.heap.size ≤ c := g
          omega
        · rw [hc.1] at g; cases g
  · intro σ' a' w' htag h2
    have htag := St.noTag_get htag
    obtain ⟨O2, hOr2, hO2⟩ := h2.own
    have hsz : w.heap.size ≤ w'.heap.size := h2.below.size
    have hX1 : ∀ b, X1 b → B ≤ b ∨ w0.X b := fun b ⟨t, _, h⟩ => (hOr b t h).1
    have k1 : ∀ b t t', O2 b = some t → O b = some t' → t' < n := fun b t t' h h' => by
      rcases (hOr2 b t h).1 with g | ⟨t2, g1, g2⟩
      · have g : w.heap.size ≤ b := g
        have h1 : b < w.heap.size := (hOr b t' h').2
        omega
      · rw [h'] at g2; cases g2; exact g1
    let O3 : Nat → Option Nat := fun b => match O b with
      | some t => if t < n then O2 b else some t
      | none => O2 b
    have k2 : ∀ b t, O2 b = some t → O3 b = some t := fun b t h => by
      simp only [O3]
      split
      · rename_i t' ht'
        rw [if_pos (k1 b t t' h ht')]; exact h
      · exact h
    have k3 : ∀ c, Free O2 (FW w.heap.size F1 w') c → Free O3 (FW B F0 w') c := fun c hc => by
      rcases hc.2 with g | ⟨g1, g2⟩
      · refine ⟨?_, ?_⟩
        · simp only [O3]
          split
          · rename_i t' ht'
            rw [if_pos (g.2 t' ht')]; exact hc.1
          · exact hc.1
        · rcases g.1 with g | ⟨g1, g2⟩
          · exact .inl g
          · exact .inr ⟨g1, Nat.lt_of_lt_of_le g2 hsz⟩
      · refine ⟨?_, .inr ⟨Nat.le_trans hR.base g1, g2⟩⟩
        simp only [O3]
        split
        · rename_i t' ht'
          have : c < w.heap.size := (hOr c t' ht').2
          omega
        · exact hc.1
    refine ⟨hR.below.back hR.base hX1 h2.below, Nat.le_trans hR.base hsz, hR.f0, h2.defers, h2.size, O3, fun b t hb => ?_, fun t av hav => ?_, fun i r hr => ?_⟩
    · simp only [O3] at hb
      have e2 : O2 b = some t → OwnR B w0 w' b := fun h => by
        refine ⟨?_, (hOr2 b t h).2⟩
        rcases (hOr2 b t h).1 with g | g
        · exact .inl (Nat.le_trans hR.base g)
        · exact hX1 b g
      split at hb
      · rename_i t' ht'
        split at hb
        · exact e2 hb
        · exact ⟨(hOr b t' ht').1, Nat.lt_of_lt_of_le (hOr b t' ht').2 hsz⟩
      · exact e2 hb
    · obtain ⟨v, hv, hr⟩ := hO2 t av hav
      refine ⟨v, hv, AVR.reX (hr.move (fun c hc => ⟨k3 c hc, rfl⟩) (fun _ c hc => ⟨k2 c t hc, rfl⟩) (fun k _ x _ hk => ⟨hk, rfl⟩)) (fun e => ?_)⟩
      rw [htag t av hav] at e; cases e
    · rcases hL i r hr with h | ⟨h1, h2', h3⟩
      · exact .inl h
      refine .inr ⟨h1, h2', h3.move (fun c hc => ?_) (fun _ c hc => ?_) (fun k _ x _ hk => by cases hk)⟩
      · have hc' := hFlt c hc.2
        have hnx : ¬ X1 c := fun ⟨t, _, h⟩ => by rw [hc.1] at h; cases h
        refine ⟨⟨?_, ?_⟩, h2.below.block c hc' hnx⟩
        · simp only [O3, hc.1]
          cases h : O2 c with
          | none => rfl
          | some t =>
            exfalso
            rcases (hOr2 c t h).1 with g | g
            · have g : w.heap.size ≤ c := g
              omega
            · exact hnx g
        · rcases hc.2 with g | ⟨g1, g2⟩
          · exact .inl g
          · exact .inr ⟨g1, Nat.lt_of_lt_of_le g2 hsz⟩
      · have hnx : ¬ X1 c := fun ⟨t, h, h'⟩ => by rw [hc] at h'; cases h'; omega
        refine ⟨?_, h2.below.block c (hOr c _ hc).2 hnx⟩
        simp only [O3, hc]
        rw [if_neg (by omega)]

theorem RelZ.sub (hR : RelZ P B F0 w0 n R σ a w) : ∃ B1 F1 w1, Rel P B1 F1 w1 n σ a w ∧ ∀ σ' a' w', σ'.noTag = true → Rel P B1 F1 w1 n σ' a' w' → RelZ P B F0 w0 n R σ' a' w' := by
  obtain ⟨B1, F1, w1, h1, _, h2⟩ := hR.subS
  exact ⟨B1, F1, w1, h1, h2⟩
theorem set_other {R : List LR} {i j : Nat} {x r : LR} (hj : j ≠ i) (h : (R.set i x)[j]? = some r) : R[j]? = some r := by
  rw [List.getElem?_set_ne (Ne.symm hj)] at h; exact h

/-- Slot s takes the place of slot s' as an owner's number; what the other slots hold. -/
theorem AVR.swap {X : Nat → Prop} {O : Nat → Option Nat} {F : Nat → Prop} {u t : Nat} {tm : Nat → Option Value} {x : AV} {v : Value} {av : AV} {k : Nat} (hk : k ≠ t) (hku : k ≠ u) (h : AVR P X w O F σ.get tm k x v) (ha : av.home = true → True) :
    AVR P X w (swO O u t) F (St.get ((t, av) :: σ.kill t)) tm k (x.kill t) v := by
  rcases AV.kill_or t x with ⟨h1, h2⟩ | h1
  · rw [h1]
    refine h.move (fun c hc => ⟨⟨swO_none.2 hc.1, hc.2⟩, rfl⟩) (fun _ c hc => ⟨swO_other hc hku hk, rfl⟩) (fun j hj y hy hg => ?_)
    have hjt : j ≠ t := fun e => h2 (e ▸ hj)
    rw [St.get_cons, if_neg (Ne.symm hjt), St.get_kill] at hg
    cases hgj : σ.get j with
    | none => simp [hgj] at hg
    | some y' =>
      simp only [hgj, Option.map_some, Option.some.injEq] at hg
      subst hg
      rw [kill_home' hy]
      exact ⟨rfl, rfl⟩
  · rw [h1]; trivial

/-- A slot that holds a loose row's value becomes its home. -/
theorem RelZ.adopt {t i : Nat} {V : Value} {av : AV} (hR : RelZ P B F0 w0 n R σ a w) (hi : R[i]? = some (V, av)) (hrow : av.row.isSome = true) (ht : σ.get t = some (.d (.v V))) :
    RelZ P B F0 w0 n (R.set i (V, .junk)) ((t, av) :: σ.kill t) a w := by
  obtain ⟨O, hOr, hO, hL⟩ := hR.own
  obtain ⟨v, hv, hr⟩ := hO t _ ht
  have hvV := (Rd.v_eq hr).1
  subst hvV
  have htn : t < n := by rw [← hR.size]; exact (Array.getElem?_eq_some_iff.1 hv).1
  refine ⟨hR.below, hR.base, hR.f0, hR.defers, hR.size, swO O (n + i) t, swO_lt hOr, fun k x hk => ?_, fun j r hr' => ?_⟩
  · rw [St.get_cons] at hk
    split at hk
    · rename_i e
      subst e
      cases hk
      rcases hL i _ hi with h | ⟨h1, h2, h3⟩
      · simp only at h; subst h; cases hrow
      exact ⟨v, hv, h3.owner h1 h2 (fun c hc => by simp [swO, hc]) (fun c hc => ⟨swO_none.2 hc.1, hc.2⟩)⟩
    · rename_i hkt
      rw [St.get_kill] at hk
      cases hg : σ.get k with
      | none => simp [hg] at hk
      | some y =>
        simp only [hg, Option.map_some, Option.some.injEq] at hk
        subst hk
        obtain ⟨z, hz, hzr⟩ := hO k y hg
        have hkn : k < n := by rw [← hR.size]; exact (Array.getElem?_eq_some_iff.1 hz).1
        exact ⟨z, hz, hzr.swap (Ne.symm hkt) (by omega) (fun _ => trivial)⟩
  · by_cases hj : j = i
    · subst hj
      have hlt : j < R.length := (List.getElem?_eq_some_iff.1 hi).1
      rw [List.getElem?_set_self hlt] at hr'
      cases hr'
      exact .inl rfl
    · have := set_other hj hr'
      rcases hL j r this with h | ⟨h1, h2, h3⟩
      · exact .inl h
      · exact .inr ⟨h1, h2, h3.move (fun c hc => ⟨⟨swO_none.2 hc.1, hc.2⟩, rfl⟩) (fun _ c hc => ⟨swO_other hc (by omega) (by omega), rfl⟩) (fun k _ x _ hk => by cases hk)⟩

/-- A home's row is let loose; the slot keeps its value. -/
theorem RelZ.loosen {t i : Nat} {V : Value} {av : AV} (hR : RelZ P B F0 w0 n R σ a w) (ht : σ.get t = some av) (hrow : av.row.isSome = true) (htag : av.tag = false) (hV : a.tmps[t]? = some V)
    (hi : R'[i]? = some (V, av)) (hj : ∀ j r, j ≠ i → R'[j]? = some r → R[j]? = some r) : RelZ P B F0 w0 n R' ((t, .d (.v V)) :: σ.kill t) a w := by
  obtain ⟨O, hOr, hO, hL⟩ := hR.own
  obtain ⟨v, hv, hr⟩ := hO t _ ht
  rw [hV] at hv
  cases hv
  have htn : t < n := by rw [← hR.size]; exact (Array.getElem?_eq_some_iff.1 hV).1
  refine ⟨hR.below, hR.base, hR.f0, hR.defers, hR.size, swO O (n + i) t, swO_lt hOr, fun k x hk => ?_, fun j r hr' => ?_⟩
  · rw [St.get_cons] at hk
    split at hk
    · rename_i e
      subst e
      cases hk
      refine ⟨V, hV, .v ?_⟩
      cases av <;> simp [AV.row] at hrow
      · rcases hr with ⟨_, rfl, _⟩ | ⟨_, _, _, rfl, _⟩ <;> rfl
      · rcases hr with ⟨_, _, rfl, _⟩ | ⟨_, _, _, _, _, rfl, _⟩ <;> rfl
    · rename_i hkt
      rw [St.get_kill] at hk
      cases hg : σ.get k with
      | none => simp [hg] at hk
      | some y =>
        simp only [hg, Option.map_some, Option.some.injEq] at hk
        subst hk
        obtain ⟨z, hz, hzr⟩ := hO k y hg
        have hkn : k < n := by rw [← hR.size]; exact (Array.getElem?_eq_some_iff.1 hz).1
        exact ⟨z, hz, hzr.swap (Ne.symm hkt) (by omega) (fun _ => trivial)⟩
  · by_cases hji : j = i
    · subst hji
      rw [hi] at hr'
      cases hr'
      refine .inr ⟨hrow, htag, hr.owner hrow htag (fun c hc => ?_) (fun c hc => ⟨swO_none.2 hc.1, hc.2⟩)⟩
      simp only [swO]
      rw [if_neg (by rw [hc]; intro e; cases e; omega), if_pos hc]
    · rcases hL j r (hj j r hji hr') with h | ⟨h1, h2, h3⟩
      · exact .inl h
      · exact .inr ⟨h1, h2, h3.move (fun c hc => ⟨⟨swO_none.2 hc.1, hc.2⟩, rfl⟩) (fun _ c hc => ⟨swO_other hc (by omega) (by omega), rfl⟩) (fun k _ x _ hk => by cases hk)⟩

theorem RelZ.keep (ks : List Nat) (hR : RelZ P B F0 w0 n R σ a w) : RelZ P B F0 w0 n R (σ.keep ks) a w := by
  obtain ⟨O, hOr, hO, hL⟩ := hR.own
  refine ⟨hR.below, hR.base, hR.f0, hR.defers, hR.size, O, hOr, fun t av h => ?_, hL⟩
  rw [St.get_keep] at h
  split at h <;> try (cases h; done)
  obtain ⟨v, hv, hr⟩ := hO t av h
  refine ⟨v, hv, hr.move (fun c hc => ⟨hc, rfl⟩) (fun _ c hc => ⟨hc, rfl⟩) (fun k hk x hx hg => ?_)⟩
  rw [St.get_keep] at hg
  split at hg
  · exact ⟨hg, rfl⟩
  · cases hg
/-- Loose rows are forgotten: they are free to read from here on, or unknown. -/
theorem RelZ.drop (hR : RelZ P B F0 w0 n R σ a w) (h : ∀ (i : Nat) (r : LR), R'[i]? = some r → R[i]? = some r ∨ r.2 = .junk) : RelZ P B F0 w0 n R' σ a w := by
  obtain ⟨O, hOr, hO, hL⟩ := hR.own
  refine ⟨hR.below, hR.base, hR.f0, hR.defers, hR.size, O, hOr, hO, fun i r hr => ?_⟩
  rcases h i r hr with g | g
  · exact hL i r g
  · exact .inl g
end
end Lift
/- Operations, regions and code over states with loose rows. -/
namespace Lift
open Go
open Go.RowKit (Below)

section
variable {P : Program} {T : Ty} {B : Nat} {F0 : Nat → Prop} {w0 : Bas} {n : Nat} {σ σ' : St} {R R' : List LR} {all : Array Oper} {l : List Oper} {o : Oper}

/-! ### A slot that no operation names as its own keeps its value -/
theorem upon_keep {o : Oper} {a : Act} {next next' : Act → World → Prop} {Q Q' : Exit → Act → World → Prop} (hp : ∀ c a w, Q (.panic c) a w → Q' (.panic c) a w) (ho : LetsOut Q → LetsOut Q')
    (hn : ∀ v d w, next ({ a with defers := d }.put o.dst v) w → next' ({ a with defers := d }.put o.dst v) w) {r : Result Next} (h : o.upon P a next Q r) : o.upon P a next' Q' r := by
  cases r with
  | ok x w' =>
    cases x <;> simp only [Oper.upon] at h ⊢
    · exact hn _ a.defers _ h
    · exact hn _ a.defers _ h
    · exact Calls.mono h (fun e w'' he => by cases e <;> first | exact hn _ a.defers _ he | exact hp _ _ _ he | exact ho he)
    · exact hn _ _ _ h
    · exact Rows.mono h (fun v w'' he => hn _ a.defers _ he)
  | halt x w' => cases x <;> simp only [Oper.upon] at h ⊢ <;> exact hp _ _ _ h
def keepQ (t : Nat) (x : Option Value) (Q : Exit → Act → World → Prop) : Exit → Act → World → Prop := fun e a w => Q e a w ∧ (e = .normal → a.tmps[t]? = x)
theorem wpList_keep {t : Nat} {x : Option Value} {Q : Exit → Act → World → Prop} : ∀ (l : List Oper) (a : Act) (w : World), (∀ o, o ∈ l → o.dst ≠ some t) → a.tmps[t]? = x → wpList P all Q l a w → wpList P all (keepQ t x Q) l a w
  | [], a, w, _, hx, h => ⟨h, fun _ => hx⟩
  | o :: l, a, w, hd, hx, h => by
    have hput : ∀ v d, ({ a with defers := d }.put o.dst v).tmps[t]? = x := fun v d => by
      cases hdst : o.dst with
      | none => exact hx
      | some k =>
        have : k ≠ t := fun e => hd o (by simp) (by rw [hdst, e])
        rw [put_get (Ne.symm this)]; exact hx
    unfold wpList at h ⊢
    split at h
    · rw [if_pos (by assumption)]
      rcases h with h | ⟨h1, a1, w1, h2⟩
      · exact .inl (upon_keep (fun c a w h => ⟨h, fun e => by cases e⟩) (fun ⟨a, w, h⟩ => ⟨a, w, h, fun e => by cases e⟩) (fun v d w h => wpList_keep l _ _ (fun o ho => hd o (by simp [ho])) (hput v d) h) h)
      · exact .inr ⟨h1, a1, w1, h2, fun e => by cases e⟩
    · rw [if_neg (by assumption)]
      exact wpList_keep l _ _ (fun o ho => hd o (by simp [ho])) (hput undef a.defers) h

theorem wpList_mono {Q Q' : Exit → Act → World → Prop} (hq : ∀ e a w, Q e a w → Q' e a w) : ∀ {l : List Oper} {a : Act} {w : World}, wpList P all Q l a w → wpList P all Q' l a w
  | [], a, w, h => hq _ _ _ h
  | o :: l, a, w, h => by
    unfold wpList at h ⊢
    split at h
    · rw [if_pos (by assumption)]
      rcases h with h | ⟨h1, a1, w1, h2⟩
      · exact .inl (upon_keep (fun c a w h => hq _ _ _ h) (fun ⟨a, w, h⟩ => ⟨a, w, hq _ _ _ h⟩) (fun v d w h => wpList_mono hq h) h)
      · exact .inr ⟨h1, a1, w1, hq _ _ _ h2⟩
    · rw [if_neg (by assumption)]
      exact wpList_mono hq h

abbrev Pins := List (Nat × Value)
def PinsOk (p : Pins) (a : Act) : Prop := ∀ e, e ∈ p → a.tmps[e.1]? = some e.2
def dstNe (t : Nat) : List Oper → Bool
  | [] => true
  | o :: r => match o.dst with
    | some d => match Nat.beq d t with
      | true => false
      | false => dstNe t r
    | none => dstNe t r
theorem dstNe_ok {t : Nat} : ∀ {l : List Oper}, dstNe t l = true → ∀ o, o ∈ l → o.dst ≠ some t
  | [], _, o, ho => by cases ho
  | x :: r, h, o, ho => by
    simp only [dstNe] at h
    rcases List.mem_cons.1 ho with rfl | ho
    · split at h
      · rename_i d hd
        split at h
        · cases h
        · rename_i hb
          rw [hd]
          intro e
          cases e
          exact Nat.ne_of_beq_eq_false hb rfl
      · rename_i hd; rw [hd]; intro e; cases e
    · split at h
      · split at h
        · cases h
        · exact dstNe_ok h o ho
      · exact dstNe_ok h o ho
def pinsB (p : Pins) (l : List Oper) : Bool := match p with
  | [] => true
  | (t, _) :: r => match dstNe t l with
    | true => pinsB r l
    | false => false
theorem pinsB_ok : ∀ {p : Pins} {l : List Oper}, pinsB p l = true → ∀ e, e ∈ p → ∀ o, o ∈ l → o.dst ≠ some e.1
  | [], l, _, e, he => by cases he
  | (t, V) :: r, l, h, e, he => by
    simp only [pinsB] at h
    split at h
    · rename_i h1
      rcases List.mem_cons.1 he with rfl | he
      · exact dstNe_ok h1
      · exact pinsB_ok h e he
    · cases h
theorem wpList_pins {Q : Exit → Act → World → Prop} {a : Act} {w : World} : ∀ {p : Pins}, PinsOk p a → (∀ e, e ∈ p → ∀ o, o ∈ l → o.dst ≠ some e.1) → wpList P all Q l a w → wpList P all (fun e a w => Q e a w ∧ (e = .normal → PinsOk p a)) l a w
  | [], _, _, h => wpList_mono (fun e a w h => ⟨h, fun _ e he => by cases he⟩) h
  | (t, V) :: r, hp, hd, h => by
    have h1 := wpList_pins (p := r) (fun e he => hp e (by simp [he])) (fun e he => hd e (by simp [he])) h
    have h2 := wpList_keep l a w (hd (t, V) (by simp)) (hp (t, V) (by simp)) h1
    refine wpList_mono (fun e a w ⟨⟨h1, h2⟩, h3⟩ => ⟨h1, fun he e' he' => ?_⟩) h2
    rcases List.mem_cons.1 he' with rfl | he'
    · exact h3 he
    · exact h2 he e' he'

/-! ### Operations -/
def AZOps (P : Program) (B : Nat) (F0 : Nat → Prop) (w0 : Bas) (n : Nat) (all : Array Oper) (l : List Oper) (K : List LR → St → Prop) (p : Pins) (R : List LR) (σ : St) : Prop :=
  ∀ (a : Act) (w : World), RelZ P B F0 w0 n R σ a w → PinsOk p a → ∀ Q : Exit → Act → World → Prop, (∀ a w R' σ', K R' σ' → RelZ P B F0 w0 n R' σ' a w → Q .normal a w) → wpList P all Q l a w

variable {K : List LR → St → Prop} {p : Pins}
theorem AZOps.nil (h : K R σ) : AZOps P B F0 w0 n all [] K p R σ := fun a w hR _ Q hQ => hQ a w R σ h hR
/-- The next k operations by the logic, over whatever base. -/
theorem AZOps.cut (k : Nat) (hp : pinsB p (l.take k) = true) (h : ∀ B1 F1 w1, AOps P B1 F1 w1 n all (l.take k) (fun σ' => σ'.noTag = true ∧ AZOps P B F0 w0 n all (l.drop k) K p R σ') σ) : AZOps P B F0 w0 n all l K p R σ := by
  intro a w hR hpin Q hQ
  obtain ⟨B1, F1, w1, hR1, hback⟩ := hR.sub
  rw [← List.take_append_drop k l]
  refine wpList_append (l.drop k) (l.take k) a w ?_
  have h1 := h B1 F1 w1 a w hR1 (fun e a' w' => e = .normal ∧ ∃ σ', σ'.noTag = true ∧ AZOps P B F0 w0 n all (l.drop k) K p R σ' ∧ RelZ P B F0 w0 n R σ' a' w') (fun a' w' σ' ⟨h1, h2⟩ hR' => ⟨rfl, σ', h1, h2, hback σ' a' w' h1 hR'⟩)
  refine wpList_mono (fun e a' w' ⟨⟨he, σ', _, h2, h3⟩, h4⟩ => ?_) (wpList_pins hpin (pinsB_ok hp) h1)
  subst he
  exact h2 a' w' h3 (h4 rfl) Q hQ
/-- A slot that holds a loose row's value becomes the row's home. -/
theorem AZOps.adopt (t i : Nat) {V : Value} {av : AV} (hi : R[i]? = some (V, av)) (ht : σ.get t = some (.d (.v V))) (hrow : av.row.isSome = true) (h : AZOps P B F0 w0 n all l K ((t, V) :: p) (R.set i (V, .junk)) ((t, av) :: σ.kill t)) : AZOps P B F0 w0 n all l K p R σ := by
  intro a w hR hpin Q hQ
  refine h a w (hR.adopt hi hrow ht) (fun e he => ?_) Q hQ
  rcases List.mem_cons.1 he with rfl | he
  · obtain ⟨O, _, hO, _⟩ := hR.own
    obtain ⟨v, hv, hr⟩ := hO t _ ht
    rw [hv, (Rd.v_eq hr).1]
  · exact hpin e he
/-- The row is let loose again. -/
theorem AZOps.back (t i : Nat) {V V' : Value} {av av' : AV} (ht : σ.get t = some av) (hrow : av.row.isSome = true) (htag : av.tag = false) (hp : (t, V) ∈ p) (hi : R[i]? = some (V', av')) (h : AZOps P B F0 w0 n all l K p (R.set i (V, av)) ((t, .d (.v V)) :: σ.kill t)) : AZOps P B F0 w0 n all l K p R σ := by
  intro a w hR hpin Q hQ
  exact h a w (hR.loosen ht hrow htag (hpin _ hp) (List.getElem?_set_self (List.getElem?_eq_some_iff.1 hi).1) (fun j r hj hr => set_other hj hr)) hpin Q hQ
/-- A row of the call's own is let loose: it gets a name. -/
theorem AZOps.loosen (t : Nat) {av : AV} (ht : σ.get t = some av) (hrow : av.row.isSome = true) (htag : av.tag = false) (h : ∀ V : Value, AZOps P B F0 w0 n all l K p (R ++ [(V, av)]) ((t, .d (.v V)) :: σ.kill t)) : AZOps P B F0 w0 n all l K p R σ := by
  intro a w hR hpin Q hQ
  obtain ⟨O, _, hO, _⟩ := hR.own
  obtain ⟨V, hV, _⟩ := hO t _ ht
  refine h V a w (hR.loosen (i := R.length) ht hrow htag hV (by simp) (fun j r hj hr => ?_)) hpin Q hQ
  rcases Nat.lt_or_ge j R.length with hlt | hge
  · rw [List.getElem?_append_left hlt] at hr; exact hr
  · rw [List.getElem?_append_right hge] at hr
    have : j - R.length ≠ 0 := by omega
    cases hj' : j - R.length with
    | zero => omega
    | succ m => rw [hj'] at hr; simp at hr
theorem AZOps.keep (ks : List Nat) (h : AZOps P B F0 w0 n all l K p R (σ.keep ks)) : AZOps P B F0 w0 n all l K p R σ := fun a w hR => h a w (hR.keep ks)
theorem AZOps.conv (h : σ = σ') (hk : AZOps P B F0 w0 n all l K p R σ') : AZOps P B F0 w0 n all l K p R σ := h ▸ hk
theorem AZOps.convR (h : R = R') (hk : AZOps P B F0 w0 n all l K p R' σ) : AZOps P B F0 w0 n all l K p R σ := h ▸ hk

/-! ### Code -/
def AZ (P : Program) (B : Nat) (F0 : Nat → Prop) (w0 : Bas) (n : Nat) (c : Code) (Q : Exit → List LR → St → Prop) (R : List LR) (σ : St) : Prop :=
  ∀ (a : Act) (w : World), RelZ P B F0 w0 n R σ a w → c.wp P (fun e a' w' => ∃ R' σ', Q e R' σ' ∧ RelZ P B F0 w0 n R' σ' a' w') a w

variable {Q : Exit → List LR → St → Prop} {x y : Code}
def thenZ (K : List LR → St → Prop) (Q : Exit → List LR → St → Prop) : Exit → List LR → St → Prop
  | .normal, R, σ => K R σ
  | .exit i, R, σ => Q (.exit i) R σ
  | .goto i, R, σ => Q (.goto i) R σ
  | .ret, R, σ => Q .ret R σ
  | .panic c, R, σ => Q (.panic c) R σ
  | .outgrown, R, σ => Q .outgrown R σ
def blockZ (id : Nat) (Q : Exit → List LR → St → Prop) : Exit → List LR → St → Prop
  | .normal, R, σ => Q .normal R σ
  | .exit i, R, σ => match Nat.beq i id with
    | true => Q .normal R σ
    | false => Q (.exit i) R σ
  | .goto i, R, σ => Q (.goto i) R σ
  | .ret, R, σ => Q .ret R σ
  | .panic c, R, σ => Q (.panic c) R σ
  | .outgrown, R, σ => Q .outgrown R σ
theorem AZ.skip (h : Q .normal R σ) : AZ P B F0 w0 n .skip Q R σ := fun a w hR => wp_skip ⟨R, σ, h, hR⟩
theorem AZ.exit {id : Nat} (h : Q (.exit id) R σ) : AZ P B F0 w0 n (.exit id) Q R σ := fun a w hR => wp_exit ⟨R, σ, h, hR⟩
theorem AZ.ret (h : Q .ret R σ) : AZ P B F0 w0 n .ret Q R σ := fun a w hR => wp_ret ⟨R, σ, h, hR⟩
theorem AZ.seq (h : AZ P B F0 w0 n x (thenZ (AZ P B F0 w0 n y Q) Q) R σ) : AZ P B F0 w0 n (.seq x y) Q R σ := by
  intro a w hR
  refine wp_seq (wp_mono (h a w hR) fun e a' w' ⟨R', σ', hq, hR'⟩ => ?_)
  cases e <;> first | exact hq a' w' hR' | exact ⟨R', σ', hq, hR'⟩
theorem AZ.block {id : Nat} (h : AZ P B F0 w0 n x (blockZ id Q) R σ) : AZ P B F0 w0 n (.block id x) Q R σ := by
  intro a w hR
  refine wp_block (wp_mono (h a w hR) fun e a' w' ⟨R', σ', hq, hR'⟩ => ?_)
  cases e with
  | exit i =>
    simp only [blockZ] at hq
    simp only [Exit.inBlock]
    split at hq
    · rename_i hb
      rw [if_pos (Nat.eq_of_beq_eq_true hb)]
      exact ⟨R', σ', hq, hR'⟩
    · rename_i hb
      rw [if_neg (Nat.ne_of_beq_eq_false hb)]
      exact ⟨R', σ', hq, hR'⟩
  | _ => exact ⟨R', σ', hq, hR'⟩
theorem AZ.cond {c : Operand} {b : Bool} (hc : boolAt σ c = some b) (h1 : b = true → AZ P B F0 w0 n x Q R σ) (h2 : b = false → AZ P B F0 w0 n y Q R σ) : AZ P B F0 w0 n (.cond c x y) Q R σ := by
  intro a w hR
  have he : a.eval c = .bool b := by
    unfold boolAt at hc
    split at hc <;> try (cases hc; done)
    · split at hc <;> simp at hc
      rename_i hg
      subst hc
      obtain ⟨O, hOr, hO, _⟩ := hR.own
      obtain ⟨v, hv, hr⟩ := hO _ _ hg
      have := (Rd.v_eq hr).1
      subst this
      exact eval_tmp hv
    · simp at hc; subst hc; rfl
  refine wp_cond he ?_
  cases b with
  | true => exact h1 rfl a w hR
  | false => exact h2 rfl a w hR
theorem AZ.condT {c : Operand} (hc : boolAt σ c = some true) (h1 : AZ P B F0 w0 n x Q R σ) : AZ P B F0 w0 n (.cond c x y) Q R σ := AZ.cond hc (fun _ => h1) (fun h => by cases h)
theorem AZ.condF {c : Operand} (hc : boolAt σ c = some false) (h1 : AZ P B F0 w0 n y Q R σ) : AZ P B F0 w0 n (.cond c x y) Q R σ := AZ.cond hc (fun h => by cases h) (fun _ => h1)
theorem AZ.region {id : Nat} {ops : Array Oper} (h : AZOps P B F0 w0 n ops ops.toList (Q .normal) [] R σ) : AZ P B F0 w0 n (.region id ops false) Q R σ :=
  fun a w hR => wp_region_list (h a w hR (fun e he => by cases he) _ fun a' w' R' σ' hk hR' => ⟨R', σ', hk, hR'⟩)
/-- Code by the logic, the loose rows out of sight. -/
theorem AZ.frame (h : ∀ B1 F1 w1, AW P B1 F1 w1 n x (fun e σ' => σ'.noTag = true ∧ Q e R σ') σ) : AZ P B F0 w0 n x Q R σ := by
  intro a w hR
  obtain ⟨B1, F1, w1, hR1, hback⟩ := hR.sub
  exact wp_mono (h B1 F1 w1 a w hR1) fun e a' w' ⟨σ', ⟨h1, h2⟩, hR'⟩ => ⟨R, σ', h2, hback σ' a' w' h1 hR'⟩
theorem AZ.keep (ks : List Nat) (h : AZ P B F0 w0 n x Q R (σ.keep ks)) : AZ P B F0 w0 n x Q R σ := fun a w hR => h a w (hR.keep ks)
theorem AZ.conv (h : σ = σ') (hk : AZ P B F0 w0 n x Q R σ') : AZ P B F0 w0 n x Q R σ := h ▸ hk
theorem AZ.convR (h : R = R') (hk : AZ P B F0 w0 n x Q R' σ) : AZ P B F0 w0 n x Q R σ := h ▸ hk
theorem AZ.mono {Q' : Exit → List LR → St → Prop} (h : AZ P B F0 w0 n x Q R σ) (hq : ∀ e R σ, Q e R σ → Q' e R σ) : AZ P B F0 w0 n x Q' R σ := fun a w hR => wp_mono (h a w hR) fun e a' w' ⟨R', σ', h1, h2⟩ => ⟨R', σ', hq _ _ _ h1, h2⟩
/-- A row of the call's own is let loose. -/
theorem AZ.loosen (t : Nat) {av : AV} (ht : σ.get t = some av) (hrow : av.row.isSome = true) (htag : av.tag = false) (h : ∀ V : Value, AZ P B F0 w0 n x Q (R ++ [(V, av)]) ((t, .d (.v V)) :: σ.kill t)) : AZ P B F0 w0 n x Q R σ := by
  intro a w hR
  obtain ⟨O, _, hO, _⟩ := hR.own
  obtain ⟨V, hV, _⟩ := hO t _ ht
  refine h V a w (hR.loosen (i := R.length) ht hrow htag hV (by simp) (fun j r hj hr => ?_))
  rcases Nat.lt_or_ge j R.length with hlt | hge
  · rw [List.getElem?_append_left hlt] at hr; exact hr
  · rw [List.getElem?_append_right hge] at hr
    have : j - R.length ≠ 0 := by omega
    cases hj' : j - R.length with
    | zero => omega
    | succ m => rw [hj'] at hr; simp at hr
theorem AZ.adopt (t i : Nat) {V : Value} {av : AV} (hi : R[i]? = some (V, av)) (ht : σ.get t = some (.d (.v V))) (hrow : av.row.isSome = true) (h : AZ P B F0 w0 n x Q (R.set i (V, .junk)) ((t, av) :: σ.kill t)) : AZ P B F0 w0 n x Q R σ :=
  fun a w hR => h a w (hR.adopt hi hrow ht)
/-- A loop: at every round's head the kept slots, and the loose rows, are what mk says of a datum s that meets I. -/
theorem AZ.loopS {S : Type} (ks : List Nat) (mk : S → List LR × St) (I : S → Prop) (μ : S → Nat) (s0 : S) (h0 : (R, σ.keep ks) = mk s0) (hI : I s0)
    (hb : ∀ s, I s → AZ P B F0 w0 n x (thenZ (fun R' σ' => ∃ s', (R', σ'.keep ks) = mk s' ∧ I s' ∧ μ s' < μ s) Q) (mk s).1 (mk s).2) : AZ P B F0 w0 n (.loop x) Q R σ := by
  intro a w hR
  let G : Act → World → S → Prop := fun a w s => I s ∧ RelZ P B F0 w0 n (mk s).1 (mk s).2 a w
  have hex : ∀ a w, (∃ s, G a w s) → ∃ m, (∃ s, μ s = m ∧ G a w s) ∧ ∀ s, G a w s → m ≤ μ s := fun a w ⟨s, h1⟩ => by
    let q : Nat → Prop := fun m => ∃ s, μ s = m ∧ G a w s
    have key : ∀ k m, m ≤ k → q m → ∃ m0, q m0 ∧ ∀ m', q m' → m0 ≤ m' := by
      intro k
      induction k with
      | zero => intro m hm hp; exact ⟨m, hp, fun m' _ => by omega⟩
      | succ k ih =>
        intro m hm hp
        by_cases hlt : ∃ m', m' ≤ k ∧ q m'
        · obtain ⟨m', h1, h2⟩ := hlt; exact ih m' h1 h2
        · exact ⟨m, hp, fun m' hp' => by
            rcases Nat.lt_or_ge k m' with h | h
            · omega
            · exact absurd ⟨m', h, hp'⟩ hlt⟩
    obtain ⟨m0, h3, h4⟩ := key (μ s) (μ s) (Nat.le_refl _) ⟨s, rfl, h1⟩
    exact ⟨m0, h3, fun s' g => h4 _ ⟨s', rfl, g⟩⟩
  let M : Act → World → Nat := fun a w => open Classical in if h : ∃ s, G a w s then Classical.choose (hex a w h) else 0
  have hM : ∀ a w, (∃ s, G a w s) → (∃ s, μ s = M a w ∧ G a w s) ∧ ∀ s, G a w s → M a w ≤ μ s := fun a w h => by
    have := Classical.choose_spec (hex a w h)
    simp only [M, dif_pos h]
    exact this
  have hG0 : G a w s0 := ⟨hI, by rw [← h0]; exact hR.keep ks⟩
  refine wp_loop (fun a w => ∃ s, G a w s) M ⟨s0, hG0⟩ (fun a w hg => ?_)
  obtain ⟨⟨s1, hm, hI1, hR1⟩, _⟩ := hM a w hg
  refine wp_mono (hb s1 hI1 a w hR1) fun e a' w' ⟨R', σ', hq, hR'⟩ => ?_
  cases e with
  | normal =>
    obtain ⟨s', h1, h2, h3⟩ := hq
    have hg' : G a' w' s' := ⟨h2, by rw [← h1]; exact hR'.keep ks⟩
    refine ⟨⟨s', hg'⟩, ?_⟩
    have := (hM a' w' ⟨s', hg'⟩).2 s' hg'
    omega
  | _ => exact ⟨R', σ', hq, hR'⟩
def cutZ {S : Type} (ks : List Nat) (mk : S → List LR × St) (I : S → Prop) (Q : Exit → List LR → St → Prop) : Exit → List LR → St → Prop
  | .normal, R, σ => ∃ s, (R, σ.keep ks) = mk s ∧ I s
  | .exit i, R, σ => Q (.exit i) R σ
  | .goto i, R, σ => Q (.goto i) R σ
  | .ret, R, σ => Q .ret R σ
  | .panic c, R, σ => Q (.panic c) R σ
  | .outgrown, R, σ => Q .outgrown R σ
/-- Ways that meet. -/
theorem AZ.cut {S : Type} (ks : List Nat) (mk : S → List LR × St) (I : S → Prop) (hx : AZ P B F0 w0 n x (cutZ ks mk I Q) R σ) (hy : ∀ s, I s → AZ P B F0 w0 n y Q (mk s).1 (mk s).2) : AZ P B F0 w0 n (.seq x y) Q R σ := by
  refine AZ.seq (AZ.mono hx fun e R' σ' hq => ?_)
  cases e with
  | normal =>
    obtain ⟨s, h1, h2⟩ := hq
    have h1' := Prod.mk.inj (h1.trans (Prod.eta (mk s)).symm)
    refine AZ.convR h1'.1 (AZ.keep ks (AZ.conv h1'.2 (hy s h2)))
  | _ => exact hq
end
end Lift
/- Regions whose order is drawn, over states with loose rows; an operation that may be taken first. -/
namespace Lift
open Go
open Go.RowKit (Below)

section
variable {P : Program} {T : Ty} {B : Nat} {F0 : Nat → Prop} {w0 : Bas} {n : Nat} {σ σ' : St} {R R' : List LR} {ops : Array Oper}

def earlyP (ops : Array Oper) (i : Nat) : Bool := match ops[i]? with
  | some oi => oi.guard.isNone && (oi.after.toList.all fun e => !Region.binds .any e) && noSel ops &&
      (List.range ops.size).all fun j => Nat.beq j i || match ops[j]? with
        | some oj => (oj.after.toList.any fun e => Region.binds .any e && Nat.beq e.on i) || oi.apart ops oj
        | none => true
  | none => false
theorem wpAny_earlyP {Q : Exit → Act → World → Prop} (i : Nat) (hB : earlyP ops i = true) (hpan : ∀ c a w, Q (.panic c) a w → False) (hout : LetsOut Q → False) {a : Act} {w : World} {oi : Oper} {v : Value} (hoi : ops[i]? = some oi)
    (hexec : ∀ w, (execOp a.eval oi).run P w = .ok (.value v) w) (hA : wpAny P .any (earlier i ops) Q ops.size (Array.replicate ops.size false) a w) : wpAny P .any ops Q ops.size (Array.replicate ops.size false) a w := by
  unfold earlyP at hB
  rw [hoi] at hB
  simp only [Bool.and_eq_true, List.all_eq_true] at hB
  obtain ⟨⟨⟨hg, haf⟩, hsel⟩, hall⟩ := hB
  have hil : i < ops.size := (Array.getElem?_eq_some_iff.1 hoi).1
  have hgn : oi.guard = none := by simpa using hg
  obtain ⟨s, hs⟩ : ∃ s, ops.size = s + 1 := ⟨ops.size - 1, by omega⟩
  have hi0 : (Array.replicate ops.size false).getD i true = false := getD_in (by simpa using hil) (getD_replicate_false _ _)
  have hri : ∀ ops' : Array Oper, ops'[i]? = some oi → i ∈ Region.ready .any ops' (Array.replicate ops.size false) := fun ops' h' => by
    rw [mem_ready]
    refine ⟨hi0, oi, h', fun e he hb => ?_⟩
    have := haf e (by simpa using he)
    rw [hb] at this
    cases this
  have hwant : Region.wanted oi (yielded ops a.tmps) = true := by simp [Region.wanted, hgn]
  rw [hs] at hA
  rw [hs]
  have hI := hri (earlier i ops) (by rw [earlier_get, hoi]; simp [addEdge_same])
  rw [hs] at hI
  have h1 := wpOp_earlier i i (hA.2 i hI)
  have h2 : wpAny P .any (earlier i ops) Q s ((Array.replicate (s + 1) false).setIfInBounds i true) (a.put oi.dst v) w := by
    unfold wpOp at h1
    simp only [hoi, hwant, if_true] at h1
    rcases h1 with h1 | ⟨_, h1⟩
    · unfold Oper.wp at h1
      rw [hexec] at h1
      exact h1
    · exact (hout h1).elim
  have h3 := wpAny_earlier s _ _ _ (by simp; omega) h2
  have hri2 := hri ops hoi
  rw [hs] at hri2
  refine wpAny_first (i := i) (oi := oi) (v := v) hoi (fun j o cs b hj he => ?_) (fun c a' w' hq => (hpan _ _ _ hq).elim) s _ a _ (fun j oj hj hji _ hne => ?_) hri2 (.inl ⟨hwant, fun w => hexec w⟩) h3
  · unfold noSel at hsel
    have := List.all_eq_true.1 hsel o (by simpa using Array.mem_of_getElem? hj)
    rw [he] at this
    cases this
  · have hjl : j < ops.size := (Array.getElem?_eq_some_iff.1 hj).1
    have := hall j (List.mem_range.2 hjl)
    rw [hj] at this
    simp only [Bool.or_eq_true] at this
    rcases this with h | h
    · exact absurd (Nat.eq_of_beq_eq_true h) hji
    · rcases h with h | h
      · exfalso
        obtain ⟨e, he, hb⟩ := List.any_eq_true.1 h
        simp only [Bool.and_eq_true] at hb
        exact hne e (by simpa using he) hb.1 (Nat.eq_of_beq_eq_true hb.2)
      · exact h

/-- A pointer to a field of a struct of the call's own. -/
def fadB (T : Ty) (σ : St) : Op → Bool
  | .fieldAddr t (.tmp s) f => match T.get t, σ.get s with
    | some i, some (.bx _) => (fieldF i f).isSome
    | _, _ => false
  | _ => false
theorem fad_run (hT : TOk P T) {a : Act} {w : World} (hR : Rel P B F0 w0 n σ a w) {o : Oper} (h : fadB T σ o.op = true) : ∃ v, ∀ w', (execOp a.eval o).run P w' = .ok (.value v) w' := by
  obtain ⟨dst, op, ty, pos, after, guard⟩ := o
  simp only [] at h
  cases op <;> simp only [fadB] at h <;> try (cases h; done)
  rename_i t x f
  cases x <;> simp only [fadB] at h <;> try (cases h; done)
  rename_i s
  split at h <;> try (cases h; done)
  rename_i i ds hi hs
  obtain ⟨⟨off, size, g⟩, hf⟩ := Option.isSome_iff_exists.1 h
  obtain ⟨info, dd, z, hok⟩ := hT t i hi
  obtain ⟨fs, fl, j, dd', h1, h2, h3, h4, h5, h6, h7, h8⟩ := fieldF_run hok hf
  obtain ⟨O, hOr, hO⟩ := hR.own
  obtain ⟨v, hv, b, cs, e, rfl, _⟩ := hO s _ hs
  have he : a.eval (.tmp s) = .pointer (some ⟨b, 0, none⟩) := eval_tmp hv
  refine ⟨.pointer (some ⟨b, 0 + off, none⟩), fun w' => ?_⟩
  have hs : j.size ≠ 0 := by omega
  simp [execOp, Instr.fieldAt, run_underlying h1, h2, he, Instr.sureAddr, fieldPlace, Go.sizeOf, typeInfo, h4, hs, h3, Addr.add_lit]

def ZAny (P : Program) (B : Nat) (F0 : Nat → Prop) (w0 : Bas) (n : Nat) (ops : Array Oper) (Q : Exit → List LR → St → Prop) (R : List LR) (σ : St) : Prop :=
  ∀ (a : Act) (w : World), RelZ P B F0 w0 n R σ a w → wpAny P .any ops (fun e a' w' => ∃ R' σ', Q e R' σ' ∧ RelZ P B F0 w0 n R' σ' a' w') ops.size (Array.replicate ops.size false) a { w with drawn := w.drawn + 1 }
variable {Q : Exit → List LR → St → Prop}
theorem AZ.any {id : Nat} (hmx : P.follows .mixedOrders = true) (h : ZAny P B F0 w0 n ops Q R σ) : AZ P B F0 w0 n (.region id ops true) Q R σ := fun a w hR => wp_region_any hmx (h a w hR)
/-- The pointer to a field may be made first. -/
theorem ZAny.early (hT : TOk P T) (i : Nat) {oi : Oper} (hB : earlyP ops i = true) (hoi : ops[i]? = some oi) (hf : fadB T σ oi.op = true) (hpan : ∀ c R σ, Q (.panic c) R σ → False) (hout : ∀ R σ, Q .outgrown R σ → False) (h : ZAny P B F0 w0 n (earlier i ops) Q R σ) : ZAny P B F0 w0 n ops Q R σ := by
  intro a w hR
  obtain ⟨v, hv⟩ := fad_run hT hR.rel hf
  have hA := h a w hR
  rw [earlier_size] at hA
  refine wpAny_earlyP i hB (fun c a w hq => ?_) (fun hq => ?_) hoi hv hA
  · obtain ⟨R, σ, h, _⟩ := hq; exact hpan c R σ h
  · obtain ⟨a, w, R, σ, h, _⟩ := hq; exact hout R σ h
theorem ZAny.draw (m : Nat) (hB : drawB ops m = true)
    (h : ∀ B1 F1 w1, APre P B1 F1 w1 n ops (heads ops m) (σ.less (heads ops m)) (ops.toList.take m) (σ.less (heads ops m)) (fun τ => τ.noTag = true ∧ AZOps P B F0 w0 n ops (ops.toList.drop m) (Q .normal) [] R τ)) : ZAny P B F0 w0 n ops Q R σ := by
  intro a w hR
  obtain ⟨B1, F1, w1, hR1, hback⟩ := hR.sub
  exact AAny.drawG m hB (fun τ a' w' ⟨ht, hz⟩ hR' => hz a' w' (hback τ a' w' ht hR') (fun e he => by cases he) _ (fun a w R' σ' hk hr => ⟨R', σ', hk, hr⟩)) (h B1 F1 w1) a w hR1
end
end Lift
/- A loose row in a struct's cell becomes data; plain regions; back to states without loose rows. -/
namespace Lift
open Go
open Go.RowKit (Below)

section
variable {P : Program} {T : Ty} {B : Nat} {F0 : Nat → Prop} {w0 : Bas} {n : Nat} {σ σ' : St} {R R' : List LR} {ops all : Array Oper} {l : List Oper} {x : Code} {a : Act} {w : World} {K : List LR → St → Prop} {p : Pins}

theorem AZ.aw {Q : Exit → St → Prop} (h : AZ P B F0 w0 n x (fun e _ σ' => Q e σ') [] σ) : AW P B F0 w0 n x Q σ := fun a w hR => wp_mono (h a w hR.z) fun e a' w' ⟨R', σ', h1, h2⟩ => ⟨σ', h1, h2.rel⟩
variable {Q : Exit → List LR → St → Prop}
theorem AZ.reg {id : Nat} (h : ∀ B1 F1 w1, AOps P B1 F1 w1 n ops ops.toList (fun σ' => σ'.noTag = true ∧ Q .normal R σ') σ) : AZ P B F0 w0 n (.region id ops false) Q R σ :=
  AZ.frame fun B1 F1 w1 => AW.region (h B1 F1 w1)
theorem AZ.drw {id : Nat} (hmx : P.follows .mixedOrders = true) (m : Nat) (hB : drawB ops m = true)
    (h : ∀ B1 F1 w1, APre P B1 F1 w1 n ops (heads ops m) (σ.less (heads ops m)) (ops.toList.take m) (σ.less (heads ops m)) (fun τ => AOps P B1 F1 w1 n ops (ops.toList.drop m) (fun σ' => σ'.noTag = true ∧ Q .normal R σ') τ)) : AZ P B F0 w0 n (.region id ops true) Q R σ :=
  AZ.frame fun B1 F1 w1 => AW.draw hmx m hB (h B1 F1 w1)

theorem RelZ.frzc {t i k e : Nat} {V : Value} {xs cs : List D} (hR : RelZ P B F0 w0 n R σ a w) (ht : σ.get t = some (.bx cs)) (hk : cs[k]? = some (.v V)) (hi : R[i]? = some (V, .ow e xs)) :
    RelZ P B F0 w0 n (R.set i (V, .junk)) ((t, .bx (cs.set k (.sl (P.cellsOf e) xs))) :: σ) a w := by
  obtain ⟨O, hOr, hO, hL⟩ := hR.own
  let O' : Nat → Option Nat := fun b => if O b = some (n + i) then none else O b
  have h1 : ∀ b t, O' b = some t → O b = some t := fun b t h => by
    simp only [O'] at h
    split at h
    · cases h
    · exact h
  have h2 : ∀ b t, t ≠ n + i → O b = some t → O' b = some t := fun b t ht h => by
    simp only [O', h]
    rw [if_neg (by simpa using ht)]
  have hF : ∀ c, Free O (FW B F0 w) c → Free O' (FW B F0 w) c := fun c hc => ⟨by simp only [O', hc.1]; simp, hc.2⟩
  have hlt : ∀ t av, σ.get t = some av → t < n := fun t av h => by
    obtain ⟨v, hv, _⟩ := hO t av h
    rw [← hR.size]
    exact (Array.getElem?_eq_some_iff.1 hv).1
  refine ⟨hR.below, hR.base, hR.f0, hR.defers, hR.size, O', fun b t hb => hOr b t (h1 b t hb), fun j av hav => ?_, fun j r hr => ?_⟩
  · have key : ∀ j, (∀ ds, St.get ((t, AV.bx (cs.set k (.sl (P.cellsOf e) xs))) :: σ) j = some (.bx ds) → ∃ ds', σ.get j = some (.bx ds')) ∧ (∀ x e' l, St.get ((t, AV.bx (cs.set k (.sl (P.cellsOf e) xs))) :: σ) j = some x → x.row = some (e', l) → ∃ y l', σ.get j = some y ∧ y.row = some (e', l') ∧ l'.length = l.length ∧ y.tag = x.tag) := fun j => by
      rw [St.get_cons]
      by_cases hj : t = j
      · subst hj
        refine ⟨fun ds _ => ⟨cs, ht⟩, fun x e' l hx hrow => ?_⟩
        rw [if_pos rfl] at hx
        cases hx
        simp [AV.row] at hrow
      · rw [if_neg hj]
        exact ⟨fun ds hds => ⟨ds, hds⟩, fun x e' l hx hrow => ⟨x, l, hx, hrow, rfl, rfl⟩⟩
    rw [St.get_cons] at hav
    split at hav
    · rename_i e'
      subst e'
      cases hav
      obtain ⟨v, hv, b, cells, eb, rfl, g1, g2, g3⟩ := hO t _ ht
      refine ⟨_, hv, b, cells, eb, rfl, h2 b t (by have := hlt t _ ht; omega) g1, g2, by simpa using g3.1, fun j d u hd hu => ?_⟩
      by_cases hj : j = k
      · subst hj
        rw [List.getElem?_set_self (List.getElem?_eq_some_iff.1 hk).1] at hd
        cases hd
        have := (Rd.v_eq (g3.2 j _ u hk hu).2).1
        subst this
        refine ⟨rfl, ?_⟩
        rcases hL i _ hi with h | ⟨_, _, h⟩
        · cases h
        · rcases h with ⟨base, h3, h4⟩ | ⟨b', cap, cs', h3, h4, h5, h6, h7, h8, h9, h10⟩
          · simp only at h3 h4
            subst h3; subst h4
            exact .nil (Nat.zero_le _)
          · simp only at h3
            subst h3
            refine Rd.sl_mk (off := 0) ⟨by simp only [O', h4]; simp, (hOr b' _ h4).fw hR.f0⟩ h5 h6 h7 h9 (fun m d hd => ?_)
            obtain ⟨f1, u, f2, f3⟩ := h10 m d hd
            exact ⟨f1, u, by simpa using f2, f3.mono hF (fun _ _ => rfl)⟩
      · rw [List.getElem?_set_ne (Ne.symm hj)] at hd
        exact ⟨(g3.2 j d u hd hu).1, (g3.2 j d u hd hu).2.mono hF (fun _ _ => rfl)⟩
    · obtain ⟨v, hv, hr⟩ := hO j av hav
      have hr' : AVR P w0.X w O' (FW B F0 w) σ.get (fun h => a.tmps[h]?) j av v := hr.move (fun c hc => ⟨hF c hc, rfl⟩) (fun _ c hc => ⟨h2 c j (by have := hlt j av hav; omega) hc, rfl⟩) (fun k _ x _ hk => ⟨hk, rfl⟩)
      exact ⟨v, hv, hr'.retag (fun j _ => key j)⟩
  · by_cases hj : j = i
    · subst hj
      rw [List.getElem?_set_self (List.getElem?_eq_some_iff.1 hi).1] at hr
      cases hr
      exact .inl rfl
    · have := set_other hj hr
      rcases hL j r this with h | ⟨g1, g2, g3⟩
      · exact .inl h
      · exact .inr ⟨g1, g2, g3.move (fun c hc => ⟨hF c hc, rfl⟩) (fun _ c hc => ⟨h2 c _ (by omega) hc, rfl⟩) (fun k _ x _ hk => by cases hk)⟩
theorem AZ.frzc (hT : TOk P T) (t k i : Nat) {V : Value} {e : Nat} {te : TI} {xs cs : List D} (ht : σ.get t = some (.bx cs)) (hk : cs[k]? = some (.v V)) (hi : R[i]? = some (V, .ow e xs)) (he : T.get e = some te)
    (h : AZ P B F0 w0 n x Q (R.set i (V, .junk)) ((t, .bx (cs.set k (.sl te.size xs))) :: σ)) : AZ P B F0 w0 n x Q R σ := by
  obtain ⟨info, d, z, hok⟩ := hT e te he
  intro a w hR
  have := hR.frzc ht hk hi
  rw [hok.cellsOf] at this
  exact h a w this
theorem AZOps.frzc (hT : TOk P T) (t k i : Nat) {V : Value} {e : Nat} {te : TI} {xs cs : List D} (ht : σ.get t = some (.bx cs)) (hk : cs[k]? = some (.v V)) (hi : R[i]? = some (V, .ow e xs)) (he : T.get e = some te)
    (h : AZOps P B F0 w0 n all l K p (R.set i (V, .junk)) ((t, .bx (cs.set k (.sl te.size xs))) :: σ)) : AZOps P B F0 w0 n all l K p R σ := by
  obtain ⟨info, d, z, hok⟩ := hT e te he
  intro a w hR
  have := hR.frzc ht hk hi
  rw [hok.cellsOf] at this
  exact h a w this
end
end Lift
/- The operations of a region whose order is drawn, listed in another order. -/
namespace Lift
open Go
open Go.RowKit (Below)

section
variable {P : Program} {T : Ty} {B : Nat} {F0 : Nat → Prop} {w0 : Bas} {n : Nat} {σ σ' : St} {R R' : List LR} {ops : Array Oper}

variable {Q : Exit → Act → World → Prop}
variable {Q : Exit → List LR → St → Prop}
theorem AZOps.to {all : Array Oper} {l : List Oper} {K : List LR → St → Prop} {p : Pins} (ks : List Nat) (τ : St) (h : σ.keep ks = τ) (hk : AZOps P B F0 w0 n all l K p R τ) : AZOps P B F0 w0 n all l K p R σ := AZOps.keep ks (h ▸ hk)
theorem AZ.to {c : Code} (ks : List Nat) (τ : St) (h : σ.keep ks = τ) (hk : AZ P B F0 w0 n c Q R τ) : AZ P B F0 w0 n c Q R σ := AZ.keep ks (h ▸ hk)
end
end Lift
/- Functions that are handed loose rows, and hand back loose rows: their contract, its proof, its use. -/
namespace Lift
open Go
open Go.RowKit (Below)

/-- The blocks that have an owner. -/
def Owned (O : Nat → Option Nat) (b : Nat) : Prop := ∃ t, O b = some t
/-- Called with values that read as args, and with the rows R (known by their values), the function returns a value that reads as res, and leaves the rows R'; Post says which. -/
def CallZ (P : Program) (f : FuncId) (args : List D) (R : List LR) (Post : D → List LR → Prop) : Prop :=
  CallOk P f ∧ ∀ (w : World) (F : Nat → Prop) (O : Nat → Option Nat) (vs : List Value), (∀ b, F b → b < w.heap.size) → (∀ b t, O b = some t → F b) → vs.length = args.length →
    (∀ (i : Nat) (d : D) (v : Value), args[i]? = some d → vs[i]? = some v → Rd w (Free O F) d v) → (∀ (i : Nat) (r : LR), R[i]? = some r → LooseAt P w O F i r) →
    Calls P f vs.toArray w (fun ee w' => ∃ v res R' O', ee = .returned v ∧ Post res R' ∧ BelY w.heap.size ⟨w, Owned O⟩ w w' ∧ (∀ b t, O' b = some t → OwnR w.heap.size ⟨w, Owned O⟩ w' b) ∧ Rd w' (Free O' (FW w.heap.size F w')) res v ∧
      ∀ (i : Nat) (r : LR), R'[i]? = some r → LooseAt P w' O' (FW w.heap.size F w') i r)

section
variable {P : Program} {T : Ty} {B : Nat} {F0 : Nat → Prop} {w0 : Bas} {n : Nat} {σ σ' : St} {R R' : List LR} {all : Array Oper} {l rest : List Oper} {o : Oper} {d : Nat} {K : List LR → St → Prop} {p : Pins}

def resOneZ (T : Ty) (σ : St) : ResultVar → Option D
  | .tmp t => datF T (ex T σ.get 0 (.tmp t))
  | .cell c t => match T.get t, σ.get c with
    | some i, some (.bx ds) => match loadD i ds with
      | some (.d x) => some x
      | _ => none
    | _, _ => none
def resAllZ (T : Ty) (σ : St) : List ResultVar → Option (List D)
  | [] => some []
  | r :: rs => match resOneZ T σ r, resAllZ T σ rs with
    | some d, some ds => some (d :: ds)
    | _, _ => none
def resZ (T : Ty) (σ : St) (rs : List ResultVar) : Option D := match resAllZ T σ rs with
  | some [d] => some d
  | some [] => some (.tu [])
  | some (d :: e :: r) => some (.tu (d :: e :: r))
  | none => none
def retZ (T : Ty) (rs : List ResultVar) (Post : D → List LR → Prop) : Exit → List LR → St → Prop
  | .normal, R, σ => ∃ res, resZ T σ rs = some res ∧ Post res R
  | .ret, R, σ => ∃ res, resZ T σ rs = some res ∧ Post res R
  | .exit _, _, _ => False
  | .goto _, _, _ => False
  | .panic _, _, _ => False
  | .outgrown, _, _ => False
theorem resOneZ_sound (hT : TOk P T) {a : Act} {w : World} {O : Nat → Option Nat} (hR : Rel P B F0 w0 n σ a w) (hOr : ∀ b t, O b = some t → OwnR B w0 w b)
    (hO : ∀ t av, σ.get t = some av → ∃ v, a.tmps[t]? = some v ∧ AVR P w0.X w O (FW B F0 w) σ.get (fun h => a.tmps[h]?) t av v) {r : ResultVar} {d : D} (h : resOneZ T σ r = some d) :
    ∃ v, (resGet a.tmps r).run P w = .ok v w ∧ Rd w (Free O (FW B F0 w)) d v := by
  have hI : Inv P B F0 w0 (fun _ => True) σ.get σ.get a w O := ⟨hR.below, hR.base, hR.f0, hOr, fun t _ av h => hO t av h, fun t av h _ => hO t av h⟩
  cases r with
  | tmp t =>
    simp only [resOneZ] at h
    exact ⟨_, rfl, datF_ex hT hI (fun _ _ => trivial) h⟩
  | cell c t =>
    simp only [resOneZ] at h
    split at h <;> try (cases h; done)
    rename_i i ds hi hc
    split at h <;> simp at h
    rename_i y hy
    subst h
    obtain ⟨info, dd, z, hok⟩ := hT t i hi
    obtain ⟨u, hu, b, cs, e, rfl, h2, h3, h4⟩ := hO c _ hc
    obtain ⟨x, v, hx, hrun, hrd⟩ := load_run (off := 0) hok h3 (fun j x hj => by obtain ⟨g1, g2⟩ := h4.get hj; exact ⟨g1, by simpa using g2⟩) hy
    simp at hx
    subst hx
    refine ⟨v, ?_, hrd⟩
    have hgd : a.tmps.getD c undef = .pointer (some ⟨b, 0, none⟩) := by simp [Array.getD_eq_getD_getElem?, hu]
    simp only [resGet, hgd, asAddr, Sem.run_bind, Sem.run_pure, Result.andThen_ok, hrun]
theorem resAllZ_sound (hT : TOk P T) {a : Act} {w : World} {O : Nat → Option Nat} (hR : Rel P B F0 w0 n σ a w) (hOr : ∀ b t, O b = some t → OwnR B w0 w b)
    (hO : ∀ t av, σ.get t = some av → ∃ v, a.tmps[t]? = some v ∧ AVR P w0.X w O (FW B F0 w) σ.get (fun h => a.tmps[h]?) t av v) : ∀ (rs : List ResultVar) (ds : List D), resAllZ T σ rs = some ds →
    ∃ vs : List Value, (rs.mapM (resGet a.tmps)).run P w = .ok vs w ∧ vs.length = ds.length ∧
      ∀ (i : Nat) (d : D) (v : Value), ds[i]? = some d → vs[i]? = some v → Rd w (Free O (FW B F0 w)) d v
  | [], ds, h => by simp [resAllZ] at h; subst h; exact ⟨[], by simp, rfl, fun i d v h => by simp at h⟩
  | r :: rs, ds, h => by
    simp only [resAllZ] at h
    split at h <;> simp at h
    rename_i d ds' h1 h2
    subst h
    obtain ⟨v, hv, hr⟩ := resOneZ_sound hT hR hOr hO h1
    obtain ⟨vs, hvs, hl, hall⟩ := resAllZ_sound hT hR hOr hO rs ds' h2
    refine ⟨v :: vs, ?_, by simp [hl], fun i d' u h3 h4 => ?_⟩
    · simp only [List.mapM_cons, Sem.run_bind, Result.andThen_ok, hvs, Sem.run_pure, hv]
    · cases i with
      | zero => simp at h3 h4; subst h3; subst h4; exact hr
      | succ i => exact hall i d' u (by simpa using h3) (by simpa using h4)
theorem resZ_sound (hT : TOk P T) {fn : Func} {rs : List ResultVar} (hrs : fn.results.toList = rs) {a : Act} {w : World} {O : Nat → Option Nat} (hR : Rel P B F0 w0 n σ a w) (hOr : ∀ b t, O b = some t → OwnR B w0 w b)
    (hO : ∀ t av, σ.get t = some av → ∃ v, a.tmps[t]? = some v ∧ AVR P w0.X w O (FW B F0 w) σ.get (fun h => a.tmps[h]?) t av v) {res : D} (hq : resZ T σ rs = some res) :
    ∃ v, (results fn a.tmps).run P w = .ok v w ∧ Rd w (Free O (FW B F0 w)) res v := by
  unfold resZ at hq
  split at hq <;> simp at hq
  · rename_i d hd
    subst hq
    obtain ⟨vs', hrun, hl', hall⟩ := resAllZ_sound hT hR hOr hO rs _ hd
    match vs', hl' with
    | [v], _ =>
      refine ⟨v, ?_, hall 0 d v rfl rfl⟩
      rw [results_eq]
      simp only [Sem.run_bind, Array.mapM_eq_mapM_toList, hrs, Sem.run_map, hrun, Result.andThen_ok, Sem.run_pure]
      rfl
  · rename_i hd
    subst hq
    obtain ⟨vs', hrun, hl', hall⟩ := resAllZ_sound hT hR hOr hO rs _ hd
    match vs', hl' with
    | [], _ =>
      refine ⟨.tuple #[], ?_, Rd.tu (vs := []) rfl (fun i d v h => by simp at h)⟩
      rw [results_eq]
      simp only [Sem.run_bind, Array.mapM_eq_mapM_toList, hrs, Sem.run_map, hrun, Result.andThen_ok, Sem.run_pure]
      rfl
  · rename_i d e r hd
    subst hq
    obtain ⟨vs', hrun, hl', hall⟩ := resAllZ_sound hT hR hOr hO rs _ hd
    refine ⟨.tuple vs'.toArray, ?_, Rd.tu hl' (fun i d v h1 h2 => hall i d v h1 h2)⟩
    rw [results_eq]
    simp only [Sem.run_bind, Array.mapM_eq_mapM_toList, hrs, Sem.run_map, hrun, Result.andThen_ok, Sem.run_pure]
    rw [dif_neg (by simp at hl' ⊢; omega)]

theorem LooseAt.owner {w : World} {O O' : Nat → Option Nat} {F F' : Nat → Prop} {s t : Nat} {r : LR} (h : LooseAt P w O F s r) (hO : ∀ c, O c = some s → O' c = some t) (hF : ∀ c, Free O F c → Free O' F' c) : LooseAt P w O' F' t r := by
  rcases h with h | ⟨h1, h2, h3⟩
  · exact .inl h
  · exact .inr ⟨h1, h2, h3.owner h1 h2 hO hF⟩

theorem CallZ.intro {f : FuncId} {fn : Func} {c : Code} {rs : List ResultVar} {args : List D} {Post : D → List LR → Prop} (hT : TOk P T) (hf : P.funcs[f]? = some fn) (hb : fn.body = some c) (hrs : fn.results.toList = rs) (hn : fn.ntmps = n) (hl : args.length ≤ n) (hnm : (fn.name == "runtime.NumGoroutine") = false)
    (h : ∀ (B : Nat) (F0 : Nat → Prop) (w0 : Bas), AZ P B F0 w0 n c (retZ T rs Post) R (initSt 0 args)) : CallZ P f args R Post := by
  refine ⟨⟨fn, hf, hnm, by simp [hb]⟩, fun w F O vs hF hOF hlen hr hL => ?_⟩
  let Oz : Nat → Option Nat := fun b => (O b).map (n + ·)
  have hOz : ∀ b t, Oz b = some t → ∃ s, O b = some s ∧ t = n + s := fun b t h => by
    simp only [Oz, Option.map_eq_some_iff] at h
    obtain ⟨s, h1, h2⟩ := h
    exact ⟨s, h1, h2.symm⟩
  have hfr : ∀ c, Free O F c → Free Oz (FW w.heap.size F w) c := fun c hc => ⟨by simp [Oz, hc.1], .inl hc.2⟩
  refine calls_of_wp hf hb (wp_mono (h w.heap.size F ⟨w, Owned O⟩ _ w ?_) ?_)
  · refine ⟨.refl _ _ _, Nat.le_refl _, ⟨hF, fun b ⟨t, hb⟩ => hOF b t hb⟩, rfl, ?_, Oz, (fun b t hb => ?_), (fun t av hav => ?_), fun i r hr => ?_⟩
    · simp [hn]; omega
    · obtain ⟨s, h1, _⟩ := hOz b t hb
      exact ⟨.inr ⟨s, h1⟩, hF b (hOF b s h1)⟩
    · rw [get_initSt] at hav
      simp only [Nat.zero_le, if_true, Nat.sub_zero, Option.map_eq_some_iff] at hav
      obtain ⟨d, hd, rfl⟩ := hav
      have hlt : t < vs.length := by rw [hlen]; exact (List.getElem?_eq_some_iff.1 hd).1
      refine ⟨vs[t], by simp [Array.getElem?_append, hlt], ?_⟩
      exact (hr t d _ hd (List.getElem?_eq_getElem hlt)).mono hfr (fun _ _ => rfl)
    · exact (hL i r hr).owner (fun c hc => by simp [Oz, hc]) hfr
  · rintro ee a w' ⟨R', σ', hq, hR⟩
    obtain ⟨O2, hOr2, hO2, hL2⟩ := hR.own
    let O3 : Nat → Option Nat := fun b => match O2 b with
      | some t => if n ≤ t then some (t - n) else none
      | none => none
    have h3n : ∀ c, O2 c = none → O3 c = none := fun c hc => by simp only [O3, hc]
    have h3 : ∀ c t, O3 c = some t → O2 c = some (n + t) := fun c t hc => by
      simp only [O3] at hc
      split at hc
      · rename_i s hs
        split at hc
        · cases hc; rw [hs]; congr 1; omega
        · cases hc
      · cases hc
    have key : (∃ res, resZ T σ' rs = some res ∧ Post res R') → a.defers = [] ∧ ∃ v, (results fn a.tmps).run P w' = .ok v w' ∧ ∃ v' res R' O', Ending.returned v = .returned v' ∧ Post res R' ∧ BelY w.heap.size ⟨w, Owned O⟩ w w' ∧ (∀ b t, O' b = some t → OwnR w.heap.size ⟨w, Owned O⟩ w' b) ∧ Rd w' (Free O' (FW w.heap.size F w')) res v' ∧
        ∀ (i : Nat) (r : LR), R'[i]? = some r → LooseAt P w' O' (FW w.heap.size F w') i r := fun ⟨res, hq, hP⟩ => by
      refine ⟨hR.defers, ?_⟩
      obtain ⟨v, hv, hrd⟩ := resZ_sound hT hrs hR.rel hOr2 hO2 hq
      refine ⟨v, hv, v, res, R', O3, rfl, hP, hR.below, fun b t hb => hOr2 b _ (h3 b t hb), hrd.mono (fun c hc => ⟨h3n c hc.1, hc.2⟩) (fun _ _ => rfl), fun i r hr => ?_⟩
      exact (hL2 i r hr).owner (fun c hc => by simp only [O3, hc]; rw [if_pos (by omega)]; congr 1; omega) (fun c hc => ⟨h3n c hc.1, hc.2⟩)
    cases ee with
    | normal => exact key hq
    | ret => exact key hq
    | exit _ => exact hq.elim
    | goto _ => exact hq.elim
    | panic _ => exact hq.elim
    | outgrown => exact hq.elim
end
end Lift
/- A call with loose rows. -/
namespace Lift
open Go
open Go.RowKit (Below)

section
variable {P : Program} {T : Ty} {B : Nat} {F0 : Nat → Prop} {w0 : Bas} {n : Nat} {σ σ' : St} {R R' : List LR} {all : Array Oper} {l rest : List Oper} {o : Oper} {d : Nat} {K : List LR → St → Prop} {p : Pins}

def selR (R : List LR) : List Nat → Option (List LR)
  | [] => some []
  | i :: r => match R[i]?, selR R r with
    | some x, some xs => some (x :: xs)
    | _, _ => none
/-- The rows of the places is become the first of R1; what R1 holds beyond them comes behind. -/
def updR (R : List LR) : List Nat → List LR → List LR
  | i :: is, r :: rs => updR (R.set i r) is rs
  | [], rs => R ++ rs
  | _ :: _, [] => R
theorem selR_get : ∀ {is : List Nat} {Rs : List LR}, selR R is = some Rs → Rs.length = is.length ∧ ∀ (k : Nat) (r : LR), Rs[k]? = some r → ∃ i : Nat, is[k]? = some i ∧ R[i]? = some r
  | [], Rs, h => by simp [selR] at h; subst h; exact ⟨rfl, fun k r h => by simp at h⟩
  | i :: is, Rs, h => by
    simp only [selR] at h
    split at h <;> simp at h
    rename_i x xs h1 h2
    subst h
    obtain ⟨g1, g2⟩ := selR_get h2
    refine ⟨by simp [g1], fun k r hk => ?_⟩
    cases k with
    | zero => simp at hk; subst hk; exact ⟨i, rfl, h1⟩
    | succ k => simpa using g2 k r (by simpa using hk)
theorem selR_lt : ∀ {is : List Nat} {Rs : List LR}, selR R is = some Rs → ∀ i, i ∈ is → i < R.length
  | [], Rs, h, i, hi => by cases hi
  | j :: is, Rs, h, i, hi => by
    simp only [selR] at h
    split at h <;> simp at h
    rename_i x xs h1 h2
    rcases List.mem_cons.1 hi with rfl | hi
    · exact (List.getElem?_eq_some_iff.1 h1).1
    · exact selR_lt h2 i hi
theorem updR_get : ∀ {is : List Nat} {R R1 : List LR} {j : Nat} {r : LR}, is.length ≤ R1.length → (∀ i, i ∈ is → i < R.length) → is.Nodup → (updR R is R1)[j]? = some r →
    (∃ k : Nat, is[k]? = some j ∧ R1[k]? = some r) ∨ (j ∉ is ∧ j < R.length ∧ R[j]? = some r) ∨ ∃ k : Nat, j = R.length + k ∧ R1[is.length + k]? = some r
  | [], R, R1, j, r, _, _, _, h => by
    have h : (R ++ R1)[j]? = some r := by cases R1 <;> simpa [updR] using h
    rcases Nat.lt_or_ge j R.length with hj | hj
    · rw [List.getElem?_append_left hj] at h
      exact .inr (.inl ⟨by simp, hj, h⟩)
    · rw [List.getElem?_append_right hj] at h
      exact .inr (.inr ⟨j - R.length, by omega, by simpa using h⟩)
  | i :: is, R, [], j, r, hl, _, _, h => by simp at hl
  | i :: is, R, x :: R1, j, r, hl, hlt, hnd, h => by
    simp only [updR] at h
    have hni := (List.nodup_cons.1 hnd).1
    have hil := hlt i (by simp)
    rcases updR_get (is := is) (R := R.set i x) (by simpa using hl) (fun k hk => by simpa using hlt k (by simp [hk])) (List.nodup_cons.1 hnd).2 h with ⟨k, g1, g2⟩ | ⟨g1, g2, g3⟩ | ⟨k, g1, g2⟩
    · exact .inl ⟨k + 1, by simpa using g1, by simpa using g2⟩
    · by_cases hj : j = i
      · subst hj
        rw [List.getElem?_set_self hil] at g3
        exact .inl ⟨0, rfl, by simpa using g3⟩
      · rw [List.getElem?_set_ne (Ne.symm hj)] at g3
        exact .inr (.inl ⟨by simp [hj, g1], by simpa using g2, g3⟩)
    · refine .inr (.inr ⟨k, by simpa using g1, ?_⟩)
      rw [show (i :: is).length + k = (is.length + k) + 1 by simp; omega]
      simpa using g2

theorem nodup_get {is : List Nat} (h : is.Nodup) : ∀ {j k x : Nat}, is[j]? = some x → is[k]? = some x → j = k := by
  intro j k x h1 h2
  obtain ⟨a1, b1⟩ := List.getElem?_eq_some_iff.1 h1
  obtain ⟨a2, b2⟩ := List.getElem?_eq_some_iff.1 h2
  rcases Nat.lt_trichotomy j k with g | g | g
  · exact absurd (b1.trans b2.symm) (List.pairwise_iff_getElem.1 h j k a1 a2 g)
  · exact g
  · exact absurd (b2.trans b1.symm) (List.pairwise_iff_getElem.1 h k j a2 a1 g)

set_option maxHeartbeats 800000 in
theorem AZOps.callz (hT : TOk P T) {f : FuncId} {ds : List D} (is : List Nat) {Rs : List LR} {Post : D → List LR → Prop} (hd : o.dst = some d) (hdn : Nat.ble (d + 1) n = true) (hg : o.guard = none) (hx : callF T σ.get o.op = some (f, ds)) (hsel : selR R is = some Rs) (hnd : is.Nodup) (hpin : pinsB p [o] = true)
    (hP : CallZ P f ds Rs Post) (hlen : ∀ res R1, Post res R1 → is.length ≤ R1.length) (h : ∀ res R1, Post res R1 → AZOps P B F0 w0 n all rest K p (updR R is R1) ((d, .d res) :: σ)) : AZOps P B F0 w0 n all (o :: rest) K p R σ := by
  intro a w hR hpins Q hQ
  unfold wpList
  rw [if_pos (by simp [Region.wanted, hg])]
  refine .inl ?_
  obtain ⟨O, hOr, hO, hL⟩ := hR.own
  obtain ⟨dst, op, ty, pos, after, guard⟩ := o
  simp only [] at hd hx hg
  have hdo : ∀ v : Value, a.put dst v = a.put (some d) v := fun v => by rw [hd]
  have hpin' := pinsB_ok hpin
  cases op <;> simp only [callF] at hx <;> try (cases hx; done)
  rename_i c
  obtain ⟨callee, args, ats⟩ := c
  simp only [] at hx
  split at hx <;> try (cases hx; done)
  rename_i g
  split at hx <;> simp at hx
  rename_i ds' hds
  obtain ⟨rfl, rfl⟩ := hx
  have hI : Inv P B F0 w0 (fun _ => True) σ.get σ.get a w O := ⟨hR.below, hR.base, hR.f0, hOr, fun t _ av h => hO t av h, fun t av h _ => hO t av h⟩
  have hr := argsF_run hT hI args.toList ats.toList ds' (fun x hx t ht => trivial) hds
  unfold Oper.wp
  rw [exec_call hP.1]
  show Calls P g (args.map a.eval) w _
  -- what the callee owns, and may read
  let pass : Nat → Prop := fun t => ∃ i, i ∈ is ∧ t = n + i
  let Oc : Nat → Option Nat := fun b => match O b with
    | some t => if n ≤ t then is.idxOf? (t - n) else none
    | none => none
  let Fc : Nat → Prop := fun b => FW B F0 w b ∧ ∀ t, O b = some t → pass t
  have hlt := selR_lt hsel
  obtain ⟨hsl, hsg⟩ := selR_get hsel
  have hOc : ∀ b k, Oc b = some k → ∃ i, is[k]? = some i ∧ O b = some (n + i) := fun b k h => by
    simp only [Oc] at h
    split at h
    · rename_i t ht
      split at h
      · rename_i hnt
        rw [List.idxOf?, List.findIdx?_eq_some_iff_getElem] at h
        obtain ⟨h1, h2, _⟩ := h
        refine ⟨is[k], List.getElem?_eq_getElem h1, ?_⟩
        have : is[k] = t - n := by simpa using h2
        rw [this, ht]; congr 1; omega
      · cases h
    · cases h
  have hOc' : ∀ b k i, is[k]? = some i → O b = some (n + i) → Oc b = some k := fun b k i hk hb => by
    simp only [Oc, hb]
    rw [if_pos (by omega), show n + i - n = i by omega, List.idxOf?, List.findIdx?_eq_some_iff_getElem]
    obtain ⟨h1, h2⟩ := List.getElem?_eq_some_iff.1 hk
    refine ⟨h1, by simp [h2], fun j hj => ?_⟩
    intro hc
    have hc : is[j] = i := by simpa using hc
    have := nodup_get hnd (List.getElem?_eq_getElem (by omega : j < is.length)) (by rw [hk, hc] : is[k]? = some is[j])
    omega
  have hOcn : ∀ b, (∀ t, O b = some t → ¬ pass t) → Oc b = none := fun b hb => by
    cases h : Oc b with
    | none => rfl
    | some k =>
      obtain ⟨i, h1, h2⟩ := hOc b k h
      exact (hb _ h2 ⟨i, List.mem_of_getElem? h1, rfl⟩).elim
  have hOwn : ∀ b, Owned Oc b ↔ ∃ t, O b = some t ∧ pass t := fun b => by
    constructor
    · intro ⟨k, hk⟩
      obtain ⟨i, h1, h2⟩ := hOc b k hk
      exact ⟨_, h2, i, List.mem_of_getElem? h1, rfl⟩
    · intro ⟨t, ht, i, hi, hti⟩
      obtain ⟨k, hk, rfl⟩ := List.getElem_of_mem hi
      subst hti
      exact ⟨k, hOc' b k _ (List.getElem?_eq_getElem hk) ht⟩
  have hFlt : ∀ b, FW B F0 w b → b < w.heap.size := fun b hb => (FW.step hR.f0 hR.base (Nat.le_refl _) b hb).1
  have hfr : ∀ c, Free O (FW B F0 w) c → Free Oc Fc c := fun c hc => ⟨hOcn c (fun t ht => by rw [hc.1] at ht; cases ht), hc.2, fun t ht => by rw [hc.1] at ht; cases ht⟩
  have hc := hP.2 w Fc Oc (args.toList.map a.eval) (fun b hb => hFlt b hb.1) (fun b k hb => by
      obtain ⟨i, h1, h2⟩ := hOc b k hb
      exact ⟨(hOr b _ h2).fw hR.f0, fun t ht => by rw [h2] at ht; cases ht; exact ⟨i, List.mem_of_getElem? h1, rfl⟩⟩) hr.1 (fun i d v h1 h2 => (hr.2 i d v h1 h2).mono hfr (fun _ _ => rfl))
    (fun k r hk => by
      obtain ⟨i, h1, h2⟩ := hsg k r hk
      exact (hL i r h2).owner (fun c hc => hOc' c k i h1 hc) hfr)
  have he : (args.toList.map a.eval).toArray = args.map a.eval := by apply Array.ext'; simp
  rw [he] at hc
  refine hc.mono fun ee w' ⟨v, res, R1, O1, he, hPost, hbel, hOr1, hrd, hL1⟩ => ?_
  subst he
  show wpList P all Q rest (a.put dst v) w'
  have hsz : w.heap.size ≤ w'.heap.size := hbel.size
  have hlen1 := hlen res R1 hPost
  let tg : Nat → Nat := fun k => match is[k]? with
    | some i => i
    | none => R.length + (k - is.length)
  let cv : Option Nat → Option Nat := fun x => x.map (fun k => n + tg k)
  let O3 : Nat → Option Nat := fun b => match O b with
    | some t => if t < n ∨ t - n ∉ is then some t else cv (O1 b)
    | none => cv (O1 b)
  -- a block of the callee's own: it was passed, or it is new
  have hO1 : ∀ b k, O1 b = some k → O3 b = cv (O1 b) := fun b k hk => by
    simp only [O3]
    split
    · rename_i t ht
      rw [if_neg]
      intro hcon
      rcases (hOr1 b k hk).1 with g1 | g1
      · have g1 : w.heap.size ≤ b := g1
        have := (hOr b t ht).2
        omega
      · obtain ⟨t', h1, i, h2, h3⟩ := (hOwn b).1 g1
        rw [ht] at h1; cases h1
        subst h3
        rcases hcon with h | h
        · omega
        · exact h (by rwa [show n + i - n = i by omega])
    · rfl
  have h3n : ∀ c, (O c = none ∨ ∃ t, O c = some t ∧ pass t) → O1 c = none → O3 c = none := fun c hc h1 => by
    simp only [O3]
    split
    · rename_i t ht
      rcases hc with hc | ⟨t', h2, i, h3, h4⟩
      · rw [hc] at ht; cases ht
      · rw [ht] at h2; cases h2
        subst h4
        rw [if_neg (fun h => ?_), h1]; rfl
        rcases h with h | h
        · omega
        · exact h (by rwa [show n + i - n = i by omega])
    · rw [h1]; rfl
  have hfree0 : ∀ c, Free O (FW B F0 w) c → Free O3 (FW B F0 w') c ∧ w'.heap[c]? = w.heap[c]? := fun c hc => by
    have hcl := hFlt c hc.2
    have hnx : ¬ Owned Oc c := fun h => by
      obtain ⟨t, h1, _⟩ := (hOwn c).1 h
      rw [hc.1] at h1; cases h1
    refine ⟨⟨h3n c (.inl hc.1) ?_, ?_⟩, hbel.block c hcl hnx⟩
    · cases h : O1 c with
      | none => rfl
      | some k =>
        exfalso
        rcases (hOr1 c k h).1 with g1 | g1
        · have g1 : w.heap.size ≤ c := g1
          omega
        · exact hnx g1
    · rcases hc.2 with g | ⟨g1, g2⟩
      · exact .inl g
      · exact .inr ⟨g1, Nat.lt_of_lt_of_le g2 hsz⟩
  have hkeep : ∀ t, ¬ pass t → ∀ c, O c = some t → O3 c = some t ∧ w'.heap[c]? = w.heap[c]? := fun t ht c hc => by
    have hnx : ¬ Owned Oc c := fun h => by
      obtain ⟨t', h1, h2⟩ := (hOwn c).1 h
      rw [hc] at h1; cases h1
      exact ht h2
    refine ⟨?_, hbel.block c (hOr c t hc).2 hnx⟩
    simp only [O3, hc]
    rw [if_pos]
    rcases Nat.lt_or_ge t n with h | h
    · exact .inl h
    · exact .inr (fun hm => ht ⟨t - n, hm, by omega⟩)
  have hfree1 : ∀ c, Free O1 (FW w.heap.size Fc w') c → Free O3 (FW B F0 w') c := fun c hc => by
    rcases hc.2 with g | ⟨g1, g2⟩
    · refine ⟨h3n c ?_ hc.1, ?_⟩
      · cases h : O c with
        | none => exact .inl rfl
        | some t => exact .inr ⟨t, rfl, g.2 t h⟩
      · rcases g.1 with g | ⟨g1, g2⟩
        · exact .inl g
        · exact .inr ⟨g1, Nat.lt_of_lt_of_le g2 hsz⟩
    · refine ⟨h3n c (.inl ?_) hc.1, .inr ⟨Nat.le_trans hR.base g1, g2⟩⟩
      cases h : O c with
      | none => rfl
      | some t => have := (hOr c t h).2; omega
  have hdn' : d < n := Nat.le_of_ble_eq_true hdn
  have hX : ∀ b, Owned Oc b → B ≤ b ∨ w0.X b := fun b hb => by
    obtain ⟨t, h1, _⟩ := (hOwn b).1 hb
    exact (hOr b t h1).1
  rw [hdo v]
  refine h res R1 hPost (a.put (some d) v) w' ⟨hR.below.back (w1 := ⟨w, Owned Oc⟩) hR.base hX hbel, Nat.le_trans hR.base hsz, hR.f0, by simp [Act.put, hR.defers], by simp [Act.put, hR.size], O3, fun b t hb => ?_, fun t av hav => ?_, fun j r hj => ?_⟩ (fun e he => ?_) Q hQ
  · have e2 : ∀ k, O1 b = some k → OwnR B w0 w' b := fun k hk => by
      refine ⟨?_, (hOr1 b k hk).2⟩
      rcases (hOr1 b k hk).1 with g | g
      · exact .inl (Nat.le_trans hR.base g)
      · exact hX b g
    have e3 : cv (O1 b) = some t → OwnR B w0 w' b := fun h => by
      cases h1 : O1 b with
      | none => rw [h1] at h; cases h
      | some k => exact e2 k h1
    simp only [O3] at hb
    split at hb
    · rename_i t' ht'
      split at hb
      · exact ⟨(hOr b t' ht').1, Nat.lt_of_lt_of_le (hOr b t' ht').2 hsz⟩
      · exact e3 hb
    · exact e3 hb
  · rw [St.get_cons] at hav
    split at hav
    · rename_i e
      subst e
      cases hav
      exact ⟨v, put_get_same (by rw [hR.size]; exact hdn'), hrd.mono hfree1 (fun _ _ => rfl)⟩
    · rename_i htd
      obtain ⟨u, hu, hur⟩ := hO t av hav
      have htn : t < n := by rw [← hR.size]; exact (Array.getElem?_eq_some_iff.1 hu).1
      refine ⟨u, by rw [put_get (Ne.symm htd)]; exact hu, ?_⟩
      refine hur.move hfree0 (fun _ c hc => hkeep t (fun ⟨i, _, hti⟩ => by omega) c hc) (fun k hk x hx hg => ?_)
      rw [St.get_cons] at hg
      split at hg
      · cases hg; cases hx
      · rename_i hkd
        exact ⟨hg, put_get (Ne.symm hkd)⟩
  · rcases updR_get hlen1 hlt hnd hj with ⟨k, g1, g2⟩ | ⟨g1, g2, g3⟩ | ⟨k, g1, g2⟩
    · exact (hL1 k r g2).owner (fun c hc => by rw [hO1 c k hc, hc]; simp only [cv, tg, g1, Option.map_some]) hfree1
    · rcases hL j r g3 with h | ⟨h1, h2, h3⟩
      · exact .inl h
      · exact .inr ⟨h1, h2, h3.move hfree0 (fun _ c hc => hkeep (n + j) (fun ⟨i, hi, hti⟩ => g1 (by rwa [show j = i by omega])) c hc) (fun k _ x _ hk => by cases hk)⟩
    · subst g1
      refine (hL1 _ r g2).owner (fun c hc => ?_) hfree1
      rw [hO1 c _ hc, hc]
      have : is[is.length + k]? = none := List.getElem?_eq_none (by omega)
      simp only [cv, tg, this, Option.map_some]
      congr 2; omega
  · have hne : e.1 ≠ d := fun h => hpin' e he _ (List.mem_singleton.2 rfl) (by simp only []; rw [h]; exact hd)
    rw [put_get hne]
    exact hpins e he
end
end Lift
/- Loose rows are read where they are. -/
namespace Lift
open Go
open Go.RowKit (Below)

section
variable {P : Program} {T : Ty} {B : Nat} {F0 : Nat → Prop} {w0 : Bas} {n : Nat} {σ σ' τ σ0 : St} {R R' : List LR} {ops all : Array Oper} {l rest : List Oper} {o : Oper} {d : Nat} {lk hm : Nat → Option AV} {K : List LR → St → Prop} {p : Pins} {ds : List Nat}

def ptrV (V : Value) (k : Nat) : Value := match V with
  | .slice (some ⟨b, o, x⟩) _ _ => .pointer (some ⟨b, o + k, x⟩)
  | _ => undef
theorem Seen.plain {V : Value} {e : Nat} {xs : List D} (h : Seen P B F0 w0 V e xs) (k : Nat) : ∃ b cap, V = .slice (some ⟨b, 0, none⟩) xs.length cap ∧ ptrV V k = .pointer (some ⟨b, k, none⟩) := by
  obtain ⟨b, cap, cs, rfl, _⟩ := h
  exact ⟨b, cap, rfl, by simp [ptrV]⟩

/-- The element of a row that is seen. -/
def loadS (T : Ty) (lk : Nat → Option AV) : Op → Option (TI × Value)
  | .load t x => match T.get t, datF T (ex T lk 0 x) with
    | some ti, some (.v V) => some (ti, V)
    | _, _ => none
  | _ => none
theorem PStep.loads (hT : TOk P T) {V : Value} {e i s : Nat} {xs : List D} {ti te : TI} {y : D} {av : AV} (hS : Seen P B F0 w0 V e xs) (hd : o.dst = some d) (hn : hm d = none) (h : loadS T lk o.op = some (ti, ptrV V (i * s))) (hte : T.get e = some te) (hs : te.size = s) (hy : xs[i]? = some y) (hav : loadD ti y.flat = some av) :
    PStep P B F0 w0 d o lk hm av := by
  refine ⟨hd, hn, fun a w O hI K Q hK => ?_⟩
  obtain ⟨dst, op, ty, pos, after, guard⟩ := o
  simp only [] at hd h hI
  cases op <;> simp only [loadS] at h <;> try (cases h; done)
  rename_i t x
  split at h <;> simp at h
  rename_i ti' V' hti hx
  obtain ⟨rfl, rfl⟩ := h
  obtain ⟨info, dd, z, hok⟩ := hT t ti' hti
  obtain ⟨info', dd', z', hok'⟩ := hT _ te hte
  have hxv := (datF_ex hT hI (fun t ht => by subst ht; simp [Op.operands]) hx).v_eq.1
  obtain ⟨b, cap, cs, hV, h1, h2, h3, h4, h5⟩ := hS
  have hp : ptrV V (i * s) = .pointer (some ⟨b, i * s, none⟩) := by rw [hV]; simp [ptrV]
  rw [hp] at hxv
  have hb : w.heap[b]? = some (.cells cs e (0, 0)) := by rw [hI.below.block b h1 h2]; exact h3
  have hsz : P.cellsOf e = s := by rw [hok'.cellsOf, hs]
  obtain ⟨x', v, rfl, hrun, hrd⟩ := load_run (F := Free O (FW B F0 w)) hok hb (off := i * s) (fun j z hj => by
    have hlt : j < P.cellsOf e := by rw [← h4 y (List.mem_of_getElem? hy)]; exact (List.getElem?_eq_some_iff.1 hj).1
    have := flatAll_get j h4 hy hlt
    rw [hj] at this
    obtain ⟨f1, u, f2, f3⟩ := h5 _ z this
    exact ⟨f1, u, by rw [← hsz]; exact f2, f3 w O hI.below hI.orange⟩) hav
  exact wp_val (v := v) (w' := w) (by simp [execOp, Instr.loadAt, Instr.sureAddr, hxv, hrun]) (hK _ w O (Grow.refl hI.lt) hrd)

theorem AOps.loads (hT : TOk P T) {K : St → Prop} {V : Value} {e i s : Nat} {xs : List D} {ti te : TI} {x : D} (y : D) (hS : Seen P B F0 w0 V e xs) (hd : o.dst = some d) (hdn : Nat.ble (d + 1) n = true) (hg : guardOk all σ o = true) (hx : loadS T σ.get o.op = some (ti, ptrV V (i * s))) (hte : T.get e = some te) (hs : te.size = s) (hy : xs[i]? = some y) (hav : loadD ti y.flat = some (.d x))
    (h : AOps P B F0 w0 n all rest K ((d, .d x) :: σ)) : AOps P B F0 w0 n all (o :: rest) K σ := AOps.pure hg hdn (PStep.loads hT hS hd (hmx_self σ d) hx hte hs hy hav) h
theorem APre.loads (hT : TOk P T) {K : St → Prop} {V : Value} {e i s : Nat} {xs : List D} {ti te : TI} {x : D} (y : D) (hS : Seen P B F0 w0 V e xs) (hd : o.dst = some d) (hdn : Nat.ble (d + 1) n = true) (hg : guardOk ops τ o = true) (hs : σ0.get d = none) (hx : loadS T τ.get o.op = some (ti, ptrV V (i * s))) (hte : T.get e = some te) (hs2 : te.size = s) (hy : xs[i]? = some y) (hav : loadD ti y.flat = some (.d x))
    (h : APre P B F0 w0 n ops ds σ0 rest ((d, .d x) :: τ) K) : APre P B F0 w0 n ops ds σ0 (o :: rest) τ K := APre.pure hd hdn rfl hg (PStep.loads hT hS hd hs hx hte hs2 hy hav) h
/-- What the loose rows are, seen from a base. -/
def SeenR (P : Program) (B : Nat) (F0 : Nat → Prop) (w0 : Bas) (R : List LR) : Prop := ∀ (i : Nat) (V : Value) (e : Nat) (xs : List D), R[i]? = some (V, .ow e xs) → xs ≠ [] → Seen P B F0 w0 V e xs
theorem SeenR.at {i : Nat} {V : Value} {e : Nat} {xs : List D} (h : SeenR P B F0 w0 R) (hi : R[i]? = some (V, .ow e xs)) (hne : 0 < xs.length) : Seen P B F0 w0 V e xs := h i V e xs hi (fun e => by subst e; simp at hne)
variable {Q : Exit → List LR → St → Prop} {x : Code}
/-- A pointer into a loose row whose home is slot t by now. -/
theorem RelZ.el {t u e k : Nat} {V : Value} {xs : List D} {a : Act} {w : World} (hR : RelZ P B F0 w0 n R σ a w) (ht : σ.get t = some (.ow e xs)) (hV : a.tmps[t]? = some V) (hu : σ.get u = some (.d (.v (ptrV V (k * P.cellsOf e))))) (hk : k < xs.length) (htu : t ≠ u) :
    RelZ P B F0 w0 n R ((u, .el t k 0) :: σ) a w := by
  obtain ⟨O, hOr, hO, hL⟩ := hR.own
  obtain ⟨v, hv, hr⟩ := hO t _ ht
  rw [hV] at hv
  cases hv
  refine ⟨hR.below, hR.base, hR.f0, hR.defers, hR.size, O, hOr, fun j av hj => ?_, hL⟩
  have hkeep : ∀ j x, x.home = true → St.get ((u, AV.el t k 0) :: σ) j = some x → σ.get j = some x ∧ a.tmps[j]? = a.tmps[j]? := fun j x hx hj => by
    rw [St.get_cons] at hj
    split at hj
    · cases hj; cases hx
    · exact ⟨hj, rfl⟩
  rw [St.get_cons] at hj
  split at hj
  · rename_i e'
    subst e'
    cases hj
    obtain ⟨v', hv', hr'⟩ := hO u _ hu
    refine ⟨v', hv', fun x e' l hx hrow => ?_⟩
    have hx' := (hkeep t x (row_home (by rw [hrow]; rfl)) hx).1
    rw [ht] at hx'
    cases hx'
    simp only [AV.row, Option.some.injEq, Prod.mk.injEq] at hrow
    obtain ⟨rfl, rfl⟩ := hrow
    refine ⟨hk, ?_⟩
    rcases hr with ⟨_, _, h⟩ | ⟨b, cap, cs, rfl, _⟩
    · subst h; simp at hk
    refine ⟨b, 0, _, cap, hV, ?_⟩
    have := (Rd.v_eq hr').1
    rw [this]
    simp [ptrV]
  · obtain ⟨z, hz, hzr⟩ := hO j av hj
    exact ⟨z, hz, hzr.move (fun c hc => ⟨hc, rfl⟩) (fun _ c hc => ⟨hc, rfl⟩) (fun k _ x hx hk => hkeep k x hx hk)⟩
theorem AZOps.el (hT : TOk P T) (t u : Nat) {e k s : Nat} {V : Value} {xs : List D} {te : TI} (ht : σ.get t = some (.ow e xs)) (hp : (t, V) ∈ p) (hu : σ.get u = some (.d (.v (ptrV V (k * s))))) (hte : T.get e = some te) (hs : te.size = s) (hk : k < xs.length) (htu : Nat.beq t u = false)
    (h : AZOps P B F0 w0 n all l K p R ((u, .el t k 0) :: σ)) : AZOps P B F0 w0 n all l K p R σ := by
  intro a w hR hpin Q hQ
  obtain ⟨info, d, z, hok⟩ := hT e te hte
  exact h a w (hR.el ht (hpin _ hp) (by rw [hok.cellsOf, hs]; exact hu) hk (Nat.ne_of_beq_eq_false htu)) hpin Q hQ
end
end Lift
/- Two moves that may be taken first in a region whose order is open. -/
namespace Lift
open Go
open Go.RowKit (Below)

section
variable {P : Program} {T : Ty} {B : Nat} {F0 : Nat → Prop} {w0 : Bas} {n : Nat} {σ : St} {ops E : Array Oper}

variable {Q : Exit → Act → World → Prop}
end
end Lift
/- Regions whose order is open, where two late operations may still be to come when what follows the first store begins. -/
namespace Lift
open Go
open Go.RowKit (Below)

section
variable {P : Program} {T : Ty} {B : Nat} {F0 : Nat → Prop} {w0 : Bas} {n : Nat} {σ : St} {ops : Array Oper} {K : St → Prop}

/-- What is left is taken, in any order. -/
def Ords (P : Program) (B : Nat) (F0 : Nat → Prop) (w0 : Bas) (n : Nat) (ops : Array Oper) (K : St → Prop) : Nat → Array Bool → St → Prop
  | 0, listed, σ => Region.ready .any ops listed = [] ∧ K σ
  | f + 1, listed, σ => Region.ready .any ops listed ≠ [] ∧ ∀ j, j ∈ Region.ready .any ops listed → ∃ o, ops[j]? = some o ∧ AOps P B F0 w0 n ops [o] (Ords P B F0 w0 n ops K f (listed.setIfInBounds j true)) σ
theorem wpOp_one {Q : Exit → Act → World → Prop} {o : Oper} {j : Nat} (ho : ops[j]? = some o) {K' : St → Prop} {M : Act → World → Prop} (h : AOps P B F0 w0 n ops [o] K' σ) (hK : ∀ a w σ', K' σ' → Rel P B F0 w0 n σ' a w → M a w) {a : Act} {w : World} (hR : Rel P B F0 w0 n σ a w) : wpOp P ops Q j M a w := by
  have h1 := h a w hR (fun e a w => e = .normal ∧ M a w) (fun a w σ' h1 h2 => ⟨rfl, hK a w σ' h1 h2⟩)
  unfold wpList at h1
  unfold wpOp
  rw [ho]
  simp only []
  split at h1
  · rename_i hw
    rw [if_pos hw]
    rcases h1 with h1 | ⟨_, a1, w1, h2, _⟩
    · exact .inl (upon_keep (Q := fun e a w => e = .normal ∧ M a w) (fun c a w h => by cases h.1) (fun h => by obtain ⟨a, w, h, _⟩ := h; cases h) (fun v d w h => h.2) h1)
    · cases h2
  · rename_i hw
    rw [if_neg hw]
    exact h1.2
theorem Ords.any {Q : Exit → Act → World → Prop} : ∀ {f : Nat} {listed : Array Bool} {σ : St}, Ords P B F0 w0 n ops K f listed σ → (∀ a w σ', K σ' → Rel P B F0 w0 n σ' a w → Q .normal a w) → ∀ a w, Rel P B F0 w0 n σ a w → wpAny P .any ops Q f listed a w
  | 0, listed, σ, h, hQ, a, w, hR => ⟨h.1, hQ a w σ h.2 hR⟩
  | f + 1, listed, σ, h, hQ, a, w, hR => ⟨fun e => absurd e h.1, fun j hj => by
    obtain ⟨o, ho, hA⟩ := h.2 j hj
    exact wpOp_one ho hA (fun a w σ' h1 h2 => h1.any hQ a w h2) hR⟩
theorem Ords.ext {f : Nat} {listed : Array Bool} {σ σ' : St} (h : Ords P B F0 w0 n ops K f listed σ) (he : ∀ t, σ.get t = σ'.get t) {Q : Exit → Act → World → Prop} (hQ : ∀ a w σ', K σ' → Rel P B F0 w0 n σ' a w → Q .normal a w) (a : Act) (w : World) (hR : Rel P B F0 w0 n σ' a w) : wpAny P .any ops Q f listed a w :=
  h.any hQ a w (hR.ext he)
/-- The next one of the only ones that may be next. -/
theorem Ords.one {f j : Nat} {listed : Array Bool} {o : Oper} (hr : (Region.ready .any ops listed == [j]) = true) (ho : ops[j]? = some o) (h : AOps P B F0 w0 n ops [o] (Ords P B F0 w0 n ops K f (listed.setIfInBounds j true)) σ) : Ords P B F0 w0 n ops K (f + 1) listed σ := by
  have hr : Region.ready .any ops listed = [j] := by simpa using hr
  refine ⟨by rw [hr]; simp, fun i hi => ?_⟩
  rw [hr] at hi
  simp at hi
  subst hi
  exact ⟨o, ho, h⟩
theorem Ords.two {f j k : Nat} {listed : Array Bool} {o o' : Oper} (hr : (Region.ready .any ops listed == [j, k]) = true) (ho : ops[j]? = some o) (ho' : ops[k]? = some o') (h : AOps P B F0 w0 n ops [o] (Ords P B F0 w0 n ops K f (listed.setIfInBounds j true)) σ)
    (h' : AOps P B F0 w0 n ops [o'] (Ords P B F0 w0 n ops K f (listed.setIfInBounds k true)) σ) : Ords P B F0 w0 n ops K (f + 1) listed σ := by
  have hr : Region.ready .any ops listed = [j, k] := by simpa using hr
  refine ⟨by rw [hr]; simp, fun i hi => ?_⟩
  rw [hr] at hi
  simp at hi
  rcases hi with rfl | rfl
  · exact ⟨o, ho, h⟩
  · exact ⟨o', ho', h'⟩
theorem Ords.zero {listed : Array Bool} (hr : (Region.ready .any ops listed).isEmpty = true) (h : K σ) : Ords P B F0 w0 n ops K 0 listed σ := ⟨by simpa using hr, h⟩

namespace D2
variable {lt : List (Nat × Bool)} {m : Nat} {hs ds : List Nat} {σ0 : St} {tl wl : List (Nat × AV)} (H : D2 P T B F0 w0 n ops lt m hs ds σ0 tl wl)
include H
end D2

variable {σ0 : St}
end
end Lift
/- Loose rows change places, or are dropped. -/
namespace Lift
open Go
open Go.RowKit (Below)

section
variable {P : Program} {T : Ty} {B : Nat} {F0 : Nat → Prop} {w0 : Bas} {n : Nat} {σ : St} {R R' : List LR} {x : Code} {Q : Exit → List LR → St → Prop} {K : List LR → St → Prop} {p : Pins} {all : Array Oper} {l : List Oper}

theorem RelZ.swapR {a : Act} {w : World} {i j : Nat} {ri rj : LR} (hi : R[i]? = some ri) (hj : R[j]? = some rj) (hR : RelZ P B F0 w0 n R σ a w) : RelZ P B F0 w0 n ((R.set i rj).set j ri) σ a w := by
  obtain ⟨O, hOr, hO, hL⟩ := hR.own
  have hlt : ∀ t av, σ.get t = some av → t < n := fun t av h => by
    obtain ⟨v, hv, _⟩ := hO t av h
    rw [← hR.size]
    exact (Array.getElem?_eq_some_iff.1 hv).1
  have hF : ∀ c, Free O (FW B F0 w) c → Free (swO O (n + i) (n + j)) (FW B F0 w) c := fun c hc => ⟨swO_none.2 hc.1, hc.2⟩
  refine ⟨hR.below, hR.base, hR.f0, hR.defers, hR.size, swO O (n + i) (n + j), swO_lt hOr, fun t av h => ?_, fun k r hr => ?_⟩
  · obtain ⟨v, hv, hr⟩ := hO t av h
    have := hlt t av h
    exact ⟨v, hv, hr.move (fun c hc => ⟨hF c hc, rfl⟩) (fun _ c hc => ⟨swO_other hc (by omega) (by omega), rfl⟩) (fun k _ x _ hk => ⟨hk, rfl⟩)⟩
  · have hil := (List.getElem?_eq_some_iff.1 hi).1
    have hjl := (List.getElem?_eq_some_iff.1 hj).1
    by_cases hkj : k = j
    · subst hkj
      rw [List.getElem?_set_self (by simpa using hjl)] at hr
      cases hr
      exact (hL i _ hi).owner (fun c hc => by simp [swO, hc]) hF
    · rw [List.getElem?_set_ne (Ne.symm hkj)] at hr
      by_cases hki : k = i
      · subst hki
        rw [List.getElem?_set_self hil] at hr
        cases hr
        exact (hL j _ hj).owner (fun c hc => by simp only [swO, hc]; rw [if_neg (by simp; omega)]; simp) hF
      · rw [List.getElem?_set_ne (Ne.symm hki)] at hr
        exact (hL k _ hr).owner (fun c hc => swO_other hc (by omega) (by omega)) hF
theorem AZ.swapR {ri rj : LR} (i j : Nat) (hi : R[i]? = some ri) (hj : R[j]? = some rj) (h : AZ P B F0 w0 n x Q ((R.set i rj).set j ri) σ) : AZ P B F0 w0 n x Q R σ := fun a w hR => h a w (hR.swapR hi hj)
theorem AZ.dropR (R' : List LR) (hd : ∀ (i : Nat) (r : LR), R'[i]? = some r → R[i]? = some r ∨ r.2 = .junk) (h : AZ P B F0 w0 n x Q R' σ) : AZ P B F0 w0 n x Q R σ := fun a w hR => h a w (hR.drop hd)
end
end Lift
/- Fields of the elements of loose rows. -/
namespace Lift
open Go
open Go.RowKit (Below)

section
variable {P : Program} {T : Ty} {B : Nat} {F0 : Nat → Prop} {w0 : Bas} {n : Nat} {σ σ' τ σ0 : St} {R R' : List LR} {ops all : Array Oper} {l rest : List Oper} {o : Oper} {d : Nat} {lk hm : Nat → Option AV} {K : List LR → St → Prop} {p : Pins} {ds : List Nat}

end
end Lift
/- A region whose order is drawn: moves, pointers to fields, and loads out of the call's own structs may be taken first; what is left is forced. -/
namespace Lift
open Go
open Go.RowKit (Below)

section
variable {P : Program} {T : Ty} {B : Nat} {F0 : Nat → Prop} {w0 : Bas} {n : Nat} {σ σ' τ : St} {R R' : List LR} {ops : Array Oper} {o : Oper} {d : Nat} {Q : Exit → List LR → St → Prop} {a : Act} {w : World}

/-- Structs of the call's own: their slots and cells. -/
abbrev Boxes := List (Nat × List D)
def SB (β : Boxes) (bl : Nat → Nat) (w : World) : Prop := ∀ t ds, (t, ds) ∈ β → ∀ (i : Nat) (u : Value), ds[i]? = some (.v u) → ∃ cs e fz, w.heap[bl t]? = some (.cells cs e fz) ∧ cs[i]? = some u
def pinsOf (β : Boxes) (bl : Nat → Nat) : Pins := β.map fun x => (x.1, .pointer (some ⟨bl x.1, 0, none⟩))
def BxIn (σ : St) : Boxes → Prop
  | [] => True
  | (t, ds) :: r => σ.get t = some (.bx ds) ∧ BxIn σ r
theorem BxIn.get : ∀ {β : Boxes}, BxIn σ β → ∀ t ds, (t, ds) ∈ β → σ.get t = some (.bx ds)
  | [], _, t, ds, h => by cases h
  | (t', ds') :: r, h, t, ds, hm => by
    rcases List.mem_cons.1 hm with e | e
    · cases e; exact h.1
    · exact BxIn.get h.2 t ds e
theorem pinsOf_get {β : Boxes} {bl : Nat → Nat} (h : PinsOk (pinsOf β bl) a) {t : Nat} {ds : List D} (hm : (t, ds) ∈ β) : a.tmps[t]? = some (.pointer (some ⟨bl t, 0, none⟩)) :=
  h (t, _) (List.mem_map.2 ⟨(t, ds), hm, rfl⟩)
theorem SB_of {β : Boxes} {bl : Nat → Nat} (hR : RelZ P B F0 w0 n R σ a w) (hσ : BxIn σ β) (hp : PinsOk (pinsOf β bl) a) : SB β bl w := by
  intro t ds hm i u hu
  obtain ⟨O, _, hO, _⟩ := hR.own
  obtain ⟨v, hv, b, cs, e, rfl, _, g2, g3⟩ := hO t _ (hσ.get t ds hm)
  rw [pinsOf_get hp hm] at hv
  simp only [Option.some.injEq, Value.pointer.injEq, Addr.mk.injEq] at hv
  obtain ⟨rfl, _, _⟩ := hv
  obtain ⟨_, u', h1, h2⟩ := g3.get hu
  rw [(Rd.v_eq h2).1] at h1
  exact ⟨cs, e, _, g2, by simpa using h1⟩
/-- Whatever order is drawn from here on. -/
def ZH (P : Program) (B : Nat) (F0 : Nat → Prop) (w0 : Bas) (n : Nat) (ops : Array Oper) (Q : Exit → List LR → St → Prop) (β : Boxes) (fuel : Nat) (listed : Array Bool) (R : List LR) (σ : St) : Prop :=
  BxIn σ β ∧ ∀ (bl : Nat → Nat) (a : Act) (w : World), RelZ P B F0 w0 n R σ a w → PinsOk (pinsOf β bl) a →
    wpAnyH P .any ops (fun e a' w' => ∃ R' σ', Q e R' σ' ∧ RelZ P B F0 w0 n R' σ' a' w') (SB β bl) fuel listed a w
theorem RelZ.drew (hR : RelZ P B F0 w0 n R σ a w) : RelZ P B F0 w0 n R σ a { w with drawn := w.drawn + 1 } := by
  obtain ⟨O, hOr, hO, hL⟩ := hR.own
  refine ⟨hR.below.drew, hR.base, hR.f0, hR.defers, hR.size, O, hOr, fun t av h => ?_, fun i r hr => ?_⟩
  · obtain ⟨v, hv, hr⟩ := hO t av h
    exact ⟨v, hv, hr.move (fun c hc => ⟨hc, rfl⟩) (fun _ c hc => ⟨hc, rfl⟩) (fun k _ x _ hk => ⟨hk, rfl⟩)⟩
  · rcases hL i r hr with h | ⟨g1, g2, g3⟩
    · exact .inl h
    · exact .inr ⟨g1, g2, g3.move (fun c hc => ⟨hc, rfl⟩) (fun _ c hc => ⟨hc, rfl⟩) (fun k _ x _ hk => by cases hk)⟩
theorem ZH.any {β : Boxes} (h : ZH P B F0 w0 n ops Q β ops.size (Array.replicate ops.size false) R σ) : ZAny P B F0 w0 n ops Q R σ := by
  intro a w hR
  refine wpAny_of_held _ _ _ _ (h.2 (fun t => match a.tmps[t]? with | some (.pointer (some ⟨b, _, _⟩)) => b | _ => 0) a _ hR.drew (fun e he => ?_))
  obtain ⟨⟨t, ds⟩, hm, rfl⟩ := List.mem_map.1 he
  obtain ⟨O, _, hO, _⟩ := hR.own
  obtain ⟨v, hv, b, cs, e, rfl, _⟩ := hO t _ (h.1.get t ds hm)
  show a.tmps[t]? = some _
  simp only [hv]
/-- One operation by the logic, as a step of a drawn region. -/
theorem step_one {β : Boxes} {bl : Nat → Nat} {K : List LR → St → Prop} (hpn : pinsB (pinsOf β bl) [o] = true) (h : AZOps P B F0 w0 n ops [o] K [] R σ) (hR : RelZ P B F0 w0 n R σ a w) (hp : PinsOk (pinsOf β bl) a) :
    wpList P ops (fun e a' w' => (e = .normal ∧ ∃ R' σ', K R' σ' ∧ RelZ P B F0 w0 n R' σ' a' w') ∧ (e = .normal → PinsOk (pinsOf β bl) a')) [o] a w :=
  wpList_pins hp (pinsB_ok hpn) (h a w hR (fun e he => by cases he) _ (fun a w R' σ' h1 h2 => ⟨rfl, R', σ', h1, h2⟩))
theorem ZH.all {β : Boxes} {fuel : Nat} {listed : Array Bool} (i : Nat) (hr : Region.ready .any ops listed = [i]) (ho : ops[i]? = some o) (hg : o.guard = none) (hpn : ∀ bl, pinsB (pinsOf β bl) [o] = true) (hσ : BxIn σ β)
    (h : AZOps P B F0 w0 n ops [o] (fun R' σ' => ZH P B F0 w0 n ops Q β fuel (listed.setIfInBounds i true) R' σ') [] R σ) : ZH P B F0 w0 n ops Q β (fuel + 1) listed R σ := by
  refine ⟨hσ, fun bl a w hR hp => wpAnyH_all hr (by simp) (fun j hj => ?_)⟩
  rw [List.mem_singleton] at hj
  subst hj
  have h1 := step_one (hpn bl) h hR hp
  have hw : Region.wanted o (yielded ops a.tmps) = true := by simp [Region.wanted, hg]
  unfold wpOp
  simp only [ho, hw, if_true]
  unfold wpList at h1
  rw [if_pos hw] at h1
  rcases h1 with h1 | ⟨_, a1, w1, ⟨h2, _⟩, _⟩
  · refine .inl (upon_keep (fun c a w h => by cases h.1.1) (fun ⟨a, w, h⟩ => by cases h.1.1) (fun v dd w' hn => ?_) h1)
    unfold wpList at hn
    obtain ⟨⟨_, R', σ', h2, h3⟩, h4⟩ := hn
    exact ⟨SB_of h3 h2.1 (h4 rfl), h2.2 bl _ _ h3 (h4 rfl)⟩
  · cases h2
theorem ZH.done {β : Boxes} {fuel : Nat} {listed : Array Bool} (hr : Region.ready .any ops listed = []) (hσ : BxIn σ β) (h : Q .normal R σ) : ZH P B F0 w0 n ops Q β fuel listed R σ :=
  ⟨hσ, fun bl a w hR hp => wpAnyH_done hr ⟨R, σ, h, hR⟩ fuel⟩
theorem ZH.to {β : Boxes} {fuel : Nat} {listed : Array Bool} (ks : List Nat) (τ : St) (h : σ.keep ks = τ) (hσ : BxIn σ β) (hk : ZH P B F0 w0 n ops Q β fuel listed R τ) : ZH P B F0 w0 n ops Q β fuel listed R σ :=
  ⟨hσ, fun bl a w hR hp => hk.2 bl a w (h ▸ hR.keep ks) hp⟩
theorem ZH.first {β : Boxes} {fuel : Nat} {listed : Array Bool} (i : Nat) (ho : ops[i]? = some o) (hg : o.guard = none) (hs : Region.noSelect ops = true) (hf : Region.free .any ops listed i = true) (hr : (Region.ready .any ops listed).contains i = true)
    (hpan : ∀ c R σ, Q (.panic c) R σ → False) (hpn : ∀ bl, pinsB (pinsOf β bl) [o] = true) (hσ : BxIn σ β)
    (hy : ∀ bl a w, RelZ P B F0 w0 n R σ a w → PinsOk (pinsOf β bl) a → ∃ v, ∀ w', SB β bl w' → (execOp a.eval o).run P w' = .ok (.value v) w')
    (h : AZOps P B F0 w0 n ops [o] (fun R' σ' => ZH P B F0 w0 n ops Q β fuel (listed.setIfInBounds i true) R' σ') [] R σ) : ZH P B F0 w0 n ops Q β (fuel + 1) listed R σ := by
  refine ⟨hσ, fun bl a w hR hp => ?_⟩
  obtain ⟨v, hv⟩ := hy bl a w hR hp
  have hS := SB_of hR hσ hp
  have hw : Region.wanted o (yielded ops a.tmps) = true := by simp [Region.wanted, hg]
  refine wpAnyH_take ho hs hf hr (fun c a' w' hq => ?_) (.inl ⟨hw, hv⟩) hS ?_
  · obtain ⟨R', σ', hq, _⟩ := hq
    exact (hpan c R' σ' hq).elim
  have h1 := step_one (hpn bl) h hR hp
  unfold wpList at h1
  rw [if_pos hw] at h1
  rcases h1 with h1 | ⟨_, a1, w1, ⟨h2, _⟩, _⟩
  · unfold Oper.wp at h1
    rw [hv w hS] at h1
    simp only [Oper.upon] at h1
    unfold wpList at h1
    obtain ⟨⟨_, R', σ', h2, h3⟩, h4⟩ := h1
    exact h2.2 bl _ _ h3 (h4 rfl)
  · cases h2
def isMove : Op → Bool
  | .move _ => true
  | _ => false
theorem move_run (h : isMove o.op = true) (a : Act) : ∃ v, ∀ w', (execOp a.eval o).run P w' = .ok (.value v) w' := by
  obtain ⟨dst, op, ty, pos, after, guard⟩ := o
  simp only [] at h
  cases op <;> simp only [isMove] at h <;> try (cases h; done)
  rename_i x
  exact ⟨a.eval x, fun w' => by simp [execOp]⟩
end
end Lift
/- A loose row in a cell of a value becomes data. -/
namespace Lift
open Go
open Go.RowKit (Below)

section
variable {P : Program} {T : Ty} {B : Nat} {F0 : Nat → Prop} {w0 : Bas} {n : Nat} {σ : St} {R : List LR} {all : Array Oper} {l : List Oper} {x : Code} {a : Act} {w : World} {K : List LR → St → Prop} {p : Pins}

end
end Lift
/- A struct built with slices left nil; nil as a loose row. -/
namespace Lift
open Go
open Go.RowKit (Below)

/-- The nil slice, as a plain value. -/
abbrev nilS : Value := .slice none 0 0
def zokN (d : D) (v : Value) : Bool := zok d v || match d, v with
  | .v (.slice none 0 0), .slice none 0 0 => true
  | _, _ => false
def zoksN : List D → List Value → Bool
  | [], [] => true
  | d :: ds, v :: vs => zokN d v && zoksN ds vs
  | _, _ => false
theorem zokN_rd {w : World} {F : Nat → Prop} {d : D} {v : Value} (h : zokN d v = true) : d.isCell = true ∧ Rd w F d v := by
  unfold zokN at h
  rw [Bool.or_eq_true] at h
  rcases h with h | h
  · exact zok_rd h
  · split at h <;> try (cases h; done)
    exact ⟨rfl, .v rfl⟩
theorem zoksN_rd {w : World} {F : Nat → Prop} : ∀ {ds : List D} {vs : List Value}, zoksN ds vs = true → RdL w F ds vs
  | [], [], _ => ⟨rfl, fun i d u h => by simp at h⟩
  | [], _ :: _, h => by simp [zoksN] at h
  | _ :: _, [], h => by simp [zoksN] at h
  | d :: ds, v :: vs, h => by
    simp only [zoksN, Bool.and_eq_true] at h
    have ih := zoksN_rd (w := w) (F := F) h.2
    have h1 := zokN_rd (w := w) (F := F) h.1
    refine ⟨by simp [ih.1], fun i d' u hd hu => ?_⟩
    cases i with
    | zero => simp at hd hu; subst hd; subst hu; exact h1
    | succ i => exact ih.2 i d' u (by simpa using hd) (by simpa using hu)
section
variable {P : Program} {T : Ty} {B : Nat} {F0 : Nat → Prop} {w0 : Bas} {n : Nat} {σ τ σ0 : St} {R : List LR} {ops all : Array Oper} {l rest : List Oper} {o : Oper} {d : Nat} {lk hm : Nat → Option AV} {x : Code} {a : Act} {w : World} {K : List LR → St → Prop} {p : Pins} {ds : List Nat}
def bldN (T : Ty) (lk : Nat → Option AV) (zs : List D) : Op → Option (Nat × List D)
  | .build t parts => match T.get t, partsD T lk parts.toList with
    | some i, some ps => match Nat.beq i.kind 5 with
      | true => match fillD i.fields zs ps with
        | some cs => some (t, cs)
        | none => none
      | false => none
    | _, _ => none
  | _ => none
def zeroIs (P : Program) (t : Nat) (zs : List D) : Bool := match P.info? t with
  | some info => match info.zero with
    | some z => zoksN zs z.cells.toList
    | none => false
  | none => false
theorem PStep.bldn (hT : TOk P T) (zs : List D) {t : Nat} {cs : List D} (hd : o.dst = some d) (hn : hm d = none) (hx : bldN T lk zs o.op = some (t, cs)) (hz : zeroIs P t zs = true) : PStep P B F0 w0 d o lk hm (.d (.ag cs)) := by
  refine ⟨hd, hn, fun a w O hI K Q hK => ?_⟩
  obtain ⟨dst, op, ty, pos, after, guard⟩ := o
  simp only [] at hd hx hI
  cases op <;> simp only [bldN] at hx <;> try (cases hx; done)
  rename_i t' parts
  split at hx <;> try (cases hx; done)
  rename_i i ps hi hps
  split at hx <;> try (cases hx; done)
  rename_i hk
  split at hx <;> simp at hx
  rename_i cs' hcs
  obtain ⟨rfl, rfl⟩ := hx
  obtain ⟨info, dd, z, hok⟩ := hT t' i hi
  have hzs : zoksN zs z.cells.toList = true := by
    unfold zeroIs at hz
    rw [hok.hinfo] at hz
    simp only [hok.zero] at hz
    exact hz
  obtain ⟨fs, hu, hfs, hall⟩ := hok.kind5 hk
  have hp := partsD_run hT hI parts.toList ps (fun p hp t ht => by
    simp only [Op.operands]
    have : p.2 ∈ parts.toList.map (·.2) := List.mem_map.2 ⟨p, hp, rfl⟩
    rw [ht] at this
    simpa using this) hps
  obtain ⟨cs2, e1, e2, e3⟩ := fillD_run ps (parts.toList.map fun (i, x) => (i, a.eval x)) zs z.cells cs' (by simp [hp.1]) hp.2 (zoksN_rd hzs) hcs
  have hmap : fs.toList.mapM (fun f => (P.info? f.type).map fun i => (f.offset, i.size)) = some (i.fields.map fun x => (x.1, x.2.1)) := by
    rw [← hfs]
    clear hfs hu hcs e1
    generalize fs.toList = l at hall
    induction l with
    | nil => rfl
    | cons f l ih =>
      obtain ⟨⟨j, hj⟩, _, _⟩ := hall f (by simp)
      simp [List.mapM_cons, hj, ih (fun f hf => hall f (by simp [hf])), fieldsOf, Program.cellsOf]
  have hb : P.built t' (parts.toList.map fun (i, x) => (i, a.eval x)) = some cs2 := by
    unfold Program.built
    simp only [hok.hinfo, hu, hok.zero, hmap]
    rw [← e1]
    congr 1
    funext k
    simp
  have hrun := run_build w t' (parts.map fun (i, x) => (i, a.eval x)) cs2 (by simpa using hb)
  refine wp_val (v := .agg cs2) (w' := w) (by simp only [execOp, Sem.run_bind, hrun, Result.andThen_ok]; rfl) (hK _ w O (Grow.refl hI.lt) ?_)
  have := Rd.ag (w := w) (F := Free O (FW B F0 w)) (l := cs') (vs := cs2.toList) e2.1 (fun x hx => by
    obtain ⟨j, hj⟩ := List.mem_iff_getElem?.1 hx
    exact (e2.get hj).1) (fun j x u h1 h2 => (e2.2 j x u h1 h2).2)
  show Rd _ _ _ _
  simpa using this
theorem AOps.bldn (hT : TOk P T) {K : St → Prop} (zs : List D) {t : Nat} {cs : List D} (hd : o.dst = some d) (hdn : Nat.ble (d + 1) n = true) (hg : guardOk all σ o = true) (hx : bldN T σ.get zs o.op = some (t, cs)) (hz : zeroIs P t zs = true)
    (h : AOps P B F0 w0 n all rest K ((d, .d (.ag cs)) :: σ)) : AOps P B F0 w0 n all (o :: rest) K σ := AOps.pure hg hdn (PStep.bldn hT zs hd (hmx_self σ d) hx hz) h
theorem APre.bldn (hT : TOk P T) {K : St → Prop} (zs : List D) {t : Nat} {cs : List D} (hd : o.dst = some d) (hdn : Nat.ble (d + 1) n = true) (hg : guardOk ops τ o = true) (hs : σ0.get d = none) (hx : bldN T τ.get zs o.op = some (t, cs)) (hz : zeroIs P t zs = true)
    (h : APre P B F0 w0 n ops ds σ0 rest ((d, .d (.ag cs)) :: τ) K) : APre P B F0 w0 n ops ds σ0 (o :: rest) τ K := APre.pure hd hdn rfl hg (PStep.bldn hT zs hd hs hx hz) h
/-- Nil is a loose row without numbers. -/
theorem RelZ.nilRow (e : Nat) (hR : RelZ P B F0 w0 n R σ a w) : RelZ P B F0 w0 n (R ++ [(nilS, .ow e [])]) σ a w := by
  obtain ⟨O, hOr, hO, hL⟩ := hR.own
  refine ⟨hR.below, hR.base, hR.f0, hR.defers, hR.size, O, hOr, hO, fun i r hr => ?_⟩
  rcases Nat.lt_or_ge i R.length with h | h
  · rw [List.getElem?_append_left h] at hr
    exact hL i r hr
  · rw [List.getElem?_append_right h] at hr
    have : i - R.length = 0 := by
      rcases Nat.eq_zero_or_pos (i - R.length) with e | e
      · exact e
      · rw [List.getElem?_eq_none (by simp; omega)] at hr; cases hr
    rw [this] at hr
    cases hr
    exact .inr ⟨rfl, rfl, .inl ⟨none, rfl, rfl⟩⟩
theorem AZ.nilRow {Q : Exit → List LR → St → Prop} (e : Nat) (h : AZ P B F0 w0 n x Q (R ++ [(nilS, .ow e [])]) σ) : AZ P B F0 w0 n x Q R σ := fun a w hR => h a w (hR.nilRow e)
end
end Lift
/- The words of a drawn region whose moves, pointers and loads are taken first. -/
namespace Lift
open Go
open Go.RowKit (Below)

section
variable {P : Program} {T : Ty} {B : Nat} {F0 : Nat → Prop} {w0 : Bas} {n : Nat} {σ : St} {R : List LR} {ops : Array Oper} {o : Oper} {Q : Exit → List LR → St → Prop} {β : Boxes} {fuel : Nat} {listed : Array Bool}
theorem one_step {K : List LR → St → Prop} (h : ∀ B1 F1 w1, AOps P B1 F1 w1 n ops [o] (fun σ' => σ'.noTag = true ∧ K R σ') σ) : AZOps P B F0 w0 n ops [o] K [] R σ :=
  AZOps.cut 1 rfl (fun B1 F1 w1 => by
    have := h B1 F1 w1
    refine fun a w hR Q hQ => this a w hR Q (fun a' w' σ' ⟨h1, h2⟩ hR' => hQ a' w' σ' ⟨h1, AZOps.nil h2⟩ hR'))
theorem ZH.fd (hT : TOk P T) (i : Nat) (ho : ops[i]? = some o) (hg : o.guard = none) (hs : Region.noSelect ops = true) (hf : Region.free .any ops listed i = true) (hr : (Region.ready .any ops listed).contains i = true) (hm : fadB T σ o.op = true)
    (hpan : ∀ c R σ, Q (.panic c) R σ → False) (hpn : ∀ bl, pinsB (pinsOf β bl) [o] = true) (hσ : BxIn σ β)
    (h : ∀ B1 F1 w1, AOps P B1 F1 w1 n ops [o] (fun σ' => σ'.noTag = true ∧ ZH P B F0 w0 n ops Q β fuel (listed.setIfInBounds i true) R σ') σ) : ZH P B F0 w0 n ops Q β (fuel + 1) listed R σ :=
  ZH.first i ho hg hs hf hr hpan hpn hσ (fun bl a w hR _ => let ⟨v, h⟩ := fad_run hT hR.rel hm; ⟨v, fun w' _ => h w'⟩) (one_step h)
end
end Lift
/- A drawn region of which two or three operations are ready: each of them may be next. -/
namespace Lift
open Go
open Go.RowKit (Below)

section
variable {P : Program} {T : Ty} {B : Nat} {F0 : Nat → Prop} {w0 : Bas} {n : Nat} {σ : St} {R : List LR} {ops : Array Oper} {o o1 o2 o3 : Oper} {Q : Exit → List LR → St → Prop} {β : Boxes} {fuel : Nat} {listed : Array Bool}
/-- What is to be shown of an operation that may be next. -/
def ZNext (P : Program) (B : Nat) (F0 : Nat → Prop) (w0 : Bas) (n : Nat) (ops : Array Oper) (Q : Exit → List LR → St → Prop) (β : Boxes) (fuel : Nat) (listed : Array Bool) (R : List LR) (σ : St) (i : Nat) (o : Oper) : Prop :=
  AZOps P B F0 w0 n ops [o] (fun R' σ' => ZH P B F0 w0 n ops Q β fuel (listed.setIfInBounds i true) R' σ') [] R σ
theorem ZH.many (rs : List Nat) (hr : Region.ready .any ops listed = rs) (hne : rs ≠ []) (hσ : BxIn σ β)
    (h : ∀ i ∈ rs, ∃ o, ops[i]? = some o ∧ o.guard = none ∧ (∀ bl, pinsB (pinsOf β bl) [o] = true) ∧ ZNext P B F0 w0 n ops Q β fuel listed R σ i o) : ZH P B F0 w0 n ops Q β (fuel + 1) listed R σ := by
  refine ⟨hσ, fun bl a w hR hp => wpAnyH_all hr hne (fun j hj => ?_)⟩
  obtain ⟨o, ho, hg, hpn, h⟩ := h j hj
  have h1 := step_one (hpn bl) h hR hp
  have hw : Region.wanted o (yielded ops a.tmps) = true := by simp [Region.wanted, hg]
  unfold wpOp
  simp only [ho, hw, if_true]
  unfold wpList at h1
  rw [if_pos hw] at h1
  rcases h1 with h1 | ⟨_, a1, w1, ⟨h2, _⟩, _⟩
  · refine .inl (upon_keep (fun c a w h => by cases h.1.1) (fun ⟨a, w, h⟩ => by cases h.1.1) (fun v dd w' hn => ?_) h1)
    unfold wpList at hn
    obtain ⟨⟨_, R', σ', h2, h3⟩, h4⟩ := hn
    exact ⟨SB_of h3 h2.1 (h4 rfl), h2.2 bl _ _ h3 (h4 rfl)⟩
  · cases h2
theorem ZH.two (i j : Nat) (hr : Region.ready .any ops listed = [i, j]) (ho1 : ops[i]? = some o1) (ho2 : ops[j]? = some o2) (hg1 : o1.guard = none) (hg2 : o2.guard = none) (hp1 : ∀ bl, pinsB (pinsOf β bl) [o1] = true) (hp2 : ∀ bl, pinsB (pinsOf β bl) [o2] = true) (hσ : BxIn σ β)
    (h1 : ZNext P B F0 w0 n ops Q β fuel listed R σ i o1) (h2 : ZNext P B F0 w0 n ops Q β fuel listed R σ j o2) : ZH P B F0 w0 n ops Q β (fuel + 1) listed R σ :=
  ZH.many [i, j] hr (by simp) hσ (fun k hk => by
    simp only [List.mem_cons, List.not_mem_nil, or_false] at hk
    rcases hk with rfl | rfl
    · exact ⟨o1, ho1, hg1, hp1, h1⟩
    · exact ⟨o2, ho2, hg2, hp2, h2⟩)
theorem ZH.three (i j k : Nat) (hr : Region.ready .any ops listed = [i, j, k]) (ho1 : ops[i]? = some o1) (ho2 : ops[j]? = some o2) (ho3 : ops[k]? = some o3) (hg1 : o1.guard = none) (hg2 : o2.guard = none) (hg3 : o3.guard = none) (hp1 : ∀ bl, pinsB (pinsOf β bl) [o1] = true) (hp2 : ∀ bl, pinsB (pinsOf β bl) [o2] = true) (hp3 : ∀ bl, pinsB (pinsOf β bl) [o3] = true) (hσ : BxIn σ β)
    (h1 : ZNext P B F0 w0 n ops Q β fuel listed R σ i o1) (h2 : ZNext P B F0 w0 n ops Q β fuel listed R σ j o2) (h3 : ZNext P B F0 w0 n ops Q β fuel listed R σ k o3) : ZH P B F0 w0 n ops Q β (fuel + 1) listed R σ :=
  ZH.many [i, j, k] hr (by simp) hσ (fun m hk => by
    simp only [List.mem_cons, List.not_mem_nil, or_false] at hk
    rcases hk with rfl | rfl | rfl
    · exact ⟨o1, ho1, hg1, hp1, h1⟩
    · exact ⟨o2, ho2, hg2, hp2, h2⟩
    · exact ⟨o3, ho3, hg3, hp3, h3⟩)
/-- A place where ways meet. -/
theorem ZH.meet (fuel' : Nat) (listed' : Array Bool) (Rf : Value → List LR) (σf : Value → St) (h : ∀ V, ZH P B F0 w0 n ops Q β fuel' listed' (Rf V) (σf V))
    (hk : (∀ V, ZH P B F0 w0 n ops Q β fuel' listed' (Rf V) (σf V)) → ZH P B F0 w0 n ops Q β fuel listed R σ) : ZH P B F0 w0 n ops Q β fuel listed R σ := hk h
theorem ZH.ls (l' : Array Bool) (h : listed = l') (hk : ZH P B F0 w0 n ops Q β fuel l' R σ) : ZH P B F0 w0 n ops Q β fuel listed R σ := h ▸ hk
end
end Lift
/- Function values: they are made, and called; a struct or variable of the call's own becomes data behind a pointer. -/
namespace Lift
open Go
open Go.RowKit (Below)

section
variable {P : Program} {T : Ty} {B : Nat} {F0 : Nat → Prop} {w0 : Bas} {n : Nat} {σ τ σ0 : St} {R : List LR} {ops all : Array Oper} {l rest : List Oper} {o : Oper} {d : Nat} {lk hm : Nat → Option AV} {x : Code} {a : Act} {w : World} {K : List LR → St → Prop} {p : Pins} {ds : List Nat}

theorem Rel.frzB {t : Nat} {cs : List D} (hR : Rel P B F0 w0 n σ a w) (ht : σ.get t = some (.bx cs)) : Rel P B F0 w0 n ((t, .d (.pr cs)) :: σ.kill t) a w := by
  obtain ⟨O, hOr, hO⟩ := hR.own
  let O' : Nat → Option Nat := fun c => if O c = some t then none else O c
  have hfree : ∀ c, Free O (FW B F0 w) c → Free O' (FW B F0 w) c := fun c hc => ⟨by simp only [O']; rw [hc.1]; simp, hc.2⟩
  refine ⟨hR.below, hR.base, hR.f0, hR.defers, hR.size, O', fun b k hk => ?_, fun k av hk => ?_⟩
  · simp only [O'] at hk
    split at hk
    · cases hk
    · exact hOr b k hk
  have hget : ∀ j x, x.home = true → St.get ((t, AV.d (.pr cs)) :: σ.kill t) j = some x → σ.get j = some x := fun j x hx hg => by
    rw [St.get_cons] at hg
    split at hg
    · simp at hg; subst hg; simp [AV.home] at hx
    · rw [St.get_kill] at hg
      cases hsk : σ.get j with
      | none => simp [hsk] at hg
      | some z =>
        simp only [hsk, Option.map_some, Option.some.injEq] at hg
        subst hg
        rw [kill_home' hx]
  rw [St.get_cons] at hk
  split at hk
  · rename_i e
    subst e
    cases hk
    obtain ⟨v, hv, hr⟩ := hO t _ ht
    obtain ⟨b, es, e, rfl, h2, h3, h4⟩ := hr
    refine ⟨_, hv, Rd.pr_mk ⟨by simp only [O', h2]; simp, (hOr b t h2).fw hR.f0⟩ h3 (fun i d hd => ?_)⟩
    obtain ⟨h5, u, hu, h6⟩ := h4.get hd
    exact ⟨h5, u, by simpa using hu, h6.mono hfree (fun _ _ => rfl)⟩
  · rename_i hne
    rw [St.get_kill] at hk
    cases hs : σ.get k with
    | none => simp [hs] at hk
    | some y =>
      simp only [hs, Option.map_some, Option.some.injEq] at hk
      subst hk
      obtain ⟨u, hu, hur⟩ := hO k y hs
      refine ⟨u, hu, ?_⟩
      rcases AV.kill_or t y with ⟨h1, h2⟩ | h1
      · rw [h1]
        exact hur.move (fun c hc => ⟨hfree c hc, rfl⟩) (fun _ c hc => ⟨by simp only [O', hc]; rw [if_neg (by simpa using Ne.symm hne)], rfl⟩) (fun j hj z hz hg => ⟨hget j z hz hg, rfl⟩)
      · rw [h1]; trivial
theorem AOps.frzb {K : St → Prop} (t : Nat) {cs : List D} (ht : σ.get t = some (.bx cs)) (h : AOps P B F0 w0 n all l K ((t, .d (.pr cs)) :: σ.kill t)) : AOps P B F0 w0 n all l K σ := fun a w hR => h a w (hR.frzB ht)
theorem AW.frzb {Q : Exit → St → Prop} (t : Nat) {cs : List D} (ht : σ.get t = some (.bx cs)) (h : AW P B F0 w0 n x Q ((t, .d (.pr cs)) :: σ.kill t)) : AW P B F0 w0 n x Q σ := fun a w hR => h a w (hR.frzB ht)

/-- A function value is made. -/
def mkfF (T : Ty) (lk : Nat → Option AV) : Op → Option (Nat × List D × List D)
  | .makeFunc fn first cap => match fn with
    | .func k => match argsF T lk first.toList (List.replicate first.size 0), argsF T lk cap.toList (List.replicate cap.size 0) with
      | some xs, some ys => some (k, xs, ys)
      | _, _ => none
    | _ => none
  | _ => none
theorem PStep.mkfn (hT : TOk P T) {k : Nat} {xs ys : List D} (hd : o.dst = some d) (hn : hm d = none) (hx : mkfF T lk o.op = some (k, xs, ys)) : PStep P B F0 w0 d o lk hm (.d (.fn k xs ys)) := by
  refine ⟨hd, hn, fun a w O hI K Q hK => ?_⟩
  obtain ⟨dst, op, ty, pos, after, guard⟩ := o
  simp only [] at hd hx hI
  cases op <;> simp only [mkfF] at hx <;> try (cases hx; done)
  rename_i fn first cap
  split at hx <;> try (cases hx; done)
  rename_i k'
  split at hx <;> simp at hx
  rename_i xs' ys' h1 h2
  obtain ⟨rfl, rfl, rfl⟩ := hx
  have r1 := argsF_run hT hI first.toList _ xs' (fun x hx t ht => by subst ht; simp [Op.operands]; exact .inl (Array.mem_toList_iff.1 hx)) h1
  have r2 := argsF_run hT hI cap.toList _ ys' (fun x hx t ht => by subst ht; simp [Op.operands]; exact .inr (Array.mem_toList_iff.1 hx)) h2
  have hrun : (execOp a.eval { dst := dst, op := .makeFunc (.func k') first cap, type := ty, pos := pos, after := after, guard := guard }).run P w = .ok (.value (.func (.func k') (first.map a.eval) (cap.map a.eval))) w := rfl
  refine wp_val hrun (hK _ w O (Grow.refl hI.lt) ?_)
  have := Rd.fn (w := w) (F := Free O (FW B F0 w)) (k := k') (a := xs') (c := ys') r1.1 r2.1 r1.2 r2.2
  have e1 : (first.toList.map a.eval).toArray = first.map a.eval := by apply Array.ext'; simp
  have e2 : (cap.toList.map a.eval).toArray = cap.map a.eval := by apply Array.ext'; simp
  rw [e1, e2] at this
  exact this
theorem AOps.mkfn (hT : TOk P T) {K : St → Prop} {k : Nat} {xs ys : List D} (hd : o.dst = some d) (hdn : Nat.ble (d + 1) n = true) (hg : guardOk all σ o = true) (hx : mkfF T σ.get o.op = some (k, xs, ys))
    (h : AOps P B F0 w0 n all rest K ((d, .d (.fn k xs ys)) :: σ)) : AOps P B F0 w0 n all (o :: rest) K σ := AOps.pure hg hdn (PStep.mkfn hT hd (hmx_self σ d) hx) h
theorem APre.mkfn (hT : TOk P T) {K : St → Prop} {k : Nat} {xs ys : List D} (hd : o.dst = some d) (hdn : Nat.ble (d + 1) n = true) (hg : guardOk ops τ o = true) (hs : σ0.get d = none) (hx : mkfF T τ.get o.op = some (k, xs, ys))
    (h : APre P B F0 w0 n ops ds σ0 rest ((d, .d (.fn k xs ys)) :: τ) K) : APre P B F0 w0 n ops ds σ0 (o :: rest) τ K := APre.pure hd hdn rfl hg (PStep.mkfn hT hd hs hx) h

/-- A call of a function value. -/
def callV (T : Ty) (lk : Nat → Option AV) : Op → Option (FuncId × List D)
  | .call c => match c.callee with
    | .value (.tmp t) => match lk t, argsF T lk c.args.toList c.argTypes.toList with
      | some (.d (.fn k xs ys)), some ds => some (k, xs ++ ds ++ ys)
      | _, _ => none
    | _ => none
  | _ => none
theorem exec_callv {a : Act} {w : World} {t f : Nat} {xs ys : List Value} {args : Array Operand} {ts : Array TypeId} {ty : TypeId} {pos : String} {after : Array Edge} {guard : Option (Nat × Bool)} {dst : Option Tmp} (hok : CallOk P f) (ht : a.eval (.tmp t) = .func (.func f) xs.toArray ys.toArray) :
    (execOp a.eval { dst := dst, op := .call { callee := .value (.tmp t), args := args, argTypes := ts }, type := ty, pos := pos, after := after, guard := guard }).run P w = .ok (.enter f (xs ++ args.toList.map a.eval ++ ys).toArray) w := by
  obtain ⟨fn, h1, h2, h3⟩ := hok
  have e : xs.toArray ++ args.map a.eval ++ ys.toArray = (xs ++ args.toList.map a.eval ++ ys).toArray := by apply Array.ext'; simp
  simp only [execOp, resolve, Deferred.ofValue, ht, Sem.run_bind, Sem.run_pure, Result.andThen_ok, invoke, callFunc, run_program, h1, h2, h3, Bool.false_eq_true, if_false, e]
theorem rdApp {w : World} {F : Nat → Prop} {ds es : List D} {vs us : List Value} (h1 : vs.length = ds.length) (h2 : us.length = es.length) (r1 : ∀ (i : Nat) (d : D) (v : Value), ds[i]? = some d → vs[i]? = some v → Rd w F d v)
    (r2 : ∀ (i : Nat) (d : D) (v : Value), es[i]? = some d → us[i]? = some v → Rd w F d v) : (vs ++ us).length = (ds ++ es).length ∧ ∀ (i : Nat) (d : D) (v : Value), (ds ++ es)[i]? = some d → (vs ++ us)[i]? = some v → Rd w F d v := by
  refine ⟨by simp [h1, h2], fun i d v hd hv => ?_⟩
  rcases Nat.lt_or_ge i ds.length with h | h
  · rw [List.getElem?_append_left h] at hd
    rw [List.getElem?_append_left (by omega)] at hv
    exact r1 i d v hd hv
  · rw [List.getElem?_append_right h] at hd
    rw [List.getElem?_append_right (by omega), h1] at hv
    exact r2 _ d v hd hv
theorem PStep.callv (hT : TOk P T) {f : FuncId} {ds : List D} {res : D} (hd : o.dst = some d) (hn : hm d = none) (hx : callV T lk o.op = some (f, ds)) (hP : Pure P f ds res) : PStep P B F0 w0 d o lk hm (.d res) := by
  refine ⟨hd, hn, fun a w O hI K Q hK => ?_⟩
  obtain ⟨dst, op, ty, pos, after, guard⟩ := o
  simp only [] at hd hx hI
  cases op <;> simp only [callV] at hx <;> try (cases hx; done)
  rename_i c
  obtain ⟨callee, args, ats⟩ := c
  simp only [] at hx
  split at hx <;> try (cases hx; done)
  rename_i t
  split at hx <;> simp at hx
  rename_i k xs ys ds' ht hds
  obtain ⟨rfl, rfl⟩ := hx
  rw [← List.append_assoc] at hP
  have hr := argsF_run hT hI args.toList ats.toList ds' (fun x hx t ht => by subst ht; simp [Op.operands, Call.operands]; exact .inr (Array.mem_toList_iff.1 hx)) hds
  obtain ⟨v, hv, hvr⟩ := hI.rd t (by simp [Op.operands, Call.operands]) _ ht
  obtain ⟨va, vc, rfl, l1, l2, r1, r2⟩ := Rd.fn_eq hvr
  have hev := eval_tmp hv
  have hA := rdApp l1 hr.1 r1 hr.2
  have hA2 := rdApp hA.1 l2 hA.2 r2
  unfold Oper.wp
  rw [exec_callv hP.1 hev]
  show Calls P k (va ++ args.toList.map a.eval ++ vc).toArray w _
  have hc := hP.2 w (Free O (FW B F0 w)) (va ++ args.toList.map a.eval ++ vc) (fun b hb => (FW.step hI.f0 hI.base (Nat.le_refl _) b hb.2).1) hA2.1 hA2.2
  refine hc.mono fun e w' ⟨v, he, hb, hv⟩ => ?_
  subst he
  refine hK v w' O ⟨hb, fun _ _ => rfl, fun b t h => .inl (hI.lt b t h)⟩ (hv.mono (fun b hb' => ?_) (fun _ _ => rfl))
  rcases hb' with h | ⟨h1, h2⟩
  · exact ⟨h.1, (FW.step hI.f0 hI.base hb.size b h.2).2⟩
  · refine ⟨?_, .inr ⟨Nat.le_trans hI.base h1, h2⟩⟩
    cases ho : O b with
    | none => rfl
    | some t => have := hI.lt b t ho; omega
theorem AOps.callv (hT : TOk P T) {K : St → Prop} {f : FuncId} {xs : List D} {res : D} (hd : o.dst = some d) (hdn : Nat.ble (d + 1) n = true) (hg : guardOk all σ o = true) (hx : callV T σ.get o.op = some (f, xs)) (hP : Pure P f xs res)
    (h : AOps P B F0 w0 n all rest K ((d, .d res) :: σ)) : AOps P B F0 w0 n all (o :: rest) K σ := AOps.pure hg hdn (PStep.callv hT hd (hmx_self σ d) hx hP) h
theorem APre.callv (hT : TOk P T) {K : St → Prop} {f : FuncId} {xs : List D} {res : D} (hd : o.dst = some d) (hdn : Nat.ble (d + 1) n = true) (hg : guardOk ops τ o = true) (hs : σ0.get d = none) (hx : callV T τ.get o.op = some (f, xs)) (hP : Pure P f xs res)
    (h : APre P B F0 w0 n ops ds σ0 rest ((d, .d res) :: τ) K) : APre P B F0 w0 n ops ds σ0 (o :: rest) τ K := APre.pure hd hdn rfl hg (PStep.callv hT hd hs hx hP) h

/-- A pointer that is none of nil's passes the check. -/
def nchkF (T : Ty) (lk hm : Nat → Option AV) : Op → Option AV
  | .nilCheck x => match ex T lk 0 x with
    | some (.d (.pr l)) => some (.d (.pr l))
    | some (.pt h off) => match hm h with
      | some (.bx _) => some (.pt h off)
      | _ => none
    | _ => none
  | _ => none
theorem PStep.nchk (hT : TOk P T) {av : AV} (hd : o.dst = some d) (hn : hm d = none) (hx : nchkF T lk hm o.op = some av) : PStep P B F0 w0 d o lk hm av := by
  refine ⟨hd, hn, fun a w O hI K Q hK => ?_⟩
  obtain ⟨dst, op, ty, pos, after, guard⟩ := o
  simp only [] at hd hx hI
  cases op <;> simp only [nchkF] at hx <;> try (cases hx; done)
  rename_i x
  split at hx <;> try (cases hx; done)
  · rename_i l he
    simp at hx
    subst hx
    have hr := (ex_sound hI (fun t ht => by subst ht; simp [Op.operands]) he d).1
    obtain ⟨b, cs, e, fz, hv, _⟩ := Rd.pr_eq hr
    have hrun : (execOp a.eval { dst := dst, op := .nilCheck x, type := ty, pos := pos, after := after, guard := guard }).run P w = .ok (.value (a.eval x)) w := by
      simp only [execOp, hv]; rfl
    exact wp_val hrun (hK _ w O (Grow.refl hI.lt) hr)
  · rename_i h off he
    split at hx <;> try (cases hx; done)
    rename_i cs hcs
    simp at hx
    subst hx
    have hr := (ex_sound hI (fun t ht => by subst ht; simp [Op.operands]) he d).1
    obtain ⟨b, hb, hv⟩ := hr cs hcs
    have hrun : (execOp a.eval { dst := dst, op := .nilCheck x, type := ty, pos := pos, after := after, guard := guard }).run P w = .ok (.value (a.eval x)) w := by
      simp only [execOp, hv]; rfl
    exact wp_val hrun (hK _ w O (Grow.refl hI.lt) hr)
theorem AOps.nchk (hT : TOk P T) {K : St → Prop} {av : AV} (hd : o.dst = some d) (hdn : Nat.ble (d + 1) n = true) (hg : guardOk all σ o = true) (hh : av.home = false) (hx : nchkF T σ.get (hmx σ d) o.op = some av)
    (h : AOps P B F0 w0 n all rest K ((d, av) :: σ)) : AOps P B F0 w0 n all (o :: rest) K σ := AOps.pure hg hdn (PStep.nchk hT hd (hmx_self σ d) hx) (by rw [St.put, hh]; exact h)
theorem APre.nchk (hT : TOk P T) {K : St → Prop} {l : List D} (hd : o.dst = some d) (hdn : Nat.ble (d + 1) n = true) (hg : guardOk ops τ o = true) (hs : σ0.get d = none) (hx : nchkF T τ.get σ0.get o.op = some (.d (.pr l)))
    (h : APre P B F0 w0 n ops ds σ0 rest ((d, .d (.pr l)) :: τ) K) : APre P B F0 w0 n ops ds σ0 (o :: rest) τ K := APre.pure hd hdn rfl hg (PStep.nchk hT hd hs hx) h
end
end Lift
/- Groups: the other body of a joint; the first joint that passes; a finder's known bodies. -/
namespace Lift
open Go Go.Proofs

/-- The first of m numbers from i on at which g holds; -1 if there is none. -/
def fIx (g : Nat → Bool) : Nat → Nat → Int
  | 0, _ => -1
  | m + 1, i => if g i = true then (i : Int) else fIx g m (i + 1)
theorem fIx_hit {g : Nat → Bool} {n i : Nat} (h : i < n) (h0 : g i = true) : fIx g (n - i) i = i := by
  rw [show n - i = (n - (i + 1)) + 1 by omega, fIx, if_pos h0]
theorem fIx_miss {g : Nat → Bool} {n i : Nat} (h : i < n) (h0 : g i = false) : fIx g (n - i) i = fIx g (n - (i + 1)) (i + 1) := by
  rw [show n - i = (n - (i + 1)) + 1 by omega, fIx, if_neg (by rw [h0]; simp)]
theorem fIx_end {g : Nat → Bool} {n i : Nat} (h : ¬ i < n) : fIx g (n - i) i = -1 := by rw [show n - i = 0 by omega, fIx]
def othF (j : Joint) (b : Int) : Int := if b = j.a then j.b else if b = j.b then j.a else -1
abbrev BsD (l : List Bool) : D := .sl 1 (l.map (fun b => dB b))
theorem getBs {l : List Bool} {i : Nat} (h : i < l.length) : (l.map (fun b => dB b))[i]? = some (dB (l.getD i false)) := by simp [h]
theorem getJ {l : List Joint} {i : Nat} (h : i < l.length) : (l.map Joint.D)[i]? = some (l.getD i default).D := by simp [h]
/-- A finder's cells. -/
abbrev FinC (l : Lkg) (kn dr us : List Bool) (g : D) : List D := [dS l.nm, BodiesD l.bodies, JointsD l.joints, DriversD l.drivers, BsD kn, BsD dr, BsD us, g]
/-- The joints' bodies are bodies. -/
def JsIn (n : Nat) (js : List Joint) : Prop := ∀ i, i < js.length → 0 ≤ (js.getD i default).a ∧ (js.getD i default).a < n ∧ 0 ≤ (js.getD i default).b ∧ (js.getD i default).b < n

theorem groups_other_ok (j : Joint) (b : Int) : Pure Try.prog 85 [j.D, dI b] (dI (othF j b)) := by
  refine Pure.intro (n := 18) tok Try.func85 rfl rfl rfl (Nat.le_of_ble_eq_true rfl) (by kernel_rfl) (fun B F0 w0 => ?_)
  refine AW.seq ?_
  refine AW.region ?_   -- "groups.go:22"
  refine AOps.run tok 2 _ _ _ _ rfl ?_
  refine AOps.nil ?_
  refine AW.seq ?_
  refine AW.seq ?_
  refine AW.region ?_   -- "groups.go:23"
  refine AOps.run tok 1 _ _ _ _ rfl ?_
  refine AOps.nil ?_
  refine AW.block ?_   -- block 0
  refine AW.seq ?_
  refine AW.region ?_   -- "groups.go:24"
  refine AOps.run tok 4 _ _ _ _ rfl ?_
  refine AOps.nil ?_
  refine AW.cond rfl (fun h => ?_) (fun h => ?_)
  · rw [show othF j b = j.b from if_pos (of_decide_eq_true h)]
    refine AW.seq ?_
    refine AW.region ?_   -- "groups.go:25"
    refine AOps.run tok 3 _ _ _ _ rfl ?_
    refine AOps.nil ?_
    exact AW.ret rfl
  · have h0 := of_decide_eq_false h
    refine AW.seq ?_
    refine AW.region ?_   -- "groups.go:26"
    refine AOps.run tok 4 _ _ _ _ rfl ?_
    refine AOps.nil ?_
    refine AW.cond rfl (fun h => ?_) (fun h => ?_)
    · rw [show othF j b = j.a by unfold othF; rw [if_neg h0, if_pos (of_decide_eq_true h)]]
      refine AW.seq ?_
      refine AW.region ?_   -- "groups.go:27"
      refine AOps.run tok 3 _ _ _ _ rfl ?_
      refine AOps.nil ?_
      exact AW.ret rfl
    · rw [show othF j b = -1 by unfold othF; rw [if_neg h0, if_neg (of_decide_eq_false h)]]
      refine AW.skip ?_
      refine AW.seq ?_
      refine AW.region ?_   -- "groups.go:29"
      refine AOps.run tok 1 _ _ _ _ rfl ?_
      refine AOps.nil ?_
      exact AW.ret rfl
theorem fin_isKnown_ok (l : Lkg) (kn dr us : List Bool) (g : D) (b : Int) (h0 : 0 ≤ b) (h1 : b.toNat < kn.length) : Pure Try.prog 81 [.pr (FinC l kn dr us g), dI b] (dB (kn.getD b.toNat false)) := by
  refine Pure.intro (n := 12) tok Try.func81 rfl rfl rfl (Nat.le_of_ble_eq_true rfl) (by kernel_rfl) (fun B F0 w0 => ?_)
  refine AW.seq ?_
  refine AW.region ?_   -- "groups.go:41"
  refine AOps.run tok 1 _ _ _ _ rfl ?_
  refine AOps.nil ?_
  refine AW.seq ?_
  refine AW.region ?_   -- "groups.go:41"
  refine AOps.run tok 1 _ _ _ _ rfl ?_
  refine AOps.nchk tok rfl rfl rfl rfl rfl ?_
  refine AOps.run tok 3 _ _ _ _ rfl ?_
  refine AOps.idx tok (dB (kn.getD b.toNat false)) rfl rfl rfl rfl h0 (getBs h1) ?_
  refine AOps.run tok 2 _ _ _ _ rfl ?_
  refine AOps.nil ?_
  exact AW.ret rfl
theorem fin_free_ok (l : Lkg) (kn dr us : List Bool) (g : D) (b : Int) (h0 : 0 ≤ b) (h1 : b.toNat < kn.length) (h2 : b.toNat < dr.length) : Pure Try.prog 65 [.pr (FinC l kn dr us g), dI b] (dB (!(kn.getD b.toNat false) && !(dr.getD b.toNat false))) := by
  refine Pure.intro (n := 23) tok Try.func65 rfl rfl rfl (Nat.le_of_ble_eq_true rfl) (by kernel_rfl) (fun B F0 w0 => ?_)
  refine AW.seq ?_
  refine AW.region ?_   -- "groups.go:47"
  refine AOps.run tok 1 _ _ _ _ rfl ?_
  refine AOps.nil ?_
  refine AW.seq ?_
  refine AW.region ?_   -- "groups.go:47"   -- GUARDS
  refine AOps.run tok 1 _ _ _ _ rfl ?_
  refine AOps.nchk tok rfl rfl rfl rfl rfl ?_
  refine AOps.run tok 3 _ _ _ _ rfl ?_
  refine AOps.idx tok (dB (kn.getD b.toNat false)) rfl rfl rfl rfl h0 (getBs h1) ?_
  refine AOps.run tok 3 _ _ _ _ rfl ?_
  refine AOps.split (t := 13) rfl (fun h => ?_) (fun h => ?_)
  rotate_left
  · rw [h]
    refine AOps.run tok 10 _ _ _ _ rfl ?_
    refine AOps.nil ?_
    exact AW.ret rfl
  rw [h]
  refine AOps.run tok 1 _ _ _ _ rfl ?_
  refine AOps.nchk tok rfl rfl rfl rfl rfl ?_
  refine AOps.run tok 3 _ _ _ _ rfl ?_
  refine AOps.idx tok (dB (dr.getD b.toNat false)) rfl rfl rfl rfl h0 (getBs h2) ?_
  refine AOps.run tok 4 _ _ _ _ rfl ?_
  refine AOps.nil ?_
  exact AW.ret rfl
theorem slices_IndexFunc_ok (js : List Joint) (hl : js.length ≤ big) {k : Nat} {xs ys : List D} (p : Joint → Bool) (hp : ∀ i, i < js.length → Pure Try.prog k (xs ++ [(js.getD i default).D] ++ ys) (dB (p (js.getD i default)))) :
    Pure Try.prog 83 [JointsD js, .fn k xs ys] (dI (fIx (fun i => p (js.getD i default)) js.length 0)) := by
  refine Pure.intro (n := 19) tok Try.func83 rfl rfl rfl (Nat.le_of_ble_eq_true rfl) (by kernel_rfl) (fun B F0 w0 => ?_)
  unfold big at hl
  generalize hE : fIx (fun i => p (js.getD i default)) js.length 0 = E
  refine AW.seq ?_
  refine AW.region ?_   -- "slices.go:107"
  refine AOps.run tok 1 _ _ _ _ rfl ?_
  refine AOps.nil ?_
  refine AW.seq ?_
  refine AW.seq ?_
  refine AW.region ?_   -- "slices.go:108"
  refine AOps.run tok 3 _ _ _ _ rfl ?_
  rw [List.length_map]
  refine AOps.nil ?_
  refine AW.block ?_   -- block 0
  refine AW.loopS [0, 1, 7, 8] (fun i : Nat => [(0, .d (JointsD js)), (1, .d (.fn k xs ys)), (7, .d (dI js.length)), (8, .d (dI i))]) (fun i => i ≤ js.length ∧ fIx (fun i => p (js.getD i default)) (js.length - i) i = E) (fun i => js.length - i) 0 rfl ⟨Nat.zero_le _, hE⟩ (fun i hi => ?_)
  obtain ⟨hi, hE⟩ := hi
  · skip
    refine AW.seq ?_
    refine AW.region ?_   -- "slices.go:108"
    refine AOps.run tok 1 _ _ _ _ rfl ?_
    refine AOps.nil ?_
    refine AW.seq ?_
    refine AW.cond rfl (fun h => ?_) (fun h => ?_)
    · have hin : i < js.length := by have := of_decide_eq_true h; omega
      have hpi := hp i hin
      have hhit := fIx_hit (g := fun i => p (js.getD i default)) hin
      have hmiss := fIx_miss (g := fun i => p (js.getD i default)) hin
      refine AW.skip ?_
      refine AW.seq ?_
      refine AW.block ?_   -- block 1
      refine AW.seq ?_
      refine AW.region ?_   -- "slices.go:108"
      refine AOps.run tok 2 _ _ _ _ rfl ?_
      refine AOps.nil ?_
      refine AW.seq ?_
      refine AW.region ?_   -- "slices.go:109"
      refine AOps.run tok 3 _ _ _ _ rfl ?_
      refine AOps.idx tok (js.getD i default).D rfl rfl rfl rfl (Int.natCast_nonneg i) (getJ hin) ?_
      refine AOps.run tok 1 _ _ _ _ rfl ?_
      refine AOps.callv tok rfl rfl rfl rfl hpi ?_
      refine AOps.nil ?_
      refine AW.cond rfl (fun h => ?_) (fun h => ?_)
      · rw [← hE, hhit h]
        refine AW.seq ?_
        refine AW.region ?_   -- "slices.go:110"
        refine AOps.run tok 2 _ _ _ _ rfl ?_
        refine AOps.nil ?_
        exact AW.ret rfl
      · skip
        refine AW.skip ?_
        refine AW.region ?_   -- "slices.go:108"
        refine AOps.run tok 1 _ _ _ _ rfl ?_
        rw [wI64 (x := (i : Int) + 1) (by omega) (by omega)]
        refine AOps.run tok 1 _ _ _ _ rfl ?_
        refine AOps.nil ?_
        exact ⟨i + 1, rfl, ⟨hin, by rw [← hmiss h]; exact hE⟩, by omega⟩
    have hin : ¬ i < js.length := by have := of_decide_eq_false h; omega
    rw [← hE, fIx_end hin]
    refine AW.exit ?_
      -- exit 0
    -- END OF BODY; what follows the loop (from its exit):
    refine AW.seq ?_
    refine AW.region ?_   -- "slices.go:113"
    refine AOps.run tok 1 _ _ _ _ rfl ?_
    refine AOps.nil ?_
    exact AW.ret rfl
end Lift
/- Groups: the first joint of a kind of a body with a body that passes; anchors; the pairs' closure. -/
namespace Lift
open Go Go.Proofs

/-- A joint of a kind, of body b, with a body that passes q. -/
def gjP (kind b : Int) (q : Nat → Bool) (j : Joint) : Bool := decide (j.kind = kind) && (decide (0 ≤ othF j b) && q (othF j b).toNat)
def jtF (kind b : Int) (q : Nat → Bool) (js : List Joint) : Int := fIx (fun i => gjP kind b q (js.getD i default)) js.length 0
theorem fin_joint1_ok (j : Joint) (b kind : Int) {k : Nat} {xs ys : List D} (q : Nat → Bool) (hq : 0 ≤ othF j b → Pure Try.prog k (xs ++ [dI (othF j b)] ++ ys) (dB (q (othF j b).toNat))) :
    Pure Try.prog 84 [j.D, .pr [dI b], .pr [dI kind], .pr [.fn k xs ys]] (dB (gjP kind b q j)) := by
  refine Pure.intro (n := 23) tok Try.func84 rfl rfl rfl (Nat.le_of_ble_eq_true rfl) (by kernel_rfl) (fun B F0 w0 => ?_)
  have hP : gjP kind b q j = (decide (j.kind = kind) && (decide (0 ≤ othF j b) && q (othF j b).toNat)) := rfl
  generalize gjP kind b q j = E at hP
  refine AW.seq ?_
  refine AW.region ?_   -- "groups.go:34"
  refine AOps.run tok 2 _ _ _ _ rfl ?_
  refine AOps.nil ?_
  refine AW.seq ?_
  refine AW.region ?_   -- "groups.go:35"
  refine AOps.run tok 2 _ _ _ _ rfl ?_
  refine AOps.call tok rfl rfl rfl rfl (groups_other_ok j b) ?_
  refine AOps.run tok 1 _ _ _ _ rfl ?_
  refine AOps.nil ?_
  refine AW.seq ?_
  refine AW.region ?_   -- "groups.go:36"   -- GUARDS
  refine AOps.run tok 5 _ _ _ _ rfl ?_
  refine AOps.split (t := 14) rfl (fun h => ?_) (fun h => ?_)
  rotate_left
  · rw [hP, show decide (j.kind = kind) = false from decide_eq_false (of_decide_eq_false h)]
    refine AOps.run tok 4 _ _ _ _ rfl ?_
    refine AOps.split (t := 18) rfl (fun h => by cases h) (fun h => ?_)
    refine AOps.run tok 5 _ _ _ _ rfl ?_
    refine AOps.nil ?_
    exact AW.ret rfl
  refine AOps.run tok 4 _ _ _ _ rfl ?_
  refine AOps.split (t := 18) rfl (fun h2 => ?_) (fun h2 => ?_)
  rotate_left
  · rw [hP, show decide (0 ≤ othF j b) = false from decide_eq_false (of_decide_eq_false h2), Bool.false_and, Bool.and_false]
    refine AOps.run tok 5 _ _ _ _ rfl ?_
    refine AOps.nil ?_
    exact AW.ret rfl
  rw [hP, show decide (j.kind = kind) = true from decide_eq_true (of_decide_eq_true h), show decide (0 ≤ othF j b) = true from decide_eq_true (of_decide_eq_true h2), Bool.true_and, Bool.true_and]
  refine AOps.run tok 2 _ _ _ _ rfl ?_
  refine AOps.callv tok rfl rfl rfl rfl (hq (of_decide_eq_true h2)) ?_
  refine AOps.run tok 2 _ _ _ _ rfl ?_
  refine AOps.nil ?_
  exact AW.ret rfl
theorem fin_joint_ok (l : Lkg) (hl : l.joints.length ≤ big) (kn dr us : List Bool) (g : D) (kind b : Int) {k : Nat} {xs ys : List D} (q : Nat → Bool)
    (hq : ∀ i, i < l.joints.length → 0 ≤ othF (l.joints.getD i default) b → Pure Try.prog k (xs ++ [dI (othF (l.joints.getD i default) b)] ++ ys) (dB (q (othF (l.joints.getD i default) b).toNat))) :
    Pure Try.prog 63 [.pr (FinC l kn dr us g), dI kind, dI b, .fn k xs ys] (dI (jtF kind b q l.joints)) := by
  refine Pure.intro (n := 16) tok Try.func63 rfl rfl rfl (Nat.le_of_ble_eq_true rfl) (by kernel_rfl) (fun B F0 w0 => ?_)
  refine AW.seq ?_
  refine AW.region ?_   -- "groups.go:33"
  refine AOps.run tok 4 _ _ _ _ rfl ?_
  refine AOps.nil ?_
  refine AW.seq ?_
  refine AW.region ?_   -- "groups.go:34"
  refine AOps.run tok 1 _ _ _ _ rfl ?_
  refine AOps.nchk tok rfl rfl rfl rfl rfl ?_
  refine AOps.run tok 3 _ _ _ _ rfl ?_
  refine AOps.frzb 6 rfl ?_
  refine AOps.frzb 5 rfl ?_
  refine AOps.frzb 7 rfl ?_
  refine AOps.mkfn tok rfl rfl rfl rfl ?_
  refine AOps.call tok rfl rfl rfl rfl (slices_IndexFunc_ok l.joints hl (gjP kind b q) (fun i hi => fin_joint1_ok (l.joints.getD i default) b kind q (hq i hi))) ?_
  refine AOps.run tok 1 _ _ _ _ rfl ?_
  refine AOps.nil ?_
  exact AW.ret rfl
theorem fin_anchored_ok (l : Lkg) (hl : l.joints.length ≤ big) (kn dr us : List Bool) (g : D) (kind b : Int) (hj : ∀ i, i < l.joints.length → (othF (l.joints.getD i default) b).toNat < kn.length) :
    Pure Try.prog 61 [.pr (FinC l kn dr us g), dI kind, dI b] (dI (jtF kind b (fun o => kn.getD o false) l.joints)) := by
  refine Pure.intro (n := 13) tok Try.func61 rfl rfl rfl (Nat.le_of_ble_eq_true rfl) (by kernel_rfl) (fun B F0 w0 => ?_)
  refine AW.seq ?_
  refine AW.region ?_   -- "groups.go:44"
  refine AOps.run tok 1 _ _ _ _ rfl ?_
  refine AOps.nil ?_
  refine AW.seq ?_
  refine AW.region ?_   -- "groups.go:44"
  refine AOps.run tok 4 _ _ _ _ rfl ?_
  refine AOps.mkfn tok rfl rfl rfl rfl ?_
  refine AOps.call tok rfl rfl rfl rfl (fin_joint_ok l hl kn dr us g kind b (fun o => kn.getD o false) (fun i hi h0 => fin_isKnown_ok l kn dr us g _ h0 (hj i hi))) ?_
  refine AOps.run tok 1 _ _ _ _ rfl ?_
  refine AOps.nil ?_
  exact AW.ret rfl
theorem fin_pair1_ok (o j : Int) : Pure Try.prog 64 [dI o, .pr [dI j]] (dB (decide (o = j))) := by
  refine Pure.intro (n := 7) tok Try.func64 rfl rfl rfl (Nat.le_of_ble_eq_true rfl) (by kernel_rfl) (fun B F0 w0 => ?_)
  refine AW.seq ?_
  refine AW.region ?_   -- "groups.go:79"
  refine AOps.run tok 1 _ _ _ _ rfl ?_
  refine AOps.nil ?_
  refine AW.seq ?_
  refine AW.region ?_   -- "groups.go:79"
  refine AOps.run tok 4 _ _ _ _ rfl ?_
  refine AOps.nil ?_
  exact AW.ret rfl
theorem fin_pairs_ok (l : Lkg) (kn dr us : List Bool) (g : D) : Pure Try.prog 62 [.pr (FinC l kn dr us g)] (.fn 82 [] [.pr [.pr (FinC l kn dr us g)]]) := by
  refine Pure.intro (n := 4) tok Try.func62 rfl rfl rfl (Nat.le_of_ble_eq_true rfl) (by kernel_rfl) (fun B F0 w0 => ?_)
  refine AW.seq ?_
  refine AW.region ?_   -- "groups.go:63"
  refine AOps.run tok 2 _ _ _ _ rfl ?_
  refine AOps.nil ?_
  refine AW.seq ?_
  refine AW.region ?_   -- "groups.go:64"
  refine AOps.frzb 1 rfl ?_
  refine AOps.mkfn tok rfl rfl rfl rfl ?_
  refine AOps.run tok 1 _ _ _ _ rfl ?_
  refine AOps.nil ?_
  exact AW.ret rfl
end Lift
/- Code of a round of a range over a function: the words of the logic inside a round. -/
namespace Lift
open Go
open Go.RowKit (Below)

/-- The fence that lets all in, inside the round of a loop. -/
def FR (l : Nat) : Fence := Fence.wide.inRound l
def noDefer (o : Oper) : Bool := match o.op with
  | .defer _ => false
  | _ => true
theorem noDefer_ok {o : Oper} (h : noDefer o = true) : ∀ c, o.op ≠ .defer c := fun c e => by simp [noDefer, e] at h
theorem op_in {P : Program} {l m : Nat} {o : Oper} {a : Act} {w : World} {K : Act → World → Prop} {Q : Exit → Act → World → Prop} (hnd : noDefer o = true) (h : o.wp P a w K Q) : o.wpIn (FR l) m P a w K Q := by
  refine ⟨fun _ _ => trivial, ?_⟩
  rw [Oper.semAt_eq _ _ _ (noDefer_ok hnd)]
  unfold Oper.wp at h
  generalize (execOp a.eval o).run P w = r at h
  have hd : (FR l).depth.isSome = true → 1 ≤ m := fun h => by simp [FR, Fence.inRound, Fence.wide] at h
  cases r with
  | ok x w' =>
    cases x <;> simp only [Oper.upon] at h <;> try (exact h)
    · exact ⟨hd, CallsIn.inRound l ((callsIn_wide.2 h).mono (fun e w'' he => by cases e <;> exact he))⟩
    · refine ⟨hd, fun c cs _ => ?_⟩
      obtain ⟨v, w'', r, s⟩ := h c cs
      exact ⟨v, w'', r, stepsIn_wide.2 s⟩
  | halt x w' => cases x <;> simp only [Oper.upon] at h <;> exact h
theorem wpList_in {P : Program} {l m : Nat} {ops : Array Oper} {Q : Exit → Act → World → Prop} (hQ : ¬ LetsOut Q) : ∀ (os : List Oper) (a : Act) (w : World), os.all noDefer = true → wpList P ops Q os a w → wpListIn (FR l) m P ops Q os a w
  | [], _, _, _, h => h
  | o :: os, a, w, hnd, h => by
    simp only [List.all_cons, Bool.and_eq_true] at hnd
    unfold wpList at h
    unfold wpListIn
    split at h
    · rw [if_pos (by assumption)]
      rcases h with h | ⟨_, h⟩
      · exact Oper.wpIn_mono (fun a w h => wpList_in hQ os a w hnd.2 h) (op_in hnd.1 h)
      · exact absurd h hQ
    · rw [if_neg (by assumption)]
      exact ⟨fun _ _ => trivial, wpList_in hQ os _ _ hnd.2 h⟩
theorem wpAny_in {P : Program} {l m : Nat} {ops : Array Oper} {Q : Exit → Act → World → Prop} (hQ : ¬ LetsOut Q) (hnd : ops.toList.all noDefer = true) : ∀ (fuel : Nat) (listed : Array Bool) (a : Act) (w : World), wpAny P .any ops Q fuel listed a w → wpAnyIn (FR l) m P .any ops Q fuel listed a w
  | 0, _, _, _, h => h
  | fuel + 1, listed, a, w, h => by
    refine ⟨h.1, fun i hi => ?_⟩
    have h2 := h.2 i hi
    unfold wpOp at h2
    unfold wpOpIn
    cases ho : ops[i]? with
    | none => rw [ho] at h2; exact wpAny_in hQ hnd fuel _ _ _ h2
    | some o =>
      simp only [ho] at h2 ⊢
      have hno : noDefer o = true := by
        rw [List.all_eq_true] at hnd
        refine hnd o ?_
        rw [Array.mem_toList_iff]
        exact Array.mem_of_getElem? ho
      split at h2
      · rw [if_pos (by assumption)]
        rcases h2 with h2 | ⟨_, h2⟩
        · exact Oper.wpIn_mono (fun a w h => wpAny_in hQ hnd fuel _ a w h) (op_in hno h2)
        · exact absurd h2 hQ
      · rw [if_neg (by assumption)]
        exact ⟨fun _ _ => trivial, wpAny_in hQ hnd fuel _ _ _ h2⟩

section
variable {P : Program} {T : Ty} {B : Nat} {F0 : Nat → Prop} {w0 : Bas} {n r : Nat} {pn : Pins} {σ : St} {R : List LR} {x y : Code} {Q : Exit → List LR → St → Prop}
def rPost (P : Program) (B : Nat) (F0 : Nat → Prop) (w0 : Bas) (n : Nat) (pn : Pins) (Q : Exit → List LR → St → Prop) : Exit → Act → World → Prop := fun e a w => (∃ R σ, Q e R σ ∧ RelZ P B F0 w0 n R σ a w) ∧ PinsOk pn a
theorem pins_put {p : Pins} {a : Act} {o : Oper} {v : Value} {d : List Deferred} (hp : PinsOk p a) (hd : ∀ e, e ∈ p → o.dst ≠ some e.1) : PinsOk p ({ a with defers := d }.put o.dst v) := fun e he => by
  cases hdst : o.dst with
  | none => exact hp e he
  | some k =>
    have : k ≠ e.1 := fun h => hd e he (by rw [hdst, h])
    rw [put_get (Ne.symm this)]; exact hp e he
theorem wpAny_pins {p : Pins} {ops : Array Oper} {Q : Exit → Act → World → Prop} (hd : ∀ e, e ∈ p → ∀ o, o ∈ ops.toList → o.dst ≠ some e.1) : ∀ (fuel : Nat) (listed : Array Bool) (a : Act) (w : World), PinsOk p a → wpAny P .any ops Q fuel listed a w → wpAny P .any ops (fun e a w => Q e a w ∧ (e = .normal → PinsOk p a)) fuel listed a w
  | 0, _, _, _, hp, h => ⟨h.1, h.2, fun _ => hp⟩
  | fuel + 1, listed, a, w, hp, h => by
    refine ⟨fun hr => ⟨h.1 hr, fun _ => hp⟩, fun i hi => ?_⟩
    have h2 := h.2 i hi
    unfold wpOp at h2 ⊢
    cases ho : ops[i]? with
    | none => simp only [ho] at h2 ⊢; exact wpAny_pins hd fuel _ _ _ hp h2
    | some o =>
      simp only [ho] at h2 ⊢
      have hmem : o ∈ ops.toList := by rw [Array.mem_toList_iff]; exact Array.mem_of_getElem? ho
      have hdo : ∀ e, e ∈ p → o.dst ≠ some e.1 := fun e he => hd e he o hmem
      split at h2
      · rw [if_pos (by assumption)]
        rcases h2 with h2 | ⟨h3, a1, w1, h4⟩
        · exact .inl (upon_keep (fun c a w h => ⟨h, fun e => by cases e⟩) (fun ⟨a, w, h⟩ => ⟨a, w, h, fun e => by cases e⟩) (fun v d w h => wpAny_pins hd fuel _ _ _ (pins_put hp hdo) h) h2)
        · exact .inr ⟨h3, a1, w1, h4, fun e => by cases e⟩
      · rw [if_neg (by assumption)]
        exact wpAny_pins hd fuel _ _ _ (pins_put (d := a.defers) hp hdo) h2
theorem evalBool {c : Operand} {b : Bool} {a : Act} {w : World} (hc : boolAt σ c = some b) (hR : RelZ P B F0 w0 n R σ a w) : a.eval c = .bool b := by
  unfold boolAt at hc
  split at hc <;> try (cases hc; done)
  · split at hc <;> simp at hc
    rename_i hg
    subst hc
    obtain ⟨O, hOr, hO, _⟩ := hR.own
    obtain ⟨v, hv, hr⟩ := hO _ _ hg
    have := (Rd.v_eq hr).1
    subst this
    exact eval_tmp hv
  · simp at hc; subst hc; rfl
/-- Code in round r; the slots of pn keep their values. -/
def AR (P : Program) (B : Nat) (F0 : Nat → Prop) (w0 : Bas) (n r : Nat) (pn : Pins) (c : Code) (Q : Exit → List LR → St → Prop) (R : List LR) (σ : St) : Prop :=
  ∀ (m : Nat) (a : Act) (w : World), RelZ P B F0 w0 n R σ a w → PinsOk pn a → c.wpIn (FR r) m P (rPost P B F0 w0 n pn Q) a w
theorem AR.skip (h : Q .normal R σ) : AR P B F0 w0 n r pn .skip Q R σ := fun m a w hR hp => wpIn_skip ⟨⟨R, σ, h, hR⟩, hp⟩
theorem AR.exit {id : Nat} (h : Q (.exit id) R σ) : AR P B F0 w0 n r pn (.exit id) Q R σ := fun m a w hR hp => wpIn_exit ⟨⟨R, σ, h, hR⟩, hp⟩
theorem AR.ret (h : Q .ret R σ) : AR P B F0 w0 n r pn .ret Q R σ := fun m a w hR hp => wpIn_ret ⟨⟨R, σ, h, hR⟩, hp⟩
theorem AR.seq (h : AR P B F0 w0 n r pn x (thenZ (AR P B F0 w0 n r pn y Q) Q) R σ) : AR P B F0 w0 n r pn (.seq x y) Q R σ := by
  intro m a w hR hp
  refine wpIn_seq (wpIn_mono (h m a w hR hp) fun e a' w' ⟨⟨R', σ', hq, hR'⟩, hp'⟩ => ?_)
  cases e <;> first | exact hq m a' w' hR' hp' | exact ⟨⟨R', σ', hq, hR'⟩, hp'⟩
theorem AR.block {id : Nat} (h : AR P B F0 w0 n r pn x (blockZ id Q) R σ) : AR P B F0 w0 n r pn (.block id x) Q R σ := by
  intro m a w hR hp
  refine wpIn_block (wpIn_mono (h m a w hR hp) fun e a' w' ⟨⟨R', σ', hq, hR'⟩, hp'⟩ => ?_)
  cases e with
  | exit i =>
    simp only [blockZ] at hq
    simp only [Exit.inBlock]
    split at hq
    · rename_i hb
      rw [if_pos (Nat.eq_of_beq_eq_true hb)]
      exact ⟨⟨R', σ', hq, hR'⟩, hp'⟩
    · rename_i hb
      rw [if_neg (Nat.ne_of_beq_eq_false hb)]
      exact ⟨⟨R', σ', hq, hR'⟩, hp'⟩
  | _ => exact ⟨⟨R', σ', hq, hR'⟩, hp'⟩
theorem AR.region {id : Nat} {ops : Array Oper} (hnd : ops.toList.all noDefer = true) (hpn : pinsB pn ops.toList = true) (h : AZOps P B F0 w0 n ops ops.toList (Q .normal) [] R σ) : AR P B F0 w0 n r pn (.region id ops false) Q R σ := by
  intro m a w hR hp
  have h1 : wpList P ops (fun e a' w' => (e = .normal ∧ ∃ R' σ', Q .normal R' σ' ∧ RelZ P B F0 w0 n R' σ' a' w') ∧ (e = .normal → PinsOk pn a')) ops.toList a w :=
    wpList_pins hp (pinsB_ok hpn) (h a w hR (fun e he => by cases he) _ (fun a w R' σ' h1 h2 => ⟨rfl, R', σ', h1, h2⟩))
  refine wpIn_mono (wpIn_region_list (wpList_in (fun ⟨a, w, h⟩ => by cases h.1.1) _ _ _ hnd h1)) (fun e a' w' ⟨⟨he, R', σ', hq, hR'⟩, hp'⟩ => ?_)
  subst he
  exact ⟨⟨R', σ', hq, hR'⟩, hp' rfl⟩
theorem AR.any {id : Nat} {ops : Array Oper} (hmx : P.follows .mixedOrders = true) (hnd : ops.toList.all noDefer = true) (hpn : pinsB pn ops.toList = true) (h : ZAny P B F0 w0 n ops (fun e R σ => e = .normal ∧ Q .normal R σ) R σ) : AR P B F0 w0 n r pn (.region id ops true) Q R σ := by
  intro m a w hR hp
  have h1 := wpAny_pins (pinsB_ok hpn) _ _ _ _ (show PinsOk pn a from hp) (h a w hR)
  refine wpIn_mono (wpIn_region_any hmx (wpAny_in (fun ⟨a, w, h⟩ => by obtain ⟨⟨_, _, ⟨h, _⟩, _⟩, _⟩ := h; cases h) hnd _ _ _ _ h1)) (fun e a' w' ⟨⟨R', σ', ⟨he, hq⟩, hR'⟩, hp'⟩ => ?_)
  subst he
  exact ⟨⟨R', σ', hq, hR'⟩, hp' rfl⟩
theorem AR.to (ks : List Nat) (τ : St) (h : σ.keep ks = τ) (hk : AR P B F0 w0 n r pn x Q R τ) : AR P B F0 w0 n r pn x Q R σ := fun m a w hR hp => hk m a w (h ▸ hR.keep ks) hp
theorem AR.cond {c : Operand} {b : Bool} (hc : boolAt σ c = some b) (h1 : b = true → AR P B F0 w0 n r pn x Q R σ) (h2 : b = false → AR P B F0 w0 n r pn y Q R σ) : AR P B F0 w0 n r pn (.cond c x y) Q R σ := by
  intro m a w hR hp
  have he : a.eval c = .bool b := evalBool hc hR
  exact wpIn_cond_split he (fun h => h1 h m a w hR hp) (fun h => h2 h m a w hR hp)
end
end Lift
/- A call that reads a struct of the call's own and the loose rows in its cells as data, and hands back loose rows. -/
namespace Lift
open Go
open Go.RowKit (Below)

/-- The cells ds are the cells cs, some loose rows read as data. -/
inductive Th (T : Ty) (R : List LR) (cs : List D) : List D → Prop
  | refl : Th T R cs cs
  | set {ds : List D} {V : Value} {e : Nat} {xs : List D} {te : TI} (k i : Nat) (h : Th T R cs ds) (hk : cs[k]? = some (.v V)) (hi : R[i]? = some (V, .ow e xs)) (he : T.get e = some te) : Th T R cs (ds.set k (.sl te.size xs))
def plainA : D → Bool
  | .v _ => true
  | .ag l => l.all plainD
  | .sl _ _ => false
  | .tu _ => false
  | .pr _ => false
  | .fn _ _ _ => false
def plainT : D → Bool
  | .v _ => true
  | .ag l => l.all plainD
  | .tu l => l.all plainA
  | .sl _ _ => false
  | .pr _ => false
  | .fn _ _ _ => false
theorem Rd.plainA {w w' : World} {F F' : Nat → Prop} {y : D} {u : Value} (hy : Rd w F y u) (hp : plainA y = true) : Rd w' F' y u := by
  cases hy with
  | v h => exact .v h
  | nil => simp [Lift.plainA] at hp
  | sl => simp [Lift.plainA] at hp
  | ag hl hk hr =>
    simp only [Lift.plainA, List.all_eq_true] at hp
    exact .ag hl hk (fun i d u h1 h2 => (hr i d u h1 h2).plain (hp d (List.mem_of_getElem? h1)))
  | tu => simp [Lift.plainA] at hp
  | pr => simp [Lift.plainA] at hp
  | fn => simp [Lift.plainA] at hp
theorem Rd.plainT {w w' : World} {F F' : Nat → Prop} {y : D} {u : Value} (hy : Rd w F y u) (hp : plainT y = true) : Rd w' F' y u := by
  cases hy with
  | v h => exact .v h
  | nil => simp [Lift.plainT] at hp
  | sl => simp [Lift.plainT] at hp
  | ag hl hk hr =>
    simp only [Lift.plainT, List.all_eq_true] at hp
    exact .ag hl hk (fun i d u h1 h2 => (hr i d u h1 h2).plain (hp d (List.mem_of_getElem? h1)))
  | tu hl hr =>
    simp only [Lift.plainT, List.all_eq_true] at hp
    exact .tu hl (fun i d u h1 h2 => (hr i d u h1 h2).plainA (hp d (List.mem_of_getElem? h1)))
  | pr => simp [Lift.plainT] at hp
  | fn => simp [Lift.plainT] at hp
section
variable {P : Program} {T : Ty} {B : Nat} {F0 : Nat → Prop} {w0 : Bas} {n : Nat} {σ σ' : St} {R R' : List LR} {all : Array Oper} {l rest : List Oper} {o : Oper} {d : Nat} {K : List LR → St → Prop} {p : Pins}
theorem Th.rd (hT : TOk P T) {w : World} {O : Nat → Option Nat} {F G : Nat → Prop} {cs ds : List D} {vs : List Value} (hr : RdL w (Free O F) cs vs) (hL : ∀ i r, R[i]? = some r → LooseAt P w O F (n + i) r) (hG : ∀ c, F c → G c) (hO : ∀ c t, O c = some t → G c) (h : Th T R cs ds) :
    ∀ (j : Nat) (d : D), ds[j]? = some d → d.isCell = true ∧ ∃ u, vs[j]? = some u ∧ Rd w G d u := by
  induction h with
  | refl =>
    intro j d hd
    obtain ⟨h1, u, h2, h3⟩ := hr.get hd
    exact ⟨h1, u, h2, h3.mono (fun c hc => hG c hc.2) (fun _ _ => rfl)⟩
  | set k i h hk hi he ih =>
    rename_i ds V e xs te
    intro j d hd
    by_cases hj : j = k
    · subst hj
      have hlt : j < ds.length := by
        rcases Nat.lt_or_ge j ds.length with h | h
        · exact h
        · rw [List.getElem?_eq_none (by simpa using h)] at hd; cases hd
      rw [List.getElem?_set_self hlt] at hd
      cases hd
      obtain ⟨_, u, h2, h3⟩ := hr.get hk
      have hu := (Rd.v_eq h3).1
      subst hu
      obtain ⟨info, dd, z, hok⟩ := hT e te he
      refine ⟨rfl, u, h2, ?_⟩
      rcases hL i _ hi with h | ⟨_, _, h⟩
      · cases h
      · rcases h with ⟨base, g1, g2⟩ | ⟨b, cap, cc, g3, g4, g5, g6, g7, g8, g9, g10⟩
        · simp only at g1 g2
          subst g1; subst g2
          exact .nil (Nat.zero_le _)
        · simp only at g3
          subst g3
          have := Rd.sl_mk (w := w) (F := G) (s := P.cellsOf e) (l := xs) (off := 0) (cap := cap) (hO b _ g4) g5 g6 g7 g9 (fun m d hd => by
            obtain ⟨f1, u, f2, f3⟩ := g10 m d hd
            exact ⟨f1, u, by simpa using f2, f3.mono (fun c hc => hG c hc.2) (fun _ _ => rfl)⟩)
          rwa [hok.cellsOf] at this
    · rw [List.getElem?_set_ne (Ne.symm hj)] at hd
      exact ih j d hd
/-- A row of plain values, whatever is free. -/
theorem LooseAt.plain {w : World} {O O' : Nat → Option Nat} {F F' : Nat → Prop} {s t e : Nat} {V : Value} {xs : List D} (hp : plainL xs = true) (h : LooseAt P w O F s (V, .ow e xs)) (hO : ∀ c, O c = some s → O' c = some t) : LooseAt P w O' F' t (V, .ow e xs) := by
  rcases h with h | ⟨h1, h2, h⟩
  · cases h
  · refine .inr ⟨h1, h2, ?_⟩
    rcases h with h | ⟨b, cap, cc, g3, g4, g5, g6, g7, g8, g9, g10⟩
    · exact .inl h
    · exact .inr ⟨b, cap, cc, g3, hO b g4, g5, g6, g7, g8, g9, fun i d hd => by
        obtain ⟨f1, u, f2, f3⟩ := g10 i d hd
        exact ⟨f1, u, f2, f3.plain (plainL_get hp hd)⟩⟩
/-- What is handed back is plain: values, and rows of values. -/
def BackOk (res : D) (R1 : List LR) : Prop := plainT res = true ∧ ∀ r, r ∈ R1 → ∃ e xs, r.2 = .ow e xs ∧ plainL xs = true
theorem AZOps.callb (hT : TOk P T) {f : FuncId} {s t : Nat} {cs cs' : List D} {Post : D → List LR → Prop} (hd : o.dst = some d) (hdn : Nat.ble (d + 1) n = true) (hg : o.guard = none) (ho : ∃ ts, o.op = .call { callee := .value (.func f), args := #[.tmp s], argTypes := ts }) (hs : σ.get s = some (.pt t 0)) (ht : σ.get t = some (.bx cs)) (hth : Th T R cs cs')
    (hpin : pinsB p [o] = true) (hP : CallZ P f [.pr cs'] [] Post) (hB : ∀ res R1, Post res R1 → BackOk res R1) (h : ∀ res R1, Post res R1 → AZOps P B F0 w0 n all rest K p (R ++ R1) ((d, .d res) :: σ)) : AZOps P B F0 w0 n all (o :: rest) K p R σ := by
  intro a w hR hpins Q hQ
  unfold wpList
  rw [if_pos (by simp [Region.wanted, hg])]
  refine .inl ?_
  obtain ⟨O, hOr, hO, hL⟩ := hR.own
  obtain ⟨dst, op, ty, pos, after, guard⟩ := o
  simp only [] at hd hg ho
  obtain ⟨ts, rfl⟩ := ho
  have hdo : ∀ v : Value, a.put dst v = a.put (some d) v := fun v => by rw [hd]
  have hpin' := pinsB_ok hpin
  obtain ⟨v, hv, b, es, e, rfl, hOb, hb, hrd⟩ := hO t _ ht
  obtain ⟨u, hu, hur⟩ := hO s _ hs
  obtain ⟨b', hb', rfl⟩ := hur cs ht
  simp only [hv, Option.some.injEq, Value.pointer.injEq, Addr.mk.injEq] at hb'
  obtain ⟨rfl, _⟩ := hb'
  have hFlt : ∀ b, FW B F0 w b → b < w.heap.size := fun b hb => (FW.step hR.f0 hR.base (Nat.le_refl _) b hb).1
  have hrd' := Th.rd hT hrd hL (G := FW B F0 w) (fun _ h => h) (fun c t hc => (hOr c t hc).fw hR.f0) hth
  have hev : a.eval (.tmp s) = .pointer (some ⟨b, 0, none⟩) := eval_tmp hu
  unfold Oper.wp
  rw [exec_call hP.1]
  show Calls P f (#[Operand.tmp s].map a.eval) w _
  have harg : Rd w (Free (fun _ => none) (FW B F0 w)) (.pr cs') (.pointer (some ⟨b, 0, none⟩)) :=
    Rd.pr_mk ⟨rfl, (hOr b t hOb).fw hR.f0⟩ hb (fun i x hx => by
      obtain ⟨g1, u, g2, g3⟩ := hrd' i x hx
      exact ⟨g1, u, by simpa using g2, g3.mono (fun c hc => ⟨rfl, hc⟩) (fun _ _ => rfl)⟩)
  have hc := hP.2 w (FW B F0 w) (fun _ => none) [.pointer (some ⟨b, 0, none⟩)] hFlt (fun b t h => by cases h) rfl (fun i d v h1 h2 => by
      cases i with
      | zero => simp at h1 h2; subst h1; subst h2; exact harg
      | succ i => simp at h1) (fun i r hr => by simp at hr)
  have he : [Value.pointer (some ⟨b, 0, none⟩)].toArray = #[Operand.tmp s].map a.eval := by simp [hev]
  rw [he] at hc
  refine hc.mono fun ee w' ⟨v, res, R1, O1, he, hPost, hbel, hOr1, hrv, hL1⟩ => ?_
  subst he
  show wpList P all Q rest (a.put dst v) w'
  have hsz : w.heap.size ≤ w'.heap.size := hbel.size
  obtain ⟨hB1, hB2⟩ := hB res R1 hPost
  have hnx : ∀ c, ¬ Owned (fun _ => none) c := fun c ⟨t, h⟩ => by cases h
  have hO1 : ∀ c k, O1 c = some k → w.heap.size ≤ c ∧ c < w'.heap.size := fun c k hk => by
    obtain ⟨g1, g2⟩ := hOr1 c k hk
    rcases g1 with g1 | g1
    · exact ⟨g1, g2⟩
    · exact absurd g1 (hnx c)
  let O3 : Nat → Option Nat := fun c => match O c with
    | some t => some t
    | none => (O1 c).map (fun k => n + (R.length + k))
  have hlt : ∀ c t, O c = some t → c < w.heap.size := fun c t h => (hOr c t h).2
  have hO3 : ∀ c t, O c = some t → O3 c = some t := fun c t h => by simp only [O3, h]
  have hO3' : ∀ c k, O1 c = some k → O3 c = some (n + (R.length + k)) := fun c k h => by
    have : O c = none := by
      cases hc : O c with
      | none => rfl
      | some t => have := hlt c t hc; have := (hO1 c k h).1; omega
    simp only [O3, this, h, Option.map_some]
  have hfree0 : ∀ c, Free O (FW B F0 w) c → Free O3 (FW B F0 w') c ∧ w'.heap[c]? = w.heap[c]? := fun c hc => by
    have hcl := hFlt c hc.2
    refine ⟨⟨?_, ?_⟩, hbel.block c hcl (hnx c)⟩
    · simp only [O3, hc.1]
      cases h : O1 c with
      | none => rfl
      | some k => have := (hO1 c k h).1; omega
    · rcases hc.2 with g | ⟨g1, g2⟩
      · exact .inl g
      · exact .inr ⟨g1, Nat.lt_of_lt_of_le g2 hsz⟩
  have hkeep : ∀ t c, O c = some t → O3 c = some t ∧ w'.heap[c]? = w.heap[c]? := fun t c hc => ⟨hO3 c t hc, hbel.block c (hlt c t hc) (hnx c)⟩
  have hdn' : d < n := Nat.le_of_ble_eq_true hdn
  rw [hdo v]
  refine h res R1 hPost (a.put (some d) v) w' ⟨hR.below.back (w1 := ⟨w, Owned (fun _ => none)⟩) hR.base (fun c hc => absurd hc (hnx c)) hbel, Nat.le_trans hR.base hsz, hR.f0, by simp [Act.put, hR.defers], by simp [Act.put, hR.size], O3, fun c k hk => ?_, fun k av hk => ?_, fun j r hj => ?_⟩ ?_ Q hQ
  · simp only [O3] at hk
    split at hk
    · rename_i k' hk'
      cases hk
      exact ⟨(hOr c _ hk').1, Nat.lt_of_lt_of_le (hOr c _ hk').2 hsz⟩
    · cases h1 : O1 c with
      | none => simp [h1] at hk
      | some k' => exact ⟨.inl (Nat.le_trans hR.base (hO1 c k' h1).1), (hO1 c k' h1).2⟩
  · rw [St.get_cons] at hk
    split at hk
    · rename_i e
      subst e
      cases hk
      exact ⟨v, put_get_same (by rw [hR.size]; exact hdn'), hrv.plainT hB1⟩
    · rename_i htd
      obtain ⟨u, hu, hur⟩ := hO k av hk
      refine ⟨u, by rw [put_get (Ne.symm htd)]; exact hu, ?_⟩
      refine hur.move hfree0 (fun _ c hc => hkeep k c hc) (fun k hk x hx hg => ?_)
      rw [St.get_cons] at hg
      split at hg
      · cases hg; cases hx
      · rename_i hkd
        exact ⟨hg, put_get (Ne.symm hkd)⟩
  · rcases Nat.lt_or_ge j R.length with hjl | hjl
    · rw [List.getElem?_append_left hjl] at hj
      rcases hL j r hj with h | ⟨h1, h2, h3⟩
      · exact .inl h
      · exact .inr ⟨h1, h2, h3.move hfree0 (fun _ c hc => hkeep (n + j) c hc) (fun k _ x _ hk => by cases hk)⟩
    · rw [List.getElem?_append_right hjl] at hj
      obtain ⟨V, av⟩ := r
      obtain ⟨e, xs, rfl, hpx⟩ := hB2 _ (List.mem_of_getElem? hj)
      exact LooseAt.plain hpx (hL1 _ _ hj) (fun c hc => by rw [hO3' c _ hc]; congr 2; omega)
  · intro e he
    have hne : e.1 ≠ d := fun h => hpin' e he _ (List.mem_singleton.2 rfl) (by simp only []; rw [h]; exact hd)
    rw [put_get hne]
    exact hpins e he
end
end Lift
/- Groups: the next driver group; the next group of one body. -/
namespace Lift
open Go Go.Proofs

/-- The first of what g says, of m numbers from i on. -/
def fstO {α : Type} (g : Nat → Option α) : Nat → Nat → Option α
  | 0, _ => none
  | m + 1, i => match g i with
    | some a => some a
    | none => fstO g m (i + 1)
theorem fstO_hit {α : Type} {g : Nat → Option α} {n i : Nat} {a : α} (h : i < n) (h0 : g i = some a) : fstO g (n - i) i = some a := by
  rw [show n - i = (n - (i + 1)) + 1 by omega, fstO, h0]
theorem fstO_miss {α : Type} {g : Nat → Option α} {n i : Nat} (h : i < n) (h0 : g i = none) : fstO g (n - i) i = fstO g (n - (i + 1)) (i + 1) := by
  rw [show n - i = (n - (i + 1)) + 1 by omega, fstO, h0]
theorem fstO_end {α : Type} {g : Nat → Option α} {n i : Nat} (h : ¬ i < n) : fstO g (n - i) i = none := by rw [show n - i = 0 by omega, fstO]
structure Grp where
  kind : Int
  bs : List Int
  js : List Int
  dr : Int
deriving Inhabited
abbrev IsL (l : List Int) : List D := l.map (fun n => dI n)
abbrev IsDG (l : List Int) : D := .sl 1 (l.map (fun n => dI n))
abbrev Grp.D (g : Grp) : Lift.D := .ag [dI g.kind, IsDG g.bs, IsDG g.js, dI g.dr]
/-- A group whose lists are rows known by their values. -/
abbrev Grp.V (g : Grp) (Vb Vj : Value) : Lift.D := .ag [dI g.kind, .v Vb, .v Vj, dI g.dr]
def grpPost (o : Option Grp) (res : D) (R' : List LR) : Prop := match o with
  | some g => ∃ Vb Vj, res = .tu [g.V Vb Vj, dB true] ∧ R' = [(Vb, AV.ow 3 (IsL g.bs)), (Vj, AV.ow 3 (IsL g.js))]
  | none => res = .tu [.ag [dI 0, .v nilS, .v nilS, dI 0], dB false] ∧ R' = []
theorem othF_lt {js : List Joint} {nb i : Nat} {b : Int} (h : JsIn nb js) (hnb : 0 < nb) (hi : i < js.length) : (othF (js.getD i default) b).toNat < nb := by
  obtain ⟨h1, h2, h3, h4⟩ := h i hi
  unfold othF
  split
  · omega
  · split <;> omega
def ancF (l : Lkg) (kn : List Bool) (kind b : Int) : Int := jtF kind b (fun o => kn.getD o false) l.joints
def drvS (l : Lkg) (kn : List Bool) (i : Nat) : Option Grp :=
  if kn.getD (l.drivers.getD i default).body.toNat false = true then none
  else if 0 ≤ ancF l kn 0 (l.drivers.getD i default).body then some ⟨0, [(l.drivers.getD i default).body], [ancF l kn 0 (l.drivers.getD i default).body], i⟩ else none
def drvG (l : Lkg) (kn : List Bool) : Option Grp := fstO (drvS l kn) l.drivers.length 0
theorem getDr {l : List Driver} {i : Nat} (h : i < l.length) : (l.map Driver.D)[i]? = some (l.getD i default).D := by simp [h]
/-- A linkage whose joints and drivers are of its bodies. -/
structure LkIn (l : Lkg) : Prop where
  b1 : 0 < l.bodies.length
  b2 : l.bodies.length ≤ 1000000
  j1 : l.joints.length ≤ 1000000
  d1 : l.drivers.length ≤ 1000000
  j : JsIn l.bodies.length l.joints
  d : ∀ i, i < l.drivers.length → 0 ≤ (l.drivers.getD i default).body ∧ (l.drivers.getD i default).body < l.bodies.length
set_option maxHeartbeats 3200000 in
theorem fin_driver_ok (l : Lkg) (hl : LkIn l) (kn dr us : List Bool) (g : D) (hk : kn.length = l.bodies.length) : CallZ Try.prog 43 [.pr (FinC l kn dr us g)] [] (grpPost (drvG l kn)) := by
  refine CallZ.intro (n := 41) tok Try.func43 rfl rfl rfl (Nat.le_of_ble_eq_true rfl) (by kernel_rfl) (fun B F0 w0 => ?_)
  obtain ⟨hb1, hb2, hj1, hd1, hj, hd⟩ := hl
  generalize hE : drvG l kn = E
  unfold drvG at hE
  refine AZ.seq ?_
  refine AZ.reg (fun B1 F1 w1 => ?_)   -- "groups.go:50"
  refine AOps.run tok 2 _ _ _ _ rfl ?_
  refine AOps.nil ⟨rfl, ?_⟩
  refine AZ.seq ?_
  refine AZ.seq ?_
  refine AZ.reg (fun B1 F1 w1 => ?_)   -- "groups.go:51"
  refine AOps.run tok 1 _ _ _ _ rfl ?_
  refine AOps.nchk tok rfl rfl rfl rfl rfl ?_
  refine AOps.run tok 4 _ _ _ _ rfl ?_
  rw [List.length_map]
  refine AOps.run tok 1 _ _ _ _ rfl ?_
  refine AOps.nil ⟨rfl, ?_⟩
  refine AZ.block ?_   -- block 0
  refine AZ.loopS [0, 2, 11, 12, 13] (fun i : Nat => ([], [(0, .d (.pr (FinC l kn dr us g))), (2, .bx [dI 0, .sl 1 [], .sl 1 [], dI 0]), (11, .d (DriversD l.drivers)), (12, .d (dI l.drivers.length)), (13, .d (dI i))])) (fun i => i ≤ l.drivers.length ∧ fstO (drvS l kn) (l.drivers.length - i) i = E) (fun i => l.drivers.length - i) 0 rfl ⟨Nat.zero_le _, hE⟩ (fun i hi => ?_)
  obtain ⟨hi, hE⟩ := hi
  show AZ _ _ _ _ _ _ _ [] [(0, .d (.pr (FinC l kn dr us g))), (2, .bx [dI 0, .sl 1 [], .sl 1 [], dI 0]), (11, .d (DriversD l.drivers)), (12, .d (dI l.drivers.length)), (13, .d (dI i))]
  · skip
    refine AZ.seq ?_
    refine AZ.reg (fun B1 F1 w1 => ?_)   -- "groups.go:51"
    refine AOps.run tok 1 _ _ _ _ rfl ?_
    refine AOps.nil ⟨rfl, ?_⟩
    refine AZ.seq ?_
    refine AZ.cond rfl (fun h => ?_) (fun h => ?_)
    · have hin : i < l.drivers.length := by have := of_decide_eq_true h; omega
      have hhit := fun a => fstO_hit (g := drvS l kn) (a := a) hin
      have hmiss := fstO_miss (g := drvS l kn) hin
      have hS : drvS l kn i = if kn.getD (l.drivers.getD i default).body.toNat false = true then none else if 0 ≤ ancF l kn 0 (l.drivers.getD i default).body then some ⟨0, [(l.drivers.getD i default).body], [ancF l kn 0 (l.drivers.getD i default).body], i⟩ else none := rfl
      have hdi := hd i hin
      have hid := getDr hin
      generalize l.drivers.getD i default = x at hS hdi hid
      refine AZ.skip ?_
      refine AZ.seq ?_
      refine AZ.block ?_   -- block 1
      refine AZ.seq ?_
      refine AZ.reg (fun B1 F1 w1 => ?_)   -- "groups.go:51"
      refine AOps.run tok 1 _ _ _ _ rfl ?_
      refine AOps.idx tok x.D rfl rfl rfl rfl (Int.natCast_nonneg i) hid ?_
      refine AOps.run tok 4 _ _ _ _ rfl ?_
      refine AOps.nil ⟨rfl, ?_⟩
      refine AZ.seq ?_
      refine AZ.seq ?_
      refine AZ.drw hmix 8 (by kernel_rfl) (fun B1 F1 w1 => ?_)   -- "groups.go:52"
      refine APre.run tok 1 _ _ _ _ rfl ?_
      refine APre.nchk tok rfl rfl rfl rfl rfl ?_
      refine APre.run tok 4 _ _ _ _ rfl ?_
      refine APre.idx tok (dB (kn.getD x.body.toNat false)) rfl rfl rfl rfl rfl hdi.1 (getBs (by omega)) ?_
      refine APre.run tok 1 _ _ _ _ rfl ?_
      refine APre.nil ?_
      refine AOps.nil ⟨rfl, ?_⟩
      refine AZ.cond rfl (fun h => ?_) (fun h => ?_)
      · rw [if_pos h] at hS
        rw [hmiss hS] at hE
        refine AZ.exit ?_
        refine AZ.reg (fun B1 F1 w1 => ?_)
        refine AOps.run tok 1 _ _ _ _ rfl ?_
        rw [wI64 (x := (i : Int) + 1) (by omega) (by omega)]
        refine AOps.run tok 1 _ _ _ _ rfl ?_
        refine AOps.nil ⟨rfl, ?_⟩
        exact ⟨i + 1, rfl, ⟨hin, hE⟩, by omega⟩
        -- exit 1
      · rw [if_neg (by rw [h]; simp)] at hS
        refine AZ.skip ?_
        refine AZ.seq ?_
        refine AZ.reg (fun B1 F1 w1 => ?_)   -- "groups.go:55"
        refine AOps.run tok 3 _ _ _ _ rfl ?_
        refine AOps.call tok rfl rfl rfl rfl (fin_anchored_ok l (by unfold big; omega) kn dr us g 0 x.body (fun i hi => by rw [hk]; exact othF_lt hj hb1 hi)) ?_
        refine AOps.run tok 1 _ _ _ _ rfl ?_
        refine AOps.nil ⟨rfl, ?_⟩
        refine AZ.seq ?_
        refine AZ.reg (fun B1 F1 w1 => ?_)   -- "groups.go:55"
        refine AOps.run tok 2 _ _ _ _ rfl ?_
        refine AOps.nil ⟨rfl, ?_⟩
        refine AZ.cond rfl (fun h => ?_) (fun h => ?_)
        · rw [if_pos (show 0 ≤ ancF l kn 0 x.body from of_decide_eq_true h)] at hS
          have hE := hE.symm.trans (hhit _ hS)
          subst hE
          refine AZ.seq ?_
          refine AZ.region ?_
          refine AZOps.cut 5 rfl (fun B1 F1 w1 => ?_)
          refine AOps.run tok 2 _ _ _ _ rfl ?_
          refine AOps.bs tok rfl rfl rfl rfl ?_
          refine AOps.run tok 1 _ _ _ _ rfl ?_
          refine AOps.bs tok rfl rfl rfl rfl ?_
          refine AOps.nil ⟨rfl, ?_⟩
          refine AZOps.loosen 34 rfl rfl rfl (fun Vb => ?_)
          refine AZOps.loosen 36 rfl rfl rfl (fun Vj => ?_)
          refine AZOps.cut 4 rfl (fun B1 F1 w1 => ?_)
          refine AOps.run tok 4 _ _ _ _ rfl ?_
          refine AOps.nil ⟨rfl, ?_⟩
          refine AZOps.nil ?_
          exact AZ.ret ⟨_, rfl, Vb, Vj, rfl, rfl⟩
        · rw [if_neg (show ¬ 0 ≤ ancF l kn 0 x.body from of_decide_eq_false h)] at hS
          rw [hmiss hS] at hE
          refine AZ.skip ?_
          refine AZ.reg (fun B1 F1 w1 => ?_)   -- "groups.go:51"
          refine AOps.run tok 1 _ _ _ _ rfl ?_
          rw [wI64 (x := (i : Int) + 1) (by omega) (by omega)]
          refine AOps.run tok 1 _ _ _ _ rfl ?_
          refine AOps.nil ⟨rfl, ?_⟩
          exact ⟨i + 1, rfl, ⟨hin, hE⟩, by omega⟩
    have hin : ¬ i < l.drivers.length := by have := of_decide_eq_false h; omega
    rw [fstO_end hin] at hE
    subst hE
    refine AZ.exit ?_
      -- exit 0
    -- END OF BODY; what follows the loop (from its exit):
    refine AZ.seq ?_
    refine AZ.reg (fun B1 F1 w1 => ?_)   -- "groups.go:59"
    refine AOps.bldn tok [dI 0, .v nilS, .v nilS, dI 0] rfl rfl rfl rfl (by kernel_rfl) ?_
    refine AOps.run tok 2 _ _ _ _ rfl ?_
    refine AOps.nil ⟨rfl, ?_⟩
    exact AZ.ret ⟨_, rfl, rfl, rfl⟩
theorem fIx_lt {g : Nat → Bool} : ∀ {m i : Nat}, 0 ≤ fIx g m i → i ≤ (fIx g m i).toNat ∧ (fIx g m i).toNat < i + m ∧ g (fIx g m i).toNat = true
  | 0, i, h => by simp [fIx] at h
  | m + 1, i, h => by
    unfold fIx at h ⊢
    split
    · rename_i h1
      exact ⟨by simp, by simp, by simpa using h1⟩
    · rename_i h1
      rw [if_neg h1] at h
      obtain ⟨a, b, c⟩ := fIx_lt h
      exact ⟨by omega, by omega, c⟩
theorem jtF_lt {kind b : Int} {q : Nat → Bool} {js : List Joint} (h : 0 ≤ jtF kind b q js) : (jtF kind b q js).toNat < js.length := by
  have := (fIx_lt (show 0 ≤ fIx (fun i => gjP kind b q (js.getD i default)) js.length 0 from h)).2.1
  rw [Nat.zero_add] at this
  exact this
theorem notT {b : Bool} (h : (!b) = true) : b = false := by cases b <;> simp_all
def freF (kn dr : List Bool) (i : Nat) : Bool := !(kn.getD i false) && !(dr.getD i false)
def sngS (l : Lkg) (kn dr : List Bool) (i : Nat) : Option Grp :=
  if freF kn dr i = false then none
  else if ancF l kn 0 i < 0 ∨ ancF l kn 1 i < 0 then none
  else some ⟨if (l.joints.getD (ancF l kn 1 i).toNat default).a = i then 2 else 3, [(i : Int)], [ancF l kn 0 i, ancF l kn 1 i], 0⟩
def sngG (l : Lkg) (kn dr : List Bool) : Option Grp := fstO (sngS l kn dr) l.bodies.length 0
set_option maxHeartbeats 3200000 in
theorem fin_single_ok (l : Lkg) (hl : LkIn l) (kn dr us : List Bool) (g : D) (hk : kn.length = l.bodies.length) (hr : dr.length = l.bodies.length) : CallZ Try.prog 45 [.pr (FinC l kn dr us g)] [] (grpPost (sngG l kn dr)) := by
  refine CallZ.intro (n := 53) tok Try.func45 rfl rfl rfl (Nat.le_of_ble_eq_true rfl) (by kernel_rfl) (fun B F0 w0 => ?_)
  obtain ⟨hb1, hb2, hj1, hd1, hj, hd⟩ := hl
  generalize hE : sngG l kn dr = E
  unfold sngG at hE
  refine AZ.seq ?_
  refine AZ.reg (fun B1 F1 w1 => ?_)   -- "groups.go:88"
  refine AOps.run tok 2 _ _ _ _ rfl ?_
  refine AOps.nil ⟨rfl, ?_⟩
  refine AZ.seq ?_
  refine AZ.seq ?_
  refine AZ.reg (fun B1 F1 w1 => ?_)   -- "groups.go:89"
  refine AOps.run tok 1 _ _ _ _ rfl ?_
  refine AOps.nchk tok rfl rfl rfl rfl rfl ?_
  refine AOps.run tok 4 _ _ _ _ rfl ?_
  rw [List.length_map]
  refine AOps.run tok 1 _ _ _ _ rfl ?_
  refine AOps.nil ⟨rfl, ?_⟩
  refine AZ.block ?_   -- block 0
  refine AZ.loopS [0, 2, 13, 14] (fun i : Nat => ([], [(0, .d (.pr (FinC l kn dr us g))), (2, .bx [dI 0, .sl 1 [], .sl 1 [], dI 0]), (13, .d (dI l.bodies.length)), (14, .d (dI i))])) (fun i => i ≤ l.bodies.length ∧ fstO (sngS l kn dr) (l.bodies.length - i) i = E) (fun i => l.bodies.length - i) 0 rfl ⟨Nat.zero_le _, hE⟩ (fun i hi => ?_)
  obtain ⟨hi, hE⟩ := hi
  show AZ _ _ _ _ _ _ _ [] [(0, .d (.pr (FinC l kn dr us g))), (2, .bx [dI 0, .sl 1 [], .sl 1 [], dI 0]), (13, .d (dI l.bodies.length)), (14, .d (dI i))]
  · skip
    refine AZ.seq ?_
    refine AZ.reg (fun B1 F1 w1 => ?_)   -- "groups.go:89"
    refine AOps.run tok 1 _ _ _ _ rfl ?_
    refine AOps.nil ⟨rfl, ?_⟩
    refine AZ.seq ?_
    refine AZ.cond rfl (fun h => ?_) (fun h => ?_)
    · have hin : i < l.bodies.length := by have := of_decide_eq_true h; omega
      have hhit := fun a => fstO_hit (g := sngS l kn dr) (a := a) hin
      have hmiss := fstO_miss (g := sngS l kn dr) hin
      have hS : sngS l kn dr i = if freF kn dr i = false then none else if ancF l kn 0 i < 0 ∨ ancF l kn 1 i < 0 then none else some ⟨if (l.joints.getD (ancF l kn 1 i).toNat default).a = i then 2 else 3, [(i : Int)], [ancF l kn 0 i, ancF l kn 1 i], 0⟩ := rfl
      refine AZ.skip ?_
      refine AZ.seq ?_
      refine AZ.block ?_   -- block 1
      refine AZ.seq ?_
      refine AZ.reg (fun B1 F1 w1 => ?_)   -- "groups.go:89"
      refine AOps.run tok 2 _ _ _ _ rfl ?_
      refine AOps.nil ⟨rfl, ?_⟩
      refine AZ.seq ?_
      refine AZ.seq ?_
      refine AZ.reg (fun B1 F1 w1 => ?_)   -- "groups.go:90"
      refine AOps.run tok 2 _ _ _ _ rfl ?_
      refine AOps.call tok rfl rfl rfl rfl (fin_free_ok l kn dr us g i (Int.natCast_nonneg i) (by rw [Int.toNat_natCast]; omega) (by rw [Int.toNat_natCast]; omega)) ?_
      refine AOps.run tok 1 _ _ _ _ rfl ?_
      refine AOps.nil ⟨rfl, ?_⟩
      refine AZ.cond rfl (fun h => ?_) (fun h => ?_)
      · rw [if_pos (show freF kn dr i = false from notT h)] at hS
        rw [hmiss hS] at hE
        refine AZ.exit ?_
        refine AZ.reg (fun B1 F1 w1 => ?_)
        refine AOps.run tok 1 _ _ _ _ rfl ?_
        rw [wI64 (x := (i : Int) + 1) (by omega) (by omega)]
        refine AOps.run tok 1 _ _ _ _ rfl ?_
        refine AOps.nil ⟨rfl, ?_⟩
        exact ⟨i + 1, rfl, ⟨hin, hE⟩, by omega⟩
        -- exit 1
      · rw [if_neg (show ¬ freF kn dr i = false by simpa [freF] using h)] at hS
        refine AZ.skip ?_
        refine AZ.seq ?_
        refine AZ.reg (fun B1 F1 w1 => ?_)   -- "groups.go:93"
        refine AOps.run tok 2 _ _ _ _ rfl ?_
        refine AOps.call tok rfl rfl rfl rfl (fin_anchored_ok l (by unfold big; omega) kn dr us g 0 i (fun i hi => by rw [hk]; exact othF_lt hj hb1 hi)) ?_
        refine AOps.run tok 2 _ _ _ _ rfl ?_
        refine AOps.call tok rfl rfl rfl rfl (fin_anchored_ok l (by unfold big; omega) kn dr us g 1 i (fun i hi => by rw [hk]; exact othF_lt hj hb1 hi)) ?_
        refine AOps.run tok 2 _ _ _ _ rfl ?_
        refine AOps.nil ⟨rfl, ?_⟩
        refine AZ.seq ?_
        refine AZ.seq ?_
        refine AZ.reg (fun B1 F1 w1 => ?_)   -- "groups.go:94"   -- GUARDS
        refine AOps.run tok 3 _ _ _ _ rfl ?_
        refine AOps.split (t := 29) rfl (fun h => ?_) (fun h => ?_)
        · rw [if_pos (.inl (show ancF l kn 0 i < 0 from of_decide_eq_true h))] at hS
          rw [hmiss hS] at hE
          refine AOps.run tok 3 _ _ _ _ rfl ?_
          refine AOps.nil ⟨rfl, ?_⟩
          refine AZ.condT rfl ?_
          refine AZ.exit ?_
          refine AZ.reg (fun B1 F1 w1 => ?_)
          refine AOps.run tok 1 _ _ _ _ rfl ?_
          rw [wI64 (x := (i : Int) + 1) (by omega) (by omega)]
          refine AOps.run tok 1 _ _ _ _ rfl ?_
          refine AOps.nil ⟨rfl, ?_⟩
          exact ⟨i + 1, rfl, ⟨hin, hE⟩, by omega⟩
        have a1 : ¬ ancF l kn 0 i < 0 := of_decide_eq_false h
        refine AOps.run tok 3 _ _ _ _ rfl ?_
        refine AOps.nil ⟨rfl, ?_⟩
        refine AZ.cond rfl (fun h => ?_) (fun h => ?_)
        · rw [if_pos (.inr (show ancF l kn 1 i < 0 from of_decide_eq_true h))] at hS
          rw [hmiss hS] at hE
          refine AZ.exit ?_
          refine AZ.reg (fun B1 F1 w1 => ?_)
          refine AOps.run tok 1 _ _ _ _ rfl ?_
          rw [wI64 (x := (i : Int) + 1) (by omega) (by omega)]
          refine AOps.run tok 1 _ _ _ _ rfl ?_
          refine AOps.nil ⟨rfl, ?_⟩
          exact ⟨i + 1, rfl, ⟨hin, hE⟩, by omega⟩
        · have a2 : ¬ ancF l kn 1 i < 0 := of_decide_eq_false h
          rw [if_neg (fun h => by rcases h with h | h; exact a1 h; exact a2 h)] at hS
          have hs1 := jtF_lt (show 0 ≤ jtF 1 i (fun o => kn.getD o false) l.joints by have a3 := (by omega : 0 ≤ ancF l kn 1 i); exact a3)
          have hid := getJ hs1
          have hE := hE.symm.trans (hhit _ hS)
          subst hE
          refine AZ.skip ?_
          refine AZ.seq ?_
          refine AZ.reg (fun B1 F1 w1 => ?_)   -- "groups.go:97"
          refine AOps.run tok 1 _ _ _ _ rfl ?_
          refine AOps.nil ⟨rfl, ?_⟩
          refine AZ.seq ?_
          refine AZ.seq ?_
          refine AZ.reg (fun B1 F1 w1 => ?_)   -- "groups.go:98"
          refine AOps.run tok 1 _ _ _ _ rfl ?_
          refine AOps.nchk tok rfl rfl rfl rfl rfl ?_
          refine AOps.run tok 4 _ _ _ _ rfl ?_
          refine AOps.idx tok (l.joints.getD (jtF 1 i (fun o => kn.getD o false) l.joints).toNat default).D rfl rfl rfl rfl (by have a3 := (by omega : 0 ≤ ancF l kn 1 i); exact a3) hid ?_
          refine AOps.run tok 4 _ _ _ _ rfl ?_
          refine AOps.nil ⟨rfl, ?_⟩
          refine AZ.cond rfl (fun h => ?_) (fun h => ?_)
          · rw [if_pos (show (l.joints.getD (ancF l kn 1 i).toNat default).a = i from of_decide_eq_true h)]
            refine AZ.reg (fun B1 F1 w1 => ?_)   -- "groups.go:99"
            refine AOps.run tok 1 _ _ _ _ rfl ?_
            refine AOps.nil ⟨rfl, ?_⟩
            refine AZ.seq ?_
            refine AZ.region ?_
            refine AZOps.cut 6 rfl (fun B1 F1 w1 => ?_)
            refine AOps.run tok 2 _ _ _ _ rfl ?_
            refine AOps.bs tok rfl rfl rfl rfl ?_
            refine AOps.run tok 2 _ _ _ _ rfl ?_
            refine AOps.bs tok rfl rfl rfl rfl ?_
            refine AOps.nil ⟨rfl, ?_⟩
            refine AZOps.loosen 46 rfl rfl rfl (fun Vb => ?_)
            refine AZOps.loosen 49 rfl rfl rfl (fun Vj => ?_)
            refine AZOps.cut 3 rfl (fun B1 F1 w1 => ?_)
            refine AOps.run tok 3 _ _ _ _ rfl ?_
            refine AOps.nil ⟨rfl, ?_⟩
            refine AZOps.nil ?_
            exact AZ.ret ⟨_, rfl, Vb, Vj, rfl, rfl⟩
          · rw [if_neg (show ¬ (l.joints.getD (ancF l kn 1 i).toNat default).a = i from of_decide_eq_false h)]
            refine AZ.skip ?_
            refine AZ.seq ?_
            refine AZ.region ?_
            refine AZOps.cut 6 rfl (fun B1 F1 w1 => ?_)
            refine AOps.run tok 2 _ _ _ _ rfl ?_
            refine AOps.bs tok rfl rfl rfl rfl ?_
            refine AOps.run tok 2 _ _ _ _ rfl ?_
            refine AOps.bs tok rfl rfl rfl rfl ?_
            refine AOps.nil ⟨rfl, ?_⟩
            refine AZOps.loosen 46 rfl rfl rfl (fun Vb => ?_)
            refine AZOps.loosen 49 rfl rfl rfl (fun Vj => ?_)
            refine AZOps.cut 3 rfl (fun B1 F1 w1 => ?_)
            refine AOps.run tok 3 _ _ _ _ rfl ?_
            refine AOps.nil ⟨rfl, ?_⟩
            refine AZOps.nil ?_
            exact AZ.ret ⟨_, rfl, Vb, Vj, rfl, rfl⟩
    have hin : ¬ i < l.bodies.length := by have := of_decide_eq_false h; omega
    rw [fstO_end hin] at hE
    subst hE
    refine AZ.exit ?_
      -- exit 0
    -- END OF BODY; what follows the loop (from its exit):
    refine AZ.seq ?_
    refine AZ.reg (fun B1 F1 w1 => ?_)   -- "groups.go:103"
    refine AOps.bldn tok [dI 0, .v nilS, .v nilS, dI 0] rfl rfl rfl rfl (by kernel_rfl) ?_
    refine AOps.run tok 2 _ _ _ _ rfl ?_
    refine AOps.nil ⟨rfl, ?_⟩
    exact AZ.ret ⟨_, rfl, rfl, rfl⟩
end Lift
/- An iterator that reads data and calls yield. -/
namespace Lift
open Go
open Go.RowKit (Below)

def FF (ro : Option Nat) : Fence := { Fence.wide with round := ro }
theorem op_inF {P : Program} {ro : Option Nat} {m : Nat} {o : Oper} {a : Act} {w : World} {K : Act → World → Prop} {Q Q' : Exit → Act → World → Prop} (hnd : noDefer o = true) (hp : ∀ c a w, Q' (.panic c) a w → Q (.panic c) a w) (ho : LetsOut Q' → LetsOut Q) (h : o.wp P a w K Q') : o.wpIn (FF ro) m P a w K Q := by
  refine ⟨fun _ _ => trivial, ?_⟩
  rw [Oper.semAt_eq _ _ _ (noDefer_ok hnd)]
  unfold Oper.wp at h
  generalize (execOp a.eval o).run P w = r at h
  have hd : (FF ro).depth.isSome = true → 1 ≤ m := fun h => by simp [FF, Fence.wide] at h
  cases r with
  | ok x w' =>
    cases x <;> simp only [Oper.upon] at h <;> try (exact h)
    · rename_i f args
      have h1 : CallsIn Fence.wide (m - 1) P f args w' _ := (callsIn_wide.2 h).mono (fun e w'' he => he)
      refine ⟨hd, ?_⟩
      have h2 : CallsIn (FF ro) (m - 1) P f args w' _ := h1
      exact h2.mono (fun e w'' he => by cases e <;> first | exact he | exact hp _ _ _ he | exact ho he)
    · refine ⟨hd, fun c cs _ => ?_⟩
      obtain ⟨v, w'', r, s⟩ := h c cs
      exact ⟨v, w'', r, stepsIn_wide.2 s⟩
  | halt x w' => cases x <;> simp only [Oper.upon] at h <;> exact hp _ _ _ h
theorem listIn_app {P : Program} {ro : Option Nat} {m : Nat} {ops : Array Oper} {Q Q' : Exit → Act → World → Prop} {l2 : List Oper} (hk : ∀ a w, Q' .normal a w → wpListIn (FF ro) m P ops Q l2 a w) (hp : ∀ c a w, ¬ Q' (.panic c) a w) (ho : ¬ LetsOut Q') :
    ∀ (l1 : List Oper) (a : Act) (w : World), l1.all noDefer = true → wpList P ops Q' l1 a w → wpListIn (FF ro) m P ops Q (l1 ++ l2) a w
  | [], a, w, _, h => hk a w h
  | o :: l1, a, w, hnd, h => by
    simp only [List.all_cons, Bool.and_eq_true] at hnd
    unfold wpList at h
    rw [List.cons_append]
    unfold wpListIn
    split at h
    · rw [if_pos (by assumption)]
      rcases h with h | ⟨_, h⟩
      · exact Oper.wpIn_mono (fun a w h => listIn_app hk hp ho l1 a w hnd.2 h) (op_inF hnd.1 (fun c a w h => absurd h (hp c a w)) (fun h => absurd h ho) h)
      · exact absurd h ho
    · rw [if_neg (by assumption)]
      exact ⟨fun _ _ => trivial, listIn_app hk hp ho l1 _ _ hnd.2 h⟩
theorem wpIn_loopG {S : Type} {F : Fence} {m : Nat} {P : Program} {c : Code} {Q : Exit → Act → World → Prop} {a : Act} {w : World} (G : Act → World → S → Prop) (μ : S → Nat) (s0 : S) (h0 : G a w s0)
    (hb : ∀ a w s, G a w s → c.wpIn F m P (Exit.then (fun a' w' => ∃ s', G a' w' s' ∧ μ s' < μ s) Q) a w) : (Code.loop c).wpIn F m P Q a w := by
  have hex : ∀ a w, (∃ s, G a w s) → ∃ m, (∃ s, μ s = m ∧ G a w s) ∧ ∀ s, G a w s → m ≤ μ s := fun a w ⟨s, h1⟩ => by
    let q : Nat → Prop := fun m => ∃ s, μ s = m ∧ G a w s
    have key : ∀ k m, m ≤ k → q m → ∃ m0, q m0 ∧ ∀ m', q m' → m0 ≤ m' := by
      intro k
      induction k with
      | zero => intro m hm hp; exact ⟨m, hp, fun m' _ => by omega⟩
      | succ k ih =>
        intro m hm hp
        by_cases hlt : ∃ m', m' ≤ k ∧ q m'
        · obtain ⟨m', h1, h2⟩ := hlt; exact ih m' h1 h2
        · exact ⟨m, hp, fun m' hp' => by
            rcases Nat.lt_or_ge k m' with h | h
            · omega
            · exact absurd ⟨m', h, hp'⟩ hlt⟩
    obtain ⟨m0, h3, h4⟩ := key (μ s) (μ s) (Nat.le_refl _) ⟨s, rfl, h1⟩
    exact ⟨m0, h3, fun s' g => h4 _ ⟨s', rfl, g⟩⟩
  let M : Act → World → Nat := fun a w => open Classical in if h : ∃ s, G a w s then Classical.choose (hex a w h) else 0
  have hM : ∀ a w, (∃ s, G a w s) → (∃ s, μ s = M a w ∧ G a w s) ∧ ∀ s, G a w s → M a w ≤ μ s := fun a w h => by
    have := Classical.choose_spec (hex a w h)
    simp only [M, dif_pos h]
    exact this
  refine wpIn_loop (fun a w => ∃ s, G a w s) M ⟨s0, h0⟩ (fun a w hg => ?_)
  obtain ⟨⟨s1, hm, hG⟩, _⟩ := hM a w hg
  refine wpIn_mono (hb a w s1 hG) fun e a' w' hq => ?_
  cases e with
  | normal =>
    obtain ⟨s', h1, h2⟩ := hq
    refine ⟨⟨s', h1⟩, ?_⟩
    have := (hM a' w' ⟨s', h1⟩).2 s' h1
    omega
  | _ => exact hq

/-- The frame of an iterator: slot 1 holds data in the blocks G (as long as x says which), the slots ys hold yield, others plain values. -/
structure IS (P : Program) (G : Nat → Prop) (l n : Nat) (x : Option D) (ys : List Nat) (σ : St) (a : Act) (W : World) : Prop where
  defers : a.defers = []
  size : a.tmps.size = n
  y : ∀ t, t ∈ ys → a.tmps[t]? = some (.func (.yield l) #[] #[])
  c : ∀ xd, x = some xd → ∃ v, a.tmps[1]? = some v ∧ Rd W G xd v
  lt : ∀ b, x ≠ none → G b → b < W.heap.size
  sl : ∀ t av, σ.get t = some av → ∃ z, av = .d (.v z) ∧ plainV z = true ∧ a.tmps[t]? = some z
def st1 (x : Option D) (σ : St) : St := match x with
  | some xd => (1, .d xd) :: σ
  | none => σ
def plS : St → Bool
  | [] => true
  | (_, .d (.v _)) :: r => plS r
  | _ => false
theorem plS_get : ∀ {σ : St}, plS σ = true → ∀ t av, σ.get t = some av → ∃ z, av = .d (.v z)
  | [], _, t, av, h => by cases h
  | (k, b) :: r, hp, t, av, h => by
    rw [St.get_cons] at h
    unfold plS at hp
    split at hp <;> try (cases hp; done)
    · rename_i he; cases he
    · rename_i k' z r' he
      cases he
      split at h
      · cases h; exact ⟨_, rfl⟩
      · exact plS_get hp t av h
section
variable {P : Program} {T : Ty} {G : Nat → Prop} {l n : Nat} {x : Option D} {ys : List Nat} {σ τ : St} {a a' : Act} {W W' : World}
theorem IS.rel (h : IS P G l n x ys σ a W) : Rel P W.heap.size (fun b => x ≠ none ∧ G b) ⟨W, fun _ => False⟩ n (st1 x σ) a W := by
  refine ⟨.refl _ _ _, Nat.le_refl _, ⟨fun b hb => h.lt b hb.1 hb.2, fun _ h => h.elim⟩, h.defers, h.size, fun _ => none, (fun b t h => by cases h), fun t av hav => ?_⟩
  have hsl : σ.get t = some av → ∃ v, a.tmps[t]? = some v ∧ AVR P (fun _ => False) W (fun _ => none) (FW W.heap.size (fun b => x ≠ none ∧ G b) W) (St.get (st1 x σ)) (fun h => a.tmps[h]?) t av v := fun hav => by
    obtain ⟨z, rfl, hp, hz⟩ := h.sl t av hav
    exact ⟨z, hz, .v hp⟩
  cases hx : x with
  | none => rw [hx] at hav hsl; exact hsl hav
  | some xd =>
    rw [hx] at hsl
    rw [hx, st1, St.get_cons] at hav
    split at hav
    · rename_i e
      subst e
      cases hav
      obtain ⟨v, hv, hr⟩ := h.c xd hx
      exact ⟨v, hv, Rd.mono hr (fun b hb => ⟨rfl, .inl ⟨by simp, hb⟩⟩) (fun _ _ => rfl)⟩
    · exact hsl hav
theorem IS.step {v : Value} {ys' : List Nat} {ks : List Nat} {σ' : St} (h : IS P G l n x ys σ a W) (hR : Rel P W.heap.size (fun b => x ≠ none ∧ G b) ⟨W, fun _ => False⟩ n σ' a' W') (hv : x ≠ none → a'.tmps[1]? = a.tmps[1]?) (hy : ∀ t, t ∈ ys' → a'.tmps[t]? = some (.func (.yield l) #[] #[])) (hk : σ'.keep ks = τ) (hp : plS τ = true) :
    IS P G l n x ys' τ a' W' ∧ Below W.heap.size W W' := by
  have hb : Below W.heap.size W W' := ⟨hR.below.os, hR.below.tape, hR.below.output, hR.below.size, fun k hk => hR.below.block k hk (fun h => h)⟩
  refine ⟨⟨hR.defers, hR.size, hy, fun xd hx => ?_, fun b hx hG => Nat.lt_of_lt_of_le (h.lt b hx hG) hb.size, fun t av hav => ?_⟩, hb⟩
  · obtain ⟨u, hu, hr⟩ := h.c xd hx
    exact ⟨u, by rw [hv (by rw [hx]; simp)]; exact hu, hr.mono (fun _ h => h) (fun b hG => hb.block b (h.lt b (by rw [hx]; simp) hG))⟩
  · obtain ⟨z, rfl⟩ := plS_get hp t av hav
    have hR' := hR.keep ks
    rw [hk] at hR'
    obtain ⟨O, _, hO⟩ := hR'.own
    obtain ⟨u, hu, hr⟩ := hO t _ hav
    obtain ⟨e, hpl⟩ := Rd.v_eq hr
    subst e
    exact ⟨_, rfl, hpl, hu⟩

theorem wpList_keeps {ops : Array Oper} {Q : Exit → Act → World → Prop} {os : List Oper} {a : Act} {W : World} : ∀ (ts : List Nat), (∀ t, t ∈ ts → ∀ o, o ∈ os → o.dst ≠ some t) → wpList P ops Q os a W → wpList P ops (fun e a' w' => Q e a' w' ∧ (e = .normal → ∀ t, t ∈ ts → a'.tmps[t]? = a.tmps[t]?)) os a W
  | [], _, h => wpList_mono (fun e a w h => ⟨h, fun _ t ht => by cases ht⟩) h
  | t :: ts, hd, h => by
    have h1 := wpList_keeps ts (fun t' ht => hd t' (by simp [ht])) h
    refine wpList_mono (fun e a' w' h2 => ?_) (wpList_keep (t := t) (x := a.tmps[t]?) os a W (hd t (by simp)) rfl h1)
    obtain ⟨⟨g1, g2⟩, g3⟩ := h2
    refine ⟨g1, fun he t' ht => ?_⟩
    rcases List.mem_cons.1 ht with rfl | ht
    · exact g3 he
    · exact g2 he t' ht
variable {β : Type} {JJ : β → World → Prop} {ops : Array Oper} {os rest : List Oper} {o : Oper} {Q : Exit → β → Option D → St → Prop} {s s1 s2 : β} {c c2 : Code} {d : Nat}
def iPost (P : Program) (G : Nat → Prop) (l n : Nat) (JJ : β → World → Prop) (Q : Exit → β → Option D → St → Prop) : Exit → Act → World → Prop := fun e a W => ∃ s x σ, Q e s x σ ∧ IS P G l n x [0] σ a W ∧ JJ s W
def AIL (P : Program) (G : Nat → Prop) (l n : Nat) (JJ : β → World → Prop) (ops : Array Oper) (os : List Oper) (ys : List Nat) (Q : Exit → β → Option D → St → Prop) (s : β) (x : Option D) (σ : St) : Prop :=
  ∀ (m : Nat) (a : Act) (W : World), IS P G l n x ys σ a W → JJ s W → wpListIn (FF none) m P ops (iPost P G l n JJ Q) os a W
def AI (P : Program) (G : Nat → Prop) (l n : Nat) (JJ : β → World → Prop) (c : Code) (Q : Exit → β → Option D → St → Prop) (s : β) (x : Option D) (σ : St) : Prop :=
  ∀ (m : Nat) (a : Act) (W : World), IS P G l n x [0] σ a W → JJ s W → c.wpIn (FF none) m P (iPost P G l n JJ Q) a W
/-- What is said of the world holds on where blocks are made. -/
def Abid (JJ : β → World → Prop) : Prop := ∀ s W W', JJ s W → Below W.heap.size W W' → JJ s W'
def pinsU (ys : List Nat) : Pins := (1 :: ys).map (fun t => (t, undef))
theorem AIL.nil (h0 : 0 ∈ ys) (h : Q .normal s x σ) : AIL P G l n JJ ops [] ys Q s x σ := fun m a W hI hJ => ⟨s, x, σ, h, ⟨hI.defers, hI.size, fun t ht => by simp at ht; subst ht; exact hI.y 0 h0, hI.c, hI.lt, hI.sl⟩, hJ⟩
theorem AIL.cut (hJ : Abid JJ) (k : Nat) (hnd : (os.take k).all noDefer = true) (hpn : pinsB (pinsU ys) (os.take k) = true)
    (h : ∀ B F0 w0, AOps P B F0 w0 n ops (os.take k) (fun σ' => ∃ ks τ, σ'.keep ks = τ ∧ plS τ = true ∧ AIL P G l n JJ ops (os.drop k) ys Q s x τ) (st1 x σ)) : AIL P G l n JJ ops os ys Q s x σ := by
  intro m a W hI hJs
  have h1 : wpList P ops (fun e a' w' => e = .normal ∧ ∃ σ', (∃ ks τ, σ'.keep ks = τ ∧ plS τ = true ∧ AIL P G l n JJ ops (os.drop k) ys Q s x τ) ∧ Rel P W.heap.size (fun b => x ≠ none ∧ G b) ⟨W, fun _ => False⟩ n σ' a' w') (os.take k) a W :=
    h _ _ _ a W hI.rel _ (fun a' w' σ' hk hR' => ⟨rfl, σ', hk, hR'⟩)
  have h2 := wpList_keeps (1 :: ys) (fun t ht => pinsB_ok hpn (t, undef) (List.mem_map.2 ⟨t, ht, rfl⟩)) h1
  rw [← List.take_append_drop k os]
  refine listIn_app (ro := none) (fun a' w' h => ?_) (fun c a w h => by cases h.1.1) (fun ⟨a, w, h⟩ => by cases h.1.1) _ a W hnd h2
  obtain ⟨⟨_, σ', ⟨ks, τ, hk, hp, hA⟩, hR'⟩, hkeep⟩ := h
  obtain ⟨hI', hb⟩ := hI.step (ys' := ys) (v := undef) hR' (fun _ => hkeep rfl 1 (by simp)) (fun t ht => (hkeep rfl t (by simp [ht])).trans (hI.y t ht)) hk hp
  exact hA m a' w' hI' (hJ s W w' hJs hb)
theorem IS.wanted (hI : IS P G l n x ys σ a W) (hg : guardOk ops (st1 x σ) o = true) : Region.wanted o (yielded ops a.tmps) = true := by
  unfold guardOk at hg
  split at hg
  · rename_i hgd; simp [Region.wanted, hgd]
  · rename_i g b hgd
    split at hg
    · rename_i b' hb'
      obtain ⟨og, t, h1, h2, h3⟩ := guardVal_ok hb'
      have : b' = b := by simpa using hg
      subst this
      simp [Region.wanted, hgd, yielded_of hI.rel h1 h2 h3]
    · cases hg
theorem IS.put {W' : World} {x' : Option D} {z : Value} (hI : IS P G l n x ys σ a W) (hd : d < n) (h1 : d ≠ 1) (hy : d ∉ ys) (hz : plainV z = true) (hc : ∀ xd, x' = some xd → x = some xd ∧ (∀ b, G b → W'.heap[b]? = W.heap[b]?)) (hs : W.heap.size ≤ W'.heap.size) : IS P G l n x' ys ((d, .d (.v z)) :: σ) (a.put (some d) z) W' := by
  refine ⟨by simp [Act.put, hI.defers], by simp [Act.put, hI.size], fun t ht => ?_, fun xd hx => ?_, fun b hx hG => ?_, fun t av hav => ?_⟩
  · rw [put_get (show t ≠ d from fun e => hy (e ▸ ht))]; exact hI.y t ht
  · obtain ⟨e, hb⟩ := hc xd hx
    obtain ⟨v, hv, hr⟩ := hI.c xd e
    exact ⟨v, by rw [put_get (Ne.symm h1)]; exact hv, hr.mono (fun _ h => h) (fun b hG => hb b hG)⟩
  · cases hx' : x' with
    | none => exact absurd hx' hx
    | some xd =>
      obtain ⟨e, _⟩ := hc xd hx'
      exact Nat.lt_of_lt_of_le (hI.lt b (by rw [e]; simp) hG) hs
  · rw [St.get_cons] at hav
    split at hav
    · rename_i e
      subst e
      cases hav
      exact ⟨z, rfl, hz, put_get_same (by rw [hI.size]; exact hd)⟩
    · rename_i hne
      obtain ⟨z', h2, h3, h4⟩ := hI.sl t av hav
      exact ⟨z', h2, h3, by rw [put_get (Ne.symm hne)]; exact h4⟩
theorem AIL.mvY (hd : o.dst = some d) (hop : o.op = .move (.tmp 0)) (h0 : 0 ∈ ys) (hg : guardOk ops (st1 x σ) o = true) (hdn : Nat.ble (d + 1) n = true) (h1 : Nat.beq d 1 = false) (hσ : σ.get d = none)
    (h : AIL P G l n JJ ops rest (d :: ys) Q s x σ) : AIL P G l n JJ ops (o :: rest) ys Q s x σ := by
  intro m a W hI hJs
  have hw := hI.wanted hg
  obtain ⟨dst, op, ty, pos, after, guard⟩ := o
  simp only [] at hd hop
  subst hop
  unfold wpListIn
  rw [if_pos hw]
  refine ⟨fun _ _ => trivial, ?_⟩
  rw [Oper.semAt_eq _ _ _ (fun c e => by cases e)]
  have hrun : (execOp a.eval { dst := dst, op := .move (.tmp 0), type := ty, pos := pos, after := after, guard := guard }).run P W = .ok (.value (a.eval (.tmp 0))) W := rfl
  rw [hrun, eval_tmp (hI.y 0 h0)]
  show wpListIn (FF none) m P ops _ rest (a.put dst _) W
  rw [hd]
  have h1 := Nat.ne_of_beq_eq_false h1
  refine h m _ W ⟨by simp [Act.put, hI.defers], by simp [Act.put, hI.size], fun t ht => ?_, fun xd hx => ?_, hI.lt, fun t av hav => ?_⟩ hJs
  · by_cases e : t = d
    · subst e; exact put_get_same (by rw [hI.size]; exact Nat.le_of_ble_eq_true hdn)
    · rw [put_get e]
      rcases List.mem_cons.1 ht with ht | ht
      · exact absurd ht e
      · exact hI.y t ht
  · obtain ⟨v, hv, hr⟩ := hI.c xd hx
    exact ⟨v, by rw [put_get (Ne.symm h1)]; exact hv, hr⟩
  · have hne : t ≠ d := fun e => by rw [e, hσ] at hav; cases hav
    obtain ⟨z', h2, h3, h4⟩ := hI.sl t av hav
    exact ⟨z', h2, h3, by rw [put_get hne]; exact h4⟩
theorem AIL.yield {dy t1 t2 mm : Nat} {z1 z2 : Value} {Kp : World → World → Prop} (hd : o.dst = some d) (hop : ∃ ts, o.op = .call { callee := .value (.tmp dy), args := #[.tmp t1, .tmp t2], argTypes := ts }) (hdy : dy ∈ ys) (ht1 : σ.get t1 = some (.d (.v z1))) (ht2 : σ.get t2 = some (.d (.v z2)))
    (hg : guardOk ops (st1 x σ) o = true) (hdn : Nat.ble (d + 1) n = true) (h1 : Nat.beq d 1 = false) (hy : d ∉ ys) (hKp : ∀ W W', Kp W W' → W.heap.size ≤ W'.heap.size ∧ ∀ b, G b → W'.heap[b]? = W.heap[b]?)
    (hyl : ∀ W, JJ s W → YieldAt Fence.wide mm P l #[z1, z2] W (fun e W' => (e = .returned (.bool true) ∧ JJ s1 W' ∧ Kp W W') ∨ (e = .returned (.bool false) ∧ JJ s2 W')))
    (k1 : AIL P G l n JJ ops rest ys Q s1 x ((d, .d (.v (.bool true))) :: σ)) (k2 : ∀ (m : Nat) (a : Act) (W : World), a.defers = [] → a.tmps.size = n → (∀ t, t ∈ ys → a.tmps[t]? = some (.func (.yield l) #[] #[])) → (∀ t av, St.get ((d, AV.d (.v (.bool false))) :: σ) t = some av → ∃ z, av = .d (.v z) ∧ plainV z = true ∧ a.tmps[t]? = some z) → JJ s2 W → wpListIn (FF none) m P ops (iPost P G l n JJ Q) rest a W) : AIL P G l n JJ ops (o :: rest) ys Q s x σ := by
  intro m a W hI hJs
  have hw := hI.wanted hg
  obtain ⟨dst, op, ty, pos, after, guard⟩ := o
  simp only [] at hd hop
  obtain ⟨ts, rfl⟩ := hop
  obtain ⟨_, e1, _, g1⟩ := hI.sl t1 _ ht1
  cases e1
  obtain ⟨_, e2, _, g2⟩ := hI.sl t2 _ ht2
  cases e2
  obtain ⟨fn, tmps, assign, body, hyr, hrd⟩ := hyl W hJs
  unfold wpListIn
  rw [if_pos hw]
  refine ⟨fun _ _ => trivial, ?_⟩
  rw [Oper.semAt_eq _ _ _ (fun c e => by cases e)]
  have hev := eval_tmp (hI.y dy hdy)
  have ev1 := eval_tmp g1
  have ev2 := eval_tmp g2
  have hrun : (execOp a.eval { dst := dst, op := .call { callee := .value (.tmp dy), args := #[.tmp t1, .tmp t2], argTypes := ts }, type := ty, pos := pos, after := after, guard := guard }).run P W = .ok (.round l fn tmps assign body) W := by
    have e : (#[] : Array Value) ++ #[Operand.tmp t1, Operand.tmp t2].map a.eval = #[z1, z2] := by simp [ev1, ev2]
    simp only [execOp, resolve, Deferred.ofValue, hev, Sem.run_bind, Sem.run_pure, Result.andThen_ok, invoke, e, hyr]
  rw [hrun]
  have h1 := Nat.ne_of_beq_eq_false h1
  have hdn := Nat.le_of_ble_eq_true hdn
  refine ⟨fun h => by simp [FF, Fence.wide] at h, hrd.1, fun c cs _ => ?_⟩
  obtain ⟨e, w', hR, hc⟩ := hrd.2 c cs (room_wide _)
  refine ⟨e, w', ?_, hc⟩
  rcases hR with ⟨rfl, hJ1, hK⟩ | ⟨rfl, hJ2⟩
  · show wpListIn (FF none) m P ops _ rest (a.put dst _) w'
    rw [hd]
    obtain ⟨hs, hb⟩ := hKp W w' hK
    exact k1 m _ w' (hI.put hdn h1 hy rfl (fun xd hx => ⟨hx, hb⟩) hs) hJ1
  · show wpListIn (FF none) m P ops _ rest (a.put dst _) w'
    rw [hd]
    refine k2 m _ w' (by simp [Act.put, hI.defers]) (by simp [Act.put, hI.size]) (fun t ht => ?_) (fun t av hav => ?_) hJ2
    · rw [put_get (show t ≠ d from fun e => hy (e ▸ ht))]; exact hI.y t ht
    · rw [St.get_cons] at hav
      split at hav
      · rename_i e
        subst e
        cases hav
        exact ⟨_, rfl, rfl, put_get_same (by rw [hI.size]; exact hdn)⟩
      · rename_i hne
        obtain ⟨z', h2, h3, h4⟩ := hI.sl t av hav
        exact ⟨z', h2, h3, by rw [put_get (Ne.symm hne)]; exact h4⟩
/-- Behind a round that ended the range: nothing is read any more. -/
theorem AIL.stopped {σ' : St} (h : AIL P G l n JJ ops rest ys Q s2 none σ') : ∀ (m : Nat) (a : Act) (W : World), a.defers = [] → a.tmps.size = n → (∀ t, t ∈ ys → a.tmps[t]? = some (.func (.yield l) #[] #[])) → (∀ t av, St.get σ' t = some av → ∃ z, av = .d (.v z) ∧ plainV z = true ∧ a.tmps[t]? = some z) → JJ s2 W → wpListIn (FF none) m P ops (iPost P G l n JJ Q) rest a W :=
  fun m a W h1 h2 h3 h4 h5 => h m a W ⟨h1, h2, h3, (fun _ h => by cases h), (fun _ h _ => absurd rfl h), h4⟩ h5

def thenI (K : β → Option D → St → Prop) (Q : Exit → β → Option D → St → Prop) : Exit → β → Option D → St → Prop
  | .normal, s, x, σ => K s x σ
  | .exit i, s, x, σ => Q (.exit i) s x σ
  | .goto i, s, x, σ => Q (.goto i) s x σ
  | .ret, s, x, σ => Q .ret s x σ
  | .panic c, s, x, σ => Q (.panic c) s x σ
  | .outgrown, s, x, σ => Q .outgrown s x σ
def blockI (id : Nat) (Q : Exit → β → Option D → St → Prop) : Exit → β → Option D → St → Prop
  | .normal, s, x, σ => Q .normal s x σ
  | .exit i, s, x, σ => match Nat.beq i id with
    | true => Q .normal s x σ
    | false => Q (.exit i) s x σ
  | .goto i, s, x, σ => Q (.goto i) s x σ
  | .ret, s, x, σ => Q .ret s x σ
  | .panic c, s, x, σ => Q (.panic c) s x σ
  | .outgrown, s, x, σ => Q .outgrown s x σ
theorem AI.skip (h : Q .normal s x σ) : AI P G l n JJ .skip Q s x σ := fun m a W hI hJ => wpIn_skip ⟨s, x, σ, h, hI, hJ⟩
theorem AI.exit {id : Nat} (h : Q (.exit id) s x σ) : AI P G l n JJ (.exit id) Q s x σ := fun m a W hI hJ => wpIn_exit ⟨s, x, σ, h, hI, hJ⟩
theorem AI.ret (h : Q .ret s x σ) : AI P G l n JJ .ret Q s x σ := fun m a W hI hJ => wpIn_ret ⟨s, x, σ, h, hI, hJ⟩
theorem AI.seq (h : AI P G l n JJ c (thenI (fun s x σ => AI P G l n JJ c2 Q s x σ) Q) s x σ) : AI P G l n JJ (.seq c c2) Q s x σ := by
  intro m a W hI hJ
  refine wpIn_seq (wpIn_mono (h m a W hI hJ) fun e a' w' ⟨s', x', σ', hq, hI', hJ'⟩ => ?_)
  cases e <;> first | exact hq m a' w' hI' hJ' | exact ⟨s', x', σ', hq, hI', hJ'⟩
theorem AI.block {id : Nat} (h : AI P G l n JJ c (blockI id Q) s x σ) : AI P G l n JJ (.block id c) Q s x σ := by
  intro m a W hI hJ
  refine wpIn_block (wpIn_mono (h m a W hI hJ) fun e a' w' ⟨s', x', σ', hq, hI', hJ'⟩ => ?_)
  cases e with
  | exit i =>
    simp only [blockI] at hq
    simp only [Exit.inBlock]
    split at hq
    · rename_i hb
      rw [if_pos (Nat.eq_of_beq_eq_true hb)]
      exact ⟨s', x', σ', hq, hI', hJ'⟩
    · rename_i hb
      rw [if_neg (Nat.ne_of_beq_eq_false hb)]
      exact ⟨s', x', σ', hq, hI', hJ'⟩
  | _ => exact ⟨s', x', σ', hq, hI', hJ'⟩
theorem AI.cond {cc : Operand} {b : Bool} (hc : boolAt (st1 x σ) cc = some b) (h1 : b = true → AI P G l n JJ c Q s x σ) (h2 : b = false → AI P G l n JJ c2 Q s x σ) : AI P G l n JJ (.cond cc c c2) Q s x σ := by
  intro m a W hI hJ
  have he : a.eval cc = .bool b := evalBool hc hI.rel.z
  exact wpIn_cond_split he (fun h => h1 h m a W hI hJ) (fun h => h2 h m a W hI hJ)
theorem AI.region {id : Nat} (h : AIL P G l n JJ ops ops.toList [0] Q s x σ) : AI P G l n JJ (.region id ops false) Q s x σ := fun m a W hI hJ => wpIn_region_list (h m a W hI hJ)
theorem IS.keep (ks : List Nat) (hI : IS P G l n x ys σ a W) : IS P G l n x ys (σ.keep ks) a W := ⟨hI.defers, hI.size, hI.y, hI.c, hI.lt, fun t av hav => by
  have hz : IS P G l n none ys σ a W := ⟨hI.defers, hI.size, hI.y, (fun _ h => by cases h), (fun _ h _ => absurd rfl h), hI.sl⟩
  have hR := hz.rel.keep ks
  have hav2 := hav
  induction ks with
  | nil => cases hav
  | cons k r ih =>
    simp only [St.keep] at hav
    split at hav
    · rename_i av' hk
      rw [St.get_cons] at hav
      split at hav
      · rename_i e
        subst e
        cases hav
        exact hI.sl _ _ hk
      · exact ih hav (hz.rel.keep r) hav
    · exact ih hav (hz.rel.keep r) hav⟩
theorem AI.loopS {S : Type} {xd : Option D} (ks : List Nat) (mk : S → β × St) (I : S → Prop) (μ : S → Nat) (s0 : S) (h0 : (s, σ.keep ks) = mk s0) (hx : x = xd) (hI0 : I s0)
    (hb : ∀ s, I s → AI P G l n JJ c (thenI (fun s' x' σ' => ∃ S', x' = xd ∧ (s', σ'.keep ks) = mk S' ∧ I S' ∧ μ S' < μ s) Q) (mk s).1 xd (mk s).2) : AI P G l n JJ (.loop c) Q s x σ := by
  intro m a W hI hJ
  subst hx
  refine wpIn_loopG (fun a w S' => I S' ∧ IS P G l n x [0] (mk S').2 a w ∧ JJ (mk S').1 w) μ s0 ⟨hI0, by rw [← h0]; exact hI.keep ks, by rw [← h0]; exact hJ⟩ (fun a w S' ⟨h1, h2, h3⟩ => ?_)
  refine wpIn_mono (hb S' h1 m a w h2 h3) fun e a' w' ⟨s', x', σ', hq, hI', hJ'⟩ => ?_
  cases e with
  | normal =>
    obtain ⟨S2, g1, g2, g3, g4⟩ := hq
    subst g1
    exact ⟨S2, ⟨g3, by rw [← g2]; exact hI'.keep ks, by rw [← g2]; exact hJ'⟩, g4⟩
  | _ => exact ⟨s', x', σ', hq, hI', hJ'⟩
/-- A function that is an iterator: from its body. -/
theorem CallsIn.iter {f : FuncId} {fn : Func} {cd : Code} {V1 : Value} {xd : D} {W : World} {R : Ending → World → Prop} (hf : P.funcs[f]? = some fn) (hb : fn.body = some cd) (hrs : fn.results.toList = []) (hn : fn.ntmps = n) (hn2 : 2 ≤ n) (hG : ∀ b, G b → b < W.heap.size) (hr : Rd W G xd V1) (hJ : JJ s W)
    (h : AI P G l n JJ cd (fun e s' _ _ => (e = .normal ∨ e = .ret) ∧ Q e s' none []) s (some xd) []) (hR : ∀ e s' W', (e = .normal ∨ e = .ret) → Q e s' none [] → JJ s' W' → R (.returned (.tuple #[])) W') (m : Nat) : CallsIn Fence.wide m P f #[.func (.yield l) #[] #[], V1] W R := by
  refine callsIn_of_wp hf hb trivial ?_
  have hI : IS P G l n (some xd) [0] [] { tmps := #[.func (.yield l) #[] #[], V1] ++ Array.replicate (fn.ntmps - 2) undef, defers := [] } W := by
    refine ⟨rfl, by simp [hn]; omega, fun t ht => ?_, fun xd' hx => ?_, fun b _ hb => hG b hb, fun t av h => by cases h⟩
    · simp at ht; subst ht; simp [Array.getElem?_append]
    · cases hx; exact ⟨V1, by simp [Array.getElem?_append], hr⟩
  have hres : ∀ (a : Act) (w : World), (results fn a.tmps).run P w = .ok (.tuple #[]) w := fun a w => by
    rw [results_eq]
    simp only [Sem.run_bind, Array.mapM_eq_mapM_toList, hrs, Sem.run_map, List.mapM_nil, Sem.run_pure, Result.andThen_ok]
    rfl
  refine wpIn_mono (h m _ W hI hJ) fun e a' w' ⟨s', x', σ', ⟨he, hq⟩, hI', hJ'⟩ => ?_
  have hd := hI'.defers
  rcases he with rfl | rfl
  · exact ⟨hd, _, hres a' w', hR _ s' w' (.inl rfl) hq hJ'⟩
  · exact ⟨hd, _, hres a' w', hR _ s' w' (.inr rfl) hq hJ'⟩
end
end Lift
/- Groups: the pairs of free bodies, one after the other: the iterator. -/
namespace Lift
open Go Go.Proofs
open Go.RowKit (Below)

def prIn (fr : Nat → Bool) (i : Nat) : Nat → Nat → List (Nat × Nat)
  | 0, _ => []
  | m + 1, j => (if (fr i && fr j) = true then [(i, j)] else []) ++ prIn fr i m (j + 1)
def prOut (fr : Nat → Bool) (n : Nat) : Nat → Nat → List (Nat × Nat)
  | 0, _ => []
  | m + 1, i => prIn fr i (n - (i + 1)) (i + 1) ++ prOut fr n m (i + 1)
/-- The pairs i < j of free bodies. -/
def prsF (fr : Nat → Bool) (n : Nat) : List (Nat × Nat) := prOut fr n n 0
theorem prIn_step {fr : Nat → Bool} {i n j : Nat} (h : j < n) : prIn fr i (n - j) j = (if (fr i && fr j) = true then [(i, j)] else []) ++ prIn fr i (n - (j + 1)) (j + 1) := by rw [show n - j = (n - (j + 1)) + 1 by omega, prIn]
theorem prIn_end {fr : Nat → Bool} {i n j : Nat} (h : ¬ j < n) : prIn fr i (n - j) j = [] := by rw [show n - j = 0 by omega, prIn]
theorem prOut_step {fr : Nat → Bool} {n i : Nat} (h : i < n) : prOut fr n (n - i) i = prIn fr i (n - (i + 1)) (i + 1) ++ prOut fr n (n - (i + 1)) (i + 1) := by rw [show n - i = (n - (i + 1)) + 1 by omega, prOut]
theorem prOut_end {fr : Nat → Bool} {n i : Nat} (h : ¬ i < n) : prOut fr n (n - i) i = [] := by rw [show n - i = 0 by omega, prOut]
/-- A pair of bodies. -/
abbrev PrT (nb : Nat) := { p : Nat × Nat // p.1 < nb ∧ p.2 < nb }
def encP {nb : Nat} (x : PrT nb) : Array Value := #[.int .i64 (x.1.1 : Nat), .int .i64 (x.1.2 : Nat)]
def pvals {nb : Nat} (l : List (PrT nb)) : List (Nat × Nat) := l.map (·.1)
theorem pvals_app {nb : Nat} (l m : List (PrT nb)) : pvals (l ++ m) = pvals l ++ pvals m := List.map_append
/-- What a round keeps: the blocks that the iterator reads. -/
def KpG (G : Nat → Prop) (W W' : World) : Prop := W.heap.size ≤ W'.heap.size ∧ ∀ b, G b → W'.heap[b]? = W.heap[b]?
def JJp {nb : Nat} (J Jx : List (PrT nb) → World → Prop) : List (PrT nb) × Bool → World → Prop
  | (pre, false), W => J pre W
  | (pre, true), W => Jx pre W
theorem below_grown {W W' : World} (h : Below W.heap.size W W') : W.grownBy W' none := ⟨h.os, h.tape, h.output, h.size, fun k hk _ => h.block k hk⟩
set_option maxHeartbeats 3200000 in
theorem fin_pairs1_ok (l : Lkg) (hl : LkIn l) (kn dr us : List Bool) (g : D) (hk : kn.length = l.bodies.length) (hr : dr.length = l.bodies.length) {V1 : Value} {w : World} {G : Nat → Prop} (hG : ∀ b, G b → b < w.heap.size) (hrd : Rd w G (.pr [.pr (FinC l kn dr us g)]) V1) (n : Nat) :
    SeqStopsK (α := PrT l.bodies.length) Fence.wide n Try.prog 82 #[V1] encP (KpG G) (fun xs => pvals xs = prsF (freF kn dr) l.bodies.length) (fun pre => ∃ t, pvals pre ++ t = prsF (freF kn dr) l.bodies.length) (prsF (freF kn dr) l.bodies.length).length w := by
  intro lr J Jx W hb hJ hJx hy hJ0
  have hAb : Abid (JJp J Jx) := fun s A B h hB => by
    obtain ⟨pre, st⟩ := s
    cases st with
    | false => exact hJ pre A B none h (below_grown hB) (fun r e => by cases e)
    | true => exact hJx pre A B none h (below_grown hB) (fun r e => by cases e)
  obtain ⟨hb1, hb2, hj1, hd1, hj, hd⟩ := hl
  generalize hL : prsF (freF kn dr) l.bodies.length = L at hy
  have hfree := fun (i : Nat) (hi : i < l.bodies.length) => fin_free_ok l kn dr us g i (Int.natCast_nonneg i) (by rw [Int.toNat_natCast]; omega) (by rw [Int.toNat_natCast]; omega)
  refine CallsIn.iter (G := G) (n := 42) (l := lr) (JJ := JJp J Jx) (s := ([], false)) (xd := .pr [.pr (FinC l kn dr us g)]) (Q := fun e s _ _ => (s.2 = false ∧ pvals s.1 = L) ∨ (s.2 = true ∧ ∃ t, pvals s.1 ++ t = L)) Try.func82 rfl rfl rfl (by decide) (fun b hGb => Nat.lt_of_lt_of_le (hG b hGb) hb.size) (hrd.mono (fun _ h => h) (fun b hGb => hb.block b (hG b hGb))) hJ0 ?_ (fun e s W' _ hq hJ' => ?_) n
  rotate_left
  · obtain ⟨pre, st⟩ := s
    refine ⟨⟨_, rfl⟩, ?_⟩
    rcases hq with ⟨rfl, h⟩ | ⟨rfl, h⟩
    · exact .inl ⟨pre, h, hJ'⟩
    · exact .inr ⟨pre, h, hJ'⟩
  refine AI.seq ?_
  refine AI.region ?_
  refine AIL.cut hAb 7 rfl rfl (fun B F0 w0 => ?_)
  refine AOps.run tok 1 _ _ _ _ rfl ?_
  refine AOps.nchk tok rfl rfl rfl rfl rfl ?_
  refine AOps.run tok 4 _ _ _ _ rfl ?_
  rw [List.length_map]
  refine AOps.run tok 1 _ _ _ _ rfl ?_
  refine AOps.nil ⟨[10, 11], [(10, .d (dI l.bodies.length)), (11, .d (dI (0 : Nat)))], rfl, rfl, ?_⟩
  refine AIL.nil (by simp) ?_
  refine AI.block ?_
  refine AI.loopS (xd := some (.pr [.pr (FinC l kn dr us g)])) [10, 11] (fun s : Nat × List (PrT l.bodies.length) => ((s.2, false), [(10, .d (dI l.bodies.length)), (11, .d (dI s.1))])) (fun s => s.1 ≤ l.bodies.length ∧ pvals s.2 ++ prOut (freF kn dr) l.bodies.length (l.bodies.length - s.1) s.1 = L) (fun s => l.bodies.length - s.1) (0, []) rfl rfl ⟨Nat.zero_le _, hL⟩ (fun s hs => ?_)
  obtain ⟨i, pre⟩ := s
  obtain ⟨hi, hpre⟩ := hs
  dsimp only at hi hpre
  show AI _ _ _ _ _ _ _ (pre, false) (some (.pr [.pr (FinC l kn dr us g)])) [(10, .d (dI l.bodies.length)), (11, .d (dI i))]
  refine AI.seq ?_
  refine AI.region ?_
  refine AIL.cut hAb 1 rfl rfl (fun B F0 w0 => ?_)
  refine AOps.run tok 1 _ _ _ _ rfl ?_
  refine AOps.nil ⟨[10, 11, 12], [(10, .d (dI l.bodies.length)), (11, .d (dI i)), (12, .d (dB (decide ((i : Int) < l.bodies.length))))], rfl, rfl, ?_⟩
  refine AIL.nil (by simp) ?_
  refine AI.seq ?_
  refine AI.cond rfl (fun h => ?_) (fun h => ?_)
  rotate_left
  · have hin : ¬ i < l.bodies.length := by have := of_decide_eq_false h; omega
    rw [prOut_end hin, List.append_nil] at hpre
    exact AI.exit ⟨.inl rfl, .inl ⟨rfl, hpre⟩⟩
  have hin : i < l.bodies.length := by have := of_decide_eq_true h; omega
  rw [prOut_step hin] at hpre
  refine AI.skip ?_
  refine AI.seq ?_
  refine AI.block ?_
  refine AI.seq ?_
  refine AI.region ?_
  refine AIL.cut hAb 2 rfl rfl (fun B F0 w0 => ?_)
  refine AOps.run tok 2 _ _ _ _ rfl ?_
  refine AOps.nil ⟨[3, 10, 11], [(3, .d (dI i)), (10, .d (dI l.bodies.length)), (11, .d (dI i))], rfl, rfl, ?_⟩
  refine AIL.nil (by simp) ?_
  refine AI.seq ?_
  refine AI.region ?_
  refine AIL.cut hAb 3 rfl rfl (fun B F0 w0 => ?_)
  refine AOps.run tok 2 _ _ _ _ rfl ?_
  rw [wI64 (x := (i : Int) + 1) (by omega) (by omega)]
  refine AOps.run tok 1 _ _ _ _ rfl ?_
  refine AOps.nil ⟨[3, 4, 10, 11], [(3, .d (dI i)), (4, .d (dI ((i + 1 : Nat) : Int))), (10, .d (dI l.bodies.length)), (11, .d (dI i))], rfl, rfl, ?_⟩
  refine AIL.nil (by simp) ?_
  refine AI.block ?_
  refine AI.loopS (xd := some (.pr [.pr (FinC l kn dr us g)])) [3, 4, 10, 11] (fun s : Nat × List (PrT l.bodies.length) => ((s.2, false), [(3, .d (dI i)), (4, .d (dI s.1)), (10, .d (dI l.bodies.length)), (11, .d (dI i))])) (fun s => i + 1 ≤ s.1 ∧ s.1 ≤ l.bodies.length ∧ pvals s.2 ++ (prIn (freF kn dr) i (l.bodies.length - s.1) s.1 ++ prOut (freF kn dr) l.bodies.length (l.bodies.length - (i + 1)) (i + 1)) = L) (fun s => l.bodies.length - s.1) (i + 1, pre) rfl rfl ⟨Nat.le_refl _, hin, hpre⟩ (fun s hs => ?_)
  obtain ⟨j, pr⟩ := s
  obtain ⟨hj0, hj1, hpr⟩ := hs
  dsimp only at hj0 hj1 hpr
  show AI _ _ _ _ _ _ _ (pr, false) (some (.pr [.pr (FinC l kn dr us g)])) [(3, .d (dI i)), (4, .d (dI j)), (10, .d (dI l.bodies.length)), (11, .d (dI i))]
  refine AI.seq ?_
  refine AI.seq ?_
  refine AI.region ?_
  refine AIL.cut hAb 8 rfl rfl (fun B F0 w0 => ?_)
  refine AOps.run tok 2 _ _ _ _ rfl ?_
  refine AOps.nchk tok rfl rfl rfl rfl rfl ?_
  refine AOps.run tok 4 _ _ _ _ rfl ?_
  rw [List.length_map]
  refine AOps.run tok 1 _ _ _ _ rfl ?_
  refine AOps.nil ⟨[3, 4, 10, 11, 23], [(3, .d (dI i)), (4, .d (dI j)), (10, .d (dI l.bodies.length)), (11, .d (dI i)), (23, .d (dB (decide ((j : Int) < l.bodies.length))))], rfl, rfl, ?_⟩
  refine AIL.nil (by simp) ?_
  refine AI.cond rfl (fun h => ?_) (fun h => ?_)
  rotate_left
  · have hjn : ¬ j < l.bodies.length := by have := of_decide_eq_false h; omega
    rw [prIn_end hjn, List.nil_append] at hpr
    refine AI.exit ?_
    show AI _ _ _ _ _ _ _ (pr, false) (some (.pr [.pr (FinC l kn dr us g)])) _
    refine AI.region ?_
    refine AIL.cut hAb 2 rfl rfl (fun B F0 w0 => ?_)
    refine AOps.run tok 1 _ _ _ _ rfl ?_
    rw [wI64 (x := (i : Int) + 1) (by omega) (by omega)]
    refine AOps.run tok 1 _ _ _ _ rfl ?_
    refine AOps.nil ⟨[10, 11], [(10, .d (dI l.bodies.length)), (11, .d (dI ((i + 1 : Nat) : Int)))], rfl, rfl, ?_⟩
    refine AIL.nil (by simp) ?_
    exact ⟨(i + 1, pr), rfl, rfl, ⟨hin, hpr⟩, by show l.bodies.length - (i + 1) < l.bodies.length - i; omega⟩
  have hjn : j < l.bodies.length := by have := of_decide_eq_true h; omega
  rw [prIn_step hjn] at hpr
  refine AI.skip ?_
  refine AI.seq ?_
  refine AI.block ?_
  refine AI.seq ?_
  refine AI.region ?_
  refine AIL.cut hAb 9 rfl rfl (fun B F0 w0 => ?_)
  refine AOps.run tok 2 _ _ _ _ rfl ?_
  refine AOps.call tok rfl rfl rfl rfl (hfree i hin) ?_
  refine AOps.run tok 1 _ _ _ _ rfl ?_
  refine AOps.split (t := 29) rfl (fun hfi => ?_) (fun hfi => ?_)
  rotate_left
  · have hF : freF kn dr i = false := hfi
    rw [hF, Bool.false_and, if_neg (by simp), List.nil_append] at hpr
    refine AOps.run tok 5 _ _ _ _ rfl ?_
    refine AOps.nil ⟨[3, 4, 10, 11, 34], [(3, .d (dI i)), (4, .d (dI j)), (10, .d (dI l.bodies.length)), (11, .d (dI i)), (34, .d (dB false))], rfl, rfl, ?_⟩
    refine AIL.cut hAb 6 rfl rfl (fun B F0 w0 => ?_)
    refine AOps.run tok 6 _ _ _ _ rfl ?_
    refine AOps.nil ⟨[3, 4, 10, 11, 40], [(3, .d (dI i)), (4, .d (dI j)), (10, .d (dI l.bodies.length)), (11, .d (dI i)), (40, .d (dB false))], rfl, rfl, ?_⟩
    refine AIL.nil (by simp) ?_
    refine AI.cond rfl (fun h => by cases h) (fun h => ?_)
    refine AI.skip ?_
    refine AI.region ?_
    refine AIL.cut hAb 3 rfl rfl (fun B F0 w0 => ?_)
    refine AOps.run tok 2 _ _ _ _ rfl ?_
    rw [wI64 (x := (j : Int) + 1) (by omega) (by omega)]
    refine AOps.run tok 1 _ _ _ _ rfl ?_
    refine AOps.nil ⟨[3, 4, 10, 11], [(3, .d (dI i)), (4, .d (dI ((j + 1 : Nat) : Int))), (10, .d (dI l.bodies.length)), (11, .d (dI i))], rfl, rfl, ?_⟩
    refine AIL.nil (by simp) ?_
    exact ⟨(j + 1, pr), rfl, rfl, ⟨by show i + 1 ≤ j + 1; omega, hjn, hpr⟩, by show l.bodies.length - (j + 1) < l.bodies.length - j; omega⟩
  have hF : freF kn dr i = true := hfi
  refine AOps.run tok 2 _ _ _ _ rfl ?_
  refine AOps.call tok rfl rfl rfl rfl (hfree j hjn) ?_
  refine AOps.run tok 2 _ _ _ _ rfl ?_
  refine AOps.split (t := 34) rfl (fun hfj => ?_) (fun hfj => ?_)
  rotate_left
  · have hF2 : freF kn dr j = false := hfj
    rw [hF2, Bool.and_false, if_neg (by simp), List.nil_append] at hpr
    refine AOps.nil ⟨[3, 4, 10, 11, 34], [(3, .d (dI i)), (4, .d (dI j)), (10, .d (dI l.bodies.length)), (11, .d (dI i)), (34, .d (dB false))], rfl, rfl, ?_⟩
    refine AIL.cut hAb 6 rfl rfl (fun B F0 w0 => ?_)
    refine AOps.run tok 6 _ _ _ _ rfl ?_
    refine AOps.nil ⟨[3, 4, 10, 11, 40], [(3, .d (dI i)), (4, .d (dI j)), (10, .d (dI l.bodies.length)), (11, .d (dI i)), (40, .d (dB false))], rfl, rfl, ?_⟩
    refine AIL.nil (by simp) ?_
    refine AI.cond rfl (fun h => by cases h) (fun h => ?_)
    refine AI.skip ?_
    refine AI.region ?_
    refine AIL.cut hAb 3 rfl rfl (fun B F0 w0 => ?_)
    refine AOps.run tok 2 _ _ _ _ rfl ?_
    rw [wI64 (x := (j : Int) + 1) (by omega) (by omega)]
    refine AOps.run tok 1 _ _ _ _ rfl ?_
    refine AOps.nil ⟨[3, 4, 10, 11], [(3, .d (dI i)), (4, .d (dI ((j + 1 : Nat) : Int))), (10, .d (dI l.bodies.length)), (11, .d (dI i))], rfl, rfl, ?_⟩
    refine AIL.nil (by simp) ?_
    exact ⟨(j + 1, pr), rfl, rfl, ⟨by show i + 1 ≤ j + 1; omega, hjn, hpr⟩, by show l.bodies.length - (j + 1) < l.bodies.length - j; omega⟩
  have hF2 : freF kn dr j = true := hfj
  rw [hF, hF2, Bool.and_self, if_pos rfl] at hpr
  obtain ⟨x, hx⟩ : ∃ x : PrT l.bodies.length, x = ⟨(i, j), hin, hjn⟩ := ⟨_, rfl⟩
  have hxv : pvals (pr ++ [x]) = pvals pr ++ [(i, j)] := by rw [pvals_app, hx]; rfl
  have hpr2 : pvals (pr ++ [x]) ++ (prIn (freF kn dr) i (l.bodies.length - (j + 1)) (j + 1) ++ prOut (freF kn dr) l.bodies.length (l.bodies.length - (i + 1)) (i + 1)) = L := by rw [hxv, ← hpr]; simp
  have hlen : pr.length < L.length := by
    rw [← hpr2, List.length_append, hxv, List.length_append]
    show pr.length < ((pvals pr).length + 1) + _
    rw [pvals, List.length_map]; omega
  have hyx := fun W h => hy pr x W h hlen
  refine AOps.nil ⟨[3, 4, 10, 11, 34], [(3, .d (dI i)), (4, .d (dI j)), (10, .d (dI l.bodies.length)), (11, .d (dI i)), (34, .d (dB true))], rfl, rfl, ?_⟩
  refine AIL.mvY rfl rfl (by simp) rfl rfl rfl rfl ?_
  refine AIL.cut hAb 2 rfl rfl (fun B F0 w0 => ?_)
  refine AOps.run tok 2 _ _ _ _ rfl ?_
  refine AOps.nil ⟨[3, 4, 10, 11, 34, 36, 37], [(3, .d (dI i)), (4, .d (dI j)), (10, .d (dI l.bodies.length)), (11, .d (dI i)), (34, .d (dB true)), (36, .d (dI i)), (37, .d (dI j))], rfl, rfl, ?_⟩
  refine AIL.yield (d := 38) (dy := 35) (t1 := 36) (t2 := 37) (z1 := .int .i64 i) (z2 := .int .i64 j) (Kp := KpG G) (s1 := (pr ++ [x], false)) (s2 := (pr ++ [x], true)) rfl ⟨_, rfl⟩ (by simp) rfl rfl rfl rfl rfl (by simp) (fun W W' h => h) (fun W hJ => by have := hyx W hJ; rw [hx] at this ⊢; exact this) ?_ (AIL.stopped ?_)
  · refine AIL.cut hAb 2 rfl rfl (fun B F0 w0 => ?_)
    refine AOps.run tok 2 _ _ _ _ rfl ?_
    refine AOps.nil ⟨[3, 4, 10, 11, 40], [(3, .d (dI i)), (4, .d (dI j)), (10, .d (dI l.bodies.length)), (11, .d (dI i)), (40, .d (dB false))], rfl, rfl, ?_⟩
    refine AIL.nil (by simp) ?_
    refine AI.cond rfl (fun h => by cases h) (fun h => ?_)
    refine AI.skip ?_
    refine AI.region ?_
    refine AIL.cut hAb 3 rfl rfl (fun B F0 w0 => ?_)
    refine AOps.run tok 2 _ _ _ _ rfl ?_
    rw [wI64 (x := (j : Int) + 1) (by omega) (by omega)]
    refine AOps.run tok 1 _ _ _ _ rfl ?_
    refine AOps.nil ⟨[3, 4, 10, 11], [(3, .d (dI i)), (4, .d (dI ((j + 1 : Nat) : Int))), (10, .d (dI l.bodies.length)), (11, .d (dI i))], rfl, rfl, ?_⟩
    refine AIL.nil (by simp) ?_
    exact ⟨(j + 1, pr ++ [x]), rfl, rfl, ⟨by show i + 1 ≤ j + 1; omega, hjn, hpr2⟩, by show l.bodies.length - (j + 1) < l.bodies.length - j; omega⟩
  · refine AIL.cut hAb 2 rfl rfl (fun B F0 w0 => ?_)
    refine AOps.run tok 2 _ _ _ _ rfl ?_
    refine AOps.nil ⟨[40], [(40, .d (dB true))], rfl, rfl, ?_⟩
    refine AIL.nil (by simp) ?_
    refine AI.cond rfl (fun h => ?_) (fun h => by cases h)
    exact AI.ret ⟨.inr rfl, .inr ⟨rfl, _, hpr2⟩⟩
end Lift
/- States of boxes and data: other frames, other bases, worlds in which what is no cell has changed. -/
namespace Lift
open Go
open Go.RowKit (Below)

def isCellsB (w : World) (b : Nat) : Prop := ∃ cs e fz, w.heap[b]? = some (.cells cs e fz)
theorem Rd.monoC {w w' : World} {F F' : Nat → Prop} {d : D} {v : Value} (h : Rd w F d v) (hF : ∀ b, F b → isCellsB w b → F' b ∧ w'.heap[b]? = w.heap[b]?) : Rd w' F' d v := by
  induction h with
  | v h => exact .v h
  | nil hm => exact .nil hm
  | sl vals hf hbb hcap hm hu hc hk hr ih =>
    obtain ⟨g1, g2⟩ := hF _ hf ⟨_, _, _, hbb⟩
    exact .sl vals g1 (g2.trans hbb) hcap hm hu hc hk ih
  | ag hl hk hr ih => exact .ag hl hk ih
  | tu hl hr ih => exact .tu hl ih
  | pr vals hf hbb hc hk hr ih =>
    obtain ⟨g1, g2⟩ := hF _ hf ⟨_, _, _, hbb⟩
    exact .pr vals g1 (g2.trans hbb) hc hk ih
  | fn ha hc ra rc ih1 ih2 => exact .fn ha hc ih1 ih2
/-- Boxes, data. -/
def simA : AV → Bool
  | .d _ => true
  | .bx _ => true
  | .ow _ _ => false
  | .wn _ _ _ _ _ => false
  | .pt _ _ => false
  | .rf _ => false
  | .e0 _ => false
  | .al _ => false
  | .el _ _ _ => false
  | .sb _ _ _ => false
  | .un => false
  | .junk => false
def simS : St → Bool
  | [] => true
  | (_, a) :: r => simA a && simS r
def owR : List LR → Bool
  | [] => true
  | (_, .ow _ _) :: r => owR r
  | _ => false
theorem simS_get : ∀ {σ : St}, simS σ = true → ∀ t av, σ.get t = some av → simA av = true
  | [], _, t, av, h => by cases h
  | (k, b) :: r, hp, t, av, h => by
    simp only [simS, Bool.and_eq_true] at hp
    rw [St.get_cons] at h
    split at h
    · cases h; exact hp.1
    · exact simS_get hp.2 t av h
theorem owR_get : ∀ {R : List LR}, owR R = true → ∀ (i : Nat) (r : LR), R[i]? = some r → ∃ V e xs, r = (V, .ow e xs)
  | [], _, i, r, h => by simp at h
  | (V, av) :: rs, hp, i, r, h => by
    unfold owR at hp
    split at hp <;> try (cases hp; done)
    · rename_i he; cases he
    · rename_i V' e xs rs' he
      cases he
      cases i with
      | zero => simp at h; exact ⟨_, _, _, h.symm⟩
      | succ i => exact owR_get hp i r (by simpa using h)
section
variable {P : Program} {T : Ty} {B : Nat} {F0 : Nat → Prop} {w0 : Bas} {n : Nat} {σ : St} {R : List LR} {a a' : Act} {W W' : World}
/-- What a slot holds, in a world in which the cells that matter lie as they lay. -/
theorem AVR.sim {X X' : Nat → Prop} {O O' : Nat → Option Nat} {F F' : Nat → Prop} {hm hm' : Nat → Option AV} {tm tm' : Nat → Option Value} {t : Nat} {av : AV} {v : Value} (hs : simA av = true) (h : AVR P X W O F hm tm t av v)
    (hF : ∀ c, Free O F c → isCellsB W c → Free O' F' c ∧ W'.heap[c]? = W.heap[c]?) (hO : ∀ c, av.home = true → O c = some t → isCellsB W c → v = .pointer (some ⟨c, 0, none⟩) → O' c = some t ∧ W'.heap[c]? = W.heap[c]?) : AVR P X' W' O' F' hm' tm' t av v := by
  cases av <;> simp only [simA] at hs <;> try (cases hs; done)
  · exact Rd.monoC h hF
  · obtain ⟨b, cs, e, h1, h2, h3, h4⟩ := h
    obtain ⟨g1, g2⟩ := hO b rfl h2 ⟨_, _, _, h3⟩ h1
    exact ⟨b, cs, e, h1, g1, g2.trans h3, h4.1, fun i d u k1 k2 => ⟨(h4.2 i d u k1 k2).1, (h4.2 i d u k1 k2).2.monoC hF⟩⟩
theorem LooseAt.sim {O O' : Nat → Option Nat} {F F' : Nat → Prop} {s t e : Nat} {V : Value} {xs : List D} (h : LooseAt P W O F s (V, .ow e xs)) (hF : ∀ c, Free O F c → isCellsB W c → Free O' F' c ∧ W'.heap[c]? = W.heap[c]?) (hO : ∀ c, O c = some s → isCellsB W c → O' c = some t ∧ W'.heap[c]? = W.heap[c]?) : LooseAt P W' O' F' t (V, .ow e xs) := by
  rcases h with h | ⟨h1, h2, h⟩
  · cases h
  · refine .inr ⟨h1, h2, ?_⟩
    rcases h with h | ⟨b, cap, cc, g3, g4, g5, g6, g7, g8, g9, g10⟩
    · exact .inl h
    · obtain ⟨k1, k2⟩ := hO b g4 ⟨_, _, _, g5⟩
      exact .inr ⟨b, cap, cc, g3, k1, k2.trans g5, g6, g7, g8, g9, fun i d hd => by
        obtain ⟨f1, u, f2, f3⟩ := g10 i d hd
        exact ⟨f1, u, f2, f3.monoC hF⟩⟩
theorem RelZ.grown {row : Option Nat} (hs : simS σ = true) (ho : owR R = true) (hR : RelZ P B F0 w0 n R σ a W) (hg : W.grownBy W' row) (hr : ∀ r, row = some r → B ≤ r ∧ ∃ o : Obj, W.heap[r]? = some o ∧ o.isCells = false) : RelZ P B F0 w0 n R σ a W' := by
  obtain ⟨O, hOr, hO, hL⟩ := hR.own
  have hcell : ∀ c, isCellsB W c → W'.heap[c]? = W.heap[c]? := fun c ⟨cs, e, fz, hc⟩ => hg.block c (Array.getElem?_eq_some_iff.1 hc).1 (fun h => by
    obtain ⟨_, o, h1, h2⟩ := hr c h.symm
    rw [hc] at h1; cases h1; cases h2)
  have hF : ∀ c, Free O (FW B F0 W) c → isCellsB W c → Free O (FW B F0 W') c ∧ W'.heap[c]? = W.heap[c]? := fun c hc hcc => ⟨⟨hc.1, by
    rcases hc.2 with h | ⟨h1, h2⟩
    · exact .inl h
    · exact .inr ⟨h1, Nat.lt_of_lt_of_le h2 hg.size⟩⟩, hcell c hcc⟩
  refine ⟨hR.below.trans ⟨hg.os, hg.tape, hg.output, hg.size, fun k hk hx => ?_, fun k cs e fz hk => ?_⟩, Nat.le_trans hR.base hg.size, hR.f0, hR.defers, hR.size, O, fun b t hb => ⟨(hOr b t hb).1, Nat.lt_of_lt_of_le (hOr b t hb).2 hg.size⟩, fun t av hav => ?_, fun i r hi => ?_⟩
  · refine hg.block k (Nat.lt_of_lt_of_le hk hR.base) (fun h => ?_)
    obtain ⟨h1, _⟩ := hr k h.symm
    omega
  · exact ⟨cs, (hcell k ⟨_, _, _, hk⟩).trans hk, rfl⟩
  · obtain ⟨v, hv, h⟩ := hO t av hav
    exact ⟨v, hv, h.sim (simS_get hs t av hav) hF (fun c _ hc hcc _ => ⟨hc, hcell c hcc⟩)⟩
  · obtain ⟨V, e, xs, rfl⟩ := owR_get ho i r hi
    exact (hL i _ hi).sim hF (fun c hc hcc => ⟨hc, hcell c hcc⟩)
/-- The same slots in another frame. -/
theorem RelZ.frame2 (hs : simS σ = true) (hR : RelZ P B F0 w0 n R σ a W) (hd : a'.defers = []) (hsz : a'.tmps.size = n) (ht : ∀ t av, σ.get t = some av → a'.tmps[t]? = a.tmps[t]?) : RelZ P B F0 w0 n R σ a' W := by
  obtain ⟨O, hOr, hO, hL⟩ := hR.own
  refine ⟨hR.below, hR.base, hR.f0, hd, hsz, O, hOr, fun t av hav => ?_, hL⟩
  obtain ⟨v, hv, h⟩ := hO t av hav
  exact ⟨v, by rw [ht t av hav]; exact hv, h.sim (simS_get hs t av hav) (fun c hc _ => ⟨hc, rfl⟩) (fun c _ hc _ _ => ⟨hc, rfl⟩)⟩
/-- A plain value in a slot more. -/
theorem RelZ.more {z : Value} {t : Nat} (hs : simS σ = true) (hR : RelZ P B F0 w0 n R σ a W) (ht : a.tmps[t]? = some z) (hz : plainV z = true) : RelZ P B F0 w0 n R ((t, .d (.v z)) :: σ) a W := by
  obtain ⟨O, hOr, hO, hL⟩ := hR.own
  refine ⟨hR.below, hR.base, hR.f0, hR.defers, hR.size, O, hOr, fun k av hav => ?_, hL⟩
  rw [St.get_cons] at hav
  split at hav
  · rename_i e
    subst e
    cases hav
    exact ⟨z, ht, Rd.v hz⟩
  · obtain ⟨v, hv, h⟩ := hO k av hav
    exact ⟨v, hv, h.sim (simS_get hs k av hav) (fun c hc _ => ⟨hc, rfl⟩) (fun c _ hc _ _ => ⟨hc, rfl⟩)⟩
/-- The blocks of the boxes. -/
def BoxOf (σ : St) (a : Act) (b : Nat) : Prop := ∃ t cs, σ.get t = some (.bx cs) ∧ a.tmps[t]? = some (.pointer (some ⟨b, 0, none⟩))
/-- Anew from this world on: what is not a box of σ's lies as it lies. -/
theorem RelZ.reb (hs : simS σ = true) (hR : RelZ P B F0 w0 n [] σ a W) : ∃ F1, RelZ P W.heap.size F1 ⟨W, BoxOf σ a⟩ n [] σ a W ∧ (∀ b, BoxOf σ a b → isCellsB W b ∧ b < W.heap.size) ∧
    ∀ R' σ' a' W', simS σ' = true → owR R' = true → RelZ P W.heap.size F1 ⟨W, BoxOf σ a⟩ n R' σ' a' W' → RelZ P B F0 w0 n R' σ' a' W' := by
  obtain ⟨O, hOr, hO, hL⟩ := hR.own
  have hbox : ∀ b t cs, σ.get t = some (.bx cs) → a.tmps[t]? = some (.pointer (some ⟨b, 0, none⟩)) → O b = some t ∧ isCellsB W b := fun b t cs ht hb => by
    obtain ⟨v, hv, b', es, e, rfl, h2, h3, _⟩ := hO t _ ht
    rw [hb] at hv
    simp only [Option.some.injEq, Value.pointer.injEq, Addr.mk.injEq] at hv
    obtain ⟨rfl, _⟩ := hv
    exact ⟨h2, _, _, _, h3⟩
  have hFlt : ∀ b, FW B F0 W b → b < W.heap.size := fun b hb => (FW.step hR.f0 hR.base (Nat.le_refl _) b hb).1
  have hX : ∀ b, BoxOf σ a b → isCellsB W b ∧ b < W.heap.size := fun b ⟨t, cs, h1, h2⟩ => ⟨(hbox b t cs h1 h2).2, (hOr b t (hbox b t cs h1 h2).1).2⟩
  have hXO : ∀ b, BoxOf σ a b → ∃ t, O b = some t := fun b ⟨t, cs, h1, h2⟩ => ⟨t, (hbox b t cs h1 h2).1⟩
  let O1 : Nat → Option Nat := fun b => open Classical in if BoxOf σ a b then O b else none
  have hO1 : ∀ b t, O1 b = some t → BoxOf σ a b ∧ O b = some t := fun b t h => by
    simp only [O1] at h
    split at h
    · exact ⟨by assumption, h⟩
    · cases h
  have hO1n : ∀ b, O b = none → O1 b = none := fun b h => by
    simp only [O1]
    split
    · exact h
    · rfl
  have hf0 : F0ok W.heap.size (FW B F0 W) ⟨W, BoxOf σ a⟩ := ⟨hFlt, fun b hb => by obtain ⟨t, ht⟩ := hXO b hb; exact (hOr b t ht).fw hR.f0⟩
  refine ⟨FW B F0 W, ⟨.refl _ _ _, Nat.le_refl _, hf0, hR.defers, hR.size, O1, fun b t hb => ?_, fun t av hav => ?_, fun i r h => by simp at h⟩, hX, fun R' σ' a' W' hs' ho' h => ?_⟩
  · exact ⟨.inr (hO1 b t hb).1, (hOr b t (hO1 b t hb).2).2⟩
  · obtain ⟨v, hv, h⟩ := hO t av hav
    refine ⟨v, hv, h.sim (simS_get hs t av hav) (fun c hc _ => ⟨⟨hO1n c hc.1, .inl hc.2⟩, rfl⟩) (fun c hh hc _ hvc => ⟨?_, rfl⟩)⟩
    simp only [O1]
    rw [if_pos, hc]
    cases av with
    | bx cs => exact ⟨t, cs, hav, by rw [hv, hvc]⟩
    | d x => cases hh
    | _ => have := simS_get hs t _ hav; simp [simA] at this
  · obtain ⟨O2, hOr2, hO2, hL2⟩ := h.own
    have hsz : W.heap.size ≤ W'.heap.size := h.base
    have hF : ∀ c, Free O2 (FW W.heap.size (FW B F0 W) W') c → isCellsB W' c → Free O2 (FW B F0 W') c ∧ W'.heap[c]? = W'.heap[c]? := fun c hc _ => ⟨⟨hc.1, by
      rcases hc.2 with (g | ⟨g1, g2⟩) | ⟨g1, g2⟩
      · exact .inl g
      · exact .inr ⟨g1, Nat.lt_of_lt_of_le g2 hsz⟩
      · exact .inr ⟨Nat.le_trans hR.base g1, g2⟩⟩, rfl⟩
    refine ⟨hR.below.back (w1 := ⟨W, BoxOf σ a⟩) hR.base (fun b hb => by obtain ⟨t, ht⟩ := hXO b hb; exact (hOr b t ht).1) h.below, Nat.le_trans hR.base hsz, hR.f0, h.defers, h.size, O2, fun b t hb => ?_, fun t av hav => ?_, fun i r hi => ?_⟩
    · refine ⟨?_, (hOr2 b t hb).2⟩
      rcases (hOr2 b t hb).1 with g | g
      · exact .inl (Nat.le_trans hR.base g)
      · obtain ⟨t', ht'⟩ := hXO b g; exact (hOr b t' ht').1
    · obtain ⟨v, hv, hh⟩ := hO2 t av hav
      exact ⟨v, hv, hh.sim (simS_get hs' t av hav) hF (fun c _ hc _ _ => ⟨hc, rfl⟩)⟩
    · obtain ⟨V, e, xs, rfl⟩ := owR_get ho' i r hi
      exact (hL2 i _ hi).sim hF (fun c hc _ => ⟨hc, rfl⟩)
/-- Operations under marks. -/
def addD (ds : List Deferred) (a : Act) : Act := { a with defers := a.defers ++ ds }
theorem addD_put (ds : List Deferred) (a : Act) (d : Option Tmp) (v : Value) : (addD ds a).put d v = addD ds (a.put d v) := by cases d <;> simp [addD, Act.put]
theorem wpList_defers {ops : Array Oper} {Q : Exit → Act → World → Prop} (ds : List Deferred) (hp : ∀ c a w, ¬ Q (.panic c) a w) (ho : ¬ LetsOut Q) : ∀ (os : List Oper) (a : Act) (w : World), wpList P ops Q os a w →
    wpList P ops (fun e a' w' => e = .normal ∧ ∃ a1, a' = addD ds a1 ∧ Q .normal a1 w') os (addD ds a) w
  | [], a, w, h => ⟨rfl, a, rfl, h⟩
  | o :: os, a, w, h => by
    have ih : ∀ (b : Act) (w : World), wpList P ops Q os b w → wpList P ops (fun e a' w' => e = .normal ∧ ∃ a1, a' = addD ds a1 ∧ Q .normal a1 w') os (addD ds b) w := fun b w h => wpList_defers ds hp ho os b w h
    unfold wpList at h ⊢
    split at h
    · rw [if_pos (by assumption)]
      rcases h with h | ⟨_, h⟩
      · refine .inl ?_
        unfold Oper.wp at h ⊢
        show o.upon P _ _ _ ((execOp a.eval o).run P w)
        generalize hr : (execOp a.eval o).run P w = r at h
        cases r with
        | ok x w' =>
          cases x <;> simp only [Oper.upon] at h ⊢
          · rw [addD_put]; exact ih _ _ h
          · rw [addD_put]; exact ih _ _ h
          · exact Calls.mono h (fun e w'' he => by
              cases e
              · show wpList P ops _ os ((addD ds a).put o.dst _) _
                rw [addD_put]; exact ih _ _ he
              · exact absurd he (hp _ _ _)
              · exact absurd he ho)
          · rename_i d
            have e : ({ addD ds a with defers := d :: (addD ds a).defers } : Act) = addD ds { a with defers := d :: a.defers } := rfl
            rw [e, addD_put]; exact ih _ _ h
          · exact Rows.mono h (fun v w'' he => by
              show wpList P ops _ os ((addD ds a).put o.dst _) _
              rw [addD_put]; exact ih _ _ he)
        | halt x w' => cases x <;> simp only [Oper.upon] at h <;> exact absurd h (hp _ _ _)
      · exact absurd h ho
    · rw [if_neg (by assumption)]
      rw [addD_put]
      exact ih _ _ h
/-- What a function hands back, from its last state. -/
theorem RelZ.result (hT : TOk P T) {fn : Func} {rs : List ResultVar} (hrs : fn.results.toList = rs) {w : World} {F F1 : Nat → Prop} {O : Nat → Option Nat} {R' : List LR} {σ' : St} {res : D} (hR : RelZ P w.heap.size F1 ⟨w, fun _ => False⟩ n R' σ' a W) (hq : resZ T σ' rs = some res) (hF : ∀ b, F1 b → F b) :
    ∃ v, (results fn a.tmps).run P W = .ok v W ∧ ∃ O', BelY w.heap.size ⟨w, Owned O⟩ w W ∧ (∀ b t, O' b = some t → OwnR w.heap.size ⟨w, Owned O⟩ W b) ∧ Rd W (Free O' (FW w.heap.size F W)) res v ∧ ∀ (i : Nat) (r : LR), R'[i]? = some r → LooseAt P W O' (FW w.heap.size F W) i r := by
  obtain ⟨O2, hOr2, hO2, hL2⟩ := hR.own
  obtain ⟨v, hv, hrd⟩ := resZ_sound hT hrs hR.rel hOr2 hO2 hq
  let O3 : Nat → Option Nat := fun b => match O2 b with
    | some t => if n ≤ t then some (t - n) else none
    | none => none
  have h3n : ∀ c, O2 c = none → O3 c = none := fun c hc => by simp only [O3, hc]
  have h3 : ∀ c t, O3 c = some t → O2 c = some (n + t) := fun c t hc => by
    simp only [O3] at hc
    split at hc
    · rename_i s hs
      split at hc
      · cases hc; rw [hs]; congr 1; omega
      · cases hc
    · cases hc
  have hFW : ∀ c, FW w.heap.size F1 W c → FW w.heap.size F W c := fun c hc => by
    rcases hc with h | h
    · exact .inl (hF c h)
    · exact .inr h
  refine ⟨v, hv, O3, ⟨hR.below.os, hR.below.tape, hR.below.output, hR.below.size, fun k hk _ => hR.below.block k hk (fun h => h), hR.below.same⟩, fun b t hb => ?_, hrd.mono (fun c hc => ⟨h3n c hc.1, hFW c hc.2⟩) (fun _ _ => rfl), fun i r hr => ?_⟩
  · obtain ⟨g1, g2⟩ := hOr2 b _ (h3 b t hb)
    rcases g1 with g1 | g1
    · exact ⟨.inl g1, g2⟩
    · exact g1.elim
  · exact (hL2 i r hr).owner (fun c hc => by simp only [O3, hc]; rw [if_pos (by omega)]; congr 1; omega) (fun c hc => ⟨h3n c hc.1, hFW c hc.2⟩)
end
end Lift
/- Groups: the next group of two bodies. -/
namespace Lift
open Go Go.Proofs
open Go.RowKit (Below)

def parS (l : Lkg) (kn : List Bool) (i j : Nat) : Option Grp :=
  if 0 ≤ ancF l kn 0 i ∧ 0 ≤ ancF l kn 0 j ∧ 0 ≤ jtF 0 i (fun o => decide ((o : Int) = j)) l.joints then some ⟨1, [(i : Int), j], [ancF l kn 0 i, ancF l kn 0 j, jtF 0 i (fun o => decide ((o : Int) = j)) l.joints], 0⟩ else none
def parG (l : Lkg) (kn dr : List Bool) : Option Grp := (prsF (freF kn dr) l.bodies.length).findSome? (fun p => parS l kn p.1 p.2)
abbrev pZ : List D := [dI 0, .sl 1 [], .sl 1 [], dI 0]
abbrev pSt (l : Lkg) (kn dr us : List Bool) (g : D) : St := [(1, .bx [.pr (FinC l kn dr us g)]), (2, .bx pZ), (3, .bx [dB false])]
abbrev pStN (l : Lkg) (kn dr us : List Bool) (g : D) : St := [(1, .bx [.pr (FinC l kn dr us g)]), (2, .bx [dI 0, .v nilS, .v nilS, dI 0]), (3, .bx [dB false])]
abbrev pStR (l : Lkg) (kn dr us : List Bool) (g : D) (r : Grp) (Vb Vj : Value) : St := [(1, .bx [.pr (FinC l kn dr us g)]), (2, .bx [dI r.kind, .v Vb, .v Vj, dI r.dr]), (3, .bx [dB true])]
abbrev pStX (l : Lkg) (kn dr us : List Bool) (g : D) (i j : Nat) : St := [(1, .bx [.pr (FinC l kn dr us g)]), (2, .bx pZ), (3, .bx [dB false]), (4, .d (dI i)), (5, .bx [dI j])]
theorem pair_hq (l : Lkg) (i j : Nat) (b : Int) (h0 : 0 ≤ b) : Pure Try.prog 64 ([] ++ [dI b] ++ [.pr [dI j]]) (dB ((fun o : Nat => decide ((o : Int) = j)) b.toNat)) := by
  have := fin_pair1_ok b j
  simp only [Int.toNat_of_nonneg h0]
  exact this
/-- The body of the range, in a round. -/
theorem pair_body (l : Lkg) (hl : LkIn l) (kn dr us : List Bool) (g : D) (hk : kn.length = l.bodies.length) (i j : Nat) {B : Nat} {F0 : Nat → Prop} {w0 : Bas} (r : Nat) (p1 p2 p3 : Value) {c : Code} (hc : c = (match Try.f44.body with
    | some (.seq _ (.seq (.seq _ (.block _ (.rangeFunc _ _ _ b))) _)) => b
    | _ => .skip)) :
    AR Try.prog B F0 w0 42 r [(1, p1), (2, p2), (3, p3)] c (fun e R σ => (e = .normal ∧ R = [] ∧ σ.keep [1, 2, 3] = pSt l kn dr us g ∧ parS l kn i j = none) ∨ (e = .ret ∧ ∃ r Vb Vj, parS l kn i j = some r ∧ R = [(Vb, AV.ow 3 (IsL r.bs)), (Vj, AV.ow 3 (IsL r.js))] ∧ σ.keep [1, 2, 3] = pStR l kn dr us g r Vb Vj)) [] (pStX l kn dr us g i j) := by
  subst hc
  obtain ⟨hb1, hb2, hj1, hd1, hj, hd⟩ := hl
  have hP : parS l kn i j = if 0 ≤ ancF l kn 0 i ∧ 0 ≤ ancF l kn 0 j ∧ 0 ≤ jtF 0 i (fun o => decide ((o : Int) = j)) l.joints then some ⟨1, [(i : Int), j], [ancF l kn 0 i, ancF l kn 0 j, jtF 0 i (fun o => decide ((o : Int) = j)) l.joints], 0⟩ else none := rfl
  have cA := fin_anchored_ok l (by unfold big; omega) kn dr us g 0 i (fun i hi => by rw [hk]; exact othF_lt hj hb1 hi)
  have cB := fin_anchored_ok l (by unfold big; omega) kn dr us g 0 j (fun i hi => by rw [hk]; exact othF_lt hj hb1 hi)
  have cC := fin_joint_ok l (by unfold big; omega) kn dr us g 0 i (fun o : Nat => decide ((o : Int) = j)) (fun i' hi h0 => pair_hq l i j _ h0)
  refine AR.block ?_
  refine AR.seq ?_
  refine AR.any hmix rfl rfl (ZAny.draw 6 (by kernel_rfl) (fun B1 F1 w1 => ?_))
  refine APre.run tok 2 _ _ _ _ rfl ?_
  refine APre.call tok rfl rfl rfl rfl rfl cA ?_
  refine APre.run tok 2 _ _ _ _ rfl ?_
  refine APre.call tok rfl rfl rfl rfl rfl cB ?_
  refine APre.nil ⟨rfl, ?_⟩
  refine AZOps.cut 2 rfl (fun B1 F1 w1 => ?_)
  refine AOps.run tok 2 _ _ _ _ rfl ?_
  refine AOps.nil ⟨rfl, ?_⟩
  refine AZOps.nil ⟨rfl, ?_⟩
  refine AR.to [1, 2, 3, 4, 5, 6, 7] [(1, .bx [.pr (FinC l kn dr us g)]), (2, .bx pZ), (3, .bx [dB false]), (4, .d (dI i)), (5, .bx [dI j]), (6, .d (dI (ancF l kn 0 i))), (7, .d (dI (ancF l kn 0 j)))] rfl ?_
  refine AR.seq ?_
  refine AR.region rfl rfl ?_
  refine AZOps.cut 5 rfl (fun B1 F1 w1 => ?_)
  refine AOps.run tok 2 _ _ _ _ rfl ?_
  refine AOps.frzb 5 rfl ?_
  refine AOps.mkfn tok rfl rfl rfl rfl ?_
  refine AOps.call tok rfl rfl rfl rfl cC ?_
  refine AOps.run tok 1 _ _ _ _ rfl ?_
  refine AOps.nil ⟨rfl, ?_⟩
  refine AZOps.nil ?_
  refine AR.to [1, 2, 3, 4, 5, 6, 7, 8] [(1, .bx [.pr (FinC l kn dr us g)]), (2, .bx pZ), (3, .bx [dB false]), (4, .d (dI i)), (5, .d (.pr [dI j])), (6, .d (dI (ancF l kn 0 i))), (7, .d (dI (ancF l kn 0 j))), (8, .d (dI (jtF 0 i (fun o => decide ((o : Int) = j)) l.joints)))] rfl ?_
  generalize ancF l kn 0 i = a at *
  generalize ancF l kn 0 j = b at *
  generalize jtF 0 i (fun o => decide ((o : Int) = j)) l.joints = c at *
  refine AR.seq ?_
  refine AR.region rfl rfl ?_
  refine AZOps.cut 10 rfl (fun B1 F1 w1 => ?_)
  refine AOps.run tok 3 _ _ _ _ rfl ?_
  refine AOps.split (t := 25) rfl (fun h => ?_) (fun h => ?_)
  rotate_left
  · have h1 : ¬ 0 ≤ a := of_decide_eq_false h
    rw [if_neg (fun h => h1 h.1)] at hP
    refine AOps.run tok 4 _ _ _ _ rfl ?_
    refine AOps.split (t := 29) rfl (fun h => by cases h) (fun h => ?_)
    refine AOps.run tok 3 _ _ _ _ rfl ?_
    refine AOps.nil ⟨rfl, ?_⟩
    refine AZOps.nil ?_
    refine AR.cond rfl (fun h => by cases h) (fun h => ?_)
    exact AR.skip (.inl ⟨rfl, rfl, rfl, hP⟩)
  have h1 : 0 ≤ a := of_decide_eq_true h
  refine AOps.run tok 4 _ _ _ _ rfl ?_
  refine AOps.split (t := 29) rfl (fun h => ?_) (fun h => ?_)
  rotate_left
  · have h2 : ¬ 0 ≤ b := of_decide_eq_false h
    rw [if_neg (fun h => h2 h.2.1)] at hP
    refine AOps.run tok 3 _ _ _ _ rfl ?_
    refine AOps.nil ⟨rfl, ?_⟩
    refine AZOps.nil ?_
    refine AR.cond rfl (fun h => by cases h) (fun h => ?_)
    exact AR.skip (.inl ⟨rfl, rfl, rfl, hP⟩)
  have h2 : 0 ≤ b := of_decide_eq_true h
  refine AOps.run tok 3 _ _ _ _ rfl ?_
  refine AOps.nil ⟨rfl, ?_⟩
  refine AZOps.nil ?_
  refine AR.cond rfl (fun h => ?_) (fun h => ?_)
  rotate_left
  · have h3 : ¬ 0 ≤ c := of_decide_eq_false h
    rw [if_neg (fun h => h3 h.2.2)] at hP
    exact AR.skip (.inl ⟨rfl, rfl, rfl, hP⟩)
  have h3 : 0 ≤ c := of_decide_eq_true h
  rw [if_pos ⟨h1, h2, h3⟩] at hP
  refine AR.to [1, 2, 3, 4, 5, 6, 7, 8] [(1, .bx [.pr (FinC l kn dr us g)]), (2, .bx pZ), (3, .bx [dB false]), (4, .d (dI i)), (5, .d (.pr [dI j])), (6, .d (dI a)), (7, .d (dI b)), (8, .d (dI c))] rfl ?_
  refine AR.seq ?_
  refine AR.region rfl rfl ?_
  refine AZOps.cut 7 rfl (fun B1 F1 w1 => ?_)
  refine AOps.run tok 2 _ _ _ _ rfl ?_
  refine AOps.bs tok rfl rfl rfl rfl ?_
  refine AOps.run tok 3 _ _ _ _ rfl ?_
  refine AOps.bs tok rfl rfl rfl rfl ?_
  refine AOps.nil ⟨rfl, ?_⟩
  refine AZOps.loosen 35 rfl rfl rfl (fun Vb => ?_)
  refine AZOps.loosen 39 rfl rfl rfl (fun Vj => ?_)
  refine AZOps.cut 3 rfl (fun B1 F1 w1 => ?_)
  refine AOps.run tok 3 _ _ _ _ rfl ?_
  refine AOps.nil ⟨rfl, ?_⟩
  refine AZOps.nil ?_
  exact AR.ret (.inr ⟨rfl, _, Vb, Vj, hP, rfl, rfl⟩)
end Lift
/- Groups: the next group of two bodies: the range over the pairs. -/
namespace Lift
open Go Go.Proofs
open Go.RowKit (Below)

theorem findSome_pre {α β : Type} {f : α → Option β} : ∀ {xs : List α}, (∀ p, p ∈ xs → f p = none) → xs.findSome? f = none
  | [], _ => rfl
  | x :: xs, h => by rw [List.findSome?_cons, h x (by simp)]; exact findSome_pre (fun p hp => h p (by simp [hp]))
theorem findSome_at {α β : Type} {f : α → Option β} {x : α} {b : β} {ys : List α} : ∀ {xs : List α}, (∀ p, p ∈ xs → f p = none) → f x = some b → (xs ++ x :: ys).findSome? f = some b
  | [], _, hx => by rw [List.nil_append, List.findSome?_cons, hx]
  | y :: xs, h, hx => by rw [List.cons_append, List.findSome?_cons, h y (by simp)]; exact findSome_at (fun p hp => h p (by simp [hp])) hx
/-- Where a round's frame begins. -/
abbrev rAct {nb : Nat} (a : Act) (x : PrT nb) : Act := { tmps := ((#[11, 12] : Array Tmp).zip (encP x)).foldl (fun t (p, v) => t.setIfInBounds p v) a.tmps, defers := [] }
theorem rAct_11 {nb : Nat} {a : Act} {x : PrT nb} (h : a.tmps.size = 42) : (rAct a x).tmps[11]? = some (.int .i64 (x.1.1 : Nat)) := by
  simp [rAct, encP, h]
theorem rAct_12 {nb : Nat} {a : Act} {x : PrT nb} (h : a.tmps.size = 42) : (rAct a x).tmps[12]? = some (.int .i64 (x.1.2 : Nat)) := by
  simp [rAct, encP, h]
theorem rAct_ne {nb : Nat} {a : Act} {x : PrT nb} {t : Nat} (h1 : t ≠ 11) (h2 : t ≠ 12) : (rAct a x).tmps[t]? = a.tmps[t]? := by
  simp [rAct, encP, Array.getElem?_setIfInBounds, Ne.symm h1, Ne.symm h2]
theorem rAct_size {nb : Nat} {a : Act} {x : PrT nb} : (rAct a x).tmps.size = a.tmps.size := by
  simp [rAct, encP]
theorem keepsFrom_of {P : Program} {F1 : Nat → Prop} {X : Nat → Prop} {n : Nat} {R : List LR} {σ : St} {a : Act} {W W' : World} (k : Nat) (hX : ∀ b, X b → isCellsB W b ∧ b < W.heap.size) (h : RelZ P W.heap.size F1 ⟨W, X⟩ n R σ a W') : KeepsFrom k W W' :=
  ⟨h.below.size, fun i o _ hi ho => by
    rw [h.below.block i (Array.getElem?_eq_some_iff.1 hi).1 (fun hx => ?_)]
    · exact hi
    · obtain ⟨⟨cs, e, fz, hc⟩, _⟩ := hX i hx
      rw [hc] at hi; cases hi; cases ho⟩
theorem pSt_t {l : Lkg} {kn dr us : List Bool} {g : D} {t : Nat} {av : AV} (h : (pSt l kn dr us g).get t = some av) : t = 1 ∨ t = 2 ∨ t = 3 := by
  rw [St.get_cons] at h
  split at h
  · exact .inl (by omega)
  rw [St.get_cons] at h
  split at h
  · exact .inr (.inl (by omega))
  rw [St.get_cons] at h
  split at h
  · exact .inr (.inr (by omega))
  cases h
theorem pStX_t {l : Lkg} {kn dr us : List Bool} {g : D} {i j t : Nat} {cs : List D} (h : (pStX l kn dr us g i j).get t = some (.bx cs)) : t = 1 ∨ t = 2 ∨ t = 3 ∨ t = 5 := by
  rw [St.get_cons] at h
  split at h
  · exact .inl (by omega)
  rw [St.get_cons] at h
  split at h
  · exact .inr (.inl (by omega))
  rw [St.get_cons] at h
  split at h
  · exact .inr (.inr (.inl (by omega)))
  rw [St.get_cons] at h
  split at h
  · cases h
  rw [St.get_cons] at h
  split at h
  · exact .inr (.inr (.inr (by omega)))
  cases h
theorem enters_ok {P : Program} {f : FuncId} (hok : CallOk P f) (args : Array Value) (w : World) : (callFunc f args).run P w = .ok (.enter f args) w := by
  obtain ⟨fn, h1, h2, h3⟩ := hok
  simp only [callFunc, Sem.run_bind, Sem.run_pure, Result.andThen_ok, run_program, h1, h2, h3, Bool.false_eq_true, if_false]
/-- The function is left, behind the range. -/
theorem pair_leave {w : World} {F : Nat → Prop} {O : Nat → Option Nat} {o : Option Grp} {R' : List LR} {σ' : St} {a1 : Act} {W2 : World} {D : Nat} {res : Lift.D} (hs : simS σ' = true) (ho : owR R' = true) (hR : RelZ Try.prog w.heap.size (Free O F) ⟨w, fun _ => False⟩ 42 R' σ' a1 W2) (hD : w.heap.size ≤ D) (hDW : W2.heap[D]? = some (.deferred (some []))) (hq : resZ tys σ' [ResultVar.cell 2 53, ResultVar.cell 3 4] = some res) (hP : grpPost o res R') :
    LeavesInM Fence.wide 9 Try.prog Try.f44 a1.tmps (fun ee w' => ∃ v res R' O', ee = Ending.returned v ∧ grpPost o res R' ∧ BelY w.heap.size ⟨w, Owned O⟩ w w' ∧ (∀ b t, O' b = some t → OwnR w.heap.size ⟨w, Owned O⟩ w' b) ∧ Rd w' (Free O' (FW w.heap.size F w')) res v ∧
      ∀ (i : Nat) (r : LR), R'[i]? = some r → LooseAt Try.prog w' O' (FW w.heap.size F w') i r) (addD [{ target := .collected D, args := #[] }] a1).defers .returning W2 := by
  have hd := hR.defers
  have e : (addD [{ target := .collected D, args := #[] }] a1).defers = [{ target := .collected D, args := #[] }] := by simp [addD, hd]
  rw [e]
  refine ⟨by simp, .inl ⟨D, _, rfl, run_takeDeferred hDW, ?_⟩⟩
  have hR9 := hR.grown hs ho (grownBy_putObj' W2 D (.deferred none)) (fun r e => by cases e; exact ⟨hD, _, hDW, rfl⟩)
  obtain ⟨v, hv, O', h1, h2, h3, h4⟩ := RelZ.result (O := O) (F := F) tok (fn := Try.f44) (rs := [ResultVar.cell 2 53, ResultVar.cell 3 4]) rfl hR9 hq (fun b hb => hb.2)
  exact ⟨v, hv, v, res, R', O', rfl, hP, h1, h2, h3, h4⟩
set_option maxHeartbeats 6400000 in
theorem fin_pair_ok (l : Lkg) (hl : LkIn l) (kn dr us : List Bool) (g : D) (hk : kn.length = l.bodies.length) (hr : dr.length = l.bodies.length) : CallZ Try.prog 44 [.pr (FinC l kn dr us g)] [] (grpPost (parG l kn dr)) := by
  refine ⟨⟨_, Try.func44, by kernel_rfl, rfl⟩, fun w F O vs hF hOF hlen hr' hL => ?_⟩
  obtain ⟨v0, rfl⟩ : ∃ v0, vs = [v0] := by
    match vs, hlen with
    | [v], _ => exact ⟨v, rfl⟩
  have hd0 := hr' 0 _ v0 rfl rfl
  refine callsIn_wide.1 (callsIn_of_wp_marks (F := Fence.wide) (n := 9) Try.func44 rfl trivial ?_)
  have hR0 : RelZ Try.prog w.heap.size (Free O F) ⟨w, fun _ => False⟩ 42 [] (initSt 0 [.pr (FinC l kn dr us g)]) { tmps := #[v0] ++ Array.replicate (42 - 1) undef, defers := [] } w := by
    refine ⟨.refl _ _ _, Nat.le_refl _, ⟨fun b hb => hF b hb.2, fun _ h => h.elim⟩, rfl, by simp, fun _ => none, (fun b t h => by cases h), fun t av hav => ?_, fun i r h => by simp at h⟩
    rw [initSt, initSt, St.get_cons] at hav
    split at hav
    · rename_i e
      subst e
      cases hav
      exact ⟨v0, by simp, Rd.mono hd0 (fun c hc => ⟨rfl, .inl hc⟩) (fun _ _ => rfl)⟩
    · cases hav
  refine wpIn_seq (wpIn_mono (wpIn_wide.2 ((show AZ Try.prog w.heap.size (Free O F) ⟨w, fun _ => False⟩ 42 _ (fun e R σ => e = .normal ∧ R = [] ∧ σ.keep [1, 2, 3] = pSt l kn dr us g) [] (initSt 0 [.pr (FinC l kn dr us g)]) from ?_) _ w hR0)) (fun e a w1 h1 => ?_))
  · refine AZ.reg (fun B1 F1 w1 => ?_)
    refine AOps.run tok 3 _ _ _ _ rfl ?_
    exact AOps.nil ⟨rfl, rfl, rfl, rfl⟩
  obtain ⟨_, σ1, ⟨rfl, rfl, hk1⟩, hR1⟩ := h1
  have hR1 := hR1.keep [1, 2, 3]
  rw [hk1] at hR1
  change Code.wpIn _ _ _ _ _ _ _
  refine wpIn_seq (wpIn_seq (wpIn_mono (wpIn_wide.2 ((show AZ Try.prog w.heap.size (Free O F) ⟨w, fun _ => False⟩ 42 _ (fun e R σ => e = .normal ∧ R = [] ∧ σ.keep [1, 2, 3, 10] = pSt l kn dr us g ++ [(10, .d (.fn 82 [] [.pr [.pr (FinC l kn dr us g)]]))]) [] (pSt l kn dr us g) from ?_) a w1 hR1)) (fun e a w2 h2 => ?_)))
  · refine AZ.reg (fun B1 F1 w1 => ?_)
    refine AOps.run tok 1 _ _ _ _ rfl ?_
    refine AOps.call tok rfl rfl rfl rfl (fin_pairs_ok l kn dr us g) ?_
    exact AOps.nil ⟨rfl, rfl, rfl, rfl⟩
  obtain ⟨_, σ2, ⟨rfl, rfl, hk2⟩, hR2⟩ := h2
  have hR2 := hR2.keep [1, 2, 3, 10]
  rw [hk2] at hR2
  change Code.wpIn _ _ _ _ _ _ _
  refine wpIn_block ?_
  have hPst : RelZ Try.prog w.heap.size (Free O F) ⟨w, fun _ => False⟩ 42 [] (pSt l kn dr us g) a w2 := hR2.keep [1, 2, 3]
  have hdef := hR2.defers
  have hsz := hR2.size
  obtain ⟨OA, hOA, hOs, _⟩ := hR2.own
  obtain ⟨v10, hv10, hr10⟩ := hOs 10 _ rfl
  obtain ⟨va, vc, rfl, la, lc, _, rc⟩ := Rd.fn_eq hr10
  obtain ⟨V1, rfl⟩ : ∃ V1, vc = [V1] := by
    match vc, lc with
    | [v], _ => exact ⟨v, rfl⟩
  have hva : va = [] := List.length_eq_zero_iff.1 la
  subst hva
  have hV1 := rc 0 _ V1 rfl rfl
  obtain ⟨G, hGe⟩ : ∃ G, G = Free OA (FW w.heap.size (Free O F) w2) := ⟨_, rfl⟩
  rw [← hGe] at hV1
  have hGlt : ∀ b, G b → b < w2.heap.size := fun b hb => by rw [hGe] at hb; exact (FW.step hR2.f0 hR2.base (Nat.le_refl _) b hb.2).1
  have hGn : ∀ (b t : Nat) (cs : List D), (pSt l kn dr us g).get t = some (.bx cs) → a.tmps[t]? = some (.pointer (some ⟨b, 0, none⟩)) → ¬ G b := fun b t cs h1 h2 hG => by
    rw [hGe] at hG
    have h3 : St.get (pSt l kn dr us g ++ [(10, .d (.fn 82 [] [.pr [.pr (FinC l kn dr us g)]]))]) t = some (.bx cs) := by
      rcases pSt_t h1 with rfl | rfl | rfl <;> exact h1
    obtain ⟨v, hv, b', es, e, rfl, h4, _⟩ := hOs t _ h3
    rw [h2] at hv
    simp only [Option.some.injEq, Value.pointer.injEq, Addr.mk.injEq] at hv
    obtain ⟨rfl, _⟩ := hv
    have := hG.1
    rw [h4] at this; cases this
  obtain ⟨q1, hq1, _⟩ := hOs 1 _ rfl
  obtain ⟨q2, hq2, _⟩ := hOs 2 _ rfl
  obtain ⟨q3, hq3, _⟩ := hOs 3 _ rfl
  have hpt : ∀ a' : Act, PinsOk [(1, q1), (2, q2), (3, q3)] a' → ∀ t, t = 1 ∨ t = 2 ∨ t = 3 → a.tmps[t]? = a'.tmps[t]? := fun a' hp t ht => by
    rcases ht with rfl | rfl | rfl
    · rw [hq1]; exact (hp (1, q1) (by simp)).symm
    · rw [hq2]; exact (hp (2, q2) (by simp)).symm
    · rw [hq3]; exact (hp (3, q3) (by simp)).symm
  have hBw : w.heap.size ≤ w2.heap.size := hR2.base
  refine wpIn_rangeFunc_ownH (α := PrT l.bodies.length) rfl (by decide) (gf := 82) (lb := #[V1]) (eval_tmp hv10) trivial (fun args w => ?_) (fin_pairs1_ok l hl kn dr us g hk hr hGlt hV1 8) (fun h1 h2 => ⟨Nat.le_trans h1.1 h2.1, fun b hb => (h2.2 b hb).trans (h1.2 b hb)⟩) (fun W lo o o' hlo _ _ _ => ⟨by simp [World.putObj], fun b hb => World.putObj_heap_other (by have := hGlt b hb; omega)⟩) (Below.refl _ _) (fun _ => rfl)
    (fun pre W => w2.heap.size ≤ W.heap.size ∧ (∀ p, p ∈ pvals pre → parS l kn p.1 p.2 = none) ∧ RelZ Try.prog w.heap.size (Free O F) ⟨w, fun _ => False⟩ 42 [] (pSt l kn dr us g) a W)
    (fun c pre W => c = .ret ∧ ∃ rest q r Vb Vj, pvals pre = rest ++ [q] ∧ (∀ p, p ∈ rest → parS l kn p.1 p.2 = none) ∧ parS l kn q.1 q.2 = some r ∧ RelZ Try.prog w.heap.size (Free O F) ⟨w, fun _ => False⟩ 42 [(Vb, AV.ow 3 (IsL r.bs)), (Vj, AV.ow 3 (IsL r.js))] (pStR l kn dr us g r Vb Vj) a W)
    (fun s W W' row hs hg hrw => ⟨Nat.le_trans hs.1 hg.size, hs.2.1, hs.2.2.grown rfl rfl hg (fun r e => by obtain ⟨h1, h2⟩ := hrw r e; exact ⟨by omega, h2⟩)⟩)
    (fun c s W W' row hs hg hrw => by
      obtain ⟨h0, rest, q, r, Vb, Vj, h1, h2, h3, h4⟩ := hs
      exact ⟨h0, rest, q, r, Vb, Vj, h1, h2, h3, h4.grown rfl rfl hg (fun r e => by obtain ⟨h1, h2⟩ := hrw r e; exact ⟨by omega, h2⟩)⟩)
    ⟨Nat.le_refl _, (fun p hp => by simp [pvals] at hp), hPst⟩
    (fun x a' W => PinsOk [(1, q1), (2, q2), (3, q3)] a' ∧ RelZ Try.prog w.heap.size (Free O F) ⟨w, fun _ => False⟩ 42 [] (pStX l kn dr us g x.1.1 x.1.2) a' W ∧ ∃ b5, a'.tmps[5]? = some (.pointer (some ⟨b5, 0, none⟩)) ∧ w2.heap.size ≤ b5)
    (fun x a' _ W W' row hs hg hrw => ⟨hs.1, hs.2.1.grown rfl rfl hg (fun r e => by obtain ⟨h1, h2⟩ := hrw r e; exact ⟨by omega, h2⟩), hs.2.2⟩)
    ?_ ?_ ?_ ?_
  · exact enters_ok ⟨_, Try.func82, by kernel_rfl, rfl⟩ args w
  · -- a round begins
    intro lr pre x W K hI hK
    have hRx : RelZ Try.prog w.heap.size (Free O F) ⟨w, fun _ => False⟩ 42 [] (pSt l kn dr us g) (rAct a x) W := hI.2.2.frame2 rfl rfl (by rw [rAct_size]; exact hsz) (fun t av hav => by rcases pSt_t hav with rfl | rfl | rfl <;> exact rAct_ne (by decide) (by decide))
    have hRy := hRx.more (t := 12) rfl (rAct_12 hsz) rfl
    have hRz := hRy.more (t := 11) rfl (rAct_11 hsz) rfl
    obtain ⟨F1, hRb, hX, hback⟩ := hRz.reb rfl
    have hpins : PinsOk [(1, q1), (2, q2), (3, q3)] (rAct a x) := fun e he => by
      simp only [List.mem_cons, List.not_mem_nil, or_false] at he
      rcases he with rfl | rfl | rfl
      · exact (rAct_ne (t := 1) (by decide) (by decide)).trans hq1
      · exact (rAct_ne (t := 2) (by decide) (by decide)).trans hq2
      · exact (rAct_ne (t := 3) (by decide) (by decide)).trans hq3
    have hbx : ∀ b, BoxOf ((11, AV.d (.v (.int .i64 (x.1.1 : Nat)))) :: (12, AV.d (.v (.int .i64 (x.1.2 : Nat)))) :: pSt l kn dr us g) (rAct a x) b → ∃ t cs, (pSt l kn dr us g).get t = some (.bx cs) ∧ a.tmps[t]? = some (.pointer (some ⟨b, 0, none⟩)) := fun b ⟨t, cs, h1, h2⟩ => by
      rw [St.get_cons] at h1
      split at h1
      · cases h1
      rw [St.get_cons] at h1
      split at h1
      · cases h1
      exact ⟨t, cs, h1, by rw [← h2, rAct_ne (by omega) (by omega)]⟩
    refine wpIn_mono ((show AR Try.prog W.heap.size F1 ⟨W, BoxOf ((11, AV.d (.v (.int .i64 (x.1.1 : Nat)))) :: (12, AV.d (.v (.int .i64 (x.1.2 : Nat)))) :: pSt l kn dr us g) (rAct a x)⟩ 42 lr [(1, q1), (2, q2), (3, q3)] _ (fun e R σ => e = .normal ∧ R = [] ∧ σ.keep [1, 2, 3, 4, 5] = pStX l kn dr us g x.1.1 x.1.2) [] ((11, AV.d (.v (.int .i64 (x.1.1 : Nat)))) :: (12, AV.d (.v (.int .i64 (x.1.2 : Nat)))) :: pSt l kn dr us g) from ?_) _ _ W hRb hpins) (fun e a' W' h => ?_)
    · refine AR.seq ?_
      refine AR.region rfl rfl ?_
      refine AZOps.cut 1 rfl (fun B1 F1 w1 => ?_)
      refine AOps.run tok 1 _ _ _ _ rfl ?_
      refine AOps.nil ⟨rfl, ?_⟩
      refine AZOps.nil ?_
      refine AR.region rfl rfl ?_
      refine AZOps.cut 2 rfl (fun B1 F1 w1 => ?_)
      refine AOps.run tok 2 _ _ _ _ rfl ?_
      refine AOps.nil ⟨rfl, ?_⟩
      exact AZOps.nil ⟨rfl, rfl, rfl⟩
    obtain ⟨⟨R', σ', ⟨rfl, rfl, hk'⟩, hR'⟩, hp'⟩ := h
    have hR'k := hR'.keep [1, 2, 3, 4, 5]
    rw [hk'] at hR'k
    have hBk := hback [] _ a' W' rfl rfl hR'k
    refine hK a' W' (keepsFrom_of _ hX hR'k) ⟨hR'k.below.size, fun b hb => hR'k.below.block b (Nat.lt_of_lt_of_le (hGlt b hb) hI.1) (fun h => ?_)⟩ ⟨Nat.le_trans hI.1 hR'k.below.size, hI.2.1, (show RelZ Try.prog w.heap.size (Free O F) ⟨w, fun _ => False⟩ 42 [] (pSt l kn dr us g) a' W' from hBk.keep [1, 2, 3]).frame2 rfl hdef hsz (fun t av hav => hpt a' hp' t (pSt_t hav))⟩ ⟨hp', hBk, ?_⟩
    · obtain ⟨t, cs, h1, h2⟩ := hbx b h
      exact hGn b t cs h1 h2 hb
    · obtain ⟨O', hO'r, hO's, _⟩ := hR'k.own
      obtain ⟨v5, hv5, b5, es, e, rfl, h55, _⟩ := hO's 5 _ rfl
      refine ⟨b5, hv5, ?_⟩
      rcases (hO'r b5 5 h55).1 with h | h
      · exact Nat.le_trans hI.1 h
      · exfalso
        obtain ⟨t, cs, h1, h2⟩ := hbx b5 h
        have ht := pSt_t h1
        rw [hpt a' hp' t ht] at h2
        have h3 : St.get (pStX l kn dr us g x.1.1 x.1.2) t = some (.bx cs) := by rcases ht with rfl | rfl | rfl <;> exact h1
        obtain ⟨v, hv, b', es', e', rfl, h4, _⟩ := hO's t _ h3
        rw [h2] at hv
        simp only [Option.some.injEq, Value.pointer.injEq, Addr.mk.injEq] at hv
        obtain ⟨rfl, _⟩ := hv
        rw [h55] at h4
        cases h4
        omega
  · -- a round
    intro lr pre x a' W hlr hrec hI hAx hlen'
    obtain ⟨hp, hRx, b5, h5, h5s⟩ := hAx
    obtain ⟨F1, hRb, hX, hback⟩ := hRx.reb rfl
    have hnb : ∀ b, G b → ¬ BoxOf (pStX l kn dr us g x.1.1 x.1.2) a' b := fun b hG ⟨t, cs, h1, h2⟩ => by
      have hkey : ∀ t, t = 1 ∨ t = 2 ∨ t = 3 → (pStX l kn dr us g x.1.1 x.1.2).get t = some (.bx cs) → a'.tmps[t]? = some (.pointer (some ⟨b, 0, none⟩)) → False := fun t ht h1 h2 => by
        rw [← hpt a' hp t ht] at h2
        exact hGn b t cs (by rcases ht with rfl | rfl | rfl <;> exact h1) h2 hG
      rcases pStX_t h1 with rfl | rfl | rfl | rfl
      · exact hkey 1 (.inl rfl) h1 h2
      · exact hkey 2 (.inr (.inl rfl)) h1 h2
      · exact hkey 3 (.inr (.inr rfl)) h1 h2
      · rw [h5] at h2
        simp only [Option.some.injEq, Value.pointer.injEq, Addr.mk.injEq] at h2
        obtain ⟨rfl, _⟩ := h2
        have := hGlt b5 hG
        omega
    refine wpIn_mono (pair_body l hl kn dr us g hk x.1.1 x.1.2 lr q1 q2 q3 rfl _ a' W hRb hp) (fun e a2 W2 h => ?_)
    obtain ⟨⟨R', σ', hq, hR'⟩, hp2⟩ := h
    have hR'k := hR'.keep [1, 2, 3]
    rcases hq with ⟨rfl, rfl, hk', hn⟩ | ⟨rfl, r, Vb, Vj, hs, rfl, hk'⟩
    · rw [hk'] at hR'k
      refine ⟨keepsFrom_of _ hX hR'k, ⟨hR'k.below.size, fun b hb => hR'k.below.block b (Nat.lt_of_lt_of_le (hGlt b hb) hI.1) (hnb b hb)⟩, Nat.le_trans hI.1 hR'k.below.size, fun p hp => ?_, (hback [] _ a2 W2 rfl rfl hR'k).frame2 rfl hdef hsz (fun t av hav => hpt a2 hp2 t (pSt_t hav))⟩
      rw [pvals_app] at hp
      rcases List.mem_append.1 hp with h | h
      · exact hI.2.1 p h
      · simp only [pvals, List.map_cons, List.map_nil, List.mem_singleton] at h
        rw [h]; exact hn
    · rw [hk'] at hR'k
      exact ⟨keepsFrom_of _ hX hR'k, rfl, pvals pre, x.1, r, Vb, Vj, by rw [pvals_app]; rfl, hI.2.1, hs, (hback _ _ a2 W2 rfl rfl hR'k).frame2 rfl hdef hsz (fun t av hav => hpt a2 hp2 t (by
        rw [St.get_cons] at hav
        split at hav
        · exact .inl (by omega)
        rw [St.get_cons] at hav
        split at hav
        · exact .inr (.inl (by omega))
        rw [St.get_cons] at hav
        split at hav
        · exact .inr (.inr (by omega))
        cases hav))⟩
  · -- behind the range
    intro D xs W hD hS hI hDW
    have ha : ({ a with defers := { target := .collected D, args := #[] } :: a.defers } : Act) = addD [{ target := .collected D, args := #[] }] a := by simp [addD, hdef]
    rw [ha]
    change Code.wpIn _ _ _ _ _ _ _
    obtain ⟨F1, hRb, hX, hback⟩ := hI.2.2.reb rfl
    refine wpIn_seq (wpIn_mono (wpIn_wide.2 (wp_region_list (wpList_defers (Q := fun e a1 W1 => e = .normal ∧ ∃ σ', σ'.keep [1, 2, 3] = pStN l kn dr us g ∧ RelZ Try.prog W.heap.size F1 ⟨W, BoxOf (pSt l kn dr us g) a⟩ 42 [] σ' a1 W1) _ (fun c a w h => by cases h.1) (fun ⟨a, w, h⟩ => by cases h.1) _ a W
      ((show AZOps Try.prog W.heap.size F1 ⟨W, BoxOf (pSt l kn dr us g) a⟩ 42 _ _ (fun R σ => R = [] ∧ σ.keep [1, 2, 3] = pStN l kn dr us g) [] [] (pSt l kn dr us g) from ?_) a W hRb (fun e he => by cases he) _ (fun a1 W1 R1 σ1 h1 h2 => ⟨rfl, σ1, h1.2, h1.1 ▸ h2⟩))))) (fun e a2 W2 h => ?_))
    · refine AZOps.cut 3 rfl (fun B1 F1 w1 => ?_)
      refine AOps.bldn tok [dI 0, .v nilS, .v nilS, dI 0] rfl rfl rfl rfl (by kernel_rfl) ?_
      refine AOps.run tok 2 _ _ _ _ rfl ?_
      refine AOps.nil ⟨rfl, ?_⟩
      exact AZOps.nil ⟨rfl, rfl⟩
    obtain ⟨rfl, a1, rfl, _, σ1, hk1, hR1⟩ := h
    have hR1 := hR1.keep [1, 2, 3]
    rw [hk1] at hR1
    change Code.wpIn _ _ _ _ _ _ _
    refine wpIn_ret ?_
    refine pair_leave (o := parG l kn dr) rfl rfl (hback [] _ a1 W2 rfl rfl hR1) (by omega) ?_ rfl ?_
    · rw [hR1.below.block D (Array.getElem?_eq_some_iff.1 hDW).1 (fun hx => by
        obtain ⟨⟨cs, e, fz, hc⟩, _⟩ := hX D hx
        rw [hc] at hDW; cases hDW)]
      exact hDW
    · rw [show parG l kn dr = none by unfold parG; rw [← hS]; exact findSome_pre hI.2.1]
      exact ⟨rfl, rfl⟩
  · -- a round has returned
    intro D c pre W hD hSp hIx hDW
    have ha : ({ a with defers := { target := .collected D, args := #[] } :: a.defers } : Act) = addD [{ target := .collected D, args := #[] }] a := by simp [addD, hdef]
    rw [ha]
    obtain ⟨rfl, rest, q, r, Vb, Vj, hpre, hnone, hq, hRx⟩ := hIx
    obtain ⟨t, ht⟩ := hSp
    refine wpIn_ret ?_
    refine pair_leave (o := parG l kn dr) rfl rfl hRx (by omega) hDW rfl ?_
    rw [show parG l kn dr = some r by unfold parG; rw [← ht, hpre, List.append_assoc]; exact findSome_at hnone hq]
    exact ⟨Vb, Vj, rfl, rfl⟩
end Lift
/- Groups: the next group. -/
namespace Lift
open Go Go.Proofs

def nxtG (l : Lkg) (kn dr : List Bool) : Option Grp := match drvG l kn with
  | some g => some g
  | none => match parG l kn dr with
    | some g => some g
    | none => sngG l kn dr
set_option maxHeartbeats 1600000 in
theorem fin_next_ok (l : Lkg) (hl : LkIn l) (kn dr us : List Bool) (g : D) (hk : kn.length = l.bodies.length) (hr : dr.length = l.bodies.length) : CallZ Try.prog 30 [.pr (FinC l kn dr us g)] [] (grpPost (nxtG l kn dr)) := by
  refine CallZ.intro (n := 26) tok Try.func30 rfl rfl rfl (Nat.le_of_ble_eq_true rfl) (by kernel_rfl) (fun B F0 w0 => ?_)
  have cD := fin_driver_ok l hl kn dr us g hk
  have cP := fin_pair_ok l hl kn dr us g hk hr
  have cS := fin_single_ok l hl kn dr us g hk hr
  have hN : nxtG l kn dr = (match drvG l kn with
    | some g => some g
    | none => match parG l kn dr with
      | some g => some g
      | none => sngG l kn dr) := rfl
  generalize nxtG l kn dr = N at hN ⊢
  refine AZ.seq ?_
  refine AZ.reg (fun B1 F1 w1 => ?_)
  refine AOps.run tok 2 _ _ _ _ rfl ?_
  refine AOps.nil ⟨rfl, ?_⟩
  refine AZ.seq ?_
  refine AZ.seq ?_
  refine AZ.region ?_
  refine AZOps.cut 1 rfl (fun B1 F1 w1 => ?_)
  refine AOps.run tok 1 _ _ _ _ rfl ?_
  refine AOps.nil ⟨rfl, ?_⟩
  refine AZOps.callz tok [] rfl rfl rfl rfl rfl List.nodup_nil rfl cD (fun _ _ _ => Nat.zero_le _) (fun res R1 hP => ?_)
  rcases hd : drvG l kn with _ | gd
  rotate_left
  · rw [hd] at hP hN
    subst hN
    obtain ⟨Vb, Vj, rfl, rfl⟩ := hP
    refine AZOps.cut 6 rfl (fun B1 F1 w1 => ?_)
    refine AOps.run tok 6 _ _ _ _ rfl ?_
    refine AOps.nil ⟨rfl, ?_⟩
    refine AZOps.nil ?_
    refine AZ.seq ?_
    refine AZ.reg (fun B1 F1 w1 => ?_)
    refine AOps.run tok 1 _ _ _ _ rfl ?_
    refine AOps.nil ⟨rfl, ?_⟩
    refine AZ.condT rfl ?_
    refine AZ.seq ?_
    refine AZ.reg (fun B1 F1 w1 => ?_)
    refine AOps.run tok 3 _ _ _ _ rfl ?_
    refine AOps.nil ⟨rfl, ?_⟩
    exact AZ.ret ⟨_, rfl, Vb, Vj, rfl, rfl⟩
  rw [hd] at hP hN
  obtain ⟨rfl, rfl⟩ := hP
  refine AZOps.cut 6 rfl (fun B1 F1 w1 => ?_)
  refine AOps.run tok 6 _ _ _ _ rfl ?_
  refine AOps.nil ⟨rfl, ?_⟩
  refine AZOps.nil ?_
  refine AZ.seq ?_
  refine AZ.reg (fun B1 F1 w1 => ?_)
  refine AOps.run tok 1 _ _ _ _ rfl ?_
  refine AOps.nil ⟨rfl, ?_⟩
  refine AZ.condF rfl ?_
  refine AZ.skip ?_
  refine AZ.seq ?_
  refine AZ.seq ?_
  refine AZ.region ?_
  refine AZOps.cut 1 rfl (fun B1 F1 w1 => ?_)
  refine AOps.run tok 1 _ _ _ _ rfl ?_
  refine AOps.nil ⟨rfl, ?_⟩
  refine AZOps.callz tok [] rfl rfl rfl rfl rfl List.nodup_nil rfl cP (fun _ _ _ => Nat.zero_le _) (fun res R1 hP => ?_)
  rcases hp : parG l kn dr with _ | gd
  rotate_left
  · rw [hp] at hP hN
    subst hN
    obtain ⟨Vb, Vj, rfl, rfl⟩ := hP
    refine AZOps.cut 6 rfl (fun B1 F1 w1 => ?_)
    refine AOps.run tok 6 _ _ _ _ rfl ?_
    refine AOps.nil ⟨rfl, ?_⟩
    refine AZOps.nil ?_
    refine AZ.seq ?_
    refine AZ.reg (fun B1 F1 w1 => ?_)
    refine AOps.run tok 1 _ _ _ _ rfl ?_
    refine AOps.nil ⟨rfl, ?_⟩
    refine AZ.condT rfl ?_
    refine AZ.seq ?_
    refine AZ.reg (fun B1 F1 w1 => ?_)
    refine AOps.run tok 3 _ _ _ _ rfl ?_
    refine AOps.nil ⟨rfl, ?_⟩
    exact AZ.ret ⟨_, rfl, Vb, Vj, rfl, rfl⟩
  rw [hp] at hP hN
  obtain ⟨rfl, rfl⟩ := hP
  subst hN
  refine AZOps.cut 6 rfl (fun B1 F1 w1 => ?_)
  refine AOps.run tok 6 _ _ _ _ rfl ?_
  refine AOps.nil ⟨rfl, ?_⟩
  refine AZOps.nil ?_
  refine AZ.seq ?_
  refine AZ.reg (fun B1 F1 w1 => ?_)
  refine AOps.run tok 1 _ _ _ _ rfl ?_
  refine AOps.nil ⟨rfl, ?_⟩
  refine AZ.condF rfl ?_
  refine AZ.skip ?_
  refine AZ.seq ?_
  refine AZ.region ?_
  refine AZOps.cut 1 rfl (fun B1 F1 w1 => ?_)
  refine AOps.run tok 1 _ _ _ _ rfl ?_
  refine AOps.nil ⟨rfl, ?_⟩
  refine AZOps.callz tok [] rfl rfl rfl rfl rfl List.nodup_nil rfl cS (fun _ _ _ => Nat.zero_le _) (fun res R1 hP => ?_)
  rcases hs : sngG l kn dr with _ | gd
  · rw [hs] at hP
    obtain ⟨rfl, rfl⟩ := hP
    refine AZOps.cut 4 rfl (fun B1 F1 w1 => ?_)
    refine AOps.run tok 4 _ _ _ _ rfl ?_
    refine AOps.nil ⟨rfl, ?_⟩
    refine AZOps.nil ?_
    exact AZ.ret ⟨_, rfl, rfl, rfl⟩
  · rw [hs] at hP
    obtain ⟨Vb, Vj, rfl, rfl⟩ := hP
    refine AZOps.cut 4 rfl (fun B1 F1 w1 => ?_)
    refine AOps.run tok 4 _ _ _ _ rfl ?_
    refine AOps.nil ⟨rfl, ?_⟩
    refine AZOps.nil ?_
    exact AZ.ret ⟨_, rfl, Vb, Vj, rfl, rfl⟩
end Lift
