/- Parts of the proof, one behind the other: the logic, the contracts of the functions that the statement reaches. -/
import Derived.Test.YtccaiekiikoccaaAgD
set_option linter.unusedVariables false
set_option linter.unusedSimpArgs false
/- Regions whose order is drawn, over states with loose rows; an operation that may be taken first. -/
namespace Lift
open Go
open Go.RowKit (Below)

section
variable {P : Program} {T : Ty} {B : Nat} {F0 : Nat → Prop} {w0 : Bas} {n : Nat} {σ σ' : St} {R R' : List LR} {ops : Array Oper}

def earlyP (ops : Array Oper) (i : Nat) : Bool := match ops[i]? with
  | some oi => oi.guard.isNone && (oi.after.toList.all fun e => !Region.binds .any e) && noSel ops &&
      (List.range ops.size).all fun j => Nat.beq j i || match ops[j]? with
        | some oj => (oj.after.toList.any fun e => Region.binds .any e && Nat.beq e.on i) || oi.apart ops oj
        | none => true
  | none => false
theorem wpAny_earlyP {Q : Exit → Act → World → Prop} (i : Nat) (hB : earlyP ops i = true) (hpan : ∀ c a w, Q (.panic c) a w → False) (hout : LetsOut Q → False) {a : Act} {w : World} {oi : Oper} {v : Value} (hoi : ops[i]? = some oi)
    (hexec : ∀ w, (execOp a.eval oi).run P w = .ok (.value v) w) (hA : wpAny P .any (earlier i ops) Q ops.size (Array.replicate ops.size false) a w) : wpAny P .any ops Q ops.size (Array.replicate ops.size false) a w := by
  unfold earlyP at hB
  rw [hoi] at hB
  simp only [Bool.and_eq_true, List.all_eq_true] at hB
  obtain ⟨⟨⟨hg, haf⟩, hsel⟩, hall⟩ := hB
  have hil : i < ops.size := (Array.getElem?_eq_some_iff.1 hoi).1
  have hgn : oi.guard = none := by simpa using hg
  obtain ⟨s, hs⟩ : ∃ s, ops.size = s + 1 := ⟨ops.size - 1, by omega⟩
  have hi0 : (Array.replicate ops.size false).getD i true = false := getD_in (by simpa using hil) (getD_replicate_false _ _)
  have hri : ∀ ops' : Array Oper, ops'[i]? = some oi → i ∈ Region.ready .any ops' (Array.replicate ops.size false) := fun ops' h' => by
    rw [mem_ready]
    refine ⟨hi0, oi, h', fun e he hb => ?_⟩
    have := haf e (by simpa using he)
    rw [hb] at this
    cases this
  have hwant : Region.wanted oi (yielded ops a.tmps) = true := by simp [Region.wanted, hgn]
  rw [hs] at hA
  rw [hs]
  have hI := hri (earlier i ops) (by rw [earlier_get, hoi]; simp [addEdge_same])
  rw [hs] at hI
  have h1 := wpOp_earlier i i (hA.2 i hI)
  have h2 : wpAny P .any (earlier i ops) Q s ((Array.replicate (s + 1) false).setIfInBounds i true) (a.put oi.dst v) w := by
    unfold wpOp at h1
    simp only [hoi, hwant, if_true] at h1
    rcases h1 with h1 | ⟨_, h1⟩
    · unfold Oper.wp at h1
      rw [hexec] at h1
      exact h1
    · exact (hout h1).elim
  have h3 := wpAny_earlier s _ _ _ (by simp; omega) h2
  have hri2 := hri ops hoi
  rw [hs] at hri2
  refine wpAny_first (i := i) (oi := oi) (v := v) hoi (fun j o cs b hj he => ?_) (fun c a' w' hq => (hpan _ _ _ hq).elim) s _ a _ (fun j oj hj hji _ hne => ?_) hri2 (.inl ⟨hwant, fun w => hexec w⟩) h3
  · unfold noSel at hsel
    have := List.all_eq_true.1 hsel o (by simpa using Array.mem_of_getElem? hj)
    rw [he] at this
    cases this
  · have hjl : j < ops.size := (Array.getElem?_eq_some_iff.1 hj).1
    have := hall j (List.mem_range.2 hjl)
    rw [hj] at this
    simp only [Bool.or_eq_true] at this
    rcases this with h | h
    · exact absurd (Nat.eq_of_beq_eq_true h) hji
    · rcases h with h | h
      · exfalso
        obtain ⟨e, he, hb⟩ := List.any_eq_true.1 h
        simp only [Bool.and_eq_true] at hb
        exact hne e (by simpa using he) hb.1 (Nat.eq_of_beq_eq_true hb.2)
      · exact h

/-- A pointer to a field of a struct of the call's own. -/
def fadB (T : Ty) (σ : St) : Op → Bool
  | .fieldAddr t (.tmp s) f => match T.get t, σ.get s with
    | some i, some (.bx _) => (fieldF i f).isSome
    | _, _ => false
  | _ => false
theorem fad_run (hT : TOk P T) {a : Act} {w : World} (hR : Rel P B F0 w0 n σ a w) {o : Oper} (h : fadB T σ o.op = true) : ∃ v, ∀ w', (execOp a.eval o).run P w' = .ok (.value v) w' := by
  obtain ⟨dst, op, ty, pos, after, guard⟩ := o
  simp only [] at h
  cases op <;> simp only [fadB] at h <;> try (cases h; done)
  rename_i t x f
  cases x <;> simp only [fadB] at h <;> try (cases h; done)
  rename_i s
  split at h <;> try (cases h; done)
  rename_i i ds hi hs
  obtain ⟨⟨off, size, g⟩, hf⟩ := Option.isSome_iff_exists.1 h
  obtain ⟨info, dd, z, hok⟩ := hT t i hi
  obtain ⟨fs, fl, j, dd', h1, h2, h3, h4, h5, h6, h7, h8⟩ := fieldF_run hok hf
  obtain ⟨O, hOr, hO⟩ := hR.own
  obtain ⟨v, hv, b, cs, e, rfl, _⟩ := hO s _ hs
  have he : a.eval (.tmp s) = .pointer (some ⟨b, 0, none⟩) := eval_tmp hv
  refine ⟨.pointer (some ⟨b, 0 + off, none⟩), fun w' => ?_⟩
  have hs : j.size ≠ 0 := by omega
  simp [execOp, Instr.fieldAt, run_underlying h1, h2, he, Instr.sureAddr, fieldPlace, Go.sizeOf, typeInfo, h4, hs, h3, Addr.add_lit]

def ZAny (P : Program) (B : Nat) (F0 : Nat → Prop) (w0 : Bas) (n : Nat) (ops : Array Oper) (Q : Exit → List LR → St → Prop) (R : List LR) (σ : St) : Prop :=
  ∀ (a : Act) (w : World), RelZ P B F0 w0 n R σ a w → wpAny P .any ops (fun e a' w' => ∃ R' σ', Q e R' σ' ∧ RelZ P B F0 w0 n R' σ' a' w') ops.size (Array.replicate ops.size false) a { w with drawn := w.drawn + 1 }
variable {Q : Exit → List LR → St → Prop}
theorem AZ.any {id : Nat} (hmx : P.follows .mixedOrders = true) (h : ZAny P B F0 w0 n ops Q R σ) : AZ P B F0 w0 n (.region id ops true) Q R σ := fun a w hR => wp_region_any hmx (h a w hR)
/-- The pointer to a field may be made first. -/
theorem ZAny.early (hT : TOk P T) (i : Nat) {oi : Oper} (hB : earlyP ops i = true) (hoi : ops[i]? = some oi) (hf : fadB T σ oi.op = true) (hpan : ∀ c R σ, Q (.panic c) R σ → False) (hout : ∀ R σ, Q .outgrown R σ → False) (h : ZAny P B F0 w0 n (earlier i ops) Q R σ) : ZAny P B F0 w0 n ops Q R σ := by
  intro a w hR
  obtain ⟨v, hv⟩ := fad_run hT hR.rel hf
  have hA := h a w hR
  rw [earlier_size] at hA
  refine wpAny_earlyP i hB (fun c a w hq => ?_) (fun hq => ?_) hoi hv hA
  · obtain ⟨R, σ, h, _⟩ := hq; exact hpan c R σ h
  · obtain ⟨a, w, R, σ, h, _⟩ := hq; exact hout R σ h
theorem ZAny.draw (m : Nat) (hB : drawB ops m = true)
    (h : ∀ B1 F1 w1, APre P B1 F1 w1 n ops (heads ops m) (σ.less (heads ops m)) (ops.toList.take m) (σ.less (heads ops m)) (fun τ => τ.noTag = true ∧ AZOps P B F0 w0 n ops (ops.toList.drop m) (Q .normal) [] R τ)) : ZAny P B F0 w0 n ops Q R σ := by
  intro a w hR
  obtain ⟨B1, F1, w1, hR1, hback⟩ := hR.sub
  exact AAny.drawG m hB (fun τ a' w' ⟨ht, hz⟩ hR' => hz a' w' (hback τ a' w' ht hR') (fun e he => by cases he) _ (fun a w R' σ' hk hr => ⟨R', σ', hk, hr⟩)) (h B1 F1 w1) a w hR1
end
end Lift
/- A loose row in a struct's cell becomes data; plain regions; back to states without loose rows. -/
namespace Lift
open Go
open Go.RowKit (Below)

section
variable {P : Program} {T : Ty} {B : Nat} {F0 : Nat → Prop} {w0 : Bas} {n : Nat} {σ σ' : St} {R R' : List LR} {ops all : Array Oper} {l : List Oper} {x : Code} {a : Act} {w : World} {K : List LR → St → Prop} {p : Pins}

theorem AZ.aw {Q : Exit → St → Prop} (h : AZ P B F0 w0 n x (fun e _ σ' => Q e σ') [] σ) : AW P B F0 w0 n x Q σ := fun a w hR => wp_mono (h a w hR.z) fun e a' w' ⟨R', σ', h1, h2⟩ => ⟨σ', h1, h2.rel⟩
variable {Q : Exit → List LR → St → Prop}
theorem AZ.reg {id : Nat} (h : ∀ B1 F1 w1, AOps P B1 F1 w1 n ops ops.toList (fun σ' => σ'.noTag = true ∧ Q .normal R σ') σ) : AZ P B F0 w0 n (.region id ops false) Q R σ :=
  AZ.frame fun B1 F1 w1 => AW.region (h B1 F1 w1)
theorem AZ.drw {id : Nat} (hmx : P.follows .mixedOrders = true) (m : Nat) (hB : drawB ops m = true)
    (h : ∀ B1 F1 w1, APre P B1 F1 w1 n ops (heads ops m) (σ.less (heads ops m)) (ops.toList.take m) (σ.less (heads ops m)) (fun τ => AOps P B1 F1 w1 n ops (ops.toList.drop m) (fun σ' => σ'.noTag = true ∧ Q .normal R σ') τ)) : AZ P B F0 w0 n (.region id ops true) Q R σ :=
  AZ.frame fun B1 F1 w1 => AW.draw hmx m hB (h B1 F1 w1)

theorem RelZ.frzc {t i k e : Nat} {V : Value} {xs cs : List D} (hR : RelZ P B F0 w0 n R σ a w) (ht : σ.get t = some (.bx cs)) (hk : cs[k]? = some (.v V)) (hi : R[i]? = some (V, .ow e xs)) :
    RelZ P B F0 w0 n (R.set i (V, .junk)) ((t, .bx (cs.set k (.sl (P.cellsOf e) xs))) :: σ) a w := by
  obtain ⟨O, hOr, hO, hL⟩ := hR.own
  let O' : Nat → Option Nat := fun b => if O b = some (n + i) then none else O b
  have h1 : ∀ b t, O' b = some t → O b = some t := fun b t h => by
    simp only [O'] at h
    split at h
    · cases h
    · exact h
  have h2 : ∀ b t, t ≠ n + i → O b = some t → O' b = some t := fun b t ht h => by
    simp only [O', h]
    rw [if_neg (by simpa using ht)]
  have hF : ∀ c, Free O (FW B F0 w) c → Free O' (FW B F0 w) c := fun c hc => ⟨by simp only [O', hc.1]; simp, hc.2⟩
  have hlt : ∀ t av, σ.get t = some av → t < n := fun t av h => by
    obtain ⟨v, hv, _⟩ := hO t av h
    rw [← hR.size]
    exact (Array.getElem?_eq_some_iff.1 hv).1
  refine ⟨hR.below, hR.base, hR.f0, hR.defers, hR.size, O', fun b t hb => hOr b t (h1 b t hb), fun j av hav => ?_, fun j r hr => ?_⟩
  · have key : ∀ j, (∀ ds, St.get ((t, AV.bx (cs.set k (.sl (P.cellsOf e) xs))) :: σ) j = some (.bx ds) → ∃ ds', σ.get j = some (.bx ds')) ∧ (∀ x e' l, St.get ((t, AV.bx (cs.set k (.sl (P.cellsOf e) xs))) :: σ) j = some x → x.row = some (e', l) → ∃ y l', σ.get j = some y ∧ y.row = some (e', l') ∧ l'.length = l.length ∧ y.tag = x.tag) := fun j => by
      rw [St.get_cons]
      by_cases hj : t = j
      · subst hj
        refine ⟨fun ds _ => ⟨cs, ht⟩, fun x e' l hx hrow => ?_⟩
        rw [if_pos rfl] at hx
        cases hx
        simp [AV.row] at hrow
      · rw [if_neg hj]
        exact ⟨fun ds hds => ⟨ds, hds⟩, fun x e' l hx hrow => ⟨x, l, hx, hrow, rfl, rfl⟩⟩
    rw [St.get_cons] at hav
    split at hav
    · rename_i e'
      subst e'
      cases hav
      obtain ⟨v, hv, b, cells, eb, rfl, g1, g2, g3⟩ := hO t _ ht
      refine ⟨_, hv, b, cells, eb, rfl, h2 b t (by have := hlt t _ ht; omega) g1, g2, by simpa using g3.1, fun j d u hd hu => ?_⟩
      by_cases hj : j = k
      · subst hj
        rw [List.getElem?_set_self (List.getElem?_eq_some_iff.1 hk).1] at hd
        cases hd
        have := (Rd.v_eq (g3.2 j _ u hk hu).2).1
        subst this
        refine ⟨rfl, ?_⟩
        rcases hL i _ hi with h | ⟨_, _, h⟩
        · cases h
        · rcases h with ⟨base, h3, h4⟩ | ⟨b', cap, cs', h3, h4, h5, h6, h7, h8, h9, h10⟩
          · simp only at h3 h4
            subst h3; subst h4
            exact .nil (Nat.zero_le _)
          · simp only at h3
            subst h3
            refine Rd.sl_mk (off := 0) ⟨by simp only [O', h4]; simp, (hOr b' _ h4).fw hR.f0⟩ h5 h6 h7 h9 (fun m d hd => ?_)
            obtain ⟨f1, u, f2, f3⟩ := h10 m d hd
            exact ⟨f1, u, by simpa using f2, f3.mono hF (fun _ _ => rfl)⟩
      · rw [List.getElem?_set_ne (Ne.symm hj)] at hd
        exact ⟨(g3.2 j d u hd hu).1, (g3.2 j d u hd hu).2.mono hF (fun _ _ => rfl)⟩
    · obtain ⟨v, hv, hr⟩ := hO j av hav
      have hr' : AVR P w0.X w O' (FW B F0 w) σ.get (fun h => a.tmps[h]?) j av v := hr.move (fun c hc => ⟨hF c hc, rfl⟩) (fun _ c hc => ⟨h2 c j (by have := hlt j av hav; omega) hc, rfl⟩) (fun k _ x _ hk => ⟨hk, rfl⟩)
      exact ⟨v, hv, hr'.retag (fun j _ => key j)⟩
  · by_cases hj : j = i
    · subst hj
      rw [List.getElem?_set_self (List.getElem?_eq_some_iff.1 hi).1] at hr
      cases hr
      exact .inl rfl
    · have := set_other hj hr
      rcases hL j r this with h | ⟨g1, g2, g3⟩
      · exact .inl h
      · exact .inr ⟨g1, g2, g3.move (fun c hc => ⟨hF c hc, rfl⟩) (fun _ c hc => ⟨h2 c _ (by omega) hc, rfl⟩) (fun k _ x _ hk => by cases hk)⟩
theorem AZ.frzc (hT : TOk P T) (t k i : Nat) {V : Value} {e : Nat} {te : TI} {xs cs : List D} (ht : σ.get t = some (.bx cs)) (hk : cs[k]? = some (.v V)) (hi : R[i]? = some (V, .ow e xs)) (he : T.get e = some te)
    (h : AZ P B F0 w0 n x Q (R.set i (V, .junk)) ((t, .bx (cs.set k (.sl te.size xs))) :: σ)) : AZ P B F0 w0 n x Q R σ := by
  obtain ⟨info, d, z, hok⟩ := hT e te he
  intro a w hR
  have := hR.frzc ht hk hi
  rw [hok.cellsOf] at this
  exact h a w this
theorem AZOps.frzc (hT : TOk P T) (t k i : Nat) {V : Value} {e : Nat} {te : TI} {xs cs : List D} (ht : σ.get t = some (.bx cs)) (hk : cs[k]? = some (.v V)) (hi : R[i]? = some (V, .ow e xs)) (he : T.get e = some te)
    (h : AZOps P B F0 w0 n all l K p (R.set i (V, .junk)) ((t, .bx (cs.set k (.sl te.size xs))) :: σ)) : AZOps P B F0 w0 n all l K p R σ := by
  obtain ⟨info, d, z, hok⟩ := hT e te he
  intro a w hR
  have := hR.frzc ht hk hi
  rw [hok.cellsOf] at this
  exact h a w this
end
end Lift
/- The operations of a region whose order is drawn, listed in another order. -/
namespace Lift
open Go
open Go.RowKit (Below)

section
variable {P : Program} {T : Ty} {B : Nat} {F0 : Nat → Prop} {w0 : Bas} {n : Nat} {σ σ' : St} {R R' : List LR} {ops : Array Oper}

/-- Place k of the new list holds what place pi k held; operation i comes first. -/
def piF (i k : Nat) : Nat := if k = 0 then i else if k ≤ i then k - 1 else k
def roF (i j : Nat) : Nat := if j = i then 0 else if j < i then j + 1 else j
theorem pi_ro (i j : Nat) : piF i (roF i j) = j := by
  unfold piF roF
  split
  · rw [if_pos rfl]; omega
  · split
    · rw [if_neg (by omega), if_pos (by omega)]; omega
    · rw [if_neg (by omega), if_neg (by omega)]
theorem ro_pi (i k : Nat) : roF i (piF i k) = k := by
  unfold piF roF
  split
  · rw [if_pos rfl]; omega
  · split
    · rw [if_neg (by omega), if_pos (by omega)]; omega
    · rw [if_neg (by omega), if_neg (by omega)]
theorem pi_lt {i k m : Nat} (hi : i < m) : piF i k < m ↔ k < m := by
  unfold piF
  split
  · omega
  · split <;> omega
def renOp (i : Nat) (o : Oper) : Oper := ⟨o.dst, o.op, o.type, o.pos, o.after.map (fun e => ⟨roF i e.on, e.ground⟩), o.guard.map (fun g => (roF i g.1, g.2))⟩
def frontOps (i : Nat) (ops : Array Oper) : Array Oper := ((List.range ops.size).filterMap fun k => (ops[piF i k]?).map (renOp i)).toArray
theorem filterMap_all {α β : Type} {f : α → Option β} : ∀ {l : List α}, (∀ x ∈ l, (f x).isSome = true) → (l.filterMap f).length = l.length ∧ ∀ k : Nat, (l.filterMap f)[k]? = (l[k]?).bind f
  | [], _ => ⟨rfl, fun k => by simp⟩
  | x :: l, h => by
    obtain ⟨y, hy⟩ := Option.isSome_iff_exists.1 (h x (by simp))
    obtain ⟨h1, h2⟩ := filterMap_all (l := l) (fun z hz => h z (by simp [hz]))
    rw [List.filterMap_cons_some hy]
    refine ⟨by simp [h1], fun k => ?_⟩
    cases k with
    | zero => simp [hy]
    | succ k => simpa using h2 k
theorem front_get {i : Nat} (hi : i < ops.size) : (frontOps i ops).size = ops.size ∧ ∀ k : Nat, (frontOps i ops)[k]? = (ops[piF i k]?).map (renOp i) := by
  have h := filterMap_all (l := List.range ops.size) (f := fun k => (ops[piF i k]?).map (renOp i)) (fun k hk => by
    have : piF i k < ops.size := (pi_lt hi).2 (List.mem_range.1 hk)
    simp [this])
  unfold frontOps
  refine ⟨by simpa using h.1, fun k => ?_⟩
  rw [List.getElem?_toArray, h.2]
  by_cases hk : k < ops.size
  · simp [hk]
  · have : ¬ piF i k < ops.size := fun h => hk ((pi_lt hi).1 h)
    simp [hk, this]
variable {Q : Exit → Act → World → Prop}
theorem ready_front {i : Nat} (hi : i < ops.size) {l l' : Array Bool} (hl : ∀ k d, l'.getD k d = l.getD (piF i k) d) (k : Nat) : k ∈ Region.ready .any (frontOps i ops) l' ↔ piF i k ∈ Region.ready .any ops l := by
  rw [mem_ready, mem_ready, (front_get hi).2, hl]
  refine and_congr Iff.rfl ⟨fun ⟨o, ho, hall⟩ => ?_, fun ⟨o, ho, hall⟩ => ?_⟩
  · cases hj : ops[piF i k]? with
    | none => rw [hj] at ho; cases ho
    | some oj =>
      rw [hj] at ho
      simp at ho
      subst ho
      refine ⟨oj, rfl, fun e he hb => ?_⟩
      have := hall ⟨roF i e.on, e.ground⟩ (Array.mem_map.2 ⟨e, he, rfl⟩) hb
      simpa [hl, pi_ro] using this
  · refine ⟨renOp i o, by rw [ho]; rfl, fun e he hb => ?_⟩
    obtain ⟨e', he', rfl⟩ := Array.mem_map.1 he
    simp only [hl, pi_ro]
    exact hall e' he' hb
theorem wpOp_front {i k : Nat} (hi : i < ops.size) {K K' : Act → World → Prop} (hK : ∀ a w, K a w → K' a w) {a : Act} {w : World} (h : wpOp P (frontOps i ops) Q k K a w) : wpOp P ops Q (piF i k) K' a w := by
  refine wpOp_mono hK ?_
  unfold wpOp at *
  rw [(front_get hi).2] at h
  cases ho : ops[piF i k]? with
  | none => rw [ho] at h; exact h
  | some o =>
    rw [ho] at h
    simp only [Option.map_some] at h ⊢
    have hy : ∀ g, yielded (frontOps i ops) a.tmps (roF i g) = yielded ops a.tmps g := fun g => by
      unfold yielded
      rw [(front_get hi).2, pi_ro]
      cases ops[g]? with
      | none => rfl
      | some og => rfl
    have hw : Region.wanted (renOp i o) (yielded (frontOps i ops) a.tmps) = Region.wanted o (yielded ops a.tmps) := by
      unfold Region.wanted renOp
      cases hg : o.guard with
      | none => simp
      | some g => simp [hy]
    have hex : execOp a.eval (renOp i o) = execOp a.eval o := by obtain ⟨dst, op, ty, pos, after, guard⟩ := o; rfl
    rw [hw] at h
    have hwp : (renOp i o).wp P a w K Q → o.wp P a w K Q := fun h => by
      unfold Oper.wp at *
      rw [hex] at h
      generalize (execOp a.eval o).run P w = r at *
      cases r with
      | ok n w' => cases n <;> exact h
      | halt x w' => cases x <;> exact h
    have has : (renOp i o).asks P a w → o.asks P a w := fun h => by
      unfold Oper.asks at *
      rw [hex] at h
      exact h
    split
    · rename_i hc
      rw [if_pos hc] at h
      rcases h with h | ⟨h1, h2⟩
      · exact .inl (hwp h)
      · exact .inr ⟨has h1, h2⟩
    · rename_i hc
      rw [if_neg hc] at h
      exact h
theorem wpAny_front {i : Nat} (hi : i < ops.size) : ∀ (f : Nat) (l l' : Array Bool) (a : Act) (w : World), l'.size = ops.size → l.size = ops.size → (∀ k d, l'.getD k d = l.getD (piF i k) d) → wpAny P .any (frontOps i ops) Q f l' a w → wpAny P .any ops Q f l a w
  | 0, l, l', a, w, _, _, hl, h => by
    refine ⟨?_, h.2⟩
    apply List.eq_nil_iff_forall_not_mem.2
    intro j hj
    have := (ready_front hi hl (roF i j)).2 (by rw [pi_ro]; exact hj)
    rw [h.1] at this
    cases this
  | f + 1, l, l', a, w, hs', hs, hl, h => by
    refine ⟨fun hn => h.1 ?_, fun j hj => ?_⟩
    · apply List.eq_nil_iff_forall_not_mem.2
      intro k hk
      have := (ready_front hi hl k).1 hk
      rw [hn] at this
      cases this
    · have hk := (ready_front hi hl (roF i j)).2 (by rw [pi_ro]; exact hj)
      have h1 := h.2 _ hk
      have hjs : j < ops.size := by
        obtain ⟨_, o, ho, _⟩ := mem_ready.1 hj
        exact (Array.getElem?_eq_some_iff.1 ho).1
      have h2 := wpOp_front hi (fun a' w' h' => wpAny_front hi f (l.setIfInBounds j true) (l'.setIfInBounds (roF i j) true) a' w' (by simpa using hs') (by simpa using hs) (fun k d => ?_) h') h1
      · rw [pi_ro] at h2; exact h2
      · have hr : roF i j < l'.size := by
          rw [hs']
          exact (pi_lt hi).1 (by rw [pi_ro]; exact hjs)
        simp only [Array.getD_eq_getD_getElem?]
        by_cases hkj : k = roF i j
        · subst hkj
          rw [pi_ro, Array.getElem?_setIfInBounds_self_of_lt hr, Array.getElem?_setIfInBounds_self_of_lt (by omega)]
        · have : piF i k ≠ j := fun e => hkj (by rw [← e, ro_pi])
          rw [Array.getElem?_setIfInBounds_ne (Ne.symm hkj), Array.getElem?_setIfInBounds_ne (Ne.symm this)]
          have := hl k d
          simpa only [Array.getD_eq_getD_getElem?] using this
variable {Q : Exit → List LR → St → Prop}
theorem ZAny.front (i : Nat) (hi : Nat.blt i ops.size = true) (h : ZAny P B F0 w0 n (frontOps i ops) Q R σ) : ZAny P B F0 w0 n ops Q R σ := by
  have hi : i < ops.size := by simpa using hi
  intro a w hR
  have hA := h a w hR
  rw [(front_get hi).1] at hA
  refine wpAny_front hi _ _ _ a _ (by simp) (by simp) (fun k d => ?_) hA
  simp only [Array.getD_eq_getD_getElem?]
  by_cases hk : k < ops.size
  · have := (pi_lt hi).2 hk
    simp [hk, this]
  · have : ¬ piF i k < ops.size := fun h => hk ((pi_lt hi).1 h)
    simp [hk, this]
theorem AAny.front {Q : Exit → St → Prop} (i : Nat) (hi : Nat.blt i ops.size = true) (h : AAny P B F0 w0 n (frontOps i ops) Q σ) : AAny P B F0 w0 n ops Q σ := by
  have hi : i < ops.size := by simpa using hi
  intro a w hR
  have hA := h a w hR
  rw [(front_get hi).1] at hA
  refine wpAny_front hi _ _ _ a _ (by simp) (by simp) (fun k d => ?_) hA
  simp only [Array.getD_eq_getD_getElem?]
  by_cases hk : k < ops.size
  · have := (pi_lt hi).2 hk
    simp [hk, this]
  · have : ¬ piF i k < ops.size := fun h => hk ((pi_lt hi).1 h)
    simp [hk, this]
theorem AZOps.to {all : Array Oper} {l : List Oper} {K : List LR → St → Prop} {p : Pins} (ks : List Nat) (τ : St) (h : σ.keep ks = τ) (hk : AZOps P B F0 w0 n all l K p R τ) : AZOps P B F0 w0 n all l K p R σ := AZOps.keep ks (h ▸ hk)
theorem AZ.to {c : Code} (ks : List Nat) (τ : St) (h : σ.keep ks = τ) (hk : AZ P B F0 w0 n c Q R τ) : AZ P B F0 w0 n c Q R σ := AZ.keep ks (h ▸ hk)
theorem AZ.forget {c : Code} (h : AZ P B F0 w0 n c Q [] σ) : AZ P B F0 w0 n c Q R σ := fun a w hR => h a w (hR.drop (fun i r hr => by simp at hr))
end
end Lift
/- ModelAgain: a driver of the frame, or a joint a second time, is refused: the plain law. -/
namespace Lift
open Go Go.Proofs

theorem fE_zeroA {f : Nat → Nat} : ∀ {m i : Nat}, fE f m i = 0 → ∀ k, i ≤ k → k < i + m → f k = 0
  | 0, i, _, k, h1, h2 => by omega
  | m + 1, i, h, k, h1, h2 => by
    rw [fE] at h
    split at h
    · rename_i h0
      rcases Nat.eq_or_lt_of_le h1 with e | e
      · subst e; exact h0
      · exact fE_zeroA h k (by omega) (by omega)
    · rename_i h0; exact absurd h h0
/-- The first error is that of the last one, where the others have none. -/
theorem fE_last {f : Nat → Nat} : ∀ {m i : Nat}, (∀ k, i ≤ k → k < i + m → f k = 0) → fE f (m + 1) i = f (i + m)
  | 0, i, _ => by
    rw [fE]
    split
    · rename_i h; rw [fE, Nat.add_zero, h]
    · rfl
  | m + 1, i, h => by
    rw [fE, if_pos (h i (Nat.le_refl _) (by omega)), fE_last (fun k h1 h2 => h k (by omega) (by omega))]
    congr 1; omega
theorem anyF_congr {f g : Nat → Bool} : ∀ {m i : Nat}, (∀ k, i ≤ k → k < i + m → f k = g k) → anyF f m i = anyF g m i
  | 0, i, _ => rfl
  | m + 1, i, h => by
    rw [anyF, anyF, h i (Nat.le_refl _) (by omega), anyF_congr (fun k h1 h2 => h k (by omega) (by omega))]
theorem anyF_of {f : Nat → Bool} : ∀ {m i : Nat} (k : Nat), i ≤ k → k < i + m → f k = true → anyF f m i = true
  | 0, i, k, h1, h2, _ => by omega
  | m + 1, i, k, h1, h2, h => by
    rw [anyF]
    rcases Nat.eq_or_lt_of_le h1 with e | e
    · subst e; rw [h]; rfl
    · rw [anyF_of k (by omega) (by omega) h, Bool.or_true]
theorem getD_app {α : Type} [Inhabited α] {l : List α} {x : α} {i : Nat} (h : i < l.length) : (l ++ [x]).getD i default = l.getD i default := by
  simp only [List.getD_eq_getElem?_getD]
  rw [List.getElem?_append_left h]
theorem getD_last {α : Type} [Inhabited α] {l : List α} {x : α} : (l ++ [x]).getD l.length default = x := by
  simp [List.getD_eq_getElem?_getD]

theorem again_driver {l : Lkg} (x : Driver) (hx : x.body = 0) : chk { l with drivers := l.drivers ++ [x] } ≠ 0 := by
  intro h
  obtain ⟨_, _, _, _, _, h6⟩ := chk_all h
  unfold driversE at h6
  split at h6
  · cases h6
  have := fE_zeroA h6 l.drivers.length (Nat.zero_le _) (by simp)
  unfold driverE at this
  simp only [getD_last, hx] at this
  repeat' split at this
  all_goals first | omega | simp_all
theorem again_joint {l : Lkg} (h : chk l = 0) (h16 : l.joints.length < 16) {p : Nat} (hp : p < l.joints.length) : chk { l with joints := l.joints ++ [l.joints.getD p default] } = 6 := by
  obtain ⟨h1, h2, h3, h4, h5, h6⟩ := chk_all h
  unfold jointsE at h5
  rw [if_neg (by omega)] at h5
  have hz := fE_zeroA h5
  have hold : ∀ k, 0 ≤ k → k < 0 + l.joints.length → jointE l.bodies (l.joints ++ [l.joints.getD p default]) k = 0 := fun k _ hk => by
    have := hz k (Nat.zero_le _) (by omega)
    unfold jointE dupJ at this ⊢
    rw [getD_app (by omega), anyF_congr (g := fun j => decide ((l.joints.getD j default).nm = (l.joints.getD k default).nm)) (fun j _ hj => by simp only [getD_app (l := l.joints) (x := l.joints.getD p default) (i := j) (by omega)])]
    exact this
  have hlast : jointE l.bodies (l.joints ++ [l.joints.getD p default]) l.joints.length = 6 := by
    have hn : nameB (l.joints.getD p default).nm = true := by
      have := hz p (Nat.zero_le _) (by omega)
      unfold jointE at this
      split at this
      · cases this
      · rename_i g; simpa using g
    unfold jointE
    rw [getD_last, if_neg (by rw [hn]; decide), if_pos]
    unfold dupJ
    refine anyF_of p (Nat.zero_le _) (by omega) ?_
    simp only [getD_last, getD_app hp, decide_true]
  have hj : jointsE l.bodies (l.joints ++ [l.joints.getD p default]) = 6 := by
    unfold jointsE
    have e : (l.joints ++ [l.joints.getD p default]).length = l.joints.length + 1 := by simp
    rw [e, if_neg (by omega), fE_last hold, Nat.zero_add, hlast]
  unfold chk
  simp only []
  rw [if_neg (by rw [h1]; decide), if_neg h2, if_neg (by omega), if_neg (by rw [h4]; decide), if_pos (by rw [hj]; decide), hj]
end Lift
/- The statement ModelAgain: what its function answers. -/
namespace Lift
open Go Go.Proofs

abbrev againD : Driver := ⟨⟨#[97, 103, 97, 105, 110]⟩, 0⟩
theorem getD_okA {α : Type} [Inhabited α] {p : α → Prop} {l : List α} (h : ∀ v ∈ l, p v) (h0 : p default) (i : Nat) : p (l.getD i default) := by
  rw [List.getD_eq_getElem?_getD]
  rcases Nat.lt_or_ge i l.length with hi | hi
  · rw [List.getElem?_eq_getElem hi]; exact h _ (List.getElem_mem hi)
  · rw [List.getElem?_eq_none hi]; exact h0
theorem again_ok {K : Nat} {l : Lkg} (hs : l.ok K) (h2 : l.drivers.length ≤ 2) : Lkg.ok K { l with drivers := l.drivers ++ [againD] } :=
  ⟨hs.nm, hs.nb, hs.nj, by simp [big]; omega, hs.b, hs.j, fun i => getD_okA (l := l.drivers ++ [againD]) (p := fun d : Driver => d.nm.size ≤ big) (fun v hv => by
    rcases List.mem_append.1 hv with h | h
    · obtain ⟨k, hk, rfl⟩ := List.getElem_of_mem h
      have := hs.d k
      simpa [List.getD_eq_getElem?_getD, hk] using this
    · simp at h; subst h; decide) (by decide) i⟩
theorem again_ok2 {K : Nat} {l : Lkg} (hs : l.ok K) (h2 : l.joints.length ≤ 16) (p : Nat) : Lkg.ok K { l with joints := l.joints ++ [l.joints.getD p default] } :=
  ⟨hs.nm, hs.nb, by simp [big]; omega, hs.nd, hs.b, fun i => getD_okA (l := l.joints ++ [l.joints.getD p default]) (p := fun d : Joint => d.nm.size ≤ big) (fun v hv => by
    rcases List.mem_append.1 hv with h | h
    · obtain ⟨k, hk, rfl⟩ := List.getElem_of_mem h
      have := hs.j k
      simpa [List.getD_eq_getElem?_getD, hk] using this
    · simp at h; subst h; exact hs.j p) (by decide) i, hs.d⟩
set_option maxHeartbeats 1600000 in
theorem law_Again_ok (l : Lkg) (pick : Int) (hp0 : 0 ≤ pick) (hp1 : pick ≤ 255) (hl : l.ok big) : Pure Try.prog 4 [l.D, .v (.int .u8 pick)] (dB true) := by
  refine Pure.intro (n := 67) tok Try.func4 rfl rfl rfl (Nat.le_of_ble_eq_true rfl) (by kernel_rfl) (fun B F0 w0 => ?_)
  have cL := law_large_ok l hl (Nat.le_refl _)
  refine AW.seq ?_
  refine AW.region ?_   -- "law.go:162"
  refine AOps.run tok 2 _ _ _ _ rfl ?_
  refine AOps.nil ?_
  refine AW.seq ?_
  rcases hL : largeB l with _ | _
  rotate_left
  · rw [hL] at cL
    refine AW.seq ?_
    refine AW.region ?_
    refine AOps.call tok rfl rfl rfl rfl law_awake_ok ?_
    refine AOps.run tok 3 _ _ _ _ rfl ?_
    refine AOps.call tok rfl rfl rfl rfl cL ?_
    refine AOps.run tok 6 _ _ _ _ rfl ?_
    refine AOps.nil ?_
    refine AW.condT rfl ?_
    refine AW.seq ?_
    refine AW.region ?_
    refine AOps.call tok rfl rfl rfl rfl law_awake_ok ?_
    refine AOps.run tok 1 _ _ _ _ rfl ?_
    refine AOps.nil ?_
    exact AW.ret rfl
  rw [hL] at cL
  have hs := hl.small hL
  have cC := model_Check_ok l hs (by decide)
  rcases hE : chk l with _ | m
  rotate_left
  · rw [hE] at cC
    refine AW.seq ?_
    refine AW.region ?_
    refine AOps.call tok rfl rfl rfl rfl law_awake_ok ?_
    refine AOps.run tok 3 _ _ _ _ rfl ?_
    refine AOps.call tok rfl rfl rfl rfl cL ?_
    refine AOps.run tok 3 _ _ _ _ rfl ?_
    refine AOps.call tok rfl rfl rfl rfl cC ?_
    refine AOps.err tok rfl rfl rfl rfl rfl ?_
    refine AOps.run tok 1 _ _ _ _ rfl ?_
    refine AOps.nil ?_
    refine AW.condT rfl ?_
    refine AW.seq ?_
    refine AW.region ?_
    refine AOps.call tok rfl rfl rfl rfl law_awake_ok ?_
    refine AOps.run tok 1 _ _ _ _ rfl ?_
    refine AOps.nil ?_
    exact AW.ret rfl
  rw [hE] at cC
  refine AW.seq ?_
  refine AW.region ?_
  refine AOps.call tok rfl rfl rfl rfl law_awake_ok ?_
  refine AOps.run tok 3 _ _ _ _ rfl ?_
  refine AOps.call tok rfl rfl rfl rfl cL ?_
  refine AOps.run tok 3 _ _ _ _ rfl ?_
  refine AOps.call tok rfl rfl rfl rfl cC ?_
  refine AOps.err tok rfl rfl rfl rfl rfl ?_
  refine AOps.run tok 1 _ _ _ _ rfl ?_
  refine AOps.nil ?_
  refine AW.condF rfl ?_
  have hd2 := chk_ds hE
  have hj16 := chk_js hE
  -- with one more driver
  have hs1 := again_ok hs hd2
  have cC1 := model_Check_ok _ hs1 (by decide)
  obtain ⟨k1, hk1⟩ : ∃ k, chk { l with drivers := l.drivers ++ [againD] } = k + 1 := ⟨chk { l with drivers := l.drivers ++ [againD] } - 1, by have := again_driver (l := l) againD rfl; omega⟩
  rw [hk1] at cC1
  have hag := fun p h16 hp => again_joint (l := l) hE h16 (p := p) hp
  obtain ⟨ln, bs, js, ds⟩ := l
  have hd2 : ds.length ≤ 2 := hd2
  have hj16 : js.length ≤ 16 := hj16
  refine AW.skip ?_
  refine AW.seq ?_
  refine AW.region ?_   -- "law.go:166"
  refine AOps.run tok 3 _ _ _ _ rfl ?_
  refine AOps.nil ?_
  refine AZ.aw ?_
  refine AZ.to [1, 2, 5] [(1, .d (.v (.int .u8 pick))), (2, .bx [dS ln, BodiesD bs, JointsD js, DriversD ds]), (5, .bx [dS ln, BodiesD bs, JointsD js, DriversD ds])] rfl ?_
  refine AZ.seq ?_
  refine AZ.region ?_   -- "law.go:167"
  refine AZOps.cut 4 rfl (fun B1 F1 w1 => ?_)
  refine AOps.run tok 3 _ _ _ _ rfl ?_
  refine AOps.app0 tok rfl rfl rfl rfl (by show (ds.map Driver.D).length * 24 ≤ _; rw [List.length_map]; omega) ?_
  refine AOps.nil ⟨rfl, ?_⟩
  refine AZOps.loosen 22 rfl rfl rfl (fun V => ?_)
  refine AZOps.to [22, 1, 2, 5] [(22, .d (.v V)), (1, .d (.v (.int .u8 pick))), (2, .bx [dS ln, BodiesD bs, JointsD js, DriversD ds]), (5, .bx [dS ln, BodiesD bs, JointsD js, DriversD ds])] rfl ?_
  refine AZOps.cut 2 rfl (fun B1 F1 w1 => ?_)
  refine AOps.run tok 2 _ _ _ _ rfl ?_
  refine AOps.nil ⟨rfl, ?_⟩
  refine AZOps.nil ?_
  refine AZ.to [1, 2, 5] [(1, .d (.v (.int .u8 pick))), (2, .bx [dS ln, BodiesD bs, JointsD js, DriversD ds]), (5, .bx [dS ln, BodiesD bs, JointsD js, .v V])] rfl ?_
  refine AZ.seq ?_
  refine AZ.region ?_   -- "law.go:168"
  refine AZOps.cut 2 rfl (fun B1 F1 w1 => ?_)
  refine AOps.run tok 2 _ _ _ _ rfl ?_
  refine AOps.nil ⟨rfl, ?_⟩
  refine AZOps.adopt 25 0 rfl rfl rfl ?_
  refine AZOps.to [25, 1, 2, 5] [(25, .ow 49 (ds.map Driver.D)), (1, .d (.v (.int .u8 pick))), (2, .bx [dS ln, BodiesD bs, JointsD js, DriversD ds]), (5, .bx [dS ln, BodiesD bs, JointsD js, .v V])] rfl ?_
  refine AZOps.cut 3 rfl (fun B1 F1 w1 => ?_)
  refine AOps.run tok 1 _ _ _ _ rfl ?_
  refine AOps.bsd tok rfl rfl rfl rfl rfl ?_
  refine AOps.appo tok rfl rfl rfl rfl rfl rfl (by show ((ds.map Driver.D).length + 1) * 24 ≤ _; rw [List.length_map]; omega) (by show (ds.map Driver.D).length + 1 ≤ _; rw [List.length_map]; omega) ?_
  refine AOps.nil ⟨rfl, ?_⟩
  refine AZOps.loosen 28 rfl rfl rfl (fun V2 => ?_)
  refine AZOps.to [28, 1, 2, 5] [(28, .d (.v V2)), (1, .d (.v (.int .u8 pick))), (2, .bx [dS ln, BodiesD bs, JointsD js, DriversD ds]), (5, .bx [dS ln, BodiesD bs, JointsD js, .v V])] rfl ?_
  refine AZOps.cut 2 rfl (fun B1 F1 w1 => ?_)
  refine AOps.run tok 2 _ _ _ _ rfl ?_
  refine AOps.nil ⟨rfl, ?_⟩
  refine AZOps.frzc tok 5 3 1 (xs := (ds ++ [againD]).map Driver.D) rfl rfl (by rw [List.map_append]; rfl) rfl ?_
  refine AZOps.nil ?_
  refine AZ.to [1, 2, 5] [(1, .d (.v (.int .u8 pick))), (2, .bx [dS ln, BodiesD bs, JointsD js, DriversD ds]), (5, .bx [dS ln, BodiesD bs, JointsD js, DriversD (ds ++ [againD])])] rfl ?_
  refine AZ.forget ?_
  refine AZ.seq ?_
  refine AZ.seq ?_
  refine AZ.reg (fun B1 F1 w1 => ?_)   -- "law.go:169"
  refine AOps.run tok 1 _ _ _ _ rfl ?_
  refine AOps.call tok rfl rfl rfl rfl cC1 ?_
  refine AOps.err tok rfl rfl rfl rfl rfl ?_
  refine AOps.nil ⟨rfl, ?_⟩
  refine AZ.condF rfl ?_
  refine AZ.skip ?_
  refine AZ.seq ?_
  refine AZ.seq ?_
  refine AZ.reg (fun B1 F1 w1 => ?_)   -- "law.go:172"   -- GUARDS
  refine AOps.run tok 4 _ _ _ _ rfl ?_
  rw [List.length_map]
  refine AOps.split (t := 36) rfl (fun h => ?_) (fun h0 => ?_)
  · refine AOps.run tok 6 _ _ _ _ rfl ?_
    refine AOps.nil ⟨rfl, ?_⟩
    refine AZ.condT rfl ?_
    refine AZ.seq ?_
    refine AZ.reg (fun B1 F1 w1 => ?_)
    refine AOps.run tok 1 _ _ _ _ rfl ?_
    refine AOps.nil ⟨rfl, ?_⟩
    exact AZ.ret rfl
  refine AOps.run tok 5 _ _ _ _ rfl ?_
  rw [List.length_map]
  refine AOps.split (t := 41) rfl (fun h => ?_) (fun h1 => ?_)
  · refine AOps.run tok 1 _ _ _ _ rfl ?_
    refine AOps.nil ⟨rfl, ?_⟩
    refine AZ.condT rfl ?_
    refine AZ.seq ?_
    refine AZ.reg (fun B1 F1 w1 => ?_)
    refine AOps.run tok 1 _ _ _ _ rfl ?_
    refine AOps.nil ⟨rfl, ?_⟩
    exact AZ.ret rfl
  refine AOps.run tok 1 _ _ _ _ rfl ?_
  refine AOps.nil ⟨rfl, ?_⟩
  refine AZ.condF rfl ?_
  have hj0 : 0 < js.length := by have := of_decide_eq_false h0; omega
  have hj1 : js.length < 16 := by have := of_decide_eq_false h1; omega
  refine AZ.skip ?_
  refine AZ.seq ?_
  refine AZ.reg (fun B1 F1 w1 => ?_)   -- "law.go:175"
  refine AOps.run tok 2 _ _ _ _ rfl ?_
  refine AOps.nil ⟨rfl, ?_⟩
  refine AZ.to [1, 2, 5] [(1, .d (.v (.int .u8 pick))), (2, .bx [dS ln, BodiesD bs, JointsD js, DriversD ds]), (5, .bx [dS ln, BodiesD bs, JointsD js, DriversD ds])] rfl ?_
  refine AZ.seq ?_
  refine AZ.region ?_   -- "law.go:176"
  refine AZOps.cut 4 rfl (fun B1 F1 w1 => ?_)
  refine AOps.run tok 3 _ _ _ _ rfl ?_
  refine AOps.app0 tok rfl rfl rfl rfl (by show (js.map Joint.D).length * 64 ≤ _; rw [List.length_map]; omega) ?_
  refine AOps.nil ⟨rfl, ?_⟩
  refine AZOps.loosen 47 rfl rfl rfl (fun V3 => ?_)
  refine AZOps.to [47, 1, 2, 5] [(47, .d (.v V3)), (1, .d (.v (.int .u8 pick))), (2, .bx [dS ln, BodiesD bs, JointsD js, DriversD ds]), (5, .bx [dS ln, BodiesD bs, JointsD js, DriversD ds])] rfl ?_
  refine AZOps.cut 2 rfl (fun B1 F1 w1 => ?_)
  refine AOps.run tok 2 _ _ _ _ rfl ?_
  refine AOps.nil ⟨rfl, ?_⟩
  refine AZOps.nil ?_
  refine AZ.to [1, 2, 5] [(1, .d (.v (.int .u8 pick))), (2, .bx [dS ln, BodiesD bs, JointsD js, DriversD ds]), (5, .bx [dS ln, BodiesD bs, .v V3, DriversD ds])] rfl ?_
  refine AZ.seq ?_
  have hq : 0 ≤ Int.tmod pick js.length ∧ Int.tmod pick js.length < js.length := ⟨Int.tmod_nonneg _ hp0, Int.tmod_lt_of_pos _ (by omega)⟩
  obtain ⟨p, hp⟩ : ∃ p : Nat, Int.tmod pick js.length = p := ⟨(Int.tmod pick js.length).toNat, by omega⟩
  have hpl : p < js.length := by omega
  refine AZ.any hmix (ZAny.draw 13 (by kernel_rfl) (fun B1 F1 w1 => ?_))   -- "law.go:177"
  refine APre.run tok 9 _ _ _ _ rfl ?_
  rw [List.length_map]
  refine APre.div tok rfl rfl rfl rfl rfl (by omega) ?_
  refine APre.idx tok (js.getD p default).D rfl rfl rfl rfl rfl (by rw [wI64 (by omega) (by omega)]; exact hq.1) (by rw [wI64 (by omega) (by omega), hp, Int.toNat_natCast]; exact getM Joint.D hpl) ?_
  refine APre.run tok 1 _ _ _ _ rfl ?_
  refine APre.bsd tok rfl rfl rfl rfl rfl rfl ?_
  refine APre.nil ⟨rfl, ?_⟩
  refine AZOps.to [50, 61, 1, 2, 5] [(50, .d (.v V3)), (61, .d (.sl 7 [(js.getD p default).D])), (1, .d (.v (.int .u8 pick))), (2, .bx [dS ln, BodiesD bs, JointsD js, DriversD ds]), (5, .bx [dS ln, BodiesD bs, .v V3, DriversD ds])] rfl ?_
  refine AZOps.adopt 50 0 rfl rfl rfl ?_
  refine AZOps.cut 1 rfl (fun B1 F1 w1 => ?_)
  refine AOps.appo tok rfl rfl rfl rfl rfl rfl (by show ((js.map Joint.D).length + 1) * 64 ≤ _; rw [List.length_map]; omega) (by show (js.map Joint.D).length + 1 ≤ _; rw [List.length_map]; omega) ?_
  refine AOps.nil ⟨rfl, ?_⟩
  refine AZOps.loosen 62 rfl rfl rfl (fun V4 => ?_)
  refine AZOps.to [62, 1, 2, 5] [(62, .d (.v V4)), (1, .d (.v (.int .u8 pick))), (2, .bx [dS ln, BodiesD bs, JointsD js, DriversD ds]), (5, .bx [dS ln, BodiesD bs, .v V3, DriversD ds])] rfl ?_
  refine AZOps.cut 2 rfl (fun B1 F1 w1 => ?_)
  refine AOps.run tok 2 _ _ _ _ rfl ?_
  refine AOps.nil ⟨rfl, ?_⟩
  refine AZOps.frzc tok 5 2 1 (xs := (js ++ [js.getD p default]).map Joint.D) rfl rfl (by rw [List.map_append]; rfl) rfl ?_
  refine AZOps.nil ?_
  refine AZ.to [1, 2, 5] [(1, .d (.v (.int .u8 pick))), (2, .bx [dS ln, BodiesD bs, JointsD js, DriversD ds]), (5, .bx [dS ln, BodiesD bs, JointsD (js ++ [js.getD p default]), DriversD ds])] rfl ?_
  refine AZ.forget ?_
  refine AZ.seq ?_
  have cC2 := model_Check_ok _ (again_ok2 hs hj16 p) (by decide)
  rw [hag p hj1 hpl] at cC2
  refine AZ.reg (fun B1 F1 w1 => ?_)   -- "law.go:178"
  refine AOps.run tok 1 _ _ _ _ rfl ?_
  refine AOps.call tok rfl rfl rfl rfl cC2 ?_
  refine AOps.call tok rfl rfl rfl rfl (base_Is_ok 6 6) ?_
  refine AOps.run tok 1 _ _ _ _ rfl ?_
  refine AOps.nil ⟨rfl, ?_⟩
  exact AZ.ret rfl
end Lift
