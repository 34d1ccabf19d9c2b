/- Parts of the proof, one behind the other: the logic, the contracts of the functions that the statement reaches. -/
import Derived.Test.YtockcpjjfcdopaaGreatGrD
set_option linter.unusedVariables false
set_option linter.unusedSimpArgs false
/- Loose rows are read where they are. -/
namespace Lift
open Go
open Go.RowKit (Below)

section
variable {P : Program} {T : Ty} {B : Nat} {F0 : Nat → Prop} {w0 : Bas} {n : Nat} {σ σ' τ σ0 : St} {R R' : List LR} {ops all : Array Oper} {l rest : List Oper} {o : Oper} {d : Nat} {lk hm : Nat → Option AV} {K : List LR → St → Prop} {p : Pins} {ds : List Nat}

def ptrV (V : Value) (k : Nat) : Value := match V with
  | .slice (some ⟨b, o, x⟩) _ _ => .pointer (some ⟨b, o + k, x⟩)
  | _ => undef
theorem Seen.plain {V : Value} {e : Nat} {xs : List D} (h : Seen P B F0 w0 V e xs) (k : Nat) : ∃ b cap, V = .slice (some ⟨b, 0, none⟩) xs.length cap ∧ ptrV V k = .pointer (some ⟨b, k, none⟩) := by
  obtain ⟨b, cap, cs, rfl, _⟩ := h
  exact ⟨b, cap, rfl, by simp [ptrV]⟩

/-- An index into a row that is seen: the row's value, the size of its elements, the index. -/
def idxS (T : Ty) (lk : Nat → Option AV) : Op → Option (Value × Nat × Int)
  | .indexAddr t x i => match T.get t, datF T (ex T lk 0 x), scal (datF T (ex T lk 0 i)) with
    | some ti, some (.v V), some (.int _ iv) => match Nat.beq ti.kind 4, T.get ti.elem with
      | true, some te => some (V, te.size, iv)
      | _, _ => none
    | _, _, _ => none
  | _ => none
theorem PStep.idxs (hT : TOk P T) {V : Value} {e s : Nat} {xs : List D} {iv : Int} (hS : Seen P B F0 w0 V e xs) (hd : o.dst = some d) (hn : hm d = none) (h : idxS T lk o.op = some (V, s, iv)) (h0 : 0 ≤ iv) (hl : iv.toNat < xs.length) : PStep P B F0 w0 d o lk hm (.d (.v (ptrV V (iv.toNat * s)))) := by
  refine ⟨hd, hn, fun a w O hI K Q hK => ?_⟩
  obtain ⟨dst, op, ty, pos, after, guard⟩ := o
  simp only [] at hd h hI
  cases op <;> simp only [idxS] at h <;> try (cases h; done)
  rename_i t x i
  split at h <;> try (cases h; done)
  rename_i ti V' k iv' hti hx hi
  split at h <;> simp at h
  rename_i te hk hte
  obtain ⟨rfl, rfl, rfl⟩ := h
  obtain ⟨info, dd, z, hok⟩ := hT t ti hti
  obtain ⟨info', dd', z', hok'⟩ := hT _ te hte
  have hxv := (datF_ex hT hI (fun t ht => by subst ht; simp [Op.operands]) hx).v_eq.1
  have hiv := (scal_ex hT hI (fun t ht => by subst ht; simp [Op.operands]) hi).1
  obtain ⟨b, cap, hV, hp⟩ := hS.plain (iv'.toNat * te.size)
  rw [hV] at hxv
  refine wp_val (v := ptrV V' (iv'.toNat * te.size)) (w' := w) ?_ (hK _ w O (Grow.refl hI.lt) (.v (by rw [hp]; rfl)))
  have h1 : 0 ≤ iv' ∧ iv' < (xs.length : Int) := by omega
  rw [hp]
  simp [execOp, Instr.indexAt, hxv, hiv, asIntOf, run_underlying (hok.kind4 hk).1, h1, Go.sizeOf, typeInfo, hok'.hinfo, hok'.size, Addr.add_lit]

/-- The element of a row that is seen. -/
def loadS (T : Ty) (lk : Nat → Option AV) : Op → Option (TI × Value)
  | .load t x => match T.get t, datF T (ex T lk 0 x) with
    | some ti, some (.v V) => some (ti, V)
    | _, _ => none
  | _ => none
theorem PStep.loads (hT : TOk P T) {V : Value} {e i s : Nat} {xs : List D} {ti te : TI} {y : D} {av : AV} (hS : Seen P B F0 w0 V e xs) (hd : o.dst = some d) (hn : hm d = none) (h : loadS T lk o.op = some (ti, ptrV V (i * s))) (hte : T.get e = some te) (hs : te.size = s) (hy : xs[i]? = some y) (hav : loadD ti y.flat = some av) :
    PStep P B F0 w0 d o lk hm av := by
  refine ⟨hd, hn, fun a w O hI K Q hK => ?_⟩
  obtain ⟨dst, op, ty, pos, after, guard⟩ := o
  simp only [] at hd h hI
  cases op <;> simp only [loadS] at h <;> try (cases h; done)
  rename_i t x
  split at h <;> simp at h
  rename_i ti' V' hti hx
  obtain ⟨rfl, rfl⟩ := h
  obtain ⟨info, dd, z, hok⟩ := hT t ti' hti
  obtain ⟨info', dd', z', hok'⟩ := hT _ te hte
  have hxv := (datF_ex hT hI (fun t ht => by subst ht; simp [Op.operands]) hx).v_eq.1
  obtain ⟨b, cap, cs, hV, h1, h2, h3, h4, h5⟩ := hS
  have hp : ptrV V (i * s) = .pointer (some ⟨b, i * s, none⟩) := by rw [hV]; simp [ptrV]
  rw [hp] at hxv
  have hb : w.heap[b]? = some (.cells cs e (0, 0)) := by rw [hI.below.block b h1 h2]; exact h3
  have hsz : P.cellsOf e = s := by rw [hok'.cellsOf, hs]
  obtain ⟨x', v, rfl, hrun, hrd⟩ := load_run (F := Free O (FW B F0 w)) hok hb (off := i * s) (fun j z hj => by
    have hlt : j < P.cellsOf e := by rw [← h4 y (List.mem_of_getElem? hy)]; exact (List.getElem?_eq_some_iff.1 hj).1
    have := flatAll_get j h4 hy hlt
    rw [hj] at this
    obtain ⟨f1, u, f2, f3⟩ := h5 _ z this
    exact ⟨f1, u, by rw [← hsz]; exact f2, f3 w O hI.below hI.orange⟩) hav
  exact wp_val (v := v) (w' := w) (by simp [execOp, Instr.loadAt, Instr.sureAddr, hxv, hrun]) (hK _ w O (Grow.refl hI.lt) hrd)

/-- The length of a row that is seen. -/
def lenS (T : Ty) (lk : Nat → Option AV) : Op → Option Value
  | .call c => match c.callee with
    | .builtin .len => match c.args.toList, c.argTypes.toList with
      | [x], [t] => match T.get t, datF T (ex T lk 0 x) with
        | some i, some (.v V) => match Nat.beq i.kind 4 with
          | true => some V
          | false => none
        | _, _ => none
      | _, _ => none
    | _ => none
  | _ => none
theorem PStep.lens (hT : TOk P T) {V : Value} {e : Nat} {xs : List D} (hS : Seen P B F0 w0 V e xs) (hd : o.dst = some d) (hn : hm d = none) (h : lenS T lk o.op = some V) : PStep P B F0 w0 d o lk hm (.d (.v (.int .i64 (xs.length : Int)))) := by
  refine ⟨hd, hn, fun a w O hI K Q hK => ?_⟩
  obtain ⟨dst, op, ty, pos, after, guard⟩ := o
  simp only [] at hd h hI
  cases op <;> simp only [lenS] at h <;> try (cases h; done)
  rename_i c
  obtain ⟨callee, args, ats⟩ := c
  simp only [] at h
  split at h <;> try (cases h; done)
  split at h <;> try (cases h; done)
  rename_i x t hargs hats
  split at h <;> try (cases h; done)
  rename_i i V' hti hx
  split at h <;> simp at h
  rename_i hk
  subst h
  obtain ⟨info, dd, z, hok⟩ := hT t i hti
  have hargs' : args = #[x] := by apply Array.ext'; simpa using hargs
  have hats' : ats = #[t] := by apply Array.ext'; simpa using hats
  subst hargs'
  subst hats'
  have hxv := (datF_ex hT hI (fun t ht => by subst ht; simp [Op.operands, Call.operands]) hx).v_eq.1
  obtain ⟨b, cap, hV, _⟩ := hS.plain 0
  refine wp_val (v := .int .i64 (xs.length : Int)) (w' := w) ?_ (hK _ w O (Grow.refl hI.lt) (.v rfl))
  have hrun : (Builtin.len_ #[t] ty #[V']).run P w = .ok (.int .i64 (xs.length : Int)) w := by
    rw [hV]
    simp [Builtin.len_, run_underlying (hok.kind4 hk).1, goInt]
  simp [execOp, resolve, invoke, builtin, hxv, hrun]

theorem AOps.idxs (hT : TOk P T) {K : St → Prop} {V : Value} {e s : Nat} {xs : List D} {iv : Int} (hS : Seen P B F0 w0 V e xs) (hd : o.dst = some d) (hdn : Nat.ble (d + 1) n = true) (hg : guardOk all σ o = true) (hx : idxS T σ.get o.op = some (V, s, iv)) (h0 : 0 ≤ iv) (hl : iv.toNat < xs.length)
    (h : AOps P B F0 w0 n all rest K ((d, .d (.v (ptrV V (iv.toNat * s)))) :: σ)) : AOps P B F0 w0 n all (o :: rest) K σ := AOps.pure hg hdn (PStep.idxs hT hS hd (hmx_self σ d) hx h0 hl) h
theorem AOps.loads (hT : TOk P T) {K : St → Prop} {V : Value} {e i s : Nat} {xs : List D} {ti te : TI} {x : D} (y : D) (hS : Seen P B F0 w0 V e xs) (hd : o.dst = some d) (hdn : Nat.ble (d + 1) n = true) (hg : guardOk all σ o = true) (hx : loadS T σ.get o.op = some (ti, ptrV V (i * s))) (hte : T.get e = some te) (hs : te.size = s) (hy : xs[i]? = some y) (hav : loadD ti y.flat = some (.d x))
    (h : AOps P B F0 w0 n all rest K ((d, .d x) :: σ)) : AOps P B F0 w0 n all (o :: rest) K σ := AOps.pure hg hdn (PStep.loads hT hS hd (hmx_self σ d) hx hte hs hy hav) h
theorem AOps.lens (hT : TOk P T) {K : St → Prop} {V : Value} {e : Nat} {xs : List D} (hS : Seen P B F0 w0 V e xs) (hd : o.dst = some d) (hdn : Nat.ble (d + 1) n = true) (hg : guardOk all σ o = true) (hx : lenS T σ.get o.op = some V)
    (h : AOps P B F0 w0 n all rest K ((d, .d (.v (.int .i64 (xs.length : Int)))) :: σ)) : AOps P B F0 w0 n all (o :: rest) K σ := AOps.pure hg hdn (PStep.lens hT hS hd (hmx_self σ d) hx) h
theorem APre.idxs (hT : TOk P T) {K : St → Prop} {V : Value} {e s : Nat} {xs : List D} {iv : Int} (hS : Seen P B F0 w0 V e xs) (hd : o.dst = some d) (hdn : Nat.ble (d + 1) n = true) (hg : guardOk ops τ o = true) (hs : σ0.get d = none) (hx : idxS T τ.get o.op = some (V, s, iv)) (h0 : 0 ≤ iv) (hl : iv.toNat < xs.length)
    (h : APre P B F0 w0 n ops ds σ0 rest ((d, .d (.v (ptrV V (iv.toNat * s)))) :: τ) K) : APre P B F0 w0 n ops ds σ0 (o :: rest) τ K := APre.pure hd hdn rfl hg (PStep.idxs hT hS hd hs hx h0 hl) h
theorem APre.loads (hT : TOk P T) {K : St → Prop} {V : Value} {e i s : Nat} {xs : List D} {ti te : TI} {x : D} (y : D) (hS : Seen P B F0 w0 V e xs) (hd : o.dst = some d) (hdn : Nat.ble (d + 1) n = true) (hg : guardOk ops τ o = true) (hs : σ0.get d = none) (hx : loadS T τ.get o.op = some (ti, ptrV V (i * s))) (hte : T.get e = some te) (hs2 : te.size = s) (hy : xs[i]? = some y) (hav : loadD ti y.flat = some (.d x))
    (h : APre P B F0 w0 n ops ds σ0 rest ((d, .d x) :: τ) K) : APre P B F0 w0 n ops ds σ0 (o :: rest) τ K := APre.pure hd hdn rfl hg (PStep.loads hT hS hd hs hx hte hs2 hy hav) h
theorem APre.lens (hT : TOk P T) {K : St → Prop} {V : Value} {e : Nat} {xs : List D} (hS : Seen P B F0 w0 V e xs) (hd : o.dst = some d) (hdn : Nat.ble (d + 1) n = true) (hg : guardOk ops τ o = true) (hs : σ0.get d = none) (hx : lenS T τ.get o.op = some V)
    (h : APre P B F0 w0 n ops ds σ0 rest ((d, .d (.v (.int .i64 (xs.length : Int)))) :: τ) K) : APre P B F0 w0 n ops ds σ0 (o :: rest) τ K := APre.pure hd hdn rfl hg (PStep.lens hT hS hd hs hx) h

/-- What the loose rows are, seen from a base. -/
def SeenR (P : Program) (B : Nat) (F0 : Nat → Prop) (w0 : Bas) (R : List LR) : Prop := ∀ (i : Nat) (V : Value) (e : Nat) (xs : List D), R[i]? = some (V, .ow e xs) → xs ≠ [] → Seen P B F0 w0 V e xs
theorem SeenR.at {i : Nat} {V : Value} {e : Nat} {xs : List D} (h : SeenR P B F0 w0 R) (hi : R[i]? = some (V, .ow e xs)) (hne : 0 < xs.length) : Seen P B F0 w0 V e xs := h i V e xs hi (fun e => by subst e; simp at hne)
theorem AZOps.cutS (k : Nat) (hp : pinsB p (l.take k) = true) (h : ∀ B1 F1 w1, SeenR P B1 F1 w1 R → AOps P B1 F1 w1 n all (l.take k) (fun σ' => σ'.noTag = true ∧ AZOps P B F0 w0 n all (l.drop k) K p R σ') σ) : AZOps P B F0 w0 n all l K p R σ := by
  intro a w hR hpin Q hQ
  obtain ⟨B1, F1, w1, hR1, hS, hback⟩ := hR.subS
  rw [← List.take_append_drop k l]
  refine wpList_append (l.drop k) (l.take k) a w ?_
  have h1 := h B1 F1 w1 hS a w hR1 (fun e a' w' => e = .normal ∧ ∃ σ', σ'.noTag = true ∧ AZOps P B F0 w0 n all (l.drop k) K p R σ' ∧ RelZ P B F0 w0 n R σ' a' w') (fun a' w' σ' ⟨h1, h2⟩ hR' => ⟨rfl, σ', h1, h2, hback σ' a' w' h1 hR'⟩)
  refine wpList_mono (fun e a' w' ⟨⟨he, σ', _, h2, h3⟩, h4⟩ => ?_) (wpList_pins hpin (pinsB_ok hp) h1)
  subst he
  exact h2 a' w' h3 (h4 rfl) Q hQ
variable {Q : Exit → List LR → St → Prop} {x : Code}
theorem AZ.frameS (h : ∀ B1 F1 w1, SeenR P B1 F1 w1 R → AW P B1 F1 w1 n x (fun e σ' => σ'.noTag = true ∧ Q e R σ') σ) : AZ P B F0 w0 n x Q R σ := by
  intro a w hR
  obtain ⟨B1, F1, w1, hR1, hS, hback⟩ := hR.subS
  exact wp_mono (h B1 F1 w1 hS a w hR1) fun e a' w' ⟨σ', ⟨h1, h2⟩, hR'⟩ => ⟨R, σ', h2, hback σ' a' w' h1 hR'⟩
theorem AZ.regS {id : Nat} (h : ∀ B1 F1 w1, SeenR P B1 F1 w1 R → AOps P B1 F1 w1 n ops ops.toList (fun σ' => σ'.noTag = true ∧ Q .normal R σ') σ) : AZ P B F0 w0 n (.region id ops false) Q R σ :=
  AZ.frameS fun B1 F1 w1 hS => AW.region (h B1 F1 w1 hS)
theorem AZ.drwS {id : Nat} (hmx : P.follows .mixedOrders = true) (m : Nat) (hB : drawB ops m = true)
    (h : ∀ B1 F1 w1, SeenR P B1 F1 w1 R → APre P B1 F1 w1 n ops (heads ops m) (σ.less (heads ops m)) (ops.toList.take m) (σ.less (heads ops m)) (fun τ => AOps P B1 F1 w1 n ops (ops.toList.drop m) (fun σ' => σ'.noTag = true ∧ Q .normal R σ') τ)) : AZ P B F0 w0 n (.region id ops true) Q R σ :=
  AZ.frameS fun B1 F1 w1 hS => AW.draw hmx m hB (h B1 F1 w1 hS)
theorem ZAny.drawS (m : Nat) (hB : drawB ops m = true)
    (h : ∀ B1 F1 w1, SeenR P B1 F1 w1 R → APre P B1 F1 w1 n ops (heads ops m) (σ.less (heads ops m)) (ops.toList.take m) (σ.less (heads ops m)) (fun τ => τ.noTag = true ∧ AZOps P B F0 w0 n ops (ops.toList.drop m) (Q .normal) [] R τ)) : ZAny P B F0 w0 n ops Q R σ := by
  intro a w hR
  obtain ⟨B1, F1, w1, hR1, hS, hback⟩ := hR.subS
  exact AAny.drawG m hB (fun τ a' w' ⟨ht, hz⟩ hR' => hz a' w' (hback τ a' w' ht hR') (fun e he => by cases he) _ (fun a w R' σ' hk hr => ⟨R', σ', hk, hr⟩)) (h B1 F1 w1 hS) a w hR1

/-- A pointer into a loose row whose home is slot t by now. -/
theorem RelZ.el {t u e k : Nat} {V : Value} {xs : List D} {a : Act} {w : World} (hR : RelZ P B F0 w0 n R σ a w) (ht : σ.get t = some (.ow e xs)) (hV : a.tmps[t]? = some V) (hu : σ.get u = some (.d (.v (ptrV V (k * P.cellsOf e))))) (hk : k < xs.length) (htu : t ≠ u) :
    RelZ P B F0 w0 n R ((u, .el t k 0) :: σ) a w := by
  obtain ⟨O, hOr, hO, hL⟩ := hR.own
  obtain ⟨v, hv, hr⟩ := hO t _ ht
  rw [hV] at hv
  cases hv
  refine ⟨hR.below, hR.base, hR.f0, hR.defers, hR.size, O, hOr, fun j av hj => ?_, hL⟩
  have hkeep : ∀ j x, x.home = true → St.get ((u, AV.el t k 0) :: σ) j = some x → σ.get j = some x ∧ a.tmps[j]? = a.tmps[j]? := fun j x hx hj => by
    rw [St.get_cons] at hj
    split at hj
    · cases hj; cases hx
    · exact ⟨hj, rfl⟩
  rw [St.get_cons] at hj
  split at hj
  · rename_i e'
    subst e'
    cases hj
    obtain ⟨v', hv', hr'⟩ := hO u _ hu
    refine ⟨v', hv', fun x e' l hx hrow => ?_⟩
    have hx' := (hkeep t x (row_home (by rw [hrow]; rfl)) hx).1
    rw [ht] at hx'
    cases hx'
    simp only [AV.row, Option.some.injEq, Prod.mk.injEq] at hrow
    obtain ⟨rfl, rfl⟩ := hrow
    refine ⟨hk, ?_⟩
    rcases hr with ⟨_, _, h⟩ | ⟨b, cap, cs, rfl, _⟩
    · subst h; simp at hk
    refine ⟨b, 0, _, cap, hV, ?_⟩
    have := (Rd.v_eq hr').1
    rw [this]
    simp [ptrV]
  · obtain ⟨z, hz, hzr⟩ := hO j av hj
    exact ⟨z, hz, hzr.move (fun c hc => ⟨hc, rfl⟩) (fun _ c hc => ⟨hc, rfl⟩) (fun k _ x hx hk => hkeep k x hx hk)⟩
theorem AZOps.el (hT : TOk P T) (t u : Nat) {e k s : Nat} {V : Value} {xs : List D} {te : TI} (ht : σ.get t = some (.ow e xs)) (hp : (t, V) ∈ p) (hu : σ.get u = some (.d (.v (ptrV V (k * s))))) (hte : T.get e = some te) (hs : te.size = s) (hk : k < xs.length) (htu : Nat.beq t u = false)
    (h : AZOps P B F0 w0 n all l K p R ((u, .el t k 0) :: σ)) : AZOps P B F0 w0 n all l K p R σ := by
  intro a w hR hpin Q hQ
  obtain ⟨info, d, z, hok⟩ := hT e te hte
  exact h a w (hR.el ht (hpin _ hp) (by rw [hok.cellsOf, hs]; exact hu) hk (Nat.ne_of_beq_eq_false htu)) hpin Q hQ
end
end Lift
/- Two moves that may be taken first in a region whose order is open. -/
namespace Lift
open Go
open Go.RowKit (Below)

section
variable {P : Program} {T : Ty} {B : Nat} {F0 : Nat → Prop} {w0 : Bas} {n : Nat} {σ : St} {ops E : Array Oper}

/-- All but i wait for j. -/
def edgeX (j i k : Nat) (o : Oper) : Oper := match Nat.beq k i with
  | true => o
  | false => addEdge j k o
def earlierX (j i : Nat) (ops : Array Oper) : Array Oper := (ops.toList.zipIdx.map fun x => edgeX j i x.2 x.1).toArray
theorem earlierX_get (j i : Nat) (ops : Array Oper) (k : Nat) : (earlierX j i ops)[k]? = (ops[k]?).map (edgeX j i k) := by
  unfold earlierX
  rw [List.getElem?_toArray, List.getElem?_map, List.getElem?_zipIdx]
  simp
  cases ops[k]? <;> rfl
theorem earlierX_size (j i : Nat) (ops : Array Oper) : (earlierX j i ops).size = ops.size := by simp [earlierX]
theorem edgeX_op (j i k : Nat) (o : Oper) : (edgeX j i k o).op = o.op ∧ (edgeX j i k o).dst = o.dst ∧ (edgeX j i k o).guard = o.guard := by
  unfold edgeX
  split
  · exact ⟨rfl, rfl, rfl⟩
  · exact addEdge_op j k o
theorem edgeX_exec (j i k : Nat) (o : Oper) (ρ : Operand → Value) : execOp ρ (edgeX j i k o) = execOp ρ o := by
  unfold edgeX
  split
  · rfl
  · exact addEdge_exec j k o ρ
variable {Q : Exit → Act → World → Prop}
theorem wpOp_earlierX (j i k : Nat) {K : Act → World → Prop} {a : Act} {w : World} (h : wpOp P (earlierX j i ops) Q k K a w) : wpOp P ops Q k K a w := by
  unfold wpOp at *
  rw [earlierX_get] at h
  cases ho : ops[k]? with
  | none => rw [ho] at h; exact h
  | some o =>
    rw [ho] at h
    simp only [Option.map_some] at h ⊢
    obtain ⟨e1, e2, e3⟩ := edgeX_op j i k o
    have hy : ∀ g, yielded (earlierX j i ops) a.tmps g = yielded ops a.tmps g := fun g => by
      unfold yielded
      rw [earlierX_get]
      cases ops[g]? with
      | none => rfl
      | some og => simp only [Option.map_some, Option.bind_some, (edgeX_op j i g og).2.1]
    have hw : Region.wanted (edgeX j i k o) (yielded (earlierX j i ops) a.tmps) = Region.wanted o (yielded ops a.tmps) := by
      unfold Region.wanted
      rw [e3]
      split
      · rfl
      · rw [hy]
    rw [hw, e2] at h
    have hwp : (edgeX j i k o).wp P a w K Q → o.wp P a w K Q := fun h => by
      unfold Oper.wp at *
      rw [edgeX_exec] at h
      generalize (execOp a.eval o).run P w = r at *
      cases r with
      | ok n w' => cases n <;> simp only [Oper.upon, e2] at h ⊢ <;> exact h
      | halt x w' => cases x <;> simp only [Oper.upon] at h ⊢ <;> exact h
    have has : (edgeX j i k o).asks P a w → o.asks P a w := fun h => by
      unfold Oper.asks at *
      rw [edgeX_exec] at h
      exact h
    split
    · rename_i hc
      rw [if_pos hc] at h
      rcases h with h | ⟨h1, h2⟩
      · exact .inl (hwp h)
      · exact .inr ⟨has h1, h2⟩
    · rename_i hc
      rw [if_neg hc] at h
      exact h
theorem ready_earlierX {j i : Nat} {listed : Array Bool} (hj : listed.getD j false = true) (k : Nat) : k ∈ Region.ready .any (earlierX j i ops) listed ↔ k ∈ Region.ready .any ops listed := by
  rw [mem_ready, mem_ready, earlierX_get]
  have key : ∀ (o : Oper) (e : Edge), e ∈ (edgeX j i k o).after → e ∈ o.after ∨ listed.getD e.on false = true := fun o e he => by
    unfold edgeX addEdge at he
    split at he
    · exact .inl he
    · split at he
      · exact .inl he
      · simp at he
        rcases he with he | rfl
        · exact .inl he
        · exact .inr hj
  have key2 : ∀ (o : Oper) (e : Edge), e ∈ o.after → e ∈ (edgeX j i k o).after := fun o e he => by
    unfold edgeX addEdge
    split
    · exact he
    · split
      · exact he
      · simp [he]
  refine and_congr Iff.rfl ⟨fun ⟨o, ho, hall⟩ => ?_, fun ⟨o, ho, hall⟩ => ?_⟩
  · cases hk : ops[k]? with
    | none => rw [hk] at ho; cases ho
    | some ok =>
      rw [hk] at ho
      simp at ho
      subst ho
      exact ⟨ok, rfl, fun e he hb => hall e (key2 ok e he) hb⟩
  · refine ⟨edgeX j i k o, by rw [ho]; rfl, fun e he hb => ?_⟩
    rcases key o e he with h | h
    · exact hall e h hb
    · exact h
theorem wpAny_earlierX {j i : Nat} : ∀ (f : Nat) (listed : Array Bool) (a : Act) (w : World), listed.getD j false = true → wpAny P .any (earlierX j i ops) Q f listed a w → wpAny P .any ops Q f listed a w
  | 0, listed, a, w, hi, h => by
    refine ⟨?_, h.2⟩
    apply List.eq_nil_iff_forall_not_mem.2
    intro k hk
    have := (ready_earlierX (i := i) hi k).2 hk
    rw [h.1] at this
    cases this
  | f + 1, listed, a, w, hi, h => by
    refine ⟨fun hn => h.1 ?_, fun k hk => ?_⟩
    · apply List.eq_nil_iff_forall_not_mem.2
      intro k hk
      have := (ready_earlierX (i := i) hi k).1 hk
      rw [hn] at this
      cases this
    · exact wpOp_mono (fun a' w' h' => wpAny_earlierX f _ a' w' (getD_set_true hi) h') (wpOp_earlierX j i k (h.2 k ((ready_earlierX (i := i) hi k).2 hk)))

/-- All wait for i, which waits for nothing; j is a move that waits for i alone; the others wait for j or have nothing to do with it. -/
def early2B (ops : Array Oper) (i j : Nat) : Bool := match ops[i]?, ops[j]? with
  | some oi, some oj => oi.guard.isNone && (oi.after.toList.all fun e => !Region.binds .any e) && (isMv oj.op).isSome && oj.guard.isNone && (oj.after.toList.all fun e => !Region.binds .any e || Nat.beq e.on i) && noSel ops && !Nat.beq i j &&
      ((List.range ops.size).all fun k => Nat.beq k i || match ops[k]? with
        | some o => o.after.toList.any fun e => Region.binds .any e && Nat.beq e.on i
        | none => true) &&
      ((List.range ops.size).all fun k => Nat.beq k j || match ops[k]? with
        | some o => (o.after.toList.any fun e => Region.binds .any e && Nat.beq e.on j) || oj.apart ops o || Nat.beq k i
        | none => true)
  | _, _ => false
theorem AAny.early2 {Q : Exit → St → Prop} {ops : Array Oper} (i j : Nat) (hB : early2B ops i j = true) (hQ : ∀ c σ, Q (.panic c) σ → False) (h : AAny P B F0 w0 n (earlierX j i ops) Q σ) : AAny P B F0 w0 n ops Q σ := by
  intro a w hR
  have hA := h a w hR
  unfold early2B at hB
  split at hB
  rotate_left
  · cases hB
  rename_i oi oj hoi hoj
  simp only [Bool.and_eq_true, List.all_eq_true, Bool.not_eq_true'] at hB
  obtain ⟨⟨⟨⟨⟨⟨⟨⟨hgi, hai⟩, hmv⟩, hgj⟩, haj⟩, hsel⟩, hij⟩, hwi⟩, hwj⟩ := hB
  have hij := Nat.ne_of_beq_eq_false hij
  have hil : i < ops.size := (Array.getElem?_eq_some_iff.1 hoi).1
  have hjl : j < ops.size := (Array.getElem?_eq_some_iff.1 hoj).1
  obtain ⟨x, hx⟩ := Option.isSome_iff_exists.1 hmv
  have hop : oj.op = .move x := by
    cases ho : oj.op <;> rw [ho] at hx <;> simp [isMv] at hx
    rw [hx]
  have hgin : oi.guard = none := by simpa using hgi
  have hgjn : oj.guard = none := by simpa using hgj
  obtain ⟨s, hs⟩ : ∃ s, ops.size = s + 2 := ⟨ops.size - 2, by omega⟩
  let l0 : Array Bool := Array.replicate ops.size false
  let l1 : Array Bool := l0.setIfInBounds i true
  have hl0 : ∀ k, l0.getD k false = false := fun k => getD_replicate_false _ _
  have hi0 : l0.getD i true = false := getD_in (by simpa [l0] using hil) (getD_replicate_false _ _)
  have hl1i : l1.getD i false = true := by
    simp only [l1, l0, Array.getD_eq_getD_getElem?]
    rw [Array.getElem?_setIfInBounds_self_of_lt (by simpa using hil)]; rfl
  have hl1 : ∀ k, k ≠ i → ∀ d, l1.getD k d = l0.getD k d := fun k hk d => by
    simp only [l1, Array.getD_eq_getD_getElem?]
    rw [Array.getElem?_setIfInBounds_ne (Ne.symm hk)]
  have hj1 : l1.getD j true = false := by
    rw [hl1 j (Ne.symm hij)]
    exact getD_in (by simpa [l0] using hjl) (getD_replicate_false _ _)
  have hri : ∀ ops' : Array Oper, (∃ o, ops'[i]? = some o ∧ ∀ e, e ∈ o.after → e ∈ oi.after) → i ∈ Region.ready .any ops' l0 := fun ops' ⟨o, h', ha⟩ => by
    rw [mem_ready]
    refine ⟨hi0, o, h', fun e he hb => ?_⟩
    have := hai e (by simpa using ha e he)
    rw [hb] at this
    cases this
  have hri1 := hri ops ⟨oi, hoi, fun e he => he⟩
  have hri2 := hri (earlierX j i ops) ⟨oi, by rw [earlierX_get, hoi]; simp [edgeX], fun e he => he⟩
  have hrj : j ∈ Region.ready .any ops l1 := by
    rw [mem_ready]
    refine ⟨hj1, oj, hoj, fun e he hb => ?_⟩
    have := haj e (by simpa using he)
    rw [hb] at this
    simp at this
    rw [this]; exact hl1i
  have hrjX : j ∈ Region.ready .any (earlierX j i ops) l1 := by
    rw [mem_ready]
    refine ⟨hj1, oj, by rw [earlierX_get, hoj]; simp [edgeX, addEdge, Ne.symm hij]; split <;> rfl, fun e he hb => ?_⟩
    have := haj e (by simpa using he)
    rw [hb] at this
    simp at this
    rw [this]; exact hl1i
  have hexec : ∀ (a : Act) (w : World), (execOp a.eval oj).run P w = .ok (.value (a.eval x)) w := fun a w => by
    obtain ⟨dst, op, ty, pos, after, guard⟩ := oj
    simp only [] at hop
    subst hop
    simp [execOp]
  have step : ∀ a w, wpAny P .any (earlierX j i ops) (fun e a' w' => ∃ σ', Q e σ' ∧ Rel P B F0 w0 n σ' a' w') (s + 1) l1 a w → wpAny P .any ops (fun e a' w' => ∃ σ', Q e σ' ∧ Rel P B F0 w0 n σ' a' w') (s + 1) l1 a w := fun a w hA => by
    have hwant : Region.wanted oj (yielded ops a.tmps) = true := by simp [Region.wanted, hgjn]
    have h1 := wpOp_earlierX j i j (hA.2 j hrjX)
    have h2 : wpAny P .any (earlierX j i ops) (fun e a' w' => ∃ σ', Q e σ' ∧ Rel P B F0 w0 n σ' a' w') s (l1.setIfInBounds j true) (a.put oj.dst (a.eval x)) w := by
      unfold wpOp at h1
      simp only [hoj, hwant, if_true] at h1
      rcases h1 with h1 | ⟨h1, _⟩
      · unfold Oper.wp at h1
        rw [hexec] at h1
        exact h1
      · exfalso
        unfold Oper.asks at h1
        have hx0 : execOp a.eval oj = pure (.value (a.eval x)) := by
          obtain ⟨dst, op, ty, pos, after, guard⟩ := oj
          simp only [] at hop
          subst hop
          rfl
        rw [hx0] at h1
        have h2 := h1.1
        simp [-Sem.runT_eq, pure, Sem.runT] at h2
    have h3 := wpAny_earlierX s _ _ _ (by
      simp only [Array.getD_eq_getD_getElem?]
      rw [Array.getElem?_setIfInBounds_self_of_lt (by simpa [l1, l0] using hjl)]; rfl) h2
    refine wpAny_first (i := j) (oi := oj) (v := a.eval x) hoj (fun k o cs b hk he => ?_) (fun c a' w' ⟨σ', hq, _⟩ => (hQ c σ' hq).elim) s _ a _ (fun k ok hk hkj hkl hne => ?_) hrj (.inl ⟨hwant, fun w => hexec a w⟩) h3
    · unfold noSel at hsel
      have := List.all_eq_true.1 hsel o (by simpa using Array.mem_of_getElem? hk)
      rw [he] at this
      cases this
    · have hkl' : k < ops.size := (Array.getElem?_eq_some_iff.1 hk).1
      have := hwj k (List.mem_range.2 hkl')
      rw [hk] at this
      simp only [Bool.or_eq_true] at this
      rcases this with h | h
      · exact absurd (Nat.eq_of_beq_eq_true h) hkj
      · rcases h with (h | h) | h
        · exfalso
          obtain ⟨e, he, hb⟩ := List.any_eq_true.1 h
          simp only [Bool.and_eq_true] at hb
          exact hne e (by simpa using he) hb.1 (Nat.eq_of_beq_eq_true hb.2)
        · exact h
        · exfalso
          have hki := Nat.eq_of_beq_eq_true h
          rw [hki] at hkl
          have : l1.getD i true = true := by
            simp only [l1, l0, Array.getD_eq_getD_getElem?]
            rw [Array.getElem?_setIfInBounds_self_of_lt (by simpa using hil)]; rfl
          rw [this] at hkl
          cases hkl
  rw [earlierX_size, hs] at hA
  rw [hs]
  have e0 : Array.replicate (s + 2) false = l0 := by simp only [l0]; rw [hs]
  rw [e0] at hA ⊢
  refine ⟨fun hn => (by rw [hn] at hri1; cases hri1), fun k hk => ?_⟩
  have hki : k = i := by
    by_cases hki : k = i
    · exact hki
    · exfalso
      obtain ⟨_, o, ho, hall⟩ := mem_ready.1 hk
      have := hwi k (List.mem_range.2 (Array.getElem?_eq_some_iff.1 ho).1)
      rw [ho] at this
      simp only [Bool.or_eq_true] at this
      rcases this with h | h
      · exact hki (Nat.eq_of_beq_eq_true h)
      · obtain ⟨e, he, hb⟩ := List.any_eq_true.1 h
        simp only [Bool.and_eq_true] at hb
        have h1 := hall e (by simpa using he) hb.1
        rw [hl0] at h1
        cases h1
  subst hki
  exact wpOp_mono (fun a' w' h' => step a' w' h') (wpOp_earlierX j k k (hA.2 k hri2))
end
end Lift
/- Regions whose order is open, where two late operations may still be to come when what follows the first store begins. -/
namespace Lift
open Go
open Go.RowKit (Below)

section
variable {P : Program} {T : Ty} {B : Nat} {F0 : Nat → Prop} {w0 : Bas} {n : Nat} {σ : St} {ops : Array Oper} {K : St → Prop}

/-- What is left is taken, in any order. -/
def Ords (P : Program) (B : Nat) (F0 : Nat → Prop) (w0 : Bas) (n : Nat) (ops : Array Oper) (K : St → Prop) : Nat → Array Bool → St → Prop
  | 0, listed, σ => Region.ready .any ops listed = [] ∧ K σ
  | f + 1, listed, σ => Region.ready .any ops listed ≠ [] ∧ ∀ j, j ∈ Region.ready .any ops listed → ∃ o, ops[j]? = some o ∧ AOps P B F0 w0 n ops [o] (Ords P B F0 w0 n ops K f (listed.setIfInBounds j true)) σ
theorem wpOp_one {Q : Exit → Act → World → Prop} {o : Oper} {j : Nat} (ho : ops[j]? = some o) {K' : St → Prop} {M : Act → World → Prop} (h : AOps P B F0 w0 n ops [o] K' σ) (hK : ∀ a w σ', K' σ' → Rel P B F0 w0 n σ' a w → M a w) {a : Act} {w : World} (hR : Rel P B F0 w0 n σ a w) : wpOp P ops Q j M a w := by
  have h1 := h a w hR (fun e a w => e = .normal ∧ M a w) (fun a w σ' h1 h2 => ⟨rfl, hK a w σ' h1 h2⟩)
  unfold wpList at h1
  unfold wpOp
  rw [ho]
  simp only []
  split at h1
  · rename_i hw
    rw [if_pos hw]
    rcases h1 with h1 | ⟨_, a1, w1, h2, _⟩
    · exact .inl (upon_keep (Q := fun e a w => e = .normal ∧ M a w) (fun c a w h => by cases h.1) (fun h => by obtain ⟨a, w, h, _⟩ := h; cases h) (fun v d w h => h.2) h1)
    · cases h2
  · rename_i hw
    rw [if_neg hw]
    exact h1.2
theorem Ords.any {Q : Exit → Act → World → Prop} : ∀ {f : Nat} {listed : Array Bool} {σ : St}, Ords P B F0 w0 n ops K f listed σ → (∀ a w σ', K σ' → Rel P B F0 w0 n σ' a w → Q .normal a w) → ∀ a w, Rel P B F0 w0 n σ a w → wpAny P .any ops Q f listed a w
  | 0, listed, σ, h, hQ, a, w, hR => ⟨h.1, hQ a w σ h.2 hR⟩
  | f + 1, listed, σ, h, hQ, a, w, hR => ⟨fun e => absurd e h.1, fun j hj => by
    obtain ⟨o, ho, hA⟩ := h.2 j hj
    exact wpOp_one ho hA (fun a w σ' h1 h2 => h1.any hQ a w h2) hR⟩
theorem Ords.ext {f : Nat} {listed : Array Bool} {σ σ' : St} (h : Ords P B F0 w0 n ops K f listed σ) (he : ∀ t, σ.get t = σ'.get t) {Q : Exit → Act → World → Prop} (hQ : ∀ a w σ', K σ' → Rel P B F0 w0 n σ' a w → Q .normal a w) (a : Act) (w : World) (hR : Rel P B F0 w0 n σ' a w) : wpAny P .any ops Q f listed a w :=
  h.any hQ a w (hR.ext he)
/-- The next one of the only ones that may be next. -/
theorem Ords.one {f j : Nat} {listed : Array Bool} {o : Oper} (hr : (Region.ready .any ops listed == [j]) = true) (ho : ops[j]? = some o) (h : AOps P B F0 w0 n ops [o] (Ords P B F0 w0 n ops K f (listed.setIfInBounds j true)) σ) : Ords P B F0 w0 n ops K (f + 1) listed σ := by
  have hr : Region.ready .any ops listed = [j] := by simpa using hr
  refine ⟨by rw [hr]; simp, fun i hi => ?_⟩
  rw [hr] at hi
  simp at hi
  subst hi
  exact ⟨o, ho, h⟩
theorem Ords.two {f j k : Nat} {listed : Array Bool} {o o' : Oper} (hr : (Region.ready .any ops listed == [j, k]) = true) (ho : ops[j]? = some o) (ho' : ops[k]? = some o') (h : AOps P B F0 w0 n ops [o] (Ords P B F0 w0 n ops K f (listed.setIfInBounds j true)) σ)
    (h' : AOps P B F0 w0 n ops [o'] (Ords P B F0 w0 n ops K f (listed.setIfInBounds k true)) σ) : Ords P B F0 w0 n ops K (f + 1) listed σ := by
  have hr : Region.ready .any ops listed = [j, k] := by simpa using hr
  refine ⟨by rw [hr]; simp, fun i hi => ?_⟩
  rw [hr] at hi
  simp at hi
  rcases hi with rfl | rfl
  · exact ⟨o, ho, h⟩
  · exact ⟨o', ho', h'⟩
theorem Ords.zero {listed : Array Bool} (hr : (Region.ready .any ops listed).isEmpty = true) (h : K σ) : Ords P B F0 w0 n ops K 0 listed σ := ⟨by simpa using hr, h⟩

/-- All heads and stores but u have come up. -/
def mkL (ops : Array Oper) (m : Nat) (u : List Nat) : Array Bool := ((List.range ops.size).map fun k => decide (k < m) && !(u.contains k)).toArray
def slotsU (ops : Array Oper) (u : List Nat) : List Nat := u.filterMap fun c => (ops[c]?).bind (·.dst)
def sinkC (ops : Array Oper) (m : Nat) (C : List Nat) : Bool := (List.range ops.size).all fun t => Nat.blt t m || (List.range m).all fun i => C.contains i || reachB ops 12 t i
theorem mkL_get {m : Nat} {u : List Nat} {k : Nat} (d : Bool) (hk : k < ops.size) : (mkL ops m u).getD k d = (decide (k < m) && !(u.contains k)) := by
  simp [mkL, hk]
theorem mkL_size {m : Nat} {u : List Nat} : (mkL ops m u).size = ops.size := by simp [mkL]

namespace D2
variable {lt : List (Nat × Bool)} {m : Nat} {hs ds : List Nat} {σ0 : St} {tl wl : List (Nat × AV)} (H : D2 P T B F0 w0 n ops lt m hs ds σ0 tl wl)
include H
theorem St2_mk {u : List Nat} (hu : ∀ c, c ∈ u → c < m) (t : Nat) : (H.St2 (mkL ops (m + hs.length) u)).get t = St.get (wl.reverse ++ St.wo (slotsU ops u) (tl.reverse ++ σ0)) t := by
  have hsize := H.size
  have hL : ∀ j, j < m + hs.length → (mkL ops (m + hs.length) u).getD j false = !(u.contains j) := fun j hj => by rw [mkL_get false (by omega)]; simp [hj]
  have hcm : ∀ j, m ≤ j → u.contains j = false := fun j hj => by
    cases h : u.contains j with
    | false => rfl
    | true => have := hu j (by simpa using h); omega
  rw [get_append]
  by_cases hw : ∃ (k : Nat) (x : AV), wl[k]? = some (t, x)
  · obtain ⟨k, x, hk⟩ := hw
    have hkl : k < hs.length := (List.getElem?_eq_some_iff.1 (H.wl_spec hk).1).1
    rw [get_rev_some (fun i j a b h1 h2 => H.wl_dist i j t a b h1 h2) hk, H.getW hk (by rw [hL _ (by omega), hcm _ (by omega)]; rfl)]
  · have hun : H.Unw (mkL ops (m + hs.length) u) t := fun k hk => by
      obtain ⟨cs, hwl, _⟩ := H.wls.2 k t hk
      exact absurd ⟨k, _, hwl⟩ hw
    rw [get_rev_none (fun i a hi => hw ⟨i, a, hi⟩), get_wo]
    simp only []
    have hslot : ∀ i x, tl[i]? = some (t, x) → (t ∈ slotsU ops u ↔ i ∈ u) := fun i x hti => by
      have him := (H.ds_of hti).2
      obtain ⟨o, d, av, h1, h2, h3, _⟩ := H.step i him
      rw [hti] at h3
      simp at h3
      constructor
      · intro ht
        obtain ⟨c, hc, hcd⟩ := List.mem_filterMap.1 ht
        obtain ⟨o', d', av', g1, g2, g3, _⟩ := H.step c (hu c hc)
        rw [g1] at hcd
        simp [g2] at hcd
        subst hcd
        rw [← H.dist c i d' av' x g3 hti]
        exact hc
      · intro hi
        exact List.mem_filterMap.2 ⟨i, hi, by rw [h1]; simp [h2, h3.1]⟩
    by_cases hds : ∃ (i : Nat) (x : AV), tl[i]? = some (t, x)
    · obtain ⟨i, x, hti⟩ := hds
      have him := (H.ds_of hti).2
      cases hiu : u.contains i with
      | true =>
        have hiu' : i ∈ u := by simpa using hiu
        rw [if_pos ((hslot i x hti).2 hiu'), H.getN hun hti (by rw [hL _ (by omega), hiu]; rfl)]
      | false =>
        have hiu' : i ∉ u := fun h => by simp [h] at hiu
        rw [if_neg (fun h => hiu' ((hslot i x hti).1 h)), get_append, get_rev_some (fun i j a b h1 h2 => H.dist i j t a b h1 h2) hti, H.getB hun hti (by rw [hL _ (by omega), hiu]; rfl)]
    · have hns : t ∉ slotsU ops u := fun ht => by
        obtain ⟨c, hc, hcd⟩ := List.mem_filterMap.1 ht
        obtain ⟨o', d', av', g1, g2, g3, _⟩ := H.step c (hu c hc)
        rw [g1] at hcd
        simp [g2] at hcd
        subst hcd
        exact hds ⟨c, av', g3⟩
      rw [if_neg hns, get_append, get_rev_none (fun i a hi => hds ⟨i, a, hi⟩)]
      rw [H.getU hun, get_append, entL_none tl 0 (fun i e he _ hk => by
        obtain ⟨t2, a⟩ := e
        simp only [] at hk
        subst hk
        exact hds ⟨i, a, he⟩)]
theorem all2 (hT : TOk P T) (c1 c2 : Nat) (hc1 : c1 < m) (hc2 : c2 < m) (hsink : sinkC ops (m + hs.length) [c1, c2] = true) (hr21 : reachB ops 6 c2 c1 = true)
    (hu1 : un (mkL ops (m + hs.length) [c1, c2]) (m + hs.length) = 2) (hu2 : un (mkL ops (m + hs.length) [c2]) (m + hs.length) = 1)
    (hK : Ords P B F0 w0 n ops K (ops.size - (m + hs.length)) (mkL ops (m + hs.length) []) (wl.reverse ++ (tl.reverse ++ σ0)))
    (hA : Ords P B F0 w0 n ops K (2 + (ops.size - (m + hs.length))) (mkL ops (m + hs.length) [c1, c2]) (wl.reverse ++ St.wo (slotsU ops [c1, c2]) (tl.reverse ++ σ0)))
    (hB : Ords P B F0 w0 n ops K (1 + (ops.size - (m + hs.length))) (mkL ops (m + hs.length) [c2]) (wl.reverse ++ St.wo (slotsU ops [c2]) (tl.reverse ++ σ0))) :
    ∀ (f : Nat) (listed : Array Bool) (a : Act) (w : World) (Q' : Exit → Act → World → Prop), HeadInv .any ops (m + hs.length) listed → un listed (m + hs.length) = f → Rel P B F0 w0 n (H.St2 listed) a w →
    (∀ a w σ', K σ' → Rel P B F0 w0 n σ' a w → Q' .normal a w) → wpAny P .any ops Q' (f + (ops.size - (m + hs.length))) listed a w := by
  have hsize := H.size
  have hmk : ∀ (listed : Array Bool) (u : List Nat), HeadInv .any ops (m + hs.length) listed → (∀ j, j < m + hs.length → listed.getD j false = !(u.contains j)) → listed = mkL ops (m + hs.length) u := fun listed u hinv hl => by
    apply Array.ext
    · rw [hinv.size, mkL_size]
    · intro i hi1 hi2
      have hi := hi1
      rw [hinv.size] at hi
      have e1 : listed[i] = listed.getD i false := by simp [hi1]
      have e2 : (mkL ops (m + hs.length) u)[i] = (mkL ops (m + hs.length) u).getD i false := by simp [hi2]
      rw [e1, e2, mkL_get false hi]
      by_cases him : i < m + hs.length
      · rw [hl i him]; simp [him]
      · have := hinv.tail i (by omega) hi
        rw [getD_both this]; simp [him]
  intro f
  induction f with
  | zero =>
    intro listed a w Q' hinv hun hR hQ
    have hlist := un_zero (m + hs.length) hun
    have heq := hmk listed [] hinv (fun j hj => by
      have := hlist j hj
      have hs : j < listed.size := by rw [hinv.size]; omega
      simp [hs] at this ⊢
      exact this)
    subst heq
    rw [Nat.zero_add]
    refine hK.ext (fun t => ?_) hQ a w hR
    have e0 : St.get (St.wo (slotsU ops []) (tl.reverse ++ σ0)) t = St.get (tl.reverse ++ σ0) t := by rw [get_wo]; simp [slotsU]
    rw [H.St2_mk (fun c hc => by cases hc) t, get_append wl.reverse, get_append wl.reverse, e0]
  | succ f ih =>
    intro listed a w Q' hinv hun hR hQ
    have h : H.Ok listed := ⟨hinv.size, hinv.closed⟩
    by_cases hall : ∀ j, j < m + hs.length → j ≠ c1 → j ≠ c2 → listed.getD j false = true
    · rcases getD_cases listed c1 with hl1 | hl1
      · rcases getD_cases listed c2 with hl2 | hl2
        · exfalso
          obtain ⟨j, hj, hju, _⟩ := un_pos (m + hs.length) (by omega : 0 < un listed (m + hs.length))
          have hju := getD_false_of hju
          by_cases e1 : j = c1
          · rw [e1, hl1] at hju; cases hju
          · by_cases e2 : j = c2
            · rw [e2, hl2] at hju; cases hju
            · rw [hall j hj e1 e2] at hju; cases hju
        · have heq := hmk listed [c2] hinv (fun j hj => by
            by_cases e2 : j = c2
            · subst e2; rw [hl2]; simp
            · by_cases e1 : j = c1
              · subst e1; rw [hl1]; simp [e2]
              · rw [hall j hj e1 e2]; simp [e2])
          subst heq
          rw [hu2] at hun
          rw [← hun]
          exact hB.ext (fun t => (H.St2_mk (fun c hc => by simp at hc; omega) t).symm) hQ a w hR
      · have hl2 : listed.getD c2 false = false := by
          rcases getD_cases listed c2 with hl2 | hl2
          · have := reachB_spec h.closed 6 _ _ hr21 hl2
            rw [hl1] at this; cases this
          · exact hl2
        have heq := hmk listed [c1, c2] hinv (fun j hj => by
          by_cases e2 : j = c2
          · subst e2; rw [hl2]; simp
          · by_cases e1 : j = c1
            · subst e1; rw [hl1]; simp
            · rw [hall j hj e1 e2]; simp [e1, e2])
        subst heq
        rw [hu1] at hun
        rw [← hun]
        exact hA.ext (fun t => (H.St2_mk (fun c hc => by simp at hc; omega) t).symm) hQ a w hR
    · obtain ⟨j0, hj0⟩ := Classical.not_forall.1 hall
      simp only [Classical.not_imp] at hj0
      obtain ⟨hj0m, hj01, hj02, hj0l⟩ := hj0
      obtain ⟨j, hj, hju, hjl⟩ := un_pos (m + hs.length) (by omega : 0 < un listed (m + hs.length))
      have hless : ∀ i ∈ Region.ready .any ops listed, i < m + hs.length := fun i hi => by
        rcases Nat.lt_or_ge i (m + hs.length) with g | g
        · exact g
        · exfalso
          obtain ⟨_, oi, hoi, _⟩ := mem_ready.1 hi
          have hil := (Array.getElem?_eq_some_iff.1 hoi).1
          have h1 := List.all_eq_true.1 hsink i (List.mem_range.2 hil)
          simp only [Bool.or_eq_true] at h1
          rcases h1 with h1 | h1
          · have : i < m + hs.length := by simpa using h1
            omega
          · have h2 := List.all_eq_true.1 h1 j0 (List.mem_range.2 hj0m)
            simp only [Bool.or_eq_true] at h2
            rcases h2 with h2 | h2
            · simp at h2; omega
            · have h3 := reachB_spec (Ok.set H h hi).closed 12 _ _ h2 (by simp only [Array.getD_eq_getD_getElem?]; rw [Array.getElem?_setIfInBounds_self_of_lt (by rw [hinv.size]; exact hil)]; rfl)
              rw [getD_set_ne false (by omega)] at h3
              exact hj0l h3
      have hjr : j ∈ Region.ready .any ops listed := by
        have key : ∀ o, ops[j]? = some o → (∀ e ∈ o.after, Region.binds .any e = true → e.on < j) → j ∈ Region.ready .any ops listed := fun o ho hlt => by
          refine mem_ready.2 ⟨hju, o, ho, fun e he hb => ?_⟩
          have h1 := hlt e he hb
          have := hjl e.on h1
          have hsz : e.on < listed.size := by rw [hinv.size]; omega
          simp [hsz] at this ⊢
          exact this
        rcases Nat.lt_or_ge j m with hjm | hjm
        · obtain ⟨o, d, h1, h2, h3, _⟩ := headB_spec H.head hjm
          exact key o h1 h3
        · obtain ⟨o, _, h1, _, _, _, h5, _⟩ := storesB_spec H.stores (show j - m < hs.length by omega)
          rw [show m + (j - m) = j by omega] at h1 h5
          exact key o h1 h5
      rw [show f + 1 + (ops.size - (m + hs.length)) = (f + (ops.size - (m + hs.length))) + 1 by omega]
      refine ⟨fun h0 => (by rw [h0] at hjr; cases hjr), fun i hi => ?_⟩
      have hil := hless i hi
      have hrec : ∀ a' w', Rel P B F0 w0 n (H.St2 (listed.setIfInBounds i true)) a' w' → wpAny P .any ops Q' (f + (ops.size - (m + hs.length))) (listed.setIfInBounds i true) a' w' := fun a' w' hR' =>
        ih _ a' w' Q' (hinv.set hi hil) (by have := un_set (mem_ready.1 hi).1 (m + hs.length) hil; omega) hR' hQ
      rcases Nat.lt_or_ge i m with him | him
      · exact H.one h him hi hR Q' _ hrec
      · obtain ⟨k, rfl⟩ : ∃ k, i = m + k := ⟨i - m, by omega⟩
        exact H.put1 hT h (by omega) hi hR Q' _ hrec
end D2

variable {σ0 : St}
def draw4B (ops : Array Oper) (lt : List (Nat × Bool)) (m : Nat) (hs : List Nat) (c1 c2 : Nat) : Bool :=
  decide (m + hs.length ≤ ops.size) && headB ops m && storesB ops lt m hs && nodupN hs && looksB ops lt m hs && Nat.blt c1 m && Nat.blt c2 m && sinkC ops (m + hs.length) [c1, c2] && reachB ops 6 c2 c1 &&
    Nat.beq (un (mkL ops (m + hs.length) [c1, c2]) (m + hs.length)) 2 && Nat.beq (un (mkL ops (m + hs.length) [c2]) (m + hs.length)) 1
/-- As draw3; the late heads c1 and c2 (that waits for c1) may still be to come when what follows the stores begins: then what is left is taken in any order. -/
theorem AAny.draw4 (hT : TOk P T) {Q : Exit → St → Prop} (cs : List (Nat × Bool)) (m : Nat) (hs : List Nat) (c1 c2 : Nat) (hB : draw4B ops cs m hs c1 c2 = true)
    (h : AMix P B F0 w0 n ops (heads ops m) hs (σ.less (heads ops m)) cs (ops.toList.take m) (σ.less (heads ops m)) (fun τ =>
      ∃ wl, StL T τ hs ((ops.toList.drop m).take hs.length) wl ∧ Ords P B F0 w0 n ops (Q .normal) (ops.size - (m + hs.length)) (mkL ops (m + hs.length) []) (wl.reverse ++ τ) ∧
        Ords P B F0 w0 n ops (Q .normal) (2 + (ops.size - (m + hs.length))) (mkL ops (m + hs.length) [c1, c2]) (wl.reverse ++ St.wo (slotsU ops [c1, c2]) τ) ∧
        Ords P B F0 w0 n ops (Q .normal) (1 + (ops.size - (m + hs.length))) (mkL ops (m + hs.length) [c2]) (wl.reverse ++ St.wo (slotsU ops [c2]) τ))) : AAny P B F0 w0 n ops Q σ := by
  intro a w hR
  simp only [draw4B, Bool.and_eq_true, decide_eq_true_eq] at hB
  obtain ⟨⟨⟨⟨⟨⟨⟨⟨⟨⟨hsize, hhead⟩, hstores⟩, hnodup⟩, hlooks⟩, hc1⟩, hc2⟩, hsink⟩, hr21⟩, hu1⟩, hu2⟩ := hB
  have hc1 : c1 < m := by simpa using hc1
  have hc2 : c2 < m := by simpa using hc2
  have hu1 := Nat.eq_of_beq_eq_true hu1
  have hu2 := Nat.eq_of_beq_eq_true hu2
  have hR0 := (hR.less (heads ops m)).drew
  generalize hds : heads ops m = ds at h hR0
  generalize hσ0 : σ.less ds = σ0 at h hR0
  have hs0ds : ∀ t av, σ0.get t = some av → t ∉ ds ∧ refsOk ds av = true := fun t av hg => by
    rw [← hσ0, get_less] at hg
    split at hg <;> try (cases hg; done)
    rename_i htd
    refine ⟨htd, ?_⟩
    cases hs : σ.get t with
    | none => simp [hs] at hg
    | some y =>
      simp only [hs, Option.map_some, Option.some.injEq] at hg
      subst hg
      unfold AV.killL
      cases hr : refsOk ds y with
      | true => exact hr
      | false => rfl
  obtain ⟨tl, htl, ⟨wl, hwl, hQ, hQA, hQB⟩, hst⟩ := AMix.out _ _ _ h
  obtain ⟨hw1, _, hw3⟩ := hwl.spec
  have hop : ∀ j, j < m → (ops.toList.take m)[j]? = ops[j]? := fun j hj => by simp [List.getElem?_take, hj]
  have hstep : ∀ j, j < m → ∃ o d av, ops[j]? = some o ∧ o.dst = some d ∧ tl[j]? = some (d, av) ∧ d < n ∧ d ∈ ds ∧ refsOk ds av = true ∧ (lateF cs j = true → refsOk hs av = true) ∧
    ∃ lk hm : St, (∀ t av, t ∈ o.looksAt ops → lk.get t = some av → (lateF cs j = true → t ∉ hs) ∧ St.get ((tl.take j).reverse ++ σ0) t = some av) ∧ (∀ t av, hm.get t = some av → (lateF cs j = true → t ∉ hs) ∧ σ0.get t = some av) ∧
      (∀ t av, σ0.get t = some av → (lateF cs j = true → t ∉ hs) → hm.get t = some av) ∧ StepAt P B F0 w0 ops hm lk o d av := fun j hj => by
    obtain ⟨o, d, h1, h2, _⟩ := headB_spec hhead hj
    obtain ⟨d', av, g1, g2, g3, g4, g5, lk, hm, q1, q2, q3, q4⟩ := hst j o (by rw [hop j hj]; exact h1)
    rw [h2] at g2
    simp at g2
    subst g2
    refine ⟨o, d, av, h1, h2, g1, g3, ?_, g4, g5, lk, hm, fun t av ht hg => ?_, q2, q3, q4⟩
    · rw [← hds]
      exact List.mem_filterMap.2 ⟨o, List.mem_of_getElem? ((hop j hj).trans h1), h2⟩
    · have hn : lateF cs j = true → t ∉ hs := fun hl => looksB_spec hlooks hj hl h1 t ht
      exact ⟨hn, q1 t av hn hg⟩
  have hdist : ∀ (i j t : Nat) (a b : AV), tl[i]? = some (t, a) → tl[j]? = some (t, b) → i = j := fun i j t a b h1 h2 => by
    have hi : i < m := by have := (List.getElem?_eq_some_iff.1 h1).1; rw [htl] at this; simp at this; omega
    have hj : j < m := by have := (List.getElem?_eq_some_iff.1 h2).1; rw [htl] at this; simp at this; omega
    by_cases hij : i = j
    · exact hij
    · exfalso
      obtain ⟨o, d, av1, g1, g2, g3, _⟩ := hstep j hj
      obtain ⟨o', d', av2, f1, f2, f3, _⟩ := hstep i hi
      obtain ⟨o2, d2, e1, e2, _, _, e3, _⟩ := headB_spec hhead hj
      rw [g1] at e1
      simp at e1
      subst e1
      have := e3 i o' hi hij f1
      rw [f2, g2] at this
      rw [h1] at f3
      rw [h2] at g3
      simp at f3 g3
      exact this (by rw [← f3.1, ← g3.1])
  have H : D2 P T B F0 w0 n ops cs m hs ds σ0 tl wl := ⟨hsize, hhead, hstores, hnodup, hs0ds, hstep, by rw [htl]; simp; omega, hdist, hw1, fun k hm hk => by
    have hkl := (List.getElem?_eq_some_iff.1 hk).1
    obtain ⟨o, _, h1, _⟩ := storesB_spec hstores hkl
    obtain ⟨av, k1, k2⟩ := hw3 k o hm (by rw [List.getElem?_take, if_pos hkl, List.getElem?_drop]; simpa using h1) hk
    exact ⟨av, k1, o, h1, k2⟩⟩
  have hu0 : un (Array.replicate ops.size false) (m + hs.length) = m + hs.length := by
    have : ∀ k, k ≤ m + hs.length → un (Array.replicate ops.size false) k = k := fun k hk => by
      induction k with
      | zero => rfl
      | succ k ih =>
        have hlt : k < ops.size := by omega
        simp [un, ih (by omega), hlt]
    exact this _ (Nat.le_refl _)
  have hinv0 : HeadInv .any ops (m + hs.length) (Array.replicate ops.size false) :=
    ⟨by simp, fun j oj _ hl => (by rw [getD_replicate_false] at hl; cases hl), fun t _ ht => getD_in (by simpa using ht) (getD_replicate_false _ _)⟩
  have := D2.all2 H hT c1 c2 hc1 hc2 hsink hr21 hu1 hu2 hQ hQA hQB (m + hs.length) (Array.replicate ops.size false) a { w with drawn := w.drawn + 1 } (fun e a' w' => ∃ σ', Q e σ' ∧ Rel P B F0 w0 n σ' a' w') hinv0 hu0 (hR0.ext (fun t => ?_)) (fun a w σ' hk hr => ⟨σ', hk, hr⟩)
  · rw [show m + hs.length + (ops.size - (m + hs.length)) = ops.size by omega] at this
    exact this
  · have e1 : ∀ (l : List (Nat × AV)) (k : Nat), entL (Array.replicate ops.size false) k l = [] := fun l => by
      induction l with
      | nil => intro k; rfl
      | cons e r ih => intro k; simp only [entL, getD_replicate_false]; exact ih (k + 1)
    unfold D2.St2
    rw [e1, e1]
    rfl
end
end Lift
/- The rows of a train's equations. -/
namespace Lift
open Go Go.Proofs

abbrev QsD (r : List Rat) : List D := r.map (fun q => (Qr q).D)
theorem getQ {r : List Rat} {i : Nat} (h : i < r.length) : (QsD r)[i]? = some (Qr (r.getD i 0)).D := by simp [h]
section
variable {P : Program} {T : Ty} {B : Nat} {F0 : Nat → Prop} {w0 : Bas} {n : Nat} {σ τ : St} {K : St → Prop} {all : Array Oper} {o : Oper} {d : Nat} {rest : List Oper}
theorem AOps.storeQ (hT : TOk P T) {k e i : Nat} {r : List Rat} (q : Rat) (hd : o.dst = none) (hg : guardOk all σ o = true) (hx : seF T σ o.op = some (k, .ow e (QsD r), QsD r, i, 0, (Qr q).D)) (hi : i < r.length)
    (h : AOps P B F0 w0 n all rest K ((k, .ow e (QsD (r.set i q))) :: σ)) : AOps P B F0 w0 n all (o :: rest) K σ := by
  refine AOps.storeel hT (Qr (r.getD i 0)).D hd hg hx (getQ hi) rfl ?_
  show AOps P B F0 w0 n all rest K ((k, .ow e ((QsD r).set i (Qr q).D)) :: σ)
  rw [show (QsD r).set i (Qr q).D = QsD (r.set i q) from (List.map_set ..).symm]
  exact h
theorem StOk.elQ {h e i : Nat} {r : List Rat} (q : Rat) (hx : seF T τ o.op = some (h, .ow e (QsD r), QsD r, i, 0, (Qr q).D)) (hi : i < r.length) : StOk T τ o h (.ow e (QsD (r.set i q))) := by
  have := StOk.el hx (getQ hi) rfl
  rw [show QsD (r.set i q) = (QsD r).set i (Qr q).D from List.map_set ..]
  exact this
end

/-- The rows of a train's equations: the coefficients, and the right side. -/
def zrR (n : Int) : List Rat := List.replicate (n + 1).toNat 0
def rwM (n : Int) (m : Msh) : List Rat := ((zrR n).set m.a.toNat (m.ta : Rat)).set m.b.toNat (((if m.inn = true then -m.tb else m.tb : Int)) : Rat)
def rwP (n : Int) (p : Plt) : List Rat := (((zrR n).set p.s.toNat (p.ts : Rat)).set p.r.toNat (p.tr : Rat)).set p.c.toNat ((-p.ts - p.tr : Int) : Rat)
def rwS (n : Int) (s : Spd) : List Rat := ((zrR n).set s.sh.toNat ((1 : Int) : Rat)).set n.toNat s.v.val
def rowsM (x : Trn) : Mt := x.ms.map (rwM x.n) ++ x.ps.map (rwP x.n) ++ x.gs.map (rwS x.n)
def LRs (Vs : List Value) (a : Mt) : List LR := List.zipWith (fun V r => (V, AV.ow 41 (QsD r))) Vs a
theorem LRs_snoc {Vs : List Value} {a : Mt} (h : Vs.length = a.length) (V : Value) (r : List Rat) : LRs (Vs ++ [V]) (a ++ [r]) = LRs Vs a ++ [(V, AV.ow 41 (QsD r))] := by
  unfold LRs; rw [List.zipWith_append h]; rfl
theorem LRs_get {Vs : List Value} {a : Mt} {j : Nat} (hV : j < Vs.length) (ha : j < a.length) : (LRs Vs a)[j]? = some (Vs.getD j undef, AV.ow 41 (QsD (a.getD j []))) := by
  unfold LRs
  simp [List.getElem?_zipWith, hV, ha]
theorem LRs_set {Vs : List Value} {a : Mt} {j : Nat} (hV : j < Vs.length) (r : List Rat) : (LRs Vs a).set j (Vs.getD j undef, AV.ow 41 (QsD r)) = LRs Vs (a.set j r) := by
  unfold LRs
  refine List.ext_getElem? (fun k => ?_)
  by_cases hk : k = j
  · subst hk
    rcases Nat.lt_or_ge k a.length with h | h
    · rw [List.getElem?_set_self (by simp; omega)]
      simp [List.getElem?_zipWith, hV, h]
    · rw [List.getElem?_eq_none (by simp; omega), List.getElem?_eq_none (by simp; omega)]
  · rw [List.getElem?_set_ne (Ne.symm hk)]
    simp [List.getElem?_zipWith, List.getElem?_set_ne (Ne.symm hk)]
abbrev VsD (Vs : List Value) : List D := Vs.map D.v
theorem getVs {Vs : List Value} {i : Nat} (h : i < Vs.length) : (VsD Vs)[i]? = some (.v (Vs.getD i undef)) := by simp [h]
theorem take_snoc {α : Type} [Inhabited α] (l : List α) {i : Nat} (h : i < l.length) : l.take (i + 1) = l.take i ++ [l.getD i default] := by
  rw [List.take_add_one]; simp [h]

/-- What is right of a train that is accepted. -/
structure TOkT (x : Trn) : Prop where
  n1 : 1 ≤ x.n
  n2 : x.n ≤ 16
  ms : x.ms.length ≤ 32
  ps : x.ps.length ≤ 32
  gs : x.gs.length ≤ 32
  m : ∀ i, i < x.ms.length → mshE x.n (x.ms.getD i default) = 0
  p : ∀ i, i < x.ps.length → pltE x.n (x.ps.getD i default) = 0
  g : ∀ i, i < x.gs.length → spdE x.n (x.gs.getD i default) = 0
theorem fE_zero {f : Nat → Nat} : ∀ {m i : Nat}, fE f m i = 0 → ∀ k, i ≤ k → k < i + m → f k = 0
  | 0, i, _, k, h1, h2 => by omega
  | m + 1, i, h, k, h1, h2 => by
    simp only [fE] at h
    split at h
    · rename_i h0
      rcases Nat.eq_or_lt_of_le h1 with e | e
      · rw [← e]; exact h0
      · exact fE_zero h k e (by omega)
    · rename_i h0; exact absurd h h0
theorem chkT_ok {x : Trn} (h : chkT x = 0) : TOkT x := by
  unfold chkT at h
  split at h
  · cases h
  rename_i h1
  split at h
  · cases h
  rename_i h2
  split at h
  · rename_i h3; exact absurd h h3
  rename_i h3
  split at h
  · rename_i h4; exact absurd h h4
  rename_i h4
  simp only [ne_eq, Decidable.not_not] at h3 h4
  exact ⟨by omega, by omega, by omega, by omega, by omega, fun i hi => fE_zero h3 i (Nat.zero_le _) (by omega), fun i hi => fE_zero h4 i (Nat.zero_le _) (by omega), fun i hi => fE_zero h i (Nat.zero_le _) (by omega)⟩
theorem mshE_ok {n : Int} {m : Msh} (h : mshE n m = 0) : (0 ≤ m.a ∧ m.a < n) ∧ (0 ≤ m.b ∧ m.b < n) ∧ m.a ≠ m.b ∧ (1 ≤ m.ta ∧ m.ta ≤ 10000) ∧ 1 ≤ m.tb ∧ m.tb ≤ 10000 := by
  unfold mshE at h
  repeat' split at h
  all_goals (try (cases h; done))
  rename_i h1 h2 h3
  simp only [Bool.not_eq_false, Bool.and_eq_true, inS_yes] at h1
  unfold thB at h3
  simp only [decide_eq_false_iff_not, Decidable.not_not] at h3
  exact ⟨h1.1, h1.2, h2, h3.1, h3.2⟩
theorem pltE_ok {n : Int} {m : Plt} (h : pltE n m = 0) : (0 ≤ m.s ∧ m.s < n) ∧ (0 ≤ m.r ∧ m.r < n) ∧ (0 ≤ m.c ∧ m.c < n) ∧ (m.s ≠ m.r ∧ m.s ≠ m.c ∧ m.r ≠ m.c) ∧ (1 ≤ m.ts ∧ m.ts ≤ 10000) ∧ 1 ≤ m.tr ∧ m.tr ≤ 10000 := by
  unfold pltE at h
  repeat' split at h
  all_goals (try (cases h; done))
  rename_i h1 h2 h3
  simp only [Bool.not_eq_false, Bool.and_eq_true, inS_yes] at h1
  unfold thB at h3
  simp only [decide_eq_false_iff_not, Decidable.not_not] at h3
  exact ⟨h1.1, h1.2.1, h1.2.2, ⟨fun e => h2 (.inl e), fun e => h2 (.inr (.inl e)), fun e => h2 (.inr (.inr e))⟩, h3.1, h3.2⟩
theorem spdE_ok {n : Int} {m : Spd} (h : spdE n m = 0) : (0 ≤ m.sh ∧ m.sh < n) ∧ m.v.okB = true := by
  unfold spdE at h
  repeat' split at h
  all_goals (try (cases h; done))
  rename_i h1 h2
  simp only [Bool.not_eq_false, inS_yes] at h1 h2
  exact ⟨h1, h2⟩
/-- A valid fraction is the one form of its value. -/
theorem RD.canon {r : RD} {k : Nat} (hw : r.w k) (h : r.okB = true) : r = Qr r.val := by
  by_cases hn : r.n = []
  · have hv := RD.val_nil hn
    rw [hv, Qr_zero]
    obtain ⟨g, m, d⟩ := r
    dsimp only at hn
    subst hn
    unfold RD.okB at h
    simp only [true_and] at h
    split at h
    · rename_i hd; subst hd; simpa using h
    · simp at h
  · obtain ⟨h1, h2, h3, h4, h5, h6⟩ := RD.parts hw h hn
    obtain ⟨g, m, d⟩ := r
    dsimp only at h3 h4 h5 hn
    unfold Qr
    rw [if_neg h6, ← h4, ← h5, ← h3]
theorem zrR_len {n : Int} (h : 1 ≤ n) : (zrR n).length = n.toNat + 1 := by unfold zrR; rw [List.length_replicate]; omega
section
variable {P : Program} {T : Ty} {B : Nat} {F0 : Nat → Prop} {w0 : Bas} {n : Nat} {σ τ : St} {K : St → Prop} {all : Array Oper} {o : Oper} {d : Nat} {rest : List Oper}
theorem AOps.makeQ (hT : TOk P T) (z : Int) {e : Nat} {te : TI} {m : Int} (hd : o.dst = some d) (hdn : Nat.ble (d + 1) n = true) (hg : guardOk all σ o = true) (hx : mkF T σ.get o.op = some (e, te, m)) (hz : zeroOk te = true) (hzd : zeroD te = .ag [.v (.bool false), .sl 1 [], .sl 1 []]) (hb : te.bytes = 56) (hm : m = z + 1) (h0 : 0 ≤ z) (h1 : z ≤ 1000)
    (h : AOps P B F0 w0 n all rest K ((d, .ow e (QsD (zrR z))) :: σ.kill d)) : AOps P B F0 w0 n all (o :: rest) K σ := by
  subst hm
  refine AOps.make hT hd hdn hg hx hz (by omega) (by rw [hb]; omega) (by omega) ?_
  have hq : (Qr 0).D = .ag [.v (.bool false), .sl 1 [], .sl 1 []] := by rw [Qr_zero]; rfl
  rw [hzd, ← hq, show List.replicate (z + 1).toNat (Qr 0).D = QsD (zrR z) by rw [QsD, zrR, List.map_replicate]]
  exact h
end
/-- What rows hands back. -/
def rowsPost (a : Mt) (res : D) (R' : List LR) : Prop := ∃ V0 Vs, Vs.length = a.length ∧ res = .v V0 ∧ R' = LRs Vs a ++ [(V0, AV.ow 29 (VsD Vs))]

set_option maxHeartbeats 3200000 in
theorem gear_rows_ok (x : Trn) {k : Nat} (hw : x.w k) (h : chkT x = 0) : CallZ Tryz.prog 25 [x.D] [] (rowsPost (rowsM x)) := by
  refine CallZ.intro (n := 118) tok Tryz.func25 rfl rfl rfl (Nat.le_of_ble_eq_true rfl) (by kernel_rfl) (fun B F0 w0 => ?_)
  obtain ⟨n1, n2, o1, o2, o3, hm, hp, hg⟩ := chkT_ok h
  have hgw := hw.2.2.2
  obtain ⟨n, ms, ps, gs⟩ := x
  dsimp only at n1 n2 o1 o2 o3 hm hp hg hgw
  refine AZ.seq ?_
  refine AZ.reg (fun B1 F1 w1 => ?_)   -- "gear.go:64"
  refine AOps.run tok 2 _ _ _ _ rfl ?_
  refine AOps.nil ⟨rfl, ?_⟩
  refine AZ.seq ?_
  refine AZ.reg (fun B1 F1 w1 => ?_)   -- "gear.go:65"
  refine AOps.run tok 1 _ _ _ _ rfl ?_
  refine AOps.nil ⟨rfl, ?_⟩
  refine AZ.seq ?_
  refine AZ.seq ?_
  refine AZ.reg (fun B1 F1 w1 => ?_)   -- "gear.go:66"
  refine AOps.run tok 4 _ _ _ _ rfl ?_
  rw [List.length_map]
  refine AOps.nil ⟨rfl, ?_⟩
  refine AZ.block ?_   -- block 0
  refine AZ.loopS [1, 3, 15, 16, 17] (fun s : Nat × List Value => (LRs s.2 ((ms.take s.1).map (rwM n)), [(1, .bx [dI n, MshsD ms, PltsD ps, SpdsD gs]), (3, .ow 29 (VsD s.2)), (15, .d (MshsD ms)), (16, .d (dI ms.length)), (17, .d (dI s.1))]))
    (fun s => s.1 ≤ ms.length ∧ s.2.length = s.1) (fun s => ms.length - s.1) (0, []) rfl ⟨Nat.zero_le _, rfl⟩ (fun s hs => ?_)
  obtain ⟨i, Vs⟩ := s
  obtain ⟨hi, hV⟩ := hs
  · show AZ _ _ _ _ _ _ _ (LRs Vs ((ms.take i).map (rwM n))) [(1, .bx [dI n, MshsD ms, PltsD ps, SpdsD gs]), (3, .ow 29 (VsD Vs)), (15, .d (MshsD ms)), (16, .d (dI ms.length)), (17, .d (dI i))]
    simp only at hi hV
    refine AZ.seq ?_
    refine AZ.reg (fun B1 F1 w1 => ?_)   -- "gear.go:66"
    refine AOps.run tok 1 _ _ _ _ rfl ?_
    refine AOps.nil ⟨rfl, ?_⟩
    refine AZ.seq ?_
    refine AZ.cond rfl (fun h => ?_) (fun h => ?_)
    · have hin : i < ms.length := by have := of_decide_eq_true h; omega
      have hid : (ms.map Msh.D)[i]? = some (ms.getD i default).D := getM Msh.D hin
      have hmi := mshE_ok (hm i hin)
      have htk := take_snoc ms hin
      generalize ms.getD i default = m at hid hmi htk
      obtain ⟨⟨a1, a2⟩, ⟨b1, b2⟩, hab, ⟨c1, c2⟩, d1, d2⟩ := hmi
      refine AZ.skip ?_
      refine AZ.seq ?_
      refine AZ.block ?_   -- block 1
      refine AZ.seq ?_
      refine AZ.reg (fun B1 F1 w1 => ?_)   -- "gear.go:66"
      refine AOps.idx tok m.D rfl rfl rfl rfl (Int.natCast_nonneg i) hid ?_
      refine AOps.run tok 3 _ _ _ _ rfl ?_
      refine AOps.nil ⟨rfl, ?_⟩
      refine AZ.seq ?_
      refine AZ.reg (fun B1 F1 w1 => ?_)   -- "gear.go:67"
      refine AOps.run tok 3 _ _ _ _ rfl ?_
      rw [wI64 (by omega) (by omega)]
      refine AOps.makeQ tok n rfl rfl rfl rfl rfl rfl rfl rfl (by omega) (by omega) ?_
      refine AOps.run tok 1 _ _ _ _ rfl ?_
      refine AOps.nil ⟨rfl, ?_⟩
      refine AZ.to [1, 3, 5, 6, 15, 16, 17] [(1, .bx [dI n, MshsD ms, PltsD ps, SpdsD gs]), (3, .ow 29 (VsD Vs)), (5, .bx m.D.flat), (6, .ow 41 (QsD (zrR n))), (15, .d (MshsD ms)), (16, .d (dI ms.length)), (17, .d (dI i))] rfl ?_
      refine AZ.seq ?_
      refine AZ.reg (fun B1 F1 w1 => ?_)   -- "gear.go:68"
      refine AOps.run tok 3 _ _ _ _ rfl ?_
      refine AOps.nil ⟨rfl, ?_⟩
      refine AZ.cut [1, 3, 5, 6, 7, 15, 16, 17] (fun z : Int => (LRs Vs ((ms.take i).map (rwM n)), [(1, .bx [dI n, MshsD ms, PltsD ps, SpdsD gs]), (3, .ow 29 (VsD Vs)), (5, .bx m.D.flat), (6, .ow 41 (QsD (zrR n))), (7, .d (dI z)), (15, .d (MshsD ms)), (16, .d (dI ms.length)), (17, .d (dI i))])) (fun z => z = if m.inn = true then -m.tb else m.tb) ?_ (fun z hz => ?_)
      · refine AZ.seq ?_
        refine AZ.reg (fun B1 F1 w1 => ?_)
        refine AOps.run tok 2 _ _ _ _ rfl ?_
        refine AOps.nil ⟨rfl, ?_⟩
        refine AZ.cond rfl (fun h => ?_) (fun h => ?_)
        · refine AZ.reg (fun B1 F1 w1 => ?_)
          refine AOps.run tok 3 _ _ _ _ rfl ?_
          rw [wI64 (by omega) (by omega)]
          refine AOps.nil ⟨rfl, ?_⟩
          exact ⟨0 - m.tb, rfl, by rw [if_pos h]; omega⟩
        · refine AZ.skip ?_
          exact ⟨m.tb, rfl, by rw [if_neg (by rw [h]; simp)]⟩
      · show AZ _ _ _ _ _ _ _ (LRs Vs ((ms.take i).map (rwM n))) [(1, .bx [dI n, MshsD ms, PltsD ps, SpdsD gs]), (3, .ow 29 (VsD Vs)), (5, .bx m.D.flat), (6, .ow 41 (QsD (zrR n))), (7, .d (dI z)), (15, .d (MshsD ms)), (16, .d (dI ms.length)), (17, .d (dI i))]
        have hz1 : -10000 ≤ z ∧ z ≤ 10000 := by subst hz; split <;> omega
        refine AZ.seq ?_
        refine AZ.frame (fun B1 F1 w1 => AW.any hmix (AAny.early 3 (by kernel_rfl) (fun _ _ h => h.2) (AAny.front 3 rfl (AAny.draw3 tok [(4, true), (2, false), (6, true)] 12 [6] (by kernel_rfl) ⟨rfl, ?_⟩))))
        refine APre.run tok 4 _ _ _ _ rfl ?_
        refine APre.nil ⟨rfl, ?_⟩
        refine APre.run tok 2 _ _ _ _ rfl ?_
        refine APre.nil ⟨rfl, ?_⟩
        refine APre.run tok 2 _ _ _ _ rfl ?_
        refine APre.call tok rfl rfl rfl rfl rfl (fraction_Of_ok m.ta (by omega) (by omega)) ?_
        refine APre.run tok 1 _ _ _ _ rfl ?_
        refine APre.call tok rfl rfl rfl rfl rfl (fraction_Of_ok z (by omega) (by omega)) ?_
        refine APre.idxo tok rfl rfl rfl rfl rfl rfl a1 (by rw [List.length_map, zrR_len n1]; omega) ?_
        refine APre.nil ⟨_, StL.cons (StOk.elQ (m.ta : Rat) rfl (by rw [zrR_len n1]; omega)) StL.nil, ?_⟩
        refine AOps.idxo tok rfl rfl rfl rfl b1 (by rw [List.length_map, List.length_set, zrR_len n1]; omega) ?_
        refine AOps.storeQ tok (z : Rat) rfl rfl rfl (by rw [List.length_set, zrR_len n1]; omega) ?_
        refine AOps.nil ⟨rfl, ?_⟩
        refine AZ.loosen 6 rfl rfl rfl (fun V => ?_)
        refine AZ.to [1, 3, 6, 15, 16, 17] [(1, .bx [dI n, MshsD ms, PltsD ps, SpdsD gs]), (3, .ow 29 (VsD Vs)), (6, .d (.v V)), (15, .d (MshsD ms)), (16, .d (dI ms.length)), (17, .d (dI i))] rfl ?_
        refine AZ.reg (fun B1 F1 w1 => ?_)
        refine AOps.run tok 2 _ _ _ _ rfl ?_
        refine AOps.bs tok rfl rfl rfl rfl ?_
        refine AOps.appo tok rfl rfl rfl rfl rfl rfl (by show ((VsD Vs).length + 1) * 24 ≤ _; rw [List.length_map]; omega) (by show (VsD Vs).length + 1 ≤ _; rw [List.length_map]; omega) ?_
        refine AOps.run tok 1 _ _ _ _ rfl ?_
        refine AOps.nil ⟨rfl, ?_⟩
        refine AZ.reg (fun B1 F1 w1 => ?_)
        refine AOps.run tok 2 _ _ _ _ rfl ?_
        rw [wI64 (x := (i : Int) + 1) (by omega) (by omega)]
        refine AOps.nil ⟨rfl, ?_⟩
        refine ⟨(i + 1, Vs ++ [V]), Prod.ext ?_ ?_, ⟨hin, by simp [hV]⟩, by show ms.length - (i + 1) < ms.length - i; omega⟩
        · show LRs Vs _ ++ [_] = LRs (Vs ++ [V]) ((ms.take (i + 1)).map (rwM n))
          rw [htk, List.map_append, List.map_cons, List.map_nil, LRs_snoc (by rw [List.length_map, List.length_take]; omega), rwM, ← hz]
        · show _ = [(1, AV.bx [dI n, MshsD ms, PltsD ps, SpdsD gs]), (3, .ow 29 (VsD (Vs ++ [V]))), (15, .d (MshsD ms)), (16, .d (dI ms.length)), (17, .d (dI ((i + 1 : Nat) : Int)))]
          rw [show VsD (Vs ++ [V]) = VsD Vs ++ [.v V] by simp]
          rfl
    have hin : ¬ i < ms.length := by have := of_decide_eq_false h; omega
    have hie : i = ms.length := by omega
    subst hie
    rw [List.take_length]
    refine AZ.exit ?_
      -- exit 0
    -- END OF BODY; what follows the loop (from its exit):
    refine AZ.seq ?_
    refine AZ.seq ?_
    refine AZ.reg (fun B1 F1 w1 => ?_)   -- "gear.go:75"
    refine AOps.run tok 4 _ _ _ _ rfl ?_
    rw [List.length_map]
    refine AOps.nil ⟨rfl, ?_⟩
    refine AZ.block ?_   -- block 2
    refine AZ.loopS [1, 3, 50, 51, 52] (fun s : Nat × List Value => (LRs s.2 (ms.map (rwM n) ++ (ps.take s.1).map (rwP n)), [(1, .bx [dI n, MshsD ms, PltsD ps, SpdsD gs]), (3, .ow 29 (VsD s.2)), (50, .d (PltsD ps)), (51, .d (dI ps.length)), (52, .d (dI s.1))]))
      (fun s => s.1 ≤ ps.length ∧ s.2.length = ms.length + s.1) (fun s => ps.length - s.1) (0, Vs) (by rw [List.take_zero, List.map_nil, List.append_nil]; rfl) ⟨Nat.zero_le _, hV⟩ (fun s hs => ?_)
    obtain ⟨i, Vs⟩ := s
    obtain ⟨hi, hV⟩ := hs
    · show AZ _ _ _ _ _ _ _ (LRs Vs (ms.map (rwM n) ++ (ps.take i).map (rwP n))) [(1, .bx [dI n, MshsD ms, PltsD ps, SpdsD gs]), (3, .ow 29 (VsD Vs)), (50, .d (PltsD ps)), (51, .d (dI ps.length)), (52, .d (dI i))]
      simp only at hi hV
      refine AZ.seq ?_
      refine AZ.reg (fun B1 F1 w1 => ?_)   -- "gear.go:75"
      refine AOps.run tok 1 _ _ _ _ rfl ?_
      refine AOps.nil ⟨rfl, ?_⟩
      refine AZ.seq ?_
      refine AZ.cond rfl (fun h => ?_) (fun h => ?_)
      · have hin : i < ps.length := by have := of_decide_eq_true h; omega
        have hid : (ps.map Plt.D)[i]? = some (ps.getD i default).D := getM Plt.D hin
        have hmi := pltE_ok (hp i hin)
        have htk := take_snoc ps hin
        generalize ps.getD i default = m at hid hmi htk
        obtain ⟨⟨a1, a2⟩, ⟨b1, b2⟩, ⟨g1, g2⟩, _, ⟨c1, c2⟩, d1, d2⟩ := hmi
        refine AZ.skip ?_
        refine AZ.seq ?_
        refine AZ.block ?_   -- block 3
        refine AZ.seq ?_
        refine AZ.reg (fun B1 F1 w1 => ?_)   -- "gear.go:75"
        refine AOps.idx tok m.D rfl rfl rfl rfl (Int.natCast_nonneg i) hid ?_
        refine AOps.run tok 3 _ _ _ _ rfl ?_
        refine AOps.nil ⟨rfl, ?_⟩
        refine AZ.seq ?_
        refine AZ.reg (fun B1 F1 w1 => ?_)   -- "gear.go:76"
        refine AOps.run tok 3 _ _ _ _ rfl ?_
        rw [wI64 (by omega) (by omega)]
        refine AOps.makeQ tok n rfl rfl rfl rfl rfl rfl rfl rfl (by omega) (by omega) ?_
        refine AOps.run tok 1 _ _ _ _ rfl ?_
        refine AOps.nil ⟨rfl, ?_⟩
        refine AZ.to [1, 3, 9, 10, 50, 51, 52] [(1, .bx [dI n, MshsD ms, PltsD ps, SpdsD gs]), (3, .ow 29 (VsD Vs)), (9, .bx m.D.flat), (10, .ow 41 (QsD (zrR n))), (50, .d (PltsD ps)), (51, .d (dI ps.length)), (52, .d (dI i))] rfl ?_
        refine AZ.cut [1, 3, 10, 50, 51, 52] (fun _ : Unit => (LRs Vs (ms.map (rwM n) ++ (ps.take i).map (rwP n)), [(1, .bx [dI n, MshsD ms, PltsD ps, SpdsD gs]), (3, .ow 29 (VsD Vs)), (10, .ow 41 (QsD ((((zrR n).set m.s.toNat (m.ts : Rat)).set m.r.toNat (m.tr : Rat)).set m.c.toNat ((0 - m.ts - m.tr : Int) : Rat)))), (50, .d (PltsD ps)), (51, .d (dI ps.length)), (52, .d (dI i))])) (fun _ => True) ?_ (fun _ _ => ?_)
        · refine AZ.frame (fun B1 F1 w1 => AW.any hmix (AAny.early 3 (by kernel_rfl) (fun _ _ h => h.2) (AAny.early2 3 6 (by kernel_rfl) (fun _ _ h => h.2) (AAny.front 6 rfl (AAny.front 4 rfl (AAny.draw4 tok [(5, true), (4, false), (14, true)] 23 [10] 7 8 (by kernel_rfl) ⟨rfl, ?_⟩))))))
          refine APre.run tok 5 _ _ _ _ rfl ?_
          refine APre.nil ⟨rfl, ?_⟩
          refine APre.run tok 4 _ _ _ _ rfl ?_
          refine APre.nil ⟨rfl, ?_⟩
          refine APre.run tok 2 _ _ _ _ rfl ?_
          refine APre.call tok rfl rfl rfl rfl rfl (fraction_Of_ok m.ts (by omega) (by omega)) ?_
          refine APre.run tok 2 _ _ _ _ rfl ?_
          refine APre.call tok rfl rfl rfl rfl rfl (fraction_Of_ok m.tr (by omega) (by omega)) ?_
          refine APre.run tok 6 _ _ _ _ rfl ?_
          rw [wI64 (x := 0 - m.ts) (by omega) (by omega), wI64 (by omega) (by omega)]
          refine APre.call tok rfl rfl rfl rfl rfl (fraction_Of_ok (0 - m.ts - m.tr) (by omega) (by omega)) ?_
          refine APre.idxo tok rfl rfl rfl rfl rfl rfl a1 (by rw [List.length_map, zrR_len n1]; omega) ?_
          refine APre.nil ⟨_, StL.cons (StOk.elQ (m.ts : Rat) rfl (by rw [zrR_len n1]; omega)) StL.nil, ?_, ?_, ?_⟩
          · refine Ords.one (j := 24) (by kernel_rfl) rfl ?_; refine AOps.idxo tok rfl rfl rfl rfl b1 (by rw [List.length_map, List.length_set, zrR_len n1]; omega) ?_; refine AOps.nil ?_; refine Ords.one (j := 25) (by kernel_rfl) rfl ?_; refine AOps.storeQ tok (m.tr : Rat) rfl rfl rfl (by rw [List.length_set, zrR_len n1]; omega) ?_; refine AOps.nil ?_; refine Ords.one (j := 26) (by kernel_rfl) rfl ?_; refine AOps.idxo tok rfl rfl rfl rfl g1 (by rw [List.length_map, List.length_set, List.length_set, zrR_len n1]; omega) ?_; refine AOps.nil ?_; refine Ords.one (j := 27) (by kernel_rfl) rfl ?_; refine AOps.storeQ tok ((0 - m.ts - m.tr : Int) : Rat) rfl rfl rfl (by rw [List.length_set, List.length_set, zrR_len n1]; omega) ?_; refine AOps.nil ?_; exact Ords.zero (by kernel_rfl) ⟨rfl, (), rfl, trivial⟩
          · refine Ords.two (j := 7) (k := 24) (by kernel_rfl) rfl rfl ?_ ?_
            · refine AOps.run tok 1 _ _ _ _ rfl ?_; refine AOps.nil ?_
              refine Ords.two (j := 8) (k := 24) (by kernel_rfl) rfl rfl ?_ ?_
              · refine AOps.run tok 1 _ _ _ _ rfl ?_; refine AOps.nil ?_; refine Ords.one (j := 24) (by kernel_rfl) rfl ?_; refine AOps.idxo tok rfl rfl rfl rfl b1 (by rw [List.length_map, List.length_set, zrR_len n1]; omega) ?_; refine AOps.nil ?_; refine Ords.one (j := 25) (by kernel_rfl) rfl ?_; refine AOps.storeQ tok (m.tr : Rat) rfl rfl rfl (by rw [List.length_set, zrR_len n1]; omega) ?_; refine AOps.nil ?_; refine Ords.one (j := 26) (by kernel_rfl) rfl ?_; refine AOps.idxo tok rfl rfl rfl rfl g1 (by rw [List.length_map, List.length_set, List.length_set, zrR_len n1]; omega) ?_; refine AOps.nil ?_; refine Ords.one (j := 27) (by kernel_rfl) rfl ?_; refine AOps.storeQ tok ((0 - m.ts - m.tr : Int) : Rat) rfl rfl rfl (by rw [List.length_set, List.length_set, zrR_len n1]; omega) ?_; refine AOps.nil ?_; exact Ords.zero (by kernel_rfl) ⟨rfl, (), rfl, trivial⟩
              · refine AOps.idxo tok rfl rfl rfl rfl b1 (by rw [List.length_map, List.length_set, zrR_len n1]; omega) ?_; refine AOps.nil ?_
                refine Ords.two (j := 8) (k := 25) (by kernel_rfl) rfl rfl ?_ ?_
                · refine AOps.run tok 1 _ _ _ _ rfl ?_; refine AOps.nil ?_; refine Ords.one (j := 25) (by kernel_rfl) rfl ?_; refine AOps.storeQ tok (m.tr : Rat) rfl rfl rfl (by rw [List.length_set, zrR_len n1]; omega) ?_; refine AOps.nil ?_; refine Ords.one (j := 26) (by kernel_rfl) rfl ?_; refine AOps.idxo tok rfl rfl rfl rfl g1 (by rw [List.length_map, List.length_set, List.length_set, zrR_len n1]; omega) ?_; refine AOps.nil ?_; refine Ords.one (j := 27) (by kernel_rfl) rfl ?_; refine AOps.storeQ tok ((0 - m.ts - m.tr : Int) : Rat) rfl rfl rfl (by rw [List.length_set, List.length_set, zrR_len n1]; omega) ?_; refine AOps.nil ?_; exact Ords.zero (by kernel_rfl) ⟨rfl, (), rfl, trivial⟩
                · refine AOps.storeQ tok (m.tr : Rat) rfl rfl rfl (by rw [List.length_set, zrR_len n1]; omega) ?_; refine AOps.nil ?_; refine Ords.one (j := 8) (by kernel_rfl) rfl ?_; refine AOps.run tok 1 _ _ _ _ rfl ?_; refine AOps.nil ?_; refine Ords.one (j := 26) (by kernel_rfl) rfl ?_; refine AOps.idxo tok rfl rfl rfl rfl g1 (by rw [List.length_map, List.length_set, List.length_set, zrR_len n1]; omega) ?_; refine AOps.nil ?_; refine Ords.one (j := 27) (by kernel_rfl) rfl ?_; refine AOps.storeQ tok ((0 - m.ts - m.tr : Int) : Rat) rfl rfl rfl (by rw [List.length_set, List.length_set, zrR_len n1]; omega) ?_; refine AOps.nil ?_; exact Ords.zero (by kernel_rfl) ⟨rfl, (), rfl, trivial⟩
            · refine AOps.idxo tok rfl rfl rfl rfl b1 (by rw [List.length_map, List.length_set, zrR_len n1]; omega) ?_; refine AOps.nil ?_
              refine Ords.two (j := 7) (k := 25) (by kernel_rfl) rfl rfl ?_ ?_
              · refine AOps.run tok 1 _ _ _ _ rfl ?_; refine AOps.nil ?_
                refine Ords.two (j := 8) (k := 25) (by kernel_rfl) rfl rfl ?_ ?_
                · refine AOps.run tok 1 _ _ _ _ rfl ?_; refine AOps.nil ?_; refine Ords.one (j := 25) (by kernel_rfl) rfl ?_; refine AOps.storeQ tok (m.tr : Rat) rfl rfl rfl (by rw [List.length_set, zrR_len n1]; omega) ?_; refine AOps.nil ?_; refine Ords.one (j := 26) (by kernel_rfl) rfl ?_; refine AOps.idxo tok rfl rfl rfl rfl g1 (by rw [List.length_map, List.length_set, List.length_set, zrR_len n1]; omega) ?_; refine AOps.nil ?_; refine Ords.one (j := 27) (by kernel_rfl) rfl ?_; refine AOps.storeQ tok ((0 - m.ts - m.tr : Int) : Rat) rfl rfl rfl (by rw [List.length_set, List.length_set, zrR_len n1]; omega) ?_; refine AOps.nil ?_; exact Ords.zero (by kernel_rfl) ⟨rfl, (), rfl, trivial⟩
                · refine AOps.storeQ tok (m.tr : Rat) rfl rfl rfl (by rw [List.length_set, zrR_len n1]; omega) ?_; refine AOps.nil ?_; refine Ords.one (j := 8) (by kernel_rfl) rfl ?_; refine AOps.run tok 1 _ _ _ _ rfl ?_; refine AOps.nil ?_; refine Ords.one (j := 26) (by kernel_rfl) rfl ?_; refine AOps.idxo tok rfl rfl rfl rfl g1 (by rw [List.length_map, List.length_set, List.length_set, zrR_len n1]; omega) ?_; refine AOps.nil ?_; refine Ords.one (j := 27) (by kernel_rfl) rfl ?_; refine AOps.storeQ tok ((0 - m.ts - m.tr : Int) : Rat) rfl rfl rfl (by rw [List.length_set, List.length_set, zrR_len n1]; omega) ?_; refine AOps.nil ?_; exact Ords.zero (by kernel_rfl) ⟨rfl, (), rfl, trivial⟩
              · refine AOps.storeQ tok (m.tr : Rat) rfl rfl rfl (by rw [List.length_set, zrR_len n1]; omega) ?_; refine AOps.nil ?_; refine Ords.one (j := 7) (by kernel_rfl) rfl ?_; refine AOps.run tok 1 _ _ _ _ rfl ?_; refine AOps.nil ?_; refine Ords.one (j := 8) (by kernel_rfl) rfl ?_; refine AOps.run tok 1 _ _ _ _ rfl ?_; refine AOps.nil ?_; refine Ords.one (j := 26) (by kernel_rfl) rfl ?_; refine AOps.idxo tok rfl rfl rfl rfl g1 (by rw [List.length_map, List.length_set, List.length_set, zrR_len n1]; omega) ?_; refine AOps.nil ?_; refine Ords.one (j := 27) (by kernel_rfl) rfl ?_; refine AOps.storeQ tok ((0 - m.ts - m.tr : Int) : Rat) rfl rfl rfl (by rw [List.length_set, List.length_set, zrR_len n1]; omega) ?_; refine AOps.nil ?_; exact Ords.zero (by kernel_rfl) ⟨rfl, (), rfl, trivial⟩
          · refine Ords.two (j := 8) (k := 24) (by kernel_rfl) rfl rfl ?_ ?_
            · refine AOps.run tok 1 _ _ _ _ rfl ?_; refine AOps.nil ?_; refine Ords.one (j := 24) (by kernel_rfl) rfl ?_; refine AOps.idxo tok rfl rfl rfl rfl b1 (by rw [List.length_map, List.length_set, zrR_len n1]; omega) ?_; refine AOps.nil ?_; refine Ords.one (j := 25) (by kernel_rfl) rfl ?_; refine AOps.storeQ tok (m.tr : Rat) rfl rfl rfl (by rw [List.length_set, zrR_len n1]; omega) ?_; refine AOps.nil ?_; refine Ords.one (j := 26) (by kernel_rfl) rfl ?_; refine AOps.idxo tok rfl rfl rfl rfl g1 (by rw [List.length_map, List.length_set, List.length_set, zrR_len n1]; omega) ?_; refine AOps.nil ?_; refine Ords.one (j := 27) (by kernel_rfl) rfl ?_; refine AOps.storeQ tok ((0 - m.ts - m.tr : Int) : Rat) rfl rfl rfl (by rw [List.length_set, List.length_set, zrR_len n1]; omega) ?_; refine AOps.nil ?_; exact Ords.zero (by kernel_rfl) ⟨rfl, (), rfl, trivial⟩
            · refine AOps.idxo tok rfl rfl rfl rfl b1 (by rw [List.length_map, List.length_set, zrR_len n1]; omega) ?_; refine AOps.nil ?_
              refine Ords.two (j := 8) (k := 25) (by kernel_rfl) rfl rfl ?_ ?_
              · refine AOps.run tok 1 _ _ _ _ rfl ?_; refine AOps.nil ?_; refine Ords.one (j := 25) (by kernel_rfl) rfl ?_; refine AOps.storeQ tok (m.tr : Rat) rfl rfl rfl (by rw [List.length_set, zrR_len n1]; omega) ?_; refine AOps.nil ?_; refine Ords.one (j := 26) (by kernel_rfl) rfl ?_; refine AOps.idxo tok rfl rfl rfl rfl g1 (by rw [List.length_map, List.length_set, List.length_set, zrR_len n1]; omega) ?_; refine AOps.nil ?_; refine Ords.one (j := 27) (by kernel_rfl) rfl ?_; refine AOps.storeQ tok ((0 - m.ts - m.tr : Int) : Rat) rfl rfl rfl (by rw [List.length_set, List.length_set, zrR_len n1]; omega) ?_; refine AOps.nil ?_; exact Ords.zero (by kernel_rfl) ⟨rfl, (), rfl, trivial⟩
              · refine AOps.storeQ tok (m.tr : Rat) rfl rfl rfl (by rw [List.length_set, zrR_len n1]; omega) ?_; refine AOps.nil ?_; refine Ords.one (j := 8) (by kernel_rfl) rfl ?_; refine AOps.run tok 1 _ _ _ _ rfl ?_; refine AOps.nil ?_; refine Ords.one (j := 26) (by kernel_rfl) rfl ?_; refine AOps.idxo tok rfl rfl rfl rfl g1 (by rw [List.length_map, List.length_set, List.length_set, zrR_len n1]; omega) ?_; refine AOps.nil ?_; refine Ords.one (j := 27) (by kernel_rfl) rfl ?_; refine AOps.storeQ tok ((0 - m.ts - m.tr : Int) : Rat) rfl rfl rfl (by rw [List.length_set, List.length_set, zrR_len n1]; omega) ?_; refine AOps.nil ?_; exact Ords.zero (by kernel_rfl) ⟨rfl, (), rfl, trivial⟩
        show AZ _ _ _ _ _ _ _ (LRs Vs (ms.map (rwM n) ++ (ps.take i).map (rwP n))) [(1, .bx [dI n, MshsD ms, PltsD ps, SpdsD gs]), (3, .ow 29 (VsD Vs)), (10, .ow 41 (QsD ((((zrR n).set m.s.toNat (m.ts : Rat)).set m.r.toNat (m.tr : Rat)).set m.c.toNat ((0 - m.ts - m.tr : Int) : Rat)))), (50, .d (PltsD ps)), (51, .d (dI ps.length)), (52, .d (dI i))]
        refine AZ.loosen 10 rfl rfl rfl (fun V => ?_)
        refine AZ.to [1, 3, 10, 50, 51, 52] [(1, .bx [dI n, MshsD ms, PltsD ps, SpdsD gs]), (3, .ow 29 (VsD Vs)), (10, .d (.v V)), (50, .d (PltsD ps)), (51, .d (dI ps.length)), (52, .d (dI i))] rfl ?_
        refine AZ.reg (fun B1 F1 w1 => ?_)
        refine AOps.run tok 2 _ _ _ _ rfl ?_
        refine AOps.bs tok rfl rfl rfl rfl ?_
        refine AOps.appo tok rfl rfl rfl rfl rfl rfl (by show ((VsD Vs).length + 1) * 24 ≤ _; rw [List.length_map]; omega) (by show (VsD Vs).length + 1 ≤ _; rw [List.length_map]; omega) ?_
        refine AOps.run tok 1 _ _ _ _ rfl ?_
        refine AOps.nil ⟨rfl, ?_⟩
        refine AZ.reg (fun B1 F1 w1 => ?_)
        refine AOps.run tok 2 _ _ _ _ rfl ?_
        rw [wI64 (x := (i : Int) + 1) (by omega) (by omega)]
        refine AOps.nil ⟨rfl, ?_⟩
        refine ⟨(i + 1, Vs ++ [V]), Prod.ext ?_ ?_, ⟨hin, by simp [hV]; omega⟩, by show ps.length - (i + 1) < ps.length - i; omega⟩
        · show LRs Vs _ ++ [_] = LRs (Vs ++ [V]) (ms.map (rwM n) ++ (ps.take (i + 1)).map (rwP n))
          rw [htk, List.map_append, List.map_cons, List.map_nil, ← List.append_assoc, LRs_snoc (by rw [List.length_append, List.length_map, List.length_map, List.length_take]; omega), rwP, show (0 - m.ts - m.tr : Int) = -m.ts - m.tr by omega]
        · show _ = [(1, AV.bx [dI n, MshsD ms, PltsD ps, SpdsD gs]), (3, .ow 29 (VsD (Vs ++ [V]))), (50, .d (PltsD ps)), (51, .d (dI ps.length)), (52, .d (dI ((i + 1 : Nat) : Int)))]
          rw [show VsD (Vs ++ [V]) = VsD Vs ++ [.v V] by simp]
          rfl
      have hin : ¬ i < ps.length := by have := of_decide_eq_false h; omega
      have hie : i = ps.length := by omega
      subst hie
      rw [List.take_length]
      refine AZ.exit ?_
        -- exit 2
      -- END OF BODY; what follows the loop (from its exit):
      refine AZ.seq ?_
      refine AZ.seq ?_
      refine AZ.reg (fun B1 F1 w1 => ?_)   -- "gear.go:80"
      refine AOps.run tok 4 _ _ _ _ rfl ?_
      rw [List.length_map]
      refine AOps.nil ⟨rfl, ?_⟩
      refine AZ.block ?_   -- block 4
      refine AZ.loopS [1, 3, 91, 92, 93] (fun s : Nat × List Value => (LRs s.2 (ms.map (rwM n) ++ ps.map (rwP n) ++ (gs.take s.1).map (rwS n)), [(1, .bx [dI n, MshsD ms, PltsD ps, SpdsD gs]), (3, .ow 29 (VsD s.2)), (91, .d (SpdsD gs)), (92, .d (dI gs.length)), (93, .d (dI s.1))]))
        (fun s => s.1 ≤ gs.length ∧ s.2.length = ms.length + ps.length + s.1) (fun s => gs.length - s.1) (0, Vs) (by rw [List.take_zero, List.map_nil, List.append_nil]; rfl) ⟨Nat.zero_le _, hV⟩ (fun s hs => ?_)
      obtain ⟨i, Vs⟩ := s
      obtain ⟨hi, hV⟩ := hs
      · show AZ _ _ _ _ _ _ _ (LRs Vs (ms.map (rwM n) ++ ps.map (rwP n) ++ (gs.take i).map (rwS n))) [(1, .bx [dI n, MshsD ms, PltsD ps, SpdsD gs]), (3, .ow 29 (VsD Vs)), (91, .d (SpdsD gs)), (92, .d (dI gs.length)), (93, .d (dI i))]
        simp only at hi hV
        refine AZ.seq ?_
        refine AZ.reg (fun B1 F1 w1 => ?_)   -- "gear.go:80"
        refine AOps.run tok 1 _ _ _ _ rfl ?_
        refine AOps.nil ⟨rfl, ?_⟩
        refine AZ.seq ?_
        refine AZ.cond rfl (fun h => ?_) (fun h => ?_)
        · have hin : i < gs.length := by have := of_decide_eq_true h; omega
          have hid : (gs.map Spd.D)[i]? = some (gs.getD i default).D := getM Spd.D hin
          have hmi := spdE_ok (hg i hin)
          have htk := take_snoc gs hin
          have hgi := hgw i
          generalize gs.getD i default = m at hid hmi htk hgi
          obtain ⟨sh, v⟩ := m
          obtain ⟨⟨a1, a2⟩, hok⟩ := hmi
          dsimp only at a1 a2 hok hgi
          obtain ⟨q, hq⟩ : ∃ q, v = Qr q := ⟨_, RD.canon hgi hok⟩
          subst hq
          refine AZ.skip ?_
          refine AZ.seq ?_
          refine AZ.block ?_   -- block 5
          refine AZ.seq ?_
          refine AZ.reg (fun B1 F1 w1 => ?_)   -- "gear.go:80"
          refine AOps.idx tok (Spd.D ⟨sh, Qr q⟩) rfl rfl rfl rfl (Int.natCast_nonneg i) hid ?_
          refine AOps.run tok 3 _ _ _ _ rfl ?_
          refine AOps.nil ⟨rfl, ?_⟩
          refine AZ.seq ?_
          refine AZ.reg (fun B1 F1 w1 => ?_)   -- "gear.go:81"
          refine AOps.run tok 3 _ _ _ _ rfl ?_
          rw [wI64 (by omega) (by omega)]
          refine AOps.makeQ tok n rfl rfl rfl rfl rfl rfl rfl rfl (by omega) (by omega) ?_
          refine AOps.run tok 1 _ _ _ _ rfl ?_
          refine AOps.nil ⟨rfl, ?_⟩
          refine AZ.to [1, 3, 12, 13, 91, 92, 93] [(1, .bx [dI n, MshsD ms, PltsD ps, SpdsD gs]), (3, .ow 29 (VsD Vs)), (12, .bx [dI sh, dB (Qr q).g, Wd (Qr q).n, Wd (Qr q).d]), (13, .ow 41 (QsD (zrR n))), (91, .d (SpdsD gs)), (92, .d (dI gs.length)), (93, .d (dI i))] rfl ?_
          refine AZ.seq ?_
          refine AZ.frame (fun B1 F1 w1 => AW.any hmix (AAny.early 3 (by kernel_rfl) (fun _ _ h => h.2) (AAny.front 3 rfl (AAny.draw3 tok [(4, true), (2, false), (1, true), (2, false), (1, true)] 10 [13] (by kernel_rfl) ⟨rfl, ?_⟩))))
          refine APre.run tok 4 _ _ _ _ rfl ?_
          refine APre.nil ⟨rfl, ?_⟩
          refine APre.run tok 2 _ _ _ _ rfl ?_
          refine APre.nil ⟨rfl, ?_⟩
          refine APre.call tok rfl rfl rfl rfl rfl (fraction_Of_ok 1 (by omega) (by omega)) ?_
          refine APre.nil ⟨rfl, ?_⟩
          refine APre.run tok 2 _ _ _ _ rfl ?_
          refine APre.nil ⟨rfl, ?_⟩
          refine APre.idxo tok rfl rfl rfl rfl rfl rfl a1 (by rw [List.length_map, zrR_len n1]; omega) ?_
          refine APre.nil ⟨_, StL.cons (StOk.elQ ((1 : Int) : Rat) rfl (by rw [zrR_len n1]; omega)) StL.nil, ?_⟩
          refine AOps.idxo tok rfl rfl rfl rfl (by omega) (by rw [List.length_map, List.length_set, zrR_len n1]; omega) ?_
          refine AOps.storeQ tok q rfl rfl rfl (by rw [List.length_set, zrR_len n1]; omega) ?_
          refine AOps.nil ⟨rfl, ?_⟩
          refine AZ.loosen 13 rfl rfl rfl (fun V => ?_)
          refine AZ.to [1, 3, 13, 91, 92, 93] [(1, .bx [dI n, MshsD ms, PltsD ps, SpdsD gs]), (3, .ow 29 (VsD Vs)), (13, .d (.v V)), (91, .d (SpdsD gs)), (92, .d (dI gs.length)), (93, .d (dI i))] rfl ?_
          refine AZ.reg (fun B1 F1 w1 => ?_)
          refine AOps.run tok 2 _ _ _ _ rfl ?_
          refine AOps.bs tok rfl rfl rfl rfl ?_
          refine AOps.appo tok rfl rfl rfl rfl rfl rfl (by show ((VsD Vs).length + 1) * 24 ≤ _; rw [List.length_map]; omega) (by show (VsD Vs).length + 1 ≤ _; rw [List.length_map]; omega) ?_
          refine AOps.run tok 1 _ _ _ _ rfl ?_
          refine AOps.nil ⟨rfl, ?_⟩
          refine AZ.reg (fun B1 F1 w1 => ?_)
          refine AOps.run tok 2 _ _ _ _ rfl ?_
          rw [wI64 (x := (i : Int) + 1) (by omega) (by omega)]
          refine AOps.nil ⟨rfl, ?_⟩
          refine ⟨(i + 1, Vs ++ [V]), Prod.ext ?_ ?_, ⟨hin, by simp [hV]; omega⟩, by show gs.length - (i + 1) < gs.length - i; omega⟩
          · show LRs Vs _ ++ [_] = LRs (Vs ++ [V]) (ms.map (rwM n) ++ ps.map (rwP n) ++ (gs.take (i + 1)).map (rwS n))
            rw [htk, List.map_append, List.map_cons, List.map_nil, ← List.append_assoc, LRs_snoc (by rw [List.length_append, List.length_append, List.length_map, List.length_map, List.length_map, List.length_take]; omega), rwS, Qr_val]
          · show _ = [(1, AV.bx [dI n, MshsD ms, PltsD ps, SpdsD gs]), (3, .ow 29 (VsD (Vs ++ [V]))), (91, .d (SpdsD gs)), (92, .d (dI gs.length)), (93, .d (dI ((i + 1 : Nat) : Int)))]
            rw [show VsD (Vs ++ [V]) = VsD Vs ++ [.v V] by simp]
            rfl
        have hin : ¬ i < gs.length := by have := of_decide_eq_false h; omega
        have hie : i = gs.length := by omega
        subst hie
        rw [List.take_length]
        refine AZ.exit ?_
          -- exit 4
        -- END OF BODY; what follows the loop (from its exit):
        refine AZ.seq ?_
        refine AZ.reg (fun B1 F1 w1 => ?_)   -- "gear.go:85"
        refine AOps.run tok 2 _ _ _ _ rfl ?_
        refine AOps.nil ⟨rfl, ?_⟩
        refine AZ.loosen 2 rfl rfl rfl (fun V0 => AZ.ret ⟨.v V0, rfl, V0, Vs, ?_, rfl, rfl⟩)
        show Vs.length = (ms.map (rwM n) ++ ps.map (rwP n) ++ gs.map (rwS n)).length
        rw [List.length_append, List.length_append, List.length_map, List.length_map, List.length_map]; exact hV
end Lift
/- One row less a multiple of another one. -/
namespace Lift
open Go Go.Proofs

/-- The first i numbers are less already. -/
def lessP (xs ys : List Rat) (q : Rat) (i : Nat) : List Rat := (lessR xs ys q).take i ++ xs.drop i
theorem lessR_len {xs ys : List Rat} (h : ys.length = xs.length) (q : Rat) : (lessR xs ys q).length = xs.length := by unfold lessR; rw [List.length_zipWith, h]; omega
theorem lessP_len {xs ys : List Rat} (h : ys.length = xs.length) (q : Rat) {i : Nat} (hi : i ≤ xs.length) : (lessP xs ys q i).length = xs.length := by
  unfold lessP; rw [List.length_append, List.length_take, List.length_drop, lessR_len h]; omega
theorem lessP_get {xs ys : List Rat} (h : ys.length = xs.length) (q : Rat) {i : Nat} (hi : i < xs.length) : (lessP xs ys q i).getD i 0 = xs.getD i 0 := by
  unfold lessP
  rw [List.getD_eq_getElem?_getD, List.getElem?_append_right (by rw [List.length_take]; omega), List.length_take, lessR_len h, List.getElem?_drop, List.getD_eq_getElem?_getD]
  congr 2; omega
theorem lessP_set {xs ys : List Rat} (h : ys.length = xs.length) (q : Rat) {i : Nat} (hi : i < xs.length) : (lessP xs ys q i).set i (xs.getD i 0 - q * ys.getD i 0) = lessP xs ys q (i + 1) := by
  have hl := lessR_len h q
  refine List.ext_getElem? (fun c => ?_)
  by_cases hc : c = i
  · subst hc
    rw [List.getElem?_set_self (by rw [lessP_len h q (by omega)]; exact hi)]
    unfold lessP
    rw [List.getElem?_append_left (by rw [List.length_take]; omega), List.getElem?_take, if_pos (by omega)]
    unfold lessR
    have h1 : c < ys.length := by omega
    simp [List.getElem?_zipWith, hi, h1]
  · rw [List.getElem?_set_ne (Ne.symm hc)]
    unfold lessP
    rcases Nat.lt_or_ge c i with g | g
    · rw [List.getElem?_append_left (by rw [List.length_take]; omega), List.getElem?_append_left (by rw [List.length_take]; omega), List.getElem?_take, List.getElem?_take, if_pos g, if_pos (by omega)]
    · rw [List.getElem?_append_right (by rw [List.length_take]; omega), List.getElem?_append_right (by rw [List.length_take]; omega), List.getElem?_drop, List.getElem?_drop, List.length_take, List.length_take]
      congr 1; omega
theorem lessP_zero (xs ys : List Rat) (q : Rat) : lessP xs ys q 0 = xs := by unfold lessP; simp
theorem lessP_all {xs ys : List Rat} (h : ys.length = xs.length) (q : Rat) : lessP xs ys q xs.length = lessR xs ys q := by
  unfold lessP; rw [List.drop_length, List.append_nil, ← lessR_len h q, List.take_length]
def lessPost (V1 V2 : Value) (xs ys : List Rat) (q : Rat) (res : D) (R' : List LR) : Prop := res = .tu [] ∧ R' = [(V1, AV.ow 41 (QsD (lessR xs ys q))), (V2, AV.ow 41 (QsD ys))]
theorem gear_less_ok (V1 V2 : Value) (xs ys : List Rat) (q : Rat) {k : Nat} (hk : k ≤ 3000000) (hx : ∀ c, LQ (xs.getD c 0) ≤ k) (hy : ∀ c, LQ (ys.getD c 0) ≤ k) (hq : LQ q ≤ k) (hl : ys.length = xs.length) (hl0 : 0 < xs.length) (hl1 : xs.length ≤ 1000) :
    CallZ Tryz.prog 28 [.v V1, .v V2, (Qr q).D] [(V1, AV.ow 41 (QsD xs)), (V2, AV.ow 41 (QsD ys))] (lessPost V1 V2 xs ys q) := by
  refine CallZ.intro (n := 27) tok Tryz.func28 rfl rfl rfl (Nat.le_of_ble_eq_true rfl) (by kernel_rfl) (fun B F0 w0 => ?_)
  refine AZ.seq ?_
  refine AZ.reg (fun B1 F1 w1 => ?_)   -- "gear.go:89"
  refine AOps.run tok 1 _ _ _ _ rfl ?_
  refine AOps.nil ⟨rfl, ?_⟩
  refine AZ.seq ?_
  refine AZ.regS (fun B1 F1 w1 hS => ?_)
  refine AOps.run tok 1 _ _ _ _ rfl ?_
  refine AOps.lens tok (hS.at (i := 0) rfl (by rw [List.length_map]; exact hl0)) rfl rfl rfl rfl ?_
  refine AOps.run tok 1 _ _ _ _ rfl ?_
  rw [List.length_map]
  refine AOps.nil ⟨rfl, ?_⟩
  refine AZ.block ?_   -- block 0
  refine AZ.loopS [0, 1, 5, 8, 9] (fun i : Nat => ([(V1, AV.ow 41 (QsD (lessP xs ys q i))), (V2, AV.ow 41 (QsD ys))], [(0, .d (.v V1)), (1, .d (.v V2)), (5, .bx (Qr q).D.flat), (8, .d (dI xs.length)), (9, .d (dI i))]))
    (fun i => i ≤ xs.length) (fun i => xs.length - i) 0 (by rw [lessP_zero]; rfl) (Nat.zero_le _) (fun i hi => ?_)
  · show AZ _ _ _ _ _ _ _ [(V1, AV.ow 41 (QsD (lessP xs ys q i))), (V2, AV.ow 41 (QsD ys))] [(0, .d (.v V1)), (1, .d (.v V2)), (5, .bx (Qr q).D.flat), (8, .d (dI xs.length)), (9, .d (dI i))]
    refine AZ.seq ?_
    refine AZ.reg (fun B1 F1 w1 => ?_)   -- "gear.go:90"
    refine AOps.run tok 1 _ _ _ _ rfl ?_
    refine AOps.nil ⟨rfl, ?_⟩
    refine AZ.seq ?_
    refine AZ.cond rfl (fun h => ?_) (fun h => ?_)
    · have hin : i < xs.length := by have := of_decide_eq_true h; omega
      have hpl := lessP_len hl q (i := i) (by omega)
      have hpg := lessP_get hl q hin
      have hps := lessP_set hl q hin
      have hyi : i < ys.length := by omega
      have hxk := hx i
      have hyk := hy i
      refine AZ.skip ?_
      refine AZ.seq ?_
      refine AZ.block ?_   -- block 1
      refine AZ.seq ?_
      refine AZ.reg (fun B1 F1 w1 => ?_)   -- "gear.go:90"
      refine AOps.run tok 2 _ _ _ _ rfl ?_
      refine AOps.nil ⟨rfl, ?_⟩
      refine AZ.any hmix (ZAny.drawS 14 (by kernel_rfl) (fun B1 F1 w1 hS => ?_))
      have hS1 := hS.at (i := 0) rfl (by rw [List.length_map]; omega)
      have hS2 := hS.at (i := 1) rfl (by rw [List.length_map]; omega)
      refine APre.run tok 4 _ _ _ _ rfl ?_
      refine APre.idxs tok hS1 rfl rfl rfl rfl rfl (Int.natCast_nonneg i) (by rw [List.length_map, hpl]; exact hin) ?_
      refine APre.loads tok (Qr ((lessP xs ys q i).getD i 0)).D hS1 rfl rfl rfl rfl rfl rfl rfl (getQ (by omega)) rfl ?_
      rw [hpg]
      refine APre.run tok 3 _ _ _ _ rfl ?_
      refine APre.idxs tok hS2 rfl rfl rfl rfl rfl (Int.natCast_nonneg i) (by rw [List.length_map]; exact hyi) ?_
      refine APre.loads tok (Qr (ys.getD i 0)).D hS2 rfl rfl rfl rfl rfl rfl rfl (getQ hyi) rfl ?_
      refine APre.call tok rfl rfl rfl rfl rfl (fraction_Mul_ok (Qr q) (Qr (ys.getD i 0)) (k := k) (Qr_w _ hq) (Qr_w _ hyk) (by omega)) ?_
      rw [Qr_val, Qr_val]
      have hm := LQ_mul q (ys.getD i 0)
      refine APre.call tok rfl rfl rfl rfl rfl (fraction_Sub_ok (Qr (xs.getD i 0)) (Qr (q * ys.getD i 0)) (k := 2 * k) (Qr_w _ (by omega)) (Qr_w _ (by omega)) (by omega)) ?_
      rw [Qr_val, Qr_val]
      refine APre.idxs tok hS1 rfl rfl rfl rfl rfl (Int.natCast_nonneg i) (by rw [List.length_map, hpl]; exact hin) ?_
      refine APre.nil ⟨rfl, ?_⟩
      refine AZOps.to [12, 25, 24, 0, 1, 5, 8, 9] [(12, .d (.v V1)), (25, .d (.v (ptrV V1 (i * 3)))), (24, .d (Qr (xs.getD i 0 - q * ys.getD i 0)).D), (0, .d (.v V1)), (1, .d (.v V2)), (5, .bx (Qr q).D.flat), (8, .d (dI xs.length)), (9, .d (dI i))] rfl ?_
      refine AZOps.adopt 12 0 rfl rfl rfl ?_
      refine AZOps.el tok 12 25 rfl (List.Mem.head _) rfl rfl rfl (by rw [List.length_map, hpl]; exact hin) rfl ?_
      refine AZOps.cut 1 rfl (fun B1 F1 w1 => ?_)
      refine AOps.storeQ tok (xs.getD i 0 - q * ys.getD i 0) rfl rfl rfl (by omega) ?_
      rw [hps]
      refine AOps.nil ⟨rfl, ?_⟩
      refine AZOps.back 12 0 rfl rfl rfl (List.Mem.head _) rfl ?_
      refine AZOps.nil ?_
      refine AZ.reg (fun B1 F1 w1 => ?_)   -- "gear.go:90"
      refine AOps.run tok 2 _ _ _ _ rfl ?_
      rw [wI64 (x := (i : Int) + 1) (by omega) (by omega)]
      refine AOps.nil ⟨rfl, ?_⟩
      exact ⟨i + 1, rfl, hin, by omega⟩
    have hin : i = xs.length := by have := of_decide_eq_false h; omega
    subst hin
    rw [lessP_all hl]
    exact AZ.exit ⟨.tu [], rfl, rfl, rfl⟩
end Lift
/- Loose rows change places, or are dropped. -/
namespace Lift
open Go
open Go.RowKit (Below)

section
variable {P : Program} {T : Ty} {B : Nat} {F0 : Nat → Prop} {w0 : Bas} {n : Nat} {σ : St} {R R' : List LR} {x : Code} {Q : Exit → List LR → St → Prop} {K : List LR → St → Prop} {p : Pins} {all : Array Oper} {l : List Oper}

theorem RelZ.swapR {a : Act} {w : World} {i j : Nat} {ri rj : LR} (hi : R[i]? = some ri) (hj : R[j]? = some rj) (hR : RelZ P B F0 w0 n R σ a w) : RelZ P B F0 w0 n ((R.set i rj).set j ri) σ a w := by
  obtain ⟨O, hOr, hO, hL⟩ := hR.own
  have hlt : ∀ t av, σ.get t = some av → t < n := fun t av h => by
    obtain ⟨v, hv, _⟩ := hO t av h
    rw [← hR.size]
    exact (Array.getElem?_eq_some_iff.1 hv).1
  have hF : ∀ c, Free O (FW B F0 w) c → Free (swO O (n + i) (n + j)) (FW B F0 w) c := fun c hc => ⟨swO_none.2 hc.1, hc.2⟩
  refine ⟨hR.below, hR.base, hR.f0, hR.defers, hR.size, swO O (n + i) (n + j), swO_lt hOr, fun t av h => ?_, fun k r hr => ?_⟩
  · obtain ⟨v, hv, hr⟩ := hO t av h
    have := hlt t av h
    exact ⟨v, hv, hr.move (fun c hc => ⟨hF c hc, rfl⟩) (fun _ c hc => ⟨swO_other hc (by omega) (by omega), rfl⟩) (fun k _ x _ hk => ⟨hk, rfl⟩)⟩
  · have hil := (List.getElem?_eq_some_iff.1 hi).1
    have hjl := (List.getElem?_eq_some_iff.1 hj).1
    by_cases hkj : k = j
    · subst hkj
      rw [List.getElem?_set_self (by simpa using hjl)] at hr
      cases hr
      exact (hL i _ hi).owner (fun c hc => by simp [swO, hc]) hF
    · rw [List.getElem?_set_ne (Ne.symm hkj)] at hr
      by_cases hki : k = i
      · subst hki
        rw [List.getElem?_set_self hil] at hr
        cases hr
        exact (hL j _ hj).owner (fun c hc => by simp only [swO, hc]; rw [if_neg (by simp; omega)]; simp) hF
      · rw [List.getElem?_set_ne (Ne.symm hki)] at hr
        exact (hL k _ hr).owner (fun c hc => swO_other hc (by omega) (by omega)) hF
theorem AZ.swapR {ri rj : LR} (i j : Nat) (hi : R[i]? = some ri) (hj : R[j]? = some rj) (h : AZ P B F0 w0 n x Q ((R.set i rj).set j ri) σ) : AZ P B F0 w0 n x Q R σ := fun a w hR => h a w (hR.swapR hi hj)
theorem AZ.dropR (R' : List LR) (hd : ∀ (i : Nat) (r : LR), R'[i]? = some r → R[i]? = some r ∨ r.2 = .junk) (h : AZ P B F0 w0 n x Q R' σ) : AZ P B F0 w0 n x Q R σ := fun a w hR => h a w (hR.drop hd)
theorem AZ.dropA {R' : List LR} (h : AZ P B F0 w0 n x Q R σ) : AZ P B F0 w0 n x Q (R ++ R') σ := AZ.dropR R (fun i r hr => .inl (by
  have := (List.getElem?_eq_some_iff.1 hr).1
  rw [List.getElem?_append_left this]; exact hr)) h
theorem sel2 {i j : Nat} {x y : LR} (hi : R[i]? = some x) (hj : R[j]? = some y) : selR R [i, j] = some [x, y] := by simp [selR, hi, hj]
end
end Lift
/- What the walk of Solve asks for. -/
namespace Lift
open Go Go.Proofs

section
variable {P : Program} {T : Ty} {B : Nat} {F0 : Nat → Prop} {w0 : Bas} {n : Nat} {σ τ : St} {K : St → Prop} {all : Array Oper} {o : Oper} {d : Nat} {rest : List Oper}
theorem AOps.storeVs (hT : TOk P T) {k e i : Nat} {Vs : List Value} (V : Value) (hd : o.dst = none) (hg : guardOk all σ o = true) (hx : seF T σ o.op = some (k, .ow e (VsD Vs), VsD Vs, i, 0, .v V)) (hi : i < Vs.length)
    (h : AOps P B F0 w0 n all rest K ((k, .ow e (VsD (Vs.set i V))) :: σ)) : AOps P B F0 w0 n all (o :: rest) K σ := by
  refine AOps.storeel hT (.v (Vs.getD i undef)) hd hg hx (getVs hi) rfl ?_
  show AOps P B F0 w0 n all rest K ((k, .ow e ((VsD Vs).set i (.v V))) :: σ)
  rw [show (VsD Vs).set i (.v V) = VsD (Vs.set i V) from (List.map_set ..).symm]
  exact h
theorem StOk.elVs {h e i : Nat} {Vs : List Value} (V : Value) (hx : seF T τ o.op = some (h, .ow e (VsD Vs), VsD Vs, i, 0, .v V)) (hi : i < Vs.length) : StOk T τ o h (.ow e (VsD (Vs.set i V))) := by
  have := StOk.el hx (getVs hi) rfl
  rw [show VsD (Vs.set i V) = (VsD Vs).set i (.v V) from List.map_set ..]
  exact this
end
theorem LRs_setV {Vs : List Value} {a : Mt} {j : Nat} (hV : j < Vs.length) (ha : j < a.length) (V : Value) (r : List Rat) : (LRs Vs a).set j (V, AV.ow 41 (QsD r)) = LRs (Vs.set j V) (a.set j r) := by
  unfold LRs
  refine List.ext_getElem? (fun k => ?_)
  by_cases hk : k = j
  · subst hk
    rw [List.getElem?_set_self (by simp; omega)]
    simp [List.getElem?_zipWith, hV, ha]
  · rw [List.getElem?_set_ne (Ne.symm hk)]
    simp [List.getElem?_zipWith, List.getElem?_set_ne (Ne.symm hk)]
def swV (Vs : List Value) (d t : Nat) : List Value := (Vs.set d (Vs.getD t undef)).set t (Vs.getD d undef)
theorem LRs_swap {Vs : List Value} {a : Mt} {d t : Nat} (h : Vs.length = a.length) (hd : d < a.length) (ht : t < a.length) :
    ((LRs Vs a).set d (Vs.getD t undef, AV.ow 41 (QsD (a.getD t [])))).set t (Vs.getD d undef, AV.ow 41 (QsD (a.getD d []))) = LRs (swV Vs d t) (swG a d t) := by
  rw [LRs_setV (by omega) hd, LRs_setV (by simp; omega) (by simp; omega)]; rfl
theorem LRs_less {Vs : List Value} {a : Mt} {i d : Nat} (h : Vs.length = a.length) (hi : i < a.length) (hd : d < a.length) (hid : i ≠ d) (r : List Rat) :
    ((LRs Vs a).set i (Vs.getD i undef, AV.ow 41 (QsD r))).set d (Vs.getD d undef, AV.ow 41 (QsD (a.getD d []))) = LRs Vs (a.set i r) := by
  rw [LRs_set (by omega), LRs_set (by omega)]
  congr 1
  refine List.ext_getElem? (fun k => ?_)
  by_cases hk : k = d
  · subst hk
    rw [List.getElem?_set_self (by simpa using hd), List.getElem?_set_ne hid]
    simp [hd]
  · rw [List.getElem?_set_ne (Ne.symm hk)]
theorem set_own {a : Mt} {d : Nat} (hd : d < a.length) : a.set d (a.getD d []) = a := by
  refine List.ext_getElem? (fun k => ?_)
  by_cases hk : k = d
  · subst hk; rw [List.getElem?_set_self hd]; simp [hd]
  · rw [List.getElem?_set_ne (Ne.symm hk)]
theorem set_set {a : Mt} {d : Nat} (r s : List Rat) : (a.set d r).set d s = a.set d s := List.set_set ..

/-- The first j numbers are divided already. -/
def divP (r : List Rat) (f : Rat) (j : Nat) : List Rat := (divR r f).take j ++ r.drop j
theorem divP_len (r : List Rat) (f : Rat) {j : Nat} (hj : j ≤ r.length) : (divP r f j).length = r.length := by
  unfold divP divR; rw [List.length_append, List.length_take, List.length_drop, List.length_map]; omega
theorem divP_get (r : List Rat) (f : Rat) {j : Nat} (hj : j < r.length) : (divP r f j).getD j 0 = r.getD j 0 := by
  unfold divP divR
  rw [List.getD_eq_getElem?_getD, List.getElem?_append_right (by rw [List.length_take]; omega), List.length_take, List.length_map, List.getElem?_drop, List.getD_eq_getElem?_getD]
  congr 2; omega
theorem divP_set (r : List Rat) (f : Rat) {j : Nat} (hj : j < r.length) : (divP r f j).set j (r.getD j 0 / f) = divP r f (j + 1) := by
  have hl : (divR r f).length = r.length := by unfold divR; rw [List.length_map]
  refine List.ext_getElem? (fun c => ?_)
  by_cases hc : c = j
  · subst hc
    rw [List.getElem?_set_self (by rw [divP_len r f (by omega)]; exact hj)]
    unfold divP
    rw [List.getElem?_append_left (by rw [List.length_take]; omega), List.getElem?_take, if_pos (by omega)]
    unfold divR
    simp [hj]
  · rw [List.getElem?_set_ne (Ne.symm hc)]
    unfold divP
    rcases Nat.lt_or_ge c j with g | g
    · rw [List.getElem?_append_left (by rw [List.length_take]; omega), List.getElem?_append_left (by rw [List.length_take]; omega), List.getElem?_take, List.getElem?_take, if_pos g, if_pos (by omega)]
    · rw [List.getElem?_append_right (by rw [List.length_take]; omega), List.getElem?_append_right (by rw [List.length_take]; omega), List.getElem?_drop, List.getElem?_drop, List.length_take, List.length_take]
      congr 1; omega
theorem divP_zero (r : List Rat) (f : Rat) : divP r f 0 = r := by unfold divP; simp
theorem divP_all (r : List Rat) (f : Rat) : divP r f r.length = divR r f := by
  unfold divP
  have hl : (divR r f).length = r.length := by unfold divR; rw [List.length_map]
  rw [List.drop_length, List.append_nil, ← hl, List.take_length]

theorem sg_nz (q : Rat) : (sgI q.num == 0) = !nz q := by
  unfold nz
  by_cases h : q = 0
  · subst h; rfl
  · rw [sgI_ne (num_ne h)]; simp [h]
/-- What Solve answers. -/
def solD : Out → D
  | .over => .tu [.sl 3 [], erV 19]
  | .free => .tu [.sl 3 [], erV 20]
  | .val l => .tu [.sl 3 (QsD l), nilE]
def solT (x : Trn) : D := match chkT x with
  | 0 => solD (outG x.n.toNat (rowsM x))
  | k + 1 => .tu [.sl 3 [], erV (k + 1)]

theorem LI {z : Int} (h : z.natAbs ≤ 9223372036854775808) : L z ≤ 8 := by have := L_of z h; omega
/-- Rows of integers; of one fraction beside integers. -/
theorem SzF.ints {r : Nat → Rat} (f : Nat → Int) (h : ∀ c, (f c).natAbs ≤ 9223372036854775808) (hr : ∀ c, r c = (f c : Rat)) : SzF 10 r :=
  ⟨1, f, by decide, by rw [L_one]; omega, fun c => ⟨by have := LI (h c); omega, by rw [hr, of_divInt]⟩⟩
theorem getD_set_f (l : List Rat) (i : Nat) (q : Rat) (c : Nat) : (l.set i q).getD c 0 = if c = i ∧ i < l.length then q else l.getD c 0 := by
  simp only [List.getD_eq_getElem?_getD]
  by_cases h : c = i
  · subst h
    by_cases hl : c < l.length
    · rw [List.getElem?_set_self hl]; simp [hl]
    · rw [List.getElem?_eq_none (by simp; omega), List.getElem?_eq_none (by omega)]; simp [hl]
  · rw [List.getElem?_set_ne (Ne.symm h)]; simp [h]
theorem zrR_get (n : Int) (c : Nat) : (zrR n).getD c 0 = ((0 : Int) : Rat) := by
  unfold zrR
  rw [List.getD_eq_getElem?_getD, List.getElem?_replicate]
  split <;> rfl
theorem rowsM_sz {x : Trn} {k : Nat} (hw : x.w k) (hk : k ≤ 10) (h : TOkT x) : SzM (Xs 0) (fM (rowsM x)) := by
  have key : ∀ r, r ∈ rowsM x → SzF 10 (fun c => r.getD c 0) := fun r hr => by
    unfold rowsM at hr
    simp only [List.mem_append, List.mem_map] at hr
    rcases hr with (⟨m, hm, rfl⟩ | ⟨m, hm, rfl⟩) | ⟨m, hm, rfl⟩
    · obtain ⟨i, hi, rfl⟩ := List.getElem_of_mem hm
      have h1 := mshE_ok (h.m i hi)
      rw [List.getD_eq_getElem?_getD, List.getElem?_eq_getElem hi, Option.getD_some] at h1
      generalize x.ms[i] = m at h1
      obtain ⟨_, _, _, _, _, _⟩ := h1
      refine SzF.ints (fun c => if c = m.b.toNat ∧ m.b.toNat < ((zrR x.n).set m.a.toNat (m.ta : Rat)).length then (if m.inn = true then -m.tb else m.tb) else if c = m.a.toNat ∧ m.a.toNat < (zrR x.n).length then m.ta else 0) (fun c => ?_) (fun c => ?_)
      · repeat' split
        all_goals omega
      · unfold rwM
        rw [getD_set_f, getD_set_f, zrR_get]
        repeat' split
        all_goals rfl
    · obtain ⟨i, hi, rfl⟩ := List.getElem_of_mem hm
      have h1 := pltE_ok (h.p i hi)
      rw [List.getD_eq_getElem?_getD, List.getElem?_eq_getElem hi, Option.getD_some] at h1
      generalize x.ps[i] = m at h1
      obtain ⟨_, _, _, _, _, _, _⟩ := h1
      refine SzF.ints (fun c => if c = m.c.toNat ∧ m.c.toNat < (((zrR x.n).set m.s.toNat (m.ts : Rat)).set m.r.toNat (m.tr : Rat)).length then -m.ts - m.tr else if c = m.r.toNat ∧ m.r.toNat < ((zrR x.n).set m.s.toNat (m.ts : Rat)).length then m.tr else if c = m.s.toNat ∧ m.s.toNat < (zrR x.n).length then m.ts else 0) (fun c => ?_) (fun c => ?_)
      · repeat' split
        all_goals omega
      · unfold rwP
        rw [getD_set_f, getD_set_f, getD_set_f, zrR_get]
        repeat' split
        all_goals rfl
    · obtain ⟨i, hi, rfl⟩ := List.getElem_of_mem hm
      have h2 := hw.2.2.2 i
      rw [List.getD_eq_getElem?_getD, List.getElem?_eq_getElem hi, Option.getD_some] at h2
      generalize x.gs[i] = m at h2
      have h3 := LQ_val (h2.mono hk) (by decide)
      have h4 := Lnum m.v.val
      have h5 := Lden m.v.val
      have hd := den_ne m.v.val
      refine ⟨m.v.val.den, fun c => if c = x.n.toNat ∧ x.n.toNat < ((zrR x.n).set m.sh.toNat ((1 : Int) : Rat)).length then m.v.val.num else if c = m.sh.toNat ∧ m.sh.toNat < (zrR x.n).length then m.v.val.den else 0, hd, by omega, fun c => ⟨?_, ?_⟩⟩
      · simp only []
        repeat' split
        all_goals first | omega | (rw [L_zero]; omega)
      · unfold rwS
        show (((zrR x.n).set m.sh.toNat ((1 : Int) : Rat)).set x.n.toNat m.v.val).getD c 0 = _
        rw [getD_set_f, getD_set_f, zrR_get]
        simp only []
        repeat' split
        · rw [Rat.num_divInt_den]
        · rw [divInt_eq, div_own (cast_ne hd)]; rfl
        · rw [Rat.zero_divInt]; rfl
  refine SzM.ofRows (by decide) (fun j hj => ?_)
  have := key _ (List.getElem_mem hj)
  refine this.congr (fun c => ?_)
  unfold fM
  rw [List.getD_eq_getElem?_getD (l := rowsM x), List.getElem?_eq_getElem hj, Option.getD_some]
theorem rowsM_rect {x : Trn} (h : TOkT x) : Rect (rowsM x) (x.n.toNat + 1) := fun r hr => by
  have hz := zrR_len h.n1
  unfold rowsM at hr
  simp only [List.mem_append, List.mem_map] at hr
  rcases hr with (⟨m, hm, rfl⟩ | ⟨m, hm, rfl⟩) | ⟨m, hm, rfl⟩
  · unfold rwM; rw [List.length_set, List.length_set, hz]
  · unfold rwP; rw [List.length_set, List.length_set, List.length_set, hz]
  · unfold rwS; rw [List.length_set, List.length_set, hz]
theorem rowsM_len {x : Trn} (h : TOkT x) : (rowsM x).length ≤ 96 := by
  unfold rowsM
  rw [List.length_append, List.length_append, List.length_map, List.length_map, List.length_map]
  have := h.ms; have := h.ps; have := h.gs
  omega
end Lift
/- Solve. -/
namespace Lift
open Go Go.Proofs

structure MInv (N : Nat) (a0 : Mt) (G : Option (Mt × Nat)) (k d : Nat) (Vs : List Value) (a : Mt) : Prop where
  ik : k ≤ N + 1
  dk : d ≤ k
  dN : d ≤ N
  da : d ≤ a.length
  lV : Vs.length = a.length
  la : a.length = a0.length
  rc : Rect a (N + 1)
  sz : SzM (Xs d) (fM a)
  gg : G = goG N (N + 1 - k) k d a
/-- What the search for a column's row leaves. -/
abbrev stK (N : Nat) (Vs : List Value) (d k : Nat) : St := [(5, .ow 29 (VsD Vs)), (6, .d (dI N)), (7, .d (dI d)), (8, .d (dI k))]
theorem fstN_step {g : Nat → Bool} {n i : Nat} (h : i < n) (h0 : g i = false) : fstN g (n - i) i = fstN g (n - (i + 1)) (i + 1) := by
  rw [show n - i = (n - (i + 1)) + 1 by omega, fstN, if_neg (by rw [h0]; simp)]
theorem fstN_hit {g : Nat → Bool} {n i : Nat} (h : i < n) (h0 : g i = true) : fstN g (n - i) i = i := by
  rw [show n - i = (n - (i + 1)) + 1 by omega, fstN, if_pos h0]
theorem fstN_end {g : Nat → Bool} {n i : Nat} (h : ¬ i < n) : fstN g (n - i) i = i := by rw [show n - i = 0 by omega, fstN]
theorem sgI0 {q : Rat} : sgI q.num = 0 ↔ q = 0 := by
  constructor
  · intro h
    by_cases hq : q = 0
    · exact hq
    · have := sgI_ne (num_ne hq)
      rw [h] at this
      cases this
  · intro h; subst h; rfl
theorem solT_err {x : Trn} {m : Nat} (h : chkT x = m + 1) : solT x = .tu [.sl 3 [], erV (m + 1)] := by unfold solT; rw [h]
theorem solT_ok {x : Trn} (h : chkT x = 0) : solT x = solD (outG x.n.toNat (rowsM x)) := by unfold solT; rw [h]
theorem swV_len (Vs : List Value) (d t : Nat) : (swV Vs d t).length = Vs.length := by unfold swV; simp
set_option maxHeartbeats 6400000 in
theorem gear_Solve_ok (x : Trn) {k : Nat} (hw : x.w k) (hk : k ≤ 10) : Pure Tryz.prog 8 [x.D] (solT x) := by
  refine Pure.intro (n := 178) tok Tryz.func8 rfl rfl rfl (Nat.le_of_ble_eq_true rfl) (by kernel_rfl) (fun B F0 w0 => ?_)
  have cC := gear_check_ok x hw (by omega)
  rcases hE : chkT x with _ | m
  rotate_left
  · rw [hE] at cC
    rw [solT_err hE]
    refine AW.seq ?_
    refine AW.region ?_
    refine AOps.run tok 3 _ _ _ _ rfl ?_
    refine AOps.nil ?_
    refine AW.seq ?_
    refine AW.seq ?_
    refine AW.region ?_
    refine AOps.run tok 1 _ _ _ _ rfl ?_
    refine AOps.call tok rfl rfl rfl rfl cC ?_
    refine AOps.run tok 1 _ _ _ _ rfl ?_
    refine AOps.nil ?_
    refine AW.seq ?_
    refine AW.region ?_
    refine AOps.run tok 1 _ _ _ _ rfl ?_
    refine AOps.err tok rfl rfl rfl rfl rfl ?_
    refine AOps.nil ?_
    refine AW.condT rfl ?_
    refine AW.seq ?_
    refine AW.region ?_
    refine AOps.run tok 3 _ _ _ _ rfl ?_
    refine AOps.nil ?_
    exact AW.ret rfl
  rw [hE] at cC
  rw [solT_ok hE]
  have hT := chkT_ok hE
  have hrows := gear_rows_ok x hw hE
  have hsz := rowsM_sz hw hk hT
  have hrect := rowsM_rect hT
  have hlen := rowsM_len hT
  have n1 := hT.n1
  have n2 := hT.n2
  obtain ⟨N, hN⟩ : ∃ N : Nat, x.n = N := ⟨x.n.toNat, by omega⟩
  rw [show x.n.toNat = N by omega] at hrect ⊢
  rw [hN] at n1 n2
  clear hT hE
  generalize hA : rowsM x = a0 at hrows hsz hrect hlen ⊢
  obtain ⟨n, ms, ps, gs⟩ := x
  dsimp only at hN
  subst hN
  rw [show outG N a0 = outO N (goG N (N + 1) 0 0 a0) by cases h : goG N (N + 1) 0 0 a0 <;> simp [outG, outO, h]]
  obtain ⟨G, hG⟩ : ∃ G, G = goG N (N + 1) 0 0 a0 := ⟨_, rfl⟩
  rw [← hG]
  refine AZ.aw ?_
  refine AZ.seq ?_
  refine AZ.reg (fun B1 F1 w1 => ?_)
  refine AOps.run tok 3 _ _ _ _ rfl ?_
  refine AOps.nil ⟨rfl, ?_⟩
  refine AZ.seq ?_
  refine AZ.seq ?_
  refine AZ.reg (fun B1 F1 w1 => ?_)
  refine AOps.run tok 1 _ _ _ _ rfl ?_
  refine AOps.call tok rfl rfl rfl rfl cC ?_
  refine AOps.run tok 1 _ _ _ _ rfl ?_
  refine AOps.nil ⟨rfl, ?_⟩
  refine AZ.seq ?_
  refine AZ.reg (fun B1 F1 w1 => ?_)
  refine AOps.run tok 1 _ _ _ _ rfl ?_
  refine AOps.err tok rfl rfl rfl rfl rfl ?_
  refine AOps.nil ⟨rfl, ?_⟩
  refine AZ.condF rfl ?_
  refine AZ.skip ?_
  refine AZ.seq ?_
  refine AZ.region ?_   -- rows
  refine AZOps.cut 1 rfl (fun B1 F1 w1 => ?_)
  refine AOps.run tok 1 _ _ _ _ rfl ?_
  refine AOps.nil ⟨rfl, ?_⟩
  refine AZOps.callz tok [] rfl rfl rfl rfl rfl List.nodup_nil rfl hrows (fun _ _ _ => Nat.zero_le _) (fun res R1 hP => ?_)
  obtain ⟨V0, Vs0, hV0, rfl, rfl⟩ := hP
  rw [show updR [] [] (LRs Vs0 a0 ++ [(V0, AV.ow 29 (VsD Vs0))]) = LRs Vs0 a0 ++ [(V0, AV.ow 29 (VsD Vs0))] from by cases LRs Vs0 a0 <;> rfl]
  refine AZOps.cut 1 rfl (fun B1 F1 w1 => ?_)
  refine AOps.run tok 1 _ _ _ _ rfl ?_
  refine AOps.nil ⟨rfl, ?_⟩
  refine AZOps.nil ?_
  refine AZ.to [1, 5] [(1, .bx [dI N, MshsD ms, PltsD ps, SpdsD gs]), (5, .d (.v V0))] rfl ?_
  refine AZ.adopt 5 (LRs Vs0 a0).length (V := V0) (av := AV.ow 29 (VsD Vs0)) (by rw [List.getElem?_append_right (Nat.le_refl _), Nat.sub_self]; rfl) rfl rfl ?_
  rw [show (LRs Vs0 a0 ++ [(V0, AV.ow 29 (VsD Vs0))]).set (LRs Vs0 a0).length (V0, AV.junk) = LRs Vs0 a0 ++ [(V0, AV.junk)] by simp]
  refine AZ.dropA ?_
  refine AZ.to [1, 5] [(1, .bx [dI N, MshsD ms, PltsD ps, SpdsD gs]), (5, .ow 29 (VsD Vs0))] rfl ?_
  refine AZ.seq ?_
  refine AZ.reg (fun B1 F1 w1 => ?_)
  refine AOps.run tok 3 _ _ _ _ rfl ?_
  refine AOps.nil ⟨rfl, ?_⟩
  refine AZ.seq ?_
  refine AZ.reg (fun B1 F1 w1 => ?_)
  refine AOps.run tok 1 _ _ _ _ rfl ?_
  refine AOps.nil ⟨rfl, ?_⟩
  refine AZ.cut [5, 6, 7] (fun s : List Value × Mt × Nat => (LRs s.1 s.2.1, [(5, .ow 29 (VsD s.1)), (6, .d (dI N)), (7, .d (dI s.2.2))]))
    (fun s => G = some (s.2.1, s.2.2) ∧ s.1.length = s.2.1.length ∧ s.2.1.length = a0.length ∧ Rect s.2.1 (N + 1) ∧ s.2.2 ≤ s.2.1.length) ?_ (fun s hs => ?_)
  · refine AZ.seq ?_
    refine AZ.reg (fun B1 F1 w1 => ?_)
    refine AOps.run tok 1 _ _ _ _ rfl ?_
    refine AOps.nil ⟨rfl, ?_⟩
    refine AZ.block ?_
    refine AZ.loopS [5, 6, 7, 8] (fun s : Nat × Nat × List Value × Mt => (LRs s.2.2.1 s.2.2.2, stK N s.2.2.1 s.2.1 s.1)) (fun s => MInv N a0 G s.1 s.2.1 s.2.2.1 s.2.2.2) (fun s => N + 1 - s.1) (0, 0, Vs0, a0) rfl
      ⟨Nat.zero_le _, Nat.zero_le _, Nat.zero_le _, Nat.zero_le _, hV0, rfl, hrect, hsz, hG⟩ (fun s hs => ?_)
    obtain ⟨k, d, Vs, a⟩ := s
    show AZ _ _ _ _ _ _ _ (LRs Vs a) (stK N Vs d k)
    have hs : MInv N a0 G k d Vs a := hs
    obtain ⟨i1, i2, i3, i4, i5, i6, i7, i8, i9⟩ := hs
    have hX : Xs d ≤ 720895 := by have := Xs_le (show d ≤ 16 by omega); rw [Xs_16] at this; exact this
    refine AZ.seq ?_
    refine AZ.seq ?_
    refine AZ.reg (fun B1 F1 w1 => ?_)
    refine AOps.run tok 4 _ _ _ _ rfl ?_
    refine AOps.split (t := 30) rfl (fun hkn => ?_) (fun hkn => ?_)
    rotate_left
    · refine AOps.run tok 5 _ _ _ _ rfl ?_
      refine AOps.nil ⟨rfl, ?_⟩
      refine AZ.condF rfl ?_
      have hkN : k = N + 1 := by have := of_decide_eq_false hkn; omega
      subst hkN
      rw [Nat.sub_self] at i9
      exact AZ.exit ⟨(Vs, a, d), rfl, i9, i5, i6, i7, i4⟩
    have hkN : k ≤ N := by have := of_decide_eq_true hkn; omega
    refine AOps.run tok 5 _ _ _ _ rfl ?_
    rw [List.length_map]
    refine AOps.nil ⟨rfl, ?_⟩
    refine AZ.cond rfl (fun h => ?_) (fun h => ?_)
    rotate_left
    · have hda : ¬ d < a.length := by have := of_decide_eq_false h; omega
      rw [show N + 1 - k = (N - k) + 1 by omega, goG, if_neg hda] at i9
      exact AZ.exit ⟨(Vs, a, d), rfl, i9, i5, i6, i7, i4⟩
    have hda : d < a.length := by have := of_decide_eq_true h; omega
    rw [show N + 1 - k = (N - k) + 1 by omega, goG, if_pos hda] at i9
    refine AZ.skip ?_
    refine AZ.seq ?_
    refine AZ.block ?_
    refine AZ.seq ?_
    refine AZ.reg (fun B1 F1 w1 => ?_)
    refine AOps.run tok 2 _ _ _ _ rfl ?_
    refine AOps.nil ⟨rfl, ?_⟩
    refine AZ.cut [5, 6, 7, 8, 9] (fun _ : Unit => (LRs Vs a, stK N Vs d k ++ [(9, .d (dI (atG a d k)))])) (fun _ => True) ?_ (fun _ _ => ?_)
    · refine AZ.block ?_
      refine AZ.loopS [5, 6, 7, 8, 9] (fun i : Nat => (LRs Vs a, stK N Vs d k ++ [(9, .d (dI i))])) (fun i => d ≤ i ∧ i ≤ a.length ∧ fstN (fun j => nz (fM a j k)) (a.length - i) i = atG a d k) (fun i => a.length - i) d rfl ⟨Nat.le_refl _, i4, rfl⟩ (fun i hi => ?_)
      show AZ _ _ _ _ _ _ _ (LRs Vs a) (stK N Vs d k ++ [(9, .d (dI i))])
      obtain ⟨j1, j2, j3⟩ := hi
      refine AZ.seq ?_
      refine AZ.seq ?_
      refine AZ.regS (fun B1 F1 w1 hS => ?_)
      refine AOps.run tok 5 _ _ _ _ rfl ?_
      rw [List.length_map]
      refine AOps.split (t := 43) rfl (fun h => ?_) (fun h => ?_)
      rotate_left
      · have hie : ¬ i < a.length := by have := of_decide_eq_false h; omega
        rw [fstN_end hie] at j3
        refine AOps.run tok 10 _ _ _ _ rfl ?_
        refine AOps.nil ⟨rfl, ?_⟩
        refine AZ.condF rfl ?_
        exact AZ.exit ⟨(), by rw [← j3]; rfl, trivial⟩
      have hia : i < a.length := by have := of_decide_eq_true h; omega
      have hS1 := hS.at (LRs_get (Vs := Vs) (by omega) hia) (by rw [List.length_map, i7.get hia]; omega)
      refine AOps.run tok 2 _ _ _ _ rfl ?_
      refine AOps.idxo tok rfl rfl rfl rfl (Int.natCast_nonneg i) (by rw [List.length_map]; omega) ?_
      refine AOps.loadel tok (.v (Vs.getD i undef)) rfl rfl rfl rfl (getVs (by omega)) rfl ?_
      refine AOps.run tok 1 _ _ _ _ rfl ?_
      refine AOps.idxs tok hS1 rfl rfl rfl rfl (Int.natCast_nonneg k) (by rw [List.length_map, i7.get hia]; omega) ?_
      refine AOps.loads tok (Qr (fM a i k)).D hS1 rfl rfl rfl rfl rfl rfl (getQ (by rw [i7.get hia]; omega)) rfl ?_
      refine AOps.call tok rfl rfl rfl rfl (fraction_Sign_ok (Qr (fM a i k)) (k := Xs d) (Qr_w _ (i8.lq i k)) (by omega)) ?_
      refine AOps.run tok 2 _ _ _ _ rfl ?_
      rw [Qr_val, sg_nz]
      refine AOps.nil ⟨rfl, ?_⟩
      refine AZ.cond rfl (fun h => ?_) (fun h => ?_)
      · refine AZ.skip ?_
        refine AZ.block ?_
        refine AZ.reg (fun B1 F1 w1 => ?_)
        refine AOps.run tok 3 _ _ _ _ rfl ?_
        rw [wI64 (x := (i : Int) + 1) (by omega) (by omega)]
        refine AOps.nil ⟨rfl, ?_⟩
        exact ⟨i + 1, rfl, ⟨by omega, hia, by rw [← fstN_step hia (by simpa using h)]; exact j3⟩, by omega⟩
      · rw [fstN_hit hia (by simpa using h)] at j3
        exact AZ.exit ⟨(), by rw [← j3]; rfl, trivial⟩
    show AZ _ _ _ _ _ _ _ (LRs Vs a) (stK N Vs d k ++ [(9, .d (dI (atG a d k)))])
    refine AZ.seq ?_
    refine AZ.seq ?_
    refine AZ.reg (fun B1 F1 w1 => ?_)
    refine AOps.run tok 4 _ _ _ _ rfl ?_
    rw [List.length_map]
    refine AOps.nil ⟨rfl, ?_⟩
    refine AZ.cond rfl (fun h => ?_) (fun h => ?_)
    · have hat : atG a d k = a.length := by have := of_decide_eq_true h; omega
      rw [if_pos hat] at i9
      refine AZ.seq ?_
      refine AZ.seq ?_
      refine AZ.reg (fun B1 F1 w1 => ?_)
      refine AOps.run tok 3 _ _ _ _ rfl ?_
      refine AOps.nil ⟨rfl, ?_⟩
      refine AZ.cond rfl (fun h => ?_) (fun h => ?_)
      · refine AZ.exit ?_
        refine AZ.reg (fun B1 F1 w1 => ?_)
        refine AOps.run tok 3 _ _ _ _ rfl ?_
        rw [wI64 (x := (k : Int) + 1) (by omega) (by omega)]
        refine AOps.nil ⟨rfl, ?_⟩
        exact ⟨(k + 1, d, Vs, a), rfl, (show MInv N a0 G (k + 1) d Vs a from ⟨by omega, by omega, i3, i4, i5, i6, i7, i8, by rw [show N + 1 - (k + 1) = N - k by omega]; exact i9⟩), by show N + 1 - (k + 1) < N + 1 - k; omega⟩
      · have hkN' : k = N := by have := of_decide_eq_false h; omega
        subst hkN'
        rw [Nat.sub_self] at i9
        refine AZ.skip ?_
        exact AZ.exit ⟨(Vs, a, d), rfl, i9, i5, i6, i7, i4⟩
    have hat : atG a d k ≠ a.length := by have := of_decide_eq_false h; omega
    rw [if_neg hat] at i9
    obtain ⟨_, t1, t2, t3, t4⟩ := swG_nz i4 i7 hat
    refine AZ.skip ?_
    refine AZ.seq ?_
    refine AZ.seq ?_
    refine AZ.reg (fun B1 F1 w1 => ?_)
    refine AOps.run tok 3 _ _ _ _ rfl ?_
    refine AOps.nil ⟨rfl, ?_⟩
    refine AZ.cond rfl (fun h => ?_) (fun h => ?_)
    · have hkN' : k = N := by have := of_decide_eq_true h; omega
      rw [if_pos hkN'] at i9
      rw [show outO N G = .over by rw [i9]; rfl]
      refine AZ.seq ?_
      refine AZ.reg (fun B1 F1 w1 => ?_)
      refine AOps.run tok 3 _ _ _ _ rfl ?_
      refine AOps.nil ⟨rfl, ?_⟩
      exact AZ.ret rfl
    have hkN' : k < N := by have := of_decide_eq_false h; omega
    rw [if_neg (by omega)] at i9
    refine AZ.skip ?_
    refine AZ.seq ?_
    refine AZ.frame (fun B1 F1 w1 => AW.any hmix (AAny.early 2 (by kernel_rfl) (fun _ _ h => h.2) (AAny.front 2 rfl (AAny.draw3 tok [(3, true), (1, false), (9, true)] 13 [5] (by kernel_rfl) ⟨rfl, ?_⟩))))
    refine APre.run tok 3 _ _ _ _ rfl ?_
    refine APre.nil ⟨rfl, ?_⟩
    refine APre.run tok 1 _ _ _ _ rfl ?_
    refine APre.nil ⟨rfl, ?_⟩
    refine APre.run tok 2 _ _ _ _ rfl ?_
    refine APre.idxo tok rfl rfl rfl rfl rfl rfl (Int.natCast_nonneg _) (by rw [List.length_map]; omega) ?_
    refine APre.loadel tok (.v (Vs.getD (atG a d k) undef)) rfl rfl rfl rfl rfl (getVs (by omega)) rfl ?_
    refine APre.run tok 2 _ _ _ _ rfl ?_
    refine APre.idxo tok rfl rfl rfl rfl rfl rfl (Int.natCast_nonneg _) (by rw [List.length_map]; omega) ?_
    refine APre.loadel tok (.v (Vs.getD d undef)) rfl rfl rfl rfl rfl (getVs (by omega)) rfl ?_
    refine APre.idxo tok rfl rfl rfl rfl rfl rfl (Int.natCast_nonneg _) (by rw [List.length_map]; omega) ?_
    refine APre.nil ⟨_, StL.cons (StOk.elVs (Vs.getD (atG a d k) undef) rfl (by omega)) StL.nil, ?_⟩
    refine AOps.idxo tok rfl rfl rfl rfl (Int.natCast_nonneg _) (by rw [List.length_map, List.length_set]; omega) ?_
    refine AOps.storeVs tok (Vs.getD d undef) rfl rfl rfl (by rw [List.length_set]; omega) ?_
    refine AOps.nil ⟨rfl, ?_⟩
    refine AZ.to [5, 6, 7, 8] (stK N (swV Vs d (atG a d k)) d k) rfl ?_
    refine AZ.swapR d (atG a d k) (LRs_get (by omega) hda) (LRs_get (by omega) t2) ?_
    rw [LRs_swap i5 hda t2]
    obtain ⟨s1, s2, _⟩ := swG_spec hda t2 i7
    have s4 := swG_sz hda t2 i7 i8
    have p1 := pivG_spec hda t2 i7 t4
    have p2 := pivG_sz hda t2 i7 t4 i8
    have hpv : pivG a d k (atG a d k) = clrG ((swG a d (atG a d k)).set d (divR ((swG a d (atG a d k)).getD d []) (fM (swG a d (atG a d k)) d k))) d k ((swG a d (atG a d k)).set d (divR ((swG a d (atG a d k)).getD d []) (fM (swG a d (atG a d k)) d k))).length := rfl
    have hWl := swV_len Vs d (atG a d k)
    rw [hpv] at p1 p2 i9
    generalize swG a d (atG a d k) = b at *
    generalize swV Vs d (atG a d k) = Ws at *
    have hdb : d < b.length := by omega
    have hrl : (b.getD d []).length = N + 1 := s2.get hdb
    obtain ⟨f, hf⟩ : ∃ f, fM b d k = f := ⟨_, rfl⟩
    obtain ⟨r, hr⟩ : ∃ r, b.getD d [] = r := ⟨_, rfl⟩
    have hfr : r.getD k 0 = f := by rw [← hf, ← hr]; rfl
    have hfs : LQ f ≤ Xs d := by rw [← hf]; exact s4.lq d k
    have hrs : ∀ c, LQ (r.getD c 0) ≤ Xs d := fun c => by rw [← hr]; exact s4.lq d c
    have hb0 : LRs Ws b = LRs Ws (b.set d r) := by rw [← hr, set_own hdb]
    have hgd : ∀ q : List Rat, (LRs Ws (b.set d q))[d]? = some (Ws.getD d undef, AV.ow 41 (QsD q)) := fun q => by
      rw [LRs_get (by omega) (by rw [List.length_set]; omega)]; simp [hdb]
    have e1 : (b.set d (divR r f)).length = b.length := List.length_set
    have e2 : Rect (b.set d (divR r f)) (N + 1) := s2.set (by unfold divR; rw [List.length_map, ← hr]; exact hrl)
    have e3 : SzM (Xs d) (fM (b.set d (divR r f))) := by have := scale_sz hdb s4 t4; rw [hf, hr] at this; exact this
    have e4 : fM (b.set d (divR r f)) d k = 1 := by have := scale_f (k := k) hdb d k; rw [if_pos rfl, hf, hr] at this; rw [this]; exact div_own (by rw [← hf]; exact t4)
    rw [hf] at t4
    rw [hf, hr] at p1 p2 i9
    rw [hr] at hrl
    rw [hb0]
    refine AZ.seq ?_
    refine AZ.regS (fun B1 F1 w1 hS => ?_)
    refine AOps.run tok 2 _ _ _ _ rfl ?_
    refine AOps.idxo tok rfl rfl rfl rfl (Int.natCast_nonneg _) (by rw [List.length_map]; omega) ?_
    refine AOps.loadel tok (.v (Ws.getD d undef)) rfl rfl rfl rfl (getVs (by omega)) rfl ?_
    refine AOps.run tok 1 _ _ _ _ rfl ?_
    refine AOps.idxs tok (hS.at (hgd r) (by rw [List.length_map]; omega)) rfl rfl rfl rfl (Int.natCast_nonneg k) (by rw [List.length_map]; omega) ?_
    refine AOps.loads tok (Qr (r.getD k 0)).D (hS.at (hgd r) (by rw [List.length_map]; omega)) rfl rfl rfl rfl rfl rfl (getQ (by omega)) rfl ?_
    rw [hfr]
    refine AOps.run tok 2 _ _ _ _ rfl ?_
    refine AOps.nil ⟨rfl, ?_⟩
    refine AZ.seq ?_
    refine AZ.seq ?_
    refine AZ.regS (fun B1 F1 w1 hS => ?_)
    refine AOps.run tok 2 _ _ _ _ rfl ?_
    refine AOps.idxo tok rfl rfl rfl rfl (Int.natCast_nonneg _) (by rw [List.length_map]; omega) ?_
    refine AOps.loadel tok (.v (Ws.getD d undef)) rfl rfl rfl rfl (getVs (by omega)) rfl ?_
    refine AOps.lens tok (hS.at (hgd r) (by rw [List.length_map]; omega)) rfl rfl rfl rfl ?_
    rw [List.length_map, hrl]
    refine AOps.run tok 1 _ _ _ _ rfl ?_
    refine AOps.nil ⟨rfl, ?_⟩
    refine AZ.block ?_
    refine AZ.loopS [5, 6, 7, 8, 10, 92, 93] (fun j : Nat => (LRs Ws (b.set d (divP r f j)), stK N Ws d k ++ [(10, .bx (Qr f).D.flat), (92, .d (dI ((N + 1 : Nat) : Int))), (93, .d (dI j))])) (fun j => j ≤ N + 1) (fun j => N + 1 - j) 0
      (by rw [divP_zero]; rfl) (Nat.zero_le _) (fun j hj => ?_)
    show AZ _ _ _ _ _ _ _ (LRs Ws (b.set d (divP r f j))) (stK N Ws d k ++ [(10, .bx (Qr f).D.flat), (92, .d (dI ((N + 1 : Nat) : Int))), (93, .d (dI j))])
    refine AZ.seq ?_
    refine AZ.reg (fun B1 F1 w1 => ?_)
    refine AOps.run tok 1 _ _ _ _ rfl ?_
    refine AOps.nil ⟨rfl, ?_⟩
    refine AZ.seq ?_
    refine AZ.cond rfl (fun h => ?_) (fun h => ?_)
    · have hjn : j < N + 1 := by have := of_decide_eq_true h; omega
      have hpl := divP_len r f (j := j) (by omega)
      have hpg := divP_get r f (j := j) (by omega)
      have hps := divP_set r f (j := j) (by omega)
      have hrj := hrs j
      refine AZ.skip ?_
      refine AZ.seq ?_
      refine AZ.block ?_
      refine AZ.seq ?_
      refine AZ.reg (fun B1 F1 w1 => ?_)
      refine AOps.run tok 2 _ _ _ _ rfl ?_
      refine AOps.nil ⟨rfl, ?_⟩
      refine AZ.seq ?_
      refine AZ.frameS (fun B1 F1 w1 hS => AW.draw3 tok hmix [(11, true), (1, false), (1, true)] 13 [12] (by kernel_rfl) ⟨rfl, ?_⟩)
      have hS1 := hS.at (hgd (divP r f j)) (by rw [List.length_map]; omega)
      refine APre.run tok 2 _ _ _ _ rfl ?_
      refine APre.idxo tok rfl rfl rfl rfl rfl rfl (Int.natCast_nonneg _) (by rw [List.length_map]; omega) ?_
      refine APre.loadel tok (.v (Ws.getD d undef)) rfl rfl rfl rfl rfl (getVs (by omega)) rfl ?_
      refine APre.run tok 1 _ _ _ _ rfl ?_
      refine APre.idxs tok hS1 rfl rfl rfl rfl rfl (Int.natCast_nonneg j) (by rw [List.length_map]; omega) ?_
      refine APre.loads tok (Qr ((divP r f j).getD j 0)).D hS1 rfl rfl rfl rfl rfl rfl rfl (getQ (by omega)) rfl ?_
      rw [hpg]
      refine APre.run tok 1 _ _ _ _ rfl ?_
      refine APre.call tok rfl rfl rfl rfl rfl (fraction_Div_ok (Qr (r.getD j 0)) (Qr f) (k := Xs d) (Qr_w _ hrj) (Qr_w _ hfs) (by omega) (by rw [Qr_val]; exact t4)) ?_
      rw [Qr_val, Qr_val]
      refine APre.run tok 2 _ _ _ _ rfl ?_
      refine APre.nil ⟨rfl, ?_⟩
      refine APre.run tok 1 _ _ _ _ rfl ?_
      refine APre.nil ⟨rfl, ?_⟩
      refine APre.run tok 1 _ _ _ _ rfl ?_
      refine APre.nil ⟨_, StL.cons (.bx rfl) (StL.nil), ?_⟩
      refine AOps.run tok 1 _ _ _ _ rfl ?_
      refine AOps.nil ⟨rfl, ?_⟩
      refine AZ.to [5, 6, 7, 8, 10, 11, 12, 13, 92, 93] [(5, .ow 29 (VsD Ws)), (6, .d (dI N)), (7, .d (dI d)), (8, .d (dI k)), (10, .bx (Qr f).D.flat), (11, .d (dI j)), (12, .bx (Qr (r.getD j 0 / f)).D.flat), (13, .d nilE), (92, .d (dI ((N + 1 : Nat) : Int))), (93, .d (dI j))] rfl ?_
      refine AZ.seq ?_
      refine AZ.seq ?_
      refine AZ.reg (fun B1 F1 w1 => ?_)
      refine AOps.run tok 1 _ _ _ _ rfl ?_
      refine AOps.err tok rfl rfl rfl rfl rfl ?_
      refine AOps.nil ⟨rfl, ?_⟩
      refine AZ.condF rfl ?_
      refine AZ.skip ?_
      refine AZ.any hmix (ZAny.drawS 7 (by kernel_rfl) (fun B1 F1 w1 hS => ?_))
      have hS1 := hS.at (hgd (divP r f j)) (by rw [List.length_map]; omega)
      refine APre.run tok 2 _ _ _ _ rfl ?_
      refine APre.idxo tok rfl rfl rfl rfl rfl rfl (Int.natCast_nonneg _) (by rw [List.length_map]; omega) ?_
      refine APre.loadel tok (.v (Ws.getD d undef)) rfl rfl rfl rfl rfl (getVs (by omega)) rfl ?_
      refine APre.run tok 2 _ _ _ _ rfl ?_
      refine APre.idxs tok hS1 rfl rfl rfl rfl rfl (Int.natCast_nonneg j) (by rw [List.length_map]; omega) ?_
      refine APre.nil ⟨rfl, ?_⟩
      refine AZOps.to [114, 117, 116, 5, 6, 7, 8, 10, 92, 93] [(114, .d (.v (Ws.getD d undef))), (117, .d (.v (ptrV (Ws.getD d undef) (j * 3)))), (116, .d (Qr (r.getD j 0 / f)).D), (5, .ow 29 (VsD Ws)), (6, .d (dI N)), (7, .d (dI d)), (8, .d (dI k)), (10, .bx (Qr f).D.flat), (92, .d (dI ((N + 1 : Nat) : Int))), (93, .d (dI j))] rfl ?_
      refine AZOps.adopt 114 d (hgd (divP r f j)) rfl rfl ?_
      refine AZOps.el tok 114 117 rfl (List.Mem.head _) rfl rfl rfl (by rw [List.length_map]; omega) rfl ?_
      refine AZOps.cut 1 rfl (fun B1 F1 w1 => ?_)
      refine AOps.storeQ tok (r.getD j 0 / f) rfl rfl rfl (by omega) ?_
      rw [hps]
      refine AOps.nil ⟨rfl, ?_⟩
      refine AZOps.back 114 d rfl rfl rfl (List.Mem.head _) (List.getElem?_set_self (List.getElem?_eq_some_iff.1 (hgd (divP r f j))).1) ?_
      refine AZOps.convR (R' := LRs Ws (b.set d (divP r f (j + 1)))) (by rw [List.set_set, LRs_set (by omega), set_set]) ?_
      refine AZOps.nil ?_
      refine AZ.reg (fun B1 F1 w1 => ?_)
      refine AOps.run tok 2 _ _ _ _ rfl ?_
      rw [wI64 (x := (j : Int) + 1) (by omega) (by omega)]
      refine AOps.nil ⟨rfl, ?_⟩
      exact ⟨j + 1, rfl, hjn, by omega⟩
    have hjn : j = N + 1 := by have := of_decide_eq_false h; omega
    subst hjn
    rw [show divP r f (N + 1) = divR r f by rw [← hrl]; exact divP_all r f]
    refine AZ.exit ?_
    generalize b.set d (divR r f) = e at *
    have hWe : Ws.length = e.length := by omega
    refine AZ.seq ?_
    refine AZ.seq ?_
    refine AZ.reg (fun B1 F1 w1 => ?_)
    refine AOps.run tok 3 _ _ _ _ rfl ?_
    rw [List.length_map, hWe]
    refine AOps.nil ⟨rfl, ?_⟩
    refine AZ.block ?_
    refine AZ.loopS [5, 6, 7, 8, 120, 121] (fun i : Nat => (LRs Ws (clrG e d k i), stK N Ws d k ++ [(120, .d (dI e.length)), (121, .d (dI i))])) (fun i => i ≤ e.length) (fun i => e.length - i) 0 rfl (Nat.zero_le _) (fun i hi => ?_)
    show AZ _ _ _ _ _ _ _ (LRs Ws (clrG e d k i)) (stK N Ws d k ++ [(120, .d (dI e.length)), (121, .d (dI i))])
    refine AZ.seq ?_
    refine AZ.reg (fun B1 F1 w1 => ?_)
    refine AOps.run tok 1 _ _ _ _ rfl ?_
    refine AOps.nil ⟨rfl, ?_⟩
    refine AZ.seq ?_
    have hde : d < e.length := by omega
    refine AZ.cond rfl (fun h => ?_) (fun h => ?_)
    · have hie : i < e.length := by have := of_decide_eq_true h; omega
      obtain ⟨c1, c2, _, _⟩ := clrG_spec hde e2 e4 (i := i) (by omega)
      have c5 := clrG_sz hde e2 e4 e3 (i := i) (by omega)
      have c6 : clrG e d k (i + 1) = if i ≠ d ∧ fM (clrG e d k i) i k ≠ 0 then (clrG e d k i).set i (lessR ((clrG e d k i).getD i []) ((clrG e d k i).getD d []) (fM (clrG e d k i) i k)) else clrG e d k i := rfl
      generalize clrG e d k i = c at *
      have hci : (c.getD i []).length = N + 1 := c2.get (by omega)
      have hcd : (c.getD d []).length = N + 1 := c2.get (by omega)
      have hgi := LRs_get (Vs := Ws) (a := c) (j := i) (by omega) (by omega)
      have hgdd := LRs_get (Vs := Ws) (a := c) (j := d) (by omega) (by omega)
      refine AZ.skip ?_
      refine AZ.seq ?_
      refine AZ.block ?_
      refine AZ.seq ?_
      refine AZ.reg (fun B1 F1 w1 => ?_)
      refine AOps.run tok 2 _ _ _ _ rfl ?_
      refine AOps.nil ⟨rfl, ?_⟩
      refine AZ.seq ?_
      refine AZ.regS (fun B1 F1 w1 hS => ?_)
      refine AOps.run tok 4 _ _ _ _ rfl ?_
      refine AOps.split (t := 127) rfl (fun hid => ?_) (fun hid => ?_)
      rotate_left
      · have hid : i = d := by have := hid; simp at this; omega
        rw [if_neg (by rw [hid]; simp)] at c6
        refine AOps.run tok 10 _ _ _ _ rfl ?_
        refine AOps.nil ⟨rfl, ?_⟩
        refine AZ.condF rfl ?_
        refine AZ.skip ?_
        refine AZ.reg (fun B1 F1 w1 => ?_)
        refine AOps.run tok 2 _ _ _ _ rfl ?_
        rw [wI64 (x := (i : Int) + 1) (by omega) (by omega)]
        refine AOps.nil ⟨rfl, ?_⟩
        exact ⟨i + 1, Prod.ext (show LRs Ws c = LRs Ws (clrG e d k (i + 1)) by rw [c6]) rfl, hie, by omega⟩
      have hid : i ≠ d := by have := hid; simp at this; omega
      have hS1 := hS.at hgi (by rw [List.length_map]; omega)
      refine AOps.run tok 2 _ _ _ _ rfl ?_
      refine AOps.idxo tok rfl rfl rfl rfl (Int.natCast_nonneg i) (by rw [List.length_map]; omega) ?_
      refine AOps.loadel tok (.v (Ws.getD i undef)) rfl rfl rfl rfl (getVs (by omega)) rfl ?_
      refine AOps.run tok 1 _ _ _ _ rfl ?_
      refine AOps.idxs tok hS1 rfl rfl rfl rfl (Int.natCast_nonneg k) (by rw [List.length_map]; omega) ?_
      refine AOps.loads tok (Qr (fM c i k)).D hS1 rfl rfl rfl rfl rfl rfl (getQ (by omega)) rfl ?_
      refine AOps.call tok rfl rfl rfl rfl (fraction_Sign_ok (Qr (fM c i k)) (k := 2 * Xs d + 1) (Qr_w _ (c5.lq i k)) (by omega)) ?_
      refine AOps.run tok 2 _ _ _ _ rfl ?_
      rw [Qr_val]
      refine AOps.nil ⟨rfl, ?_⟩
      refine AZ.cond rfl (fun h => ?_) (fun h => ?_)
      rotate_left
      · have hz : ¬ (i ≠ d ∧ fM c i k ≠ 0) := fun g => by have h2 := h; simp at h2; exact g.2 (sgI0.1 h2)
        rw [if_neg hz] at c6
        refine AZ.skip ?_
        refine AZ.reg (fun B1 F1 w1 => ?_)
        refine AOps.run tok 2 _ _ _ _ rfl ?_
        rw [wI64 (x := (i : Int) + 1) (by omega) (by omega)]
        refine AOps.nil ⟨rfl, ?_⟩
        exact ⟨i + 1, Prod.ext (show LRs Ws c = LRs Ws (clrG e d k (i + 1)) by rw [c6]) rfl, hie, by omega⟩
      have hz : i ≠ d ∧ fM c i k ≠ 0 := ⟨hid, fun g => by have h2 := h; simp at h2; exact h2 (sgI0.2 g)⟩
      rw [if_pos hz] at c6
      refine AZ.any hmix (ZAny.drawS 15 (by kernel_rfl) (fun B1 F1 w1 hS => ?_))
      have hS1 := hS.at hgi (by rw [List.length_map]; omega)
      refine APre.run tok 2 _ _ _ _ rfl ?_
      refine APre.idxo tok rfl rfl rfl rfl rfl rfl (Int.natCast_nonneg i) (by rw [List.length_map]; omega) ?_
      refine APre.loadel tok (.v (Ws.getD i undef)) rfl rfl rfl rfl rfl (getVs (by omega)) rfl ?_
      refine APre.run tok 2 _ _ _ _ rfl ?_
      refine APre.idxo tok rfl rfl rfl rfl rfl rfl (Int.natCast_nonneg d) (by rw [List.length_map]; omega) ?_
      refine APre.loadel tok (.v (Ws.getD d undef)) rfl rfl rfl rfl rfl (getVs (by omega)) rfl ?_
      refine APre.run tok 2 _ _ _ _ rfl ?_
      refine APre.idxo tok rfl rfl rfl rfl rfl rfl (Int.natCast_nonneg i) (by rw [List.length_map]; omega) ?_
      refine APre.loadel tok (.v (Ws.getD i undef)) rfl rfl rfl rfl rfl (getVs (by omega)) rfl ?_
      refine APre.run tok 1 _ _ _ _ rfl ?_
      refine APre.idxs tok hS1 rfl rfl rfl rfl rfl (Int.natCast_nonneg k) (by rw [List.length_map]; omega) ?_
      refine APre.loads tok (Qr (fM c i k)).D hS1 rfl rfl rfl rfl rfl rfl rfl (getQ (by omega)) rfl ?_
      refine APre.nil ⟨rfl, ?_⟩
      refine AZOps.to [141, 145, 152, 5, 6, 7, 8, 120, 121] [(141, .d (.v (Ws.getD i undef))), (145, .d (.v (Ws.getD d undef))), (152, .d (Qr (fM c i k)).D), (5, .ow 29 (VsD Ws)), (6, .d (dI N)), (7, .d (dI d)), (8, .d (dI k)), (120, .d (dI e.length)), (121, .d (dI i))] rfl ?_
      refine AZOps.callz tok [i, d] rfl rfl rfl rfl (sel2 hgi hgdd) (by simp [hid]) rfl (gear_less_ok _ _ (c.getD i []) (c.getD d []) (fM c i k) (k := 2 * Xs d + 1) (by omega) (fun u => c5.lq i u) (fun u => c5.lq d u) (c5.lq i k) (by omega) (by omega) (by omega)) (fun res R1 hP => by rw [hP.2]; exact Nat.le_refl _) (fun res R1 hP => ?_)
      obtain ⟨rfl, rfl⟩ := hP
      refine AZOps.convR (R' := LRs Ws (c.set i (lessR (c.getD i []) (c.getD d []) (fM c i k)))) (by
        show ((LRs Ws c).set i _).set d _ ++ [] = _
        rw [List.append_nil, LRs_less (by omega) (by omega) (by omega) hid]) ?_
      refine AZOps.nil ?_
      refine AZ.reg (fun B1 F1 w1 => ?_)
      refine AOps.run tok 2 _ _ _ _ rfl ?_
      rw [wI64 (x := (i : Int) + 1) (by omega) (by omega)]
      refine AOps.nil ⟨rfl, ?_⟩
      exact ⟨i + 1, Prod.ext (show LRs Ws (c.set i (lessR (c.getD i []) (c.getD d []) (fM c i k))) = LRs Ws (clrG e d k (i + 1)) by rw [c6]) rfl, hie, by omega⟩
    have hie : i = e.length := by have := of_decide_eq_false h; omega
    subst hie
    refine AZ.exit ?_
    refine AZ.reg (fun B1 F1 w1 => ?_)
    refine AOps.run tok 3 _ _ _ _ rfl ?_
    rw [wI64 (x := (d : Int) + 1) (by omega) (by omega)]
    refine AOps.nil ⟨rfl, ?_⟩
    refine AZ.reg (fun B1 F1 w1 => ?_)
    refine AOps.run tok 3 _ _ _ _ rfl ?_
    rw [wI64 (x := (k : Int) + 1) (by omega) (by omega)]
    refine AOps.nil ⟨rfl, ?_⟩
    exact ⟨(k + 1, d + 1, Ws, clrG e d k e.length), rfl, (show MInv N a0 G (k + 1) (d + 1) Ws (clrG e d k e.length) from ⟨by omega, by omega, by omega, by rw [p1.1]; omega, by rw [p1.1]; omega, by rw [p1.1]; exact i6, p1.2.1, p2, by rw [show N + 1 - (k + 1) = N - k by omega]; exact i9⟩), by show N + 1 - (k + 1) < N + 1 - k; omega⟩
  obtain ⟨Vs, a, d⟩ := s
  obtain ⟨g1, g2, g3, g4, g5⟩ := hs
  dsimp only at g1 g2 g3 g4 g5
  show AZ _ _ _ _ _ _ _ (LRs Vs a) [(5, .ow 29 (VsD Vs)), (6, .d (dI N)), (7, .d (dI d))]
  rw [show outO N G = if d < N then .free else .val ((a.take N).map (fun r => r.getD N 0)) by rw [g1]; rfl]
  refine AZ.seq ?_
  refine AZ.seq ?_
  refine AZ.reg (fun B1 F1 w1 => ?_)
  refine AOps.run tok 3 _ _ _ _ rfl ?_
  refine AOps.nil ⟨rfl, ?_⟩
  refine AZ.cond rfl (fun h => ?_) (fun h => ?_)
  · rw [if_pos (by have := of_decide_eq_true h; omega)]
    refine AZ.seq ?_
    refine AZ.reg (fun B1 F1 w1 => ?_)
    refine AOps.run tok 3 _ _ _ _ rfl ?_
    refine AOps.nil ⟨rfl, ?_⟩
    exact AZ.ret rfl
  have hNd : N ≤ d := by have := of_decide_eq_false h; omega
  rw [if_neg (by omega)]
  refine AZ.skip ?_
  refine AZ.seq ?_
  refine AZ.reg (fun B1 F1 w1 => ?_)
  refine AOps.frz tok 5 rfl rfl ?_
  refine AOps.run tok 1 _ _ _ _ rfl ?_
  refine AOps.nil ⟨rfl, ?_⟩
  refine AZ.seq ?_
  refine AZ.seq ?_
  refine AZ.reg (fun B1 F1 w1 => ?_)
  refine AOps.run tok 2 _ _ _ _ rfl ?_
  refine AOps.slc tok rfl rfl rfl rfl trivial (Int.natCast_nonneg N) (Nat.zero_le _) (by show N ≤ _; rw [List.length_map]; omega) ?_
  refine AOps.run tok 2 _ _ _ _ rfl ?_
  rw [slcLen (by rw [List.length_map]; omega)]
  refine AOps.nil ⟨rfl, ?_⟩
  refine AZ.block ?_
  refine AZ.loopS [6, 15, 163, 164, 165] (fun j : Nat => (LRs Vs a, [(6, .d (dI N)), (15, .ow 41 (QsD ((a.take j).map (fun r => r.getD N 0)))), (163, .d (.sl 1 ((VsD Vs).take N))), (164, .d (dI N)), (165, .d (dI j))])) (fun j => j ≤ N) (fun j => N - j) 0 rfl (Nat.zero_le _) (fun j hj => ?_)
  show AZ _ _ _ _ _ _ _ (LRs Vs a) [(6, .d (dI N)), (15, .ow 41 (QsD ((a.take j).map (fun r => r.getD N 0)))), (163, .d (.sl 1 ((VsD Vs).take N))), (164, .d (dI N)), (165, .d (dI j))]
  refine AZ.seq ?_
  refine AZ.reg (fun B1 F1 w1 => ?_)
  refine AOps.run tok 1 _ _ _ _ rfl ?_
  refine AOps.nil ⟨rfl, ?_⟩
  refine AZ.seq ?_
  refine AZ.cond rfl (fun h => ?_) (fun h => ?_)
  · have hjn : j < N := by have := of_decide_eq_true h; omega
    have hja : j < a.length := by omega
    have hgj := LRs_get (Vs := Vs) (a := a) (j := j) (by omega) hja
    have hlj : (a.getD j []).length = N + 1 := g4.get hja
    refine AZ.skip ?_
    refine AZ.seq ?_
    refine AZ.block ?_
    refine AZ.seq ?_
    refine AZ.reg (fun B1 F1 w1 => ?_)
    refine AOps.idx tok (.v (Vs.getD j undef)) rfl rfl rfl rfl (Int.natCast_nonneg j) (by rw [Int.toNat_natCast, List.getElem?_take_of_lt hjn]; exact getVs (by omega)) ?_
    refine AOps.run tok 2 _ _ _ _ rfl ?_
    refine AOps.nil ⟨rfl, ?_⟩
    refine AZ.regS (fun B1 F1 w1 hS => ?_)
    have hS1 := hS.at hgj (by rw [List.length_map]; omega)
    refine AOps.run tok 3 _ _ _ _ rfl ?_
    refine AOps.idxs tok hS1 rfl rfl rfl rfl (Int.natCast_nonneg N) (by rw [List.length_map]; omega) ?_
    refine AOps.loads tok (Qr ((a.getD j []).getD N 0)).D hS1 rfl rfl rfl rfl rfl rfl (getQ (by omega)) rfl ?_
    refine AOps.bs tok rfl rfl rfl rfl ?_
    refine AOps.appo tok rfl rfl rfl rfl rfl rfl (by show ((QsD ((a.take j).map (fun r => r.getD N 0))).length + 1) * 56 ≤ _; rw [List.length_map, List.length_map, List.length_take]; omega) (by show (QsD ((a.take j).map (fun r => r.getD N 0))).length + 1 ≤ _; rw [List.length_map, List.length_map, List.length_take]; omega) ?_
    refine AOps.run tok 1 _ _ _ _ rfl ?_
    refine AOps.nil ⟨rfl, ?_⟩
    refine AZ.reg (fun B1 F1 w1 => ?_)
    refine AOps.run tok 2 _ _ _ _ rfl ?_
    rw [wI64 (x := (j : Int) + 1) (by omega) (by omega)]
    refine AOps.nil ⟨rfl, ?_⟩
    refine ⟨j + 1, Prod.ext rfl ?_, hjn, by omega⟩
    show _ = [(6, AV.d (dI N)), (15, .ow 41 (QsD ((a.take (j + 1)).map (fun r => r.getD N 0)))), (163, .d (.sl 1 ((VsD Vs).take N))), (164, .d (dI N)), (165, .d (dI ((j + 1 : Nat) : Int)))]
    rw [show QsD ((a.take (j + 1)).map (fun r => r.getD N 0)) = QsD ((a.take j).map (fun r => r.getD N 0)) ++ [(Qr ((a.getD j []).getD N 0)).D] by rw [take_snoc a hja, show a.getD j default = a.getD j [] from rfl, List.map_append, QsD, List.map_append]; rfl]
    rfl
  have hjn : j = N := by have := of_decide_eq_false h; omega
  subst hjn
  refine AZ.exit ?_
  refine AZ.seq ?_
  refine AZ.reg (fun B1 F1 w1 => ?_)
  refine AOps.run tok 3 _ _ _ _ rfl ?_
  refine AOps.nil ⟨rfl, ?_⟩
  exact AZ.ret rfl
end Lift
/- Turns. -/
namespace Lift
open Go Go.Proofs

structure TD where
  t : RD
  h : Bool
abbrev TD.D (a : TD) : D := .ag [dB a.t.g, Wd a.t.n, Wd a.t.d, dB a.h]
def TD.okB (a : TD) : Bool := a.t.okB && (!a.h || decide (a.t.val = 0))
def TD.val (a : TD) : Option Rat := if a.h = true then none else some a.t.val
/-- The one form of a turn. -/
def TQ : Option Rat → TD
  | none => ⟨Qr 0, true⟩
  | some q => ⟨Qr q, false⟩
theorem TD.canon {a : TD} {k : Nat} (hw : a.t.w k) (h : a.okB = true) : a = TQ a.val := by
  obtain ⟨t, b⟩ := a
  unfold TD.okB at h
  rw [Bool.and_eq_true] at h
  have ht := RD.canon hw h.1
  cases b with
  | true =>
    have h0 : t.val = 0 := by simpa using h.2
    show TD.mk t true = TD.mk (Qr 0) true
    have ht : t = Qr t.val := ht
    rw [h0] at ht
    rw [ht]
  | false =>
    show TD.mk t false = TD.mk (Qr t.val) false
    have ht : t = Qr t.val := ht
    rw [← ht]
def szT : Option Rat → Nat
  | none => 1
  | some q => LQ q
theorem szT_w (a : Option Rat) {k : Nat} (h : szT a ≤ k) : (TQ a).t.w k := by
  cases a with
  | none => exact Qr_w _ (by rw [LQ_zero]; exact h)
  | some q => exact Qr_w _ h
theorem LQ_m1 : LQ (-1) ≤ 1 := by
  have h := LQ_of 1
  rw [L_one, show ((1 : Int) : Rat) = 1 from rfl] at h
  rw [LQ_neg]
  omega
theorem LQ_one : LQ 1 ≤ 1 := by
  have h := LQ_of 1
  rw [L_one, show ((1 : Int) : Rat) = 1 from rfl] at h
  omega
theorem LQ_over1 {y : Rat} (hy : ¬ y = 0) : LQ (-1 / y) ≤ 1 + LQ y := by
  have := LQ_div (r := -1) hy
  have := LQ_m1
  omega
theorem szT_add (a b : Option Rat) : szT (addT a b) ≤ 2 * (szT a + szT b) + 3 := by
  have z0 := LQ_zero
  have z1 := LQ_one
  cases a with
  | none =>
    cases b with
    | none => show LQ 0 ≤ _; omega
    | some y =>
      show szT (if y = 0 then none else some (-1 / y)) ≤ 2 * (1 + LQ y) + 3
      split
      · show 1 ≤ _; omega
      · rename_i hy
        have := LQ_over1 hy
        show LQ (-1 / y) ≤ _
        omega
  | some x =>
    cases b with
    | none =>
      show szT (if x = 0 then none else some (-1 / x)) ≤ 2 * (LQ x + 1) + 3
      split
      · show 1 ≤ _; omega
      · rename_i hy
        have := LQ_over1 hy
        show LQ (-1 / x) ≤ _
        omega
    | some y =>
      show szT (if 1 - x * y = 0 then none else some ((x + y) / (1 - x * y))) ≤ 2 * (LQ x + LQ y) + 3
      split
      · show 1 ≤ _; omega
      · rename_i hy
        have h1 := LQ_div (r := x + y) hy
        have h2 := LQ_add x y
        have h3 := LQ_sub 1 (x * y)
        have h4 := LQ_mul x y
        show LQ ((x + y) / (1 - x * y)) ≤ _
        omega
theorem turn_Check_ok (a : TD) {k : Nat} (hw : a.t.w k) (hk : k ≤ 20000000) : Pure Tryz.prog 42 [a.D] (erV (if a.okB = true then 0 else 2)) := by
  refine Pure.intro (n := 18) tok Tryz.func42 rfl rfl rfl (Nat.le_of_ble_eq_true rfl) (by kernel_rfl) (fun B F0 w0 => ?_)
  refine AW.seq ?_
  refine AW.region ?_   -- "turn.go:13"
  refine AOps.run tok 2 _ _ _ _ rfl ?_
  refine AOps.nil ?_
  refine AW.seq ?_
  refine AW.seq ?_
  refine AW.region ?_   -- "turn.go:14"   -- GUARDS
  refine AOps.run tok 2 _ _ _ _ rfl ?_
  refine AOps.call tok rfl rfl rfl rfl (fraction_Valid_ok a.t hw (by omega)) ?_
  refine AOps.run tok 2 _ _ _ _ rfl ?_
  refine AOps.split (t := 7) rfl (fun h => ?_) (fun h => ?_)
  · have hv : a.okB = false := by unfold TD.okB; rw [show a.t.okB = false by simpa using h]; rfl
    rw [hv]
    refine AOps.run tok 9 _ _ _ _ rfl ?_
    refine AOps.nil ?_
    refine AW.condT rfl ?_
    refine AW.seq ?_
    refine AW.region ?_
    refine AOps.run tok 2 _ _ _ _ rfl ?_
    refine AOps.nil ?_
    exact AW.ret rfl
  have hv : a.t.okB = true := by simpa using h
  refine AOps.run tok 3 _ _ _ _ rfl ?_
  refine AOps.split (t := 10) rfl (fun hh => ?_) (fun hh => ?_)
  rotate_left
  · rw [show a.okB = true by unfold TD.okB; rw [hv, hh]; rfl]
    refine AOps.run tok 6 _ _ _ _ rfl ?_
    refine AOps.nil ?_
    refine AW.condF rfl ?_
    refine AW.skip ?_
    refine AW.seq ?_
    refine AW.region ?_
    refine AOps.run tok 1 _ _ _ _ rfl ?_
    refine AOps.nil ?_
    exact AW.ret rfl
  refine AOps.run tok 2 _ _ _ _ rfl ?_
  refine AOps.call tok rfl rfl rfl rfl (fraction_Sign_ok a.t hw hk) ?_
  refine AOps.run tok 3 _ _ _ _ rfl ?_
  refine AOps.nil ?_
  refine AW.cond rfl (fun h => ?_) (fun h => ?_)
  · rw [show a.okB = false by unfold TD.okB; rw [hv, hh]; simp at h; simpa [sgI0] using h]
    refine AW.seq ?_
    refine AW.region ?_   -- "turn.go:15"
    refine AOps.run tok 2 _ _ _ _ rfl ?_
    refine AOps.nil ?_
    exact AW.ret rfl
  · rw [show a.okB = true by unfold TD.okB; rw [hv, hh]; simp at h; simpa [sgI0] using h]
    refine AW.skip ?_
    refine AW.seq ?_
    refine AW.region ?_   -- "turn.go:17"
    refine AOps.run tok 1 _ _ _ _ rfl ?_
    refine AOps.nil ?_
    exact AW.ret rfl
theorem turn_over_ok (a b : Rat) {k : Nat} (ha : LQ a ≤ k) (hb : LQ b ≤ k) (hk : k ≤ 20000000) (h0 : b ≠ 0) : Pure Tryz.prog 99 [(Qr a).D, (Qr b).D] (Qr (a / b)).D := by
  refine Pure.intro (n := 17) tok Tryz.func99 rfl rfl rfl (Nat.le_of_ble_eq_true rfl) (by kernel_rfl) (fun B F0 w0 => ?_)
  refine AW.seq ?_
  refine AW.region ?_   -- "turn.go:31"
  refine AOps.run tok 3 _ _ _ _ rfl ?_
  refine AOps.nil ?_
  refine AW.seq ?_
  refine AW.region ?_   -- "turn.go:32"
  refine AOps.run tok 2 _ _ _ _ rfl ?_
  refine AOps.call tok rfl rfl rfl rfl (fraction_Div_ok (Qr a) (Qr b) (Qr_w _ ha) (Qr_w _ hb) hk (by rw [Qr_val]; exact h0)) ?_
  rw [Qr_val, Qr_val]
  refine AOps.run tok 6 _ _ _ _ rfl ?_
  refine AOps.nil ?_
  refine AW.seq ?_
  refine AW.seq ?_
  refine AW.region ?_   -- "turn.go:33"
  refine AOps.run tok 1 _ _ _ _ rfl ?_
  refine AOps.err tok rfl rfl rfl rfl rfl ?_
  refine AOps.nil ?_
  refine AW.condF rfl ?_
  · skip
    refine AW.skip ?_
    refine AW.seq ?_
    refine AW.region ?_   -- "turn.go:36"
    refine AOps.run tok 2 _ _ _ _ rfl ?_
    refine AOps.nil ?_
    exact AW.ret rfl
theorem turn_half_ok : Pure Tryz.prog 100 [] (TQ none).D := by
  refine Pure.intro (n := 2) tok Tryz.func100 rfl rfl rfl (Nat.le_of_ble_eq_true rfl) (by kernel_rfl) (fun B F0 w0 => ?_)
  show AW _ _ _ _ _ _ _ _
  rw [show (TQ none).D = .ag [dB false, .sl 1 [], .sl 1 [], dB true] by unfold TQ; rw [Qr_zero]; rfl]
  refine AW.seq ?_
  refine AW.region ?_   -- "turn.go:10"
  refine AOps.run tok 1 _ _ _ _ rfl ?_
  refine AOps.nil ?_
  refine AW.seq ?_
  refine AW.region ?_   -- "turn.go:10"
  refine AOps.run tok 2 _ _ _ _ rfl ?_
  refine AOps.nil ?_
  exact AW.ret rfl
theorem turn_neg_ok (a : Option Rat) {k : Nat} (ha : szT a ≤ k) (hk : k ≤ 20000000) : Pure Tryz.prog 75 [(TQ a).D] (TQ (negT a)).D := by
  refine Pure.intro (n := 9) tok Tryz.func75 rfl rfl rfl (Nat.le_of_ble_eq_true rfl) (by kernel_rfl) (fun B F0 w0 => ?_)
  have hw := szT_w a ha
  have e : (TQ (negT a)) = ⟨Qr (-(TQ a).t.val), (TQ a).h⟩ := by
    cases a with
    | none => show TD.mk (Qr 0) true = TD.mk (Qr (-(Qr 0).val)) true; rw [Qr_val]; rfl
    | some q => show TD.mk (Qr (-q)) false = TD.mk (Qr (-(Qr q).val)) false; rw [Qr_val]
  rw [e]
  generalize TQ a = t at hw
  refine AW.seq ?_
  refine AW.region ?_   -- "turn.go:115"
  refine AOps.run tok 2 _ _ _ _ rfl ?_
  refine AOps.nil ?_
  refine AW.seq ?_
  refine AW.draw hmix 6 (by kernel_rfl) ?_   -- "turn.go:115"
  refine APre.run tok 2 _ _ _ _ rfl ?_
  refine APre.call tok rfl rfl rfl rfl rfl (fraction_Neg_ok t.t hw hk) ?_
  refine APre.run tok 3 _ _ _ _ rfl ?_
  refine APre.nil ?_
  refine AOps.run tok 1 _ _ _ _ rfl ?_
  refine AOps.nil ?_
  exact AW.ret rfl
end Lift
/- Turns: sums, multiples. -/
namespace Lift
open Go Go.Proofs

theorem TQ0 : (TQ (some 0)).D = .ag [dB false, .sl 1 [], .sl 1 [], dB false] := by show (TD.mk (Qr 0) false).D = _; rw [Qr_zero]; rfl
theorem add_nn : Pure Tryz.prog 77 [(TQ none).D, (TQ none).D] (TQ (addT none none)).D := by
  refine Pure.intro (n := 57) tok Tryz.func77 rfl rfl rfl (Nat.le_of_ble_eq_true rfl) (by kernel_rfl) (fun B F0 w0 => ?_)
  rw [show addT none none = some 0 from rfl, TQ0]
  refine AW.seq ?_
  refine AW.region ?_
  refine AOps.run tok 3 _ _ _ _ rfl ?_
  refine AOps.nil ?_
  refine AW.seq ?_
  refine AW.block ?_
  refine AW.seq ?_
  refine AW.region ?_
  refine AOps.run tok 7 _ _ _ _ rfl ?_
  refine AOps.nil ?_
  refine AW.condT rfl ?_
  refine AW.seq ?_
  refine AW.region ?_
  refine AOps.run tok 2 _ _ _ _ rfl ?_
  refine AOps.nil ?_
  exact AW.ret rfl
theorem add_ns (y : Rat) {k : Nat} (hy : LQ y ≤ k) (hk : k ≤ 1000000) : Pure Tryz.prog 77 [(TQ none).D, (TQ (some y)).D] (TQ (addT none (some y))).D := by
  refine Pure.intro (n := 57) tok Tryz.func77 rfl rfl rfl (Nat.le_of_ble_eq_true rfl) (by kernel_rfl) (fun B F0 w0 => ?_)
  refine AW.seq ?_
  refine AW.region ?_
  refine AOps.run tok 3 _ _ _ _ rfl ?_
  refine AOps.nil ?_
  refine AW.seq ?_
  refine AW.block ?_
  refine AW.seq ?_
  refine AW.region ?_
  refine AOps.run tok 7 _ _ _ _ rfl ?_
  refine AOps.nil ?_
  refine AW.condF rfl ?_
  refine AW.seq ?_
  refine AW.region ?_
  refine AOps.run tok 3 _ _ _ _ rfl ?_
  refine AOps.nil ?_
  refine AW.condF rfl ?_
  refine AW.seq ?_
  refine AW.region ?_
  refine AOps.run tok 5 _ _ _ _ rfl ?_
  refine AOps.call tok rfl rfl rfl rfl (fraction_Sign_ok (Qr y) (Qr_w _ hy) (by omega)) ?_
  refine AOps.run tok 3 _ _ _ _ rfl ?_
  rw [Qr_val]
  refine AOps.nil ?_
  refine AW.cond rfl (fun h => ?_) (fun h => ?_)
  · have h0 : y = 0 := by have h2 := h; simp at h2; exact sgI0.1 h2
    rw [show addT none (some y) = none by show (if y = 0 then _ else _) = _; rw [if_pos h0]]
    refine AW.seq ?_
    refine AW.region ?_
    refine AOps.run tok 2 _ _ _ _ rfl ?_
    refine AOps.nil ?_
    exact AW.ret rfl
  · have h0 : ¬ y = 0 := fun g => by have h2 := h; simp at h2; exact h2 (sgI0.2 g)
    rw [show addT none (some y) = some (-1 / y) by show (if y = 0 then _ else _) = _; rw [if_neg h0]]
    refine AW.seq ?_
    refine AW.region ?_
    refine AOps.run tok 3 _ _ _ _ rfl ?_
    refine AOps.nil ?_
    refine AW.condT rfl ?_
    refine AW.seq ?_
    refine AW.draw hmix 5 (by kernel_rfl) ?_
    refine APre.call tok rfl rfl rfl rfl rfl (fraction_Of_ok (-1) (by omega) (by omega)) ?_
    refine APre.run tok 2 _ _ _ _ rfl ?_
    refine APre.call tok rfl rfl rfl rfl rfl (turn_over_ok ((-1 : Int) : Rat) y (k := k + 1) (by rw [show ((-1 : Int) : Rat) = -1 from rfl]; have := LQ_m1; omega) (by omega) (by omega) h0) ?_
    rw [show ((-1 : Int) : Rat) = -1 from rfl]
    refine APre.run tok 1 _ _ _ _ rfl ?_
    refine APre.nil ?_
    refine AOps.run tok 1 _ _ _ _ rfl ?_
    refine AOps.nil ?_
    exact AW.ret rfl
theorem add_sn (x : Rat) {k : Nat} (hx : LQ x ≤ k) (hk : k ≤ 1000000) : Pure Tryz.prog 77 [(TQ (some x)).D, (TQ none).D] (TQ (addT (some x) none)).D := by
  refine Pure.intro (n := 57) tok Tryz.func77 rfl rfl rfl (Nat.le_of_ble_eq_true rfl) (by kernel_rfl) (fun B F0 w0 => ?_)
  refine AW.seq ?_
  refine AW.region ?_
  refine AOps.run tok 3 _ _ _ _ rfl ?_
  refine AOps.nil ?_
  refine AW.seq ?_
  refine AW.block ?_
  refine AW.seq ?_
  refine AW.region ?_
  refine AOps.run tok 7 _ _ _ _ rfl ?_
  refine AOps.nil ?_
  refine AW.condF rfl ?_
  refine AW.seq ?_
  refine AW.region ?_
  refine AOps.run tok 3 _ _ _ _ rfl ?_
  refine AOps.nil ?_
  refine AW.condT rfl ?_
  refine AW.seq ?_
  refine AW.region ?_
  refine AOps.run tok 2 _ _ _ _ rfl ?_
  refine AOps.call tok rfl rfl rfl rfl (add_ns x hx hk) ?_
  rw [show addT none (some x) = addT (some x) none from rfl]
  refine AOps.run tok 1 _ _ _ _ rfl ?_
  refine AOps.nil ?_
  exact AW.ret rfl
theorem add_ss (x y : Rat) {k : Nat} (hx : LQ x ≤ k) (hy : LQ y ≤ k) (hk : k ≤ 1000000) : Pure Tryz.prog 77 [(TQ (some x)).D, (TQ (some y)).D] (TQ (addT (some x) (some y))).D := by
  refine Pure.intro (n := 57) tok Tryz.func77 rfl rfl rfl (Nat.le_of_ble_eq_true rfl) (by kernel_rfl) (fun B F0 w0 => ?_)
  have m1 := LQ_mul x y
  have m2 := LQ_add x y
  have m3 := LQ_sub 1 (x * y)
  have m4 := LQ_one
  refine AW.seq ?_
  refine AW.region ?_
  refine AOps.run tok 3 _ _ _ _ rfl ?_
  refine AOps.nil ?_
  refine AW.seq ?_
  refine AW.block ?_
  refine AW.seq ?_
  refine AW.region ?_
  refine AOps.run tok 7 _ _ _ _ rfl ?_
  refine AOps.nil ?_
  refine AW.condF rfl ?_
  refine AW.seq ?_
  refine AW.region ?_
  refine AOps.run tok 3 _ _ _ _ rfl ?_
  refine AOps.nil ?_
  refine AW.condF rfl ?_
  refine AW.seq ?_
  refine AW.region ?_
  refine AOps.run tok 9 _ _ _ _ rfl ?_
  refine AOps.nil ?_
  refine AW.condF rfl ?_
  refine AW.seq ?_
  refine AW.region ?_
  refine AOps.run tok 3 _ _ _ _ rfl ?_
  refine AOps.nil ?_
  refine AW.condF rfl ?_
  refine AW.skip ?_
  refine AW.seq ?_
  refine AW.draw hmix 8 (by kernel_rfl) ?_
  refine APre.call tok rfl rfl rfl rfl rfl (fraction_Of_ok 1 (by omega) (by omega)) ?_
  refine APre.run tok 4 _ _ _ _ rfl ?_
  refine APre.call tok rfl rfl rfl rfl rfl (fraction_Mul_ok (Qr x) (Qr y) (k := k) (Qr_w _ hx) (Qr_w _ hy) (by omega)) ?_
  rw [Qr_val, Qr_val]
  refine APre.call tok rfl rfl rfl rfl rfl (fraction_Sub_ok (Qr ((1 : Int) : Rat)) (Qr (x * y)) (k := 2 * k + 1) (Qr_w _ (by rw [show ((1 : Int) : Rat) = 1 from rfl]; omega)) (Qr_w _ (by omega)) (by omega)) ?_
  rw [Qr_val, Qr_val, show ((1 : Int) : Rat) = 1 from rfl]
  refine APre.run tok 1 _ _ _ _ rfl ?_
  refine APre.nil ?_
  refine AOps.run tok 1 _ _ _ _ rfl ?_
  refine AOps.nil ?_
  refine AW.seq ?_
  refine AW.seq ?_
  refine AW.region ?_
  refine AOps.run tok 1 _ _ _ _ rfl ?_
  refine AOps.call tok rfl rfl rfl rfl (fraction_Sign_ok (Qr (1 - x * y)) (k := 2 * k + 2) (Qr_w _ (by omega)) (by omega)) ?_
  refine AOps.run tok 1 _ _ _ _ rfl ?_
  rw [Qr_val]
  refine AOps.nil ?_
  refine AW.cond rfl (fun h => ?_) (fun h => ?_)
  · have h0 : 1 - x * y = 0 := by have h2 := h; simp at h2; exact sgI0.1 h2
    rw [show addT (some x) (some y) = none by show (if 1 - x * y = 0 then _ else _) = _; rw [if_pos h0]]
    refine AW.seq ?_
    refine AW.region ?_
    refine AOps.call tok rfl rfl rfl rfl turn_half_ok ?_
    refine AOps.run tok 1 _ _ _ _ rfl ?_
    refine AOps.nil ?_
    exact AW.ret rfl
  · have h0 : ¬ 1 - x * y = 0 := fun g => by have h2 := h; simp at h2; exact h2 (sgI0.2 g)
    rw [show addT (some x) (some y) = some ((x + y) / (1 - x * y)) by show (if 1 - x * y = 0 then _ else _) = _; rw [if_neg h0]]
    refine AW.skip ?_
    refine AW.seq ?_
    refine AW.draw hmix 8 (by kernel_rfl) ?_
    refine APre.run tok 4 _ _ _ _ rfl ?_
    refine APre.call tok rfl rfl rfl rfl rfl (fraction_Add_ok (Qr x) (Qr y) (k := k) (Qr_w _ hx) (Qr_w _ hy) (by omega)) ?_
    rw [Qr_val, Qr_val]
    refine APre.run tok 1 _ _ _ _ rfl ?_
    refine APre.call tok rfl rfl rfl rfl rfl (turn_over_ok (x + y) (1 - x * y) (k := 2 * k + 2) (by omega) (by omega) (by omega) h0) ?_
    refine APre.run tok 1 _ _ _ _ rfl ?_
    refine APre.nil ?_
    refine AOps.run tok 1 _ _ _ _ rfl ?_
    refine AOps.nil ?_
    exact AW.ret rfl
theorem turn_add_ok (a b : Option Rat) {k : Nat} (ha : szT a ≤ k) (hb : szT b ≤ k) (hk : k ≤ 1000000) : Pure Tryz.prog 77 [(TQ a).D, (TQ b).D] (TQ (addT a b)).D := by
  cases a with
  | none =>
    cases b with
    | none => exact add_nn
    | some y => exact add_ns y hb hk
  | some x =>
    cases b with
    | none => exact add_sn x ha hk
    | some y => exact add_ss x y ha hb hk
theorem TQ_ok (a : Option Rat) : (TQ a).okB = true := by
  cases a with
  | none => show ((Qr 0).okB && (!true || decide ((Qr 0).val = 0))) = true; rw [Qr_ok, Qr_val]; rfl
  | some q => show ((Qr q).okB && (!false || decide ((Qr q).val = 0))) = true; rw [Qr_ok]; rfl
theorem TQ_val (a : Option Rat) : (TQ a).val = a := by
  cases a with
  | none => rfl
  | some q => show some (Qr q).val = some q; rw [Qr_val]
theorem turn_checkAll_ok (a b : Option Rat) {k : Nat} (ha : szT a ≤ k) (hb : szT b ≤ k) (hk : k ≤ 1000000) : Pure Tryz.prog 76 [.sl 4 [(TQ a).D, (TQ b).D]] nilE := by
  refine Pure.intro (n := 18) tok Tryz.func76 rfl rfl rfl (Nat.le_of_ble_eq_true rfl) (by kernel_rfl) (fun B F0 w0 => ?_)
  have hc : ∀ i : Nat, i < 2 → ∃ c, [(TQ a).D, (TQ b).D][i]? = some (TQ c).D ∧ szT c ≤ k := fun i hi => by
    match i, hi with
    | 0, _ => exact ⟨a, rfl, ha⟩
    | 1, _ => exact ⟨b, rfl, hb⟩
  refine AW.seq ?_
  refine AW.region ?_
  refine AOps.run tok 1 _ _ _ _ rfl ?_
  refine AOps.nil ?_
  refine AW.seq ?_
  refine AW.seq ?_
  refine AW.region ?_
  refine AOps.run tok 3 _ _ _ _ rfl ?_
  refine AOps.nil ?_
  refine AW.block ?_
  refine AW.loopS [6, 7, 8] (fun i : Nat => [(6, .d (.sl 4 [(TQ a).D, (TQ b).D])), (7, .d (dI 2)), (8, .d (dI i))]) (fun i => i ≤ 2) (fun i => 2 - i) 0 rfl (Nat.zero_le _) (fun i hi => ?_)
  refine AW.seq ?_
  refine AW.region ?_
  refine AOps.run tok 1 _ _ _ _ rfl ?_
  refine AOps.nil ?_
  refine AW.seq ?_
  refine AW.cond rfl (fun h => ?_) (fun h => ?_)
  · have hin : i < 2 := by have := of_decide_eq_true h; omega
    obtain ⟨c, h1, h2⟩ := hc i hin
    refine AW.skip ?_
    refine AW.seq ?_
    refine AW.block ?_
    refine AW.seq ?_
    refine AW.region ?_
    refine AOps.idx tok (TQ c).D rfl rfl rfl rfl (Int.natCast_nonneg i) h1 ?_
    refine AOps.run tok 3 _ _ _ _ rfl ?_
    refine AOps.nil ?_
    refine AW.seq ?_
    refine AW.region ?_
    refine AOps.run tok 1 _ _ _ _ rfl ?_
    have hk := turn_Check_ok (TQ c) (szT_w c h2) (by omega)
    rw [TQ_ok] at hk
    refine AOps.call tok rfl rfl rfl rfl hk ?_
    refine AOps.run tok 1 _ _ _ _ rfl ?_
    refine AOps.nil ?_
    refine AW.seq ?_
    refine AW.region ?_
    refine AOps.run tok 1 _ _ _ _ rfl ?_
    refine AOps.err tok rfl rfl rfl rfl rfl ?_
    refine AOps.nil ?_
    refine AW.condF rfl ?_
    refine AW.skip ?_
    refine AW.region ?_
    refine AOps.run tok 2 _ _ _ _ rfl ?_
    rw [wI64 (x := (i : Int) + 1) (by omega) (by omega)]
    refine AOps.nil ?_
    exact ⟨i + 1, rfl, hin, by omega⟩
  · refine AW.exit ?_
    refine AW.seq ?_
    refine AW.region ?_
    refine AOps.run tok 1 _ _ _ _ rfl ?_
    refine AOps.nil ?_
    exact AW.ret rfl
theorem turn_Add_ok (a b : Option Rat) {k : Nat} (ha : szT a ≤ k) (hb : szT b ≤ k) (hk : k ≤ 1000000) : Pure Tryz.prog 44 [(TQ a).D, (TQ b).D] (.tu [(TQ (addT a b)).D, nilE]) := by
  refine Pure.intro (n := 18) tok Tryz.func44 rfl rfl rfl (Nat.le_of_ble_eq_true rfl) (by kernel_rfl) (fun B F0 w0 => ?_)
  refine AW.seq ?_
  refine AW.region ?_   -- "turn.go:118"
  refine AOps.run tok 4 _ _ _ _ rfl ?_
  refine AOps.nil ?_
  refine AW.seq ?_
  refine AW.seq ?_
  refine AW.region ?_   -- "turn.go:119"
  refine AOps.run tok 2 _ _ _ _ rfl ?_
  refine AOps.bsd tok rfl rfl rfl rfl rfl ?_
  refine AOps.call tok rfl rfl rfl rfl (turn_checkAll_ok a b ha hb hk) ?_
  refine AOps.run tok 1 _ _ _ _ rfl ?_
  refine AOps.nil ?_
  refine AW.seq ?_
  refine AW.region ?_   -- "turn.go:119"
  refine AOps.run tok 1 _ _ _ _ rfl ?_
  refine AOps.err tok rfl rfl rfl rfl rfl ?_
  refine AOps.nil ?_
  refine AW.condF rfl ?_
  · skip
    refine AW.skip ?_
    refine AW.seq ?_
    refine AW.region ?_   -- "turn.go:122"
    refine AOps.run tok 2 _ _ _ _ rfl ?_
    refine AOps.call tok rfl rfl rfl rfl (turn_add_ok a b ha hb hk) ?_
    refine AOps.run tok 2 _ _ _ _ rfl ?_
    refine AOps.nil ?_
    exact AW.ret rfl
theorem turn_Neg_ok (a : Option Rat) {k : Nat} (ha : szT a ≤ k) (hk : k ≤ 1000000) : Pure Tryz.prog 43 [(TQ a).D] (.tu [(TQ (negT a)).D, nilE]) := by
  refine Pure.intro (n := 13) tok Tryz.func43 rfl rfl rfl (Nat.le_of_ble_eq_true rfl) (by kernel_rfl) (fun B F0 w0 => ?_)
  have hc := turn_Check_ok (TQ a) (szT_w a ha) (by omega)
  rw [TQ_ok] at hc
  refine AW.seq ?_
  refine AW.region ?_   -- "turn.go:126"
  refine AOps.run tok 3 _ _ _ _ rfl ?_
  refine AOps.nil ?_
  refine AW.seq ?_
  refine AW.seq ?_
  refine AW.region ?_   -- "turn.go:127"
  refine AOps.run tok 1 _ _ _ _ rfl ?_
  refine AOps.call tok rfl rfl rfl rfl hc ?_
  refine AOps.run tok 1 _ _ _ _ rfl ?_
  refine AOps.nil ?_
  refine AW.seq ?_
  refine AW.region ?_   -- "turn.go:127"
  refine AOps.run tok 1 _ _ _ _ rfl ?_
  refine AOps.err tok rfl rfl rfl rfl rfl ?_
  refine AOps.nil ?_
  refine AW.condF rfl ?_
  · skip
    refine AW.skip ?_
    refine AW.seq ?_
    refine AW.region ?_   -- "turn.go:130"
    refine AOps.run tok 1 _ _ _ _ rfl ?_
    refine AOps.call tok rfl rfl rfl rfl (turn_neg_ok a ha (by omega)) ?_
    refine AOps.run tok 2 _ _ _ _ rfl ?_
    refine AOps.nil ?_
    exact AW.ret rfl
end Lift
/- Multiples of a turn; ratios of chains. -/
namespace Lift
open Go Go.Proofs

def Bt (k : Nat) : Nat → Nat
  | 0 => 1
  | i + 1 => 2 * (Bt k i + k) + 3
theorem Bt_le {k i : Nat} : Bt k i + 2 * k + 3 = 2 ^ i * (2 * k + 4) := by
  induction i with
  | zero => simp [Bt]; omega
  | succ i ih =>
    rw [Nat.pow_succ, Bt]
    have : 2 ^ i * 2 * (2 * k + 4) = 2 * (2 ^ i * (2 * k + 4)) := by ac_rfl
    rw [this, ← ih]; omega
theorem timesT_sz (t : Option Rat) {k : Nat} (h : szT t ≤ k) : ∀ i : Nat, szT (timesT t i) ≤ Bt k i
  | 0 => by show LQ 0 ≤ 1; rw [LQ_zero]; exact Nat.le_refl _
  | i + 1 => by
    have h1 := timesT_sz t h i
    have h2 := szT_add (timesT t i) t
    show szT (addT (timesT t i) t) ≤ 2 * (Bt k i + k) + 3
    omega
theorem Bt_15 {k i : Nat} (hk : k ≤ 6) (hi : i ≤ 15) : Bt k i ≤ 1000000 := by
  have h := Bt_le (k := k) (i := i)
  have h1 : 2 ^ i ≤ 2 ^ 15 := Nat.pow_le_pow_right (by decide) hi
  have h2 : 2 ^ i * (2 * k + 4) ≤ 2 ^ 15 * 16 := Nat.mul_le_mul h1 (by omega)
  have h3 : 2 ^ 15 * 16 = 524288 := by decide
  omega
theorem szT_neg (t : Option Rat) : szT (negT t) = szT t := by
  cases t with
  | none => rfl
  | some q => exact LQ_neg q
theorem szT_val {a : TD} {k : Nat} (hw : a.t.w k) (hk : 1 ≤ k) : szT a.val ≤ k := by
  unfold TD.val
  split
  · exact hk
  · exact LQ_val hw hk
theorem timesZ_split (t : Option Rat) {n : Int} : timesZ t n = if n < 0 then timesT (negT t) n.natAbs else timesT t n.natAbs := rfl
theorem gear_Times_bad (t : TD) (n : Int) {k : Nat} (hw : t.t.w k) (hk : k ≤ 6) (h : t.okB = false ∨ n < -16 ∨ 16 < n) : Pure Tryz.prog 14 [t.D, dI n] (.tu [(TQ (some 0)).D, erV 3]) := by
  refine Pure.intro (n := 55) tok Tryz.func14 rfl rfl rfl (Nat.le_of_ble_eq_true rfl) (by kernel_rfl) (fun B F0 w0 => ?_)
  rw [TQ0]
  have hc := turn_Check_ok t hw (by omega)
  refine AW.seq ?_
  refine AW.region ?_
  refine AOps.run tok 3 _ _ _ _ rfl ?_
  refine AOps.nil ?_
  refine AW.seq ?_
  refine AW.seq ?_
  refine AW.region ?_
  refine AOps.run tok 1 _ _ _ _ rfl ?_
  rcases hb : t.okB with _ | _
  · rw [hb] at hc
    refine AOps.call tok rfl rfl rfl rfl hc ?_
    refine AOps.err tok rfl rfl rfl rfl rfl ?_
    refine AOps.run tok 8 _ _ _ _ rfl ?_
    refine AOps.nil ?_
    refine AW.condT rfl ?_
    refine AW.seq ?_
    refine AW.region ?_
    refine AOps.run tok 4 _ _ _ _ rfl ?_
    refine AOps.nil ?_
    exact AW.ret rfl
  · rw [hb] at hc
    have h : n < -16 ∨ 16 < n := h.resolve_left (by rw [hb]; simp)
    refine AOps.call tok rfl rfl rfl rfl hc ?_
    refine AOps.err tok rfl rfl rfl rfl rfl ?_
    refine AOps.run tok 5 _ _ _ _ rfl ?_
    refine AOps.split (t := 18) rfl (fun g => ?_) (fun g => ?_)
    · refine AOps.run tok 3 _ _ _ _ rfl ?_
      refine AOps.nil ?_
      refine AW.condT rfl ?_
      refine AW.seq ?_
      refine AW.region ?_
      refine AOps.run tok 4 _ _ _ _ rfl ?_
      refine AOps.nil ?_
      exact AW.ret rfl
    · have g := of_decide_eq_false g
      refine AOps.run tok 3 _ _ _ _ rfl ?_
      refine AOps.nil ?_
      refine AW.cond rfl (fun g2 => ?_) (fun g2 => by have := of_decide_eq_false g2; omega)
      refine AW.seq ?_
      refine AW.region ?_
      refine AOps.run tok 4 _ _ _ _ rfl ?_
      refine AOps.nil ?_
      exact AW.ret rfl
theorem gear_Times_ok (t : TD) (n : Int) {k : Nat} (hw : t.t.w k) (hk : k ≤ 6) (hk1 : 1 ≤ k) (hb : t.okB = true) (h1 : -16 ≤ n) (h2 : n ≤ 16) : Pure Tryz.prog 14 [t.D, dI n] (.tu [(TQ (timesZ t.val n)).D, nilE]) := by
  refine Pure.intro (n := 55) tok Tryz.func14 rfl rfl rfl (Nat.le_of_ble_eq_true rfl) (by kernel_rfl) (fun B F0 w0 => ?_)
  have hc := turn_Check_ok t hw (by omega)
  rw [hb] at hc
  have hs := szT_val hw hk1
  have hcan := TD.canon hw hb
  generalize hv : t.val = v at hs hcan ⊢
  subst hcan
  refine AW.seq ?_
  refine AW.region ?_
  refine AOps.run tok 3 _ _ _ _ rfl ?_
  refine AOps.nil ?_
  refine AW.seq ?_
  refine AW.seq ?_
  refine AW.region ?_
  refine AOps.run tok 1 _ _ _ _ rfl ?_
  refine AOps.call tok rfl rfl rfl rfl hc ?_
  refine AOps.err tok rfl rfl rfl rfl rfl ?_
  refine AOps.run tok 5 _ _ _ _ rfl ?_
  refine AOps.split (t := 18) rfl (fun g => by have := of_decide_eq_true g; omega) (fun g => ?_)
  refine AOps.run tok 3 _ _ _ _ rfl ?_
  refine AOps.nil ?_
  refine AW.cond rfl (fun g2 => by have := of_decide_eq_true g2; omega) (fun g2 => ?_)
  refine AW.skip ?_
  refine AW.cut [1, 2, 4, 5] (fun s : Option Rat × Nat => [(1, .d (dI s.2)), (2, .bx (TQ s.1).D.flat), (4, .bx [dB false, .sl 1 [], .sl 1 [], dB false]), (5, .d nilE)]) (fun s => timesZ v n = timesT s.1 s.2 ∧ s.2 ≤ 16 ∧ szT s.1 ≤ k) ?_ (fun s hs => ?_)
  · refine AW.seq ?_
    refine AW.region ?_
    refine AOps.run tok 2 _ _ _ _ rfl ?_
    refine AOps.nil ?_
    refine AW.cond rfl (fun g => ?_) (fun g => ?_)
    · have g := of_decide_eq_true g
      refine AW.seq ?_
      refine AW.region ?_
      refine AOps.run tok 1 _ _ _ _ rfl ?_
      refine AOps.call tok rfl rfl rfl rfl (turn_Neg_ok v hs (by omega)) ?_
      refine AOps.run tok 6 _ _ _ _ rfl ?_
      refine AOps.nil ?_
      refine AW.seq ?_
      refine AW.seq ?_
      refine AW.region ?_
      refine AOps.run tok 1 _ _ _ _ rfl ?_
      refine AOps.err tok rfl rfl rfl rfl rfl ?_
      refine AOps.nil ?_
      refine AW.condF rfl ?_
      refine AW.skip ?_
      refine AW.region ?_
      refine AOps.run tok 5 _ _ _ _ rfl ?_
      rw [wI64 (by omega) (by omega)]
      refine AOps.nil ?_
      obtain ⟨m, hm⟩ : ∃ m : Nat, n = -m := ⟨n.natAbs, by omega⟩
      subst hm
      refine ⟨(negT v, m), by rw [show (0 - -(m : Int)) = m by omega]; rfl, ?_, by omega, by rw [szT_neg]; exact hs⟩
      rw [timesZ_split, if_pos g, show (-(m : Int)).natAbs = m by omega]
    · have g := of_decide_eq_false g
      refine AW.skip ?_
      obtain ⟨m, hm⟩ : ∃ m : Nat, n = m := ⟨n.natAbs, by omega⟩
      subst hm
      refine ⟨(v, m), rfl, ?_, by omega, hs⟩
      rw [timesZ_split, if_neg g, show ((m : Int)).natAbs = m by omega]
  obtain ⟨s, m⟩ := s
  obtain ⟨e1, e2, e3⟩ := hs
  dsimp only at e1 e2 e3
  rw [e1]
  show AW _ _ _ _ _ _ _ [(1, .d (dI m)), (2, .bx (TQ s).D.flat), (4, .bx [dB false, .sl 1 [], .sl 1 [], dB false]), (5, .d nilE)]
  refine AW.seq ?_
  refine AW.region ?_
  refine AOps.run tok 3 _ _ _ _ rfl ?_
  refine AOps.nil ?_
  refine AW.seq ?_
  refine AW.seq ?_
  refine AW.region ?_
  refine AOps.run tok 2 _ _ _ _ rfl ?_
  refine AOps.nil ?_
  refine AW.block ?_
  refine AW.loopS [2, 4, 5, 8, 39, 40] (fun i : Nat => [(2, .bx (TQ s).D.flat), (4, .bx [dB false, .sl 1 [], .sl 1 [], dB false]), (5, .d nilE), (8, .bx (TQ (timesT s i)).D.flat), (39, .d (dI m)), (40, .d (dI i))]) (fun i => i ≤ m) (fun i => m - i) 0
    (by rw [show timesT s 0 = some 0 from rfl, TQ0]; rfl) (Nat.zero_le _) (fun i hi => ?_)
  refine AW.seq ?_
  refine AW.region ?_
  refine AOps.run tok 1 _ _ _ _ rfl ?_
  refine AOps.nil ?_
  refine AW.seq ?_
  refine AW.cond rfl (fun h => ?_) (fun h => ?_)
  · have hin : i < m := by have := of_decide_eq_true h; omega
    have b1 := timesT_sz s e3 i
    have b2 := Bt_15 (k := k) (i := i) hk (by omega)
    refine AW.skip ?_
    refine AW.seq ?_
    refine AW.block ?_
    refine AW.seq ?_
    refine AW.region ?_
    refine AOps.run tok 2 _ _ _ _ rfl ?_
    refine AOps.call tok rfl rfl rfl rfl (turn_Add_ok (timesT s i) s (k := 1000000) (by omega) (by omega) (Nat.le_refl _)) ?_
    rw [show addT (timesT s i) s = timesT s (i + 1) from rfl]
    refine AOps.run tok 6 _ _ _ _ rfl ?_
    refine AOps.nil ?_
    refine AW.seq ?_
    refine AW.seq ?_
    refine AW.region ?_
    refine AOps.run tok 1 _ _ _ _ rfl ?_
    refine AOps.err tok rfl rfl rfl rfl rfl ?_
    refine AOps.nil ?_
    refine AW.condF rfl ?_
    refine AW.skip ?_
    refine AW.region ?_
    refine AOps.run tok 2 _ _ _ _ rfl ?_
    refine AOps.nil ?_
    refine AW.region ?_
    refine AOps.run tok 2 _ _ _ _ rfl ?_
    rw [wI64 (x := (i : Int) + 1) (by omega) (by omega)]
    refine AOps.nil ?_
    exact ⟨i + 1, rfl, hin, by omega⟩
  · have hin : i = m := by have := of_decide_eq_false h; omega
    subst hin
    refine AW.exit ?_
    refine AW.seq ?_
    refine AW.region ?_
    refine AOps.run tok 3 _ _ _ _ rfl ?_
    refine AOps.nil ?_
    exact AW.ret rfl
theorem r12_Check_ok (a : TD) {k : Nat} (hw : a.t.w k) (hk : k ≤ 20000000) : Pure Tryz.prog 46 [a.D] (dI (if a.okB = true then 0 else 2)) := by
  refine Pure.intro (n := 17) tok Tryz.func46 rfl rfl rfl (Nat.le_of_ble_eq_true rfl) (by kernel_rfl) (fun B F0 w0 => ?_)
  refine AW.seq ?_
  refine AW.region ?_   -- "ref.go:10"
  refine AOps.run tok 2 _ _ _ _ rfl ?_
  refine AOps.nil ?_
  refine AW.seq ?_
  refine AW.seq ?_
  refine AW.region ?_   -- "ref.go:11"   -- GUARDS
  refine AOps.run tok 2 _ _ _ _ rfl ?_
  refine AOps.call tok rfl rfl rfl rfl (r02_Valid_ok a.t hw (by omega)) ?_
  refine AOps.run tok 2 _ _ _ _ rfl ?_
  refine AOps.split (t := 7) rfl (fun h => ?_) (fun h => ?_)
  · have hv : a.okB = false := by unfold TD.okB; rw [show a.t.okB = false by simpa using h]; rfl
    rw [hv]
    refine AOps.run tok 9 _ _ _ _ rfl ?_
    refine AOps.nil ?_
    refine AW.condT rfl ?_
    refine AW.seq ?_
    refine AW.region ?_
    refine AOps.run tok 1 _ _ _ _ rfl ?_
    refine AOps.nil ?_
    exact AW.ret rfl
  have hv : a.t.okB = true := by simpa using h
  refine AOps.run tok 3 _ _ _ _ rfl ?_
  refine AOps.split (t := 10) rfl (fun hh => ?_) (fun hh => ?_)
  rotate_left
  · rw [show a.okB = true by unfold TD.okB; rw [hv, hh]; rfl]
    refine AOps.run tok 6 _ _ _ _ rfl ?_
    refine AOps.nil ?_
    refine AW.condF rfl ?_
    refine AW.skip ?_
    refine AW.seq ?_
    refine AW.region ?_
    refine AOps.run tok 1 _ _ _ _ rfl ?_
    refine AOps.nil ?_
    exact AW.ret rfl
  refine AOps.run tok 2 _ _ _ _ rfl ?_
  refine AOps.call tok rfl rfl rfl rfl (r02_Sign_ok a.t hw hk) ?_
  refine AOps.run tok 3 _ _ _ _ rfl ?_
  refine AOps.nil ?_
  refine AW.cond rfl (fun h => ?_) (fun h => ?_)
  · rw [show a.okB = false by unfold TD.okB; rw [hv, hh]; simp at h; simpa [sgI0] using h]
    refine AW.seq ?_
    refine AW.region ?_   -- "ref.go:12"
    refine AOps.run tok 1 _ _ _ _ rfl ?_
    refine AOps.nil ?_
    exact AW.ret rfl
  · rw [show a.okB = true by unfold TD.okB; rw [hv, hh]; simp at h; simpa [sgI0] using h]
    refine AW.skip ?_
    refine AW.seq ?_
    refine AW.region ?_   -- "ref.go:14"
    refine AOps.run tok 1 _ _ _ _ rfl ?_
    refine AOps.nil ?_
    exact AW.ret rfl
end Lift
/- The statements' helpers: what is too large, the example, awake. -/
namespace Lift
open Go Go.Proofs

structure Trn.big (x : Trn) : Prop where
  m : x.ms.length ≤ Lift.big
  p : x.ps.length ≤ Lift.big
  g : x.gs.length ≤ Lift.big
  w : ∀ i, (x.gs.getD i default).v.w Lift.big
def spL (s : Spd) : Bool := decide (6 < s.v.n.length + s.v.d.length)
def spsL (l : List Spd) : Bool := anyF (fun i => spL (l.getD i default)) l.length 0
def lgT (x : Trn) : Bool := decide (60 < x.ms.length ∨ 60 < x.ps.length ∨ 60 < x.gs.length) || spsL x.gs
theorem anyF_no {g : Nat → Bool} : ∀ {m i : Nat}, anyF g m i = false → ∀ k, i ≤ k → k < i + m → g k = false
  | 0, i, _, k, h1, h2 => by omega
  | m + 1, i, h, k, h1, h2 => by
    rw [anyF, Bool.or_eq_false_iff] at h
    rcases Nat.eq_or_lt_of_le h1 with e | e
    · rw [← e]; exact h.1
    · exact anyF_no h.2 k e (by omega)
theorem Trn.big.small {x : Trn} (hx : x.big) (h : lgT x = false) : x.w 6 := by
  unfold lgT at h
  rw [Bool.or_eq_false_iff] at h
  have h1 := of_decide_eq_false h.1
  refine ⟨by omega, by omega, by omega, fun i => ?_⟩
  rcases Nat.lt_or_ge i x.gs.length with hi | hi
  · have h2 := anyF_no h.2 i (Nat.zero_le _) (by omega)
    have h2 := of_decide_eq_false h2
    obtain ⟨a, b, _, _⟩ := hx.w i
    exact ⟨a, b, by omega, by omega⟩
  · rw [List.getD_eq_getElem?_getD, List.getElem?_eq_none hi]
    exact ⟨fun _ h => (by cases h), fun _ h => (by cases h), Nat.zero_le _, Nat.zero_le _⟩
theorem g51_large_ok (x : Trn) (hx : x.big) : Pure Tryz.prog 7 [x.D] (dB (lgT x)) := by
  refine Pure.intro (n := 45) tok Tryz.func7 rfl rfl rfl (Nat.le_of_ble_eq_true rfl) (by kernel_rfl) (fun B F0 w0 => ?_)
  obtain ⟨b1, b2, b3, b4⟩ := hx
  have hbig : Lift.big = 1000000000000000 := rfl
  refine AW.seq ?_
  refine AW.region ?_
  refine AOps.run tok 2 _ _ _ _ rfl ?_
  refine AOps.nil ?_
  refine AW.cut [1] (fun _ : Unit => [(1, .bx [dI x.n, MshsD x.ms, PltsD x.ps, SpdsD x.gs])]) (fun _ => ¬ (60 < x.ms.length ∨ 60 < x.ps.length ∨ 60 < x.gs.length)) ?_ (fun _ hs => ?_)
  · refine AW.seq ?_
    refine AW.region ?_
    refine AOps.run tok 5 _ _ _ _ rfl ?_
    rw [List.length_map]
    refine AOps.split (t := 8) rfl (fun h => ?_) (fun g0 => ?_)
    · have e : lgT x = true := by unfold lgT; rw [decide_eq_true (.inl (by have := of_decide_eq_true h; omega))]; rfl
      rw [e]
      refine AOps.run tok 6 _ _ _ _ rfl ?_
      refine AOps.split (t := 14) rfl (fun h => ?_) (fun g0 => by cases g0)
      refine AOps.run tok 5 _ _ _ _ rfl ?_
      refine AOps.nil ?_
      refine AW.condT rfl ?_
      refine AW.seq ?_
      refine AW.region ?_
      refine AOps.run tok 1 _ _ _ _ rfl ?_
      refine AOps.nil ?_
      exact AW.ret rfl
    refine AOps.run tok 6 _ _ _ _ rfl ?_
    rw [List.length_map]
    refine AOps.split (t := 14) rfl (fun h => ?_) (fun g1 => ?_)
    · have e : lgT x = true := by unfold lgT; rw [decide_eq_true (.inr (.inl (by have := of_decide_eq_true h; omega)))]; rfl
      rw [e]
      refine AOps.run tok 5 _ _ _ _ rfl ?_
      refine AOps.nil ?_
      refine AW.condT rfl ?_
      refine AW.seq ?_
      refine AW.region ?_
      refine AOps.run tok 1 _ _ _ _ rfl ?_
      refine AOps.nil ?_
      exact AW.ret rfl
    refine AOps.run tok 5 _ _ _ _ rfl ?_
    rw [List.length_map]
    refine AOps.nil ?_
    refine AW.cond rfl (fun h => ?_) (fun h => ?_)
    · have e : lgT x = true := by unfold lgT; rw [decide_eq_true (.inr (.inr (by have := of_decide_eq_true h; omega)))]; rfl
      rw [e]
      refine AW.seq ?_
      refine AW.region ?_
      refine AOps.run tok 1 _ _ _ _ rfl ?_
      refine AOps.nil ?_
      exact AW.ret rfl
    · refine AW.skip ?_
      exact ⟨(), rfl, by have := of_decide_eq_false g0; have := of_decide_eq_false g1; have := of_decide_eq_false h; omega⟩
  rw [show lgT x = spsL x.gs by unfold lgT; rw [decide_eq_false hs]; rfl]
  show AW _ _ _ _ _ _ _ [(1, .bx [dI x.n, MshsD x.ms, PltsD x.ps, SpdsD x.gs])]
  refine AW.seq ?_
  refine AW.seq ?_
  refine AW.region ?_
  refine AOps.run tok 1 _ _ _ _ rfl ?_
  refine AOps.nil ?_
  refine AW.block ?_
  refine AW.loopS [1, 3] (fun i : Nat => [(1, .bx [dI x.n, MshsD x.ms, PltsD x.ps, SpdsD x.gs]), (3, .d (dI i))]) (fun i => i ≤ x.gs.length ∧ spsL x.gs = anyF (fun i => spL (x.gs.getD i default)) (x.gs.length - i) i) (fun i => x.gs.length - i) 0 rfl ⟨Nat.zero_le _, rfl⟩ (fun i ⟨hi, hE⟩ => ?_)
  refine AW.seq ?_
  refine AW.seq ?_
  refine AW.region ?_
  refine AOps.run tok 5 _ _ _ _ rfl ?_
  rw [List.length_map]
  refine AOps.nil ?_
  refine AW.cond rfl (fun h => ?_) (fun h => ?_)
  · have hin : i < x.gs.length := by have := of_decide_eq_true h; omega
    have hH := fun h0 => hE.trans (anyF_hit (f := fun i => spL (x.gs.getD i default)) hin h0)
    have hM := fun h0 => hE.trans (anyF_miss (f := fun i => spL (x.gs.getD i default)) hin h0)
    have hid : (x.gs.map Spd.D)[i]? = some (x.gs.getD i default).D := getM Spd.D hin
    obtain ⟨_, _, l1, l2⟩ := b4 i
    generalize x.gs.getD i default = m at hid hM hH l1 l2
    refine AW.skip ?_
    refine AW.seq ?_
    refine AW.block ?_
    refine AW.seq ?_
    refine AW.draw hmix 18 (by kernel_rfl) ?_
    refine APre.run tok 3 _ _ _ _ rfl ?_
    refine APre.idx tok m.D rfl rfl rfl rfl rfl (Int.natCast_nonneg i) hid ?_
    refine APre.run tok 7 _ _ _ _ rfl ?_
    refine APre.idx tok m.D rfl rfl rfl rfl rfl (Int.natCast_nonneg i) hid ?_
    refine APre.run tok 6 _ _ _ _ rfl ?_
    rw [List.length_map, List.length_map, wI64 (by omega) (by omega)]
    refine APre.nil ?_
    refine AOps.nil ?_
    refine AW.cond rfl (fun h => ?_) (fun h => ?_)
    · rw [hH (by unfold spL; rw [decide_eq_true_iff]; have := of_decide_eq_true h; omega)]
      refine AW.seq ?_
      refine AW.region ?_
      refine AOps.run tok 1 _ _ _ _ rfl ?_
      refine AOps.nil ?_
      exact AW.ret rfl
    · refine AW.skip ?_
      refine AW.region ?_
      refine AOps.run tok 3 _ _ _ _ rfl ?_
      rw [wI64 (x := (i : Int) + 1) (by omega) (by omega)]
      refine AOps.nil ?_
      exact ⟨i + 1, rfl, ⟨hin, hM (by unfold spL; rw [decide_eq_false_iff_not]; have := of_decide_eq_false h; omega)⟩, by omega⟩
  · have hin : ¬ i < x.gs.length := by have := of_decide_eq_false h; omega
    rw [hE, show x.gs.length - i = 0 by omega, anyF]
    refine AW.exit ?_
    refine AW.seq ?_
    refine AW.region ?_
    refine AOps.run tok 1 _ _ _ _ rfl ?_
    refine AOps.nil ?_
    exact AW.ret rfl

/-! ### The example -/
def x0 : Trn := ⟨3, [], [⟨0, 1, 2, 30, 60⟩], [⟨0, Qr ((1 : Int) : Rat)⟩, ⟨1, ⟨false, [], []⟩⟩]⟩
theorem x0_out : outG 3 (rowsM x0) = .val [1, 0, 1 / 3] := by
  have hr : rowsM x0 = [[30, 60, -90, 0], [1, 0, 0, 1], [0, 1, 0, 0]] := by
    unfold rowsM x0
    simp only [List.map_nil, List.map_cons, List.nil_append, rwP, rwS, Qr_val]
    rw [RD.val_nil rfl]
    rfl
  rw [hr]
  refine Right.unique (outG_right (a := [[30, 60, -90, 0], [1, 0, 0, 1], [0, 1, 0, 0]]) (n := 3) (fun r h => by simp at h; rcases h with rfl | rfl | rfl <;> rfl)) ⟨rfl, fun j hj => ?_, fun y hy c hc => ?_⟩
  · have hj : j < 3 := hj
    unfold eqn fM
    match j, hj with
    | 0, _ => simp [sumN]; grind
    | 1, _ => simp [sumN]; grind
    | 2, _ => simp [sumN]; grind
  · have h0 := hy 0 (by decide)
    have h1 := hy 1 (by decide)
    have h2 := hy 2 (by decide)
    unfold eqn fM at h0 h1 h2
    simp [sumN] at h0 h1 h2
    match c, hc with
    | 0, _ => simp; grind
    | 1, _ => simp; grind
    | 2, _ => simp; grind
theorem x0_chk : chkT x0 = 0 := by
  unfold chkT x0 mshsE pltsE spdsE
  simp only [List.length_cons, List.length_nil, fE]
  have h1 : (Qr ((1 : Int) : Rat)).okB = true := Qr_ok _
  have h2 : (⟨false, [], []⟩ : RD).okB = true := rfl
  have h3 : (Qr 1).okB = true := Qr_ok _
  simp [pltE, spdE, inS, thB, h2, h3]
theorem x0_sol : solT x0 = .tu [.sl 3 (QsD [1, 0, 1 / 3]), nilE] := by
  rw [solT_ok x0_chk]
  show solD (outG 3 (rowsM x0)) = _
  rw [x0_out]; rfl
theorem g51_example_ok : Pure Tryz.prog 21 [] (.tu [PltsD x0.ps, SpdsD x0.gs]) := by
  refine Pure.intro (n := 8) tok Tryz.func21 rfl rfl rfl (Nat.le_of_ble_eq_true rfl) (by kernel_rfl) (fun B F0 w0 => ?_)
  refine AW.seq ?_
  refine AW.region ?_   -- "law.go:16"
  refine AOps.run tok 2 _ _ _ _ rfl ?_
  refine AOps.nil ?_
  refine AW.seq ?_
  refine AW.region ?_   -- "law.go:17"
  refine AOps.run tok 1 _ _ _ _ rfl ?_
  refine AOps.bs tok rfl rfl rfl rfl ?_
  refine AOps.call tok rfl rfl rfl rfl (r02_Of_ok 1 (by omega) (by omega)) ?_
  refine AOps.run tok 2 _ _ _ _ rfl ?_
  refine AOps.bs tok rfl rfl rfl rfl ?_
  refine AOps.run tok 2 _ _ _ _ rfl ?_
  refine AOps.nil ?_
  exact AW.ret rfl
theorem two_one : timesZ (some ((1 : Int) : Rat)) 2 = none := by
  have h : ((1 : Int) : Rat) = 1 := rfl
  rw [timesZ_split, if_neg (by decide), h]
  show addT (if 1 - 0 * 1 = 0 then none else some ((0 + 1) / (1 - 0 * 1))) (some 1) = none
  rw [if_neg (by grind)]
  show (if 1 - (0 + 1) / (1 - 0 * 1) * 1 = 0 then none else _) = none
  rw [if_pos (by grind)]
theorem g51_awake_ok : Pure Tryz.prog 6 [] (dB true) := by
  refine Pure.intro (n := 52) tok Tryz.func6 rfl rfl rfl (Nat.le_of_ble_eq_true rfl) (by kernel_rfl) (fun B F0 w0 => ?_)
  have hw : x0.w 6 := ⟨by decide, by decide, by decide, fun i => by
    have q1 : (Qr ((1 : Int) : Rat)).w 6 := Qr_w _ (by have := LQ_of 1; rw [L_one] at this; omega)
    have q0 : (⟨false, [], []⟩ : RD).w 6 := ⟨fun _ h => (by cases h), fun _ h => (by cases h), by decide, by decide⟩
    match i with
    | 0 => exact q1
    | 1 => exact q0
    | _ + 2 => exact q0⟩
  have cS := gear_Solve_ok x0 hw (by decide)
  rw [x0_sol] at cS
  have ht : (⟨Qr ((1 : Int) : Rat), false⟩ : TD).t.w 6 := Qr_w _ (by have := LQ_of 1; rw [L_one] at this; omega)
  have cT := gear_Times_ok ⟨Qr ((1 : Int) : Rat), false⟩ 2 ht (Nat.le_refl _) (by decide) (TQ_ok (some ((1 : Int) : Rat))) (by decide) (by decide)
  rw [show timesZ (TD.val ⟨Qr ((1 : Int) : Rat), false⟩) 2 = none by
    show timesZ (some (Qr ((1 : Int) : Rat)).val) 2 = none
    rw [Qr_val]
    exact two_one] at cT
  refine AW.seq ?_
  refine AW.region ?_   -- "law.go:21"
  refine AOps.run tok 1 _ _ _ _ rfl ?_
  refine AOps.nil ?_
  refine AW.seq ?_
  refine AW.region ?_   -- "law.go:22"
  refine AOps.call tok rfl rfl rfl rfl g51_example_ok ?_
  refine AOps.run tok 5 _ _ _ _ rfl ?_
  refine AOps.nil ?_
  refine AW.seq ?_
  refine AW.region ?_   -- "law.go:23"
  refine AOps.run tok 3 _ _ _ _ rfl ?_
  refine AOps.call tok rfl rfl rfl rfl cS ?_
  refine AOps.run tok 5 _ _ _ _ rfl ?_
  refine AOps.nil ?_
  refine AW.seq ?_
  refine AW.region ?_   -- "law.go:24"
  refine AOps.call tok rfl rfl rfl rfl (r02_Of_ok 1 (by omega) (by omega)) ?_
  refine AOps.run tok 1 _ _ _ _ rfl ?_
  refine AOps.call tok rfl rfl rfl rfl cT ?_
  refine AOps.run tok 6 _ _ _ _ rfl ?_
  refine AOps.nil ?_
  refine AW.seq ?_
  refine AW.region ?_   -- "law.go:25"
  refine AOps.call tok rfl rfl rfl rfl (r02_Make_ok 1 3 (by omega) (by omega) (by omega) (by omega) (by omega)) ?_
  refine AOps.run tok 6 _ _ _ _ rfl ?_
  refine AOps.nil ?_
  refine AW.seq ?_
  refine AW.draw hmix 22 (by kernel_rfl) ?_   -- "law.go:26"   -- GUARDS
  refine APre.run tok 1 _ _ _ _ rfl ?_
  refine APre.err tok rfl rfl rfl rfl rfl rfl ?_
  refine APre.run tok 2 _ _ _ _ rfl ?_
  refine APre.err tok rfl rfl rfl rfl rfl rfl ?_
  refine APre.run tok 8 _ _ _ _ rfl ?_
  refine APre.idx tok (Qr (1 / 3)).D rfl rfl rfl rfl rfl (by decide) rfl ?_
  refine APre.run tok 2 _ _ _ _ rfl ?_
  refine APre.call tok rfl rfl rfl rfl rfl (base_Rat_ok (Qr (1 / 3)) (Qr (Rat.divInt 1 3)) (k := 2) (Qr_w _ (by have := LQ_divInt 1 3 (by decide); have := L_one; have := L_of 3 (by decide); rw [show (1 / 3 : Rat) = Rat.divInt 1 3 by rw [divInt_eq]; rfl]; omega)) (by decide)) ?_
  rw [show eqR (Qr (1 / 3)) (Qr (Rat.divInt 1 3)) = true by rw [show (1 / 3 : Rat) = Rat.divInt 1 3 by rw [divInt_eq]; rfl]; exact eqR_self _]
  refine APre.run tok 5 _ _ _ _ rfl ?_
  refine APre.nil ?_
  refine AOps.run tok 1 _ _ _ _ rfl ?_
  refine AOps.nil ?_
  exact AW.ret rfl
end Lift
/- Trains and turns as they are handed to a function. -/
namespace Lift
open Go Go.Proofs

theorem u_turn : RT Tryz.prog 43 TD (fun a => a.D.flat) (fun a => a.t.w reachBytes) := by
  have h := RT.struct (P := Tryz.prog) (t := 43) (m := 4) Tryz.underlying43 (by kernel_rfl) (RTF.cons (by kernel_rfl) u_rat (RTF.cons (by kernel_rfl) u_bool RTF.nil)) (fun v => rfl)
  exact h.map (fun v => ⟨v.1, v.2.1⟩) (fun v h => rfl) (fun v h => h.1) (fun v => ⟨by kernel_rfl, fun d hd => by
    simp only [D.flat, List.mem_cons, List.mem_nil_iff, or_false] at hd
    rcases hd with rfl | rfl | rfl | rfl <;> rfl⟩)
theorem u_mesh : RT Tryz.prog 72 Msh (fun a => a.D.flat) (fun _ => True) := by
  have h := RT.struct (P := Tryz.prog) (t := 72) (m := 5) Tryz.underlying72 (by kernel_rfl) (RTF.cons (by kernel_rfl) u_int (RTF.cons (by kernel_rfl) u_int (RTF.cons (by kernel_rfl) u_int (RTF.cons (by kernel_rfl) u_int (RTF.cons (by kernel_rfl) u_bool RTF.nil))))) (fun v => rfl)
  exact h.map (fun v => ⟨v.1, v.2.1, v.2.2.1, v.2.2.2.1, v.2.2.2.2.1⟩) (fun v h => rfl) (fun v h => trivial) (fun v => ⟨by kernel_rfl, fun d hd => by
    simp only [D.flat, List.mem_cons, List.mem_nil_iff, or_false] at hd
    rcases hd with rfl | rfl | rfl | rfl | rfl <;> rfl⟩)
theorem u_planet : RT Tryz.prog 76 Plt (fun a => a.D.flat) (fun _ => True) := by
  have h := RT.struct (P := Tryz.prog) (t := 76) (m := 5) Tryz.underlying76 (by kernel_rfl) (RTF.cons (by kernel_rfl) u_int (RTF.cons (by kernel_rfl) u_int (RTF.cons (by kernel_rfl) u_int (RTF.cons (by kernel_rfl) u_int (RTF.cons (by kernel_rfl) u_int RTF.nil))))) (fun v => rfl)
  exact h.map (fun v => ⟨v.1, v.2.1, v.2.2.1, v.2.2.2.1, v.2.2.2.2.1⟩) (fun v h => rfl) (fun v h => trivial) (fun v => ⟨by kernel_rfl, fun d hd => by
    simp only [D.flat, List.mem_cons, List.mem_nil_iff, or_false] at hd
    rcases hd with rfl | rfl | rfl | rfl | rfl <;> rfl⟩)
theorem u_speed : RT Tryz.prog 63 Spd (fun a => a.D.flat) (fun a => a.v.w reachBytes) := by
  have h := RT.struct (P := Tryz.prog) (t := 63) (m := 4) Tryz.underlying63 (by kernel_rfl) (RTF.cons (by kernel_rfl) u_int (RTF.cons (by kernel_rfl) u_rat RTF.nil)) (fun v => rfl)
  exact h.map (fun v => ⟨v.1, v.2.1⟩) (fun v h => rfl) (fun v h => h.2.1) (fun v => ⟨by kernel_rfl, fun d hd => by
    simp only [D.flat, List.mem_cons, List.mem_nil_iff, or_false] at hd
    rcases hd with rfl | rfl | rfl | rfl <;> rfl⟩)
theorem u_meshes : RT Tryz.prog 22 (List Msh) (fun l => [MshsD l]) (fun l => l.length ≤ reachBytes ∧ ∀ v ∈ l, True) :=
  RT.slice (el := Msh.D) (s := 5) (by kernel_rfl) (by kernel_rfl) (by kernel_rfl) (by decide) (Nat.le_of_ble_eq_true (by kernel_rfl)) u_mesh (fun v => rfl)
theorem u_planets : RT Tryz.prog 23 (List Plt) (fun l => [PltsD l]) (fun l => l.length ≤ reachBytes ∧ ∀ v ∈ l, True) :=
  RT.slice (el := Plt.D) (s := 5) (by kernel_rfl) (by kernel_rfl) (by kernel_rfl) (by decide) (Nat.le_of_ble_eq_true (by kernel_rfl)) u_planet (fun v => rfl)
theorem u_speeds : RT Tryz.prog 24 (List Spd) (fun l => [SpdsD l]) (fun l => l.length ≤ reachBytes ∧ ∀ v ∈ l, v.v.w reachBytes) :=
  RT.slice (el := Spd.D) (s := 4) (by kernel_rfl) (by kernel_rfl) (by kernel_rfl) (by decide) (Nat.le_of_ble_eq_true (by kernel_rfl)) u_speed (fun v => rfl)
theorem u_train : RT Tryz.prog 26 Trn (fun x => x.D.flat) (fun x => x.big) := by
  have h := RT.struct (P := Tryz.prog) (t := 26) (m := 4) Tryz.underlying26 (by kernel_rfl) (RTF.cons (by kernel_rfl) u_int (RTF.cons (by kernel_rfl) u_meshes (RTF.cons (by kernel_rfl) u_planets (RTF.cons (by kernel_rfl) u_speeds RTF.nil)))) (fun v => rfl)
  have hb : reachBytes ≤ Lift.big := by decide
  exact h.map (fun v => ⟨v.1, v.2.1, v.2.2.1, v.2.2.2.1⟩) (fun v h => rfl) (fun v h => ⟨Nat.le_trans h.2.1.1 hb, Nat.le_trans h.2.2.1.1 hb, Nat.le_trans h.2.2.2.1.1 hb, fun i => by
    show (v.2.2.2.1.getD i default).v.w Lift.big
    rcases Nat.lt_or_ge i v.2.2.2.1.length with hi | hi
    · rw [List.getD_eq_getElem?_getD, List.getElem?_eq_getElem hi]
      exact (h.2.2.2.1.2 _ (List.getElem_mem hi)).mono hb
    · rw [List.getD_eq_getElem?_getD, List.getElem?_eq_none hi]
      exact ⟨fun _ h => (by cases h), fun _ h => (by cases h), Nat.zero_le _, Nat.zero_le _⟩⟩) (fun v => ⟨by kernel_rfl, fun d hd => by
    simp only [D.flat, List.mem_cons, List.mem_nil_iff, or_false] at hd
    rcases hd with rfl | rfl | rfl | rfl <;> rfl⟩)
end Lift
/- The reference: quotients, turns. -/
namespace Lift
open Go Go.Proofs

theorem r02_Div_ok (r s : RD) {k : Nat} (hr : r.w k) (hs : s.w k) (hk : k ≤ 20000000) (h0 : s.val ≠ 0) : Pure Tryz.prog 35 [r.D, s.D] (.tu [(Qr (r.val / s.val)).D, dI 0]) := by
  refine Pure.intro (n := 29) tok Tryz.func35 rfl rfl rfl (Nat.le_of_ble_eq_true rfl) (by kernel_rfl) (fun B F0 w0 => ?_)
  have hl := LQ_val (hr.mono (Nat.le_max_left k 1)) (Nat.le_max_right k 1)
  have hm := LQ_val (hs.mono (Nat.le_max_left k 1)) (Nat.le_max_right k 1)
  have := Lnum r.val; have := Lden r.val; have := Lnum s.val; have := Lden s.val
  obtain ⟨d1, d2, d3⟩ := div_sz hl hm h0
  rw [← div_divInt r.val s.val h0]
  refine AW.seq ?_
  refine AW.region ?_
  refine AOps.run tok 4 _ _ _ _ rfl ?_
  refine AOps.nil ?_
  refine AW.seq ?_
  refine AW.region ?_
  refine AOps.run tok 1 _ _ _ _ rfl ?_
  refine AOps.call tok rfl rfl rfl rfl (r02_Parts_ok r hr (by omega)) ?_
  refine AOps.run tok 7 _ _ _ _ rfl ?_
  refine AOps.nil ?_
  refine AW.seq ?_
  refine AW.region ?_
  refine AOps.run tok 1 _ _ _ _ rfl ?_
  refine AOps.call tok rfl rfl rfl rfl (r02_Parts_ok s hs (by omega)) ?_
  refine AOps.run tok 7 _ _ _ _ rfl ?_
  refine AOps.nil ?_
  refine AW.seq ?_
  refine AW.draw hmix 9 (by kernel_rfl) ?_
  refine APre.run tok 2 _ _ _ _ rfl ?_
  refine APre.call tok rfl rfl rfl rfl rfl (r01_Mul_ok r.val.num s.val.den (by omega) (by omega)) ?_
  refine APre.run tok 2 _ _ _ _ rfl ?_
  refine APre.call tok rfl rfl rfl rfl rfl (r01_Mul_ok r.val.den s.val.num (by omega) (by omega)) ?_
  refine APre.call tok rfl rfl rfl rfl rfl (r02_From_ok (r.val.num * s.val.den) (r.val.den * s.val.num) (by omega) (by omega) d3) ?_
  refine APre.run tok 2 _ _ _ _ rfl ?_
  refine APre.nil ?_
  refine AOps.run tok 2 _ _ _ _ rfl ?_
  refine AOps.nil ?_
  exact AW.ret rfl
theorem r12_one_ok : Pure Tryz.prog 80 [] (Qr ((1 : Int) : Rat)).D := by
  refine Pure.intro (n := 2) tok Tryz.func80 rfl rfl rfl (Nat.le_of_ble_eq_true rfl) (by kernel_rfl) (fun B F0 w0 => ?_)
  refine AW.seq ?_
  refine AW.region ?_
  refine AOps.run tok 1 _ _ _ _ rfl ?_
  refine AOps.nil ?_
  refine AW.seq ?_
  refine AW.region ?_
  refine AOps.call tok rfl rfl rfl rfl (r02_Of_ok 1 (by omega) (by omega)) ?_
  refine AOps.run tok 1 _ _ _ _ rfl ?_
  refine AOps.nil ?_
  exact AW.ret rfl
theorem r12_over_ok (r s : RD) {k : Nat} (hr : r.w k) (hs : s.w k) (hk : k ≤ 20000000) (h0 : s.val ≠ 0) : Pure Tryz.prog 79 [r.D, s.D] (Qr (r.val / s.val)).D := by
  refine Pure.intro (n := 14) tok Tryz.func79 rfl rfl rfl (Nat.le_of_ble_eq_true rfl) (by kernel_rfl) (fun B F0 w0 => ?_)
  refine AW.seq ?_
  refine AW.region ?_
  refine AOps.run tok 3 _ _ _ _ rfl ?_
  refine AOps.nil ?_
  refine AW.seq ?_
  refine AW.region ?_
  refine AOps.run tok 2 _ _ _ _ rfl ?_
  refine AOps.call tok rfl rfl rfl rfl (r02_Div_ok r s hr hs hk h0) ?_
  refine AOps.run tok 6 _ _ _ _ rfl ?_
  refine AOps.nil ?_
  refine AW.seq ?_
  refine AW.region ?_
  refine AOps.run tok 2 _ _ _ _ rfl ?_
  refine AOps.nil ?_
  exact AW.ret rfl
theorem r12_Neg_ok (v : Option Rat) {k : Nat} (hv : szT v ≤ k) (hk : k ≤ 20000000) : Pure Tryz.prog 47 [(TQ v).D] (TQ (negT v)).D := by
  refine Pure.intro (n := 9) tok Tryz.func47 rfl rfl rfl (Nat.le_of_ble_eq_true rfl) (by kernel_rfl) (fun B F0 w0 => ?_)
  have cN := r02_Neg_ok (TQ v).t (szT_w v hv) hk
  have e : (Qr (-(TQ v).t.val)) = (TQ (negT v)).t ∧ (TQ v).h = (TQ (negT v)).h := by
    cases v with
    | none => exact ⟨by show Qr (-(Qr 0).val) = Qr 0; rw [Qr_val]; rfl, rfl⟩
    | some q => exact ⟨by show Qr (-(Qr q).val) = Qr (-q); rw [Qr_val], rfl⟩
  rw [e.1] at cN
  refine AW.seq ?_
  refine AW.region ?_
  refine AOps.run tok 2 _ _ _ _ rfl ?_
  refine AOps.nil ?_
  refine AW.seq ?_
  refine AW.draw hmix 6 (by kernel_rfl) ?_
  refine APre.run tok 2 _ _ _ _ rfl ?_
  refine APre.call tok rfl rfl rfl rfl rfl cN ?_
  refine APre.run tok 3 _ _ _ _ rfl ?_
  rw [e.2]
  refine APre.nil ?_
  refine AOps.run tok 1 _ _ _ _ rfl ?_
  refine AOps.nil ?_
  exact AW.ret rfl
theorem r12_Add_nn : Pure Tryz.prog 48 [(TQ none).D, (TQ none).D] (TQ (some 0)).D := by
  refine Pure.intro (n := 58) tok Tryz.func48 rfl rfl rfl (Nat.le_of_ble_eq_true rfl) (by kernel_rfl) (fun B F0 w0 => ?_)
  rw [TQ0]
  refine AW.seq ?_
  refine AW.region ?_
  refine AOps.run tok 3 _ _ _ _ rfl ?_
  refine AOps.nil ?_
  refine AW.seq ?_
  refine AW.block ?_
  refine AW.seq ?_
  refine AW.region ?_
  refine AOps.run tok 7 _ _ _ _ rfl ?_
  refine AOps.nil ?_
  refine AW.condT rfl ?_
  refine AW.seq ?_
  refine AW.region ?_
  refine AOps.run tok 2 _ _ _ _ rfl ?_
  refine AOps.nil ?_
  exact AW.ret rfl
theorem r12_Add_ns (y : Rat) {k : Nat} (hy : LQ y ≤ k) (hk : k ≤ 1000000) : Pure Tryz.prog 48 [(TQ none).D, (TQ (some y)).D] (TQ (addT none (some y))).D := by
  refine Pure.intro (n := 58) tok Tryz.func48 rfl rfl rfl (Nat.le_of_ble_eq_true rfl) (by kernel_rfl) (fun B F0 w0 => ?_)
  rw [show addT none (some y) = if y = 0 then none else some (-1 / y) from rfl]
  have q1 := LQ_one
  have cS := r02_Sign_ok (Qr y) (k := k) (Qr_w _ hy) (by omega)
  rw [Qr_val] at cS
  refine AW.seq ?_
  refine AW.region ?_
  refine AOps.run tok 3 _ _ _ _ rfl ?_
  refine AOps.nil ?_
  refine AW.seq ?_
  refine AW.block ?_
  refine AW.seq ?_
  refine AW.region ?_
  refine AOps.run tok 7 _ _ _ _ rfl ?_
  refine AOps.nil ?_
  refine AW.condF rfl ?_
  refine AW.seq ?_
  refine AW.region ?_
  refine AOps.run tok 3 _ _ _ _ rfl ?_
  refine AOps.nil ?_
  refine AW.condF rfl ?_
  refine AW.seq ?_
  refine AW.region ?_
  refine AOps.run tok 5 _ _ _ _ rfl ?_
  refine AOps.call tok rfl rfl rfl rfl cS ?_
  refine AOps.run tok 3 _ _ _ _ rfl ?_
  refine AOps.nil ?_
  refine AW.cond rfl (fun h => ?_) (fun h => ?_)
  · have h0 : y = 0 := sgI0.1 (by simpa using h)
    rw [if_pos h0]
    refine AW.seq ?_
    refine AW.region ?_
    refine AOps.run tok 2 _ _ _ _ rfl ?_
    refine AOps.nil ?_
    exact AW.ret rfl
  · have h0 : ¬ y = 0 := fun e => by rw [e] at h; cases h
    rw [if_neg h0]
    have q2 := LQ_div (r := 1) h0
    have e1 : (Qr ((1 : Int) : Rat)).val / (Qr y).val = 1 / y := by rw [Qr_val, Qr_val]; rfl
    have cO := r12_over_ok (Qr ((1 : Int) : Rat)) (Qr y) (k := 1000001) (Qr_w _ (Nat.le_trans q1 (by decide))) (Qr_w _ (by omega)) (by decide) (by rw [Qr_val]; exact h0)
    rw [e1] at cO
    have cN := r02_Neg_ok (Qr (1 / y)) (k := 1000001) (Qr_w _ (by omega)) (by decide)
    rw [Qr_val, show -(1 / y) = -1 / y by grind] at cN
    refine AW.seq ?_
    refine AW.region ?_
    refine AOps.run tok 3 _ _ _ _ rfl ?_
    refine AOps.nil ?_
    refine AW.condT rfl ?_
    refine AW.seq ?_
    refine AW.draw hmix 6 (by kernel_rfl) ?_
    refine APre.call tok rfl rfl rfl rfl rfl r12_one_ok ?_
    refine APre.run tok 2 _ _ _ _ rfl ?_
    refine APre.call tok rfl rfl rfl rfl rfl cO ?_
    refine APre.call tok rfl rfl rfl rfl rfl cN ?_
    refine APre.run tok 1 _ _ _ _ rfl ?_
    refine APre.nil ?_
    refine AOps.run tok 1 _ _ _ _ rfl ?_
    refine AOps.nil ?_
    exact AW.ret rfl
theorem r12_Add_sn (x : Rat) {k : Nat} (hx : LQ x ≤ k) (hk : k ≤ 1000000) : Pure Tryz.prog 48 [(TQ (some x)).D, (TQ none).D] (TQ (addT (some x) none)).D := by
  refine Pure.intro (n := 58) tok Tryz.func48 rfl rfl rfl (Nat.le_of_ble_eq_true rfl) (by kernel_rfl) (fun B F0 w0 => ?_)
  rw [show addT (some x) none = addT none (some x) from rfl]
  refine AW.seq ?_
  refine AW.region ?_
  refine AOps.run tok 3 _ _ _ _ rfl ?_
  refine AOps.nil ?_
  refine AW.seq ?_
  refine AW.block ?_
  refine AW.seq ?_
  refine AW.region ?_
  refine AOps.run tok 7 _ _ _ _ rfl ?_
  refine AOps.nil ?_
  refine AW.condF rfl ?_
  refine AW.seq ?_
  refine AW.region ?_
  refine AOps.run tok 3 _ _ _ _ rfl ?_
  refine AOps.nil ?_
  refine AW.condT rfl ?_
  refine AW.seq ?_
  refine AW.region ?_
  refine AOps.run tok 2 _ _ _ _ rfl ?_
  refine AOps.call tok rfl rfl rfl rfl (r12_Add_ns x hx hk) ?_
  refine AOps.run tok 1 _ _ _ _ rfl ?_
  refine AOps.nil ?_
  exact AW.ret rfl
theorem r12_Add_ss (x y : Rat) {k : Nat} (hx : LQ x ≤ k) (hy : LQ y ≤ k) (hk : k ≤ 1000000) : Pure Tryz.prog 48 [(TQ (some x)).D, (TQ (some y)).D] (TQ (addT (some x) (some y))).D := by
  refine Pure.intro (n := 58) tok Tryz.func48 rfl rfl rfl (Nat.le_of_ble_eq_true rfl) (by kernel_rfl) (fun B F0 w0 => ?_)
  rw [show addT (some x) (some y) = if 1 - x * y = 0 then none else some ((x + y) / (1 - x * y)) from rfl]
  have q1 := LQ_one
  have q2 := LQ_mul x y
  have q3 := LQ_sub 1 (x * y)
  have q4 := LQ_add x y
  have cM := r02_Mul_ok (Qr x) (Qr y) (k := k) (Qr_w _ hx) (Qr_w _ hy) (by omega)
  rw [Qr_val, Qr_val] at cM
  have cB := r02_Sub_ok (Qr ((1 : Int) : Rat)) (Qr (x * y)) (k := 2000000) (Qr_w _ (Nat.le_trans q1 (by decide))) (Qr_w _ (by omega)) (by decide)
  rw [Qr_val, Qr_val, show ((1 : Int) : Rat) - x * y = 1 - x * y from rfl] at cB
  have cS := r02_Sign_ok (Qr (1 - x * y)) (k := 2000002) (Qr_w _ (by omega)) (by decide)
  rw [Qr_val] at cS
  have cA := r02_Add_ok (Qr x) (Qr y) (k := k) (Qr_w _ hx) (Qr_w _ hy) (by omega)
  rw [Qr_val, Qr_val] at cA
  refine AW.seq ?_
  refine AW.region ?_
  refine AOps.run tok 3 _ _ _ _ rfl ?_
  refine AOps.nil ?_
  refine AW.seq ?_
  refine AW.block ?_
  refine AW.seq ?_
  refine AW.region ?_
  refine AOps.run tok 7 _ _ _ _ rfl ?_
  refine AOps.nil ?_
  refine AW.condF rfl ?_
  refine AW.seq ?_
  refine AW.region ?_
  refine AOps.run tok 3 _ _ _ _ rfl ?_
  refine AOps.nil ?_
  refine AW.condF rfl ?_
  refine AW.seq ?_
  refine AW.region ?_
  refine AOps.run tok 9 _ _ _ _ rfl ?_
  refine AOps.nil ?_
  refine AW.condF rfl ?_
  refine AW.seq ?_
  refine AW.region ?_
  refine AOps.run tok 3 _ _ _ _ rfl ?_
  refine AOps.nil ?_
  refine AW.condF rfl ?_
  refine AW.skip ?_
  refine AW.seq ?_
  refine AW.draw hmix 8 (by kernel_rfl) ?_
  refine APre.call tok rfl rfl rfl rfl rfl r12_one_ok ?_
  refine APre.run tok 4 _ _ _ _ rfl ?_
  refine APre.call tok rfl rfl rfl rfl rfl cM ?_
  refine APre.call tok rfl rfl rfl rfl rfl cB ?_
  refine APre.run tok 1 _ _ _ _ rfl ?_
  refine APre.nil ?_
  refine AOps.run tok 1 _ _ _ _ rfl ?_
  refine AOps.nil ?_
  refine AW.seq ?_
  refine AW.seq ?_
  refine AW.region ?_
  refine AOps.run tok 1 _ _ _ _ rfl ?_
  refine AOps.call tok rfl rfl rfl rfl cS ?_
  refine AOps.run tok 1 _ _ _ _ rfl ?_
  refine AOps.nil ?_
  refine AW.cond rfl (fun h => ?_) (fun h => ?_)
  · have h0 : 1 - x * y = 0 := sgI0.1 (by simpa using h)
    rw [if_pos h0, show (TQ none).D = .ag [dB false, .sl 1 [], .sl 1 [], dB true] by show (TD.mk (Qr 0) true).D = _; rw [Qr_zero]; rfl]
    refine AW.seq ?_
    refine AW.region ?_
    refine AOps.run tok 2 _ _ _ _ rfl ?_
    refine AOps.nil ?_
    exact AW.ret rfl
  · have h0 : ¬ 1 - x * y = 0 := fun e => by rw [e] at h; cases h
    rw [if_neg h0]
    have cO := r12_over_ok (Qr (x + y)) (Qr (1 - x * y)) (k := 2000002) (Qr_w _ (by omega)) (Qr_w _ (by omega)) (by decide) (by rw [Qr_val]; exact h0)
    rw [Qr_val, Qr_val] at cO
    refine AW.skip ?_
    refine AW.seq ?_
    refine AW.draw hmix 8 (by kernel_rfl) ?_
    refine APre.run tok 4 _ _ _ _ rfl ?_
    refine APre.call tok rfl rfl rfl rfl rfl cA ?_
    refine APre.run tok 1 _ _ _ _ rfl ?_
    refine APre.call tok rfl rfl rfl rfl rfl cO ?_
    refine APre.run tok 1 _ _ _ _ rfl ?_
    refine APre.nil ?_
    refine AOps.run tok 1 _ _ _ _ rfl ?_
    refine AOps.nil ?_
    exact AW.ret rfl
theorem r12_Add_ok (a b : Option Rat) {k : Nat} (ha : szT a ≤ k) (hb : szT b ≤ k) (hk : k ≤ 1000000) : Pure Tryz.prog 48 [(TQ a).D, (TQ b).D] (TQ (addT a b)).D := by
  cases a with
  | none =>
    cases b with
    | none => exact r12_Add_nn
    | some y => exact r12_Add_ns y hb hk
  | some x =>
    cases b with
    | none => exact r12_Add_sn x ha hk
    | some y => exact r12_Add_ss x y ha hb hk
end Lift
/- Trains with all given values multiplied, chains of meshes, one speed changed: what their elimination answers. -/
namespace Lift
open Go Go.Proofs

theorem fE_none {f : Nat → Nat} : ∀ {m i : Nat}, (∀ k, i ≤ k → k < i + m → f k = 0) → fE f m i = 0
  | 0, _, _ => rfl
  | m + 1, i, h => by
    simp only [fE]
    rw [if_pos (h i (Nat.le_refl _) (by omega))]
    exact fE_none fun k h1 h2 => h k (by omega) (by omega)
theorem chkT_mk {x : Trn} (h : TOkT x) : chkT x = 0 := by
  have e1 : mshsE x.n x.ms = 0 := fE_none fun k _ h2 => h.m k (by omega)
  have e2 : pltsE x.n x.ps = 0 := fE_none fun k _ h2 => h.p k (by omega)
  have e3 : spdsE x.n x.gs = 0 := fE_none fun k _ h2 => h.g k (by omega)
  have := h.n1; have := h.n2; have := h.ms; have := h.ps; have := h.gs
  unfold chkT
  rw [if_neg (by omega), if_neg (by omega), if_neg (by rw [e1]; simp), if_neg (by rw [e2]; simp), e3]
theorem getD_map_lt {α β : Type} (f : α → β) (a : α) (b : β) {l : List α} {i : Nat} (h : i < l.length) : (l.map f).getD i b = f (l.getD i a) := by
  rw [List.getD_eq_getElem?_getD, List.getD_eq_getElem?_getD, List.getElem?_map, List.getElem?_eq_getElem h]; rfl
theorem getD_app_l {α : Type} (a : α) {l m : List α} {i : Nat} (h : i < l.length) : (l ++ m).getD i a = l.getD i a := by
  rw [List.getD_eq_getElem?_getD, List.getD_eq_getElem?_getD, List.getElem?_append_left h]
theorem getD_app_r {α : Type} (a : α) {l m : List α} {i : Nat} (h : l.length ≤ i) : (l ++ m).getD i a = m.getD (i - l.length) a := by
  rw [List.getD_eq_getElem?_getD, List.getD_eq_getElem?_getD, List.getElem?_append_right h]
/-- The rows are those of the meshes, then those of the planets, then those of the speeds. -/
theorem rowsM_get (x : Trn) {j : Nat} (hj : j < (rowsM x).length) : (j < x.ms.length ∧ (rowsM x).getD j [] = rwM x.n (x.ms.getD j default)) ∨
    (x.ms.length ≤ j ∧ j - x.ms.length < x.ps.length ∧ (rowsM x).getD j [] = rwP x.n (x.ps.getD (j - x.ms.length) default)) ∨
    (x.ms.length + x.ps.length ≤ j ∧ j - (x.ms.length + x.ps.length) < x.gs.length ∧ (rowsM x).getD j [] = rwS x.n (x.gs.getD (j - (x.ms.length + x.ps.length)) default)) := by
  unfold rowsM at hj ⊢
  rw [List.length_append, List.length_append, List.length_map, List.length_map, List.length_map] at hj
  rcases Nat.lt_or_ge j x.ms.length with h | h
  · refine .inl ⟨h, ?_⟩
    rw [getD_app_l _ (by rw [List.length_append, List.length_map]; omega), getD_app_l _ (by rw [List.length_map]; omega), getD_map_lt _ default _ h]
  · rcases Nat.lt_or_ge j (x.ms.length + x.ps.length) with h2 | h2
    · refine .inr (.inl ⟨h, by omega, ?_⟩)
      rw [getD_app_l _ (by rw [List.length_append, List.length_map, List.length_map]; omega), getD_app_r _ (by rw [List.length_map]; omega), List.length_map, getD_map_lt _ default _ (by omega)]
    · refine .inr (.inr ⟨h2, by omega, ?_⟩)
      rw [getD_app_r _ (by rw [List.length_append, List.length_map, List.length_map]; omega), List.length_append, List.length_map, List.length_map, getD_map_lt _ default _ (by omega)]
theorem rowsM_count (x : Trn) : (rowsM x).length = x.ms.length + x.ps.length + x.gs.length := by
  unfold rowsM
  rw [List.length_append, List.length_append, List.length_map, List.length_map, List.length_map]
theorem rwM_f {n : Int} {m : Msh} (h1 : 1 ≤ n) (h : mshE n m = 0) (c : Nat) : (rwM n m).getD c 0 = if c = m.b.toNat then (((if m.inn = true then -m.tb else m.tb : Int)) : Rat) else if c = m.a.toNat then (m.ta : Rat) else 0 := by
  have := mshE_ok h
  unfold rwM
  rw [getD_set_f, getD_set_f, zrR_get, List.length_set, zrR_len h1]
  have e1 : (c = m.b.toNat ∧ m.b.toNat < n.toNat + 1) ↔ c = m.b.toNat := ⟨fun h => h.1, fun h => ⟨h, by omega⟩⟩
  have e2 : (c = m.a.toNat ∧ m.a.toNat < n.toNat + 1) ↔ c = m.a.toNat := ⟨fun h => h.1, fun h => ⟨h, by omega⟩⟩
  simp only [e1, e2]
  rfl
theorem rwP_f {n : Int} {m : Plt} (h1 : 1 ≤ n) (h : pltE n m = 0) (c : Nat) : (rwP n m).getD c 0 = if c = m.c.toNat then ((-m.ts - m.tr : Int) : Rat) else if c = m.r.toNat then (m.tr : Rat) else if c = m.s.toNat then (m.ts : Rat) else 0 := by
  have := pltE_ok h
  unfold rwP
  rw [getD_set_f, getD_set_f, getD_set_f, zrR_get, List.length_set, List.length_set, zrR_len h1]
  have e1 : (c = m.c.toNat ∧ m.c.toNat < n.toNat + 1) ↔ c = m.c.toNat := ⟨fun h => h.1, fun h => ⟨h, by omega⟩⟩
  have e2 : (c = m.r.toNat ∧ m.r.toNat < n.toNat + 1) ↔ c = m.r.toNat := ⟨fun h => h.1, fun h => ⟨h, by omega⟩⟩
  have e3 : (c = m.s.toNat ∧ m.s.toNat < n.toNat + 1) ↔ c = m.s.toNat := ⟨fun h => h.1, fun h => ⟨h, by omega⟩⟩
  simp only [e1, e2, e3]
  rfl
theorem rwS_f {n : Int} {m : Spd} (h1 : 1 ≤ n) (h : spdE n m = 0) (c : Nat) : (rwS n m).getD c 0 = if c = n.toNat then m.v.val else if c = m.sh.toNat then 1 else 0 := by
  have := spdE_ok h
  unfold rwS
  rw [getD_set_f, getD_set_f, zrR_get, List.length_set, zrR_len h1]
  have e1 : (c = n.toNat ∧ n.toNat < n.toNat + 1) ↔ c = n.toNat := ⟨fun h => h.1, fun h => ⟨h, by omega⟩⟩
  have e2 : (c = m.sh.toNat ∧ m.sh.toNat < n.toNat + 1) ↔ c = m.sh.toNat := ⟨fun h => h.1, fun h => ⟨h, by omega⟩⟩
  simp only [e1, e2]
  rfl

/-! All given values multiplied. -/
def sclS (b : Rat) (s : Spd) : Spd := ⟨s.sh, Qr (s.v.val * b)⟩
def sclX (b : Rat) (x : Trn) : Trn := ⟨x.n, x.ms, x.ps, x.gs.map (sclS b)⟩
theorem scl_T {b : Rat} {x : Trn} (h : TOkT x) : TOkT (sclX b x) :=
  ⟨h.n1, h.n2, h.ms, h.ps, by show (x.gs.map (sclS b)).length ≤ 32; rw [List.length_map]; exact h.gs, h.m, h.p, fun i hi => by
    have hi : i < (x.gs.map (sclS b)).length := hi
    rw [List.length_map] at hi
    show spdE x.n ((x.gs.map (sclS b)).getD i default) = 0
    rw [getD_map_lt (sclS b) default _ hi]
    have := spdE_ok (h.g i hi)
    unfold spdE
    rw [if_neg (by show ¬ inS x.n (x.gs.getD i default).sh = false; rw [inS_yes.2 this.1]; simp), if_neg (by show ¬ (Qr _).okB = false; rw [Qr_ok]; simp)]⟩
theorem scl_out {b : Rat} {x : Trn} (h : TOkT x) {l : List Rat} (ho : outG x.n.toNat (rowsM x) = .val l) : outG x.n.toNat (rowsM (sclX b x)) = .val (l.map (· * b)) := by
  have h2 := scl_T (b := b) h
  have r1 := outG_right (rowsM_rect h)
  have r2 := outG_right (rowsM_rect h2)
  rw [ho] at r1
  have hl : (rowsM (sclX b x)).length = (rowsM x).length := by rw [rowsM_count, rowsM_count]; show _ + _ + (x.gs.map (sclS b)).length = _; rw [List.length_map]; rfl
  have hn : (sclX b x).n.toNat = x.n.toNat := rfl
  rw [hn, hl] at r2
  refine Right.unique r2 (Right.scale r1 b (fun j c hj hc => ?_) (fun j hj => ?_))
  · have hj2 : j < (rowsM (sclX b x)).length := by omega
    unfold fM
    rcases rowsM_get x hj with ⟨g1, g2⟩ | ⟨g1, g2, g3⟩ | ⟨g1, g2, g3⟩
    · rcases rowsM_get (sclX b x) hj2 with ⟨e1, e2⟩ | ⟨e1, e2, e3⟩ | ⟨e1, e2, e3⟩
      · rw [g2, e2]; rfl
      · exact absurd e1 (by show ¬ x.ms.length ≤ j; omega)
      · exact absurd e1 (by show ¬ x.ms.length + x.ps.length ≤ j; omega)
    · rcases rowsM_get (sclX b x) hj2 with ⟨e1, e2⟩ | ⟨e1, e2, e3⟩ | ⟨e1, e2, e3⟩
      · exact absurd e1 (by show ¬ j < x.ms.length; omega)
      · rw [g3, e3]; rfl
      · exact absurd e1 (by show ¬ x.ms.length + x.ps.length ≤ j; omega)
    · rcases rowsM_get (sclX b x) hj2 with ⟨e1, e2⟩ | ⟨e1, e2, e3⟩ | ⟨e1, e2, e3⟩
      · exact absurd e1 (by show ¬ j < x.ms.length; omega)
      · exact absurd e2 (by show ¬ j - x.ms.length < x.ps.length; omega)
      · rw [g3, e3]
        have hg := h.g _ g2
        have hg2 := h2.g _ e2
        rw [rwS_f h.n1 hg, rwS_f h2.n1 hg2, if_neg (show ¬ c = (sclX b x).n.toNat by show ¬ c = x.n.toNat; omega), if_neg (show ¬ c = x.n.toNat by omega)]
        have : ((sclX b x).gs.getD (j - ((sclX b x).ms.length + (sclX b x).ps.length)) default).sh = (x.gs.getD (j - (x.ms.length + x.ps.length)) default).sh := by
          show ((x.gs.map (sclS b)).getD (j - (x.ms.length + x.ps.length)) default).sh = _
          rw [getD_map_lt (sclS b) default _ g2]; rfl
        rw [this]
  · have hj2 : j < (rowsM (sclX b x)).length := by omega
    unfold fM
    rcases rowsM_get x hj with ⟨g1, g2⟩ | ⟨g1, g2, g3⟩ | ⟨g1, g2, g3⟩
    · rcases rowsM_get (sclX b x) hj2 with ⟨e1, e2⟩ | ⟨e1, e2, e3⟩ | ⟨e1, e2, e3⟩
      · have e2 : (rowsM (sclX b x)).getD j [] = rwM x.n (x.ms.getD j default) := e2
        have hm := h.m _ g1
        have := mshE_ok hm
        rw [g2, e2, rwM_f h.n1 hm, if_neg (by omega), if_neg (by omega)]; grind
      · exact absurd e1 (by show ¬ x.ms.length ≤ j; omega)
      · exact absurd e1 (by show ¬ x.ms.length + x.ps.length ≤ j; omega)
    · rcases rowsM_get (sclX b x) hj2 with ⟨e1, e2⟩ | ⟨e1, e2, e3⟩ | ⟨e1, e2, e3⟩
      · exact absurd e1 (by show ¬ j < x.ms.length; omega)
      · have e3 : (rowsM (sclX b x)).getD j [] = rwP x.n (x.ps.getD (j - x.ms.length) default) := e3
        have hm := h.p _ g2
        have := pltE_ok hm
        rw [g3, e3, rwP_f h.n1 hm, if_neg (by omega), if_neg (by omega), if_neg (by omega)]; grind
      · exact absurd e1 (by show ¬ x.ms.length + x.ps.length ≤ j; omega)
    · rcases rowsM_get (sclX b x) hj2 with ⟨e1, e2⟩ | ⟨e1, e2, e3⟩ | ⟨e1, e2, e3⟩
      · exact absurd e1 (by show ¬ j < x.ms.length; omega)
      · exact absurd e2 (by show ¬ j - x.ms.length < x.ps.length; omega)
      · rw [g3, e3]
        have hg := h.g _ g2
        have hg2 := h2.g _ e2
        rw [rwS_f h.n1 hg, rwS_f h2.n1 hg2, if_pos (show x.n.toNat = (sclX b x).n.toNat from rfl), if_pos rfl]
        have : ((sclX b x).gs.getD (j - ((sclX b x).ms.length + (sclX b x).ps.length)) default).v.val = (x.gs.getD (j - (x.ms.length + x.ps.length)) default).v.val * b := by
          show ((x.gs.map (sclS b)).getD (j - (x.ms.length + x.ps.length)) default).v.val = _
          rw [getD_map_lt (sclS b) default _ g2]; exact Qr_val _
        rw [this]; grind

/-! A chain of meshes. -/
def fR (m : Msh) : Rat := if m.inn = true then Rat.divInt m.ta m.tb else -(Rat.divInt m.ta m.tb)
def chR (l : List Msh) (i : Nat) : Rat := chP (fun i => fR (l.getD i default)) i
def chm (l : List Msh) (i : Nat) : Msh := { l.getD i default with a := (i : Int), b := (i : Int) + 1 }
def chX (l : List Msh) : Trn := ⟨(l.length : Int) + 1, (List.range l.length).map (chm l), [], [⟨0, Qr ((1 : Int) : Rat)⟩]⟩
theorem chm_get (l : List Msh) {i : Nat} (h : i < l.length) : ((List.range l.length).map (chm l)).getD i default = chm l i := by
  rw [getD_map_lt (chm l) 0 _ (by rw [List.length_range]; exact h)]
  rw [List.getD_eq_getElem?_getD, List.getElem?_range h]; rfl
theorem ch_T {l : List Msh} (hl : l.length < 16) (ht : ∀ i, i < l.length → thB (l.getD i default).ta (l.getD i default).tb = true) : TOkT (chX l) := by
  refine ⟨by show (1 : Int) ≤ (l.length : Int) + 1; omega, by show (l.length : Int) + 1 ≤ 16; omega, by show ((List.range l.length).map (chm l)).length ≤ 32; rw [List.length_map, List.length_range]; omega, by show 0 ≤ 32; omega, by show 1 ≤ 32; omega, fun i hi => ?_, fun i hi => absurd hi (by show ¬ i < 0; omega), fun i hi => ?_⟩
  · have hi : i < l.length := by simpa [chX] using hi
    show mshE ((l.length : Int) + 1) (((List.range l.length).map (chm l)).getD i default) = 0
    rw [chm_get l hi]
    unfold mshE chm
    dsimp only
    rw [inS_yes.2 (by omega), inS_yes.2 (by omega), if_neg (by simp), if_neg (by omega), if_neg (by rw [ht i hi]; simp)]
  · have hi : i = 0 := by simpa [chX] using hi
    subst hi
    show spdE ((l.length : Int) + 1) ⟨0, Qr ((1 : Int) : Rat)⟩ = 0
    unfold spdE
    dsimp only
    rw [inS_yes.2 (by omega), if_neg (by simp), if_neg (by rw [Qr_ok]; simp)]
theorem divInt_mul {a b : Int} (hb : b ≠ 0) : Rat.divInt a b * (b : Rat) = (a : Rat) := by
  rw [divInt_eq, Rat.div_def, Rat.mul_assoc, Rat.inv_mul_cancel _ (cast_ne hb), Rat.mul_one]
theorem ch_out {l : List Msh} (hl : l.length < 16) (ht : ∀ i, i < l.length → thB (l.getD i default).ta (l.getD i default).tb = true) : outG (l.length + 1) (rowsM (chX l)) = .val ((List.range (l.length + 1)).map (chR l)) := by
  have h := ch_T hl ht
  have r1 := outG_right (rowsM_rect h)
  have hn : (chX l).n.toNat = l.length + 1 := by show ((l.length : Int) + 1).toNat = _; omega
  have hc : (rowsM (chX l)).length = l.length + 1 := by rw [rowsM_count]; show ((List.range l.length).map (chm l)).length + 0 + 1 = _; rw [List.length_map, List.length_range]
  rw [hn, hc] at r1
  have hth : ∀ i, i < l.length → (1 ≤ (l.getD i default).ta ∧ (l.getD i default).ta ≤ 10000) ∧ 1 ≤ (l.getD i default).tb ∧ (l.getD i default).tb ≤ 10000 := fun i hi => of_decide_eq_true (ht i hi)
  refine Right.unique r1 (chain_right (ta := fun i => ((l.getD i default).ta : Rat)) (b := fun i => (((if (l.getD i default).inn = true then -(l.getD i default).tb else (l.getD i default).tb : Int)) : Rat)) (fun i hi => ?_) (fun i hi => ?_) (fun j c hj hc' => ?_) (fun j hj => ?_) (fun c hc' => ?_) ?_)
  · have := hth i hi
    refine cast_ne ?_
    split <;> omega
  · have := hth i hi
    have hd := divInt_mul (a := (l.getD i default).ta) (b := (l.getD i default).tb) (by omega)
    unfold fR
    split
    · rw [Rat.intCast_neg]; grind
    · grind
  · rcases rowsM_get (chX l) (j := j) (by omega) with ⟨e1, e2⟩ | ⟨e1, e2, e3⟩ | ⟨e1, e2, e3⟩
    · unfold fM
      have hm := h.m j e1
      rw [e2, rwM_f h.n1 hm]
      have : (chX l).ms.getD j default = chm l j := chm_get l hj
      rw [this]
      show (if c = ((j : Int) + 1).toNat then _ else if c = (j : Int).toNat then _ else _) = _
      rw [show ((j : Int) + 1).toNat = j + 1 by omega, Int.toNat_natCast]
      by_cases h1 : c = j
      · rw [if_neg (by omega), if_pos h1, if_pos h1]; rfl
      · rw [if_neg h1, if_neg h1]; rfl
    · exact absurd e2 (by show ¬ j - _ < 0; omega)
    · exact absurd e1 (by show ¬ ((List.range l.length).map (chm l)).length + 0 ≤ j; rw [List.length_map, List.length_range]; omega)
  · rcases rowsM_get (chX l) (j := j) (by omega) with ⟨e1, e2⟩ | ⟨e1, e2, e3⟩ | ⟨e1, e2, e3⟩
    · unfold fM
      have hm := h.m j e1
      rw [e2, rwM_f h.n1 hm]
      have : (chX l).ms.getD j default = chm l j := chm_get l hj
      rw [this]
      show (if l.length + 1 = ((j : Int) + 1).toNat then _ else if l.length + 1 = (j : Int).toNat then _ else _) = _
      rw [if_neg (by omega), if_neg (by omega)]
    · exact absurd e2 (by show ¬ j - _ < 0; omega)
    · exact absurd e1 (by show ¬ ((List.range l.length).map (chm l)).length + 0 ≤ j; rw [List.length_map, List.length_range]; omega)
  · rcases rowsM_get (chX l) (j := l.length) (by omega) with ⟨e1, e2⟩ | ⟨e1, e2, e3⟩ | ⟨e1, e2, e3⟩
    · exact absurd e1 (by show ¬ l.length < ((List.range l.length).map (chm l)).length; rw [List.length_map, List.length_range]; omega)
    · exact absurd e2 (by show ¬ l.length - _ < 0; omega)
    · unfold fM
      have hg := h.g _ e2
      rw [e3, rwS_f h.n1 hg, hn, if_neg (by omega)]
      have e0 : l.length - ((chX l).ms.length + (chX l).ps.length) = 0 := by show l.length - (((List.range l.length).map (chm l)).length + 0) = 0; rw [List.length_map, List.length_range]; omega
      rw [e0]
      rfl
  · rcases rowsM_get (chX l) (j := l.length) (by omega) with ⟨e1, e2⟩ | ⟨e1, e2, e3⟩ | ⟨e1, e2, e3⟩
    · exact absurd e1 (by show ¬ l.length < ((List.range l.length).map (chm l)).length; rw [List.length_map, List.length_range]; omega)
    · exact absurd e2 (by show ¬ l.length - _ < 0; omega)
    · unfold fM
      have hg := h.g _ e2
      rw [e3, rwS_f h.n1 hg, hn, if_pos rfl]
      have e0 : l.length - ((chX l).ms.length + (chX l).ps.length) = 0 := by show l.length - (((List.range l.length).map (chm l)).length + 0) = 0; rw [List.length_map, List.length_range]; omega
      rw [e0]
      show (Qr ((1 : Int) : Rat)).val = 1
      rw [Qr_val]; rfl

/-! How large the speeds are. -/
theorem goG_sz (n : Nat) : ∀ (m k d : Nat) (a b : Mt) (e : Nat), Rect a (n + 1) → d ≤ a.length → d ≤ k → SzM (Xs d) (fM a) → goG n m k d a = some (b, e) → e ≤ k + m ∧ SzM (Xs e) (fM b)
  | 0, k, d, a, b, e, hR, hd, hdk, hs, h => by
    simp only [goG, Option.some.injEq, Prod.mk.injEq] at h
    obtain ⟨rfl, rfl⟩ := h
    exact ⟨by omega, hs⟩
  | m + 1, k, d, a, b, e, hR, hd, hdk, hs, h => by
    simp only [goG] at h
    split at h
    · rename_i hda
      split at h
      · have := goG_sz n m (k + 1) d a b e hR hd (by omega) hs h
        exact ⟨by omega, this.2⟩
      · rename_i hat
        split at h
        · cases h
        · obtain ⟨_, t1, t2, t3, t4⟩ := swG_nz hd hR hat
          have p1 := pivG_spec hda t2 hR t4
          have p2 := pivG_sz hda t2 hR t4 hs
          have := goG_sz n m (k + 1) (d + 1) (pivG a d k (atG a d k)) b e p1.2.1 (by rw [p1.1]; omega) (by omega) p2 h
          exact ⟨by omega, this.2⟩
    · simp only [Option.some.injEq, Prod.mk.injEq] at h
      obtain ⟨rfl, rfl⟩ := h
      exact ⟨by omega, hs⟩
theorem outG_sz {n : Nat} {a : Mt} {l : List Rat} (hn : n ≤ 16) (hR : Rect a (n + 1)) (hs : SzM (Xs 0) (fM a)) (h : outG n a = .val l) (c : Nat) : LQ (l.getD c 0) ≤ 1441791 := by
  unfold outG at h
  split at h
  · cases h
  · rename_i b d hg
    split at h
    · cases h
    · simp only [Out.val.injEq] at h
      subst h
      have h1 := goG_sz n (n + 1) 0 0 a b d hR (Nat.zero_le _) (Nat.le_refl _) hs hg
      have h2 : Xs d ≤ Xs 17 := Xs_le (by omega)
      have h3 : Xs 17 = 1441791 := by rw [Xs, Xs_16]
      rcases Nat.lt_or_ge c (b.take n).length with hc | hc
      · rw [getD_map_lt (fun r => r.getD n 0) [] _ hc]
        have hc2 := hc
        rw [List.length_take] at hc2
        have h4 := h1.2.lq c n
        have : (b.take n).getD c [] = b.getD c [] := by
          rw [List.getD_eq_getElem?_getD, List.getD_eq_getElem?_getD, List.getElem?_take_of_lt (by omega)]
        rw [this]
        unfold fM at h4
        omega
      · rw [List.getD_eq_getElem?_getD, List.getElem?_eq_none (by rw [List.length_map]; exact hc)]
        show LQ 0 ≤ _
        rw [LQ_zero]; omega

/-! A row changed element by element. -/
def updI {α : Type} [Inhabited α] (f : Nat → α → α) (l : List α) (i : Nat) : List α := (List.range l.length).map (fun j => if j < i then f j (l.getD j default) else l.getD j default)
section
variable {α : Type} [Inhabited α] (f : Nat → α → α) (l : List α)
theorem updI_len (i : Nat) : (updI f l i).length = l.length := by unfold updI; rw [List.length_map, List.length_range]
theorem updI_get? {i j : Nat} (h : j < l.length) : (updI f l i)[j]? = some (if j < i then f j (l.getD j default) else l.getD j default) := by
  unfold updI; rw [List.getElem?_map, List.getElem?_range h]; rfl
theorem updI_at {i : Nat} (h : i < l.length) : (updI f l i)[i]? = some (l.getD i default) := by rw [updI_get? f l h, if_neg (Nat.lt_irrefl i)]
theorem updI_set {i : Nat} (h : i < l.length) : (updI f l i).set i (f i (l.getD i default)) = updI f l (i + 1) := by
  apply List.ext_getElem?
  intro j
  rcases Nat.lt_or_ge j l.length with g | g
  · rw [updI_get? f l g]
    by_cases e : j = i
    · subst e; rw [List.getElem?_set_self (by rw [updI_len]; exact h), if_pos (by omega)]
    · rw [List.getElem?_set_ne (Ne.symm e), updI_get? f l g]
      by_cases e2 : j < i
      · rw [if_pos e2, if_pos (by omega)]
      · rw [if_neg e2, if_neg (by omega)]
  · rw [List.getElem?_eq_none (by rw [List.length_set, updI_len]; exact g), List.getElem?_eq_none (by rw [updI_len]; exact g)]
theorem updI_zero : updI f l 0 = l := by
  apply List.ext_getElem?
  intro j
  rcases Nat.lt_or_ge j l.length with g | g
  · rw [updI_get? f l g, if_neg (by omega), List.getD_eq_getElem?_getD, List.getElem?_eq_getElem g]; rfl
  · rw [List.getElem?_eq_none (by rw [updI_len]; exact g), List.getElem?_eq_none g]
theorem updI_all : updI f l l.length = (List.range l.length).map (fun j => f j (l.getD j default)) := by
  apply List.ext_getElem?
  intro j
  rcases Nat.lt_or_ge j l.length with g | g
  · rw [updI_get? f l g, if_pos g, List.getElem?_map, List.getElem?_range g]; rfl
  · rw [List.getElem?_eq_none (by rw [updI_len]; exact g), List.getElem?_eq_none (by rw [List.length_map, List.length_range]; exact g)]
end
theorem updI_map {α : Type} [Inhabited α] (g : α → α) (l : List α) : updI (fun _ => g) l l.length = l.map g := by
  rw [updI_all]
  apply List.ext_getElem?
  intro j
  rcases Nat.lt_or_ge j l.length with h | h
  · rw [List.getElem?_map, List.getElem?_range h, List.getElem?_map, List.getElem?_eq_getElem h]
    show some (g (l.getD j default)) = _
    rw [List.getD_eq_getElem?_getD, List.getElem?_eq_getElem h]; rfl
  · rw [List.getElem?_eq_none (by rw [List.length_map, List.length_range]; exact h), List.getElem?_eq_none (by rw [List.length_map]; exact h)]
theorem scl_w {b : RD} {x : Trn} (hx : x.w 6) (hb : b.w 4) : (sclX b.val x).w 10 := by
  obtain ⟨h1, h2, h3, h4⟩ := hx
  refine ⟨h1, h2, by show (x.gs.map (sclS b.val)).length ≤ _; rw [List.length_map]; exact h3, fun i => ?_⟩
  show ((x.gs.map (sclS b.val)).getD i default).v.w 10
  rcases Nat.lt_or_ge i x.gs.length with h | h
  · rw [getD_map_lt (sclS b.val) default _ h]
    have e1 := LQ_val (h4 i) (by decide)
    have e2 := LQ_val hb (by decide)
    have e3 := LQ_mul (x.gs.getD i default).v.val b.val
    exact Qr_w _ (by omega)
  · rw [List.getD_eq_getElem?_getD, List.getElem?_eq_none (by rw [List.length_map]; exact h)]
    exact ⟨fun _ h => (by cases h), fun _ h => (by cases h), Nat.zero_le _, Nat.zero_le _⟩
end Lift
/- Ratio. -/
namespace Lift
open Go Go.Proofs

def rtF (l : List Msh) (i : Nat) : Nat := if thB (l.getD i default).ta (l.getD i default).tb = false then 3 else 0
/-- The number of Ratio's error; 0 if there is none. -/
def rtE (l : List Msh) : Nat := if 32 < l.length then 4 else fE (rtF l) l.length 0
def ratT (l : List Msh) : D := if rtE l = 0 then .tu [(Qr (chR l l.length)).D, nilE] else .tu [(⟨false, [], []⟩ : RD).D, erV (rtE l)]
theorem rtE_th {l : List Msh} (h : rtE l = 0) : l.length ≤ 32 ∧ ∀ i, i < l.length → thB (l.getD i default).ta (l.getD i default).tb = true := by
  unfold rtE at h
  split at h
  · cases h
  · refine ⟨by omega, fun i hi => ?_⟩
    have : ∀ m k, fE (rtF l) m k = 0 → ∀ j, k ≤ j → j < k + m → rtF l j = 0 := by
      intro m
      induction m with
      | zero => intro k _ j h1 h2; omega
      | succ m ih =>
        intro k hk j h1 h2
        rw [fE] at hk
        split at hk
        · rename_i h0
          rcases Nat.eq_or_lt_of_le h1 with e | e
          · rw [← e]; exact h0
          · exact ih _ hk j e (by omega)
        · rename_i h0; exact absurd hk h0
    have := this _ _ h i (Nat.zero_le _) (by omega)
    unfold rtF at this
    split at this
    · cases this
    · rename_i h0; simpa using h0
theorem chR_zero (l : List Msh) : chR l 0 = ((1 : Int) : Rat) := rfl
theorem chR_step (l : List Msh) (i : Nat) : chR l (i + 1) = chR l i * fR (l.getD i default) := rfl
theorem LQ_th {a b : Int} (h : thB a b = true) : LQ (Rat.divInt a b) ≤ 1 := by
  have h := of_decide_eq_true h
  have h1 := LQ_divInt a b (by omega)
  have h2 : L a ≤ 1 := L_le (by omega)
  have h3 : L b ≤ 1 := L_le (by omega)
  omega
theorem LQ_fR {m : Msh} (h : thB m.ta m.tb = true) : LQ (fR m) ≤ 1 := by
  unfold fR
  split
  · exact LQ_th h
  · rw [LQ_neg]; exact LQ_th h
set_option maxHeartbeats 1600000 in
theorem gear_Ratio_ok (l : List Msh) (hl : l.length ≤ big) : Pure Tryz.prog 13 [MshsD l] (ratT l) := by
  refine Pure.intro (n := 51) tok Tryz.func13 rfl rfl rfl (Nat.le_of_ble_eq_true rfl) (by kernel_rfl) (fun B F0 w0 => ?_)
  have hbig : big = 1000000000000000 := rfl
  refine AW.seq ?_
  refine AW.region ?_
  refine AOps.run tok 2 _ _ _ _ rfl ?_
  refine AOps.nil ?_
  refine AW.seq ?_
  refine AW.seq ?_
  refine AW.region ?_
  refine AOps.run tok 3 _ _ _ _ rfl ?_
  rw [List.length_map]
  refine AOps.nil ?_
  refine AW.cond rfl (fun h => ?_) (fun h => ?_)
  · have h := of_decide_eq_true h
    have h32 : 32 < l.length := by omega
    have e : rtE l = 4 := if_pos h32
    rw [show ratT l = .tu [(⟨false, [], []⟩ : RD).D, erV 4] by unfold ratT; rw [e]; rfl]
    refine AW.seq ?_
    refine AW.region ?_
    refine AOps.run tok 4 _ _ _ _ rfl ?_
    refine AOps.nil ?_
    exact AW.ret rfl
  have h := of_decide_eq_false h
  have h32 : ¬ 32 < l.length := by omega
  have he : rtE l = fE (rtF l) l.length 0 := if_neg h32
  have cO := fraction_Of_ok 1 (by decide) (by decide)
  rw [← chR_zero l] at cO
  refine AW.skip ?_
  refine AW.seq ?_
  refine AW.region ?_
  refine AOps.call tok rfl rfl rfl rfl cO ?_
  refine AOps.run tok 2 _ _ _ _ rfl ?_
  refine AOps.nil ?_
  refine AW.seq ?_
  refine AW.seq ?_
  refine AW.region ?_
  refine AOps.run tok 3 _ _ _ _ rfl ?_
  rw [List.length_map]
  refine AOps.nil ?_
  refine AW.block ?_
  refine AW.loopS [2, 3, 4, 15, 16, 17] (fun i : Nat => [(2, .bx (⟨false, [], []⟩ : RD).D.flat), (3, .d nilE), (4, .bx (Qr (chR l i)).D.flat), (15, .d (MshsD l)), (16, .d (dI l.length)), (17, .d (dI i))])
    (fun i => (i ≤ l.length ∧ rtE l = fE (rtF l) (l.length - i) i) ∧ LQ (chR l i) ≤ i + 1) (fun i => l.length - i) 0 rfl ⟨⟨Nat.zero_le _, by rw [he, Nat.sub_zero]⟩, by rw [chR_zero]; have := LQ_of 1; rw [L_one] at this; omega⟩ (fun i hi => ?_)
  · show AW _ _ _ _ _ _ _ [(2, .bx (⟨false, [], []⟩ : RD).D.flat), (3, .d nilE), (4, .bx (Qr (chR l i)).D.flat), (15, .d (MshsD l)), (16, .d (dI l.length)), (17, .d (dI i))]
    obtain ⟨⟨hi, hei⟩, hsz⟩ := hi
    refine AW.seq ?_
    refine AW.region ?_
    refine AOps.run tok 1 _ _ _ _ rfl ?_
    refine AOps.nil ?_
    refine AW.seq ?_
    refine AW.cond rfl (fun h => ?_) (fun h => ?_)
    · have hin : i < l.length := by have := of_decide_eq_true h; omega
      refine AW.skip ?_
      refine AW.seq ?_
      refine AW.block ?_
      refine AW.seq ?_
      refine AW.region ?_
      refine AOps.idx tok (l.getD i default).D rfl rfl rfl rfl (Int.natCast_nonneg i) (getM Msh.D hin) ?_
      refine AOps.run tok 3 _ _ _ _ rfl ?_
      refine AOps.nil ?_
      have hst := chR_step l i
      have hhit := fE_hit (f := rtF l) hin
      have hmiss := fE_miss (f := rtF l) hin
      have hth : rtF l i = if thB (l.getD i default).ta (l.getD i default).tb = false then 3 else 0 := rfl
      generalize l.getD i default = m at hst hth ⊢
      have cT := gear_toothed_ok m.ta m.tb
      refine AW.seq ?_
      refine AW.seq ?_
      refine AW.region ?_
      refine AOps.run tok 4 _ _ _ _ rfl ?_
      refine AOps.call tok rfl rfl rfl rfl cT ?_
      refine AOps.run tok 1 _ _ _ _ rfl ?_
      refine AOps.nil ?_
      rcases ht : thB m.ta m.tb with _ | _
      · have e : rtE l = 3 := by rw [hei, hhit (by rw [hth, if_pos ht]; decide), hth, if_pos ht]
        rw [show ratT l = .tu [(⟨false, [], []⟩ : RD).D, erV 3] by unfold ratT; rw [e]; rfl]
        refine AW.condT rfl ?_
        refine AW.seq ?_
        refine AW.region ?_
        refine AOps.run tok 4 _ _ _ _ rfl ?_
        refine AOps.nil ?_
        exact AW.ret rfl
      refine AW.condF rfl ?_
      have hm0 := hmiss (by rw [hth, if_neg (by rw [ht]; simp)])
      have hq := LQ_th ht
      have hq2 := LQ_fR ht
      have hqm := LQ_mul (chR l i) (fR m)
      have ht2 : (1 ≤ m.ta ∧ m.ta ≤ 10000) ∧ 1 ≤ m.tb ∧ m.tb ≤ 10000 := of_decide_eq_true ht
      have cM := fraction_Make_ok m.ta m.tb (by omega) (by omega) (by omega) (by omega) (by omega)
      refine AW.skip ?_
      refine AW.seq ?_
      refine AW.region ?_
      refine AOps.run tok 4 _ _ _ _ rfl ?_
      refine AOps.call tok rfl rfl rfl rfl cM ?_
      refine AOps.run tok 6 _ _ _ _ rfl ?_
      refine AOps.nil ?_
      refine AW.seq ?_
      refine AW.seq ?_
      refine AW.region ?_
      refine AOps.run tok 1 _ _ _ _ rfl ?_
      refine AOps.err tok rfl rfl rfl rfl rfl ?_
      refine AOps.nil ?_
      refine AW.condF rfl ?_
      refine AW.skip ?_
      refine AW.seq ?_
      refine AW.seq ?_
      refine AW.region ?_
      refine AOps.run tok 3 _ _ _ _ rfl ?_
      refine AOps.nil ?_
      refine AW.cond rfl (fun h => ?_) (fun h => ?_)
      · have hinn : m.inn = false := by simpa using h
        have e : fR m = -(Rat.divInt m.ta m.tb) := if_neg (by rw [hinn]; simp)
        rw [e] at hst
        refine AW.region ?_
        refine AOps.run tok 1 _ _ _ _ rfl ?_
        refine AOps.call tok rfl rfl rfl rfl (fraction_Neg_ok (Qr (Rat.divInt m.ta m.tb)) (k := 1) (Qr_w _ hq) (by decide)) ?_
        rw [Qr_val, ← e]
        refine AOps.run tok 1 _ _ _ _ rfl ?_
        refine AOps.nil ?_
        refine AW.region ?_
        refine AOps.run tok 2 _ _ _ _ rfl ?_
        refine AOps.call tok rfl rfl rfl rfl (fraction_Mul_ok (Qr (chR l i)) (Qr (fR m)) (k := 1000) (Qr_w _ (by omega)) (Qr_w _ (by omega)) (by decide)) ?_
        rw [Qr_val, Qr_val, e, ← hst]
        refine AOps.run tok 1 _ _ _ _ rfl ?_
        refine AOps.nil ?_
        refine AW.region ?_
        refine AOps.run tok 2 _ _ _ _ rfl ?_
        rw [wI64 (x := (i : Int) + 1) (by omega) (by omega)]
        refine AOps.nil ?_
        exact ⟨i + 1, rfl, ⟨⟨hin, by rw [hei, hm0]⟩, by rw [hst, ← e]; omega⟩, by omega⟩
      · have hinn : m.inn = true := by simpa using h
        have e : fR m = Rat.divInt m.ta m.tb := if_pos hinn
        rw [e] at hst
        refine AW.skip ?_
        refine AW.region ?_
        refine AOps.run tok 2 _ _ _ _ rfl ?_
        refine AOps.call tok rfl rfl rfl rfl (fraction_Mul_ok (Qr (chR l i)) (Qr (Rat.divInt m.ta m.tb)) (k := 1000) (Qr_w _ (by omega)) (Qr_w _ (by omega)) (by decide)) ?_
        rw [Qr_val, Qr_val, ← hst]
        refine AOps.run tok 1 _ _ _ _ rfl ?_
        refine AOps.nil ?_
        refine AW.region ?_
        refine AOps.run tok 2 _ _ _ _ rfl ?_
        rw [wI64 (x := (i : Int) + 1) (by omega) (by omega)]
        refine AOps.nil ?_
        exact ⟨i + 1, rfl, ⟨⟨hin, by rw [hei, hm0]⟩, by rw [hst, ← e]; omega⟩, by omega⟩
    have hin : ¬ i < l.length := by have := of_decide_eq_false h; omega
    have hie : i = l.length := by omega
    subst hie
    have e : rtE l = 0 := by rw [hei, fE_end hin]
    rw [show ratT l = .tu [(Qr (chR l l.length)).D, nilE] by unfold ratT; rw [if_pos e]]
    refine AW.exit ?_
    refine AW.seq ?_
    refine AW.region ?_
    refine AOps.run tok 3 _ _ _ _ rfl ?_
    refine AOps.nil ?_
    exact AW.ret rfl
end Lift
/- The reference: shafts, teeth, ratios, multiples. -/
namespace Lift
open Go Go.Proofs

theorem r51_shaft_ok (x : Trn) (i : Int) : Pure Tryz.prog 29 [x.D, dI i] (dB (inS x.n i)) := by
  refine Pure.intro (n := 13) tok Tryz.func29 rfl rfl rfl (Nat.le_of_ble_eq_true rfl) (by kernel_rfl) (fun B F0 w0 => ?_)
  refine AW.seq ?_
  refine AW.region ?_
  refine AOps.run tok 2 _ _ _ _ rfl ?_
  refine AOps.nil ?_
  refine AW.seq ?_
  refine AW.region ?_
  refine AOps.run tok 2 _ _ _ _ rfl ?_
  refine AOps.split (t := 6) rfl (fun h => ?_) (fun h => ?_)
  · have h := of_decide_eq_true h
    rw [show inS x.n i = decide (i < x.n) by unfold inS; rw [decide_eq_decide]; omega]
    refine AOps.run tok 7 _ _ _ _ rfl ?_
    refine AOps.nil ?_
    exact AW.ret rfl
  · have h := of_decide_eq_false h
    rw [show inS x.n i = false by unfold inS; rw [decide_eq_false_iff_not]; omega]
    refine AOps.run tok 7 _ _ _ _ rfl ?_
    refine AOps.nil ?_
    exact AW.ret rfl
theorem r51_teeth_ok (a b : Int) : Pure Tryz.prog 30 [dI a, dI b] (dB (thB a b)) := by
  refine Pure.intro (n := 19) tok Tryz.func30 rfl rfl rfl (Nat.le_of_ble_eq_true rfl) (by kernel_rfl) (fun B F0 w0 => ?_)
  have hno : ¬ ((1 ≤ a ∧ a ≤ 10000) ∧ 1 ≤ b ∧ b ≤ 10000) → thB a b = false := fun h => decide_eq_false h
  refine AW.seq ?_
  refine AW.region ?_
  refine AOps.run tok 1 _ _ _ _ rfl ?_
  refine AOps.nil ?_
  refine AW.seq ?_
  refine AW.region ?_
  refine AOps.run tok 2 _ _ _ _ rfl ?_
  refine AOps.split (t := 6) rfl (fun h1 => ?_) (fun h => ?_)
  rotate_left
  · rw [hno (by have := of_decide_eq_false h; omega)]
    refine AOps.run tok 13 _ _ _ _ rfl ?_; refine AOps.nil ?_; exact AW.ret rfl
  refine AOps.run tok 3 _ _ _ _ rfl ?_
  refine AOps.split (t := 9) rfl (fun h2 => ?_) (fun h => ?_)
  rotate_left
  · rw [hno (by have := of_decide_eq_false h; omega)]
    refine AOps.run tok 10 _ _ _ _ rfl ?_; refine AOps.nil ?_; exact AW.ret rfl
  refine AOps.run tok 4 _ _ _ _ rfl ?_
  refine AOps.split (t := 13) rfl (fun h3 => ?_) (fun h => ?_)
  rotate_left
  · rw [hno (by have := of_decide_eq_false h; omega)]
    refine AOps.run tok 6 _ _ _ _ rfl ?_; refine AOps.nil ?_; exact AW.ret rfl
  have h1 := of_decide_eq_true h1
  have h2 := of_decide_eq_true h2
  have h3 := of_decide_eq_true h3
  rw [show thB a b = decide (b ≤ 10000) by unfold thB; rw [decide_eq_decide]; omega]
  refine AOps.run tok 6 _ _ _ _ rfl ?_
  refine AOps.nil ?_
  exact AW.ret rfl
def ratR (l : List Msh) : D := if rtE l = 0 then .tu [(Qr (chR l l.length)).D, dI 0] else .tu [(⟨false, [], []⟩ : RD).D, dI (rtE l)]
set_option maxHeartbeats 1600000 in
theorem r51_Ratio_ok (l : List Msh) (hl : l.length ≤ big) : Pure Tryz.prog 15 [MshsD l] (ratR l) := by
  refine Pure.intro (n := 63) tok Tryz.func15 rfl rfl rfl (Nat.le_of_ble_eq_true rfl) (by kernel_rfl) (fun B F0 w0 => ?_)
  have hbig : big = 1000000000000000 := rfl
  refine AW.seq ?_
  refine AW.region ?_
  refine AOps.run tok 2 _ _ _ _ rfl ?_
  refine AOps.nil ?_
  refine AW.seq ?_
  refine AW.seq ?_
  refine AW.region ?_
  refine AOps.run tok 3 _ _ _ _ rfl ?_
  rw [List.length_map]
  refine AOps.nil ?_
  refine AW.cond rfl (fun h => ?_) (fun h => ?_)
  · have h := of_decide_eq_true h
    have h32 : 32 < l.length := by omega
    have e : rtE l = 4 := if_pos h32
    rw [show ratR l = .tu [(⟨false, [], []⟩ : RD).D, dI 4] by unfold ratR; rw [e]; rfl]
    refine AW.seq ?_
    refine AW.region ?_
    refine AOps.run tok 3 _ _ _ _ rfl ?_
    refine AOps.nil ?_
    exact AW.ret rfl
  have h := of_decide_eq_false h
  have h32 : ¬ 32 < l.length := by omega
  have he : rtE l = fE (rtF l) l.length 0 := if_neg h32
  have cO := r02_Of_ok 1 (by decide) (by decide)
  rw [← chR_zero l] at cO
  refine AW.skip ?_
  refine AW.seq ?_
  refine AW.region ?_
  refine AOps.call tok rfl rfl rfl rfl cO ?_
  refine AOps.run tok 2 _ _ _ _ rfl ?_
  refine AOps.nil ?_
  refine AW.seq ?_
  refine AW.seq ?_
  refine AW.region ?_
  refine AOps.run tok 1 _ _ _ _ rfl ?_
  refine AOps.nil ?_
  refine AW.block ?_
  refine AW.loopS [0, 2, 3, 4, 5] (fun i : Nat => [(0, .d (MshsD l)), (2, .bx (⟨false, [], []⟩ : RD).D.flat), (3, .d (dI 0)), (4, .bx (Qr (chR l i)).D.flat), (5, .d (dI i))])
    (fun i => (i ≤ l.length ∧ rtE l = fE (rtF l) (l.length - i) i) ∧ LQ (chR l i) ≤ i + 1) (fun i => l.length - i) 0 rfl ⟨⟨Nat.zero_le _, by rw [he, Nat.sub_zero]⟩, by rw [chR_zero]; have := LQ_of 1; rw [L_one] at this; omega⟩ (fun i hi => ?_)
  · show AW _ _ _ _ _ _ _ [(0, .d (MshsD l)), (2, .bx (⟨false, [], []⟩ : RD).D.flat), (3, .d (dI 0)), (4, .bx (Qr (chR l i)).D.flat), (5, .d (dI i))]
    obtain ⟨⟨hi, hei⟩, hsz⟩ := hi
    refine AW.seq ?_
    refine AW.seq ?_
    refine AW.region ?_
    refine AOps.run tok 4 _ _ _ _ rfl ?_
    rw [List.length_map]
    refine AOps.nil ?_
    refine AW.cond rfl (fun h => ?_) (fun h => ?_)
    · have hin : i < l.length := by have := of_decide_eq_true h; omega
      obtain ⟨m, hmm⟩ : ∃ m, m = l.getD i default := ⟨_, rfl⟩
      have hst := chR_step l i
      have hhit := fE_hit (f := rtF l) hin
      have hmiss := fE_miss (f := rtF l) hin
      have hth : rtF l i = if thB m.ta m.tb = false then 3 else 0 := by rw [hmm]; rfl
      have cT := r51_teeth_ok m.ta m.tb
      rw [hmm] at cT
      rw [← hmm] at hst
      refine AW.skip ?_
      refine AW.seq ?_
      refine AW.block ?_
      refine AW.seq ?_
      refine AW.seq ?_
      refine AW.draw hmix 12 (by kernel_rfl) ?_
      refine APre.run tok 2 _ _ _ _ rfl ?_
      refine APre.idx tok (l.getD i default).D rfl rfl rfl rfl rfl (Int.natCast_nonneg i) (getM Msh.D hin) ?_
      refine APre.run tok 4 _ _ _ _ rfl ?_
      refine APre.idx tok (l.getD i default).D rfl rfl rfl rfl rfl (Int.natCast_nonneg i) (getM Msh.D hin) ?_
      refine APre.run tok 2 _ _ _ _ rfl ?_
      refine APre.call tok rfl rfl rfl rfl rfl cT ?_
      rw [← hmm]
      refine APre.run tok 1 _ _ _ _ rfl ?_
      refine APre.nil ?_
      refine AOps.nil ?_
      rcases ht : thB m.ta m.tb with _ | _
      · have e : rtE l = 3 := by rw [hei, hhit (by rw [hth, if_pos ht]; decide), hth, if_pos ht]
        rw [show ratR l = .tu [(⟨false, [], []⟩ : RD).D, dI 3] by unfold ratR; rw [e]; rfl]
        refine AW.condT rfl ?_
        refine AW.seq ?_
        refine AW.region ?_
        refine AOps.run tok 3 _ _ _ _ rfl ?_
        refine AOps.nil ?_
        exact AW.ret rfl
      refine AW.condF rfl ?_
      have hm0 := hmiss (by rw [hth, if_neg (by rw [ht]; simp)])
      have hq2 := LQ_fR ht
      have hqm := LQ_mul (chR l i) (fR m)
      have ht2 : (1 ≤ m.ta ∧ m.ta ≤ 10000) ∧ 1 ≤ m.tb ∧ m.tb ≤ 10000 := of_decide_eq_true ht
      refine AW.skip ?_
      refine AW.seq ?_
      refine AW.region ?_
      refine AOps.run tok 2 _ _ _ _ rfl ?_
      refine AOps.idx tok (l.getD i default).D rfl rfl rfl rfl (Int.natCast_nonneg i) (getM Msh.D hin) ?_
      refine AOps.run tok 3 _ _ _ _ rfl ?_
      rw [← hmm, wI64 (by omega) (by omega)]
      refine AOps.run tok 1 _ _ _ _ rfl ?_
      refine AOps.nil ?_
      refine AW.seq ?_
      refine AW.seq ?_
      refine AW.region ?_
      refine AOps.run tok 2 _ _ _ _ rfl ?_
      refine AOps.idx tok (l.getD i default).D rfl rfl rfl rfl (Int.natCast_nonneg i) (getM Msh.D hin) ?_
      refine AOps.run tok 2 _ _ _ _ rfl ?_
      rw [← hmm]
      refine AOps.nil ?_
      refine AW.cond rfl (fun h => ?_) (fun h => ?_)
      · have eN : fR m = Rat.divInt m.ta m.tb := if_pos h
        refine AW.region ?_
        refine AOps.run tok 2 _ _ _ _ rfl ?_
        refine AOps.idx tok (l.getD i default).D rfl rfl rfl rfl (Int.natCast_nonneg i) (getM Msh.D hin) ?_
        refine AOps.run tok 3 _ _ _ _ rfl ?_
        rw [← hmm]
        refine AOps.nil ?_
        refine AW.seq ?_
        refine AW.region ?_
        refine AOps.run tok 3 _ _ _ _ rfl ?_
        refine AOps.idx tok (l.getD i default).D rfl rfl rfl rfl (Int.natCast_nonneg i) (getM Msh.D hin) ?_
        refine AOps.run tok 2 _ _ _ _ rfl ?_
        rw [← hmm]
        refine AOps.call tok rfl rfl rfl rfl (r02_Make_ok (m.ta) m.tb (by omega) (by omega) (by omega) (by omega) (by omega)) ?_
        rw [← eN]
        refine AOps.run tok 6 _ _ _ _ rfl ?_
        refine AOps.nil ?_
        refine AW.region ?_
        refine AOps.run tok 2 _ _ _ _ rfl ?_
        refine AOps.call tok rfl rfl rfl rfl (r02_Mul_ok (Qr (chR l i)) (Qr (fR m)) (k := 1000) (Qr_w _ (by omega)) (Qr_w _ (by omega)) (by decide)) ?_
        rw [Qr_val, Qr_val, ← hst]
        refine AOps.run tok 1 _ _ _ _ rfl ?_
        refine AOps.nil ?_
        refine AW.region ?_
        refine AOps.run tok 2 _ _ _ _ rfl ?_
        rw [wI64 (x := (i : Int) + 1) (by omega) (by omega)]
        refine AOps.run tok 1 _ _ _ _ rfl ?_
        refine AOps.nil ?_
        exact ⟨i + 1, rfl, ⟨⟨hin, by rw [hei, hm0]⟩, by rw [hst]; omega⟩, by omega⟩

      · have eN : fR m = Rat.divInt (0 - m.ta) m.tb := by
          unfold fR; rw [if_neg (by rw [h]; simp), divInt_eq, divInt_eq, Int.zero_sub, Rat.intCast_neg]; grind
        refine AW.skip ?_
        refine AW.seq ?_
        refine AW.region ?_
        refine AOps.run tok 3 _ _ _ _ rfl ?_
        refine AOps.idx tok (l.getD i default).D rfl rfl rfl rfl (Int.natCast_nonneg i) (getM Msh.D hin) ?_
        refine AOps.run tok 2 _ _ _ _ rfl ?_
        rw [← hmm]
        refine AOps.call tok rfl rfl rfl rfl (r02_Make_ok (0 - m.ta) m.tb (by omega) (by omega) (by omega) (by omega) (by omega)) ?_
        rw [← eN]
        refine AOps.run tok 6 _ _ _ _ rfl ?_
        refine AOps.nil ?_
        refine AW.region ?_
        refine AOps.run tok 2 _ _ _ _ rfl ?_
        refine AOps.call tok rfl rfl rfl rfl (r02_Mul_ok (Qr (chR l i)) (Qr (fR m)) (k := 1000) (Qr_w _ (by omega)) (Qr_w _ (by omega)) (by decide)) ?_
        rw [Qr_val, Qr_val, ← hst]
        refine AOps.run tok 1 _ _ _ _ rfl ?_
        refine AOps.nil ?_
        refine AW.region ?_
        refine AOps.run tok 2 _ _ _ _ rfl ?_
        rw [wI64 (x := (i : Int) + 1) (by omega) (by omega)]
        refine AOps.run tok 1 _ _ _ _ rfl ?_
        refine AOps.nil ?_
        exact ⟨i + 1, rfl, ⟨⟨hin, by rw [hei, hm0]⟩, by rw [hst]; omega⟩, by omega⟩

    have hin : ¬ i < l.length := by have := of_decide_eq_false h; omega
    have hie : i = l.length := by omega
    subst hie
    have e : rtE l = 0 := by rw [hei, fE_end hin]
    rw [show ratR l = .tu [(Qr (chR l l.length)).D, dI 0] by unfold ratR; rw [if_pos e]]
    refine AW.exit ?_
    refine AW.seq ?_
    refine AW.region ?_
    refine AOps.run tok 3 _ _ _ _ rfl ?_
    refine AOps.nil ?_
    exact AW.ret rfl
end Lift
/- GearRatios. -/
namespace Lift
open Go Go.Proofs

theorem r51_Times_bad (t : TD) (n : Int) {k : Nat} (hw : t.t.w k) (hk : k ≤ 6) (h : t.okB = false ∨ n < -16 ∨ 16 < n) : Pure Tryz.prog 16 [t.D, dI n] (.tu [(TQ (some 0)).D, dI 3]) := by
  refine Pure.intro (n := 34) tok Tryz.func16 rfl rfl rfl (Nat.le_of_ble_eq_true rfl) (by kernel_rfl) (fun B F0 w0 => ?_)
  rw [TQ0]
  have hc := r12_Check_ok t hw (by omega)
  refine AW.seq ?_
  refine AW.region ?_
  refine AOps.run tok 3 _ _ _ _ rfl ?_
  refine AOps.nil ?_
  refine AW.seq ?_
  refine AW.seq ?_
  refine AW.region ?_
  refine AOps.run tok 1 _ _ _ _ rfl ?_
  rcases hb : t.okB with _ | _
  · rw [hb] at hc
    refine AOps.call tok rfl rfl rfl rfl hc ?_
    refine AOps.run tok 9 _ _ _ _ rfl ?_
    refine AOps.nil ?_
    refine AW.condT rfl ?_
    refine AW.seq ?_
    refine AW.region ?_
    refine AOps.run tok 3 _ _ _ _ rfl ?_
    refine AOps.nil ?_
    exact AW.ret rfl
  · rw [hb] at hc
    have h : n < -16 ∨ 16 < n := h.resolve_left (by rw [hb]; simp)
    refine AOps.call tok rfl rfl rfl rfl hc ?_
    refine AOps.run tok 4 _ _ _ _ rfl ?_
    refine AOps.split (t := 12) rfl (fun g => ?_) (fun g => ?_)
    · refine AOps.run tok 5 _ _ _ _ rfl ?_
      refine AOps.nil ?_
      refine AW.condT rfl ?_
      refine AW.seq ?_
      refine AW.region ?_
      refine AOps.run tok 3 _ _ _ _ rfl ?_
      refine AOps.nil ?_
      exact AW.ret rfl
    · have g := of_decide_eq_false g
      refine AOps.run tok 5 _ _ _ _ rfl ?_
      refine AOps.nil ?_
      refine AW.cond rfl (fun g2 => ?_) (fun g2 => by have := of_decide_eq_false g2; omega)
      refine AW.seq ?_
      refine AW.region ?_
      refine AOps.run tok 3 _ _ _ _ rfl ?_
      refine AOps.nil ?_
      exact AW.ret rfl
set_option maxHeartbeats 1600000 in
theorem r51_Times_ok (t : TD) (n : Int) {k : Nat} (hw : t.t.w k) (hk : k ≤ 6) (hk1 : 1 ≤ k) (hb : t.okB = true) (h1 : -16 ≤ n) (h2 : n ≤ 16) : Pure Tryz.prog 16 [t.D, dI n] (.tu [(TQ (timesZ t.val n)).D, dI 0]) := by
  refine Pure.intro (n := 34) tok Tryz.func16 rfl rfl rfl (Nat.le_of_ble_eq_true rfl) (by kernel_rfl) (fun B F0 w0 => ?_)
  have hc := r12_Check_ok t hw (by omega)
  rw [hb] at hc
  have hs := szT_val hw hk1
  have hcan := TD.canon hw hb
  generalize hv : t.val = v at hs hcan ⊢
  subst hcan
  refine AW.seq ?_
  refine AW.region ?_
  refine AOps.run tok 3 _ _ _ _ rfl ?_
  refine AOps.nil ?_
  refine AW.seq ?_
  refine AW.seq ?_
  refine AW.region ?_
  refine AOps.run tok 1 _ _ _ _ rfl ?_
  refine AOps.call tok rfl rfl rfl rfl hc ?_
  refine AOps.run tok 4 _ _ _ _ rfl ?_
  refine AOps.split (t := 12) rfl (fun g => by have := of_decide_eq_true g; omega) (fun g => ?_)
  refine AOps.run tok 5 _ _ _ _ rfl ?_
  refine AOps.nil ?_
  refine AW.cond rfl (fun g2 => by have := of_decide_eq_true g2; omega) (fun g2 => ?_)
  refine AW.skip ?_
  refine AW.cut [1, 2, 4, 5] (fun s : Option Rat × Nat => [(1, .d (dI s.2)), (2, .bx (TQ s.1).D.flat), (4, .bx [dB false, .sl 1 [], .sl 1 [], dB false]), (5, .d (dI 0))]) (fun s => timesZ v n = timesT s.1 s.2 ∧ s.2 ≤ 16 ∧ szT s.1 ≤ k) ?_ (fun s hs => ?_)
  · refine AW.seq ?_
    refine AW.region ?_
    refine AOps.run tok 2 _ _ _ _ rfl ?_
    refine AOps.nil ?_
    refine AW.cond rfl (fun g => ?_) (fun g => ?_)
    · have g := of_decide_eq_true g
      refine AW.seq ?_
      refine AW.region ?_
      refine AOps.run tok 1 _ _ _ _ rfl ?_
      refine AOps.call tok rfl rfl rfl rfl (r12_Neg_ok v hs (by omega)) ?_
      refine AOps.run tok 1 _ _ _ _ rfl ?_
      refine AOps.nil ?_
      refine AW.region ?_
      refine AOps.run tok 2 _ _ _ _ rfl ?_
      rw [wI64 (by omega) (by omega)]
      refine AOps.run tok 1 _ _ _ _ rfl ?_
      refine AOps.nil ?_
      obtain ⟨m, hm⟩ : ∃ m : Nat, n = -m := ⟨n.natAbs, by omega⟩
      subst hm
      refine ⟨(negT v, m), by rw [show (0 - -(m : Int)) = m by omega]; rfl, ?_, by omega, by rw [szT_neg]; exact hs⟩
      rw [timesZ_split, if_pos g, show (-(m : Int)).natAbs = m by omega]
    · have g := of_decide_eq_false g
      refine AW.skip ?_
      obtain ⟨m, hm⟩ : ∃ m : Nat, n = m := ⟨n.natAbs, by omega⟩
      subst hm
      refine ⟨(v, m), rfl, ?_, by omega, hs⟩
      rw [timesZ_split, if_neg g, show ((m : Int)).natAbs = m by omega]
  obtain ⟨s, m⟩ := s
  obtain ⟨e1, e2, e3⟩ := hs
  dsimp only at e1 e2 e3
  rw [e1]
  show AW _ _ _ _ _ _ _ [(1, .d (dI m)), (2, .bx (TQ s).D.flat), (4, .bx [dB false, .sl 1 [], .sl 1 [], dB false]), (5, .d (dI 0))]
  refine AW.seq ?_
  refine AW.region ?_
  refine AOps.run tok 3 _ _ _ _ rfl ?_
  refine AOps.nil ?_
  refine AW.seq ?_
  refine AW.block ?_
  refine AW.loopS [1, 2, 4, 5, 6] (fun i : Nat => [(1, .d (dI ((m - i : Nat) : Int))), (2, .bx (TQ s).D.flat), (4, .bx [dB false, .sl 1 [], .sl 1 [], dB false]), (5, .d (dI 0)), (6, .bx (TQ (timesT s i)).D.flat)]) (fun i => i ≤ m) (fun i => m - i) 0
    (by show _ = [(1, AV.d (dI m)), (2, .bx (TQ s).D.flat), (4, .bx [dB false, .sl 1 [], .sl 1 [], dB false]), (5, .d (dI 0)), (6, .bx (TQ (some 0)).D.flat)]; rw [TQ0]; rfl) (Nat.zero_le _) (fun i hi => ?_)
  show AW _ _ _ _ _ _ _ [(1, .d (dI ((m - i : Nat) : Int))), (2, .bx (TQ s).D.flat), (4, .bx [dB false, .sl 1 [], .sl 1 [], dB false]), (5, .d (dI 0)), (6, .bx (TQ (timesT s i)).D.flat)]
  have hsz := timesT_sz s e3 i
  refine AW.seq ?_
  refine AW.seq ?_
  refine AW.region ?_
  refine AOps.run tok 2 _ _ _ _ rfl ?_
  refine AOps.nil ?_
  refine AW.cond rfl (fun h => ?_) (fun h => ?_)
  · have hin : i < m := by have := of_decide_eq_true h; omega
    have hB := Bt_15 (k := k) (i := i) hk (by omega)
    refine AW.skip ?_
    refine AW.seq ?_
    refine AW.block ?_
    refine AW.region ?_
    refine AOps.run tok 2 _ _ _ _ rfl ?_
    refine AOps.call tok rfl rfl rfl rfl (r12_Add_ok (timesT s i) s (k := 1000000) (by omega) (by omega) (Nat.le_refl _)) ?_
    refine AOps.run tok 1 _ _ _ _ rfl ?_
    refine AOps.nil ?_
    refine AW.region ?_
    refine AOps.run tok 2 _ _ _ _ rfl ?_
    rw [wI64 (x := ((m - i : Nat) : Int) - 1) (by omega) (by omega), show ((m - i : Nat) : Int) - 1 = ((m - (i + 1) : Nat) : Int) by omega]
    refine AOps.run tok 1 _ _ _ _ rfl ?_
    refine AOps.nil ?_
    exact ⟨i + 1, rfl, hin, by omega⟩
  have hin : i = m := by have := of_decide_eq_false h; omega
  subst hin
  refine AW.exit ?_
  refine AW.seq ?_
  refine AW.region ?_
  refine AOps.run tok 3 _ _ _ _ rfl ?_
  refine AOps.nil ?_
  exact AW.ret rfl
theorem times_sz17 {t : Option Rat} {k : Nat} (h : szT t ≤ k) (hk : k ≤ 6) {n : Int} (h1 : -16 ≤ n) (h2 : n ≤ 16) : szT (timesZ t n) ≤ 2000000 := by
  have e : Bt k n.natAbs ≤ 2000000 := by
    have h := Bt_le (k := k) (i := n.natAbs)
    have h1 : 2 ^ n.natAbs ≤ 2 ^ 16 := Nat.pow_le_pow_right (by decide) (by omega)
    have h2 : 2 ^ n.natAbs * (2 * k + 4) ≤ 2 ^ 16 * 16 := Nat.mul_le_mul h1 (by omega)
    have h3 : 2 ^ 16 * 16 = 1048576 := by decide
    omega
  rw [timesZ_split]
  split
  · exact Nat.le_trans (timesT_sz _ (by rw [szT_neg]; exact h) _) e
  · exact Nat.le_trans (timesT_sz _ h _) e
theorem times_both (t : TD) (n : Int) (hw : t.t.w 6) : ∃ (y : Option Rat) (k : Nat), szT y ≤ 2000000 ∧ Pure Tryz.prog 14 [t.D, dI n] (.tu [(TQ y).D, erV k]) ∧ Pure Tryz.prog 16 [t.D, dI n] (.tu [(TQ y).D, dI k]) := by
  by_cases h : t.okB = false ∨ n < -16 ∨ 16 < n
  · exact ⟨some 0, 3, by show LQ 0 ≤ _; rw [LQ_zero]; decide, gear_Times_bad t n hw (by decide) h, r51_Times_bad t n hw (by decide) h⟩
  · have hb : t.okB = true := by
      rcases e : t.okB with _ | _
      · exact absurd (.inl e) h
      · rfl
    have h1 : -16 ≤ n := by omega
    have h2 : n ≤ 16 := by omega
    exact ⟨timesZ t.val n, 0, times_sz17 (szT_val hw (by decide)) (by decide) h1 h2, gear_Times_ok t n hw (by decide) (by decide) hb h1 h2, r51_Times_ok t n hw (by decide) (by decide) hb h1 h2⟩
theorem LQ_chR' {l : List Msh} (ht : ∀ i, i < l.length → thB (l.getD i default).ta (l.getD i default).tb = true) : ∀ i, i ≤ l.length → LQ (chR l i) ≤ i + 1
  | 0, _ => by rw [chR_zero]; have := LQ_of 1; rw [L_one] at this; omega
  | i + 1, h => by
    have h1 := LQ_chR' ht i (by omega)
    have h2 := LQ_fR (ht i (by omega))
    have h3 := LQ_mul (chR l i) (fR (l.getD i default))
    rw [chR_step]; omega
theorem ratio_both (l : List Msh) : ∃ (r : RD) (k : Nat), r.w 1000 ∧ ratT l = .tu [r.D, erV k] ∧ ratR l = .tu [r.D, dI k] := by
  by_cases h : rtE l = 0
  · have ht := rtE_th h
    have h1 := LQ_chR' ht.2 l.length (Nat.le_refl _)
    have := ht.1
    exact ⟨Qr (chR l l.length), 0, Qr_w _ (by omega), by unfold ratT; rw [if_pos h]; rfl, by unfold ratR; rw [if_pos h]; rfl⟩
  · exact ⟨⟨false, [], []⟩, rtE l, ⟨fun _ h => (by cases h), fun _ h => (by cases h), Nat.zero_le _, Nat.zero_le _⟩, by unfold ratT; rw [if_neg h], by unfold ratR; rw [if_neg h]⟩
set_option maxHeartbeats 1600000 in
theorem g51_Ratios_ok (l : List Msh) (t : TD) (n : Int) (hl : l.length ≤ big) (hw : t.t.w big) : Pure Tryz.prog 4 [MshsD l, t.D, dI n] (dB true) := by
  refine Pure.intro (n := 86) tok Tryz.func4 rfl rfl rfl (Nat.le_of_ble_eq_true rfl) (by kernel_rfl) (fun B F0 w0 => ?_)
  obtain ⟨w1, w2, w3, w4⟩ := hw
  have hbig : big = 1000000000000000 := rfl
  have cR := gear_Ratio_ok l hl
  have dR := r51_Ratio_ok l hl
  obtain ⟨r, k, hr, e1, e2⟩ := ratio_both l
  rw [e1] at cR
  rw [e2] at dR
  refine AW.seq ?_
  refine AW.region ?_
  refine AOps.run tok 2 _ _ _ _ rfl ?_
  refine AOps.nil ?_
  refine AW.seq ?_
  refine AW.seq ?_
  refine AW.region ?_
  refine AOps.call tok rfl rfl rfl rfl g51_awake_ok ?_
  refine AOps.run tok 4 _ _ _ _ rfl ?_
  rw [List.length_map]
  refine AOps.run tok 3 _ _ _ _ rfl ?_
  refine AOps.split (t := 22) rfl (fun h => ?_) (fun h => ?_)
  · refine AOps.run tok 11 _ _ _ _ rfl ?_; refine AOps.nil ?_; refine AW.condT rfl ?_; refine AW.seq ?_; refine AW.region ?_; refine AOps.call tok rfl rfl rfl rfl g51_awake_ok ?_; refine AOps.run tok 1 _ _ _ _ rfl ?_; refine AOps.nil ?_; exact AW.ret rfl
  refine AOps.run tok 8 _ _ _ _ rfl ?_
  rw [List.length_map, List.length_map]
  refine AOps.run tok 1 _ _ _ _ rfl ?_
  rw [wI64 (by omega) (by omega)]
  refine AOps.run tok 2 _ _ _ _ rfl ?_
  refine AOps.nil ?_
  refine AW.cond rfl (fun h => ?_) (fun h => ?_)
  · refine AW.seq ?_
    refine AW.region ?_
    refine AOps.call tok rfl rfl rfl rfl g51_awake_ok ?_
    refine AOps.run tok 1 _ _ _ _ rfl ?_
    refine AOps.nil ?_
    exact AW.ret rfl
  have h := of_decide_eq_false h
  obtain ⟨y, k2, hy, cT, dT⟩ := times_both t n ⟨w1, w2, by omega, by omega⟩
  have hyw := szT_w y hy
  refine AW.skip ?_
  refine AW.seq ?_
  refine AW.region ?_
  refine AOps.run tok 1 _ _ _ _ rfl ?_
  refine AOps.call tok rfl rfl rfl rfl cR ?_
  refine AOps.run tok 6 _ _ _ _ rfl ?_
  refine AOps.nil ?_
  refine AW.seq ?_
  refine AW.region ?_
  refine AOps.run tok 2 _ _ _ _ rfl ?_
  refine AOps.call tok rfl rfl rfl rfl cT ?_
  refine AOps.run tok 6 _ _ _ _ rfl ?_
  refine AOps.nil ?_
  refine AW.seq ?_
  refine AW.region ?_
  refine AOps.run tok 1 _ _ _ _ rfl ?_
  refine AOps.call tok rfl rfl rfl rfl dR ?_
  refine AOps.run tok 6 _ _ _ _ rfl ?_
  refine AOps.nil ?_
  refine AW.seq ?_
  refine AW.region ?_
  refine AOps.run tok 2 _ _ _ _ rfl ?_
  refine AOps.call tok rfl rfl rfl rfl dT ?_
  refine AOps.run tok 6 _ _ _ _ rfl ?_
  refine AOps.nil ?_
  refine AW.seq ?_
  refine AW.region ?_
  refine AOps.run tok 1 _ _ _ _ rfl ?_
  refine AOps.call tok rfl rfl rfl rfl (base_Num_ok k) ?_
  refine AOps.run tok 2 _ _ _ _ rfl ?_
  rw [beq_self_eq_true]
  refine AOps.run tok 3 _ _ _ _ rfl ?_
  refine AOps.call tok rfl rfl rfl rfl (base_Rat_ok r r hr (by decide)) ?_
  rw [eqR_self]
  refine AOps.run tok 3 _ _ _ _ rfl ?_
  refine AOps.call tok rfl rfl rfl rfl (base_Num_ok k2) ?_
  refine AOps.run tok 2 _ _ _ _ rfl ?_
  rw [beq_self_eq_true]
  refine AOps.run tok 6 _ _ _ _ rfl ?_
  refine AOps.be tok rfl rfl rfl rfl ?_
  rw [show (((TQ y).h == (TQ y).h) == true) = true by simp]
  refine AOps.run tok 6 _ _ _ _ rfl ?_
  refine AOps.call tok rfl rfl rfl rfl (base_Rat_ok (TQ y).t (TQ y).t hyw (by decide)) ?_
  rw [eqR_self]
  refine AOps.run tok 2 _ _ _ _ rfl ?_
  refine AOps.nil ?_
  exact AW.ret rfl
end Lift
/- What GearRatios stands on. -/
