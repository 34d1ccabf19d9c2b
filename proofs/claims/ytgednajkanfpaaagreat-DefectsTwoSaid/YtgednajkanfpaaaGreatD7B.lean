/- Parts of the proof, one behind the other: the logic, the contracts of the functions that the statement reaches. -/
import Derived.Test.YtgednajkanfpaaaGreatD7A
import Derived.ChangeArms
import GoSem.ClaimJoined
import Derived.ProofKit
import Derived.SizedLaws
import Derived.Test.YtgednajkanfpaaaGreatChecked
import Derived.KernelRfl
set_option linter.unusedVariables false
set_option linter.unusedSimpArgs false
namespace Lift
open Go
open Go.RowKit (Below)
section
variable {P : Program} {T : Ty} {B : Nat} {F0 : Nat → Prop} {w0 : Bas} {n : Nat} {lk hm : Nat → Option AV} {o : Oper} {d : Nat} {σ : St}
variable {K : St → Prop} {Q : Exit → St → Prop} {all : Array Oper} {rest l : List Oper} {c : Code}
def guardOk (all : Array Oper) (σ : St) (o : Oper) : Bool := match o.guard with
  | none => true
  | some (g, b) => match guardVal all σ g with
    | some b' => b' == b
    | none => false
theorem AOps.op {σ' : St} (hg : guardOk all σ o = true) (ho : OpOk P B F0 w0 n o σ σ') (h : AOps P B F0 w0 n all rest K σ') : AOps P B F0 w0 n all (o :: rest) K σ := by
  unfold guardOk at hg
  split at hg
  · rename_i hgd; exact AOps.step hgd ho h
  · rename_i g b hgd
    split at hg
    · rename_i b' hb'
      obtain ⟨og, t, h1, h2, h3⟩ := guardVal_ok hb'
      have : b' = b := by simpa using hg
      subst this
      exact AOps.guardT hgd h1 h2 h3 ho h
    · cases hg
theorem AOps.pure {av : AV} (hg : guardOk all σ o = true) (hdn : Nat.ble (d + 1) n = true) (ho : PStep P B F0 w0 d o σ.get (hmx σ d) av) (h : AOps P B F0 w0 n all rest K (σ.put d av)) : AOps P B F0 w0 n all (o :: rest) K σ :=
  AOps.op hg (OpOk.of_pure ho (Nat.le_of_ble_eq_true hdn)) h
theorem AOps.idx (hT : TOk P T) {xs : List D} {iv : Int} (e : D) (hd : o.dst = some d) (hdn : Nat.ble (d + 1) n = true) (hg : guardOk all σ o = true) (hx : idxF T σ.get o.op = some (xs, iv)) (h0 : 0 ≤ iv) (he : xs[iv.toNat]? = some e)
    (h : AOps P B F0 w0 n all rest K ((d, .rf e.flat) :: σ)) : AOps P B F0 w0 n all (o :: rest) K σ := AOps.pure hg hdn (PStep.idx hT hd (hmx_self σ d) hx h0 he) h
theorem AOps.idxo (hT : TOk P T) {xs : List D} {iv : Int} {k m : Nat} (hd : o.dst = some d) (hdn : Nat.ble (d + 1) n = true) (hg : guardOk all σ o = true) (hx : idxO T σ.get (hmx σ d) o.op = some (k, xs, 0, m, iv)) (h0 : 0 ≤ iv) (hl : iv.toNat < m)
    (h : AOps P B F0 w0 n all rest K ((d, .el k iv.toNat 0) :: σ)) : AOps P B F0 w0 n all (o :: rest) K σ := AOps.pure hg hdn (PStep.idxo hT hd (hmx_self σ d) hx h0 hl) (by rw [Nat.zero_add]; exact h)
theorem AOps.idxw (hT : TOk P T) {xs : List D} {iv : Int} {k lo m : Nat} (hd : o.dst = some d) (hdn : Nat.ble (d + 1) n = true) (hg : guardOk all σ o = true) (hx : idxO T σ.get (hmx σ d) o.op = some (k, xs, lo, m, iv)) (h0 : 0 ≤ iv) (hl : iv.toNat < m)
    (h : AOps P B F0 w0 n all rest K ((d, .el k (lo + iv.toNat) 0) :: σ)) : AOps P B F0 w0 n all (o :: rest) K σ := AOps.pure hg hdn (PStep.idxo hT hd (hmx_self σ d) hx h0 hl) h
theorem AOps.loadel (hT : TOk P T) {ti : TI} {xs : List D} {i off : Nat} {x : D} (y : D) (hd : o.dst = some d) (hdn : Nat.ble (d + 1) n = true) (hg : guardOk all σ o = true) (hx : elF T σ.get (hmx σ d) o.op = some (ti, xs, i, off)) (hy : xs[i]? = some y) (hav : loadD ti (y.flat.drop off) = some (.d x))
    (h : AOps P B F0 w0 n all rest K ((d, .d x) :: σ)) : AOps P B F0 w0 n all (o :: rest) K σ := AOps.pure hg hdn (PStep.loadel hT hd (hmx_self σ d) hx hy hav) h
theorem AOps.storeel (hT : TOk P T) {k e i off : Nat} {xs : List D} {y : D} (old : D) (hd : o.dst = none) (hg : guardOk all σ o = true) (hx : seF T σ o.op = some (k, .ow e xs, xs, i, off, y)) (hold : xs[i]? = some old) (hok : okEl old y off = true)
    (h : AOps P B F0 w0 n all rest K ((k, .ow e (xs.set i (newEl old y off))) :: σ)) : AOps P B F0 w0 n all (o :: rest) K σ := AOps.op hg (OpOk.storeel hT hd hx hold hok) h
theorem AOps.storewn (hT : TOk P T) {q : Bool} {k e i off lo m : Nat} {xs : List D} {y : D} (old : D) (hd : o.dst = none) (hg : guardOk all σ o = true) (hx : seF T σ o.op = some (k, .wn q e xs lo m, xs, i, off, y)) (hold : xs[i]? = some old) (hok : okEl old y off = true)
    (h : AOps P B F0 w0 n all rest K ((k, .wn q e (xs.set i (newEl old y off)) lo m) :: σ)) : AOps P B F0 w0 n all (o :: rest) K σ := AOps.op hg (OpOk.storeel hT hd hx hold hok) h
theorem AOps.strix (hT : TOk P T) {s : ByteArray} {iv : Int} (hd : o.dst = some d) (hdn : Nat.ble (d + 1) n = true) (hg : guardOk all σ o = true) (hx : strI T σ.get o.op = some (s, iv)) (h0 : 0 ≤ iv) (hl : iv.toNat < s.size)
    (h : AOps P B F0 w0 n all rest K ((d, .d (.v (.int .u8 ((s.data.toList.getD iv.toNat 0).toNat : Int)))) :: σ)) : AOps P B F0 w0 n all (o :: rest) K σ := AOps.pure hg hdn (PStep.strix hT hd (hmx_self σ d) hx h0 hl) h
theorem AOps.slc (hT : TOk P T) {s : Nat} {xs : List D} {lo hi : Option Int} (hd : o.dst = some d) (hdn : Nat.ble (d + 1) n = true) (hg : guardOk all σ o = true) (hx : slcF T σ.get o.op = some (.sl s xs, lo, hi)) (g1 : okB lo) (g2 : okB hi) (g3 : loN lo ≤ hiN xs.length hi) (g4 : hiN xs.length hi ≤ xs.length)
    (h : AOps P B F0 w0 n all rest K ((d, .d (.sl s ((xs.take (hiN xs.length hi)).drop (loN lo)))) :: σ)) : AOps P B F0 w0 n all (o :: rest) K σ := AOps.pure hg hdn (PStep.slc hT hd (hmx_self σ d) hx g1 g2 g3 g4) h
theorem AOps.call (hT : TOk P T) {f : FuncId} {ds : List D} {res : D} (hd : o.dst = some d) (hdn : Nat.ble (d + 1) n = true) (hg : guardOk all σ o = true) (hx : callF T σ.get o.op = some (f, ds)) (hP : Pure P f ds res)
    (h : AOps P B F0 w0 n all rest K ((d, .d res) :: σ)) : AOps P B F0 w0 n all (o :: rest) K σ := AOps.pure hg hdn (PStep.call hT hd (hmx_self σ d) hx hP) h
theorem AOps.calls (hT : TOk P T) {f : FuncId} {ds : List D} {res : D} (hd : o.dst = some d) (hdn : Nat.ble (d + 1) n = true) (hg : guardOk all σ o = true) (hx : callL T σ.get (hmx σ d) o.op = some (f, ds)) (hP : Pure P f ds res) (hs : scalarD res = true)
    (h : AOps P B F0 w0 n all rest K ((d, .d res) :: σ)) : AOps P B F0 w0 n all (o :: rest) K σ := AOps.pure hg hdn (PStep.calls hT hd (hmx_self σ d) hx hs hP) h
theorem AOps.make (hT : TOk P T) {e : Nat} {te : TI} {m : Int} (hd : o.dst = some d) (hdn : Nat.ble (d + 1) n = true) (hg : guardOk all σ o = true) (hx : mkF T σ.get o.op = some (e, te, m)) (hz : zeroOk te = true) (h0 : 0 ≤ m) (hb : (te.bytes : Int) * m ≤ 281474976710656) (hm63 : m ≤ 9223372036854775807)
    (h : AOps P B F0 w0 n all rest K ((d, .ow e (List.replicate m.toNat (zeroD te))) :: σ.kill d)) : AOps P B F0 w0 n all (o :: rest) K σ := AOps.pure hg hdn (PStep.make hT hd (hmx_self σ d) hx hz h0 hb hm63) h
theorem AOps.app0 (hT : TOk P T) {e : Nat} {te : TI} {xs : List D} (hd : o.dst = some d) (hdn : Nat.ble (d + 1) n = true) (hg : guardOk all σ o = true) (hx : apF T σ.get (hmx σ d) o.op = some (e, te, xs)) (hlen : xs.length * te.bytes ≤ 140737488355328)
    (h : AOps P B F0 w0 n all rest K ((d, .ow e xs) :: σ.kill d)) : AOps P B F0 w0 n all (o :: rest) K σ := AOps.pure hg hdn (PStep.app0 hT hd (hmx_self σ d) hx hlen) h
theorem AOps.app0d (hT : TOk P T) {e : Nat} {te : TI} {xs : List D} (hd : o.dst = some d) (hdn : Nat.ble (d + 1) n = true) (hg : guardOk all σ o = true) (hx : apF T σ.get (hmx σ d) o.op = some (e, te, xs)) (hlen : xs.length * te.bytes ≤ 140737488355328)
    (h : AOps P B F0 w0 n all rest K ((d, .d (.sl te.size xs)) :: σ)) : AOps P B F0 w0 n all (o :: rest) K σ := AOps.pure hg hdn (PStep.app0d hT hd (hmx_self σ d) hx hlen) h
theorem AOps.bsd (hT : TOk P T) {e : Nat} {te : TI} {xs : List D} (hd : o.dst = some d) (hdn : Nat.ble (d + 1) n = true) (hg : guardOk all σ o = true) (hx : bsF T σ.get o.op = some (e, xs)) (hte : T.get e = some te)
    (h : AOps P B F0 w0 n all rest K ((d, .d (.sl te.size xs)) :: σ)) : AOps P B F0 w0 n all (o :: rest) K σ := AOps.pure hg hdn (PStep.bsd hT hte hd (hmx_self σ d) hx) h
theorem AOps.appo (hT : TOk P T) {k e : Nat} {te : TI} {xs ys : List D} (hd : o.dst = some d) (hdn : Nat.ble (d + 1) n = true) (hg : guardOk all σ o = true) (hx : apoF T σ o.op = some (k, e, te, xs, ys)) (hne : Nat.beq k d = false) (hz : zeroOk te = true) (hlen : (xs.length + ys.length) * te.bytes ≤ 140737488355328) (h63 : xs.length + ys.length ≤ 9223372036854775807)
    (h : AOps P B F0 w0 n all rest K ((d, .ow e (xs ++ ys)) :: (k, .junk) :: σ.kill d)) : AOps P B F0 w0 n all (o :: rest) K σ := AOps.op hg (OpOk.appo hT hd (Nat.le_of_ble_eq_true hdn) hx (Nat.ne_of_beq_eq_false hne) hz hlen h63) h
theorem AOps.bs (hT : TOk P T) {e : Nat} {xs : List D} (hd : o.dst = some d) (hdn : Nat.ble (d + 1) n = true) (hg : guardOk all σ o = true) (hx : bsF T σ.get o.op = some (e, xs))
    (h : AOps P B F0 w0 n all rest K ((d, .ow e xs) :: σ.kill d)) : AOps P B F0 w0 n all (o :: rest) K σ := AOps.pure hg hdn (PStep.bs hT hd (hmx_self σ d) hx) h
theorem AOps.div (hT : TOk P T) {q : Bool} {k : IntKind} {x y : Int} (hd : o.dst = some d) (hdn : Nat.ble (d + 1) n = true) (hg : guardOk all σ o = true) (hx : divF T σ.get o.op = some (q, k, x, y)) (h0 : y ≠ 0)
    (h : AOps P B F0 w0 n all rest K ((d, .d (.v (divV q k x y))) :: σ)) : AOps P B F0 w0 n all (o :: rest) K σ := AOps.pure hg hdn (PStep.div hT hd (hmx_self σ d) hx h0) h
theorem AOps.err (hT : TOk P T) {q : Bool} {u : Value} (hd : o.dst = some d) (hdn : Nat.ble (d + 1) n = true) (hg : guardOk all σ o = true) (hx : errF T σ.get o.op = some (q, u)) (hi : ifaceV u = true)
    (h : AOps P B F0 w0 n all rest K ((d, .d (.v (.bool (nilV u == q)))) :: σ)) : AOps P B F0 w0 n all (o :: rest) K σ := AOps.pure hg hdn (PStep.err hT hd (hmx_self σ d) hx hi) h
theorem AOps.ta (hT : TOk P T) {t : Nat} {k : IntKind} {z : Int} (hd : o.dst = some d) (hdn : Nat.ble (d + 1) n = true) (hg : guardOk all σ o = true) (hx : taF T σ.get o.op = some (t, .iface t (.int k z)))
    (h : AOps P B F0 w0 n all rest K ((d, .d (.tu [.v (.int k z), .v (.bool true)])) :: σ)) : AOps P B F0 w0 n all (o :: rest) K σ := AOps.pure hg hdn (PStep.ta hT hd (hmx_self σ d) hx) h
theorem AOps.be (hT : TOk P T) {q x y : Bool} (hd : o.dst = some d) (hdn : Nat.ble (d + 1) n = true) (hg : guardOk all σ o = true) (hx : beF T σ.get o.op = some (q, x, y))
    (h : AOps P B F0 w0 n all rest K ((d, .d (.v (.bool ((x == y) == q)))) :: σ)) : AOps P B F0 w0 n all (o :: rest) K σ := AOps.pure hg hdn (PStep.be hT hd (hmx_self σ d) hx) h
theorem AOps.frz (hT : TOk P T) (t : Nat) {e : Nat} {xs : List D} {te : TI} (ht : σ.get t = some (.ow e xs)) (he : T.get e = some te) (h : AOps P B F0 w0 n all l K (σ.frz t (.sl te.size xs))) : AOps P B F0 w0 n all l K σ := fun a w hR => h a w (hR.frz hT ht he)
theorem AOps.frzw (hT : TOk P T) (t : Nat) {q : Bool} {e lo m : Nat} {xs : List D} {te : TI} (ht : σ.get t = some (.wn q e xs lo m)) (he : T.get e = some te) (h : AOps P B F0 w0 n all l K (σ.frz t (.sl te.size ((xs.drop lo).take m)))) : AOps P B F0 w0 n all l K σ := fun a w hR => h a w (hR.frzw hT ht he)
theorem AW.frzw (hT : TOk P T) (t : Nat) {q : Bool} {e lo m : Nat} {xs : List D} {te : TI} (ht : σ.get t = some (.wn q e xs lo m)) (he : T.get e = some te) (h : AW P B F0 w0 n c Q (σ.frz t (.sl te.size ((xs.drop lo).take m)))) : AW P B F0 w0 n c Q σ := fun a w hR => h a w (hR.frzw hT ht he)
theorem AW.frz (hT : TOk P T) (t : Nat) {e : Nat} {xs : List D} {te : TI} (ht : σ.get t = some (.ow e xs)) (he : T.get e = some te) (h : AW P B F0 w0 n c Q (σ.frz t (.sl te.size xs))) : AW P B F0 w0 n c Q σ := fun a w hR => h a w (hR.frz hT ht he)
end
end Lift
namespace Lift
open Go
open Go.RowKit (Below)
def memN (d : Nat) : List Nat → Bool
  | [] => false
  | k :: r => match Nat.beq k d with
    | true => true
    | false => memN d r
theorem memN_iff {d : Nat} : ∀ {l : List Nat}, memN d l = true ↔ d ∈ l
  | [] => by simp [memN]
  | k :: r => by
    simp only [memN, List.mem_cons]
    cases h : Nat.beq k d with
    | true => simp [Nat.eq_of_beq_eq_true h]
    | false => simp [memN_iff (l := r), Ne.symm (Nat.ne_of_beq_eq_false h)]
def refsOk (ds : List Nat) (av : AV) : Bool := match av.refs with
  | some h => match memN h ds with
    | true => false
    | false => true
  | none => true
def AV.killL (ds : List Nat) (av : AV) : AV := match refsOk ds av with
  | true => av
  | false => .junk
def St.less (ds : List Nat) : St → St
  | [] => []
  | (k, a) :: r => match memN k ds with
    | true => St.less ds r
    | false => (k, a.killL ds) :: St.less ds r
theorem get_less (ds : List Nat) (σ : St) (t : Nat) : (σ.less ds).get t = if t ∈ ds then none else (σ.get t).map (AV.killL ds) := by
  induction σ with
  | nil => simp [St.less, St.get]
  | cons e r ih =>
    obtain ⟨k, a⟩ := e
    simp only [St.less]
    split
    · rename_i h
      rw [memN_iff] at h
      rw [ih, St.get_cons]
      by_cases ht : t ∈ ds
      · simp [ht]
      · rw [if_neg ht, if_neg ht, if_neg (fun (e : k = t) => ht (e ▸ h))]
    · rename_i h
      have h : k ∉ ds := fun h' => by rw [memN_iff.2 h'] at h; cases h
      rw [St.get_cons, St.get_cons, ih]
      by_cases hk : k = t
      · subst hk; simp [h]
      · simp [hk]
theorem killL_home {ds : List Nat} {a : AV} (h : (a.killL ds).home = true) : a.killL ds = a := by
  unfold AV.killL at h ⊢
  split
  · rfl
  · rename_i hr; rw [hr] at h; simp [AV.home] at h
section
variable {P : Program} {T : Ty} {B : Nat} {F0 : Nat → Prop} {w0 : Bas} {n : Nat} {σ : St} {ops : Array Oper}
theorem Rel.less (ds : List Nat) {a : Act} {w : World} (hR : Rel P B F0 w0 n σ a w) : Rel P B F0 w0 n (σ.less ds) a w := by
  obtain ⟨O, hOr, hO⟩ := hR.own
  refine ⟨hR.below, hR.base, hR.f0, hR.defers, hR.size, O, hOr, fun t av h => ?_⟩
  rw [get_less] at h
  split at h <;> try (cases h; done)
  cases hs : σ.get t with
  | none => simp [hs] at h
  | some y =>
    simp only [hs, Option.map_some, Option.some.injEq] at h
    subst h
    obtain ⟨v, hv, hr⟩ := hO t y hs
    refine ⟨v, hv, ?_⟩
    unfold AV.killL
    split
    · refine hr.move (fun c hc => ⟨hc, rfl⟩) (fun _ c hc => ⟨hc, rfl⟩) (fun k _ x hx hg => ?_)
      rw [get_less] at hg
      split at hg <;> try (cases hg; done)
      cases hk : σ.get k with
      | none => simp [hk] at hg
      | some z =>
        simp only [hk, Option.map_some, Option.some.injEq] at hg
        subst hg
        rw [killL_home hx]
        exact ⟨rfl, rfl⟩
    · trivial
def StepAt (P : Program) (B : Nat) (F0 : Nat → Prop) (w0 : Bas) (ops : Array Oper) (σ0 τ : St) (o : Oper) (d : Nat) (av : AV) : Prop :=
  (guardOk ops τ o = true ∧ PStep P B F0 w0 d o τ.get σ0.get av) ∨
  (∃ g b, o.guard = some (g, b) ∧ ((∃ b', guardVal ops τ g = some b' ∧ (b' == b) = false) ∨ guardUn ops τ g = true) ∧ av = .un)
def APre (P : Program) (B : Nat) (F0 : Nat → Prop) (w0 : Bas) (n : Nat) (ops : Array Oper) (ds : List Nat) (σ0 : St) : List Oper → St → (St → Prop) → Prop
  | [], τ, K => K τ
  | o :: r, τ, K => ∃ d av, o.dst = some d ∧ d < n ∧ refsOk ds av = true ∧ StepAt P B F0 w0 ops σ0 τ o d av ∧ APre P B F0 w0 n ops ds σ0 r ((d, av) :: τ) K
def heads (ops : Array Oper) (m : Nat) : List Nat := (ops.toList.take m).filterMap (·.dst)
def setter (ops : Array Oper) (m t : Nat) : Option Nat := (List.range m).find? fun i => match ops[i]? with
  | some o => o.dst == some t
  | none => false
def headB (ops : Array Oper) (m : Nat) : Bool := (List.range m).all fun j => match ops[j]? with
  | some o => o.dst.isSome && (o.after.all fun e => !(Region.binds .any e) || decide (e.on < j)) &&
      ((o.looksAt ops).all fun t => match setter ops m t with
        | some i => o.after.any fun e => Region.binds .any e && e.on == i
        | none => true) &&
      ((List.range m).all fun i => i == j || match ops[i]? with
        | some o' => o'.dst != o.dst
        | none => true) &&
      (match o.guard with
        | some (g, _) => decide (g < m)
        | none => true)
  | none => false
def drawB (ops : Array Oper) (m : Nat) : Bool :=
  decide (m ≤ ops.size) && headB ops m && (decide (m = ops.size) || (Region.sinkB .any ops m && Region.chainB .any ops m)) &&
    Region.seqB .any ops (ops.size - m) m (Array.replicate m true ++ Array.replicate (ops.size - m) false)
def un (listed : Array Bool) : Nat → Nat
  | 0 => 0
  | k + 1 => un listed k + if listed.getD k true = false then 1 else 0
theorem un_set_out {listed : Array Bool} {i : Nat} : ∀ k, k ≤ i → un (listed.setIfInBounds i true) k = un listed k
  | 0, _ => rfl
  | k + 1, h => by
    simp only [un]
    rw [un_set_out k (by omega), getD_set_ne true (by omega)]
theorem un_set {listed : Array Bool} {i : Nat} (hi : listed.getD i true = false) : ∀ k, i < k → un (listed.setIfInBounds i true) k + 1 = un listed k
  | 0, h => by omega
  | k + 1, h => by
    simp only [un]
    by_cases hk : i = k
    · subst hk
      rw [un_set_out i (Nat.le_refl _)]
      have hs : i < listed.size := by
        rcases Nat.lt_or_ge i listed.size with h' | h'
        · exact h'
        · simp [Array.getElem?_eq_none h'] at hi
      have : (listed.setIfInBounds i true).getD i true = true := by simp [hs]
      rw [this, hi]
      simp
    · have := un_set hi k (by omega)
      rw [getD_set_ne true hk]
      omega
theorem un_zero {listed : Array Bool} : ∀ k, un listed k = 0 → ∀ j, j < k → listed.getD j true = true
  | 0, _, j, h => by omega
  | k + 1, h0, j, h => by
    simp only [un] at h0
    by_cases hk : j = k
    · subst hk
      cases hb : listed.getD j true with
      | true => rfl
      | false => rw [hb] at h0; simp at h0
    · exact un_zero k (by omega) j (by omega)
theorem un_pos {listed : Array Bool} : ∀ k, 0 < un listed k → ∃ j, j < k ∧ listed.getD j true = false ∧ ∀ i, i < j → listed.getD i true = true
  | 0, h => by simp [un] at h
  | k + 1, h => by
    by_cases h0 : 0 < un listed k
    · obtain ⟨j, h1, h2, h3⟩ := un_pos k h0
      exact ⟨j, by omega, h2, h3⟩
    · simp only [un] at h
      have h0 : un listed k = 0 := by omega
      have := un_zero k h0
      refine ⟨k, by omega, ?_, this⟩
      cases hb : listed.getD k true with
      | true => rw [hb] at h; simp at h; omega
      | false => rfl
theorem get_append : ∀ (l r : St) (t : Nat), St.get (l ++ r) t = match St.get l t with | some a => some a | none => St.get r t
  | [], r, t => by simp [St.get]
  | (k, a) :: l, r, t => by
    rw [List.cons_append, St.get_cons, St.get_cons, get_append l r t]
    split <;> rfl
theorem get_mem : ∀ {l : St} {t : Nat} {av : AV}, St.get l t = some av → (t, av) ∈ l
  | [], t, av, h => by simp [St.get] at h
  | (k, a) :: l, t, av, h => by
    rw [St.get_cons] at h
    split at h
    · rename_i e; simp at h; subst h; subst e; simp
    · exact List.mem_cons_of_mem _ (get_mem h)
theorem get_nomem : ∀ {l : St} {t : Nat}, St.get l t = none → ∀ av, (t, av) ∉ l
  | [], t, _, av, h => by simp at h
  | (k, a) :: l, t, hn, av, h => by
    rw [St.get_cons] at hn
    split at hn <;> try (cases hn; done)
    rename_i e
    rcases List.mem_cons.1 h with h | h
    · simp at h; exact e h.1.symm
    · exact get_nomem hn av h
theorem APre.out {ds : List Nat} {σ0 : St} {K : St → Prop} : ∀ (l : List Oper) (τ : St), APre P B F0 w0 n ops ds σ0 l τ K →
    ∃ tl : List (Nat × AV), tl.length = l.length ∧ K (tl.reverse ++ τ) ∧ ∀ (j : Nat) (o : Oper), l[j]? = some o → ∃ d av, tl[j]? = some (d, av) ∧ o.dst = some d ∧ d < n ∧ refsOk ds av = true ∧ StepAt P B F0 w0 ops σ0 ((tl.take j).reverse ++ τ) o d av
  | [], τ, h => ⟨[], rfl, h, fun j o hj => by simp at hj⟩
  | o :: r, τ, h => by
    obtain ⟨d, av, h1, h2, h3, h4, h5⟩ := h
    obtain ⟨tl, g1, g2, g3⟩ := APre.out r _ h5
    refine ⟨(d, av) :: tl, by simp [g1], by simpa using g2, fun j o' hj => ?_⟩
    cases j with
    | zero => simp at hj; subst hj; exact ⟨d, av, rfl, h1, h2, h3, by simpa using h4⟩
    | succ j =>
      obtain ⟨d', av', f1, f2, f3, f4, f5⟩ := g3 j o' (by simpa using hj)
      exact ⟨d', av', by simpa using f1, f2, f3, f4, by simpa using f5⟩
structure RelL (P : Program) (B : Nat) (F0 : Nat → Prop) (w0 : Bas) (n m : Nat) (σ0 : St) (tl : List (Nat × AV)) (listed : Array Bool) (a : Act) (w : World) : Prop where
  below : BelY B w0 w0.w w
  base : B ≤ w.heap.size
  f0 : F0ok B F0 w0
  defers : a.defers = []
  size : a.tmps.size = n
  own : ∃ O : Nat → Option Nat, (∀ b t, O b = some t → OwnR B w0 w b) ∧
    (∀ t av, σ0.get t = some av → ∃ v, a.tmps[t]? = some v ∧ AVR P w0.X w O (FW B F0 w) σ0.get (fun h => a.tmps[h]?) t av v) ∧
    (∀ j d av, j < m → tl[j]? = some (d, av) → listed.getD j true = true → ∃ v, a.tmps[d]? = some v ∧ AVR P w0.X w O (FW B F0 w) σ0.get (fun h => a.tmps[h]?) d av v)
theorem Rel.drew {a : Act} {w : World} (hR : Rel P B F0 w0 n σ a w) : Rel P B F0 w0 n σ a { w with drawn := w.drawn + 1 } := by
  obtain ⟨O, hOr, hO⟩ := hR.own
  refine ⟨hR.below.drew, hR.base, hR.f0, hR.defers, hR.size, O, hOr, fun t av h => ?_⟩
  obtain ⟨v, hv, hr⟩ := hO t av h
  exact ⟨v, hv, hr.move (fun c hc => ⟨hc, rfl⟩) (fun _ c hc => ⟨hc, rfl⟩) (fun k _ x _ hk => ⟨hk, rfl⟩)⟩
theorem headB_spec {m : Nat} (hB : headB ops m = true) {j : Nat} (hj : j < m) : ∃ o d, ops[j]? = some o ∧ o.dst = some d ∧ (∀ e ∈ o.after, Region.binds .any e = true → e.on < j) ∧
    (∀ t ∈ o.looksAt ops, ∀ i, i < m → (∃ o', ops[i]? = some o' ∧ o'.dst = some t) → ∃ i', (∃ o', ops[i']? = some o' ∧ o'.dst = some t) ∧ i' < m ∧ ∃ e ∈ o.after, Region.binds .any e = true ∧ e.on = i') ∧
    (∀ i o', i < m → i ≠ j → ops[i]? = some o' → o'.dst ≠ o.dst) ∧ (∀ g b, o.guard = some (g, b) → g < m) := by
  have h := List.all_eq_true.1 hB j (List.mem_range.2 hj)
  split at h <;> try (cases h; done)
  rename_i o ho
  simp only [Bool.and_eq_true] at h
  obtain ⟨⟨⟨⟨h1, h2⟩, h3⟩, h4⟩, h5⟩ := h
  obtain ⟨d, hd⟩ := Option.isSome_iff_exists.1 h1
  refine ⟨o, d, ho, hd, fun e he hb => ?_, fun t ht i hi ⟨o', ho', hdt⟩ => ?_, fun i o' hi hij ho' => ?_, fun g b hg => ?_⟩
  · have := (Array.all_eq_true_iff_forall_mem.1 h2) e he
    simpa [hb] using this
  · have := List.all_eq_true.1 h3 t ht
    cases hs : setter ops m t with
    | none =>
      exfalso
      have := List.find?_eq_none.1 hs i (List.mem_range.2 hi)
      simp [ho', hdt] at this
    | some i' =>
      rw [hs] at this
      simp only [] at this
      obtain ⟨e, he, hb⟩ := Array.any_eq_true'.1 this
      simp only [Bool.and_eq_true, beq_iff_eq] at hb
      have hf := List.find?_some hs
      have hm' := List.mem_of_find?_eq_some hs
      split at hf <;> try (cases hf; done)
      rename_i o2 ho2
      exact ⟨i', ⟨o2, ho2, by simpa using hf⟩, List.mem_range.1 hm', e, he, hb.1, hb.2⟩
  · have := List.all_eq_true.1 h4 i (List.mem_range.2 hi)
    rw [ho'] at this
    simp only [Bool.or_eq_true, beq_iff_eq, bne_iff_ne] at this
    exact this.resolve_left hij
  · rw [hg] at h5
    simpa using h5
def AAny (P : Program) (B : Nat) (F0 : Nat → Prop) (w0 : Bas) (n : Nat) (ops : Array Oper) (Q : Exit → St → Prop) (σ : St) : Prop :=
  ∀ (a : Act) (w : World), Rel P B F0 w0 n σ a w → wpAny P .any ops (fun e a' w' => ∃ σ', Q e σ' ∧ Rel P B F0 w0 n σ' a' w') ops.size (Array.replicate ops.size false) a { w with drawn := w.drawn + 1 }
theorem AAny.drawG {Qx : Exit → Act → World → Prop} {TK : St → Prop} (m : Nat) (hB : drawB ops m = true) (htk : ∀ τ a w, TK τ → Rel P B F0 w0 n τ a w → wpList P ops Qx (ops.toList.drop m) a w)
    (h : APre P B F0 w0 n ops (heads ops m) (σ.less (heads ops m)) (ops.toList.take m) (σ.less (heads ops m)) TK) :
    ∀ (a : Act) (w : World), Rel P B F0 w0 n σ a w → wpAny P .any ops Qx ops.size (Array.replicate ops.size false) a { w with drawn := w.drawn + 1 } := by
  intro a w hR
  simp only [drawB, Bool.and_eq_true, Bool.or_eq_true, decide_eq_true_eq] at hB
  obtain ⟨⟨⟨hmle, hhead⟩, htail⟩, hseq⟩ := hB
  have hR0 := (hR.less (heads ops m)).drew
  generalize hds : heads ops m = ds at h hR0
  generalize hσ0 : σ.less ds = σ0 at h hR0
  have hs0ds : ∀ t av, σ0.get t = some av → t ∉ ds ∧ refsOk ds av = true := fun t av hg => by
    rw [← hσ0, get_less] at hg
    split at hg <;> try (cases hg; done)
    rename_i htd
    refine ⟨htd, ?_⟩
    cases hs : σ.get t with
    | none => simp [hs] at hg
    | some y =>
      simp only [hs, Option.map_some, Option.some.injEq] at hg
      subst hg
      unfold AV.killL
      cases hr : refsOk ds y with
      | true => exact hr
      | false => rfl
  obtain ⟨tl, htl, hK, hstep⟩ := APre.out _ _ h
  have hlen : tl.length = m := by rw [htl]; simp; omega
  have hop : ∀ j, j < m → (ops.toList.take m)[j]? = ops[j]? := fun j hj => by simp [List.getElem?_take, hj]
  have hset : ∀ j, j < m → ∃ o d av, ops[j]? = some o ∧ o.dst = some d ∧ tl[j]? = some (d, av) ∧ d < n ∧ refsOk ds av = true ∧ d ∈ ds ∧ StepAt P B F0 w0 ops σ0 ((tl.take j).reverse ++ σ0) o d av := fun j hj => by
    obtain ⟨o, d, h1, h2, _⟩ := headB_spec hhead hj
    obtain ⟨d', av, g1, g2, g3, g4, g5⟩ := hstep j o (by rw [hop j hj]; exact h1)
    rw [h2] at g2
    simp at g2
    subst g2
    refine ⟨o, d, av, h1, h2, g1, g3, g4, ?_, g5⟩
    rw [← hds]
    exact List.mem_filterMap.2 ⟨o, List.mem_of_getElem? ((hop j hj).trans h1), h2⟩
  have hdist : ∀ i j t av av', i < m → j < m → tl[i]? = some (t, av) → tl[j]? = some (t, av') → i = j := fun i j t av av' hi hj h1 h2 => by
    by_cases hij : i = j
    · exact hij
    · exfalso
      obtain ⟨o, d, av1, g1, g2, g3, _⟩ := hset j hj
      obtain ⟨o', d', av2, f1, f2, f3, _⟩ := hset i hi
      obtain ⟨o2, d2, e1, e2, _, _, e3, _⟩ := headB_spec hhead hj
      rw [g1] at e1
      simp at e1
      subst e1
      have := e3 i o' hi hij f1
      rw [f2, g2] at this
      rw [h1] at f3
      rw [h2] at g3
      simp at f3 g3
      exact this (by rw [← f3.1, ← g3.1])
  have hL2 : ∀ j, j ≤ m → ∀ t av, St.get ((tl.take j).reverse ++ σ0) t = some av → (∃ i, i < j ∧ tl[i]? = some (t, av)) ∨ σ0.get t = some av := fun j hj t av hg => by
    rw [get_append] at hg
    split at hg
    · rename_i x hx
      simp at hg
      subst hg
      have := get_mem hx
      rw [List.mem_reverse] at this
      obtain ⟨i, hi⟩ := List.mem_iff_getElem?.1 this
      rw [List.getElem?_take] at hi
      split at hi <;> try (cases hi; done)
      rename_i hij
      exact .inl ⟨i, hij, hi⟩
    · exact .inr hg
  have hval : ∀ j o, j < m → ops[j]? = some o → ∀ listed a w, RelL P B F0 w0 n m σ0 tl listed a w → (∀ e ∈ o.after, Region.binds .any e = true → listed.getD e.on false = true) →
      ∀ O, (∀ t av, σ0.get t = some av → ∃ v, a.tmps[t]? = some v ∧ AVR P w0.X w O (FW B F0 w) σ0.get (fun h => a.tmps[h]?) t av v) →
      (∀ j d av, j < m → tl[j]? = some (d, av) → listed.getD j true = true → ∃ v, a.tmps[d]? = some v ∧ AVR P w0.X w O (FW B F0 w) σ0.get (fun h => a.tmps[h]?) d av v) →
      ∀ t, t ∈ o.looksAt ops → ∀ av, St.get ((tl.take j).reverse ++ σ0) t = some av → ∃ v, a.tmps[t]? = some v ∧ AVR P w0.X w O (FW B F0 w) σ0.get (fun h => a.tmps[h]?) t av v := by
    intro j o hj ho listed a w hRL hall O hO1 hO2 t ht av hg
    rcases hL2 j (by omega) t av hg with ⟨i, hij, hi⟩ | hg
    · obtain ⟨oi, di, avi, f1, f2, f3, _⟩ := hset i (by omega)
      rw [hi] at f3
      simp at f3
      obtain ⟨rfl, rfl⟩ := f3
      obtain ⟨o2, d2, e1, e2, _, e4, _⟩ := headB_spec hhead hj
      rw [ho] at e1
      simp at e1
      subst e1
      obtain ⟨i', ⟨o', g1, g2⟩, g3, e, g4, g5, g6⟩ := e4 t ht i (by omega) ⟨oi, f1, f2⟩
      obtain ⟨o3, d3, av3, k1, k2, k3, _⟩ := hset i' g3
      rw [g1] at k1
      simp at k1
      subst k1
      rw [g2] at k2
      simp at k2
      subst k2
      have hii : i' = i := hdist i' i t av3 av g3 (by omega) k3 hi
      subst hii
      have hl := hall e g4 g5
      rw [g6] at hl
      have hl' : listed.getD i' true = true := by
        rcases Nat.lt_or_ge i' listed.size with h' | h'
        · simp [h'] at hl ⊢; exact hl
        · simp [Array.getElem?_eq_none h'] at hl
      exact hO2 i' t av g3 hi hl'
    · exact hO1 t av hg
  have hone : ∀ j listed a w, j < m → RelL P B F0 w0 n m σ0 tl listed a w → j ∈ Region.ready .any ops listed → ∀ (Q' : Exit → Act → World → Prop) (K : Act → World → Prop), (∀ a w, RelL P B F0 w0 n m σ0 tl (listed.setIfInBounds j true) a w → K a w) → wpOp P ops Q' j K a w := by
    intro j listed a w hj hRL hready Q' K hKK
    obtain ⟨o, d, av, h1, h2, h3, h4, h5, h6, h7⟩ := hset j hj
    obtain ⟨hun, o', ho', hall⟩ := mem_ready.1 hready
    rw [h1] at ho'
    simp at ho'
    subst ho'
    obtain ⟨O, hOr, hO1, hO2⟩ := hRL.own
    have hv := hval j o hj h1 listed a w hRL hall O hO1 hO2
    have hdn : σ0.get d = none := by
      cases hs : σ0.get d with
      | none => rfl
      | some x => exact absurd h6 (hs0ds d x hs).1
    have hds' : d < a.tmps.size := by rw [hRL.size]; exact h4
    have hback : ∀ v w' O', Grow w O d w' O' → AVR P w0.X w' O' (FW B F0 w') σ0.get (fun h => a.tmps[h]?) d av v → RelL P B F0 w0 n m σ0 tl (listed.setIfInBounds j true) (a.put (some d) v) w' := by
      intro v w' O' hg hr
      have hsz : w.heap.size ≤ w'.heap.size := hg.below.size
      have hkeep : ∀ t av u, t ≠ d → AVR P w0.X w O (FW B F0 w) σ0.get (fun h => a.tmps[h]?) t av u → AVR P w0.X w' O' (FW B F0 w') σ0.get (fun h => (a.put (some d) v).tmps[h]?) t av u := fun t av u htd hu =>
        hu.mono (fun b hb => FW.step hRL.f0 hRL.base hsz b hb) hg.same (fun b u hb => (hOr b u hb).2) (fun b hb => hg.below.block b hb) (fun k _ x _ hk => ⟨hk, put_get (fun e => (hs0ds k x hk).1 (e ▸ h6))⟩)
      refine ⟨hRL.below.trans (.of hg.below hRL.base), Nat.le_trans hRL.base hsz, hRL.f0, by simp [Act.put, hRL.defers], by simp [Act.put, hRL.size], O', fun b t hb => ?_, fun t av' ht => ?_, fun i d' av' hi hti hl => ?_⟩
      · rcases hg.mine b t hb with h | ⟨_, h⟩
        · rw [hg.same b h] at hb
          exact ⟨(hOr b t hb).1, Nat.lt_of_lt_of_le h hsz⟩
        · rcases Nat.lt_or_ge b w.heap.size with h' | h'
          · rw [hg.same b h'] at hb
            exact ⟨(hOr b t hb).1, h⟩
          · exact ⟨.inl (Nat.le_trans hRL.base h'), h⟩
      · have htd : t ≠ d := fun e => by rw [e, hdn] at ht; cases ht
        obtain ⟨u, hu, hur⟩ := hO1 t av' ht
        exact ⟨u, by rw [put_get htd]; exact hu, hkeep t av' u htd hur⟩
      · by_cases hij : i = j
        · subst hij
          rw [h3] at hti
          simp at hti
          obtain ⟨rfl, rfl⟩ := hti
          refine ⟨v, put_get_same hds', hr.move (fun c hc => ⟨hc, rfl⟩) (fun _ c hc => ⟨hc, rfl⟩) (fun k _ x _ hk => ⟨hk, put_get (fun e => (hs0ds k x hk).1 (e ▸ h6))⟩)⟩
        · have hdd : d' ≠ d := fun e => by
            subst e
            exact hij (hdist i j d' av' av hi hj hti h3)
          rw [getD_set_ne true (Ne.symm hij)] at hl
          obtain ⟨u, hu, hur⟩ := hO2 i d' av' hi hti hl
          exact ⟨u, by rw [put_get hdd]; exact hu, hkeep d' av' u hdd hur⟩
    unfold wpOp
    simp only [h1]
    have hgv : ∀ g b' , (∃ b, o.guard = some (g, b)) → guardVal ops ((tl.take j).reverse ++ σ0) g = some b' → yielded ops a.tmps g = some b' := by
      rintro g b' ⟨b, hgd⟩ hg
      obtain ⟨og, tg, g1, g2, g3⟩ := guardVal_ok hg
      have hlk : tg ∈ o.looksAt ops := by
        unfold Oper.looksAt
        refine List.mem_append_right _ ?_
        rw [hgd]
        simp [g1, g2]
      obtain ⟨u, hu, hur⟩ := hv tg hlk _ g3
      have := (Rd.v_eq hur).1
      subst this
      simp [yielded, g1, g2, hu]
    have hgvu : ∀ g b, o.guard = some (g, b) → guardUn ops ((tl.take j).reverse ++ σ0) g = true → yielded ops a.tmps g ≠ some b := by
      intro g b hgd hg
      obtain ⟨og, tg, g1, g2, g3⟩ := guardUn_ok hg
      have hlk : tg ∈ o.looksAt ops := by
        unfold Oper.looksAt
        refine List.mem_append_right _ ?_
        rw [hgd]
        simp [g1, g2]
      obtain ⟨u, hu, hur⟩ := hv tg hlk _ g3
      have hur : u = undef := hur
      subst hur
      simp [yielded, g1, g2, hu, undef]
    rcases h7 with ⟨hgok, hps⟩ | ⟨g, b, hgd, hgn, rfl⟩
    · have hw : Region.wanted o (yielded ops a.tmps) = true := by
        unfold guardOk at hgok
        unfold Region.wanted
        split at hgok
        · rename_i hgd; simp [hgd]
        · rename_i g b hgd
          split at hgok
          · rename_i b' hb'
            have hbb : b' = b := by simpa using hgok
            subst hbb
            simp [hgd, hgv g b' ⟨_, hgd⟩ hb']
          · cases hgok
      rw [if_pos hw]
      refine .inl ?_
      obtain ⟨_, _, hps⟩ := hps
      refine hps a w O ⟨hRL.below, hRL.base, hRL.f0, hOr, fun t ht av' hg => hv t ?_ av' hg, fun t av' ht _ => hO1 t av' ht⟩ K Q' (fun v w' O' hg hr => by rw [h2]; exact hKK _ _ (hback v w' O' hg hr))
      unfold Oper.looksAt
      exact List.mem_append_left _ (List.mem_filterMap.2 ⟨.tmp t, by simpa using ht, rfl⟩)
    · have hw : Region.wanted o (yielded ops a.tmps) = false := by
        unfold Region.wanted
        rcases hgn with ⟨b', hgval, hne⟩ | hgu
        · simp [hgd, hgv g b' ⟨_, hgd⟩ hgval]
          simpa using hne
        · simp [hgd]
          simpa using hgvu g b hgd hgu
      rw [if_neg (by rw [hw]; simp), h2]
      exact hKK _ _ (hback undef w O (Grow.refl (fun b t hb => (hOr b t hb).2)) rfl)
  have hall : ∀ (f : Nat) (listed : Array Bool) (a : Act) (w : World), HeadInv .any ops m listed → un listed m = f → RelL P B F0 w0 n m σ0 tl listed a w → wpAny P .any ops Qx (f + (ops.size - m)) listed a w := by
    intro f
    induction f with
    | zero =>
      intro listed a w hinv hun hRL
      have hlist := un_zero m hun
      have heq : listed = Array.replicate m true ++ Array.replicate (ops.size - m) false := by
        apply Array.ext
        · rw [hinv.size]; simp; omega
        · intro i hi1 hi2
          rw [hinv.size] at hi1
          rw [Array.getElem_append]
          by_cases him : i < m
          · have := hlist i him
            have hlt : i < listed.size := by rw [hinv.size]; exact hi1
            simp [hlt] at this
            simp [him, this]
          · have := hinv.tail i (by omega) hi1
            have hlt : i < listed.size := by rw [hinv.size]; exact hi1
            simp [hlt] at this
            simp [him, this]
      rw [Nat.zero_add]
      have hdl : (ops.toList.drop m).length = ops.size - m := by simp
      rw [← hdl]
      refine wpAny_of_seq (md := .any) (ops.toList.drop m) m listed a w (fun j => by simp [List.getElem?_drop]) (by rw [hdl, heq]; exact hseq) ?_
      refine htk _ a w hK ?_
      obtain ⟨O, hOr, hO1, hO2⟩ := hRL.own
      have hget : ∀ k x, k ∉ ds → St.get (tl.reverse ++ σ0) k = some x → σ0.get k = some x := fun k x hk hg => by
        have := hL2 m (Nat.le_refl _) k x (by rw [List.take_of_length_le (by omega)]; exact hg)
        rcases this with ⟨i, hi, hti⟩ | h
        · obtain ⟨_, d, _, _, _, h3, _, _, h6, _⟩ := hset i hi
          rw [hti] at h3
          simp at h3
          exact absurd (h3.1 ▸ h6) hk
        · exact h
      have hrefs : ∀ {av : AV} {k : Nat}, refsOk ds av = true → av.refs = some k → k ∉ ds := fun {av k} h hk hkd => by
        unfold refsOk at h
        rw [hk] at h
        simp only [memN_iff.2 hkd] at h
        cases h
      refine ⟨hRL.below, hRL.base, hRL.f0, hRL.defers, hRL.size, O, hOr, fun t av hg => ?_⟩
      have h2 := hL2 m (Nat.le_refl _) t av (by rw [List.take_of_length_le (by omega)]; exact hg)
      rcases h2 with ⟨i, hi, hti⟩ | h
      · obtain ⟨_, d, av', _, _, h3, _, h5, _⟩ := hset i hi
        rw [hti] at h3
        simp at h3
        obtain ⟨rfl, rfl⟩ := h3
        obtain ⟨v, hv, hr⟩ := hO2 i t av hi hti (hlist i hi)
        exact ⟨v, hv, hr.move (fun c hc => ⟨hc, rfl⟩) (fun _ c hc => ⟨hc, rfl⟩) (fun k hk x _ hkg => ⟨hget k x (hrefs h5 hk) hkg, rfl⟩)⟩
      · obtain ⟨v, hv, hr⟩ := hO1 t av h
        exact ⟨v, hv, hr.move (fun c hc => ⟨hc, rfl⟩) (fun _ c hc => ⟨hc, rfl⟩) (fun k hk x _ hkg => ⟨hget k x (hrefs (hs0ds t av h).2 hk) hkg, rfl⟩)⟩
    | succ f ih =>
      intro listed a w hinv hun hRL
      obtain ⟨j, hj, hju, hjl⟩ := un_pos m (by omega : 0 < un listed m)
      have hless : ∀ i ∈ Region.ready .any ops listed, i < m := fun i hi => by
        rcases htail with h | ⟨hs, hc⟩
        · obtain ⟨_, o, ho, _⟩ := mem_ready.1 hi
          have := (Array.getElem?_eq_some_iff.1 ho).1
          omega
        · rcases Nat.lt_or_ge m ops.size with hlt | hge
          · rcases Nat.lt_or_ge i m with h | h
            · exact h
            · exact absurd hi (tail_waits hs hc hlt hinv _ j rfl hj hju i h)
          · obtain ⟨_, o, ho, _⟩ := mem_ready.1 hi
            have := (Array.getElem?_eq_some_iff.1 ho).1
            omega
      have hjr : j ∈ Region.ready .any ops listed := by
        obtain ⟨o, d, h1, h2, h3, _⟩ := headB_spec hhead hj
        refine mem_ready.2 ⟨hju, o, h1, fun e he hb => ?_⟩
        have hlt := h3 e he hb
        have := hjl e.on hlt
        have hsz : e.on < listed.size := by rw [hinv.size]; omega
        simp [hsz] at this ⊢
        exact this
      rw [show f + 1 + (ops.size - m) = (f + (ops.size - m)) + 1 by omega]
      refine ⟨fun h0 => (by rw [h0] at hjr; cases hjr), fun i hi => ?_⟩
      have him := hless i hi
      exact hone i listed a w him hRL hi Qx _ (fun a' w' hRL' => ih _ a' w' (hinv.set hi him) (by have := un_set (mem_ready.1 hi).1 m him; omega) hRL')
  have hu0 : un (Array.replicate ops.size false) m = m := by
    have : ∀ k, k ≤ m → un (Array.replicate ops.size false) k = k := fun k hk => by
      induction k with
      | zero => rfl
      | succ k ih =>
        have hlt : k < ops.size := by omega
        simp [un, ih (by omega), hlt]
    exact this m (Nat.le_refl _)
  have hinv0 : HeadInv .any ops m (Array.replicate ops.size false) :=
    ⟨by simp, fun j oj _ hl => (by rw [getD_replicate_false] at hl; cases hl), fun t _ ht => getD_in (by simpa using ht) (getD_replicate_false _ _)⟩
  obtain ⟨O, hOr, hO⟩ := hR0.own
  have := hall m (Array.replicate ops.size false) a { w with drawn := w.drawn + 1 } hinv0 hu0 ⟨hR0.below, hR0.base, hR0.f0, hR0.defers, hR0.size, O, hOr, hO, fun j d av hj _ hl => by
      have hlt : j < ops.size := by omega
      simp [hlt] at hl⟩
  rw [show m + (ops.size - m) = ops.size by omega] at this
  exact this
theorem AAny.draw {Q : Exit → St → Prop} (m : Nat) (hB : drawB ops m = true)
    (h : APre P B F0 w0 n ops (heads ops m) (σ.less (heads ops m)) (ops.toList.take m) (σ.less (heads ops m)) (fun τ => AOps P B F0 w0 n ops (ops.toList.drop m) (Q .normal) τ)) : AAny P B F0 w0 n ops Q σ :=
  fun a w hR => AAny.drawG m hB (TK := fun τ => AOps P B F0 w0 n ops (ops.toList.drop m) (Q .normal) τ) (fun τ a w h hR => h a w hR _ (fun a w σ' hk hr => ⟨σ', hk, hr⟩)) h a w hR
variable {ds : List Nat} {σ0 τ : St} {K : St → Prop} {o : Oper} {rest : List Oper} {d : Nat}
theorem AW.any {Q : Exit → St → Prop} {id : Nat} (hmx : P.follows .mixedOrders = true) (h : AAny P B F0 w0 n ops Q σ) : AW P B F0 w0 n (.region id ops true) Q σ := fun a w hR => wp_region_any hmx (h a w hR)
theorem AW.draw {Q : Exit → St → Prop} {id : Nat} (hmx : P.follows .mixedOrders = true) (m : Nat) (hB : drawB ops m = true)
    (h : APre P B F0 w0 n ops (heads ops m) (σ.less (heads ops m)) (ops.toList.take m) (σ.less (heads ops m)) (fun τ => AOps P B F0 w0 n ops (ops.toList.drop m) (Q .normal) τ)) : AW P B F0 w0 n (.region id ops true) Q σ :=
  AW.any hmx (AAny.draw m hB h)
theorem APre.nil (h : K τ) : APre P B F0 w0 n ops ds σ0 [] τ K := h
theorem APre.pure {av : AV} (hd : o.dst = some d) (hdn : Nat.ble (d + 1) n = true) (hr : refsOk ds av = true) (hg : guardOk ops τ o = true) (hp : PStep P B F0 w0 d o τ.get σ0.get av) (h : APre P B F0 w0 n ops ds σ0 rest ((d, av) :: τ) K) : APre P B F0 w0 n ops ds σ0 (o :: rest) τ K :=
  ⟨d, av, hd, Nat.le_of_ble_eq_true hdn, hr, .inl ⟨hg, hp⟩, h⟩
def preF (T : Ty) (n : Nat) (ops : Array Oper) (ds : List Nat) (σ0 τ : St) (o : Oper) : Option (Nat × AV) := match o.dst with
  | some d => match Nat.ble (d + 1) n, σ0.get d with
    | true, none => match o.guard with
      | none => match pF T τ.get σ0.get o.type o.op with
        | some av => match refsOk ds av with
          | true => some (d, av)
          | false => none
        | none => none
      | some (g, b) => match guardVal ops τ g with
        | some b' => match b' == b with
          | true => match pF T τ.get σ0.get o.type o.op with
            | some av => match refsOk ds av with
              | true => some (d, av)
              | false => none
            | none => none
          | false => some (d, .un)
        | none => match guardUn ops τ g with
          | true => some (d, .un)
          | false => none
    | _, _ => none
  | none => none
def runP (T : Ty) (n : Nat) (ops : Array Oper) (ds : List Nat) (σ0 : St) : Nat → List Oper → St → Option (St × List Oper)
  | 0, l, τ => some (τ, l)
  | k + 1, l, τ => match l with
    | [] => some (τ, [])
    | o :: r => match preF T n ops ds σ0 τ o with
      | some (d, av) => runP T n ops ds σ0 k r ((d, av) :: τ)
      | none => none
theorem preF_ok (hT : TOk P T) {av : AV} (h : preF T n ops ds σ0 τ o = some (d, av)) : o.dst = some d ∧ d < n ∧ refsOk ds av = true ∧ StepAt P B F0 w0 ops σ0 τ o d av := by
  unfold preF at h
  split at h <;> try (cases h; done)
  rename_i d' hd
  split at h <;> try (cases h; done)
  rename_i hn hs
  have hn : d' < n := Nat.le_of_ble_eq_true hn
  split at h
  · rename_i hg
    split at h <;> try (cases h; done)
    rename_i av' hav
    split at h <;> simp at h
    rename_i hr
    obtain ⟨rfl, rfl⟩ := h
    exact ⟨hd, hn, hr, .inl ⟨by simp [guardOk, hg], pF_sound hT hd hs hav⟩⟩
  · rename_i g b hg
    split at h
    rotate_left
    · split at h <;> try (cases h; done)
      rename_i hgu
      simp at h
      obtain ⟨rfl, rfl⟩ := h
      exact ⟨hd, hn, rfl, .inr ⟨g, b, hg, .inr hgu, rfl⟩⟩
    rename_i b' hb'
    split at h
    · rename_i hbb
      split at h <;> try (cases h; done)
      rename_i av' hav
      split at h <;> simp at h
      rename_i hr
      obtain ⟨rfl, rfl⟩ := h
      exact ⟨hd, hn, hr, .inl ⟨by simp only [guardOk, hg, hb']; exact hbb, pF_sound hT hd hs hav⟩⟩
    · rename_i hbb
      simp at h
      obtain ⟨rfl, rfl⟩ := h
      exact ⟨hd, hn, rfl, .inr ⟨g, b, hg, .inl ⟨b', hb', hbb⟩, rfl⟩⟩
theorem APre.run (hT : TOk P T) : ∀ (k : Nat) (l : List Oper) (τ τ' : St) (r : List Oper), runP T n ops ds σ0 k l τ = some (τ', r) → APre P B F0 w0 n ops ds σ0 r τ' K → APre P B F0 w0 n ops ds σ0 l τ K
  | 0, l, τ, τ', r, h, hk => by simp [runP] at h; obtain ⟨rfl, rfl⟩ := h; exact hk
  | k + 1, [], τ, τ', r, h, hk => by simp [runP] at h; obtain ⟨rfl, rfl⟩ := h; exact hk
  | k + 1, o :: l, τ, τ', r, h, hk => by
    simp only [runP] at h
    split at h <;> try (cases h; done)
    rename_i d av hs
    have ih := APre.run hT k l _ τ' r h hk
    obtain ⟨h1, h2, h3, h4⟩ := preF_ok (B := B) (F0 := F0) (w0 := w0) hT hs
    exact ⟨d, av, h1, h2, h3, h4, ih⟩
end
end Lift
namespace Lift
open Go
section
variable {P : Program} {T : Ty} {B : Nat} {F0 : Nat → Prop} {w0 : Bas} {n : Nat} {ops : Array Oper} {ds : List Nat} {σ0 τ : St} {K : St → Prop} {o : Oper} {rest : List Oper} {d : Nat}
theorem APre.idx (hT : TOk P T) {xs : List D} {iv : Int} (e : D) (hd : o.dst = some d) (hdn : Nat.ble (d + 1) n = true) (hg : guardOk ops τ o = true) (hs : σ0.get d = none) (hx : idxF T τ.get o.op = some (xs, iv)) (h0 : 0 ≤ iv) (he : xs[iv.toNat]? = some e)
    (h : APre P B F0 w0 n ops ds σ0 rest ((d, .rf e.flat) :: τ) K) : APre P B F0 w0 n ops ds σ0 (o :: rest) τ K := APre.pure hd hdn rfl hg (PStep.idx hT hd hs hx h0 he) h
theorem APre.idxo (hT : TOk P T) {xs : List D} {iv : Int} {k m : Nat} (hd : o.dst = some d) (hdn : Nat.ble (d + 1) n = true) (hg : guardOk ops τ o = true) (hs : σ0.get d = none) (hk : memN k ds = false) (hx : idxO T τ.get σ0.get o.op = some (k, xs, 0, m, iv)) (h0 : 0 ≤ iv) (hl : iv.toNat < m)
    (h : APre P B F0 w0 n ops ds σ0 rest ((d, .el k iv.toNat 0) :: τ) K) : APre P B F0 w0 n ops ds σ0 (o :: rest) τ K := APre.pure hd hdn (by simp [refsOk, AV.refs, hk]) hg (PStep.idxo hT hd hs hx h0 hl) (by rw [Nat.zero_add]; exact h)
theorem APre.idxw (hT : TOk P T) {xs : List D} {iv : Int} {k lo m : Nat} (hd : o.dst = some d) (hdn : Nat.ble (d + 1) n = true) (hg : guardOk ops τ o = true) (hs : σ0.get d = none) (hk : memN k ds = false) (hx : idxO T τ.get σ0.get o.op = some (k, xs, lo, m, iv)) (h0 : 0 ≤ iv) (hl : iv.toNat < m)
    (h : APre P B F0 w0 n ops ds σ0 rest ((d, .el k (lo + iv.toNat) 0) :: τ) K) : APre P B F0 w0 n ops ds σ0 (o :: rest) τ K := APre.pure hd hdn (by simp [refsOk, AV.refs, hk]) hg (PStep.idxo hT hd hs hx h0 hl) h
theorem APre.loadel (hT : TOk P T) {ti : TI} {xs : List D} {i off : Nat} {x : D} (y : D) (hd : o.dst = some d) (hdn : Nat.ble (d + 1) n = true) (hg : guardOk ops τ o = true) (hs : σ0.get d = none) (hx : elF T τ.get σ0.get o.op = some (ti, xs, i, off)) (hy : xs[i]? = some y) (hav : loadD ti (y.flat.drop off) = some (.d x))
    (h : APre P B F0 w0 n ops ds σ0 rest ((d, .d x) :: τ) K) : APre P B F0 w0 n ops ds σ0 (o :: rest) τ K := APre.pure hd hdn rfl hg (PStep.loadel hT hd hs hx hy hav) h
theorem APre.strix (hT : TOk P T) {s : ByteArray} {iv : Int} (hd : o.dst = some d) (hdn : Nat.ble (d + 1) n = true) (hg : guardOk ops τ o = true) (hs : σ0.get d = none) (hx : strI T τ.get o.op = some (s, iv)) (h0 : 0 ≤ iv) (hl : iv.toNat < s.size)
    (h : APre P B F0 w0 n ops ds σ0 rest ((d, .d (.v (.int .u8 ((s.data.toList.getD iv.toNat 0).toNat : Int)))) :: τ) K) : APre P B F0 w0 n ops ds σ0 (o :: rest) τ K := APre.pure hd hdn rfl hg (PStep.strix hT hd hs hx h0 hl) h
theorem APre.slc (hT : TOk P T) {s : Nat} {xs : List D} {lo hi : Option Int} (hd : o.dst = some d) (hdn : Nat.ble (d + 1) n = true) (hg : guardOk ops τ o = true) (hs : σ0.get d = none) (hx : slcF T τ.get o.op = some (.sl s xs, lo, hi)) (g1 : okB lo) (g2 : okB hi) (g3 : loN lo ≤ hiN xs.length hi) (g4 : hiN xs.length hi ≤ xs.length)
    (h : APre P B F0 w0 n ops ds σ0 rest ((d, .d (.sl s ((xs.take (hiN xs.length hi)).drop (loN lo)))) :: τ) K) : APre P B F0 w0 n ops ds σ0 (o :: rest) τ K := APre.pure hd hdn rfl hg (PStep.slc hT hd hs hx g1 g2 g3 g4) h
theorem APre.call (hT : TOk P T) {f : FuncId} {xas : List D} {res : D} (hd : o.dst = some d) (hdn : Nat.ble (d + 1) n = true) (hg : guardOk ops τ o = true) (hs : σ0.get d = none) (hx : callF T τ.get o.op = some (f, xas)) (hP : Pure P f xas res)
    (h : APre P B F0 w0 n ops ds σ0 rest ((d, .d res) :: τ) K) : APre P B F0 w0 n ops ds σ0 (o :: rest) τ K := APre.pure hd hdn rfl hg (PStep.call hT hd hs hx hP) h
theorem APre.calls (hT : TOk P T) {f : FuncId} {xas : List D} {res : D} (hd : o.dst = some d) (hdn : Nat.ble (d + 1) n = true) (hg : guardOk ops τ o = true) (hs : σ0.get d = none) (hx : callL T τ.get σ0.get o.op = some (f, xas)) (hP : Pure P f xas res) (hsc : scalarD res = true)
    (h : APre P B F0 w0 n ops ds σ0 rest ((d, .d res) :: τ) K) : APre P B F0 w0 n ops ds σ0 (o :: rest) τ K := APre.pure hd hdn rfl hg (PStep.calls hT hd hs hx hsc hP) h
theorem APre.make (hT : TOk P T) {e : Nat} {te : TI} {m : Int} (hd : o.dst = some d) (hdn : Nat.ble (d + 1) n = true) (hg : guardOk ops τ o = true) (hs : σ0.get d = none) (hx : mkF T τ.get o.op = some (e, te, m)) (hz : zeroOk te = true) (h0 : 0 ≤ m) (hb : (te.bytes : Int) * m ≤ 281474976710656) (hm63 : m ≤ 9223372036854775807)
    (h : APre P B F0 w0 n ops ds σ0 rest ((d, .ow e (List.replicate m.toNat (zeroD te))) :: τ) K) : APre P B F0 w0 n ops ds σ0 (o :: rest) τ K := APre.pure hd hdn rfl hg (PStep.make hT hd hs hx hz h0 hb hm63) h
theorem APre.app0 (hT : TOk P T) {e : Nat} {te : TI} {xs : List D} (hd : o.dst = some d) (hdn : Nat.ble (d + 1) n = true) (hg : guardOk ops τ o = true) (hs : σ0.get d = none) (hx : apF T τ.get σ0.get o.op = some (e, te, xs)) (hlen : xs.length * te.bytes ≤ 140737488355328)
    (h : APre P B F0 w0 n ops ds σ0 rest ((d, .ow e xs) :: τ) K) : APre P B F0 w0 n ops ds σ0 (o :: rest) τ K := APre.pure hd hdn rfl hg (PStep.app0 hT hd hs hx hlen) h
theorem APre.app0d (hT : TOk P T) {e : Nat} {te : TI} {xs : List D} (hd : o.dst = some d) (hdn : Nat.ble (d + 1) n = true) (hg : guardOk ops τ o = true) (hs : σ0.get d = none) (hx : apF T τ.get σ0.get o.op = some (e, te, xs)) (hlen : xs.length * te.bytes ≤ 140737488355328)
    (h : APre P B F0 w0 n ops ds σ0 rest ((d, .d (.sl te.size xs)) :: τ) K) : APre P B F0 w0 n ops ds σ0 (o :: rest) τ K := APre.pure hd hdn rfl hg (PStep.app0d hT hd hs hx hlen) h
theorem APre.bsd (hT : TOk P T) {e : Nat} {te : TI} {xs : List D} (hd : o.dst = some d) (hdn : Nat.ble (d + 1) n = true) (hg : guardOk ops τ o = true) (hs : σ0.get d = none) (hx : bsF T τ.get o.op = some (e, xs)) (hte : T.get e = some te)
    (h : APre P B F0 w0 n ops ds σ0 rest ((d, .d (.sl te.size xs)) :: τ) K) : APre P B F0 w0 n ops ds σ0 (o :: rest) τ K := APre.pure hd hdn rfl hg (PStep.bsd hT hte hd hs hx) h
theorem APre.div (hT : TOk P T) {q : Bool} {k : IntKind} {x y : Int} (hd : o.dst = some d) (hdn : Nat.ble (d + 1) n = true) (hg : guardOk ops τ o = true) (hs : σ0.get d = none) (hx : divF T τ.get o.op = some (q, k, x, y)) (h0 : y ≠ 0)
    (h : APre P B F0 w0 n ops ds σ0 rest ((d, .d (.v (divV q k x y))) :: τ) K) : APre P B F0 w0 n ops ds σ0 (o :: rest) τ K := APre.pure hd hdn rfl hg (PStep.div hT hd hs hx h0) h
theorem APre.err (hT : TOk P T) {q : Bool} {u : Value} (hd : o.dst = some d) (hdn : Nat.ble (d + 1) n = true) (hg : guardOk ops τ o = true) (hs : σ0.get d = none) (hx : errF T τ.get o.op = some (q, u)) (hi : ifaceV u = true)
    (h : APre P B F0 w0 n ops ds σ0 rest ((d, .d (.v (.bool (nilV u == q)))) :: τ) K) : APre P B F0 w0 n ops ds σ0 (o :: rest) τ K := APre.pure hd hdn rfl hg (PStep.err hT hd hs hx hi) h
theorem APre.be (hT : TOk P T) {q x y : Bool} (hd : o.dst = some d) (hdn : Nat.ble (d + 1) n = true) (hg : guardOk ops τ o = true) (hs : σ0.get d = none) (hx : beF T τ.get o.op = some (q, x, y))
    (h : APre P B F0 w0 n ops ds σ0 rest ((d, .d (.v (.bool ((x == y) == q)))) :: τ) K) : APre P B F0 w0 n ops ds σ0 (o :: rest) τ K := APre.pure hd hdn rfl hg (PStep.be hT hd hs hx) h
theorem AW.loopS {σ : St} {x : Code} {Q : Exit → St → Prop} {S : Type} (ks : List Nat) (mk : S → St) (I : S → Prop) (μ : S → Nat) (s0 : S) (h0 : σ.keep ks = mk s0) (hI : I s0)
    (hb : ∀ s, I s → AW P B F0 w0 n x (thenQ (fun σ' => ∃ s', σ'.keep ks = mk s' ∧ I s' ∧ μ s' < μ s) Q) (mk s)) : AW P B F0 w0 n (.loop x) Q σ := by
  refine AW.keep ks ?_
  rw [h0]
  have hex : ∀ σ, (∃ s, mk s = σ ∧ I s) → ∃ m, (∃ s, μ s = m ∧ mk s = σ ∧ I s) ∧ ∀ s, mk s = σ → I s → m ≤ μ s := fun σ ⟨s, h1, h2⟩ => by
    let p : Nat → Prop := fun m => ∃ s, μ s = m ∧ mk s = σ ∧ I s
    have key : ∀ k m, m ≤ k → p m → ∃ m0, p m0 ∧ ∀ m', p m' → m0 ≤ m' := by
      intro k
      induction k with
      | zero => intro m hm hp; exact ⟨m, hp, fun m' _ => by omega⟩
      | succ k ih =>
        intro m hm hp
        by_cases hlt : ∃ m', m' ≤ k ∧ p m'
        · obtain ⟨m', h1, h2⟩ := hlt; exact ih m' h1 h2
        · exact ⟨m, hp, fun m' hp' => by
            rcases Nat.lt_or_ge k m' with h | h
            · omega
            · exact absurd ⟨m', h, hp'⟩ hlt⟩
    obtain ⟨m0, h3, h4⟩ := key (μ s) (μ s) (Nat.le_refl _) ⟨s, rfl, h1, h2⟩
    exact ⟨m0, h3, fun s' g1 g2 => h4 _ ⟨s', rfl, g1, g2⟩⟩
  let M : St → Nat := fun σ => open Classical in if h : ∃ s, mk s = σ ∧ I s then Classical.choose (hex σ h) else 0
  have hM : ∀ σ, (∃ s, mk s = σ ∧ I s) → (∃ s, μ s = M σ ∧ mk s = σ ∧ I s) ∧ ∀ s, mk s = σ → I s → M σ ≤ μ s := fun σ h => by
    have := Classical.choose_spec (hex σ h)
    simp only [M, dif_pos h]
    exact this
  refine AW.loop (fun σ => ∃ s, mk s = σ ∧ I s) M ⟨s0, rfl, hI⟩ (fun σ hσ => ?_)
  obtain ⟨⟨s, h1, h2, h3⟩, _⟩ := hM σ hσ
  subst h2
  intro a w hR
  refine wp_mono (hb s h3 a w hR) fun e a' w' ⟨σ', hq, hR'⟩ => ?_
  cases e with
  | normal =>
    obtain ⟨s', g1, g2, g3⟩ := hq
    refine ⟨mk s', ⟨⟨s', rfl, g2⟩, ?_⟩, by rw [← g1]; exact hR'.keep ks⟩
    have := (hM (mk s') ⟨s', rfl, g2⟩).2 s' rfl g2
    omega
  | _ => exact ⟨σ', hq, hR'⟩
end
end Lift
namespace Lift
open Go
open Go.RowKit (Below)
section
variable {P : Program} {T : Ty} {B : Nat} {F0 : Nat → Prop} {w0 : Bas} {n : Nat} {lk hm : Nat → Option AV} {o : Oper} {d : Nat} {σ σ' : St}
def slwF (T : Ty) (lk hm : Nat → Option AV) : Op → Option (Nat × List D × Nat × Nat × Option Int × Option Int)
  | .slice t x lo hi none => match T.get t, winF hm (ex T lk 0 x), bnd T lk lo, bnd T lk hi with
    | some ti, some (h, e, l, a, m), some l', some h' => match Nat.beq ti.kind 4, T.get ti.elem, Nat.beq e ti.elem with
      | true, some _, true => some (h, l, a, m, l', h')
      | _, _, _ => none
    | _, _, _, _ => none
  | _ => none
theorem PStep.slw (hT : TOk P T) {h a0 m : Nat} {l : List D} {lo hi : Option Int} (hd : o.dst = some d) (hn : hm d = none) (hx : slwF T lk hm o.op = some (h, l, a0, m, lo, hi)) (g1 : okB lo) (g2 : okB hi) (g3 : loN lo ≤ hiN m hi) (g4 : hiN m hi ≤ m) :
    PStep P B F0 w0 d o lk hm (.sb h (a0 + loN lo) (hiN m hi - loN lo)) := by
  refine ⟨hd, hn, fun a w O hI K Q hK => ?_⟩
  obtain ⟨dst, op, ty, pos, after, guard⟩ := o
  simp only [] at hd hx hI
  cases op <;> simp only [slwF] at hx <;> try (cases hx; done)
  rename_i t x lo' hi' mx
  cases mx <;> simp only [] at hx <;> try (cases hx; done)
  split at hx <;> try (cases hx; done)
  rename_i ti h' e l' a1 m' lo1 hi1 hti hw hl hh
  split at hx <;> simp at hx
  rename_i te hk hte hee
  obtain ⟨rfl, rfl, rfl, rfl, rfl, rfl⟩ := hx
  have hee := Nat.eq_of_beq_eq_true hee
  obtain ⟨info, dd, z, hok⟩ := hT t ti hti
  obtain ⟨info', dd', z', hok'⟩ := hT _ te hte
  cases hxe : ex T lk 0 x with
  | none => rw [hxe] at hw; simp [winF] at hw
  | some av =>
    rw [hxe] at hw
    have hxv := (ex_sound hI (fun t ht => by subst ht; simp [Op.operands]) hxe 0).1
    obtain ⟨y, hy, hrow, hlm, cap, hcap, hmax, hv⟩ := win_sound hI hxv hw
    obtain ⟨ad, hev, hval⟩ : ∃ ad, a.eval x = .slice ad m' cap ∧ ((l'.length = 0 ∧ y.tag = false ∧ cap = 0) ∨ ∃ b o1 len cap1 o, a.tmps[h']? = some (.slice (some ⟨b, o1, none⟩) len cap1) ∧ ad = some ⟨b, o, none⟩ ∧ ((m' = 0 ∨ o = a1 * P.cellsOf e) ∧ (cap = 0 ∨ o = a1 * P.cellsOf e) ∧ o + cap * P.cellsOf e ≤ o1 + cap1 * P.cellsOf e ∧ cap ≤ cap1)) := by
      rcases hv with ⟨h0, hq, hc0, base, hv⟩ | ⟨b, o1, len, cap1, cs, o, _, htm, hv, h0, _⟩
      · exact ⟨base, by rw [hv]; congr 1; omega, .inl ⟨h0, hq, hc0⟩⟩
      · exact ⟨_, hv, .inr ⟨b, o1, len, cap1, o, htm, rfl, h0⟩⟩
    have hb := bounds_run hT hI (fun y hy t ht => by subst hy; subst ht; simp [Op.operands]) (fun y hy t ht => by subst hy; subst ht; simp [Op.operands]) hl hh true m' cap g1 g2 g3 g4 hcap
    refine wp_val (v := .slice (if cap = loN lo1 then ad else ad.map (·.add (loN lo1 * te.size))) (hiN m' hi1 - loN lo1) (cap - loN lo1)) (w' := w) ?_ (hK _ w O (Grow.refl hI.lt) ?_)
    · simp only [execOp, Instr.sliceAt, hev, Sem.run_bind, run_underlying (hok.kind4 hk).1, Result.andThen_ok, Instr.slice, hb, Go.sizeOf, typeInfo, run_program, hok'.hinfo, Sem.run_pure, hok'.size, Option.map_none]
    · intro y' e' l'' hy' hrow'
      rw [hy] at hy'
      simp at hy'
      subst hy'
      rw [hrow] at hrow'
      simp at hrow'
      obtain ⟨rfl, rfl⟩ := hrow'
      refine ⟨by omega, cap - loN lo1, by omega, by omega, ?_⟩
      rcases hval with ⟨h0, hq, hc0⟩ | ⟨b, o1, len, cap1, o, htm, rfl, ⟨h0, hcx⟩⟩
      · exact .inl ⟨h0, hq, by omega, _, by congr 1; omega⟩
      · refine .inr ⟨b, o1, len, cap1, if cap = loN lo1 then o else o + loN lo1 * te.size, htm, ?_, ?_, ?_⟩
        · split
          · rfl
          · simp [Addr.add_lit]
        · by_cases hz : hiN m' hi1 - loN lo1 = 0
          · exact .inl hz
          · refine .inr ?_
            rw [if_neg (by omega), Nat.add_mul]
            have : o = a1 * P.cellsOf e := by omega
            rw [this, hee, hok'.cellsOf]
        · obtain ⟨c1, c2, c3⟩ := hcx
          have hs : P.cellsOf e = te.size := by rw [hee, hok'.cellsOf]
          rw [hs] at c1 c2 ⊢
          refine ⟨?_, ?_, by omega⟩
          · by_cases hz : cap = loN lo1
            · exact .inl (by omega)
            · refine .inr ?_
              rw [if_neg hz, Nat.add_mul]
              have : o = a1 * te.size := by omega
              rw [this]
          · split
            · rename_i hz
              rw [hz, Nat.sub_self, Nat.zero_mul]
              have := Nat.zero_le (cap * te.size)
              omega
            · have : cap * te.size = (cap - loN lo1) * te.size + loN lo1 * te.size := by rw [← Nat.add_mul]; congr 1; omega
              omega
def Fresh (P : Program) (w w' : World) (F : Nat → Prop) (e : Nat) (L : List D) (lo m : Nat) (v : Value) : Prop :=
  ∃ O : Nat → Option Nat, (∀ c t, O c = some t → t = 0 ∧ w.heap.size ≤ c ∧ c < w'.heap.size) ∧ AVR P (fun _ => False) w' O (FW w.heap.size F w') (fun _ => none) (fun _ => none) 0 (.wn false e L lo m) v
def PureO (P : Program) (f : FuncId) (args : List D) (e : Nat) (L : List D) (lo m : Nat) : Prop :=
  CallOk P f ∧ ∀ (w : World) (F : Nat → Prop) (vs : List Value), (∀ b, F b → b < w.heap.size) → vs.length = args.length → (∀ (i : Nat) (d : D) (v : Value), args[i]? = some d → vs[i]? = some v → Rd w F d v) →
    Calls P f vs.toArray w (fun ee w' => ∃ v, ee = .returned v ∧ Below w.heap.size w w' ∧ Fresh P w w' F e L lo m v)
theorem PureO.pure (hT : TOk P T) {f : FuncId} {args : List D} {e : Nat} {te : TI} {L : List D} {lo m : Nat} (h : PureO P f args e L lo m) (he : T.get e = some te) : Pure P f args (.sl te.size ((L.drop lo).take m)) := by
  refine ⟨h.1, fun w F vs h1 h2 h3 => (h.2 w F vs h1 h2 h3).mono fun ee w' ⟨v, hv, hb, O, hO, hr⟩ => ⟨v, hv, hb, ?_⟩⟩
  obtain ⟨info, d, z, hok⟩ := hT e te he
  rcases hr with ⟨_, base, rfl, rfl, rfl, rfl⟩ | ⟨b, o, cap, cs, _, rfl, ⟨h0, _⟩, g2, g3, g4, g5, g6, g7, g8⟩
  · exact .nil (Nat.zero_le _)
  · rw [hok.cellsOf] at g7 h0
    rcases Nat.eq_zero_or_pos m with hm0 | hm0
    · subst hm0
      rw [List.take_zero]
      exact .nil g6
    have h0 : o = lo * te.size := by omega
    subst h0
    have hlen : ((L.drop lo).take m).length = m := by simp; omega
    have := Rd.sl_mk (w := w') (F := FW w.heap.size F w') (s := te.size) (l := (L.drop lo).take m) (off := lo * te.size) (cap := cap) (.inr (hO b 0 g2).2) g3 (by omega) g6 (fun y hy => g7 y (List.mem_of_mem_drop (List.mem_of_mem_take hy))) (fun j d hj => by
      obtain ⟨f1, u, f2, f3⟩ := g8 _ d (flatAll_sub g7 lo m j hj)
      exact ⟨f1, u, f2, f3.mono (fun c hc => hc.2) (fun _ _ => rfl)⟩)
    rwa [hlen] at this
def freshF (T : Ty) (σ : St) (t : Nat) : Option (Nat × List D × Nat × Nat) := match ex T σ.get 0 (.tmp t) with
  | some (.e0 e) => some (e, [], 0, 0)
  | some (.al h) => match winF σ.get (some (.al h)) with
    | some (_, e, l, lo, m) => some (e, l, lo, m)
    | none => none
  | some (.sb h i k) => match winF σ.get (some (.sb h i k)) with
    | some (_, e, l, lo, m) => some (e, l, lo, m)
    | none => none
  | _ => none
def retO (T : Ty) (t e : Nat) (L : List D) (lo m : Nat) : Exit → St → Prop
  | .normal, σ => freshF T σ t = some (e, L, lo, m)
  | .ret, σ => freshF T σ t = some (e, L, lo, m)
  | .exit _, _ => False
  | .goto _, _ => False
  | .panic _, _ => False
  | .outgrown, _ => False
theorem results_one {fn : Func} {t : Nat} (hrs : fn.results.toList = [.tmp t]) {tmps : Array Value} {v : Value} {w : World} (hv : tmps[t]? = some v) : (results fn tmps).run P w = .ok v w := by
  rw [results_eq]
  have hg : tmps.getD t undef = v := by simp [Array.getD_eq_getD_getElem?, hv]
  simp only [Sem.run_bind, Array.mapM_eq_mapM_toList, hrs, Sem.run_map, List.mapM_cons, List.mapM_nil, resGet, Sem.run_pure, Result.andThen_ok, hg]
  rfl
def RowVal (P : Program) (X : Nat → Prop) (w : World) (O : Nat → Option Nat) (F : Nat → Prop) (h e : Nat) (L : List D) (lo m : Nat) (v : Value) : Prop :=
  (∃ base, v = .slice base 0 0 ∧ L = [] ∧ lo = 0 ∧ m = 0) ∨
    ∃ b o cap cs, v = .slice (some ⟨b, o, none⟩) m cap ∧ ((m = 0 ∨ o = lo * P.cellsOf e) ∧ (cap = 0 ∨ o = lo * P.cellsOf e) ∧ o + cap * P.cellsOf e ≤ cs.size) ∧ O b = some h ∧ w.heap[b]? = some (.cells cs e (0, 0)) ∧ lo + m ≤ L.length ∧ m ≤ cap ∧ cap ≤ maxLen ∧ (∀ x, x ∈ L → x.flat.length = P.cellsOf e) ∧
      ∀ (i : Nat) (d : D), (flatAll L)[i]? = some d → d.isCell = true ∧ ∃ u, cs[i]? = some u ∧ Rd w (Free O F) d u
theorem freshF_sound {a : Act} {w : World} {t e lo m : Nat} {L : List D} (hR : Rel P B F0 w0 n σ a w) (h : freshF T σ t = some (e, L, lo, m)) :
    ∃ v O h', a.tmps[t]? = some v ∧ (∀ c t, O c = some t → OwnR B w0 w c) ∧ RowVal P w0.X w O (FW B F0 w) h' e L lo m v := by
  obtain ⟨O, hOr, hO⟩ := hR.own
  have hI : Inv P B F0 w0 (fun _ => True) σ.get σ.get a w O := ⟨hR.below, hR.base, hR.f0, hOr, fun t _ av h => hO t av h, fun t av h _ => hO t av h⟩
  have hsome : ∃ v, a.tmps[t]? = some v := by
    cases hs : σ.get t with
    | none => simp [freshF, ex, hs] at h
    | some av => obtain ⟨v, hv, _⟩ := hO t av hs; exact ⟨v, hv⟩
  obtain ⟨v, hv⟩ := hsome
  have fin : ∀ av, ex T σ.get 0 (.tmp t) = some av → ∀ h' , winF σ.get (some av) = some (h', e, L, lo, m) → ∃ v O h', a.tmps[t]? = some v ∧ (∀ c t, O c = some t → OwnR B w0 w c) ∧ RowVal P w0.X w O (FW B F0 w) h' e L lo m v := fun av hav h' hw => by
    obtain ⟨x, hx, hrow, hlm, cap', hc1, hc2, hvv⟩ := win_sound hI (ex_sound hI (fun _ _ => trivial) hav 0).1 hw
    rw [eval_tmp hv] at hvv
    refine ⟨v, O, h', hv, hOr, ?_⟩
    rcases hvv with ⟨h0, _, hc0, base, rfl⟩ | ⟨b, o1, len, cap, cs, o, hq, htm, rfl, h0, hOb, hb, hu, hcells⟩
    · exact .inl ⟨base, by rw [hc0], List.eq_nil_of_length_eq_zero h0, by omega, by omega⟩
    · exact .inr ⟨b, o, cap', cs, rfl, ⟨h0.1, h0.2.1, Nat.le_trans h0.2.2.1 hq.2⟩, hOb, hb, hlm, hc1, hc2, hu, hcells⟩
  unfold freshF at h
  split at h <;> try (cases h; done)
  · rename_i e' hav
    simp at h
    obtain ⟨rfl, rfl, rfl, rfl⟩ := h
    obtain ⟨base, hb⟩ := (ex_sound hI (fun _ _ => trivial) hav 0).1
    rw [eval_tmp hv] at hb
    exact ⟨v, O, 0, hv, hOr, .inl ⟨base, hb, rfl, rfl, rfl⟩⟩
  · rename_i h' hav
    split at h <;> simp at h
    rename_i k e' l' lo' m' hw
    obtain ⟨rfl, rfl, rfl, rfl⟩ := h
    exact fin _ hav _ hw
  · rename_i h' i k hav
    split at h <;> simp at h
    rename_i k e' l' lo' m' hw
    obtain ⟨rfl, rfl, rfl, rfl⟩ := h
    exact fin _ hav _ hw
theorem PureO.intro {f : FuncId} {fn : Func} {c : Code} {t e lo m : Nat} {args L : List D} (hT : TOk P T) (hf : P.funcs[f]? = some fn) (hb : fn.body = some c) (hrs : fn.results.toList = [.tmp t]) (hn : fn.ntmps = n) (hl : args.length ≤ n) (hnm : (fn.name == "runtime.NumGoroutine") = false)
    (h : ∀ (B : Nat) (F0 : Nat → Prop) (w0 : Bas), AW P B F0 w0 n c (retO T t e L lo m) (initSt 0 args)) : PureO P f args e L lo m := by
  refine ⟨⟨fn, hf, hnm, by simp [hb]⟩, fun w F vs hF hlen hr => ?_⟩
  refine calls_of_wp hf hb (wp_mono (h w.heap.size F ⟨w, fun _ => False⟩ _ w ?_) ?_)
  · refine ⟨.refl _ _ _, Nat.le_refl _, ⟨hF, fun b hb => hb.elim⟩, rfl, ?_, fun _ => none, (fun b t hb => by simp at hb), fun t av hav => ?_⟩
    · simp [hn]; omega
    · rw [get_initSt] at hav
      simp only [Nat.zero_le, if_true, Nat.sub_zero, Option.map_eq_some_iff] at hav
      obtain ⟨d, hd, rfl⟩ := hav
      have hlt : t < vs.length := by rw [hlen]; exact (List.getElem?_eq_some_iff.1 hd).1
      refine ⟨vs[t], by simp [Array.getElem?_append, hlt], ?_⟩
      exact (hr t d _ hd (List.getElem?_eq_getElem hlt)).mono (fun b hb => ⟨rfl, .inl hb⟩) (fun _ _ => rfl)
  · rintro ee a w' ⟨σ', hq, hR⟩
    have key : freshF T σ' t = some (e, L, lo, m) → a.defers = [] ∧ ∃ v, (results fn a.tmps).run P w' = .ok v w' ∧ ∃ v', Ending.returned v = .returned v' ∧ Below w.heap.size w w' ∧ Fresh P w w' F e L lo m v' := fun hq => by
      refine ⟨hR.defers, ?_⟩
      have hbel : Below w.heap.size w w' := ⟨hR.below.os, hR.below.tape, hR.below.output, hR.below.size, fun k hk => hR.below.block k hk (fun h => h)⟩
      obtain ⟨v, O, h', hv, hOr, hc⟩ := freshF_sound hR hq
      refine ⟨v, results_one hrs hv, v, rfl, hbel, fun c => if O c = some h' then some 0 else none, fun c t hc => ?_, ?_⟩
      · simp only [] at hc
        split at hc <;> simp at hc
        rename_i hc1
        have := hOr c _ hc1
        exact ⟨hc.symm, this.1.resolve_right (fun h => h), this.2⟩
      · rcases hc with ⟨base, h1, h3, h4, h5⟩ | ⟨b, o, cap, cs, h1, h0, h2, h3, h4, h5, h6, h7, h8⟩
        · exact .inl ⟨rfl, base, h1, h3, h4, h5⟩
        · refine .inr ⟨b, o, cap, cs, fun h => by simp at h, h1, ⟨h0.1, h0.2.1, h0.2.2⟩, by simp [h2], h3, h4, h5, h6, h7, fun i d hd => ?_⟩
          obtain ⟨f1, u, f2, f3⟩ := h8 i d hd
          exact ⟨f1, u, f2, f3.mono (fun c hc => ⟨by simp only []; rw [hc.1]; simp, hc.2⟩) (fun _ _ => rfl)⟩
    cases ee with
    | normal => exact key hq
    | ret => exact key hq
    | exit _ => exact hq.elim
    | goto _ => exact hq.elim
    | panic _ => exact hq.elim
    | outgrown => exact hq.elim
def plainL (l : List D) : Bool := (flatAll l).all plainD
theorem Rd.plain {w w' : World} {F F' : Nat → Prop} {y : D} {u : Value} (hy : Rd w F y u) (hp : plainD y = true) : Rd w' F' y u := by
  cases hy with
  | v h => exact .v h
  | nil => simp [plainD] at hp
  | sl => simp [plainD] at hp
  | ag => simp [plainD] at hp
  | tu => simp [plainD] at hp
  | pr => simp [plainD] at hp
  | fn => simp [plainD] at hp
theorem plainL_get {l : List D} (h : plainL l = true) {i : Nat} {d : D} (hd : (flatAll l)[i]? = some d) : plainD d = true := by
  simp only [plainL, List.all_eq_true] at h
  exact h d (List.mem_of_getElem? hd)
theorem PStep.callo (hT : TOk P T) {f : FuncId} {ds : List D} {e lo m : Nat} {L : List D} (hd : o.dst = some d) (hn : hm d = none) (hx : callL T lk hm o.op = some (f, ds)) (hP : PureO P f ds e L lo m) (hs : plainL L = true) : PStep P B F0 w0 d o lk hm (.wn false e L lo m) := by
  refine ⟨hd, hn, fun a w O hI K Q hK => ?_⟩
  obtain ⟨dst, op, ty, pos, after, guard⟩ := o
  simp only [] at hd hx hI
  cases op <;> simp only [callL] at hx <;> try (cases hx; done)
  rename_i c
  obtain ⟨callee, args, ats⟩ := c
  simp only [] at hx
  split at hx <;> try (cases hx; done)
  rename_i g
  split at hx <;> simp at hx
  rename_i ds' hds
  obtain ⟨rfl, rfl⟩ := hx
  have hr := argsL_run hT hI (G := FW B F0 w) (fun _ hc => hc.2) (fun c t _ hc _ _ => (hI.orange c t hc).fw hI.f0) args.toList ats.toList ds' (fun x hx t ht => by subst ht; simp [Op.operands, Call.operands]; exact Array.mem_toList_iff.1 hx) hds
  unfold Oper.wp
  rw [exec_call hP.1]
  show Calls P g (args.map a.eval) w _
  have hc := hP.2 w (FW B F0 w) (args.toList.map a.eval) (fun b hb => (FW.step hI.f0 hI.base (Nat.le_refl _) b hb).1) hr.1 hr.2
  have he : (args.toList.map a.eval).toArray = args.map a.eval := by apply Array.ext'; simp
  rw [he] at hc
  refine hc.mono fun ee w' ⟨v, he, hb, O1, hO1, hv⟩ => ?_
  subst he
  have hsz := hb.size
  refine hK v w' (fun c => if c < w.heap.size then O c else if O1 c = some 0 then some d else none) ⟨hb, fun b hb => by simp [hb], fun b t hbt => ?_⟩ ?_
  · split at hbt
    · rename_i h; exact .inl h
    · split at hbt <;> simp at hbt
      rename_i h1 h2
      exact .inr ⟨hbt.symm, (hO1 b 0 h2).2.2⟩
  · rcases hv with hv | ⟨b, o, cap, cs, _, h1, h0, h2, h3, h4, h5, h6, h7, h8⟩
    · exact .inl hv
    · have hbge := (hO1 b 0 h2).2.1
      refine .inr ⟨b, o, cap, cs, fun h => by simp at h, h1, h0, (if_neg (by omega)).trans (if_pos h2), h3, h4, h5, h6, h7, fun i d hd => ?_⟩
      obtain ⟨f1, u, f2, f3⟩ := h8 i d hd
      exact ⟨f1, u, f2, f3.plain (plainL_get hs hd)⟩
end
end Lift
namespace Lift
open Go
open Go.RowKit (Below)
section
variable {P : Program} {T : Ty} {B : Nat} {F0 : Nat → Prop} {w0 : Bas} {n : Nat} {lk hm : Nat → Option AV} {o : Oper} {d : Nat} {σ σ' : St}
inductive MR where
  | val (res : D)
  | part (lo m : Nat)
def MRok (P : Program) (e b N : Nat) (L : List D) (w : World) (F : Nat → Prop) : MR → Value → Prop
  | .val res, v => scalarD res = true ∧ Rd w F res v
  | .part lo m, v => lo + m ≤ L.length ∧ ∃ o cap, v = .slice (some ⟨b, o, none⟩) m cap ∧ ((m = 0 ∨ o = lo * P.cellsOf e) ∧ (cap = 0 ∨ o = lo * P.cellsOf e) ∧ o + cap * P.cellsOf e ≤ N) ∧ m ≤ cap ∧ cap ≤ maxLen
def Cells (P : Program) (w : World) (F : Nat → Prop) (e : Nat) (L : List D) (cs : Array Value) : Prop :=
  (∀ x, x ∈ L → x.flat.length = P.cellsOf e) ∧ ∀ (i : Nat) (d : D), (flatAll L)[i]? = some d → d.isCell = true ∧ ∃ u, cs[i]? = some u ∧ Rd w F d u
def MutA (P : Program) (f : FuncId) (e : Nat) (L : List D) (lo m : Nat) (pre post L' : List D) (r : MR) : Prop :=
  CallOk P f ∧ L'.length = L.length ∧ ∀ (w : World) (G : Nat → Prop) (b o cap : Nat) (cs : Array Value) (us vs : List Value), (∀ c, G c → c < w.heap.size ∧ c ≠ b) → w.heap[b]? = some (.cells cs e (0, 0)) →
    ((m = 0 ∨ o = lo * P.cellsOf e) ∧ (cap = 0 ∨ o = lo * P.cellsOf e) ∧ o + cap * P.cellsOf e ≤ cs.size) → lo + m ≤ L.length → m ≤ cap → cap ≤ maxLen → Cells P w G e L cs → us.length = pre.length → (∀ (i : Nat) (d : D) (v : Value), pre[i]? = some d → us[i]? = some v → Rd w G d v) →
    vs.length = post.length → (∀ (i : Nat) (d : D) (v : Value), post[i]? = some d → vs[i]? = some v → Rd w G d v) →
    Calls P f (us ++ Value.slice (some ⟨b, o, none⟩) m cap :: vs).toArray w (fun ee w' => ∃ v cs', ee = .returned v ∧ BelY w.heap.size ⟨w, fun c => c = b⟩ w w' ∧ w'.heap[b]? = some (.cells cs' e (0, 0)) ∧ Cells P w' (FW w.heap.size G w') e L' cs' ∧ MRok P e b cs'.size L' w' (FW w.heap.size G w') r v)
abbrev Mut (P : Program) (f : FuncId) (e : Nat) (L : List D) (lo m : Nat) (args L' : List D) (r : MR) : Prop := MutA P f e L lo m [] args L' r
def endM (T : Ty) (σ : St) (p : Nat) (rs : List ResultVar) (e : Nat) (L' : List D) : MR → Prop
  | .val res => (∃ lo m, σ.get p = some (.wn true e L' lo m)) ∧ scalarD res = true ∧ resD T σ rs = some res
  | .part lo m => ∃ h, (∃ lo0 m0, σ.get h = some (.wn true e L' lo0 m0)) ∧ ∃ t, rs = [.tmp t] ∧ ∃ av, ex T σ.get 0 (.tmp t) = some av ∧ winF σ.get (some av) = some (h, e, L', lo, m)
def retM (T : Ty) (p : Nat) (rs : List ResultVar) (e : Nat) (L' : List D) (r : MR) : Exit → St → Prop
  | .normal, σ => endM T σ p rs e L' r
  | .ret, σ => endM T σ p rs e L' r
  | .exit _, _ => False
  | .goto _, _ => False
  | .panic _, _ => False
  | .outgrown, _ => False
theorem resD_sound (hT : TOk P T) {fn : Func} {rs : List ResultVar} {res : D} (hrs : fn.results.toList = rs) {a : Act} {w : World} (hR : Rel P B F0 w0 n σ a w) (hq : resD T σ rs = some res) :
    ∃ v, (results fn a.tmps).run P w = .ok v w ∧ Rd w (FW B F0 w) res v := by
  unfold resD at hq
  split at hq <;> simp at hq
  · rename_i d hd
    subst hq
    obtain ⟨vs', hrun, hl', hall⟩ := resAll_sound hT hR rs _ hd
    match vs', hl' with
    | [v], _ =>
      refine ⟨v, ?_, hall 0 d v rfl rfl⟩
      rw [results_eq]
      simp only [Sem.run_bind, Array.mapM_eq_mapM_toList, hrs, Sem.run_map, hrun, Result.andThen_ok, Sem.run_pure]
      rfl
  · rename_i hd
    subst hq
    obtain ⟨vs', hrun, hl', hall⟩ := resAll_sound hT hR rs _ hd
    match vs', hl' with
    | [], _ =>
      refine ⟨.tuple #[], ?_, Rd.tu (vs := []) rfl (fun i d v h => by simp at h)⟩
      rw [results_eq]
      simp only [Sem.run_bind, Array.mapM_eq_mapM_toList, hrs, Sem.run_map, hrun, Result.andThen_ok, Sem.run_pure]
      rfl
  · rename_i d e r hd
    subst hq
    obtain ⟨vs', hrun, hl', hall⟩ := resAll_sound hT hR rs _ hd
    refine ⟨.tuple vs'.toArray, ?_, Rd.tu hl' (fun i d v h1 h2 => hall i d v h1 h2)⟩
    rw [results_eq]
    simp only [Sem.run_bind, Array.mapM_eq_mapM_toList, hrs, Sem.run_map, hrun, Result.andThen_ok, Sem.run_pure]
    rw [dif_neg (by simp at hl' ⊢; omega)]
theorem get_app (t : Nat) (σ2 : St) : ∀ (σ1 : St), St.get (σ1 ++ σ2) t = match St.get σ1 t with
    | some x => some x
    | none => St.get σ2 t
  | [] => rfl
  | (k, a) :: r => by
    rw [List.cons_append, St.get_cons, St.get_cons]
    split
    · rfl
    · exact get_app t σ2 r
theorem MutA.intro (hT : TOk P T) {f : FuncId} {fn : Func} {c : Code} {rs : List ResultVar} {e lo m : Nat} {pre post L L' : List D} {r : MR} (hf : P.funcs[f]? = some fn) (hb : fn.body = some c) (hrs : fn.results.toList = rs) (hn : fn.ntmps = n) (hl : pre.length + post.length + 1 ≤ n) (hnm : (fn.name == "runtime.NumGoroutine") = false) (hlen : L'.length = L.length)
    (h : ∀ (B : Nat) (F0 : Nat → Prop) (w0 : Bas), AW P B F0 w0 n c (retM T pre.length rs e L' r) ((pre.length, .wn true e L lo m) :: (initSt 0 pre ++ initSt (pre.length + 1) post))) : MutA P f e L lo m pre post L' r := by
  refine ⟨⟨fn, hf, hnm, by simp [hb]⟩, hlen, fun w G b o cap cs us vs hG hb' h0 hlm hcap hmax hcs hlu hru hlv hr => ?_⟩
  have hbs := (Array.getElem?_eq_some_iff.1 hb').1
  have hF0 : F0ok w.heap.size (fun c => G c ∨ c = b) ⟨w, fun c => c = b⟩ := ⟨fun c hc => hc.elim (fun h => (hG c h).1) (fun h => h ▸ hbs), fun c hc => .inr hc⟩
  refine calls_of_wp hf hb (wp_mono (h w.heap.size (fun c => G c ∨ c = b) ⟨w, fun c => c = b⟩ _ w ?_) ?_)
  · have hfree : ∀ c, G c → Free (fun c => if c = b then some pre.length else none) (FW w.heap.size (fun c => G c ∨ c = b) w) c := fun c hc => ⟨by simp [(hG c hc).2], .inl (.inl hc)⟩
    refine ⟨.refl _ _ _, Nat.le_refl _, hF0, rfl, ?_, fun c => if c = b then some pre.length else none, (fun c t hc => ?_), fun t av hav => ?_⟩
    · simp [hn]; omega
    · simp only [] at hc
      split at hc <;> simp at hc
      rename_i hcb
      subst hcb
      exact ⟨.inr rfl, hbs⟩
    · have htm : ∀ (k : Nat) (v : Value), (us ++ Value.slice (some ⟨b, o, none⟩) m cap :: vs)[k]? = some v → ((us ++ Value.slice (some ⟨b, o, none⟩) m cap :: vs).toArray ++ Array.replicate (fn.ntmps - (us ++ Value.slice (some ⟨b, o, none⟩) m cap :: vs).toArray.size) undef)[k]? = some v := fun k v hk => by
        have hlt := (List.getElem?_eq_some_iff.1 hk).1
        rw [Array.getElem?_append, if_pos (by simpa using hlt)]
        simpa using hk
      rw [St.get_cons] at hav
      split at hav
      · rename_i ht
        subst ht
        simp at hav
        subst hav
        refine ⟨.slice (some ⟨b, o, none⟩) m cap, htm _ _ (by rw [← hlu]; simp), .inr ⟨b, o, cap, cs, fun _ => rfl, rfl, ⟨h0.1, h0.2.1, h0.2.2⟩, by simp, hb', hlm, hcap, hmax, hcs.1, fun i d hd => ?_⟩⟩
        obtain ⟨f1, u, f2, f3⟩ := hcs.2 i d hd
        exact ⟨f1, u, f2, f3.mono hfree (fun _ _ => rfl)⟩
      · rename_i ht
        rw [get_app, get_initSt, get_initSt] at hav
        simp only [Nat.zero_le, if_true, Nat.sub_zero] at hav
        cases hp : pre[t]? with
        | some d =>
          rw [hp] at hav
          simp at hav
          subst hav
          have hlt : t < us.length := by rw [hlu]; exact (List.getElem?_eq_some_iff.1 hp).1
          refine ⟨us[t], htm _ _ (by rw [List.getElem?_append_left hlt, List.getElem?_eq_getElem hlt]), ?_⟩
          exact (hru t d _ hp (List.getElem?_eq_getElem hlt)).mono hfree (fun _ _ => rfl)
        | none =>
          rw [hp] at hav
          simp only [Option.map_none] at hav
          split at hav <;> try (cases hav; done)
          simp only [Option.map_eq_some_iff] at hav
          obtain ⟨d, hd, rfl⟩ := hav
          obtain ⟨k, rfl⟩ : ∃ k, t = pre.length + 1 + k := ⟨t - (pre.length + 1), by omega⟩
          rw [Nat.add_sub_cancel_left] at hd
          have hlt : k < vs.length := by rw [hlv]; exact (List.getElem?_eq_some_iff.1 hd).1
          refine ⟨vs[k], htm _ _ (by rw [← hlu, List.getElem?_append_right (by omega), show us.length + 1 + k - us.length = k + 1 by omega, List.getElem?_cons_succ, List.getElem?_eq_getElem hlt]), ?_⟩
          exact (hr k d _ hd (List.getElem?_eq_getElem hlt)).mono hfree (fun _ _ => rfl)
  · rintro ee a w' ⟨σ', hq, hR⟩
    have key : endM T σ' pre.length rs e L' r → a.defers = [] ∧ ∃ v, (results fn a.tmps).run P w' = .ok v w' ∧ ∃ v' cs', Ending.returned v = .returned v' ∧ BelY w.heap.size ⟨w, fun c => c = b⟩ w w' ∧ w'.heap[b]? = some (.cells cs' e (0, 0)) ∧ Cells P w' (FW w.heap.size G w') e L' cs' ∧ MRok P e b cs'.size L' w' (FW w.heap.size G w') r v' := fun hq => by
      refine ⟨hR.defers, ?_⟩
      obtain ⟨O, hOr, hO⟩ := hR.own
      have hI : Inv P w.heap.size (fun c => G c ∨ c = b) ⟨w, fun c => c = b⟩ (fun _ => True) σ'.get σ'.get a w' O := ⟨hR.below, hR.base, hR.f0, hOr, fun t _ av h => hO t av h, fun t av h _ => hO t av h⟩
      have home : ∀ k lo m, σ'.get k = some (.wn true e L' lo m) → ∃ cs', O b = some k ∧ w'.heap[b]? = some (.cells cs' e (0, 0)) ∧ Cells P w' (FW w.heap.size G w') e L' cs' := fun k lo m h => by
        obtain ⟨v, hv, hr⟩ := hO k _ h
        rcases hr with ⟨h, _⟩ | ⟨b', o', cap', cs', hq, h1, h0, h2, h3, h4, h5, h6, h7, h8⟩
        · cases h
        have hbb : b' = b := hq rfl
        subst hbb
        refine ⟨cs', h2, h3, h7, fun i d hd => ?_⟩
        obtain ⟨f1, u, f2, f3⟩ := h8 i d hd
        refine ⟨f1, u, f2, f3.mono (fun c hc => ?_) (fun _ _ => rfl)⟩
        have hne : c ≠ b' := fun e => by subst e; rw [Free, h2] at hc; cases hc.1
        rcases hc.2 with h | h
        · exact .inl (h.resolve_right hne)
        · exact .inr h
      cases r with
      | val res =>
        obtain ⟨⟨lo, m, h0⟩, hs, hres⟩ := hq
        obtain ⟨cs', _, hb1, hc1⟩ := home _ lo m h0
        obtain ⟨v, hrun, hrd⟩ := resD_sound hT hrs hR hres
        exact ⟨v, hrun, v, cs', rfl, hR.below, hb1, hc1, hs, hrd.scalar hs⟩
      | part lo m =>
        obtain ⟨h, ⟨lo0, m0, h0⟩, t, hrt, av, hav, hw⟩ := hq
        obtain ⟨cs', hOb, hb1, hc1⟩ := home _ lo0 m0 h0
        subst hrt
        have hsome : ∃ v, a.tmps[t]? = some v := by
          cases hs : σ'.get t with
          | none => simp [ex, hs] at hav
          | some av => obtain ⟨v, hv, _⟩ := hO t av hs; exact ⟨v, hv⟩
        obtain ⟨v, hv⟩ := hsome
        obtain ⟨x, hx, hrow, hlm, cap', hc1', hc2, hvv⟩ := win_sound hI (ex_sound hI (fun _ _ => trivial) hav 0).1 hw
        rw [eval_tmp hv] at hvv
        rw [h0] at hx
        simp at hx
        subst hx
        refine ⟨v, results_one hrs hv, v, cs', rfl, hR.below, hb1, hc1, hlm, ?_⟩
        rcases hvv with ⟨_, hq, _⟩ | ⟨b', o1, len, cap, cs2, o2, hq, htm, rfl, h0', hOb', hb2, _⟩
        · simp [AV.tag] at hq
        · have hbb : b' = b := hq.1 rfl
          subst hbb
          rw [hb1] at hb2
          simp at hb2
          subst hb2
          exact ⟨o2, cap', rfl, ⟨h0'.1, h0'.2.1, Nat.le_trans h0'.2.2.1 hq.2⟩, hc1', hc2⟩
    cases ee with
    | normal => exact key hq
    | ret => exact key hq
    | exit _ => exact hq.elim
    | goto _ => exact hq.elim
    | panic _ => exact hq.elim
    | outgrown => exact hq.elim
theorem Mut.intro (hT : TOk P T) {f : FuncId} {fn : Func} {c : Code} {rs : List ResultVar} {e lo m : Nat} {args L L' : List D} {r : MR} (hf : P.funcs[f]? = some fn) (hb : fn.body = some c) (hrs : fn.results.toList = rs) (hn : fn.ntmps = n) (hl : args.length + 1 ≤ n) (hnm : (fn.name == "runtime.NumGoroutine") = false) (hlen : L'.length = L.length)
    (h : ∀ (B : Nat) (F0 : Nat → Prop) (w0 : Bas), AW P B F0 w0 n c (retM T 0 rs e L' r) ((0, .wn true e L lo m) :: initSt 1 args)) : Mut P f e L lo m args L' r :=
  MutA.intro hT hf hb hrs hn (by simp; omega) hnm hlen h
theorem Rel.writeG {a : Act} {w w' : World} {h b : Nat} {x x' : AV} {cs cs0 : Array Value} {e0 : TypeId} {fz : Nat × Nat} {O : Nat → Option Nat} (hbb : w.heap[b]? = some (.cells cs0 e0 fz)) (hbb' : w'.heap[b]? = some (.cells cs e0 fz)) (hbel : BelY B w0 w w') (hold : ∀ c, c < w.heap.size → c ≠ b → w'.heap[c]? = w.heap[c]?) (hR : Rel P B F0 w0 n σ a w)
    (hOr : ∀ b t, O b = some t → OwnR B w0 w b) (hO : ∀ t av, σ.get t = some av → ∃ v, a.tmps[t]? = some v ∧ AVR P w0.X w O (FW B F0 w) σ.get (fun h => a.tmps[h]?) t av v)
    (hx : σ.get h = some x) (hb : O b = some h) (hsame : ∃ e l l', x.row = some (e, l) ∧ x'.row = some (e, l') ∧ l.length = l'.length ∧ x.tag = x'.tag)
    (hv : ∀ v, a.tmps[h]? = some v → AVR P w0.X w O (FW B F0 w) σ.get (fun h => a.tmps[h]?) h x v → AVR P w0.X w' O (FW B F0 w') σ.get (fun h => a.tmps[h]?) h x' v)
    (hh : x'.home = true) : Rel P B F0 w0 n ((h, x') :: σ) a w' := by
  have hget : ∀ t, St.get ((h, x') :: σ) t = if h = t then some x' else σ.get t := fun t => St.get_cons _ _ _ _
  have hbase' : B ≤ w'.heap.size := Nat.le_trans hR.base hbel.size
  refine ⟨hR.below.trans hbel, hbase', hR.f0, hR.defers, hR.size, O, fun c t hc => ⟨(hOr c t hc).1, Nat.lt_of_lt_of_le (hOr c t hc).2 hbel.size⟩, fun t av hav => ?_⟩
  rw [hget] at hav
  by_cases htd : h = t
  · subst htd
    simp at hav
    subst hav
    obtain ⟨v, hv', hr⟩ := hO h x hx
    refine ⟨v, hv', (hv v hv' hr).mono (fun c hc => FW.step hR.f0 hbase' (Nat.le_refl _) c hc) (fun _ _ => rfl) (fun c u hc => Nat.lt_of_lt_of_le (hOr c u hc).2 hbel.size) (fun _ _ => rfl) (fun k hk => ?_)⟩
    exfalso
    cases x' <;> simp_all [AV.home, AV.refs]
  · rw [if_neg htd] at hav
    obtain ⟨v, hv', hr⟩ := hO t av hav
    refine ⟨v, hv', ?_⟩
    have h1 : AVR P w0.X (w.setRow b cs) O (FW B F0 w) (St.get ((h, x') :: σ)) (fun h => a.tmps[h]?) t av v := hr.write hb (fun e => absurd e.symm htd) (fun _ hc => hc) (fun k hk => ⟨fun ds hds => ?_, fun z e l hz hl => ?_⟩)
    · refine h1.mono (fun c hc => ⟨by simpa using (FW.step hR.f0 hR.base (Nat.le_refl _) c hc).1, (FW.step hR.f0 hR.base hbel.size c hc).2⟩) (fun _ _ => rfl) (fun c u hc => by simpa using (hOr c u hc).2) (fun c hc => ?_) (fun k hk x hx hg => ⟨hg, rfl⟩)
      by_cases hcb : c = b
      · subst hcb
        rw [hbb', setRow_heap w c _ cs e0 fz hbb]
      · rw [setRow_other w b c cs hcb]
        exact hold c (by simpa using hc) hcb
    · rw [hget] at hds
      split at hds
      · rename_i hk'
        subst hk'
        simp at hds
        subst hds
        obtain ⟨_, _, _, _, h2, _, _⟩ := hsame
        simp [AV.row] at h2
      · exact ⟨ds, hds⟩
    · rw [hget] at hz
      split at hz
      · rename_i hk'
        subst hk'
        simp at hz
        subst hz
        obtain ⟨e', l1, l2, h1, h2, h3, h4⟩ := hsame
        rw [h2] at hl
        simp at hl
        obtain ⟨rfl, rfl⟩ := hl
        exact ⟨x, l1, hx, h1, h3, h4⟩
      · exact ⟨z, l, hz, hl, rfl, rfl⟩
def argIx (T : Ty) (σ : St) : List Operand → List Nat → Option (Nat × Nat × Nat × List D × Nat × Nat)
  | x :: xs, t :: ts => match winF σ.get (ex T σ.get t x) with
    | some (h, e, l, lo, m) => some (0, h, e, l, lo, m)
    | none => match argIx T σ xs ts with
      | some (p, h, e, l, lo, m) => some (p + 1, h, e, l, lo, m)
      | none => none
  | _, _ => none
theorem argIx_spec {T : Ty} {σ : St} : ∀ {xs : List Operand} {ts : List Nat} {p h e lo m : Nat} {l : List D}, argIx T σ xs ts = some (p, h, e, l, lo, m) → ∃ x t, xs = xs.take p ++ x :: xs.drop (p + 1) ∧ xs[p]? = some x ∧ winF σ.get (ex T σ.get t x) = some (h, e, l, lo, m)
  | [], _, _, _, _, _, _, _, h => by simp [argIx] at h
  | _ :: _, [], _, _, _, _, _, _, h => by simp [argIx] at h
  | x :: xs, t :: ts, p, hh, e, lo, m, l, h => by
    simp only [argIx] at h
    split at h
    · rename_i h1
      simp at h
      obtain ⟨rfl, rfl, rfl, rfl, rfl, rfl⟩ := h
      exact ⟨x, t, by simp, rfl, h1⟩
    · split at h <;> simp at h
      rename_i h1
      obtain ⟨rfl, rfl, rfl, rfl, rfl, rfl⟩ := h
      obtain ⟨y, u, g1, g2, g3⟩ := argIx_spec h1
      exact ⟨y, u, by rw [List.take_succ_cons, List.cons_append, List.drop_succ_cons, ← g1], by simpa using g2, g3⟩
def mutF (T : Ty) (σ : St) : Op → Option (FuncId × Nat × AV × Nat × List D × Nat × Nat × List D × List D)
  | .call c => match c.callee with
    | .value (.func f) => match argIx T σ c.args.toList c.argTypes.toList with
      | some (p, h, e, l, lo, m) => match σ.get h, argsL T σ.get (hmx σ h) (c.args.toList.take p) (c.argTypes.toList.take p), argsL T σ.get (hmx σ h) (c.args.toList.drop (p + 1)) (c.argTypes.toList.drop (p + 1)) with
        | some y, some d1, some d2 => some (f, h, y, e, l, lo, m, d1, d2)
        | _, _, _ => none
      | none => none
    | _ => none
  | _ => none
def MutEnd (P : Program) (B : Nat) (F0 : Nat → Prop) (w0 : Bas) (n : Nat) (σ : St) (a : Act) (h e : Nat) (y : AV) (l' : List D) (r : MR) (v : Value) (w' : World) : Prop :=
  Rel P B F0 w0 n ((h, y.withRow l') :: σ) a w' ∧ ∃ b o1 len cap1 cs' G, l' ≠ [] ∧ (y.tag = true → w0.X b) ∧ a.tmps[h]? = some (.slice (some ⟨b, o1, none⟩) len cap1) ∧ w'.heap[b]? = some (.cells cs' e (0, 0)) ∧ Cells P w' G e l' cs' ∧ MRok P e b cs'.size l' w' G r v
theorem call_mut (hT : TOk P T) {f h e lo m : Nat} {y : AV} {l l' d1 d2 : List D} {r : MR} (hx : mutF T σ o.op = some (f, h, y, e, l, lo, m, d1, d2)) (hP : MutA P f e l lo m d1 d2 l' r) (h0 : 0 < m) (hs : plainL l' = true)
    {a : Act} {w : World} (hR : Rel P B F0 w0 n σ a w) (K : Act → World → Prop) (Q : Exit → Act → World → Prop) (hK : ∀ v w', y.row = some (e, l) → MutEnd P B F0 w0 n σ a h e y l' r v w' → K (a.put o.dst v) w') : o.wp P a w K Q := by
  obtain ⟨O, hOr, hO⟩ := hR.own
  have hI : Inv P B F0 w0 (fun _ => True) σ.get σ.get a w O := ⟨hR.below, hR.base, hR.f0, hOr, fun t _ av h => hO t av h, fun t av h _ => hO t av h⟩
  obtain ⟨dst, op, ty, pos, after, guard⟩ := o
  simp only [] at hx hK
  cases op <;> simp only [mutF] at hx <;> try (cases hx; done)
  rename_i c
  obtain ⟨callee, args, ats⟩ := c
  simp only [] at hx
  split at hx <;> try (cases hx; done)
  rename_i g
  split at hx <;> try (cases hx; done)
  rename_i p h' e' l1 lo' m' hw
  split at hx <;> simp at hx
  rename_i y' d1' d2' hy hds1 hds2
  obtain ⟨rfl, rfl, rfl, rfl, rfl, rfl, rfl, rfl, rfl⟩ := hx
  obtain ⟨x, t, hxs, _, hwx⟩ := argIx_spec hw
  cases hxe : ex T σ.get t x with
  | none => rw [hxe] at hwx; simp [winF] at hwx
  | some av =>
  rw [hxe] at hwx
  obtain ⟨z, hz, hrow, hlm, cap, hcap, hmax, hv⟩ := win_sound hI (ex_sound hI (fun _ _ => trivial) hxe 0).1 hwx
  rw [hy] at hz
  simp at hz
  subst hz
  rcases hv with ⟨hl0, _⟩ | ⟨b, o1, len, cap1, cs, off, hq, htm, hev, h0', hOb, hb, hu, hcells⟩
  · omega
  have hIh := hR.inv hOr hO (fun _ => True) h'
  have hG1 : ∀ c, Free O (FW B F0 w) c → FW B F0 w c ∧ O c ≠ some h' := fun c hc => ⟨hc.2, by rw [hc.1]; simp⟩
  have hG2 : ∀ c t y, O c = some t → hmx σ h' t = some y → y.home = true → FW B F0 w c ∧ O c ≠ some h' := fun c t y hc ht _ => ⟨(hOr c t hc).fw hR.f0, by rw [hc]; simpa using (hmx_some ht).1⟩
  have hargs1 := argsL_run hT hIh (G := fun c => FW B F0 w c ∧ O c ≠ some h') hG1 hG2 _ _ d1' (fun _ _ _ _ => trivial) hds1
  have hargs2 := argsL_run hT hIh (G := fun c => FW B F0 w c ∧ O c ≠ some h') hG1 hG2 _ _ d2' (fun _ _ _ _ => trivial) hds2
  have hcall := hP.2.2 w (fun c => FW B F0 w c ∧ O c ≠ some h') b off cap cs _ _ (fun c hc => ⟨(FW.step hR.f0 hR.base (Nat.le_refl _) c hc.1).1, fun e => hc.2 (e ▸ hOb)⟩) hb ⟨h0'.1, h0'.2.1, Nat.le_trans h0'.2.2.1 hq.2⟩ hlm hcap hmax
    ⟨hu, fun i d hd => by obtain ⟨f1, u, f2, f3⟩ := hcells i d hd; exact ⟨f1, u, f2, f3.mono hG1 (fun _ _ => rfl)⟩⟩ hargs1.1 hargs1.2 hargs2.1 hargs2.2
  unfold Oper.wp
  rw [exec_call hP.1]
  show Calls P g (args.map a.eval) w _
  have he : ((args.toList.take p).map a.eval ++ Value.slice (some ⟨b, off, none⟩) m' cap :: (args.toList.drop (p + 1)).map a.eval).toArray = args.map a.eval := by
    rw [← hev]
    apply Array.ext'
    rw [Array.toList_map]
    conv => rhs; rw [hxs]
    simp
  rw [he] at hcall
  have hbs := (hOr b h' hOb)
  refine hcall.mono fun ee w' ⟨v, cs', he, hbel, hb', hc', hr⟩ => ?_
  subst he
  have hsz := hbel.size
  have hbelB : BelY B w0 w w' := ⟨hbel.os, hbel.tape, hbel.output, hbel.size, fun k hk hxk => hbel.block k (Nat.lt_of_lt_of_le hk hR.base) (fun e => by
    subst e
    rcases hbs.1 with h1 | h1
    · omega
    · exact hxk h1), hbel.same⟩
  have hcsz : cs'.size = cs.size := by
    obtain ⟨c2, h1, h2⟩ := hbel.same b cs _ _ hb
    rw [hb'] at h1
    simp at h1
    rw [h1]
    exact h2
  have hR1 : Rel P B F0 w0 n ((h', y'.withRow l') :: σ) a w' := by
    refine Rel.writeG hb hb' hbelB (fun c hc hne => hbel.block c hc hne) hR hOr hO hy hOb ⟨_, _, _, hrow, (row_with hrow).1, hP.2.1.symm, (row_with hrow).2.2.symm⟩ (fun v hv hr => ?_) (row_with hrow).2.1
    rw [htm] at hv
    simp at hv
    subst hv
    exact row_write hr hrow hb hb' hcsz hP.2.1 (fun e => by subst e; simp at hlm; omega) hc'.1 (fun i d hd => by obtain ⟨f1, u, f2, f3⟩ := hc'.2 i d hd; exact ⟨f1, u, f2, f3.plain (plainL_get hs hd)⟩)
  exact hK v w' hrow ⟨hR1, b, o1, len, cap1, cs', _, fun e => by have h1 := hP.2.1; rw [e] at h1; simp at h1; omega, hq.1, htm, hb', hc', hr⟩
theorem OpOk.callm (hT : TOk P T) {f h e lo m : Nat} {y : AV} {l l' d1 d2 : List D} {res : D} (hd : o.dst = some d) (hdn : d < n) (hx : mutF T σ o.op = some (f, h, y, e, l, lo, m, d1, d2)) (hP : MutA P f e l lo m d1 d2 l' (.val res)) (h0 : 0 < m) (hs : plainL l' = true) (hne : h ≠ d) :
    OpOk P B F0 w0 n o σ ((d, .d res) :: (h, y.withRow l') :: σ) := by
  intro a w hR K Q hK
  refine call_mut hT hx hP h0 hs hR K Q (fun v w' _ ⟨hR1, b, o1, len, cap1, cs', G, _, _, _, _, _, hr⟩ => ?_)
  obtain ⟨O2, hOr2, hO2⟩ := hR1.own
  rw [hd]
  have hput := hR1.put (d := d) (av := .d res) (v := v) hOr2 hO2 hdn (Grow.refl (fun b t hb => (hOr2 b t hb).2)) (hr.2.scalar hr.1)
  exact hK _ _ hput
theorem OpOk.callp (hT : TOk P T) {f h e lo m lo' m' : Nat} {y : AV} {l l' d1 d2 : List D} (hd : o.dst = some d) (hdn : d < n) (hx : mutF T σ o.op = some (f, h, y, e, l, lo, m, d1, d2)) (hP : MutA P f e l lo m d1 d2 l' (.part lo' m')) (h0 : 0 < m) (hs : plainL l' = true) (hne : h ≠ d) :
    OpOk P B F0 w0 n o σ ((d, .wn y.tag e l' lo' m') :: (h, .junk) :: St.kill d ((h, y.withRow l') :: σ)) := by
  intro a w hR K Q hK
  refine call_mut hT hx hP h0 hs hR K Q (fun v w' hrow ⟨hR1, b, o1, len, cap1, cs', G, hne', hX, htm, hb', hc', hr⟩ => ?_)
  obtain ⟨O2, hOr2, hO2⟩ := hR1.own
  obtain ⟨hlm2, o2, cap2, rfl, h02, hc2, hm2⟩ := hr
  have hget : St.get ((h, y.withRow l') :: σ) h = some (y.withRow l') := by rw [St.get_cons, if_pos rfl]
  obtain ⟨u, hu, hur⟩ := hO2 h _ hget
  rw [htm] at hu
  simp at hu
  subst hu
  rw [hd]
  refine hK _ _ (hR1.consume (O' := swO O2 h d) hO2 hdn hne ⟨_, hget⟩ rfl (.refl _ _ _) (swO_lt hOr2) (fun c hc => ⟨⟨swO_none.2 hc.1, hc.2⟩, rfl⟩) (fun c t hc h1 h2 => ⟨swO_other hc h1 h2, rfl⟩) ?_)
  have hOb : O2 b = some h := by
    rcases row_cells hur (row_with hrow).1 with ⟨h1, _⟩ | ⟨_, _, h1, _⟩
    · exact absurd h1 hne'
    · exact h1
  exact .inr ⟨b, o2, cap2, cs', hX, rfl, ⟨h02.1, h02.2.1, h02.2.2⟩, by simp [swO, hOb], hb', hlm2, hc2, hm2, hc'.1, fun i dd hdd => by
    obtain ⟨f1, u, f2, f3⟩ := hc'.2 i dd hdd
    exact ⟨f1, u, f2, f3.plain (plainL_get hs hdd)⟩⟩
end
end Lift
namespace Lift
open Go
section
variable {P : Program} {T : Ty} {B : Nat} {F0 : Nat → Prop} {w0 : Bas} {n : Nat} {o : Oper} {d : Nat} {σ : St} {K : St → Prop} {all ops : Array Oper} {rest : List Oper} {ds : List Nat} {σ0 τ : St}
theorem AOps.slw (hT : TOk P T) {h a0 m : Nat} {l : List D} {lo hi : Option Int} (hd : o.dst = some d) (hdn : Nat.ble (d + 1) n = true) (hg : guardOk all σ o = true) (hx : slwF T σ.get (hmx σ d) o.op = some (h, l, a0, m, lo, hi)) (g1 : okB lo) (g2 : okB hi) (g3 : loN lo ≤ hiN m hi) (g4 : hiN m hi ≤ m)
    (hk : AOps P B F0 w0 n all rest K ((d, .sb h (a0 + loN lo) (hiN m hi - loN lo)) :: σ)) : AOps P B F0 w0 n all (o :: rest) K σ := AOps.pure hg hdn (PStep.slw hT hd (hmx_self σ d) hx g1 g2 g3 g4) hk
theorem AOps.callo (hT : TOk P T) {f : FuncId} {xas L : List D} {e lo m : Nat} (hd : o.dst = some d) (hdn : Nat.ble (d + 1) n = true) (hg : guardOk all σ o = true) (hx : callL T σ.get (hmx σ d) o.op = some (f, xas)) (hP : PureO P f xas e L lo m) (hs : plainL L = true)
    (hk : AOps P B F0 w0 n all rest K ((d, .wn false e L lo m) :: σ.kill d)) : AOps P B F0 w0 n all (o :: rest) K σ := AOps.pure hg hdn (PStep.callo hT hd (hmx_self σ d) hx hP hs) hk
theorem AOps.callm (hT : TOk P T) {f : FuncId} {h e lo m : Nat} {y : AV} {l l' d1 d2 : List D} {res : D} (hd : o.dst = some d) (hdn : Nat.ble (d + 1) n = true) (hg : guardOk all σ o = true) (hx : mutF T σ o.op = some (f, h, y, e, l, lo, m, d1, d2)) (hP : MutA P f e l lo m d1 d2 l' (.val res)) (h0 : 0 < m) (hs : plainL l' = true) (hne : Nat.beq h d = false)
    (hk : AOps P B F0 w0 n all rest K ((d, .d res) :: (h, y.withRow l') :: σ)) : AOps P B F0 w0 n all (o :: rest) K σ := AOps.op hg (OpOk.callm hT hd (Nat.le_of_ble_eq_true hdn) hx hP h0 hs (Nat.ne_of_beq_eq_false hne)) hk
theorem AOps.callp (hT : TOk P T) {f : FuncId} {h e lo m lo' m' : Nat} {y : AV} {l l' d1 d2 : List D} (hd : o.dst = some d) (hdn : Nat.ble (d + 1) n = true) (hg : guardOk all σ o = true) (hx : mutF T σ o.op = some (f, h, y, e, l, lo, m, d1, d2)) (hP : MutA P f e l lo m d1 d2 l' (.part lo' m')) (h0 : 0 < m) (hs : plainL l' = true) (hne : Nat.beq h d = false)
    (hk : AOps P B F0 w0 n all rest K ((d, .wn y.tag e l' lo' m') :: (h, .junk) :: St.kill d ((h, y.withRow l') :: σ))) : AOps P B F0 w0 n all (o :: rest) K σ := AOps.op hg (OpOk.callp hT hd (Nat.le_of_ble_eq_true hdn) hx hP h0 hs (Nat.ne_of_beq_eq_false hne)) hk
theorem APre.slw (hT : TOk P T) {h a0 m : Nat} {l : List D} {lo hi : Option Int} (hd : o.dst = some d) (hdn : Nat.ble (d + 1) n = true) (hg : guardOk ops τ o = true) (hs : σ0.get d = none) (hk : memN h ds = false) (hx : slwF T τ.get σ0.get o.op = some (h, l, a0, m, lo, hi)) (g1 : okB lo) (g2 : okB hi) (g3 : loN lo ≤ hiN m hi) (g4 : hiN m hi ≤ m)
    (h' : APre P B F0 w0 n ops ds σ0 rest ((d, .sb h (a0 + loN lo) (hiN m hi - loN lo)) :: τ) K) : APre P B F0 w0 n ops ds σ0 (o :: rest) τ K := APre.pure hd hdn (by simp [refsOk, AV.refs, hk]) hg (PStep.slw hT hd hs hx g1 g2 g3 g4) h'
theorem APre.callo (hT : TOk P T) {f : FuncId} {xas L : List D} {e lo m : Nat} (hd : o.dst = some d) (hdn : Nat.ble (d + 1) n = true) (hg : guardOk ops τ o = true) (hs : σ0.get d = none) (hx : callL T τ.get σ0.get o.op = some (f, xas)) (hP : PureO P f xas e L lo m) (hsc : plainL L = true)
    (h : APre P B F0 w0 n ops ds σ0 rest ((d, .wn false e L lo m) :: τ) K) : APre P B F0 w0 n ops ds σ0 (o :: rest) τ K := APre.pure hd hdn rfl hg (PStep.callo hT hd hs hx hP hsc) h
def cutQ {S : Type} (ks : List Nat) (mk : S → St) (I : S → Prop) (Q : Exit → St → Prop) : Exit → St → Prop
  | .normal, σ => ∃ s, σ.keep ks = mk s ∧ I s
  | .exit i, σ => Q (.exit i) σ
  | .goto i, σ => Q (.goto i) σ
  | .ret, σ => Q .ret σ
  | .panic c, σ => Q (.panic c) σ
  | .outgrown, σ => Q .outgrown σ
theorem AW.cut {x y : Code} {Q : Exit → St → Prop} {S : Type} (ks : List Nat) (mk : S → St) (I : S → Prop) (hx : AW P B F0 w0 n x (cutQ ks mk I Q) σ) (hy : ∀ s, I s → AW P B F0 w0 n y Q (mk s)) : AW P B F0 w0 n (.seq x y) Q σ := by
  refine AW.seq (AW.mono hx fun e σ' hq => ?_)
  cases e with
  | normal =>
    obtain ⟨s, h1, h2⟩ := hq
    exact AW.keep ks (h1 ▸ hy s h2)
  | _ => exact hq
end
end Lift
namespace Lift
open Go
open Go.RowKit (Below)
section
variable {P : Program} {T : Ty} {B : Nat} {F0 : Nat → Prop} {w0 : Bas} {n d : Nat} {o : Oper} {σ : St} {K : St → Prop} {all : Array Oper} {rest : List Oper}
theorem ow_wn {X : Nat → Prop} {w : World} {O : Nat → Option Nat} {F : Nat → Prop} {hm : Nat → Option AV} {tm : Nat → Option Value} {t e : Nat} {l : List D} {v : Value} (h : AVR P X w O F hm tm t (.ow e l) v) : AVR P X w O F hm tm t (.wn false e l 0 l.length) v := by
  rcases h with ⟨base, rfl, rfl⟩ | ⟨b, cap, cs, h1, h2, h3, h4, h5, h6, h7, h8⟩
  · exact .inl ⟨rfl, base, rfl, rfl, rfl, rfl⟩
  · exact .inr ⟨b, 0, cap, cs, fun h => by (cases h), h1, ⟨.inr (by simp), .inr (by simp), by omega⟩, h2, h3, by omega, h4, h5, h7, h8⟩
def cpF (T : Ty) (σ : St) : Op → Option (Nat × AV × Nat × List D × Nat × Nat × List D)
  | .call c => match c.callee with
    | .builtin .copy => match c.args.toList, c.argTypes.toList with
      | [x, y], [t, u] => match T.get t, winF σ.get (ex T σ.get t x), srcF T σ.get (ex T σ.get u y) with
        | some ti, some (h, e, l, lo, m), some (s, ys) => match Nat.beq ti.kind 4, Nat.beq e ti.elem, T.get ti.elem, σ.get h with
          | true, true, some te, some av => match Nat.beq te.size 1, Nat.beq s 1 with
            | true, true => some (h, av, e, l, lo, m, ys)
            | _, _ => none
          | _, _, _, _ => none
        | _, _, _ => none
      | _, _ => none
    | _ => none
  | _ => none
theorem OpOk.copy (hT : TOk P T) {h e lo m : Nat} {av : AV} {l ys : List D} (hd : o.dst = some d) (hdn : d < n) (hx : cpF T σ o.op = some (h, av, e, l, lo, m, ys)) (hm : 0 < m) (hy : ys ≠ []) :
    OpOk P B F0 w0 n o σ ((d, .d (.v (.int .i64 ((min ys.length m : Nat) : Int)))) :: (h, av.withRow (l.take lo ++ ys.take (min ys.length m) ++ l.drop (lo + min ys.length m))) :: σ) := by
  intro a w hR K Q hK
  obtain ⟨O, hOr, hO⟩ := hR.own
  have hI : Inv P B F0 w0 (fun _ => True) σ.get σ.get a w O := ⟨hR.below, hR.base, hR.f0, hOr, fun t _ av h => hO t av h, fun t av h _ => hO t av h⟩
  obtain ⟨dst, op, ty, pos, after, guard⟩ := o
  simp only [] at hd hx
  subst hd
  cases op <;> simp only [cpF] at hx <;> try (cases hx; done)
  rename_i c
  obtain ⟨callee, args, ats⟩ := c
  simp only [] at hx
  split at hx <;> try (cases hx; done)
  split at hx <;> try (cases hx; done)
  rename_i x y t u hxy htu
  split at hx <;> try (cases hx; done)
  rename_i ti h' e' l' lo' m' s ys' hti hw hys
  split at hx <;> try (cases hx; done)
  rename_i te av' hk hee hte hav
  split at hx <;> simp at hx
  rename_i hts hss
  obtain ⟨rfl, rfl, rfl, rfl, rfl, rfl, rfl⟩ := hx
  have hee := Nat.eq_of_beq_eq_true hee
  subst hee
  have hts := Nat.eq_of_beq_eq_true hts
  have hss := Nat.eq_of_beq_eq_true hss
  subst hss
  have hargs : args = #[x, y] := by apply Array.ext'; simpa using hxy
  have hats : ats = #[t, u] := by apply Array.ext'; simpa using htu
  subst hargs; subst hats
  obtain ⟨info, dd, z, hok⟩ := hT t ti hti
  obtain ⟨info', dd', z', hok'⟩ := hT _ te hte
  have hun := (hok.kind4 hk).1
  have hsz : info'.size = 1 := hok'.size.trans hts
  have hcel : P.cellsOf ti.elem = 1 := hok'.cellsOf.trans hts
  cases hxe : ex T σ.get t x with
  | none => rw [hxe] at hw; simp [winF] at hw
  | some avx =>
  cases hye : ex T σ.get u y with
  | none => rw [hye] at hys; simp [srcF] at hys
  | some avy =>
  rw [hxe] at hw
  rw [hye] at hys
  obtain ⟨zz, hz, hrow, hlm, cap, hcap, hmax, hv⟩ := win_sound hI (ex_sound hI (fun _ _ => trivial) hxe 0).1 hw
  rw [hav] at hz
  simp at hz
  subst hz
  obtain ⟨ad, cap', hyv, hmx, hall⟩ := src_cells hT hI (ex_sound hI (fun _ _ => trivial) hye 0).1 hys
  rcases hv with ⟨hl0, _⟩ | ⟨b, o1, len, cap1, cs, off, hq, htm, hev, h0', hOb, hb, hu, hcells⟩
  · omega
  rw [hcel] at h0' hu
  have hoff : off = lo' := by have := h0'.1; omega
  subst hoff
  rcases hall with h | ⟨sa, news, rfl, g1, g2, g3, g4⟩
  · exact absurd h hy
  have hylen : 0 < ys'.length := List.length_pos_iff.2 hy
  rw [flatAll_length g2, Nat.mul_one] at g1
  obtain ⟨k, hkk⟩ : ∃ k, k = min ys'.length m' := ⟨_, rfl⟩
  rw [← hkk] at hK
  have hcsl : l'.length ≤ cs.size := by
    have h1 := flatAll_length hu
    rw [Nat.mul_one] at h1
    rcases Nat.eq_zero_or_pos l'.length with h0 | h0
    · omega
    · obtain ⟨_, u, f2, _⟩ := hcells (l'.length - 1) _ (List.getElem?_eq_getElem (by omega))
      have := (Array.getElem?_eq_some_iff.1 f2).1
      omega
  have hrun := run_copy_row (P := P) w t u ty ti.elem b off m' cap sa ys'.length cap' cs ti.elem (news.take k) hun (by rw [hok'.hinfo]; simp [hsz]) hb
    (by rw [List.length_take, g1, hkk]; show min (min ys'.length m') ys'.length = min ys'.length m'; omega) (fun j v hj => by
      rw [List.getElem?_take] at hj
      split at hj
      · exact g3 j v hj
      · cases hj) (by rw [List.length_take]; omega) (fun v hv => g4.cells1 v (List.mem_of_mem_take hv))
  have hnk : (news.take k).length = k := by rw [List.length_take]; omega
  rw [hnk] at hrun
  obtain ⟨cs', hcs'⟩ : ∃ cs', cs' = (cs.toList.take off ++ news.take k ++ cs.toList.drop (off + k)).toArray := ⟨_, rfl⟩
  rw [← hcs'] at hrun
  have hss : cs'.size = cs.size := by
    rw [hcs']
    simp only [List.size_toArray, List.length_append, List.length_take, List.length_drop, Array.length_toList]
    omega
  have hex : (execOp a.eval { dst := some d, op := .call { callee := .builtin .copy, args := #[x, y], argTypes := #[t, u] }, type := ty, pos := pos, after := after, guard := guard }).run P w = .ok (.value (goInt k)) (w.setRow b cs') := by
    simp [execOp, resolve, invoke, builtin, hev, hyv, hrun]
  refine wp_val hex ?_
  have hR1 : Rel P B F0 w0 n ((h', av'.withRow (l'.take off ++ ys'.take k ++ l'.drop (off + k))) :: σ) a (w.setRow b cs') := by
    refine Rel.write hb hss hR hOr hO hav hOb (.inr ⟨_, _, _, hrow, (row_with hrow).1, by simp only [List.length_append, List.length_take, List.length_drop]; omega, (row_with hrow).2.2.symm⟩) (fun v hv hr => ?_) (row_with hrow).2.1
    rw [htm] at hv
    simp at hv
    subst hv
    refine row_write hr hrow hb (setRow_heap w b cs _ ti.elem _ hb) hss (by simp only [List.length_append, List.length_take, List.length_drop]; omega) (fun h0 => by subst h0; simp at hlm; omega) (fun x hx => ?_) (fun j dd hj => ?_)
    · rw [hcel]
      rcases List.mem_append.1 hx with hx | hx
      · rcases List.mem_append.1 hx with hx | hx
        · exact hu x (List.mem_of_mem_take hx)
        · exact g2 x (List.mem_of_mem_take hx)
      · exact hu x (List.mem_of_mem_drop hx)
    · have hB : ∀ c, Free O (FW B F0 w) c → (w.setRow b cs').heap[c]? = w.heap[c]? := fun c hc => setRow_other w b c _ (fun e => by rw [e, Free, hOb] at hc; cases hc.1)
      have fl : ∀ (q : List D), (∀ x, x ∈ q → x.flat.length = 1) → (flatAll q).length = q.length := fun q hq => by rw [flatAll_length hq, Nat.mul_one]
      have f1 := fl (l'.take off) (fun x hx => hu x (List.mem_of_mem_take hx))
      have f2 := fl (ys'.take k) (fun x hx => g2 x (List.mem_of_mem_take hx))
      have e1 : flatAll l' = flatAll (l'.take off) ++ flatAll (l'.drop off) := by rw [← flatAll_append, List.take_append_drop]
      have e2 : flatAll ys' = flatAll (ys'.take k) ++ flatAll (ys'.drop k) := by rw [← flatAll_append, List.take_append_drop]
      have e3 : flatAll l' = flatAll (l'.take (off + k)) ++ flatAll (l'.drop (off + k)) := by rw [← flatAll_append, List.take_append_drop]
      have f3 := fl (l'.take (off + k)) (fun x hx => hu x (List.mem_of_mem_take hx))
      rw [List.length_take] at f1 f2 f3
      rw [flatAll_append, flatAll_append] at hj
      have hcg : cs'[j]? = (cs.toList.take off ++ news.take k ++ cs.toList.drop (off + k))[j]? := by rw [hcs', List.getElem?_toArray]
      rw [hcg]
      rw [List.getElem?_append] at hj
      rw [List.length_append] at hj
      split at hj
      · rename_i hj1
        rw [List.getElem?_append] at hj
        split at hj
        · rename_i hj2
          have h1 : (flatAll l')[j]? = some dd := by rw [e1, List.getElem?_append_left hj2]; exact hj
          obtain ⟨q1, v, q2, q3⟩ := hcells j dd h1
          exact ⟨q1, v, by rw [List.append_assoc, List.getElem?_append_left (by simp; omega), List.getElem?_take_of_lt (by omega)]; simpa using q2, q3.mono (fun _ h => by simpa [Free, FW] using h) hB⟩
        · rename_i hj2
          have h1 : (flatAll ys')[j - (flatAll (l'.take off)).length]? = some dd := by rw [e2, List.getElem?_append_left (by omega)]; exact hj
          obtain ⟨q1, v, q2, q3⟩ := g4.get h1
          exact ⟨q1, v, by
            rw [List.append_assoc, List.getElem?_append_right (by simp; omega), List.getElem?_append_left (by simp; omega), List.getElem?_take_of_lt (by simp; omega), ← q2]
            congr 1
            simp
            omega, q3.mono (fun _ h => by simpa [Free, FW] using h) hB⟩
      · rename_i hj1
        have h1 : (flatAll l')[j]? = some dd := by
          rw [e3, List.getElem?_append_right (by omega), ← hj]
          congr 1
          omega
        obtain ⟨q1, v, q2, q3⟩ := hcells j dd h1
        exact ⟨q1, v, by
          rw [List.getElem?_append_right (by simp; omega), List.getElem?_drop]
          rw [← q2]
          simp
          congr 1
          omega, q3.mono (fun _ h => by simpa [Free, FW] using h) hB⟩
  obtain ⟨O2, hOr2, hO2⟩ := hR1.own
  exact hK _ _ (hR1.put (d := d) (av := .d (.v (.int .i64 (k : Int)))) (v := goInt k) hOr2 hO2 hdn (Grow.refl (fun b t hb => (hOr2 b t hb).2)) (.v rfl))
theorem AOps.copy (hT : TOk P T) {h e lo m : Nat} {av : AV} {l ys : List D} (hd : o.dst = some d) (hdn : Nat.ble (d + 1) n = true) (hg : guardOk all σ o = true) (hx : cpF T σ o.op = some (h, av, e, l, lo, m, ys)) (hm : 0 < m) (hy : ys ≠ [])
    (hk : AOps P B F0 w0 n all rest K ((d, .d (.v (.int .i64 ((min ys.length m : Nat) : Int)))) :: (h, av.withRow (l.take lo ++ ys.take (min ys.length m) ++ l.drop (lo + min ys.length m))) :: σ)) : AOps P B F0 w0 n all (o :: rest) K σ :=
  AOps.op hg (OpOk.copy hT hd (Nat.le_of_ble_eq_true hdn) hx hm hy) hk
def addEdge (i j : Nat) (o : Oper) : Oper := match Nat.beq i j with
  | true => o
  | false => ⟨o.dst, o.op, o.type, o.pos, o.after.push ⟨i, .data⟩, o.guard⟩
def earlier (i : Nat) (ops : Array Oper) : Array Oper := (ops.toList.zipIdx.map fun x => addEdge i x.2 x.1).toArray
theorem earlier_get (i : Nat) (ops : Array Oper) (j : Nat) : (earlier i ops)[j]? = (ops[j]?).map (addEdge i j) := by
  unfold earlier
  simp [List.getElem?_zipIdx]
  cases ops[j]? <;> simp
theorem earlier_size (i : Nat) (ops : Array Oper) : (earlier i ops).size = ops.size := by simp [earlier]
theorem addEdge_same (i : Nat) (o : Oper) : addEdge i i o = o := by simp [addEdge]
theorem addEdge_op (i j : Nat) (o : Oper) : (addEdge i j o).op = o.op ∧ (addEdge i j o).dst = o.dst ∧ (addEdge i j o).guard = o.guard := by
  unfold addEdge; split <;> exact ⟨rfl, rfl, rfl⟩
theorem addEdge_exec (i j : Nat) (o : Oper) (ρ : Operand → Value) : execOp ρ (addEdge i j o) = execOp ρ o := by
  unfold addEdge; split
  · rfl
  · obtain ⟨dst, op, ty, pos, after, guard⟩ := o; rfl
def isMv : Op → Option Operand
  | .move x => some x
  | _ => none
def noSel (ops : Array Oper) : Bool := ops.toList.all fun o => match o.op with
  | .select _ _ => false
  | _ => true
def earlyB (ops : Array Oper) (i : Nat) : Bool := match ops[i]? with
  | some oi => (isMv oi.op).isSome && oi.guard.isNone && (oi.after.toList.all fun e => !Region.binds .any e) && noSel ops &&
      (List.range ops.size).all fun j => Nat.beq j i || match ops[j]? with
        | some oj => (oj.after.toList.any fun e => Region.binds .any e && Nat.beq e.on i) || oi.apart ops oj
        | none => true
  | none => false
section
variable {Q : Exit → Act → World → Prop} {ops : Array Oper}
theorem wpOp_earlier (i j : Nat) {K : Act → World → Prop} {a : Act} {w : World} (h : wpOp P (earlier i ops) Q j K a w) : wpOp P ops Q j K a w := by
  unfold wpOp at *
  rw [earlier_get] at h
  cases ho : ops[j]? with
  | none => rw [ho] at h; exact h
  | some o =>
    rw [ho] at h
    simp only [Option.map_some] at h ⊢
    obtain ⟨e1, e2, e3⟩ := addEdge_op i j o
    have hy : ∀ g, yielded (earlier i ops) a.tmps g = yielded ops a.tmps g := fun g => by
      unfold yielded
      rw [earlier_get]
      cases ops[g]? with
      | none => rfl
      | some og => simp only [Option.map_some, Option.bind_some, (addEdge_op i g og).2.1]
    have hw : Region.wanted (addEdge i j o) (yielded (earlier i ops) a.tmps) = Region.wanted o (yielded ops a.tmps) := by
      unfold Region.wanted
      rw [e3]
      split
      · rfl
      · rw [hy]
    rw [hw, e2] at h
    have hwp : (addEdge i j o).wp P a w K Q → o.wp P a w K Q := fun h => by
      unfold Oper.wp at *
      rw [addEdge_exec] at h
      generalize (execOp a.eval o).run P w = r at *
      cases r with
      | ok n w' => cases n <;> simp only [Oper.upon, e2] at h ⊢ <;> exact h
      | halt x w' => cases x <;> simp only [Oper.upon] at h ⊢ <;> exact h
    have has : (addEdge i j o).asks P a w → o.asks P a w := fun h => by
      unfold Oper.asks at *
      rw [addEdge_exec] at h
      exact h
    split
    · rename_i hc
      rw [if_pos hc] at h
      rcases h with h | ⟨h1, h2⟩
      · exact .inl (hwp h)
      · exact .inr ⟨has h1, h2⟩
    · rename_i hc
      rw [if_neg hc] at h
      exact h
theorem ready_earlier {i : Nat} {listed : Array Bool} (hi : listed.getD i false = true) (j : Nat) : j ∈ Region.ready .any (earlier i ops) listed ↔ j ∈ Region.ready .any ops listed := by
  rw [mem_ready, mem_ready, earlier_get]
  refine and_congr Iff.rfl ⟨fun ⟨o, ho, hall⟩ => ?_, fun ⟨o, ho, hall⟩ => ?_⟩
  · cases hj : ops[j]? with
    | none => rw [hj] at ho; cases ho
    | some oj =>
      rw [hj] at ho
      simp at ho
      subst ho
      refine ⟨oj, rfl, fun e he hb => hall e ?_ hb⟩
      unfold addEdge
      split
      · exact he
      · simp [he]
  · refine ⟨addEdge i j o, by rw [ho]; rfl, fun e he hb => ?_⟩
    unfold addEdge at he
    split at he
    · exact hall e he hb
    · simp at he
      rcases he with he | rfl
      · exact hall e he hb
      · exact hi
theorem wpAny_earlier {i : Nat} : ∀ (f : Nat) (listed : Array Bool) (a : Act) (w : World), listed.getD i false = true → wpAny P .any (earlier i ops) Q f listed a w → wpAny P .any ops Q f listed a w
  | 0, listed, a, w, hi, h => by
    refine ⟨?_, h.2⟩
    apply List.eq_nil_iff_forall_not_mem.2
    intro j hj
    have := (ready_earlier hi j).2 hj
    rw [h.1] at this
    cases this
  | f + 1, listed, a, w, hi, h => by
    refine ⟨fun hn => h.1 ?_, fun j hj => ?_⟩
    · apply List.eq_nil_iff_forall_not_mem.2
      intro j hj
      have := (ready_earlier hi j).1 hj
      rw [hn] at this
      cases this
    · refine wpOp_mono (fun a' w' h' => wpAny_earlier f _ a' w' (getD_set_true hi) h') (wpOp_earlier i j (h.2 j ((ready_earlier hi j).2 hj)))
end
theorem AAny.early {Q : Exit → St → Prop} {ops : Array Oper} (i : Nat) (hB : earlyB ops i = true) (hQ : ∀ c σ, Q (.panic c) σ → False) (h : AAny P B F0 w0 n (earlier i ops) Q σ) : AAny P B F0 w0 n ops Q σ := by
  intro a w hR
  have hA := h a w hR
  unfold earlyB at hB
  cases hoi : ops[i]? with
  | none => rw [hoi] at hB; cases hB
  | some oi =>
  rw [hoi] at hB
  simp only [Bool.and_eq_true, List.all_eq_true] at hB
  obtain ⟨⟨⟨⟨hmv, hg⟩, haf⟩, hsel⟩, hall⟩ := hB
  have hil : i < ops.size := (Array.getElem?_eq_some_iff.1 hoi).1
  obtain ⟨x, hx⟩ := Option.isSome_iff_exists.1 hmv
  have hop : oi.op = .move x := by
    cases ho : oi.op <;> rw [ho] at hx <;> simp [isMv] at hx
    rw [hx]
  have hgn : oi.guard = none := by simpa using hg
  obtain ⟨s, hs⟩ : ∃ s, ops.size = s + 1 := ⟨ops.size - 1, by omega⟩
  have hi0 : (Array.replicate ops.size false).getD i true = false := getD_in (by simpa using hil) (getD_replicate_false _ _)
  have hri : ∀ ops' : Array Oper, ops'[i]? = some oi → i ∈ Region.ready .any ops' (Array.replicate ops.size false) := fun ops' h' => by
    rw [mem_ready]
    refine ⟨hi0, oi, h', fun e he hb => ?_⟩
    have := haf e (by simpa using he)
    rw [hb] at this
    cases this
  have hexec : ∀ (a : Act) (w : World), (execOp a.eval oi).run P w = .ok (.value (a.eval x)) w := fun a w => by
    obtain ⟨dst, op, ty, pos, after, guard⟩ := oi
    simp only [] at hop
    subst hop
    simp [execOp]
  have hwant : Region.wanted oi (yielded ops a.tmps) = true := by simp [Region.wanted, hgn]
  rw [earlier_size, hs] at hA
  rw [hs]
  have hI := hri (earlier i ops) (by rw [earlier_get, hoi]; simp [addEdge_same])
  rw [hs] at hI
  have h1 := wpOp_earlier i i (hA.2 i hI)
  have h2 : wpAny P .any (earlier i ops) (fun e a' w' => ∃ σ', Q e σ' ∧ Rel P B F0 w0 n σ' a' w') s ((Array.replicate (s + 1) false).setIfInBounds i true) (a.put oi.dst (a.eval x)) { w with drawn := w.drawn + 1 } := by
    unfold wpOp at h1
    simp only [hoi, hwant, if_true] at h1
    rcases h1 with h1 | ⟨h1, _⟩
    · unfold Oper.wp at h1
      rw [hexec] at h1
      exact h1
    · exfalso
      unfold Oper.asks at h1
      have hx0 : execOp a.eval oi = pure (.value (a.eval x)) := by
        obtain ⟨dst, op, ty, pos, after, guard⟩ := oi
        simp only [] at hop
        subst hop
        rfl
      rw [hx0] at h1
      have h2 := h1.1
      simp [-Sem.runT_eq, pure, Sem.runT] at h2
  have h3 := wpAny_earlier s _ _ _ (by simp; omega) h2
  have hri2 := hri ops hoi
  rw [hs] at hri2
  refine wpAny_first (i := i) (oi := oi) (v := a.eval x) hoi (fun j o cs b hj he => ?_) (fun c a' w' ⟨σ', hq, _⟩ => (hQ c σ' hq).elim) s _ a _ (fun j oj hj hji _ hne => ?_) hri2 (.inl ⟨hwant, fun w => hexec a w⟩) h3
  · unfold noSel at hsel
    have := List.all_eq_true.1 hsel o (by simpa using Array.mem_of_getElem? hj)
    rw [he] at this
    cases this
  · have hjl : j < ops.size := (Array.getElem?_eq_some_iff.1 hj).1
    have := hall j (List.mem_range.2 hjl)
    rw [hj] at this
    simp only [Bool.or_eq_true] at this
    rcases this with h | h
    · exact absurd (Nat.eq_of_beq_eq_true h) hji
    · rcases h with h | h
      · exfalso
        obtain ⟨e, he, hb⟩ := List.any_eq_true.1 h
        simp only [Bool.and_eq_true] at hb
        exact hne e (by simpa using he) hb.1 (Nat.eq_of_beq_eq_true hb.2)
      · exact h
end
end Lift
namespace Lift
open Go
open Go.RowKit (Below)
def St.wo (hs : List Nat) : St → St
  | [] => []
  | (k, a) :: r => match memN k hs with
    | true => St.wo hs r
    | false => (k, a) :: St.wo hs r
theorem get_wo (hs : List Nat) (σ : St) (t : Nat) : (σ.wo hs).get t = if t ∈ hs then none else σ.get t := by
  induction σ with
  | nil => simp [St.wo, St.get]
  | cons e r ih =>
    obtain ⟨k, a⟩ := e
    simp only [St.wo]
    split
    · rename_i h
      have h := memN_iff.1 h
      rw [ih, St.get_cons]
      by_cases hk : k = t
      · subst hk; simp [h]
      · simp [hk]
    · rename_i h
      have h : k ∉ hs := fun e => by rw [memN_iff.2 e] at h; cases h
      rw [St.get_cons, St.get_cons, ih]
      by_cases hk : k = t
      · subst hk; simp [h]
      · simp [hk]
theorem wo_some {hs : List Nat} {σ : St} {t : Nat} {av : AV} (h : (σ.wo hs).get t = some av) : t ∉ hs ∧ σ.get t = some av := by
  rw [get_wo] at h
  split at h
  · cases h
  · rename_i hn; exact ⟨hn, h⟩
def entL (listed : Array Bool) : Nat → List (Nat × AV) → St
  | _, [] => []
  | k, e :: r => match listed.getD k false with
    | true => e :: entL listed (k + 1) r
    | false => entL listed (k + 1) r
theorem entL_none {listed : Array Bool} {t : Nat} : ∀ (l : List (Nat × AV)) (k : Nat), (∀ (i : Nat) (e : Nat × AV), l[i]? = some e → listed.getD (k + i) false = true → e.1 ≠ t) → (entL listed k l).get t = none
  | [], k, h => rfl
  | e :: r, k, h => by
    have ih := entL_none r (k + 1) (fun i e' he hl => h (i + 1) e' (by simpa using he) (by rw [show k + (i + 1) = k + 1 + i by omega]; exact hl))
    simp only [entL]
    split
    · rename_i hl
      obtain ⟨k', a⟩ := e
      rw [St.get_cons, if_neg (h 0 (k', a) rfl hl)]
      exact ih
    · exact ih
theorem entL_some {listed : Array Bool} {t : Nat} {av : AV} : ∀ (l : List (Nat × AV)) (k i : Nat), (∀ (i j : Nat) (a b : AV), l[i]? = some (t, a) → l[j]? = some (t, b) → i = j) → l[i]? = some (t, av) → listed.getD (k + i) false = true → (entL listed k l).get t = some av
  | [], k, i, _, h, _ => by simp at h
  | e :: r, k, 0, hd, h, hl => by
    simp at h
    subst h
    simp only [Nat.add_zero] at hl
    simp only [entL, hl]
    rw [St.get_cons, if_pos rfl]
  | e :: r, k, i + 1, hd, h, hl => by
    have ih := entL_some r (k + 1) i (fun i j a b h1 h2 => by have := hd (i + 1) (j + 1) a b (by simpa using h1) (by simpa using h2); omega) (by simpa using h) (by rw [show k + 1 + i = k + (i + 1) by omega]; exact hl)
    simp only [entL]
    split
    · obtain ⟨k', a⟩ := e
      have hne : k' ≠ t := fun e => by
        subst e
        have := hd 0 (i + 1) a av rfl h
        omega
      rw [St.get_cons, if_neg hne]
      exact ih
    · exact ih
theorem storeF_form {T : Ty} {τ σ' : St} {op : Op} (h : storeF T τ op = some σ') : ∃ t p x i h off ds y, op = .store t p x ∧ T.get t = some i ∧ ex T τ.get 0 p = some (.pt h off) ∧ datF T (ex T τ.get t x) = some y ∧ τ.get h = some (.bx ds) ∧
    noTu y = true ∧ Nat.beq y.flat.length i.size = true ∧ Nat.ble (off + y.flat.length) ds.length = true ∧ σ' = (h, .bx (ds.take off ++ y.flat ++ ds.drop (off + y.flat.length))) :: τ := by
  cases op <;> simp only [storeF] at h <;> try (cases h; done)
  rename_i t p x
  split at h <;> try (cases h; done)
  rename_i i k off y hi hp hx
  split at h <;> try (cases h; done)
  rename_i ds hh hnt hs
  split at h <;> try (cases h; done)
  rename_i hl
  exact ⟨t, p, x, i, k, off, ds, y, rfl, hi, hp, hx, hh, hnt, hs, hl, (Option.some.inj h).symm⟩
theorem seF_form {T : Ty} {τ : St} {op : Op} {h i off : Nat} {xh : AV} {l : List D} {y : D} (hx : seF T τ op = some (h, xh, l, i, off, y)) : ∃ t p x ti e, op = .store t p x ∧ T.get t = some ti ∧ ex T τ.get 0 p = some (.el h i off) ∧ datF T (ex T τ.get t x) = some y ∧ τ.get h = some xh ∧ xh.row = some (e, l) ∧
    noTu y = true ∧ Nat.beq y.flat.length ti.size = true := by
  cases op <;> simp only [seF] at hx <;> try (cases hx; done)
  rename_i t p x
  split at hx <;> try (cases hx; done)
  rename_i ti h' i' off' y' hti hp hy
  split at hx <;> try (cases hx; done)
  rename_i xh' hg
  split at hx <;> try (cases hx; done)
  rename_i e l' hrow
  split at hx <;> simp at hx
  rename_i h1 h2
  obtain ⟨rfl, rfl, rfl, rfl, rfl, rfl⟩ := hx
  exact ⟨t, p, x, ti, e, rfl, hti, hp, hy, hg, hrow, h1, h2⟩
inductive StOk (T : Ty) (τ : St) (o : Oper) (h : Nat) : AV → Prop
  | bx {av : AV} (hs : storeF T τ o.op = some ((h, av) :: τ)) : StOk T τ o h av
  | el {xh : AV} {l : List D} {i off : Nat} {y old : D} (hx : seF T τ o.op = some (h, xh, l, i, off, y)) (hold : l[i]? = some old) (hok : okEl old y off = true) : StOk T τ o h (xh.withRow (l.set i (newEl old y off)))
theorem StOk.spec {T : Ty} {τ : St} {o : Oper} {h : Nat} {av : AV} (hs : StOk T τ o h av) : ∃ t p x q y xh, o.op = .store t p x ∧ ex T τ.get 0 p = some q ∧ ((∃ off, q = .pt h off) ∨ ∃ i off, q = .el h i off) ∧ datF T (ex T τ.get t x) = some y ∧ τ.get h = some xh ∧ xh.home = true ∧ av.home = true ∧
    ∀ (σ : St), ex T σ.get 0 p = ex T τ.get 0 p → ex T σ.get t x = ex T τ.get t x → σ.get h = some xh → StOk T σ o h av := by
  cases hs with
  | bx hs =>
    obtain ⟨t, p, x, i, h', off, ds, y, hop, hi, hp, hx, hg, hnt, hsz, hle, he⟩ := storeF_form hs
    simp only [List.cons.injEq, Prod.mk.injEq, and_true] at he
    obtain ⟨rfl, rfl⟩ := he
    refine ⟨t, p, x, _, y, _, hop, hp, .inl ⟨off, rfl⟩, hx, hg, rfl, rfl, fun σ h1 h2 h3 => .bx ?_⟩
    rw [hop]
    simp only [storeF, hi, h1, hp, h2, hx, h3, hnt, hsz, hle]
  | @el xh l i off y old hx hold hok =>
    obtain ⟨t, p, x, ti, e, hop, hti, hp, hy, hg, hrow, hnt, hsz⟩ := seF_form hx
    refine ⟨t, p, x, _, y, xh, hop, hp, .inr ⟨i, off, rfl⟩, hy, hg, row_home (by rw [hrow]; rfl), (row_with hrow).2.1, fun σ h1 h2 h3 => .el ?_ hold hok⟩
    rw [hop]
    simp only [seF, hti, h1, hp, h2, hy, h3, hrow, hnt, hsz]
def StL (T : Ty) (τ : St) : List Nat → List Oper → List (Nat × AV) → Prop
  | [], [], [] => True
  | h :: hs, o :: r, (h', av) :: wl => h' = h ∧ StOk T τ o h av ∧ StL T τ hs r wl
  | [], [], _ :: _ => False
  | [], _ :: _, _ => False
  | _ :: _, [], _ => False
  | _ :: _, _ :: _, [] => False
theorem StL.nil {T : Ty} {τ : St} : StL T τ [] [] [] := trivial
theorem StL.cons {T : Ty} {τ : St} {h : Nat} {hs : List Nat} {o : Oper} {r : List Oper} {av : AV} {wl : List (Nat × AV)} (h1 : StOk T τ o h av) (h2 : StL T τ hs r wl) : StL T τ (h :: hs) (o :: r) ((h, av) :: wl) := ⟨rfl, h1, h2⟩
theorem StL.spec {T : Ty} {τ : St} : ∀ {hs : List Nat} {l : List Oper} {wl : List (Nat × AV)}, StL T τ hs l wl → wl.length = hs.length ∧ l.length = hs.length ∧
    ∀ (k : Nat) (o : Oper) (h : Nat), l[k]? = some o → hs[k]? = some h → ∃ av, wl[k]? = some (h, av) ∧ StOk T τ o h av
  | [], [], [], _ => ⟨rfl, rfl, fun k o h hk => by simp at hk⟩
  | h0 :: hs, o0 :: r, (h', av) :: wl, h => by
    obtain ⟨rfl, h1, h2⟩ := h
    obtain ⟨g1, g2, g3⟩ := StL.spec h2
    refine ⟨by simp [g1], by simp [g2], fun k o h hk hh => ?_⟩
    cases k with
    | zero =>
      simp at hk hh
      subst hk; subst hh
      exact ⟨av, rfl, h1⟩
    | succ k => exact g3 k o h (by simpa using hk) (by simpa using hh)
  | [], [], _ :: _, h => h.elim
  | [], _ :: _, _, h => h.elim
  | _ :: _, [], _, h => h.elim
  | _ :: _, _ :: _, [], h => h.elim
def waitsB (o : Oper) (i : Nat) : Bool := o.after.any fun e => Region.binds .any e && e.on == i
theorem waitsB_spec {o : Oper} {i : Nat} (h : waitsB o i = true) : ∃ e ∈ o.after, Region.binds .any e = true ∧ e.on = i := by
  obtain ⟨e, he, hb⟩ := Array.any_eq_true'.1 h
  simp only [Bool.and_eq_true, beq_iff_eq] at hb
  exact ⟨e, he, hb.1, hb.2⟩
def setB (ops : Array Oper) (m : Nat) (o : Oper) (t : Nat) : Bool := match setter ops m t with
  | some i => waitsB o i
  | none => true
theorem setB_spec {ops : Array Oper} {m : Nat} {o : Oper} {t : Nat} (h : setB ops m o t = true) {i : Nat} {o' : Oper} (hi : i < m) (ho : ops[i]? = some o') (ht : o'.dst = some t) :
    ∃ i' o2, i' < m ∧ ops[i']? = some o2 ∧ o2.dst = some t ∧ ∃ e ∈ o.after, Region.binds .any e = true ∧ e.on = i' := by
  unfold setB at h
  cases hs : setter ops m t with
  | none =>
    exfalso
    have := List.find?_eq_none.1 hs i (List.mem_range.2 hi)
    simp [ho, ht] at this
  | some i' =>
    rw [hs] at h
    have hf := List.find?_some hs
    have hm' := List.mem_of_find?_eq_some hs
    split at hf <;> try (cases hf; done)
    rename_i o2 ho2
    exact ⟨i', o2, List.mem_range.1 hm', ho2, by simpa using hf, waitsB_spec h⟩
def nodupN : List Nat → Bool
  | [] => true
  | k :: r => match memN k r with
    | true => false
    | false => nodupN r
theorem nodupN_spec : ∀ {l : List Nat}, nodupN l = true → ∀ (i j t : Nat), l[i]? = some t → l[j]? = some t → i = j
  | [], _, i, j, t, h, _ => by simp at h
  | k :: r, h, i, j, t, h1, h2 => by
    simp only [nodupN] at h
    split at h <;> try (cases h; done)
    rename_i hm
    have hn : k ∉ r := fun e => by rw [memN_iff.2 e] at hm; cases hm
    have ih := nodupN_spec h
    cases i with
    | zero =>
      cases j with
      | zero => rfl
      | succ j =>
        simp at h1 h2
        subst h1
        exact absurd (List.mem_of_getElem? h2) hn
    | succ i =>
      cases j with
      | zero =>
        simp at h1 h2
        subst h2
        exact absurd (List.mem_of_getElem? h1) hn
      | succ j => rw [ih i j t (by simpa using h1) (by simpa using h2)]
def reachB (ops : Array Oper) : Nat → Nat → Nat → Bool
  | 0, _, _ => false
  | f + 1, j, i => match ops[j]? with
    | some o => o.after.any fun e => Region.binds .any e && (e.on == i || reachB ops f e.on i)
    | none => false
theorem reachB_spec {ops : Array Oper} {listed : Array Bool} (hc : ∀ j oj, ops[j]? = some oj → listed.getD j false = true → ∀ e ∈ oj.after, Region.binds .any e = true → listed.getD e.on false = true) :
    ∀ (f j i : Nat), reachB ops f j i = true → listed.getD j false = true → listed.getD i false = true
  | 0, j, i, h, _ => by simp [reachB] at h
  | f + 1, j, i, h, hl => by
    simp only [reachB] at h
    split at h <;> try (cases h; done)
    rename_i o ho
    obtain ⟨e, he, hb⟩ := Array.any_eq_true'.1 h
    simp only [Bool.and_eq_true, Bool.or_eq_true, beq_iff_eq] at hb
    have h1 := hc j o ho hl e he hb.1
    rcases hb.2 with h2 | h2
    · rw [← h2]; exact h1
    · exact reachB_spec hc f e.on i h2 h1
def lateF : List (Nat × Bool) → Nat → Bool
  | [], _ => true
  | (k, b) :: r, j => match Nat.blt j k with
    | true => !b
    | false => lateF r (j - k)
def storesB (ops : Array Oper) (lt : List (Nat × Bool)) (m : Nat) (hs : List Nat) : Bool := (List.range hs.length).all fun k => match ops[m + k]? with
  | some o => o.dst.isNone && o.guard.isNone && (o.after.all fun e => !(Region.binds .any e) || decide (e.on < m + k)) &&
      ((o.looksAt ops).all (setB ops m o)) && (match hs[k]? with
        | some h => setB ops m o h
        | none => false) && ((List.range m).all fun i => lateF lt i || reachB ops 6 (m + k) i)
  | none => false
def looksB (ops : Array Oper) (lt : List (Nat × Bool)) (m : Nat) (hs : List Nat) : Bool := (List.range m).all fun j => !(lateF lt j) || match ops[j]? with
  | some o => (o.looksAt ops).all fun t => !(memN t hs)
  | none => false
theorem looksB_spec {ops : Array Oper} {lt : List (Nat × Bool)} {m : Nat} {hs : List Nat} (h : looksB ops lt m hs = true) {j : Nat} {o : Oper} (hj : j < m) (h0 : lateF lt j = true) (ho : ops[j]? = some o) : ∀ t ∈ o.looksAt ops, t ∉ hs := fun t ht hm => by
  have := List.all_eq_true.1 h j (List.mem_range.2 hj)
  simp only [h0, Bool.not_true, Bool.false_or, ho] at this
  have := List.all_eq_true.1 this t ht
  rw [memN_iff.2 hm] at this
  cases this
def draw3B (ops : Array Oper) (lt : List (Nat × Bool)) (m : Nat) (hs : List Nat) : Bool :=
  decide (m + hs.length ≤ ops.size) && headB ops m && storesB ops lt m hs && nodupN hs && looksB ops lt m hs &&
    (decide (m + hs.length = ops.size) || (Region.sinkB .any ops (m + hs.length) && Region.chainB .any ops (m + hs.length))) &&
    Region.seqB .any ops (ops.size - (m + hs.length)) (m + hs.length) (Array.replicate (m + hs.length) true ++ Array.replicate (ops.size - (m + hs.length)) false)
theorem storesB_spec {ops : Array Oper} {lt : List (Nat × Bool)} {m : Nat} {hs : List Nat} (hB : storesB ops lt m hs = true) {k : Nat} (hk : k < hs.length) : ∃ o h, ops[m + k]? = some o ∧ hs[k]? = some h ∧ o.dst = none ∧ o.guard = none ∧ (∀ e ∈ o.after, Region.binds .any e = true → e.on < m + k) ∧
    (∀ t ∈ o.looksAt ops, setB ops m o t = true) ∧ setB ops m o h = true ∧ ∀ i, i < m → lateF lt i = false → reachB ops 6 (m + k) i = true := by
  have h := List.all_eq_true.1 hB k (List.mem_range.2 hk)
  split at h <;> try (cases h; done)
  rename_i o ho
  simp only [Bool.and_eq_true] at h
  obtain ⟨⟨⟨⟨⟨h1, h2⟩, h3⟩, h4⟩, h5⟩, h6⟩ := h
  have hh : hs[k]? = some hs[k] := List.getElem?_eq_getElem hk
  rw [hh] at h5
  refine ⟨o, hs[k], ho, hh, by simpa using h1, by simpa using h2, fun e he hb => ?_, List.all_eq_true.1 h4, h5, fun i hi hl => ?_⟩
  · have := (Array.all_eq_true_iff_forall_mem.1 h3) e he
    simpa [hb] using this
  · have := List.all_eq_true.1 h6 i (List.mem_range.2 hi)
    rw [hl] at this
    simpa using this
section
variable {P : Program} {T : Ty} {B : Nat} {F0 : Nat → Prop} {w0 : Bas} {n : Nat} {σ : St} {ops : Array Oper}
theorem Rel.ext {σ σ' : St} {a : Act} {w : World} (h : ∀ t, σ'.get t = σ.get t) (hR : Rel P B F0 w0 n σ a w) : Rel P B F0 w0 n σ' a w := by
  have e : σ'.get = σ.get := funext h
  exact ⟨hR.below, hR.base, hR.f0, hR.defers, hR.size, by rw [e]; exact hR.own⟩
theorem PStep.lift {o : Oper} {d : Nat} {av : AV} {lk hm lk' hm' : Nat → Option AV} (h : PStep P B F0 w0 d o lk hm av) (hd' : hm' d = none)
    (h1 : ∀ t, .tmp t ∈ o.op.operands → ∀ x, lk t = some x → lk' t = some x) (h2 : ∀ t x, hm t = some x → x.home = true → hm' t = some x)
    (h3 : ∀ k, av.refs = some k → ∀ x, x.home = true → hm' k = some x → hm k = some x) : PStep P B F0 w0 d o lk' hm' av := by
  obtain ⟨g1, g2, g3⟩ := h
  refine ⟨g1, hd', fun a w O hI K Q hK => ?_⟩
  refine g3 a w O ⟨hI.below, hI.base, hI.f0, hI.orange, fun t ht x hx => ?_, fun t x hx hxh => ?_⟩ K Q (fun v w' O' hg hv => hK v w' O' hg (hv.move (fun c hc => ⟨hc, rfl⟩) (fun _ c hc => ⟨hc, rfl⟩) (fun k hk x hx hkx => ⟨h3 k hk x hx hkx, rfl⟩)))
  · obtain ⟨v, hv, hr⟩ := hI.rd t ht x (h1 t ht x hx)
    exact ⟨v, hv, hr.move (fun c hc => ⟨hc, rfl⟩) (fun _ c hc => ⟨hc, rfl⟩) (fun k _ y hy hky => ⟨h2 k y hky hy, rfl⟩)⟩
  · obtain ⟨v, hv, hr⟩ := hI.hm t x (h2 t x hx hxh) hxh
    exact ⟨v, hv, hr.move (fun c hc => ⟨hc, rfl⟩) (fun _ c hc => ⟨hc, rfl⟩) (fun k _ y hy hky => ⟨h2 k y hky hy, rfl⟩)⟩
theorem get_rev_some {l : List (Nat × AV)} {t : Nat} {av : AV} {i : Nat} (hd : ∀ (i j : Nat) (a b : AV), l[i]? = some (t, a) → l[j]? = some (t, b) → i = j) (h : l[i]? = some (t, av)) : St.get l.reverse t = some av := by
  cases hg : St.get l.reverse t with
  | none => exact absurd (List.mem_reverse.2 (List.mem_of_getElem? h)) (get_nomem hg av)
  | some x =>
    obtain ⟨j, hj⟩ := List.mem_iff_getElem?.1 (List.mem_reverse.1 (get_mem hg))
    have := hd i j av x h hj
    subst this
    rw [h] at hj
    simp at hj
    rw [hj]
theorem get_rev_none {l : List (Nat × AV)} {t : Nat} (h : ∀ (i : Nat) (a : AV), l[i]? ≠ some (t, a)) : St.get l.reverse t = none := by
  cases hg : St.get l.reverse t with
  | none => rfl
  | some x =>
    obtain ⟨j, hj⟩ := List.mem_iff_getElem?.1 (List.mem_reverse.1 (get_mem hg))
    exact absurd hj (h j x)
theorem home_refs {x : AV} {d : Nat} (h : x.home = true) : x.refs ≠ some d := by
  cases x <;> simp [AV.home, AV.refs] at h ⊢
theorem kill_id {d : Nat} {x : AV} (h : x.refs ≠ some d) : x.kill d = x := by
  have key : ∀ h : Nat, h ≠ d → Nat.beq h d = false := fun h e => by
    cases hb : Nat.beq h d with
    | true => exact absurd (Nat.eq_of_beq_eq_true hb) e
    | false => rfl
  cases x <;> simp only [AV.kill, AV.refs, ne_eq, Option.some.injEq] at h ⊢ <;> (try rfl) <;> rw [key _ h]
theorem refsOk_spec {ds : List Nat} {av : AV} {k : Nat} (h : refsOk ds av = true) (hk : av.refs = some k) : k ∉ ds := fun hkd => by
  unfold refsOk at h
  rw [hk] at h
  simp only [memN_iff.2 hkd] at h
  cases h
theorem getD_false_of {listed : Array Bool} {i : Nat} (h : listed.getD i true = false) : listed.getD i false = false := getD_both h
theorem getD_cases (listed : Array Bool) (i : Nat) : listed.getD i false = true ∨ listed.getD i false = false := by
  cases listed.getD i false <;> simp
structure D2 (P : Program) (T : Ty) (B : Nat) (F0 : Nat → Prop) (w0 : Bas) (n : Nat) (ops : Array Oper) (lt : List (Nat × Bool)) (m : Nat) (hs ds : List Nat) (σ0 : St) (tl wl : List (Nat × AV)) : Prop where
  size : m + hs.length ≤ ops.size
  head : headB ops m = true
  stores : storesB ops lt m hs = true
  nodup : nodupN hs = true
  s0 : ∀ t av, σ0.get t = some av → t ∉ ds ∧ refsOk ds av = true
  step : ∀ j, j < m → ∃ o d av, ops[j]? = some o ∧ o.dst = some d ∧ tl[j]? = some (d, av) ∧ d < n ∧ d ∈ ds ∧ refsOk ds av = true ∧ (lateF lt j = true → refsOk hs av = true) ∧
    ∃ lk hm : St, (∀ t av, t ∈ o.looksAt ops → lk.get t = some av → (lateF lt j = true → t ∉ hs) ∧ St.get ((tl.take j).reverse ++ σ0) t = some av) ∧ (∀ t av, hm.get t = some av → (lateF lt j = true → t ∉ hs) ∧ σ0.get t = some av) ∧
      (∀ t av, σ0.get t = some av → (lateF lt j = true → t ∉ hs) → hm.get t = some av) ∧ StepAt P B F0 w0 ops hm lk o d av
  tlen : tl.length = m
  dist : ∀ (i j t : Nat) (a b : AV), tl[i]? = some (t, a) → tl[j]? = some (t, b) → i = j
  wls : wl.length = hs.length ∧ ∀ (k h : Nat), hs[k]? = some h → ∃ av, wl[k]? = some (h, av) ∧ ∃ o, ops[m + k]? = some o ∧ StOk T (tl.reverse ++ σ0) o h av
namespace D2
theorem ex_congr {lk lk' : Nat → Option AV} {ty : Nat} {x : Operand} (h : ∀ t, x = .tmp t → lk t = lk' t) : ex T lk ty x = ex T lk' ty x := by
  cases x with
  | tmp t => simp only [ex, h t rfl]
  | const v =>
    cases v with
    | slice b n c => cases b <;> cases n <;> cases c <;> rfl
    | pointer p => cases p <;> rfl
    | _ => rfl
  | _ => rfl
variable {lt : List (Nat × Bool)} {m : Nat} {hs ds : List Nat} {σ0 : St} {tl wl : List (Nat × AV)} (H : D2 P T B F0 w0 n ops lt m hs ds σ0 tl wl)
include H
def St2 (_ : D2 P T B F0 w0 n ops lt m hs ds σ0 tl wl) (listed : Array Bool) : St := entL listed m wl ++ (entL listed 0 tl ++ σ0)
theorem wl_spec {k t : Nat} {a : AV} (h : wl[k]? = some (t, a)) : hs[k]? = some t ∧ a.home = true := by
  have hk : k < hs.length := by rw [← H.wls.1]; exact (List.getElem?_eq_some_iff.1 h).1
  obtain ⟨av, h1, o, _, hst⟩ := H.wls.2 k hs[k] (List.getElem?_eq_getElem hk)
  rw [h] at h1
  simp at h1
  obtain ⟨_, _, _, _, _, _, _, _, _, _, _, _, hh, _⟩ := hst.spec
  exact ⟨by rw [List.getElem?_eq_getElem hk, h1.1], by rw [h1.2]; exact hh⟩
theorem wl_dist (i j t : Nat) (a b : AV) (h1 : wl[i]? = some (t, a)) (h2 : wl[j]? = some (t, b)) : i = j := nodupN_spec H.nodup i j t (H.wl_spec h1).1 (H.wl_spec h2).1
theorem ds_of {j t : Nat} {a : AV} (h : tl[j]? = some (t, a)) : t ∈ ds ∧ j < m := by
  have hj : j < m := by rw [← H.tlen]; exact (List.getElem?_eq_some_iff.1 h).1
  obtain ⟨o, d, av, _, _, h3, _, h5, _⟩ := H.step j hj
  rw [h] at h3
  simp at h3
  exact ⟨h3.1 ▸ h5, hj⟩
def Unw (_ : D2 P T B F0 w0 n ops lt m hs ds σ0 tl wl) (listed : Array Bool) (t : Nat) : Prop := ∀ k, hs[k]? = some t → listed.getD (m + k) false = false
theorem getW {listed : Array Bool} {k t : Nat} {a : AV} (h : wl[k]? = some (t, a)) (hl : listed.getD (m + k) false = true) : (H.St2 listed).get t = some a := by
  unfold St2
  rw [get_append, entL_some wl m k (fun i j a b h1 h2 => H.wl_dist i j t a b h1 h2) h hl]
theorem getU {listed : Array Bool} {t : Nat} (hu : H.Unw listed t) : (H.St2 listed).get t = St.get (entL listed 0 tl ++ σ0) t := by
  unfold St2
  rw [get_append, entL_none wl m (fun i e he hl hk => by
    obtain ⟨t', a⟩ := e
    simp only [] at hk
    subst hk
    have := hu i (H.wl_spec he).1
    rw [hl] at this
    cases this)]
theorem getB {listed : Array Bool} {j t : Nat} {a : AV} (hu : H.Unw listed t) (h : tl[j]? = some (t, a)) (hl : listed.getD j false = true) : (H.St2 listed).get t = some a := by
  rw [H.getU hu, get_append, entL_some tl 0 j (fun i j a b h1 h2 => H.dist i j t a b h1 h2) h (by rw [Nat.zero_add]; exact hl)]
theorem getA {listed : Array Bool} {t : Nat} (hu : H.Unw listed t) (ht : t ∉ ds) : (H.St2 listed).get t = σ0.get t := by
  rw [H.getU hu, get_append, entL_none tl 0 (fun i e he _ hk => by
    obtain ⟨t', a⟩ := e
    simp only [] at hk
    subst hk
    exact ht (H.ds_of he).1)]
theorem getN {listed : Array Bool} {j t : Nat} {a : AV} (hu : H.Unw listed t) (h : tl[j]? = some (t, a)) (hl : listed.getD j false = false) : (H.St2 listed).get t = none := by
  rw [H.getU hu, get_append, entL_none tl 0 (fun i e he hl' hk => by
    obtain ⟨t', a'⟩ := e
    simp only [] at hk
    subst hk
    have := H.dist i j t' a' a he h
    subst this
    rw [Nat.zero_add, hl] at hl'
    cases hl')]
  cases hg : σ0.get t with
  | none => rfl
  | some x => exact absurd (H.ds_of h).1 (H.s0 t x hg).1
theorem getτ {j t : Nat} {a : AV} (hj : j ≤ m) (h : St.get ((tl.take j).reverse ++ σ0) t = some a) : (∃ i, i < j ∧ tl[i]? = some (t, a)) ∨ (σ0.get t = some a ∧ t ∉ ds) := by
  rw [get_append] at h
  split at h
  · rename_i x hx
    simp at h
    subst h
    have := get_mem hx
    rw [List.mem_reverse] at this
    obtain ⟨i, hi⟩ := List.mem_iff_getElem?.1 this
    rw [List.getElem?_take] at hi
    split at hi <;> try (cases hi; done)
    rename_i hij
    exact .inl ⟨i, hij, hi⟩
  · exact .inr ⟨h, (H.s0 t a h).1⟩
structure Ok (_ : D2 P T B F0 w0 n ops lt m hs ds σ0 tl wl) (listed : Array Bool) : Prop where
  size : listed.size = ops.size
  closed : ∀ j oj, ops[j]? = some oj → listed.getD j false = true → ∀ e ∈ oj.after, Region.binds .any e = true → listed.getD e.on false = true
theorem Ok.set {listed : Array Bool} (h : H.Ok listed) {i : Nat} (hi : i ∈ Region.ready .any ops listed) : H.Ok (listed.setIfInBounds i true) := by
  obtain ⟨_, oi, hoi, hall⟩ := mem_ready.1 hi
  refine ⟨by simp [h.size], fun j oj hj hl e he hb => ?_⟩
  by_cases hij : i = j
  · subst hij
    have : oj = oi := Option.some.inj (hj.symm.trans hoi)
    subst this
    exact getD_set_true (hall e he hb)
  · rw [getD_set_ne false hij] at hl
    exact getD_set_true (h.closed j oj hj hl e he hb)
theorem unw_early {listed : Array Bool} (h : H.Ok listed) {j : Nat} (hjm : j < m) (hj : lateF lt j = false) (hl : listed.getD j false = false) (t : Nat) : H.Unw listed t := fun k hk => by
  rcases getD_cases listed (m + k) with hw | hw
  · exfalso
    obtain ⟨o, h', h1, _, _, _, _, _, _, h8⟩ := storesB_spec H.stores (List.getElem?_eq_some_iff.1 hk).1
    have := reachB_spec h.closed 6 _ _ (h8 j hjm hj) hw
    rw [hl] at this
    cases this
  · exact hw
theorem unw_of {listed : Array Bool} (h : H.Ok listed) {j : Nat} (hjm : j < m) (hl : listed.getD j false = false) {t : Nat} (ht : lateF lt j = true → t ∉ hs) : H.Unw listed t := by
  cases h' : lateF lt j with
  | false => exact H.unw_early h hjm h' hl t
  | true => exact fun k hk => absurd (List.mem_of_getElem? hk) (ht h')
theorem unw_slot {listed : Array Bool} (h : H.Ok listed) {j t : Nat} {a : AV} (hj : tl[j]? = some (t, a)) (hl : listed.getD j false = false) : H.Unw listed t := fun k hk => by
  rcases getD_cases listed (m + k) with hw | hw
  · exfalso
    obtain ⟨o, h', h1, h2, _, _, _, _, h7, _⟩ := storesB_spec H.stores (List.getElem?_eq_some_iff.1 hk).1
    rw [hk] at h2
    simp at h2
    subst h2
    obtain ⟨oj, d, av, g1, g2, g3, _⟩ := H.step j (H.ds_of hj).2
    rw [hj] at g3
    simp at g3
    obtain ⟨rfl, rfl⟩ := g3
    obtain ⟨i', o2, k1, k2, k3, e, he, hb, hon⟩ := setB_spec h7 (H.ds_of hj).2 g1 g2
    obtain ⟨o3, d3, av3, f1, f2, f3, _⟩ := H.step i' k1
    rw [k2] at f1
    simp at f1
    subst f1
    rw [k3] at f2
    simp at f2
    subst f2
    have := H.dist i' j t av3 a f3 hj
    subst this
    have := h.closed _ o h1 hw e he hb
    rw [hon, hl] at this
    cases this
  · exact hw
theorem one {listed : Array Bool} (h : H.Ok listed) {j : Nat} (hj : j < m) (hr : j ∈ Region.ready .any ops listed) {a : Act} {w : World} (hR : Rel P B F0 w0 n (H.St2 listed) a w) (Q' : Exit → Act → World → Prop) (K : Act → World → Prop)
    (hK : ∀ a w, Rel P B F0 w0 n (H.St2 (listed.setIfInBounds j true)) a w → K a w) : wpOp P ops Q' j K a w := by
  obtain ⟨o, d, av, h1, h2, h3, h4, h5, h6, h7, lk, hm, g1, g2, g3, g4⟩ := H.step j hj
  obtain ⟨hun, o', ho', hall⟩ := mem_ready.1 hr
  rw [h1] at ho'
  simp at ho'
  subst ho'
  have hlf := getD_false_of hun
  have hjs : j < listed.size := by rw [h.size]; have := H.size; omega
  obtain ⟨_, _, e1, _, e3, e4, _, e6⟩ := headB_spec H.head hj
  rw [h1] at e1
  simp at e1
  subst e1
  have hlk : ∀ t, t ∈ o.looksAt ops → ∀ x, lk.get t = some x → (H.St2 listed).get t = some x := fun t ht x hx => by
    obtain ⟨f1, f2⟩ := g1 t x ht hx
    have hu := H.unw_of h hj hlf f1
    rcases H.getτ (Nat.le_of_lt hj) f2 with ⟨i, hij, hi⟩ | ⟨hs0, htd⟩
    · obtain ⟨oi, di, avi, k1, k2, k3, _⟩ := H.step i (by omega)
      rw [hi] at k3
      simp at k3
      obtain ⟨rfl, rfl⟩ := k3
      obtain ⟨i', ⟨o2, q1, q2⟩, q3, e, q4, q5, q6⟩ := e4 t ht i (by omega) ⟨oi, k1, k2⟩
      obtain ⟨o3, d3, av3, p1, p2, p3, _⟩ := H.step i' q3
      rw [q1] at p1
      simp at p1
      subst p1
      rw [q2] at p2
      simp at p2
      subst p2
      have := H.dist i' i t av3 x p3 hi
      subst this
      have hl := hall e q4 q5
      rw [q6] at hl
      exact H.getB hu hi hl
    · rw [H.getA hu htd]
      exact hs0
  have hput : ∀ (τ : St), (∀ t, t ≠ d → τ.get t = (H.St2 listed).get t) → τ.get d = some av → ∀ t, (H.St2 (listed.setIfInBounds j true)).get t = τ.get t := fun τ hne hd t => by
    have hud := H.unw_slot h h3 hlf
    have hu2 : ∀ t, H.Unw listed t → H.Unw (listed.setIfInBounds j true) t := fun t hu k hk => by
      have hkl := (List.getElem?_eq_some_iff.1 hk).1
      rw [getD_set_ne false (by omega)]
      exact hu k hk
    by_cases htd : t = d
    · subst htd
      rw [hd]
      exact H.getB (hu2 _ hud) h3 (by simp [hjs])
    · rw [hne t htd]
      by_cases hu : H.Unw listed t
      · by_cases hds : ∃ (i : Nat) (x : AV), tl[i]? = some (t, x)
        · obtain ⟨i, x, hi⟩ := hds
          have hij : i ≠ j := fun e => by
            subst e
            rw [h3] at hi
            simp at hi
            exact htd hi.1.symm
          rcases getD_cases listed i with hl | hl
          · rw [H.getB hu hi hl, H.getB (hu2 _ hu) hi (by rw [getD_set_ne false (Ne.symm hij)]; exact hl)]
          · rw [H.getN hu hi hl, H.getN (hu2 _ hu) hi (by rw [getD_set_ne false (Ne.symm hij)]; exact hl)]
        · have e0 : ∀ (listed : Array Bool), St.get (entL listed 0 tl) t = none := fun listed => entL_none tl 0 (fun i e he _ hk => by
            obtain ⟨t', a⟩ := e
            simp only [] at hk
            subst hk
            exact hds ⟨i, a, he⟩)
          rw [H.getU hu, H.getU (hu2 _ hu), get_append, get_append, e0, e0]
      · have : ∃ k, hs[k]? = some t ∧ listed.getD (m + k) false = true := by
          apply Classical.byContradiction
          intro hn
          exact hu (fun k hk => by
            rcases getD_cases listed (m + k) with hw | hw
            · exact absurd ⟨k, hk, hw⟩ hn
            · exact hw)
        obtain ⟨k, hk, hw⟩ := this
        obtain ⟨cs, hwl, _⟩ := H.wls.2 k t hk
        have hkl := (List.getElem?_eq_some_iff.1 hk).1
        rw [H.getW hwl hw, H.getW hwl (by rw [getD_set_ne false (by omega)]; exact hw)]
  unfold wpOp
  simp only [h1]
  have hgv : ∀ g b', (∃ b, o.guard = some (g, b)) → guardVal ops lk g = some b' → yielded ops a.tmps g = some b' := by
    rintro g b' ⟨b, hgd⟩ hg
    obtain ⟨og, tg, q1, q2, q3⟩ := guardVal_ok hg
    have hl : tg ∈ o.looksAt ops := by
      unfold Oper.looksAt
      refine List.mem_append_right _ ?_
      rw [hgd]
      simp [q1, q2]
    obtain ⟨O, hOr, hO⟩ := hR.own
    obtain ⟨u, hu, hur⟩ := hO tg _ (hlk tg hl _ q3)
    have := (Rd.v_eq hur).1
    subst this
    simp [yielded, q1, q2, hu]
  have hgvu : ∀ g b, o.guard = some (g, b) → guardUn ops lk g = true → yielded ops a.tmps g ≠ some b := by
    intro g b hgd hg
    obtain ⟨og, tg, q1, q2, q3⟩ := guardUn_ok hg
    have hl : tg ∈ o.looksAt ops := by
      unfold Oper.looksAt
      refine List.mem_append_right _ ?_
      rw [hgd]
      simp [q1, q2]
    obtain ⟨O, hOr, hO⟩ := hR.own
    obtain ⟨u, hu, hur⟩ := hO tg _ (hlk tg hl _ q3)
    have hur : u = undef := hur
    subst hur
    simp [yielded, q1, q2, hu, undef]
  rcases g4 with ⟨hgok, hps⟩ | ⟨g, b, hgd, hgn, rfl⟩
  · have hw : Region.wanted o (yielded ops a.tmps) = true := by
      unfold guardOk at hgok
      unfold Region.wanted
      split at hgok
      · rename_i hgd; simp [hgd]
      · rename_i g b hgd
        split at hgok
        · rename_i b' hb'
          have hbb : b' = b := by simpa using hgok
          subst hbb
          simp [hgd, hgv g b' ⟨_, hgd⟩ hb']
        · cases hgok
    rw [if_pos hw]
    refine .inl ?_
    have hps' : PStep P B F0 w0 d o (H.St2 listed).get (hmx (H.St2 listed) d) av := by
      refine hps.lift (hmx_self _ d) (fun t ht x hx => hlk t ?_ x hx) (fun t x hx hxh => ?_) (fun k hk x hxh hx => ?_)
      · unfold Oper.looksAt
        exact List.mem_append_left _ (List.mem_filterMap.2 ⟨.tmp t, by simpa using ht, rfl⟩)
      · obtain ⟨f1, f2⟩ := g2 t x hx
        have htd := (H.s0 t x f2).1
        have htd' : t ≠ d := fun e => htd (by rw [e]; exact h5)
        rw [hmx_ne htd', H.getA (H.unw_of h hj hlf f1) htd]
        exact f2
      · obtain ⟨hkd, hx'⟩ := hmx_some hx
        have hkds := refsOk_spec h6 hk
        have hkh : lateF lt j = true → k ∉ hs := fun hj0 => refsOk_spec (h7 hj0) hk
        rw [H.getA (H.unw_of h hj hlf hkh) hkds] at hx'
        exact g3 k x hx' hkh
    refine OpOk.of_pure hps' h4 a w hR K Q' (fun a' w' hR' => hK _ _ (hR'.ext ?_))
    refine hput _ (fun t ht => ?_) (get_put_same _ d av)
    rw [get_put_ne _ d av ht]
    split
    · rename_i hh
      cases hg : (H.St2 listed).get t with
      | none => rfl
      | some x =>
        simp only [Option.map_some]
        congr 1
        refine kill_id (fun hxr => ?_)
        by_cases hu : H.Unw listed t
        · by_cases hds : ∃ (i : Nat) (x : AV), tl[i]? = some (t, x)
          · obtain ⟨i, y, hi⟩ := hds
            rcases getD_cases listed i with hl | hl
            · rw [H.getB hu hi hl] at hg
              obtain ⟨oi, di, yi, _, _, f3, _, _, f6, _⟩ := H.step i (H.ds_of hi).2
              rw [hi] at f3
              simp at f3 hg
              obtain ⟨rfl, rfl⟩ := f3
              subst hg
              exact refsOk_spec f6 hxr h5
            · rw [H.getN hu hi hl] at hg
              cases hg
          · have htds : (entL listed 0 tl).get t = none := entL_none tl 0 (fun i e he _ hk => by
              obtain ⟨t', a⟩ := e
              simp only [] at hk
              subst hk
              exact hds ⟨i, a, he⟩)
            rw [H.getU hu, get_append] at hg
            have hg : St.get σ0 t = some x := by
              have e : St.get (entL listed 0 tl) t = none := htds
              rw [e] at hg
              exact hg
            exact refsOk_spec (H.s0 t x hg).2 hxr h5
        · have : ∃ k, hs[k]? = some t ∧ listed.getD (m + k) false = true := by
            apply Classical.byContradiction
            intro hn
            exact hu (fun k hk => by
              rcases getD_cases listed (m + k) with hw | hw
              · exact absurd ⟨k, hk, hw⟩ hn
              · exact hw)
          obtain ⟨k, hk, hw⟩ := this
          obtain ⟨cs, hwl, _⟩ := H.wls.2 k t hk
          rw [H.getW hwl hw] at hg
          simp at hg
          subst hg
          exact home_refs (H.wl_spec hwl).2 hxr
    · rfl
  · have hw : Region.wanted o (yielded ops a.tmps) = false := by
      unfold Region.wanted
      rcases hgn with ⟨b', hgval, hne⟩ | hgu
      · simp [hgd, hgv g b' ⟨_, hgd⟩ hgval]
        simpa using hne
      · simp [hgd]
        simpa using hgvu g b hgd hgu
    rw [if_neg (by rw [hw]; simp), h2]
    obtain ⟨O, hOr, hO⟩ := hR.own
    have hR' := hR.put (av := .un) hOr hO h4 (Grow.refl (fun b t hb => (hOr b t hb).2)) (v := undef) rfl
    refine hK _ _ (hR'.ext ?_)
    refine hput _ (fun t ht => ?_) (get_put_same _ d .un)
    rw [get_put_ne _ d .un ht]
    rfl
theorem put1 (hT : TOk P T) {listed : Array Bool} (h : H.Ok listed) {k : Nat} (hk : k < hs.length) (hr : m + k ∈ Region.ready .any ops listed) {a : Act} {w : World} (hR : Rel P B F0 w0 n (H.St2 listed) a w) (Q' : Exit → Act → World → Prop) (K : Act → World → Prop)
    (hK : ∀ a w, Rel P B F0 w0 n (H.St2 (listed.setIfInBounds (m + k) true)) a w → K a w) : wpOp P ops Q' (m + k) K a w := by
  obtain ⟨o, hm, h1, h2, hdst, hgd, _, h6, h7, _⟩ := storesB_spec H.stores hk
  obtain ⟨hun, o', ho', hall⟩ := mem_ready.1 hr
  rw [h1] at ho'
  simp at ho'
  subst ho'
  have hlf := getD_false_of hun
  have hks : m + k < listed.size := by rw [h.size]; have := H.size; omega
  obtain ⟨cs, hwl, o', ho', hst⟩ := H.wls.2 k hm h2
  rw [h1] at ho'
  simp at ho'
  subst ho'
  obtain ⟨t, p, x, q, y, xh, hop, hp, hq, hx, hg, hxh, hch, hre⟩ := hst.spec
  have hbx : ∀ k' h', hs[k']? = some h' → ∃ z, St.get (tl.reverse ++ σ0) h' = some z ∧ z.home = true := fun k' h' hk' => by
    obtain ⟨cs', _, o2, _, hst'⟩ := H.wls.2 k' h' hk'
    obtain ⟨_, _, _, _, _, z, _, _, _, _, hz, hzh, _⟩ := hst'.spec
    exact ⟨z, hz, hzh⟩
  have hlk : ∀ t', H.Unw listed t' → setB ops m o t' = true → ∀ z, St.get (tl.reverse ++ σ0) t' = some z → (H.St2 listed).get t' = some z := fun t' hu hsb z hz => by
    have hz' : St.get ((tl.take m).reverse ++ σ0) t' = some z := by rw [List.take_of_length_le (by rw [H.tlen]; exact Nat.le_refl _)]; exact hz
    rcases H.getτ (Nat.le_refl m) hz' with ⟨i, him, hti⟩ | ⟨hs0, htd⟩
    · obtain ⟨oi, di, avi, k1, k2, k3, _⟩ := H.step i him
      rw [hti] at k3
      simp at k3
      obtain ⟨rfl, rfl⟩ := k3
      obtain ⟨i', o2, q1, q2, q3, e, q4, q5, q6⟩ := setB_spec hsb him k1 k2
      obtain ⟨o3, d3, av3, p1, p2, p3, _⟩ := H.step i' q1
      rw [q2] at p1
      simp at p1
      subst p1
      rw [q3] at p2
      simp at p2
      subst p2
      have := H.dist i' i t' av3 z p3 hti
      subst this
      have hl := hall e q4 q5
      rw [q6] at hl
      exact H.getB hu hti hl
    · rw [H.getA hu htd]
      exact hs0
  have huh : H.Unw listed hm := fun k' hk' => by
    have := nodupN_spec H.nodup k' k hm hk' h2
    subst this
    exact hlf
  have hla : ∀ t', .tmp t' ∈ o.op.operands → t' ∈ o.looksAt ops := fun t' ht' => by
    unfold Oper.looksAt
    exact List.mem_append_left _ (List.mem_filterMap.2 ⟨.tmp t', by simpa using ht', rfl⟩)
  have hpe : ex T (H.St2 listed).get 0 p = ex T (St.get (tl.reverse ++ σ0)) 0 p := by
    refine D2.ex_congr (fun tp htp => ?_)
    subst htp
    cases hz : St.get (tl.reverse ++ σ0) tp with
    | none => simp [ex, hz] at hp
    | some z =>
      refine hlk tp (fun k' hk' => ?_) (h6 tp (hla tp (by rw [hop]; simp [Op.operands]))) z hz
      obtain ⟨z', hz', hzh⟩ := hbx k' tp hk'
      rw [hz] at hz'
      simp at hz'
      subst hz'
      cases z <;> simp [AV.home] at hzh <;> simp [ex, hz] at hp <;> subst hp
      · rcases hq with ⟨off, hq⟩ | ⟨i, off, hq⟩ <;> simp at hq
        rw [hq.1] at hk'
        exact huh k' hk'
      · rcases hq with ⟨off, hq⟩ | ⟨i, off, hq⟩ <;> simp at hq
      · rcases hq with ⟨off, hq⟩ | ⟨i, off, hq⟩ <;> simp at hq
  have hxe : ex T (H.St2 listed).get t x = ex T (St.get (tl.reverse ++ σ0)) t x := by
    refine D2.ex_congr (fun tx htx => ?_)
    subst htx
    cases hz : St.get (tl.reverse ++ σ0) tx with
    | none => simp [ex, hz, datF] at hx
    | some z =>
      refine hlk tx (fun k' hk' => ?_) (h6 tx (hla tx (by rw [hop]; simp [Op.operands]))) z hz
      obtain ⟨z', hz', hzh⟩ := hbx k' tx hk'
      rw [hz] at hz'
      simp at hz'
      subst hz'
      cases z <;> simp [AV.home] at hzh <;> simp [ex, hz, datF] at hx
  have hge := hlk hm huh h7 _ hg
  have hstS := hre (H.St2 listed) hpe hxe hge
  have hok : OpOk P B F0 w0 n o (H.St2 listed) ((hm, cs) :: H.St2 listed) := by
    cases hstS with
    | bx hs => exact storeF_ok hT hdst hs
    | el hx hold hok => exact OpOk.storeel hT hdst hx hold hok
  unfold wpOp
  simp only [h1]
  rw [if_pos (by simp [Region.wanted, hgd])]
  refine .inl (hok a w hR K Q' (fun a' w' hR' => hK _ _ (hR'.ext (fun t' => ?_))))
  rw [St.get_cons]
  by_cases ht : hm = t'
  · subst ht
    rw [if_pos rfl]
    exact H.getW hwl (by simp [hks])
  · rw [if_neg ht]
    have hne : ∀ k', hs[k']? = some t' → m + k ≠ m + k' := fun k' hk' e => by
      have : k = k' := by omega
      subst this
      rw [h2] at hk'
      simp at hk'
      exact ht hk'
    by_cases hu : H.Unw listed t'
    · have hu2 : H.Unw (listed.setIfInBounds (m + k) true) t' := fun k' hk' => by
        rw [getD_set_ne false (hne k' hk')]
        exact hu k' hk'
      by_cases hds : ∃ (i : Nat) (x : AV), tl[i]? = some (t', x)
      · obtain ⟨i, x, hti⟩ := hds
        have him := (H.ds_of hti).2
        rcases getD_cases listed i with hl | hl
        · rw [H.getB hu hti hl, H.getB hu2 hti (by rw [getD_set_ne false (by omega)]; exact hl)]
        · rw [H.getN hu hti hl, H.getN hu2 hti (by rw [getD_set_ne false (by omega)]; exact hl)]
      · have e0 : ∀ (listed : Array Bool), St.get (entL listed 0 tl) t' = none := fun listed => entL_none tl 0 (fun i e he _ hk => by
          obtain ⟨t2, a⟩ := e
          simp only [] at hk
          subst hk
          exact hds ⟨i, a, he⟩)
        rw [H.getU hu, H.getU hu2, get_append, get_append, e0, e0]
    · have : ∃ k', hs[k']? = some t' ∧ listed.getD (m + k') false = true := by
        apply Classical.byContradiction
        intro hn
        exact hu (fun k' hk' => by
          rcases getD_cases listed (m + k') with hw | hw
          · exact absurd ⟨k', hk', hw⟩ hn
          · exact hw)
      obtain ⟨k', hk', hw⟩ := this
      obtain ⟨cs', hwl', _⟩ := H.wls.2 k' t' hk'
      rw [H.getW hwl' hw, H.getW hwl' (by rw [getD_set_ne false (hne k' hk')]; exact hw)]
theorem all (hT : TOk P T) (htail : m + hs.length = ops.size ∨ (Region.sinkB .any ops (m + hs.length) = true ∧ Region.chainB .any ops (m + hs.length) = true))
    (hseq : Region.seqB .any ops (ops.size - (m + hs.length)) (m + hs.length) (Array.replicate (m + hs.length) true ++ Array.replicate (ops.size - (m + hs.length)) false) = true) {K : St → Prop}
    (hK : AOps P B F0 w0 n ops (ops.toList.drop (m + hs.length)) K (wl.reverse ++ (tl.reverse ++ σ0))) : ∀ (f : Nat) (listed : Array Bool) (a : Act) (w : World) (Q' : Exit → Act → World → Prop), HeadInv .any ops (m + hs.length) listed → un listed (m + hs.length) = f → Rel P B F0 w0 n (H.St2 listed) a w →
    (∀ a w σ', K σ' → Rel P B F0 w0 n σ' a w → Q' .normal a w) → wpAny P .any ops Q' (f + (ops.size - (m + hs.length))) listed a w := by
  have hsize := H.size
  intro f
  induction f with
  | zero =>
    intro listed a w Q' hinv hun hR hQ
    have hlist := un_zero (m + hs.length) hun
    have hlist' : ∀ j, j < m + hs.length → listed.getD j false = true := fun j hj => by
      have := hlist j hj
      have hs : j < listed.size := by rw [hinv.size]; omega
      simp [hs] at this ⊢
      exact this
    have heq : listed = Array.replicate (m + hs.length) true ++ Array.replicate (ops.size - (m + hs.length)) false := by
      apply Array.ext
      · rw [hinv.size]; simp; omega
      · intro i hi1 hi2
        rw [hinv.size] at hi1
        rw [Array.getElem_append]
        by_cases him : i < m + hs.length
        · have := hlist i him
          have hlt : i < listed.size := by rw [hinv.size]; exact hi1
          simp [hlt] at this
          simp [him, this]
        · have := hinv.tail i (by omega) hi1
          have hlt : i < listed.size := by rw [hinv.size]; exact hi1
          simp [hlt] at this
          simp [him, this]
    rw [Nat.zero_add]
    have hdl : (ops.toList.drop (m + hs.length)).length = ops.size - (m + hs.length) := by simp
    rw [← hdl]
    refine wpAny_of_seq (md := .any) (ops.toList.drop (m + hs.length)) (m + hs.length) listed a w (fun j => by simp [List.getElem?_drop]) (by rw [hdl, heq]; exact hseq) ?_
    refine hK a w (hR.ext (fun t => ?_)) Q' hQ
    rw [get_append]
    by_cases hw : ∃ (k : Nat) (x : AV), wl[k]? = some (t, x)
    · obtain ⟨k, x, hk⟩ := hw
      have hkl : k < hs.length := (List.getElem?_eq_some_iff.1 (H.wl_spec hk).1).1
      rw [get_rev_some (fun i j a b h1 h2 => H.wl_dist i j t a b h1 h2) hk]
      rw [H.getW hk (hlist' _ (by omega))]
    · have hu : H.Unw listed t := fun k hk => by
        obtain ⟨cs, hwl, _⟩ := H.wls.2 k t hk
        exact absurd ⟨k, _, hwl⟩ hw
      rw [get_rev_none (fun i a hi => hw ⟨i, a, hi⟩), get_append]
      by_cases hds : ∃ (i : Nat) (x : AV), tl[i]? = some (t, x)
      · obtain ⟨i, x, hti⟩ := hds
        have him := (H.ds_of hti).2
        rw [get_rev_some (fun i j a b h1 h2 => H.dist i j t a b h1 h2) hti]
        rw [H.getB hu hti (hlist' _ (by omega))]
      · rw [get_rev_none (fun i a hi => hds ⟨i, a, hi⟩)]
        rw [H.getU hu, get_append, entL_none tl 0 (fun i e he _ hk => by
          obtain ⟨t2, a⟩ := e
          simp only [] at hk
          subst hk
          exact hds ⟨i, a, he⟩)]
  | succ f ih =>
    intro listed a w Q' hinv hun hR hQ
    have h : H.Ok listed := ⟨hinv.size, hinv.closed⟩
    obtain ⟨j, hj, hju, hjl⟩ := un_pos (m + hs.length) (by omega : 0 < un listed (m + hs.length))
    have hless : ∀ i ∈ Region.ready .any ops listed, i < m + hs.length := fun i hi => by
      rcases htail with h | ⟨hs1, hc⟩
      · obtain ⟨_, o, ho, _⟩ := mem_ready.1 hi
        have := (Array.getElem?_eq_some_iff.1 ho).1
        omega
      · rcases Nat.lt_or_ge (m + hs.length) ops.size with hlt | hge
        · rcases Nat.lt_or_ge i (m + hs.length) with h | h
          · exact h
          · exact absurd hi (tail_waits hs1 hc hlt hinv _ j rfl hj hju i h)
        · obtain ⟨_, o, ho, _⟩ := mem_ready.1 hi
          have := (Array.getElem?_eq_some_iff.1 ho).1
          omega
    have hjr : j ∈ Region.ready .any ops listed := by
      have key : ∀ o, ops[j]? = some o → (∀ e ∈ o.after, Region.binds .any e = true → e.on < j) → j ∈ Region.ready .any ops listed := fun o ho hlt => by
        refine mem_ready.2 ⟨hju, o, ho, fun e he hb => ?_⟩
        have h1 := hlt e he hb
        have := hjl e.on h1
        have hsz : e.on < listed.size := by rw [hinv.size]; omega
        simp [hsz] at this ⊢
        exact this
      rcases Nat.lt_or_ge j m with hjm | hjm
      · obtain ⟨o, d, h1, h2, h3, _⟩ := headB_spec H.head hjm
        exact key o h1 h3
      · obtain ⟨o, _, h1, _, _, _, h5, _⟩ := storesB_spec H.stores (show j - m < hs.length by omega)
        rw [show m + (j - m) = j by omega] at h1 h5
        exact key o h1 h5
    rw [show f + 1 + (ops.size - (m + hs.length)) = (f + (ops.size - (m + hs.length))) + 1 by omega]
    refine ⟨fun h0 => (by rw [h0] at hjr; cases hjr), fun i hi => ?_⟩
    have hil := hless i hi
    have hrec : ∀ a' w', Rel P B F0 w0 n (H.St2 (listed.setIfInBounds i true)) a' w' → wpAny P .any ops Q' (f + (ops.size - (m + hs.length))) (listed.setIfInBounds i true) a' w' := fun a' w' hR' =>
      ih _ a' w' Q' (hinv.set hi hil) (by have := un_set (mem_ready.1 hi).1 (m + hs.length) hil; omega) hR' hQ
    rcases Nat.lt_or_ge i m with him | him
    · exact H.one h him hi hR Q' _ hrec
    · obtain ⟨k, rfl⟩ : ∃ k, i = m + k := ⟨i - m, by omega⟩
      exact H.put1 hT h (by omega) hi hR Q' _ hrec
end D2
def AMix (P : Program) (B : Nat) (F0 : Nat → Prop) (w0 : Bas) (n : Nat) (ops : Array Oper) (ds hs : List Nat) (σ0 : St) : List (Nat × Bool) → List Oper → St → (St → Prop) → Prop
  | [], [], τ, K => K τ
  | [], _ :: _, _, _ => False
  | (k, true) :: cs, l, τ, K => Nat.ble k l.length = true ∧ APre P B F0 w0 n ops ds σ0 (l.take k) τ (fun τ' => AMix P B F0 w0 n ops ds hs σ0 cs (l.drop k) τ' K)
  | (k, false) :: cs, l, τ, K => Nat.ble k l.length = true ∧ APre P B F0 w0 n ops (ds ++ hs) (σ0.wo hs) (l.take k) (τ.wo hs) (fun τ' => AMix P B F0 w0 n ops ds hs σ0 cs (l.drop k) (τ'.take k ++ τ) K)
theorem AMix.out {ds hs : List Nat} {σ0 : St} {K : St → Prop} : ∀ (cs : List (Nat × Bool)) (l : List Oper) (τ : St), AMix P B F0 w0 n ops ds hs σ0 cs l τ K →
    ∃ tl : List (Nat × AV), tl.length = l.length ∧ K (tl.reverse ++ τ) ∧ ∀ (j : Nat) (o : Oper), l[j]? = some o → ∃ d av, tl[j]? = some (d, av) ∧ o.dst = some d ∧ d < n ∧ refsOk ds av = true ∧ (lateF cs j = true → refsOk hs av = true) ∧
      ∃ lk hm : St, (∀ t av, ((lateF cs j = true → t ∉ hs) → lk.get t = some av → St.get ((tl.take j).reverse ++ τ) t = some av)) ∧ (∀ t av, hm.get t = some av → (lateF cs j = true → t ∉ hs) ∧ σ0.get t = some av) ∧
        (∀ t av, σ0.get t = some av → (lateF cs j = true → t ∉ hs) → hm.get t = some av) ∧ StepAt P B F0 w0 ops hm lk o d av
  | [], [], τ, h => ⟨[], rfl, h, fun j o hj => by simp at hj⟩
  | [], _ :: _, τ, h => h.elim
  | (k, true) :: cs, l, τ, h => by
    simp only [AMix] at h
    obtain ⟨hkl, h⟩ := h
    have hkl := Nat.le_of_ble_eq_true hkl
    obtain ⟨t1, h1, h2, h3⟩ := APre.out _ _ h
    obtain ⟨t2, g1, g2, g3⟩ := AMix.out cs _ _ h2
    have hl : t1.length + t2.length = l.length := by rw [h1, g1]; simp; omega
    refine ⟨t1 ++ t2, by simpa using hl, by simpa using g2, fun j o hj => ?_⟩
    have hjl := (List.getElem?_eq_some_iff.1 hj).1
    rcases Nat.lt_or_ge j t1.length with hjk | hjk
    · have hjk' : j < k := by rw [h1] at hjk; simp at hjk; omega
      have hlt : lateF ((k, true) :: cs) j = false := by
        have e : Nat.blt j k = true := by simp [Nat.blt]; omega
        simp only [lateF, e]; rfl
      obtain ⟨d, av, e1, e2, e3, e4, e5⟩ := h3 j o (by rw [List.getElem?_take, if_pos hjk']; exact hj)
      refine ⟨d, av, by rw [List.getElem?_append_left hjk]; exact e1, e2, e3, e4, fun hx => (by rw [hlt] at hx; cases hx), (t1.take j).reverse ++ τ, σ0, fun t av _ hg => by rw [List.take_append_of_le_length (by omega)]; exact hg, fun t av hg => ⟨fun hx => (by rw [hlt] at hx; cases hx), hg⟩, fun t av hg _ => hg, e5⟩
    · have hk : t1.length = k := by rw [h1]; simp; rw [h1] at hjk; simp at hjk; omega
      obtain ⟨j', rfl⟩ : ∃ j', j = k + j' := ⟨j - k, by omega⟩
      have hlt : lateF ((k, true) :: cs) (k + j') = lateF cs j' := by
        have e : Nat.blt (k + j') k = false := by
          cases hb : Nat.blt (k + j') k with
          | false => rfl
          | true => have : k + j' + 1 ≤ k := by simpa [Nat.blt] using hb
                    omega
        simp only [lateF, e, Nat.add_sub_cancel_left]
      obtain ⟨d, av, e1, e2, e3, e4, e5, lk, hm, q1, q2, q3, q4⟩ := g3 j' o (by rw [List.getElem?_drop]; exact hj)
      rw [hlt]
      refine ⟨d, av, by rw [List.getElem?_append_right (by omega), hk, Nat.add_sub_cancel_left]; exact e1, e2, e3, e4, e5, lk, hm, fun t av hn hg => ?_, q2, q3, q4⟩
      have := q1 t av hn hg
      rw [List.take_append, List.take_of_length_le (by omega), hk, Nat.add_sub_cancel_left, List.reverse_append, List.append_assoc]
      exact this
  | (k, false) :: cs, l, τ, h => by
    simp only [AMix] at h
    obtain ⟨hkl, h⟩ := h
    have hkl := Nat.le_of_ble_eq_true hkl
    obtain ⟨t1, h1, h2, h3⟩ := APre.out _ _ h
    have hk : t1.length = k := by rw [h1]; simp; omega
    have htake : (t1.reverse ++ St.wo hs τ).take k = t1.reverse := by
      rw [List.take_append_of_le_length (by simp; omega), List.take_of_length_le (by simp; omega)]
    rw [htake] at h2
    obtain ⟨t2, g1, g2, g3⟩ := AMix.out cs _ _ h2
    have hl : t1.length + t2.length = l.length := by rw [g1]; simp; omega
    refine ⟨t1 ++ t2, by simpa using hl, by simpa using g2, fun j o hj => ?_⟩
    have hjl := (List.getElem?_eq_some_iff.1 hj).1
    rcases Nat.lt_or_ge j k with hjk | hjk
    · have hlt : lateF ((k, false) :: cs) j = true := by
        have e : Nat.blt j k = true := by simp [Nat.blt]; omega
        simp only [lateF, e]; rfl
      obtain ⟨d, av, e1, e2, e3, e4, e5⟩ := h3 j o (by rw [List.getElem?_take, if_pos hjk]; exact hj)
      have hr2 : refsOk ds av = true ∧ refsOk hs av = true := by
        unfold refsOk at e4 ⊢
        split at e4
        · rename_i q hq
          have hq' : q ∉ ds ++ hs := fun e => by rw [memN_iff.2 e] at e4; cases e4
          have e1 : memN q ds = false := by cases hb : memN q ds with
            | false => rfl
            | true => exact absurd (List.mem_append_left _ (memN_iff.1 hb)) hq'
          have e2 : memN q hs = false := by cases hb : memN q hs with
            | false => rfl
            | true => exact absurd (List.mem_append_right _ (memN_iff.1 hb)) hq'
          simp [e1, e2]
        · exact ⟨rfl, rfl⟩
      rw [hlt]
      refine ⟨d, av, by rw [List.getElem?_append_left (by omega)]; exact e1, e2, e3, hr2.1, fun _ => hr2.2, (t1.take j).reverse ++ St.wo hs τ, σ0.wo hs, fun t av _ hg => ?_, fun t av hg => ⟨fun _ => (wo_some hg).1, (wo_some hg).2⟩, fun t av hg hn => by rw [get_wo, if_neg (hn rfl)]; exact hg, e5⟩
      rw [List.take_append_of_le_length (by omega)]
      rw [get_append] at hg ⊢
      split at hg
      · exact hg
      · exact (wo_some hg).2
    · obtain ⟨j', rfl⟩ : ∃ j', j = k + j' := ⟨j - k, by omega⟩
      have hlt : lateF ((k, false) :: cs) (k + j') = lateF cs j' := by
        have e : Nat.blt (k + j') k = false := by
          cases hb : Nat.blt (k + j') k with
          | false => rfl
          | true => have : k + j' + 1 ≤ k := by simpa [Nat.blt] using hb
                    omega
        simp only [lateF, e, Nat.add_sub_cancel_left]
      obtain ⟨d, av, e1, e2, e3, e4, e5, lk, hm, q1, q2, q3, q4⟩ := g3 j' o (by rw [List.getElem?_drop]; exact hj)
      rw [hlt]
      refine ⟨d, av, by rw [List.getElem?_append_right (by omega), hk, Nat.add_sub_cancel_left]; exact e1, e2, e3, e4, e5, lk, hm, fun t av hn hg => ?_, q2, q3, q4⟩
      have := q1 t av hn hg
      rw [List.take_append, List.take_of_length_le (by omega), hk, Nat.add_sub_cancel_left, List.reverse_append, List.append_assoc]
      exact this
theorem AAny.draw3 (hT : TOk P T) {Q : Exit → St → Prop} (cs : List (Nat × Bool)) (m : Nat) (hs : List Nat) (hB : draw3B ops cs m hs = true)
    (h : AMix P B F0 w0 n ops (heads ops m) hs (σ.less (heads ops m)) cs (ops.toList.take m) (σ.less (heads ops m)) (fun τ =>
      ∃ wl, StL T τ hs ((ops.toList.drop m).take hs.length) wl ∧ AOps P B F0 w0 n ops (ops.toList.drop (m + hs.length)) (Q .normal) (wl.reverse ++ τ))) : AAny P B F0 w0 n ops Q σ := by
  intro a w hR
  simp only [draw3B, Bool.and_eq_true, decide_eq_true_eq, Bool.or_eq_true] at hB
  obtain ⟨⟨⟨⟨⟨⟨hsize, hhead⟩, hstores⟩, hnodup⟩, hlooks⟩, htail⟩, hseq⟩ := hB
  have hR0 := (hR.less (heads ops m)).drew
  generalize hds : heads ops m = ds at h hR0
  generalize hσ0 : σ.less ds = σ0 at h hR0
  have hs0ds : ∀ t av, σ0.get t = some av → t ∉ ds ∧ refsOk ds av = true := fun t av hg => by
    rw [← hσ0, get_less] at hg
    split at hg <;> try (cases hg; done)
    rename_i htd
    refine ⟨htd, ?_⟩
    cases hs : σ.get t with
    | none => simp [hs] at hg
    | some y =>
      simp only [hs, Option.map_some, Option.some.injEq] at hg
      subst hg
      unfold AV.killL
      cases hr : refsOk ds y with
      | true => exact hr
      | false => rfl
  obtain ⟨tl, htl, ⟨wl, hwl, hQ⟩, hst⟩ := AMix.out _ _ _ h
  obtain ⟨hw1, _, hw3⟩ := hwl.spec
  have hop : ∀ j, j < m → (ops.toList.take m)[j]? = ops[j]? := fun j hj => by simp [List.getElem?_take, hj]
  have hstep : ∀ j, j < m → ∃ o d av, ops[j]? = some o ∧ o.dst = some d ∧ tl[j]? = some (d, av) ∧ d < n ∧ d ∈ ds ∧ refsOk ds av = true ∧ (lateF cs j = true → refsOk hs av = true) ∧
    ∃ lk hm : St, (∀ t av, t ∈ o.looksAt ops → lk.get t = some av → (lateF cs j = true → t ∉ hs) ∧ St.get ((tl.take j).reverse ++ σ0) t = some av) ∧ (∀ t av, hm.get t = some av → (lateF cs j = true → t ∉ hs) ∧ σ0.get t = some av) ∧
      (∀ t av, σ0.get t = some av → (lateF cs j = true → t ∉ hs) → hm.get t = some av) ∧ StepAt P B F0 w0 ops hm lk o d av := fun j hj => by
    obtain ⟨o, d, h1, h2, _⟩ := headB_spec hhead hj
    obtain ⟨d', av, g1, g2, g3, g4, g5, lk, hm, q1, q2, q3, q4⟩ := hst j o (by rw [hop j hj]; exact h1)
    rw [h2] at g2
    simp at g2
    subst g2
    refine ⟨o, d, av, h1, h2, g1, g3, ?_, g4, g5, lk, hm, fun t av ht hg => ?_, q2, q3, q4⟩
    · rw [← hds]
      exact List.mem_filterMap.2 ⟨o, List.mem_of_getElem? ((hop j hj).trans h1), h2⟩
    · have hn : lateF cs j = true → t ∉ hs := fun hl => looksB_spec hlooks hj hl h1 t ht
      exact ⟨hn, q1 t av hn hg⟩
  have hdist : ∀ (i j t : Nat) (a b : AV), tl[i]? = some (t, a) → tl[j]? = some (t, b) → i = j := fun i j t a b h1 h2 => by
    have hi : i < m := by have := (List.getElem?_eq_some_iff.1 h1).1; rw [htl] at this; simp at this; omega
    have hj : j < m := by have := (List.getElem?_eq_some_iff.1 h2).1; rw [htl] at this; simp at this; omega
    by_cases hij : i = j
    · exact hij
    · exfalso
      obtain ⟨o, d, av1, g1, g2, g3, _⟩ := hstep j hj
      obtain ⟨o', d', av2, f1, f2, f3, _⟩ := hstep i hi
      obtain ⟨o2, d2, e1, e2, _, _, e3, _⟩ := headB_spec hhead hj
      rw [g1] at e1
      simp at e1
      subst e1
      have := e3 i o' hi hij f1
      rw [f2, g2] at this
      rw [h1] at f3
      rw [h2] at g3
      simp at f3 g3
      exact this (by rw [← f3.1, ← g3.1])
  have H : D2 P T B F0 w0 n ops cs m hs ds σ0 tl wl := ⟨hsize, hhead, hstores, hnodup, hs0ds, hstep, by rw [htl]; simp; omega, hdist, hw1, fun k hm hk => by
    have hkl := (List.getElem?_eq_some_iff.1 hk).1
    obtain ⟨o, _, h1, _⟩ := storesB_spec hstores hkl
    obtain ⟨av, k1, k2⟩ := hw3 k o hm (by rw [List.getElem?_take, if_pos hkl, List.getElem?_drop]; simpa using h1) hk
    exact ⟨av, k1, o, h1, k2⟩⟩
  have hu0 : un (Array.replicate ops.size false) (m + hs.length) = m + hs.length := by
    have : ∀ k, k ≤ m + hs.length → un (Array.replicate ops.size false) k = k := fun k hk => by
      induction k with
      | zero => rfl
      | succ k ih =>
        have hlt : k < ops.size := by omega
        simp [un, ih (by omega), hlt]
    exact this _ (Nat.le_refl _)
  have hinv0 : HeadInv .any ops (m + hs.length) (Array.replicate ops.size false) :=
    ⟨by simp, fun j oj _ hl => (by rw [getD_replicate_false] at hl; cases hl), fun t _ ht => getD_in (by simpa using ht) (getD_replicate_false _ _)⟩
  have := D2.all H hT htail hseq hQ (m + hs.length) (Array.replicate ops.size false) a { w with drawn := w.drawn + 1 } (fun e a' w' => ∃ σ', Q e σ' ∧ Rel P B F0 w0 n σ' a' w') hinv0 hu0 (hR0.ext (fun t => ?_)) (fun a w σ' hk hr => ⟨σ', hk, hr⟩)
  · rw [show m + hs.length + (ops.size - (m + hs.length)) = ops.size by omega] at this
    exact this
  · have e1 : ∀ (l : List (Nat × AV)) (k : Nat), entL (Array.replicate ops.size false) k l = [] := fun l => by
      induction l with
      | nil => intro k; rfl
      | cons e r ih => intro k; simp only [entL, getD_replicate_false]; exact ih (k + 1)
    unfold D2.St2
    rw [e1, e1]
    rfl
theorem AW.draw3 (hT : TOk P T) {Q : Exit → St → Prop} {id : Nat} (hmx : P.follows .mixedOrders = true) (cs : List (Nat × Bool)) (m : Nat) (hs : List Nat) (hB : draw3B ops cs m hs = true)
    (h : AMix P B F0 w0 n ops (heads ops m) hs (σ.less (heads ops m)) cs (ops.toList.take m) (σ.less (heads ops m)) (fun τ =>
      ∃ wl, StL T τ hs ((ops.toList.drop m).take hs.length) wl ∧ AOps P B F0 w0 n ops (ops.toList.drop (m + hs.length)) (Q .normal) (wl.reverse ++ τ))) : AW P B F0 w0 n (.region id ops true) Q σ := AW.any hmx (AAny.draw3 hT cs m hs hB h)
end
end Lift
namespace Lift
open Go
section
variable {P : Program} {T : Ty} {B : Nat} {F0 : Nat → Prop} {w0 : Bas} {n : Nat} {σ : St} {K : St → Prop} {Q : Exit → St → Prop} {all : Array Oper} {l : List Oper} {c : Code}
def St.rehome (t s : Nat) (av : AV) (σ : St) : St := (s, av) :: (t, .al s) :: St.kill s (σ.kill t)
theorem Rel.rehome {t s : Nat} {av : AV} {a : Act} {w : World} (hR : Rel P B F0 w0 n σ a w) (ht : σ.get t = some av) (hrow : av.row.isSome = true) (hs : σ.get s = some (.al t)) (hne : t ≠ s) : Rel P B F0 w0 n (σ.rehome t s av) a w := by
  obtain ⟨O, hOr, hO⟩ := hR.own
  obtain ⟨v, hv, hr⟩ := hO t av ht
  obtain ⟨u, hu, hur⟩ := hO s _ hs
  have hvu : v = u := by
    have := hur av ht hrow
    simp only [hv] at this
    exact Option.some.inj this
  subst hvu
  have hF : ∀ c, Free O (FW B F0 w) c → Free (swO O t s) (FW B F0 w) c := fun c hc => ⟨swO_none.2 hc.1, hc.2⟩
  have hcell : ∀ {l : List D} {cs : Array Value}, (∀ (i : Nat) (d : D), (flatAll l)[i]? = some d → d.isCell = true ∧ ∃ u, cs[i]? = some u ∧ Rd w (Free O (FW B F0 w)) d u) →
      ∀ (i : Nat) (d : D), (flatAll l)[i]? = some d → d.isCell = true ∧ ∃ u, cs[i]? = some u ∧ Rd w (Free (swO O t s) (FW B F0 w)) d u := fun h8 i dd hdd => ⟨(h8 i dd hdd).1, let ⟨z, hz, hzr⟩ := (h8 i dd hdd).2; ⟨z, hz, hzr.mono hF (fun _ _ => rfl)⟩⟩
  refine ⟨hR.below, hR.base, hR.f0, hR.defers, hR.size, swO O t s, swO_lt hOr, fun k x hk => ?_⟩
  unfold St.rehome at hk
  rw [St.get_cons2] at hk
  split at hk
  · rename_i hks
    subst hks
    simp at hk
    subst hk
    refine ⟨v, hu, ?_⟩
    cases av <;> simp [AV.row] at hrow
    · rcases hr with hr | ⟨b, cap, cs, h1, h2, h3, h4, h5, h6, h7, h8⟩
      · exact .inl hr
      · exact .inr ⟨b, cap, cs, h1, by simp [swO, h2], h3, h4, h5, h6, h7, hcell h8⟩
    · rcases hr with hr | ⟨b, o, cap, cs, hq, h1, h0, h2, h3, h4, h5, h6, h7, h8⟩
      · exact .inl hr
      · exact .inr ⟨b, o, cap, cs, hq, h1, h0, by simp [swO, h2], h3, h4, h5, h6, h7, hcell h8⟩
  · rename_i hks
    split at hk
    · rename_i hkt
      subst hkt
      simp at hk
      subst hk
      exact ⟨v, hv, fun _ _ _ => hu⟩
    · rename_i hkt
      rw [St.get_kill, St.get_kill] at hk
      cases hg : σ.get k with
      | none => simp [hg] at hk
      | some y =>
        simp only [hg, Option.map_some, Option.some.injEq] at hk
        subst hk
        obtain ⟨z, hz, hzr⟩ := hO k y hg
        refine ⟨z, hz, ?_⟩
        rcases AV.kill_or t y with ⟨h1, h2⟩ | h1
        · rw [h1]
          rcases AV.kill_or s y with ⟨h3, h4⟩ | h3
          · rw [h3]
            refine hzr.move (fun c hc => ⟨hF c hc, rfl⟩) (fun _ c hc => ⟨swO_other hc (Ne.symm hkt) (Ne.symm hks), rfl⟩) (fun j hj x hx hg' => ?_)
            have hjt : j ≠ t := fun e => h2 (e ▸ hj)
            have hjs : j ≠ s := fun e => h4 (e ▸ hj)
            unfold St.rehome at hg'
            rw [St.get_cons2, if_neg (Ne.symm hjs), if_neg (Ne.symm hjt), St.get_kill, St.get_kill] at hg'
            cases hgj : σ.get j with
            | none => simp [hgj] at hg'
            | some y' =>
              simp only [hgj, Option.map_some, Option.some.injEq] at hg'
              subst hg'
              have e1 := kill_home' hx
              rw [e1] at hx ⊢
              rw [kill_home' hx]
              exact ⟨rfl, rfl⟩
          · rw [h3]; trivial
        · rw [h1, show AV.kill s .junk = .junk from rfl]; trivial
theorem AOps.rehome (t s : Nat) {av : AV} (ht : σ.get t = some av) (hrow : av.row.isSome = true) (hs : σ.get s = some (.al t)) (hne : Nat.beq t s = false) (h : AOps P B F0 w0 n all l K (σ.rehome t s av)) : AOps P B F0 w0 n all l K σ :=
  fun a w hR => h a w (hR.rehome ht hrow hs (Nat.ne_of_beq_eq_false hne))
theorem AVR.retag {X : Nat → Prop} {w : World} {O : Nat → Option Nat} {F : Nat → Prop} {hm hm' : Nat → Option AV} {tm : Nat → Option Value} {t : Nat} {av : AV} {v : Value} (ha : AVR P X w O F hm tm t av v)
    (hr : ∀ k, av.refs = some k → (∀ ds, hm' k = some (.bx ds) → ∃ ds', hm k = some (.bx ds')) ∧ (∀ x e l, hm' k = some x → x.row = some (e, l) → ∃ y l', hm k = some y ∧ y.row = some (e, l') ∧ l'.length = l.length ∧ y.tag = x.tag)) : AVR P X w O F hm' tm t av v := by
  cases av with
  | pt k off =>
    intro ds hds
    obtain ⟨ds', e2⟩ := (hr k rfl).1 ds hds
    exact ha ds' e2
  | al k =>
    intro x hx hrow
    cases hrw : x.row with
    | none => rw [hrw] at hrow; cases hrow
    | some p =>
      obtain ⟨y, l', e2, e3, _, _⟩ := (hr k rfl).2 x p.1 p.2 hx hrw
      exact ha y e2 (by rw [e3]; rfl)
  | el k i off =>
    intro x e l hx hrow
    obtain ⟨y, l', e2, e3, e4, e5⟩ := (hr k rfl).2 x e l hx hrow
    obtain ⟨h0, h1⟩ := ha y e l' e2 e3
    exact ⟨by omega, h1⟩
  | sb k lo m =>
    intro x e l hx hrow
    obtain ⟨y, l', e2, e3, e4, e5⟩ := (hr k rfl).2 x e l hx hrow
    have := ha y e l' e2 e3
    rw [e4, e5] at this
    exact this
  | _ => exact ha
theorem Rel.towin {t e : Nat} {xs : List D} {a : Act} {w : World} (hR : Rel P B F0 w0 n σ a w) (ht : σ.get t = some (.ow e xs)) : Rel P B F0 w0 n ((t, .wn false e xs 0 xs.length) :: σ) a w := by
  obtain ⟨O, hOr, hO⟩ := hR.own
  refine ⟨hR.below, hR.base, hR.f0, hR.defers, hR.size, O, hOr, fun k x hk => ?_⟩
  have key : ∀ j, (∀ ds, St.get ((t, AV.wn false e xs 0 xs.length) :: σ) j = some (.bx ds) → ∃ ds', σ.get j = some (.bx ds')) ∧ (∀ x e' l, St.get ((t, AV.wn false e xs 0 xs.length) :: σ) j = some x → x.row = some (e', l) → ∃ y l', σ.get j = some y ∧ y.row = some (e', l') ∧ l'.length = l.length ∧ y.tag = x.tag) := fun j => by
    by_cases hj : t = j
    · subst hj
      refine ⟨fun ds hds => ?_, fun x e' l hx hrow => ?_⟩
      · rw [St.get_cons, if_pos rfl] at hds
        cases hds
      · rw [St.get_cons, if_pos rfl] at hx
        simp at hx
        subst hx
        simp [AV.row] at hrow
        obtain ⟨rfl, rfl⟩ := hrow
        exact ⟨_, xs, ht, rfl, rfl, rfl⟩
    · rw [St.get_cons, if_neg hj]
      exact ⟨fun ds hds => ⟨ds, hds⟩, fun x e' l hx hrow => ⟨x, l, hx, hrow, rfl, rfl⟩⟩
  rw [St.get_cons] at hk
  split at hk
  · rename_i htk
    subst htk
    simp at hk
    subst hk
    obtain ⟨v, hv, hr⟩ := hO t _ ht
    refine ⟨v, hv, ?_⟩
    exact ow_wn hr
  · obtain ⟨v, hv, hr⟩ := hO k x hk
    exact ⟨v, hv, hr.retag (fun j _ => key j)⟩
theorem AOps.towin (t : Nat) {e : Nat} {xs : List D} (ht : σ.get t = some (.ow e xs)) (h : AOps P B F0 w0 n all l K ((t, .wn false e xs 0 xs.length) :: σ)) : AOps P B F0 w0 n all l K σ := fun a w hR => h a w (hR.towin ht)
theorem AW.towin (t : Nat) {e : Nat} {xs : List D} (ht : σ.get t = some (.ow e xs)) (h : AW P B F0 w0 n c Q ((t, .wn false e xs 0 xs.length) :: σ)) : AW P B F0 w0 n c Q σ := fun a w hR => h a w (hR.towin ht)
end
end Lift
namespace Lift
open Go
open Go.RowKit (Below)
section
variable {P : Program} {T : Ty} {B B1 : Nat} {F0 F1 : Nat → Prop} {w0 w1 : Bas} {n : Nat}
def AllP (p : Nat → AV → Prop) : St → Prop
  | [] => True
  | (k, a) :: r => p k a ∧ AllP p r
theorem AllP.get {p : Nat → AV → Prop} : ∀ {σ : St}, AllP p σ → ∀ (t : Nat) (av : AV), σ.get t = some av → p t av
  | [], _, t, av, h => by cases h
  | (k, a) :: r, hp, t, av, h => by
    rw [St.get_cons] at h
    split at h
    · rename_i e; cases h; subst e; exact hp.1
    · exact AllP.get hp.2 t av h
theorem BelY.back {w : World} (h0 : BelY B w0 w0.w w1.w) (hB : B ≤ B1) (hX : ∀ b, w1.X b → B ≤ b ∨ w0.X b) (h : BelY B1 w1 w1.w w) : BelY B w0 w0.w w :=
  ⟨h.os.trans h0.os, h.tape.trans h0.tape, h.output.trans h0.output, Nat.le_trans h0.size h.size, fun k hk hx => (h.block k (by omega) (fun h' => by
    rcases hX k h' with g | g
    · omega
    · exact hx g)).trans (h0.block k hk hx), fun k cs e fz hk => by
    obtain ⟨c1, g1, g2⟩ := h0.same k cs e fz hk
    obtain ⟨c2, g3, g4⟩ := h.same k c1 e fz g1
    exact ⟨c2, g3, g4.trans g2⟩⟩
theorem FW.back {w : World} (hB : B ≤ B1) (hs : w1.w.heap.size ≤ w.heap.size) (hF : ∀ b, F1 b → FW B F0 w1.w b) (b : Nat) (h : FW B1 F1 w b) : FW B F0 w b := by
  rcases h with h | ⟨h1, h2⟩
  · rcases hF b h with g | ⟨g1, g2⟩
    · exact .inl g
    · exact .inr ⟨g1, by omega⟩
  · exact .inr ⟨by omega, h2⟩
theorem Rel.back {σ : St} {a : Act} {w : World} (h0 : BelY B w0 w0.w w1.w) (f0 : F0ok B F0 w0) (hB : B ≤ B1) (hF : ∀ b, F1 b → FW B F0 w1.w b) (hX : ∀ b, w1.X b → B ≤ b ∨ w0.X b)
    (ht : ∀ t av, σ.get t = some av → av.tag = false) (h : Rel P B1 F1 w1 n σ a w) : Rel P B F0 w0 n σ a w := by
  obtain ⟨O, hOr, hO⟩ := h.own
  have hFW := FW.back (F0 := F0) hB h.below.size hF
  refine ⟨h0.back hB hX h.below, Nat.le_trans hB h.base, f0, h.defers, h.size, O, fun b t hb => ⟨?_, (hOr b t hb).2⟩, fun t av hav => ?_⟩
  · rcases (hOr b t hb).1 with g | g
    · exact .inl (by omega)
    · exact hX b g
  · obtain ⟨v, hv, hr⟩ := hO t av hav
    refine ⟨v, hv, ?_⟩
    have hr' : AVR P w1.X w O (FW B F0 w) σ.get (fun h => a.tmps[h]?) t av v :=
      hr.mono (fun b hb => ⟨(FW.step h.f0 h.base (Nat.le_refl _) b hb).1, hFW b hb⟩) (fun _ _ => rfl) (fun b u hb => (hOr b u hb).2) (fun _ _ => rfl) (fun k _ x _ hk => ⟨hk, rfl⟩)
    have htag := ht t av hav
    cases av with
    | wn q e l lo m =>
      simp only [AV.tag] at htag
      subst htag
      rcases hr' with g | ⟨b, o, cap, cs, _, g⟩
      · exact .inl g
      · exact .inr ⟨b, o, cap, cs, (fun h => by cases h), g⟩
    | _ => exact hr'
theorem AW.step {σ : St} {x y : Code} {a : Act} {w : World} {Q : Exit → Act → World → Prop} (ks : List Nat) (τ : St) (hR : Rel P B F0 w0 n σ a w) (hx : AW P B F0 w0 n x (fun e σ' => e = .normal ∧ σ'.keep ks = τ) σ)
    (hy : ∀ a w, Rel P B F0 w0 n τ a w → y.wp P Q a w) : (x.seq y).wp P Q a w :=
  wp_seq (wp_mono (hx a w hR) fun e a' w' ⟨σ', ⟨he, hk⟩, hR'⟩ => by subst he; exact hy a' w' (hk ▸ hR'.keep ks))
def partQ (P : Program) (all : Array Oper) (l : List Oper) (Q : Exit → Act → World → Prop) : Exit → Act → World → Prop
  | .normal, a, w => wpList P all Q l a w
  | .exit i, a, w => Q (.exit i) a w
  | .goto i, a, w => Q (.goto i) a w
  | .ret, a, w => Q .ret a w
  | .panic c, a, w => Q (.panic c) a w
  | .outgrown, a, w => Q .outgrown a w
theorem upon_congr {o : Oper} {a : Act} {next : Act → World → Prop} {Q Q' : Exit → Act → World → Prop} (hp : ∀ c a w, Q (.panic c) a w ↔ Q' (.panic c) a w) (ho : LetsOut Q ↔ LetsOut Q')
    {r : Result Next} (h : o.upon P a next Q r) : o.upon P a next Q' r := by
  cases r with
  | ok n w' =>
    cases n <;> simp only [Oper.upon] at h ⊢ <;>
      first
        | exact h
        | exact Calls.mono h (fun e w'' he => by cases e <;> first | exact he | exact (hp _ _ _).1 he | exact ho.1 he)
  | halt x w' => cases x <;> simp only [Oper.upon] at h ⊢ <;> exact (hp _ _ _).1 h
theorem wpList_append {all : Array Oper} {Q : Exit → Act → World → Prop} (l2 : List Oper) : ∀ (l1 : List Oper) (a : Act) (w : World), wpList P all (partQ P all l2 Q) l1 a w → wpList P all Q (l1 ++ l2) a w
  | [], a, w, h => h
  | o :: l1, a, w, h => by
    rw [List.cons_append]
    unfold wpList at h ⊢
    split at h
    · rw [if_pos (by assumption)]
      rcases h with h | h
      · refine .inl ?_
        have h1 := Oper.wp_mono (K' := wpList P all Q (l1 ++ l2)) (fun a w => wpList_append l2 l1 a w) h
        exact upon_congr (fun c a w => Iff.rfl) Iff.rfl h1
      · exact .inr h
    · rw [if_neg (by assumption)]
      exact wpList_append l2 l1 _ _ h
theorem AOps.part {σ : St} {all : Array Oper} {a : Act} {w : World} {Q : Exit → Act → World → Prop} (ks : List Nat) (τ : St) (l1 l2 : List Oper) (hR : Rel P B F0 w0 n σ a w) (hx : AOps P B F0 w0 n all l1 (fun σ' => σ'.keep ks = τ) σ)
    (hy : ∀ a w, Rel P B F0 w0 n τ a w → wpList P all Q l2 a w) : wpList P all Q (l1 ++ l2) a w :=
  wpList_append l2 l1 a w (hx a w hR _ fun a' w' σ' hk hR' => hy a' w' (hk ▸ hR'.keep ks))
end
end Lift
namespace Lift
open Go
section
variable {H : Type} {enc : TypeId × Value → H} {P : Program}
def Wt {H : Type} (P : Program) (t : TypeId) (d : DataW H) : Prop := ∀ n, n ∈ d.weights P t → n ≤ reachBytes
theorem mem_weightsAll {H : Type} {P : Program} {e : TypeId} {d : DataW H} {n : Nat} (hn : n ∈ d.weights P e) : ∀ {l : List (DataW H)}, d ∈ l → n ∈ DataW.weightsAll P e l
  | x :: l, h => by
    rw [DataW.weightsAll]
    rcases List.mem_cons.1 h with rfl | h
    · exact List.mem_append_left _ hn
    · exact List.mem_append_right _ (mem_weightsAll hn h)
def RT (P : Program) (t : TypeId) (α : Type) (cells : α → List D) (ok : α → Prop) : Prop :=
  (∀ v, (cells v).length = P.cellsOf t ∧ ∀ d ∈ cells v, d.isCell = true) ∧
  ∀ (H : Type) (enc : TypeId × Value → H) (w : World) (fuel : Nat) (cs : List Value) (x : DataW H × List MemPlace), DataW.trod enc P w 0 (fun _ => true) true fuel t cs = some x → Wt P t x.1 →
    ∃ v, ok v ∧ RdL w (fun b => b < w.heap.size) (cells v) cs
def RTF (P : Program) (m : Nat) (fs : List Field) (off : Nat) (α : Type) (cells : α → List D) (ok : α → Prop) : Prop :=
  (∀ v, ∀ d ∈ cells v, d.isCell = true) ∧
  ∀ (H : Type) (enc : TypeId × Value → H) (w : World) (n : Nat) (cs : List Value) (xs : List (DataW H × List MemPlace)), cs.length = m → xs.length = fs.length →
    (∀ (i : Nat) (f : Field), fs[i]? = some f → DataW.trod enc P w 0 (fun _ => true) true n f.type ((cs.drop f.offset).take (P.cellsOf f.type)) = xs[i]?) →
    (∀ n, n ∈ DataW.weightsEach P (fs.map (·.type)) (xs.map (·.1)) → n ≤ reachBytes) → ∃ v, ok v ∧ RdL w (fun b => b < w.heap.size) (cells v) (cs.drop off)
theorem RdL.one {w : World} {F : Nat → Prop} {d : D} {v : Value} (hc : d.isCell = true) (h : Rd w F d v) : RdL w F [d] [v] :=
  ⟨rfl, fun i e u h1 h2 => by cases i <;> simp at h1 h2; subst h1; subst h2; exact ⟨hc, h⟩⟩
theorem RdL.append {w : World} {F : Nat → Prop} {ds es : List D} {vs us : List Value} (h : RdL w F ds vs) (k : RdL w F es us) : RdL w F (ds ++ es) (vs ++ us) := by
  refine ⟨by simp [h.1, k.1], fun i d u h1 h2 => ?_⟩
  rcases Nat.lt_or_ge i ds.length with hi | hi
  · rw [List.getElem?_append_left hi] at h1
    rw [List.getElem?_append_left (by rw [h.1]; exact hi)] at h2
    exact h.2 i d u h1 h2
  · rw [List.getElem?_append_right hi] at h1
    rw [List.getElem?_append_right (by rw [h.1]; exact hi), h.1] at h2
    exact k.2 _ d u h1 h2
theorem RT.bool {t : TypeId} (ht : P.underlying t = some .bool) (h1 : P.cellsOf t = 1) : RT P t Bool (fun b => [.v (.bool b)]) (fun _ => True) :=
  ⟨fun v => ⟨h1.symm, fun d hd => by simp at hd; subst hd; rfl⟩, fun H enc w fuel cs x h _ => by
    obtain ⟨b, rfl, _⟩ := DataW.trod_bool ht h
    exact ⟨b, trivial, RdL.one rfl (.v rfl)⟩⟩
theorem RT.int {t : TypeId} {k : IntKind} (ht : P.underlying t = some (.int k)) (h1 : P.cellsOf t = 1) : RT P t Int (fun n => [.v (.int k n)]) (fun n => (Lit.int k n).wf = true) :=
  ⟨fun v => ⟨h1.symm, fun d hd => by simp at hd; subst hd; rfl⟩, fun H enc w fuel cs x h _ => by
    obtain ⟨n, rfl, _, hw⟩ := DataW.trod_int ht h
    exact ⟨n, hw, RdL.one rfl (.v rfl)⟩⟩
theorem RT.string {t : TypeId} (ht : P.underlying t = some .string) (h1 : P.cellsOf t = 1) : RT P t ByteArray (fun s => [.v (.string s)]) (fun s => s.size ≤ reachBytes) :=
  ⟨fun v => ⟨h1.symm, fun d hd => by simp at hd; subst hd; rfl⟩, fun H enc w fuel cs x h hw => by
    obtain ⟨s, rfl, rfl, hs⟩ := DataW.trod_string ht h
    exact ⟨s, hw _ (by rw [DataW.weights]; simp), RdL.one rfl (.v (decide_eq_true hs))⟩⟩
theorem RT.map {t : TypeId} {α β : Type} {ca : α → List D} {cb : β → List D} {oa : α → Prop} {ob : β → Prop} (h : RT P t α ca oa) (f : α → β) (hc : ∀ a, oa a → cb (f a) = ca a) (ho : ∀ a, oa a → ob (f a)) (hb : ∀ v, (cb v).length = P.cellsOf t ∧ ∀ d ∈ cb v, d.isCell = true) : RT P t β cb ob :=
  ⟨hb, fun H enc w fuel cs x hx hw => by
    obtain ⟨a, h1, h2⟩ := h.2 H enc w fuel cs x hx hw
    exact ⟨f a, ho a h1, by rw [hc a h1]; exact h2⟩⟩
theorem RTF.nil {m : Nat} : RTF P m [] m Unit (fun _ => []) (fun _ => True) :=
  ⟨(fun v d hd => by cases hd), fun H enc w n cs xs hm hl hx _ => ⟨(), trivial, by
    rw [List.drop_eq_nil_of_le (by omega)]
    exact ⟨rfl, fun i d u h => by cases h⟩⟩⟩
theorem RTF.cons {m off : Nat} {f : Field} {fs : List Field} {α β : Type} {ca : α → List D} {cb : β → List D} {oa : α → Prop} {ob : β → Prop} (ho : off = f.offset + P.cellsOf f.type) (h : RT P f.type α ca oa) (k : RTF P m fs off β cb ob) :
    RTF P m (f :: fs) f.offset (α × β) (fun v => ca v.1 ++ cb v.2) (fun v => oa v.1 ∧ ob v.2) := by
  subst ho
  refine ⟨fun v d hd => ?_, fun H enc w n cs xs hm hl hx hw => ?_⟩
  · rcases List.mem_append.1 hd with hd | hd
    · exact (h.1 v.1).2 d hd
    · exact k.1 v.2 d hd
  · match xs, hl with
    | x :: xs, hl =>
      rw [List.map_cons, List.map_cons, DataW.weightsEach] at hw
      obtain ⟨a, ha, hra⟩ := h.2 H enc w n _ x (hx 0 f rfl) (fun n hn => hw n (List.mem_append_left _ hn))
      obtain ⟨b, hb, hrb⟩ := k.2 H enc w n cs xs hm (by simpa using hl) (fun i g hg => hx (i + 1) g (by simpa using hg)) (fun n hn => hw n (List.mem_append_right _ hn))
      refine ⟨(a, b), ⟨ha, hb⟩, ?_⟩
      have := hra.append hrb
      rwa [← List.drop_drop, List.take_append_drop] at this
theorem RT.struct {t : TypeId} {fs : Array Field} {m : Nat} {α : Type} {ca : α → List D} {oa : α → Prop} (ht : P.underlying t = some (.struct fs)) (hm : P.cellsOf t = m) (h : RTF P m fs.toList 0 α ca oa) (hlen : ∀ v, (ca v).length = m) : RT P t α ca oa := by
  refine ⟨fun v => ⟨(hlen v).trans hm.symm, h.1 v⟩, fun H enc w fuel cs x hx hw => ?_⟩
  obtain ⟨xs, n, _, rfl, hl, hxl, hf⟩ := DataW.trod_struct ht hx
  obtain ⟨v, hv, hr⟩ := h.2 H enc w n cs xs (hl.trans hm) (by simpa using hxl) (fun i f hi => hf i f (by simpa using hi)) (fun n hn => hw n (by rw [DataW.weights, ht]; exact hn))
  exact ⟨v, hv, by simpa using hr⟩
theorem cell_some {w : World} {b off : Nat} {u : Value} (h : w.cell? ⟨b, off, none⟩ = some u) : ∃ cs e fz, w.heap[b]? = some (.cells cs e fz) ∧ cs[off]? = some u := by
  unfold World.cell? at h
  split at h
  · rename_i cs e fz hh
    exact ⟨cs, e, fz, hh, by simpa using h⟩
  · cases h
theorem RT.sliceB (c : Nat) {t e : TypeId} {s : Nat} {α : Type} {ca : α → List D} {oa : α → Prop} {el : α → D} (ht : P.underlying t = some (.slice e)) (h1 : P.cellsOf t = 1) (hs : P.cellsOf e = s) (h0 : 0 < s) (hby : c ≤ P.bytesOf e) (h : RT P e α ca oa) (hel : ∀ v, (el v).flat = ca v) :
    RT P t (List α) (fun l => [.sl s (l.map el)]) (fun l => l.length * c ≤ reachBytes ∧ ∀ v ∈ l, oa v) := by
  refine ⟨fun v => ⟨h1.symm, fun d hd => by simp at hd; subst hd; rfl⟩, fun H enc w fuel cs x hx hw => ?_⟩
  rcases DataW.trod_slice ht hx with ⟨rfl, _⟩ | ⟨a, len, cap, elems, rest, n, _, rfl, rfl, _, hlc, hcm, hel', hget, _, _⟩
  · exact ⟨[], ⟨by rw [List.length_nil, Nat.zero_mul]; exact Nat.zero_le _, fun v hv => by cases hv⟩, RdL.one rfl (.nil (Nat.zero_le _))⟩
  rw [hs] at hget
  unfold Wt at hw
  rw [DataW.weights, ht] at hw
  have hlen0 : len * c ≤ reachBytes := by
    have h2 := hw _ (List.mem_cons_self ..)
    rw [List.length_map, hel'] at h2
    exact Nat.le_trans (Nat.mul_le_mul (Nat.le_add_right _ _) hby) h2
  have each : ∀ i : Fin len, ∃ v, oa v ∧ ∃ cs', w.cells? 0 (a.add (i.1 * s)) s = some cs' ∧ RdL w (fun b => b < w.heap.size) (ca v) cs' := fun i => by
    have hi := hget i.1 i.2
    have he : elems[i.1]? = some elems[i.1] := List.getElem?_eq_getElem (by omega)
    rw [he, Option.bind_eq_some_iff] at hi
    obtain ⟨cs', h2, h3⟩ := hi
    obtain ⟨v, hv, hr⟩ := h.2 H enc w n cs' _ h3 (fun n hn => hw n (List.mem_cons_of_mem _ (List.mem_append_left _ (mem_weightsAll hn (List.mem_map_of_mem (List.getElem_mem _))))))
    exact ⟨v, hv, cs', h2, hr⟩
  obtain ⟨f, hf⟩ := Classical.axiomOfChoice each
  refine ⟨List.ofFn f, ⟨by rw [List.length_ofFn]; exact hlen0, fun v hv => ?_⟩, RdL.one rfl ?_⟩
  · obtain ⟨i, rfl⟩ := List.mem_ofFn.1 hv
    exact (hf i).1
  rcases Nat.eq_zero_or_pos len with hz | hpos
  · subst hz
    rw [List.ofFn_zero, List.map_nil]
    exact .nil hcm
  obtain ⟨b, off, spot⟩ := a
  have hsp : spot = none := by
    obtain ⟨_, cs', h2, _⟩ := hf ⟨0, hpos⟩
    obtain ⟨_, hl, hc⟩ := World.cells?_some h2
    have := hc 0 h0
    rw [Nat.zero_mul] at this
    have he : cs'[0]? = some cs'[0] := List.getElem?_eq_getElem (by omega)
    rw [he] at this
    simpa [Addr.add] using World.cell?_spot this
  subst hsp
  have hadd : ∀ k m : Nat, ((⟨b, off, none⟩ : Addr).add k).add m = ⟨b, off + (k + m), none⟩ := fun k m => by
    simp only [Addr.add]
    split <;> split <;> simp_all <;> omega
  have hu : ∀ x, x ∈ (List.ofFn f).map el → x.flat.length = s := fun x hx => by
    obtain ⟨v, _, rfl⟩ := List.mem_map.1 hx
    rw [hel, (h.1 v).1, hs]
  have hblk : ∃ arr e' fz, w.heap[b]? = some (.cells arr e' fz) := by
    obtain ⟨_, cs', h2, _⟩ := hf ⟨0, hpos⟩
    obtain ⟨_, hl, hc⟩ := World.cells?_some h2
    have := hc 0 h0
    rw [hadd, show cs'[0]? = some cs'[0] from List.getElem?_eq_getElem (by omega)] at this
    obtain ⟨arr, e', fz, g, _⟩ := cell_some this
    exact ⟨arr, e', fz, g⟩
  obtain ⟨arr, e', fz, hblk⟩ := hblk
  have hlen : ((List.ofFn f).map el).length = len := by rw [List.length_map, List.length_ofFn]
  have key := Rd.sl_mk (w := w) (F := fun b => b < w.heap.size) (s := s) (l := (List.ofFn f).map el) (off := off) (cap := cap) (Array.getElem?_eq_some_iff.1 hblk).1 hblk (by omega) hcm hu (fun j d hj => ?_)
  · rwa [hlen] at key
  have hjl := (List.getElem?_eq_some_iff.1 hj).1
  rw [flatAll_length hu, hlen] at hjl
  have hdm := Nat.div_add_mod j s
  have hml := Nat.mod_lt j h0
  have hil : j / s < len := Nat.div_lt_of_lt_mul (by rw [Nat.mul_comm]; exact hjl)
  obtain ⟨_, cs', h2, hr⟩ := hf ⟨j / s, hil⟩
  have hg : ((List.ofFn f).map el)[j / s]? = some (el (f ⟨j / s, hil⟩)) := by simp [hil]
  have hfa := flatAll_get (j % s) hu hg hml
  rw [show j / s * s + j % s = j by rw [Nat.mul_comm]; exact hdm, hj, hel] at hfa
  obtain ⟨g1, u, g2, g3⟩ := hr.get hfa.symm
  obtain ⟨_, hl, hc⟩ := World.cells?_some h2
  have hc' := hc (j % s) hml
  rw [hadd, g2, show j / s * s + j % s = j by rw [Nat.mul_comm]; exact hdm] at hc'
  obtain ⟨arr2, e2, fz2, k1, k2⟩ := cell_some hc'
  rw [hblk] at k1
  cases k1
  exact ⟨g1, u, k2, g3⟩
end
theorem RT.slice {P : Program} {t e : TypeId} {s : Nat} {α : Type} {ca : α → List D} {oa : α → Prop} {el : α → D} (ht : P.underlying t = some (.slice e)) (h1 : P.cellsOf t = 1) (hs : P.cellsOf e = s) (h0 : 0 < s) (hby : 0 < P.bytesOf e) (h : RT P e α ca oa) (hel : ∀ v, (el v).flat = ca v) :
    RT P t (List α) (fun l => [.sl s (l.map el)]) (fun l => l.length ≤ reachBytes ∧ ∀ v ∈ l, oa v) :=
  (RT.sliceB 1 ht h1 hs h0 hby h hel).map id (fun v h => rfl) (fun v h => ⟨by have := h.1; rw [Nat.mul_one] at this; exact this, h.2⟩) (fun v => ⟨h1.symm, fun d hd => by simp at hd; subst hd; rfl⟩)
end Lift
namespace Lift
open Go Go.ChangeShapes
open Go.RowKit (Below)
section
variable {P : Program}
def RA (P : Program) (t : TypeId) (α : Type) (el : α → D) (ok : α → Prop) : Prop :=
  ∀ (H : Type) (enc : TypeId × Value → H) (w : World) (v : Value) (d : DataW H) (ps : List MemPlace) (r : Reach) (b0 : Nat), DataW.Trod enc P w 0 (fun _ => true) true t v d ps → Wt P t d → Value.okWide P w r b0 t v → ∃ a, ok a ∧ Rd w (fun b => b < w.heap.size) (el a) v
theorem RA.agg {t : TypeId} {α : Type} {cells : α → List D} {ok : α → Prop} {fs : Array Field} (ht : P.underlying t = some (.struct fs)) (h : RT P t α cells ok) : RA P t α (fun a => .ag (cells a)) ok := by
  intro H enc w v d ps r b0 ⟨fuel, hd⟩ hw hv
  unfold Value.okWide at hv
  rw [ht] at hv
  obtain ⟨cs, rfl, _, _⟩ := hv
  obtain ⟨a, ha, hl, hr⟩ := h.2 H enc w fuel _ _ hd hw
  refine ⟨a, ha, ?_⟩
  have := Rd.ag (w := w) (F := fun b => b < w.heap.size) (l := cells a) (vs := cs.toList) (by simpa [Value.cells] using hl) (fun d hd => (h.1 a).2 d hd) (fun i d u h1 h2 => (hr i d u h1 (by simpa [Value.cells] using h2)).2)
  simpa using this
theorem RA.cell {t : TypeId} {α : Type} {el : α → D} {ok : α → Prop} (h1 : ∀ (w : World) (r : Reach) (b0 : Nat) (v : Value), Value.okWide P w r b0 t v → v.cells = #[v]) (h : RT P t α (fun a => [el a]) ok) : RA P t α el ok := by
  intro H enc w v d ps r b0 ⟨fuel, hd⟩ hw hv
  obtain ⟨a, ha, hl, hr⟩ := h.2 H enc w fuel _ _ hd hw
  rw [h1 w r b0 v hv] at hr
  exact ⟨a, ha, (hr 0 _ v rfl rfl).2⟩
def RAs (P : Program) (ts : List TypeId) (α : Type) (ds : α → List D) (ok : α → Prop) : Prop :=
  (∀ t ∈ ts, P.readableRec t = true ∧ t < P.types.size) ∧
  ∀ (H : Type) (enc : TypeId × Value → H) (w : World) (vs : List Value) (xs : List (DataW H)) (ps : List MemPlace) (r : Reach) (b0 : Nat), DataW.TrodAll enc P w 0 (fun _ => true) true ts vs xs ps → (∀ n, n ∈ DataW.weightsEach P ts xs → n ≤ reachBytes) →
    (∀ (j : Nat) (t : TypeId) (v : Value), ts[j]? = some t → vs[j]? = some v → Value.okWide P w r b0 t v) →
    ∃ a, ok a ∧ vs.length = (ds a).length ∧ ∀ (i : Nat) (d : D) (v : Value), (ds a)[i]? = some d → vs[i]? = some v → Rd w (fun b => b < w.heap.size) d v
theorem RAs.nil : RAs P [] Unit (fun _ => []) (fun _ => True) :=
  ⟨(fun t h => by cases h), fun H enc w vs xs ps r b0 h _ _ => by
    obtain ⟨rfl, rfl, rfl⟩ := trodAll_nil h
    exact ⟨(), trivial, rfl, fun i d v h => by cases h⟩⟩
theorem RAs.cons {t : TypeId} {ts : List TypeId} {α β : Type} {el : α → D} {ds : β → List D} {oa : α → Prop} {ob : β → Prop} (h1 : P.readableRec t = true) (h2 : t < P.types.size) (h : RA P t α el oa) (k : RAs P ts β ds ob) :
    RAs P (t :: ts) (α × β) (fun v => el v.1 :: ds v.2) (fun v => oa v.1 ∧ ob v.2) := by
  refine ⟨fun u hu => ?_, fun H enc w vs xs ps r b0 ht hw hv => ?_⟩
  · rcases List.mem_cons.1 hu with rfl | hu
    · exact ⟨h1, h2⟩
    · exact k.1 u hu
  · obtain ⟨v, vs', d, ds', p, q, rfl, rfl, rfl, hd, hrest⟩ := trodAll_cons ht
    rw [DataW.weightsEach] at hw
    obtain ⟨a, ha, hra⟩ := h H enc w v d p r b0 hd (fun n hn => hw n (List.mem_append_left _ hn)) (hv 0 t v rfl rfl)
    obtain ⟨b, hb, hlb, hrb⟩ := k.2 H enc w vs' ds' q r b0 hrest (fun n hn => hw n (List.mem_append_right _ hn)) (fun j t v h1 h2 => hv (j + 1) t v (by simpa using h1) (by simpa using h2))
    refine ⟨(a, b), ⟨ha, hb⟩, by simp [hlb], fun i d v h1 h2 => ?_⟩
    cases i with
    | zero =>
      simp at h1 h2
      subst h1; subst h2
      exact hra
    | succ i => exact hrb i d v (by simpa using h1) (by simpa using h2)
theorem RAs.map {ts : List TypeId} {α β : Type} {da : α → List D} {db : β → List D} {oa : α → Prop} {ob : β → Prop} (h : RAs P ts α da oa) (f : α → β) (hc : ∀ a, oa a → db (f a) = da a) (ho : ∀ a, oa a → ob (f a)) : RAs P ts β db ob :=
  ⟨h.1, fun H enc w vs xs ps r b0 h1 h2 h3 => by
    obtain ⟨a, ha, hl, hr⟩ := h.2 H enc w vs xs ps r b0 h1 h2 h3
    exact ⟨f a, ho a ha, by rw [hc a ha]; exact ⟨hl, hr⟩⟩⟩
theorem trodAll_below (hl : laidOutB P = true) {H : Type} {enc : TypeId × Value → H} {W W' : World} (hb : Below W.heap.size W W') : ∀ {ts : List TypeId} {vs : List Value} {ds : List (DataW H)} {ps : List MemPlace}, (∀ t ∈ ts, P.readableRec t = true ∧ t < P.types.size) →
    DataW.TrodAll enc P W 0 (fun _ => true) true ts vs ds ps → (∀ x ∈ ps, x.block < W.heap.size) → DataW.TrodAll enc P W' 0 (fun b => decide (b < W.heap.size)) true ts vs ds ps
  | [], _, _, _, _, h, _ => by
    obtain ⟨rfl, rfl, rfl⟩ := trodAll_nil h
    exact trodAll_mk0
  | t :: ts, _, _, _, hr, h, hp => by
    obtain ⟨v, vs', d, ds', p, q, rfl, rfl, rfl, hd, hrest⟩ := trodAll_cons h
    exact ⟨p, q, Go.RowKit.Below.trod hl (hr t (List.mem_cons_self ..)).1 (hr t (List.mem_cons_self ..)).2 hd hb (fun x hx => hp x (List.mem_append_left _ hx)),
      trodAll_below hl hb (fun t ht => hr t (List.mem_cons_of_mem _ ht)) hrest (fun x hx => hp x (List.mem_append_right _ hx)), rfl⟩
theorem trodAll_len {H : Type} {enc : TypeId × Value → H} {w : World} {base : Nat} {spare : Nat → Bool} {held : Bool} : ∀ {ts : List TypeId} {vs : List Value} {ds : List (DataW H)} {ps : List MemPlace}, DataW.TrodAll enc P w base spare held ts vs ds ps → ds.length = ts.length
  | [], _, _, _, h => by
    obtain ⟨rfl, rfl, rfl⟩ := trodAll_nil h
    rfl
  | t :: ts, _, _, _, h => by
    obtain ⟨v, vs', d, ds', p, q, rfl, rfl, rfl, hd, hrest⟩ := trodAll_cons h
    rw [List.length_cons, List.length_cons, trodAll_len hrest]
theorem law_post {C : Checked} {os : Os} {f : FuncId} {fn : Func} {s : ChangeSpec} {conds : List PathCond} {fresh handsOn : Bool} {apart : Bool} {H : Type} {enc : TypeId × Value → H} {α : Type} {ds : α → List D} {ok : α → Prop} {tb : TypeId}
    (own : ownKnob C.prog.godebug = none) (started : os.Started) (noInit : C.prog.inits.idxOf? f = none) (hfn : C.prog.funcs[f]? = some fn) (hl : laidOutB C.prog = true)
    (witness : ∃ (w : World) (tape : Tape) (i : Input), w.os = os ∧ (w.forCall tape i).Shaped C.prog ∧ i.vars = [] ∧ Input.okWide C.prog (w.forCall tape i) .any w.heap.size f i ∧
      s.pre6 enc C.prog fn conds apart (w.forCall tape i).memory i.args ∧ ({} : Assume).holds C.prog (lone (Frame.enter C.prog f i.args .normal) [] (w.forCall tape i)))
    (hvars : s.vars = []) (hres : fn.resultTypes = #[tb]) (htb : C.prog.underlying tb = some .bool)
    (hspec : ∀ xs : List (DataW H), xs.length = fn.params.toList.length → s.fn H xs = { results := [.lit (.bool true)], args := xs })
    (hargs : RAs C.prog fn.params.toList α ds ok) (h : ∀ a, ok a → Pure C.prog f (ds a) (.v (.bool true))) :
    ReturnsInHanded {} C os f .any (s.pre6 enc C.prog fn conds apart) (s.post enc C.prog fn apart fresh handsOn false) := by
  refine returnsInHanded_of_change_sized own started noInit hfn witness ?_
  intro W base args xs gs before hval hW hcnd hwt _
  have hW' := hW
  obtain ⟨p, q, hA, hV, rfl, hfz, hnd⟩ := hW
  rw [hvars] at hV
  obtain ⟨rfl, rfl⟩ := trodVars_none hV
  have hvt : s.plain.varTypes C.prog = [] := by
    show (s.vars.filterMap _) = []
    rw [hvars]; rfl
  rw [hvt, List.append_nil, List.append_nil] at hwt
  obtain ⟨a, ha, hlen, hr⟩ := hargs.2 H enc W args.toList xs p .any base hA (fun n hn => by simpa using List.all_eq_true.1 hwt n hn) (fun j t v h1 h2 => hval j t v (by simpa using h1) (by simpa using h2))
  have hc := (h a ha).2 W (fun b => b < W.heap.size) args.toList (fun b hb => hb) hlen hr
  rw [Array.toArray_toList] at hc
  refine hc.mono fun e W' ⟨v, he, hb, hrd⟩ => ⟨v, he, ?_⟩
  obtain ⟨rfl, _⟩ := hrd.v_eq
  have hsp := hspec xs (trodAll_len hA)
  have hlt : ∀ x ∈ p, x.block < W.heap.size := fun x hx => hW'.lt x (List.mem_append_left _ hx)
  refine ⟨xs, [], p ++ [], [], p, [], hW', ?_, ?_, ?_, hb.frame _, fun h => by cases h⟩
  · rw [List.append_nil, hsp, hres]
    exact trodAll_mk1 (Go.RowKit.shut_bool htb true)
  · rw [List.append_nil, hsp]
    exact trodAll_below hl hb hargs.1 hA hlt
  · rw [List.append_nil, hsp, hvars]
    rfl
end
end Lift
namespace Lift
open Go Go.Proofs
def tys : Ty := [
  (1, ⟨1, 8, false, [.v .nilFunc], [], 0, 8, .i64⟩),
  (2, ⟨1, 8, false, [.v (.int .i64 0)], [], 0, 2, .i64⟩),
  (3, ⟨1, 8, false, [.v (.int .i64 0)], [], 0, 2, .i64⟩),
  (4, ⟨1, 1, false, [.v (.bool false)], [], 0, 1, .i64⟩),
  (5, ⟨1, 1, false, [.v (.int .u8 0)], [], 0, 2, .u8⟩),
  (6, ⟨1, 1, false, [.v (.int .u8 0)], [], 0, 2, .u8⟩),
  (7, ⟨4, 24, true, [.v (.int .i64 0), .v (.int .i64 0), .v (.bool false), .v (.int .u8 0)], [(0, 1, false), (1, 1, false), (2, 1, false), (3, 1, false)], 0, 5, .i64⟩),
  (8, ⟨4, 24, true, [.v (.int .i64 0), .v (.int .i64 0), .v (.bool false), .v (.int .u8 0)], [(0, 1, false), (1, 1, false), (2, 1, false), (3, 1, false)], 0, 5, .i64⟩),
  (9, ⟨1, 16, false, [.v (.string ⟨#[]⟩)], [], 0, 3, .i64⟩),
  (10, ⟨1, 16, false, [.v (.string ⟨#[]⟩)], [], 0, 3, .i64⟩),
  (11, ⟨1, 16, false, [.v (.string ⟨#[]⟩)], [], 0, 3, .i64⟩),
  (12, ⟨1, 8, false, [.v (.int .u64 0)], [], 0, 2, .u64⟩),
  (13, ⟨2, 24, true, [.v (.string ⟨#[]⟩), .v (.int .u64 0)], [(0, 1, false), (1, 1, false)], 0, 5, .i64⟩),
  (14, ⟨2, 24, true, [.v (.string ⟨#[]⟩), .v (.int .u64 0)], [(0, 1, false), (1, 1, false)], 0, 5, .i64⟩),
  (15, ⟨1, 8, false, [.v (.pointer none)], [], 0, 7, .i64⟩),
  (16, ⟨1, 8, false, [.v (.pointer none)], [], 0, 7, .i64⟩),
  (17, ⟨1, 8, false, [.v (.pointer none)], [], 0, 7, .i64⟩),
  (20, ⟨1, 16, false, [.v .nilIface], [], 0, 6, .i64⟩),
  (21, ⟨1, 4, false, [.v (.int .i32 0)], [], 0, 2, .i32⟩),
  (22, ⟨1, 24, false, [.sl 10 []], [], 52, 4, .i64⟩),
  (23, ⟨1, 24, false, [.sl 1 []], [], 141, 4, .i64⟩),
  (24, ⟨3, 56, true, [.v (.bool false), .sl 1 [], .sl 1 []], [(0, 1, false), (1, 1, false), (2, 1, false)], 0, 5, .i64⟩),
  (25, ⟨3, 56, true, [.v (.bool false), .sl 1 [], .sl 1 []], [(0, 1, false), (1, 1, false), (2, 1, false)], 0, 5, .i64⟩),
  (26, ⟨6, 112, true, [.v (.bool false), .sl 1 [], .sl 1 [], .v (.bool false), .sl 1 [], .sl 1 []], [(0, 3, true), (3, 3, true)], 0, 5, .i64⟩),
  (27, ⟨6, 112, true, [.v (.bool false), .sl 1 [], .sl 1 [], .v (.bool false), .sl 1 [], .sl 1 []], [(0, 3, true), (3, 3, true)], 0, 5, .i64⟩),
  (28, ⟨15, 280, true, [.v (.bool false), .sl 1 [], .sl 1 [], .v (.bool false), .sl 1 [], .sl 1 [], .v (.bool false), .sl 1 [], .sl 1 [], .v (.bool false), .sl 1 [], .sl 1 [], .v (.bool false), .sl 1 [], .sl 1 []], [(0, 6, true), (6, 6, true), (12, 3, true)], 0, 5, .i64⟩),
  (29, ⟨15, 280, true, [.v (.bool false), .sl 1 [], .sl 1 [], .v (.bool false), .sl 1 [], .sl 1 [], .v (.bool false), .sl 1 [], .sl 1 [], .v (.bool false), .sl 1 [], .sl 1 [], .v (.bool false), .sl 1 [], .sl 1 []], [(0, 6, true), (6, 6, true), (12, 3, true)], 0, 5, .i64⟩),
  (30, ⟨30, 560, true, [.v (.bool false), .sl 1 [], .sl 1 [], .v (.bool false), .sl 1 [], .sl 1 [], .v (.bool false), .sl 1 [], .sl 1 [], .v (.bool false), .sl 1 [], .sl 1 [], .v (.bool false), .sl 1 [], .sl 1 [], .v (.bool false), .sl 1 [], .sl 1 [], .v (.bool false), .sl 1 [], .sl 1 [], .v (.bool false), .sl 1 [], .sl 1 [], .v (.bool false), .sl 1 [], .sl 1 [], .v (.bool false), .sl 1 [], .sl 1 []], [(0, 15, true), (15, 15, true)], 0, 5, .i64⟩),
  (31, ⟨30, 560, true, [.v (.bool false), .sl 1 [], .sl 1 [], .v (.bool false), .sl 1 [], .sl 1 [], .v (.bool false), .sl 1 [], .sl 1 [], .v (.bool false), .sl 1 [], .sl 1 [], .v (.bool false), .sl 1 [], .sl 1 [], .v (.bool false), .sl 1 [], .sl 1 [], .v (.bool false), .sl 1 [], .sl 1 [], .v (.bool false), .sl 1 [], .sl 1 [], .v (.bool false), .sl 1 [], .sl 1 [], .v (.bool false), .sl 1 [], .sl 1 []], [(0, 15, true), (15, 15, true)], 0, 5, .i64⟩),
  (32, ⟨1, 8, false, [.v .nilFunc], [], 0, 8, .i64⟩),
  (33, ⟨1, 8, false, [.v .nilFunc], [], 0, 8, .i64⟩),
  (34, ⟨1, 24, false, [.sl 1 []], [], 3, 4, .i64⟩),
  (35, ⟨1, 16, false, [.v .nilIface], [], 0, 6, .i64⟩),
  (36, ⟨1, 16, false, [.v .nilIface], [], 0, 6, .i64⟩),
  (38, ⟨1, 8, false, [.v .nilFunc], [], 0, 8, .i64⟩),
  (39, ⟨1, 8, false, [.v .nilFunc], [], 0, 8, .i64⟩),
  (40, ⟨1, 8, false, [.v .nilFunc], [], 0, 8, .i64⟩),
  (41, ⟨1, 8, false, [.v .nilFunc], [], 0, 8, .i64⟩),
  (42, ⟨1, 8, false, [.v .nilFunc], [], 0, 8, .i64⟩),
  (43, ⟨3, 3, true, [.v (.bool false), .v (.bool false), .v (.bool false)], [(0, 1, false), (1, 1, false), (2, 1, false)], 0, 5, .i64⟩),
  (44, ⟨3, 3, true, [.v (.bool false), .v (.bool false), .v (.bool false)], [(0, 1, false), (1, 1, false), (2, 1, false)], 0, 5, .i64⟩),
  (46, ⟨1, 8, false, [.v .nilFunc], [], 0, 8, .i64⟩),
  (48, ⟨1, 8, false, [.v .nilFunc], [], 0, 8, .i64⟩),
  (49, ⟨4, 64, true, [.v (.bool false), .sl 1 [], .sl 1 [], .v (.bool false)], [(0, 3, true), (3, 1, false)], 0, 5, .i64⟩),
  (50, ⟨4, 64, true, [.v (.bool false), .sl 1 [], .sl 1 [], .v (.bool false)], [(0, 3, true), (3, 1, false)], 0, 5, .i64⟩),
  (51, ⟨10, 176, true, [.v (.bool false), .sl 1 [], .sl 1 [], .v (.bool false), .v (.bool false), .sl 1 [], .sl 1 [], .v (.bool false), .sl 1 [], .sl 1 []], [(0, 4, true), (4, 6, true)], 0, 5, .i64⟩),
  (52, ⟨10, 176, true, [.v (.bool false), .sl 1 [], .sl 1 [], .v (.bool false), .v (.bool false), .sl 1 [], .sl 1 [], .v (.bool false), .sl 1 [], .sl 1 []], [(0, 4, true), (4, 6, true)], 0, 5, .i64⟩),
  (53, ⟨20, 352, true, [.v (.bool false), .sl 1 [], .sl 1 [], .v (.bool false), .v (.bool false), .sl 1 [], .sl 1 [], .v (.bool false), .sl 1 [], .sl 1 [], .v (.bool false), .sl 1 [], .sl 1 [], .v (.bool false), .v (.bool false), .sl 1 [], .sl 1 [], .v (.bool false), .sl 1 [], .sl 1 []], [(2, 10, true)], 52, 9, .i64⟩),
  (54, ⟨1, 8, false, [.v .nilFunc], [], 0, 8, .i64⟩),
  (55, ⟨1, 8, false, [.v (.int .i64 0)], [], 0, 2, .i64⟩),
  (57, ⟨1, 8, false, [.v .nilFunc], [], 0, 8, .i64⟩),
  (58, ⟨1, 8, false, [.v .nilFunc], [], 0, 8, .i64⟩),
  (59, ⟨1, 8, false, [.v .nilFunc], [], 0, 8, .i64⟩),
  (61, ⟨1, 8, false, [.v .nilFunc], [], 0, 8, .i64⟩),
  (63, ⟨1, 8, false, [.v .nilFunc], [], 0, 8, .i64⟩),
  (64, ⟨1, 8, false, [.v .nilFunc], [], 0, 8, .i64⟩),
  (65, ⟨2, 2, true, [.v (.int .u8 0), .v (.int .u8 0)], [(2, 1, true)], 5, 9, .i64⟩),
  (66, ⟨1, 8, false, [.v .nilFunc], [], 0, 8, .i64⟩),
  (68, ⟨1, 8, false, [.v .nilFunc], [], 0, 8, .i64⟩),
  (69, ⟨1, 8, false, [.v .nilFunc], [], 0, 8, .i64⟩),
  (70, ⟨1, 8, false, [.v .nilFunc], [], 0, 8, .i64⟩),
  (71, ⟨1, 8, false, [.v .nilFunc], [], 0, 8, .i64⟩),
  (72, ⟨1, 8, false, [.v .nilFunc], [], 0, 8, .i64⟩),
  (73, ⟨1, 8, false, [.v .nilFunc], [], 0, 8, .i64⟩),
  (74, ⟨1, 8, false, [.v .nilFunc], [], 0, 8, .i64⟩),
  (75, ⟨1, 8, false, [.v .nilFunc], [], 0, 8, .i64⟩),
  (76, ⟨1, 8, false, [.v .nilFunc], [], 0, 8, .i64⟩),
  (77, ⟨1, 8, false, [.v .nilFunc], [], 0, 8, .i64⟩),
  (79, ⟨1, 8, false, [.v .nilFunc], [], 0, 8, .i64⟩),
  (80, ⟨1, 8, false, [.v .nilFunc], [], 0, 8, .i64⟩),
  (82, ⟨1, 8, false, [.v .nilFunc], [], 0, 8, .i64⟩),
  (83, ⟨1, 24, false, [.sl 6 []], [], 27, 4, .i64⟩),
  (84, ⟨17, 328, true, [.v (.bool false), .sl 1 [], .sl 1 [], .v (.bool false), .sl 1 [], .sl 1 [], .v (.bool false), .sl 1 [], .sl 1 [], .v (.bool false), .sl 1 [], .sl 1 [], .v (.bool false), .sl 1 [], .sl 1 [], .sl 6 [], .sl 1 []], [(0, 3, true), (3, 3, true), (6, 3, true), (9, 6, true), (15, 1, false), (16, 1, false)], 0, 5, .i64⟩),
  (85, ⟨17, 328, true, [.v (.bool false), .sl 1 [], .sl 1 [], .v (.bool false), .sl 1 [], .sl 1 [], .v (.bool false), .sl 1 [], .sl 1 [], .v (.bool false), .sl 1 [], .sl 1 [], .v (.bool false), .sl 1 [], .sl 1 [], .sl 6 [], .sl 1 []], [(0, 3, true), (3, 3, true), (6, 3, true), (9, 6, true), (15, 1, false), (16, 1, false)], 0, 5, .i64⟩),
  (87, ⟨1, 8, false, [.v .nilFunc], [], 0, 8, .i64⟩),
  (88, ⟨1, 8, false, [.v .nilFunc], [], 0, 8, .i64⟩),
  (89, ⟨1, 8, false, [.v .nilFunc], [], 0, 8, .i64⟩),
  (90, ⟨1, 8, false, [.v .nilFunc], [], 0, 8, .i64⟩),
  (92, ⟨1, 8, false, [.v .nilFunc], [], 0, 8, .i64⟩),
  (93, ⟨1, 8, false, [.v .nilFunc], [], 0, 8, .i64⟩),
  (94, ⟨1, 8, false, [.v .nilFunc], [], 0, 8, .i64⟩),
  (95, ⟨1, 8, false, [.v .nilFunc], [], 0, 8, .i64⟩),
  (96, ⟨1, 8, false, [.v .nilFunc], [], 0, 8, .i64⟩),
  (97, ⟨1, 8, false, [.v .nilFunc], [], 0, 8, .i64⟩),
  (98, ⟨1, 8, false, [.v .nilFunc], [], 0, 8, .i64⟩),
  (99, ⟨2, 32, true, [.v (.bool false), .sl 1 []], [(0, 1, false), (1, 1, false)], 0, 5, .i64⟩),
  (100, ⟨2, 32, true, [.v (.bool false), .sl 1 []], [(0, 1, false), (1, 1, false)], 0, 5, .i64⟩),
  (102, ⟨1, 8, false, [.v .nilFunc], [], 0, 8, .i64⟩),
  (103, ⟨1, 8, false, [.v .nilFunc], [], 0, 8, .i64⟩),
  (104, ⟨1, 8, false, [.v .nilFunc], [], 0, 8, .i64⟩),
  (105, ⟨1, 8, false, [.v .nilFunc], [], 0, 8, .i64⟩),
  (106, ⟨1, 8, false, [.v .nilFunc], [], 0, 8, .i64⟩),
  (107, ⟨1, 8, false, [.v .nilFunc], [], 0, 8, .i64⟩),
  (108, ⟨1, 8, false, [.v .nilFunc], [], 0, 8, .i64⟩),
  (109, ⟨1, 8, false, [.v .nilFunc], [], 0, 8, .i64⟩),
  (110, ⟨1, 8, false, [.v .nilFunc], [], 0, 8, .i64⟩),
  (111, ⟨1, 8, false, [.v .nilFunc], [], 0, 8, .i64⟩),
  (112, ⟨1, 8, false, [.v .nilFunc], [], 0, 8, .i64⟩),
  (113, ⟨1, 8, false, [.v .nilFunc], [], 0, 8, .i64⟩),
  (114, ⟨1, 24, false, [.sl 3 []], [], 25, 4, .i64⟩),
  (115, ⟨1, 8, false, [.v .nilFunc], [], 0, 8, .i64⟩),
  (116, ⟨1, 8, false, [.v .nilFunc], [], 0, 8, .i64⟩),
  (118, ⟨1, 8, false, [.v .nilFunc], [], 0, 8, .i64⟩),
  (119, ⟨1, 8, false, [.v .nilFunc], [], 0, 8, .i64⟩),
  (120, ⟨1, 8, false, [.v .nilFunc], [], 0, 8, .i64⟩),
  (121, ⟨1, 8, false, [.v .nilFunc], [], 0, 8, .i64⟩),
  (122, ⟨1, 8, false, [.v .nilFunc], [], 0, 8, .i64⟩),
  (123, ⟨1, 8, false, [.v .nilFunc], [], 0, 8, .i64⟩),
  (124, ⟨1, 8, false, [.v .nilFunc], [], 0, 8, .i64⟩),
  (125, ⟨1, 8, false, [.v .nilFunc], [], 0, 8, .i64⟩),
  (127, ⟨1, 8, false, [.v .nilFunc], [], 0, 8, .i64⟩),
  (128, ⟨1, 8, false, [.v .nilFunc], [], 0, 8, .i64⟩),
  (129, ⟨1, 8, false, [.v .nilFunc], [], 0, 8, .i64⟩),
  (130, ⟨1, 8, false, [.v .nilFunc], [], 0, 8, .i64⟩),
  (131, ⟨1, 8, false, [.v .nilFunc], [], 0, 8, .i64⟩),
  (132, ⟨1, 8, false, [.v .nilFunc], [], 0, 8, .i64⟩),
  (133, ⟨1, 8, false, [.v .nilFunc], [], 0, 8, .i64⟩),
  (134, ⟨1, 8, false, [.v .nilFunc], [], 0, 8, .i64⟩),
  (135, ⟨1, 8, false, [.v .nilFunc], [], 0, 8, .i64⟩),
  (136, ⟨1, 8, false, [.v .nilFunc], [], 0, 8, .i64⟩),
  (137, ⟨1, 8, false, [.v .nilFunc], [], 0, 8, .i64⟩),
  (139, ⟨1, 8, false, [.v .nilFunc], [], 0, 8, .i64⟩),
  (140, ⟨1, 8, false, [.v (.int .u64 0)], [], 0, 2, .u64⟩),
  (141, ⟨1, 4, false, [.v (.int .u32 0)], [], 0, 2, .u32⟩),
  (142, ⟨1, 8, false, [.v (.int .u64 0)], [], 0, 2, .u64⟩),
  (143, ⟨1, 8, false, [.v .nilFunc], [], 0, 8, .i64⟩),
  (144, ⟨1, 8, false, [.v .nilFunc], [], 0, 8, .i64⟩),
  (145, ⟨1, 8, false, [.v .nilFunc], [], 0, 8, .i64⟩),
  (146, ⟨1, 8, false, [.v .nilFunc], [], 0, 8, .i64⟩),
  (147, ⟨1, 24, false, [.sl 15 []], [], 29, 4, .i64⟩),
  (148, ⟨1, 8, false, [.v .nilFunc], [], 0, 8, .i64⟩),
  (149, ⟨1, 8, false, [.v .nilFunc], [], 0, 8, .i64⟩),
  (151, ⟨1, 8, false, [.v .nilFunc], [], 0, 8, .i64⟩),
  (152, ⟨1, 8, false, [.v .nilFunc], [], 0, 8, .i64⟩),
  (153, ⟨1, 24, false, [.sl 3 []], [], 25, 4, .i64⟩),
  (155, ⟨1, 8, false, [.v .nilFunc], [], 0, 8, .i64⟩),
  (156, ⟨1, 24, false, [.sl 1 []], [], 153, 4, .i64⟩),
  (157, ⟨1, 24, true, [.sl 1 []], [(0, 1, false)], 0, 5, .i64⟩),
  (158, ⟨1, 24, true, [.sl 1 []], [(0, 1, false)], 0, 5, .i64⟩),
  (159, ⟨1, 8, false, [.v .nilFunc], [], 0, 8, .i64⟩),
  (160, ⟨1, 8, false, [.v .nilFunc], [], 0, 8, .i64⟩),
  (162, ⟨1, 8, false, [.v .nilFunc], [], 0, 8, .i64⟩),
  (164, ⟨1, 8, false, [.v .nilFunc], [], 0, 8, .i64⟩),
  (165, ⟨1, 8, false, [.v .nilFunc], [], 0, 8, .i64⟩),
  (166, ⟨1, 24, false, [.sl 4 []], [], 50, 4, .i64⟩),
  (167, ⟨1, 8, false, [.v .nilFunc], [], 0, 8, .i64⟩),
  (168, ⟨1, 8, false, [.v .nilFunc], [], 0, 8, .i64⟩),
  (170, ⟨1, 8, false, [.v .nilFunc], [], 0, 8, .i64⟩),
  (171, ⟨1, 8, false, [.v .nilFunc], [], 0, 8, .i64⟩),
  (172, ⟨1, 8, false, [.v .nilFunc], [], 0, 8, .i64⟩),
  (174, ⟨1, 8, false, [.v .nilFunc], [], 0, 8, .i64⟩),
  (175, ⟨1, 8, false, [.v .nilFunc], [], 0, 8, .i64⟩),
  (176, ⟨1, 8, false, [.v .nilFunc], [], 0, 8, .i64⟩),
  (177, ⟨1, 8, false, [.v .nilFunc], [], 0, 8, .i64⟩),
  (178, ⟨1, 8, false, [.v .nilFunc], [], 0, 8, .i64⟩),
  (180, ⟨1, 8, false, [.v .nilFunc], [], 0, 8, .i64⟩),
  (181, ⟨1, 8, false, [.v .nilFunc], [], 0, 8, .i64⟩),
  (182, ⟨1, 8, false, [.v .nilFunc], [], 0, 8, .i64⟩),
  (183, ⟨1, 8, false, [.v .nilFunc], [], 0, 8, .i64⟩),
  (184, ⟨1, 8, false, [.v .nilFunc], [], 0, 8, .i64⟩),
  (185, ⟨1, 8, false, [.v .nilFunc], [], 0, 8, .i64⟩),
  (186, ⟨1, 8, false, [.v .nilFunc], [], 0, 8, .i64⟩),
  (187, ⟨1, 8, false, [.v .nilFunc], [], 0, 8, .i64⟩),
  (188, ⟨1, 8, false, [.v .nilFunc], [], 0, 8, .i64⟩),
  (189, ⟨1, 8, false, [.v .nilFunc], [], 0, 8, .i64⟩),
  (190, ⟨1, 8, false, [.v .nilFunc], [], 0, 8, .i64⟩),
  (191, ⟨1, 8, false, [.v .nilFunc], [], 0, 8, .i64⟩),
  (192, ⟨1, 8, false, [.v .nilFunc], [], 0, 8, .i64⟩),
  (193, ⟨1, 8, false, [.v .nilFunc], [], 0, 8, .i64⟩),
  (199, ⟨1, 8, false, [.v .nilFunc], [], 0, 8, .i64⟩),
  (200, ⟨1, 1, false, [.v (.int .u8 0)], [], 0, 2, .u8⟩),
  (201, ⟨1, 1, false, [.v (.int .u8 0)], [], 0, 2, .u8⟩),
  (202, ⟨1, 8, false, [.v .nilFunc], [], 0, 8, .i64⟩),
  (203, ⟨1, 8, false, [.v (.pointer none)], [], 0, 7, .i64⟩),
  (204, ⟨1, 4, false, [.v (.int .i32 0)], [], 0, 2, .i32⟩),
  (205, ⟨1, 4, false, [.v (.int .i32 0)], [], 0, 2, .i32⟩)]
theorem tok : TOk Tryz.prog tys := Ty.check_ok (by kernel_rfl)
theorem hmix : Tryz.prog.follows .mixedOrders = true := by kernel_rfl
end Lift
namespace Lift
def nv : List Nat → Nat
  | [] => 0
  | x :: r => x + 4294967296 * nv r
def W32 (l : List Nat) : Prop := ∀ x, x ∈ l → x < 4294967296
def Nm (l : List Nat) : Prop := l.getLast? ≠ some 0
theorem W32.nil : W32 [] := fun x h => by simp at h
theorem W32.cons {x : Nat} {l : List Nat} : W32 (x :: l) ↔ x < 4294967296 ∧ W32 l := by simp [W32]
theorem W32.append {l m : List Nat} : W32 (l ++ m) ↔ W32 l ∧ W32 m := by
  constructor
  · intro h; exact ⟨fun x hx => h x (by simp [hx]), fun x hx => h x (by simp [hx])⟩
  · rintro ⟨h1, h2⟩ x hx
    rcases List.mem_append.1 hx with h | h
    · exact h1 x h
    · exact h2 x h
theorem W32.take {l : List Nat} (h : W32 l) (k : Nat) : W32 (l.take k) := fun x hx => h x (List.mem_of_mem_take hx)
theorem W32.drop {l : List Nat} (h : W32 l) (k : Nat) : W32 (l.drop k) := fun x hx => h x (List.mem_of_mem_drop hx)
theorem W32.getD {l : List Nat} (h : W32 l) (i : Nat) : l.getD i 0 < 4294967296 := by
  by_cases hi : i < l.length
  · simp [hi]; exact h _ (List.getElem_mem hi)
  · simp [hi]
theorem W32.set {l : List Nat} (h : W32 l) (i : Nat) {x : Nat} (hx : x < 4294967296) : W32 (l.set i x) := fun y hy => by
  rcases List.mem_or_eq_of_mem_set hy with h' | rfl
  · exact h y h'
  · exact hx
theorem W32.replicate (k : Nat) : W32 (List.replicate k 0) := fun x hx => by rw [(List.mem_replicate.1 hx).2]; omega
theorem nv_append (l m : List Nat) : nv (l ++ m) = nv l + 4294967296 ^ l.length * nv m := by
  induction l with
  | nil => simp [nv]
  | cons x l ih =>
    simp only [List.cons_append, nv, ih, List.length_cons, Nat.pow_succ]
    rw [Nat.mul_add, ← Nat.add_assoc, ← Nat.mul_assoc, Nat.mul_comm 4294967296 (4294967296 ^ l.length)]
theorem nv_lt {l : List Nat} (h : W32 l) : nv l < 4294967296 ^ l.length := by
  induction l with
  | nil => simp [nv]
  | cons x l ih =>
    rw [W32.cons] at h
    have := ih h.2
    simp only [nv, List.length_cons, Nat.pow_succ]
    have h2 : 4294967296 * nv l + 4294967296 ≤ 4294967296 * 4294967296 ^ l.length := by
      rw [← Nat.mul_succ]
      exact Nat.mul_le_mul_left _ this
    rw [Nat.mul_comm (4294967296 ^ l.length)]
    omega
theorem nv_replicate (k : Nat) : nv (List.replicate k 0) = 0 := by
  induction k with
  | zero => rfl
  | succ k ih => simp [List.replicate_succ, nv, ih]
theorem nv_take_drop (l : List Nat) (i : Nat) (h : i ≤ l.length) : nv l = nv (l.take i) + 4294967296 ^ i * nv (l.drop i) := by
  have := nv_append (l.take i) (l.drop i)
  rw [List.take_append_drop] at this
  rw [this, List.length_take, Nat.min_eq_left h]
theorem drop_getD (l : List Nat) (i : Nat) (h : i < l.length) : l.drop i = l.getD i 0 :: l.drop (i + 1) := by
  rw [List.drop_eq_getElem_cons h]
  simp [h]
theorem nv_at (l : List Nat) (i : Nat) (h : i < l.length) : nv l = nv (l.take i) + 4294967296 ^ i * (l.getD i 0 + 4294967296 * nv (l.drop (i + 1))) := by
  rw [nv_take_drop l i (by omega), drop_getD l i h, nv]
theorem nv_set (l : List Nat) (i x : Nat) (h : i < l.length) : nv (l.set i x) = nv (l.take i) + 4294967296 ^ i * (x + 4294967296 * nv (l.drop (i + 1))) := by
  have := nv_at (l.set i x) i (by simpa using h)
  rw [this]
  have e1 : (l.set i x).take i = l.take i := by
    apply List.ext_getElem?
    intro j
    simp only [List.getElem?_take, List.getElem?_set]
    by_cases hj : j < i
    · simp [hj, Nat.ne_of_gt hj]
    · simp [hj]
  have e2 : (l.set i x).drop (i + 1) = l.drop (i + 1) := by
    apply List.ext_getElem?
    intro j
    simp only [List.getElem?_drop, List.getElem?_set]
    rw [if_neg (by omega)]
  have e3 : (l.set i x).getD i 0 = x := by simp [h]
  rw [e1, e2, e3]
theorem nv_pos {l : List Nat} (h : Nm l) (h0 : l ≠ []) : 4294967296 ^ (l.length - 1) ≤ nv l := by
  have hl : 0 < l.length := List.length_pos_iff.2 h0
  rw [nv_at l (l.length - 1) (by omega)]
  have : l.getD (l.length - 1) 0 ≠ 0 := by
    intro e
    apply h
    rw [List.getLast?_eq_getElem?]
    have hlt : l.length - 1 < l.length := by omega
    rw [List.getElem?_eq_getElem hlt]
    simp [hlt] at e
    rw [e]
  have h1 : 4294967296 ^ (l.length - 1) * 1 ≤ 4294967296 ^ (l.length - 1) * (l.getD (l.length - 1) 0 + 4294967296 * nv (l.drop (l.length - 1 + 1))) := Nat.mul_le_mul_left _ (by omega)
  omega
theorem nv_zero {l : List Nat} (h : Nm l) : nv l = 0 ↔ l = [] := by
  constructor
  · intro h0
    by_cases hl : l = []
    · exact hl
    · have := nv_pos h hl
      have hp : 0 < 4294967296 ^ (l.length - 1) := Nat.pow_pos (by omega)
      omega
  · rintro rfl; rfl
theorem nv_len_lt {a b : List Nat} (ha : W32 a) (hb : Nm b) (h : a.length < b.length) : nv a < nv b := by
  have h1 := nv_lt ha
  have h2 := nv_pos hb (by intro e; subst e; simp at h)
  have h3 : 4294967296 ^ a.length ≤ 4294967296 ^ (b.length - 1) := Nat.pow_le_pow_right (by omega) (by omega)
  omega
theorem nv_top_lt {a b : List Nat} (ha : W32 a) (hb : W32 b) {i : Nat} (hia : i < a.length) (hib : i < b.length) (h : a.getD i 0 < b.getD i 0) (he : a.drop (i + 1) = b.drop (i + 1)) : nv a < nv b := by
  rw [nv_at a i hia, nv_at b i hib, he]
  have h1 : nv (a.take i) < 4294967296 ^ i := by
    have := nv_lt (ha.take i)
    rwa [List.length_take, Nat.min_eq_left (by omega)] at this
  have h2 : 4294967296 ^ i * (a.getD i 0 + 4294967296 * nv (b.drop (i + 1)) + 1) ≤ 4294967296 ^ i * (b.getD i 0 + 4294967296 * nv (b.drop (i + 1))) := Nat.mul_le_mul_left _ (by omega)
  rw [Nat.mul_add (4294967296 ^ i) _ 1] at h2
  omega
theorem nv_inj : ∀ {a b : List Nat}, W32 a → W32 b → a.length = b.length → nv a = nv b → a = b
  | [], [], _, _, _, _ => rfl
  | [], _ :: _, _, _, h, _ => by simp at h
  | _ :: _, [], _, _, h, _ => by simp at h
  | x :: a, y :: b, ha, hb, hl, h => by
    rw [W32.cons] at ha hb
    simp only [nv] at h
    have : x = y ∧ nv a = nv b := by
      have h1 : (x + 4294967296 * nv a) % 4294967296 = x := by rw [Nat.add_mul_mod_self_left]; exact Nat.mod_eq_of_lt ha.1
      have h2 : (y + 4294967296 * nv b) % 4294967296 = y := by rw [Nat.add_mul_mod_self_left]; exact Nat.mod_eq_of_lt hb.1
      rw [h] at h1
      have e : x = y := by omega
      refine ⟨e, ?_⟩
      omega
    rw [this.1, nv_inj ha.2 hb.2 (by simpa using hl) this.2]
theorem nv_inj' {a b : List Nat} (ha : W32 a) (hb : W32 b) (na : Nm a) (nb : Nm b) (h : nv a = nv b) : a = b := by
  rcases Nat.lt_trichotomy a.length b.length with hl | hl | hl
  · have := nv_len_lt ha nb hl; omega
  · exact nv_inj ha hb hl h
  · have := nv_len_lt hb na hl; omega
def tw (n : Nat) : List Nat := if h : n = 0 then [] else n % 4294967296 :: tw (n / 4294967296)
termination_by n
decreasing_by omega
theorem tw_zero : tw 0 = [] := by rw [tw]; simp
theorem tw_pos {n : Nat} (h : n ≠ 0) : tw n = n % 4294967296 :: tw (n / 4294967296) := by rw [tw]; simp [h]
theorem nv_tw (n : Nat) : nv (tw n) = n := by
  induction n using Nat.strongRecOn with
  | _ n ih =>
    by_cases h : n = 0
    · subst h; rw [tw_zero]; rfl
    · rw [tw_pos h, nv, ih (n / 4294967296) (by omega)]
      omega
theorem w32_tw (n : Nat) : W32 (tw n) := by
  induction n using Nat.strongRecOn with
  | _ n ih =>
    by_cases h : n = 0
    · subst h; rw [tw_zero]; exact W32.nil
    · rw [tw_pos h, W32.cons]
      exact ⟨by omega, ih (n / 4294967296) (by omega)⟩
theorem nm_tw (n : Nat) : Nm (tw n) := by
  induction n using Nat.strongRecOn with
  | _ n ih =>
    by_cases h : n = 0
    · subst h; rw [tw_zero]; simp [Nm]
    · have ih := ih (n / 4294967296) (by omega)
      rw [tw_pos h]
      unfold Nm at ih ⊢
      by_cases h2 : n / 4294967296 = 0
      · rw [h2, tw_zero]
        simp
        omega
      · rw [tw_pos h2] at ih ⊢
        rw [List.getLast?_cons_cons]
        exact ih
theorem tw_nv {l : List Nat} (h : W32 l) (hn : Nm l) : tw (nv l) = l := nv_inj' (w32_tw _) h (nm_tw _) hn (nv_tw _)
theorem tw_length {n k : Nat} (h : n < 4294967296 ^ k) : (tw n).length ≤ k := by
  rcases Nat.lt_or_ge k (tw n).length with hl | hl
  · have h1 := nv_pos (nm_tw n) (by intro e; rw [e] at hl; simp at hl)
    rw [nv_tw] at h1
    have : 4294967296 ^ k ≤ 4294967296 ^ ((tw n).length - 1) := Nat.pow_le_pow_right (by omega) (by omega)
    omega
  · exact hl
theorem lt_tw_length (n : Nat) : n < 4294967296 ^ (tw n).length := by
  have := nv_lt (w32_tw n)
  rwa [nv_tw] at this
theorem nv_eq_zero : ∀ {l : List Nat}, (∀ i, l.getD i 0 = 0) → nv l = 0
  | [], _ => rfl
  | x :: l, h => by
    have h0 : x = 0 := h 0
    have := nv_eq_zero (l := l) (fun i => h (i + 1))
    simp [nv, h0, this]
theorem nm_take {a : List Nat} {n : Nat} (hn : n ≤ a.length) (h : n = 0 ∨ a.getD (n - 1) 0 ≠ 0) : Nm (a.take n) := by
  intro hc
  rcases h with rfl | h
  · simp at hc
  · rcases Nat.eq_zero_or_pos n with h0 | h0
    · subst h0; simp at hc
    · rw [List.getLast?_eq_getElem?] at hc
      simp only [List.length_take, Nat.min_eq_left hn] at hc
      rw [List.getElem?_take, if_pos (by omega)] at hc
      apply h
      simp [List.getD, hc]
theorem tw_take {a : List Nat} (ha : W32 a) {n : Nat} (hn : n ≤ a.length) (hz : ∀ i, n ≤ i → a.getD i 0 = 0) (h : n = 0 ∨ a.getD (n - 1) 0 ≠ 0) : a.take n = tw (nv a) := by
  have h1 : nv (a.drop n) = 0 := nv_eq_zero (fun i => by
    have := hz (n + i) (by omega)
    simpa [List.getD, List.getElem?_drop] using this)
  rw [nv_take_drop a n hn, h1, Nat.mul_zero, Nat.add_zero]
  exact (tw_nv (ha.take n) (nm_take hn h)).symm
theorem tw_length_le {a : List Nat} (ha : W32 a) : (tw (nv a)).length ≤ a.length := tw_length (nv_lt ha)
theorem getD_of_ge {l : List Nat} {i : Nat} (h : l.length ≤ i) : l.getD i 0 = 0 := by simp [List.getD, List.getElem?_eq_none h]
theorem nv_take_succ (l : List Nat) (i : Nat) : nv (l.take (i + 1)) = nv (l.take i) + 4294967296 ^ i * l.getD i 0 := by
  by_cases h : i < l.length
  · have h1 := nv_take_drop (l.take (i + 1)) i (by simp; omega)
    rw [h1, List.take_take, Nat.min_eq_left (by omega), List.drop_take, drop_getD l i h, show i + 1 - i = 1 by omega]
    simp [nv]
  · rw [getD_of_ge (by omega), List.take_of_length_le (by omega), List.take_of_length_le (by omega)]
    omega
theorem nv_take_set {l : List Nat} {i x : Nat} (h : i < l.length) : nv ((l.set i x).take (i + 1)) = nv (l.take i) + 4294967296 ^ i * x := by
  rw [nv_take_succ, List.take_set_of_le (Nat.le_refl i)]
  congr 2
  simp [List.getD, h]
theorem carry_step (p S : Nat) : p * (S % 4294967296) + p * 4294967296 * (S / 4294967296) = p * S := by rw [Nat.mul_assoc, ← Nat.mul_add, Nat.mod_add_div]
theorem pow_le {m n : Nat} (h : m ≤ n) : 4294967296 ^ m ≤ 4294967296 ^ n := Nat.pow_le_pow_right (by decide) h
theorem pow_pos (n : Nat) : 0 < 4294967296 ^ n := Nat.pow_pos (by decide)
def dg : Nat → Nat → List Nat
  | 0, _ => []
  | k + 1, v => v % 4294967296 :: dg k (v / 4294967296)
theorem dg_length : ∀ k v, (dg k v).length = k
  | 0, _ => rfl
  | k + 1, v => by simp [dg, dg_length k]
theorem w32_dg : ∀ k v, W32 (dg k v)
  | 0, _ => W32.nil
  | k + 1, v => W32.cons.2 ⟨Nat.mod_lt _ (by decide), w32_dg k _⟩
theorem nv_dg : ∀ k v, nv (dg k v) = v % 4294967296 ^ k
  | 0, v => by simp [dg, nv, Nat.mod_one]
  | k + 1, v => by
    simp only [dg, nv, nv_dg k]
    rw [Nat.pow_succ, Nat.mul_comm (4294967296 ^ k), Nat.mod_mul]
theorem dg_nv : ∀ {l : List Nat}, W32 l → dg l.length (nv l) = l
  | [], _ => rfl
  | x :: l, h => by
    have h1 := (W32.cons.1 h).1
    have h2 := dg_nv (W32.cons.1 h).2
    simp only [List.length_cons, dg, nv]
    rw [Nat.add_mul_mod_self_left, Nat.mod_eq_of_lt h1, Nat.add_mul_div_left _ _ (by decide), Nat.div_eq_of_lt h1, Nat.zero_add, h2]
theorem eq_dg {l : List Nat} (h : W32 l) {k : Nat} (hk : l.length = k) {v : Nat} (hv : nv l = v) : l = dg k v := by subst hk; subst hv; exact (dg_nv h).symm
theorem nv_digit : ∀ {l : List Nat}, W32 l → ∀ i, l.getD i 0 = nv l / 4294967296 ^ i % 4294967296
  | [], _, i => by simp [nv]
  | x :: l, h, 0 => by
    have h1 := (W32.cons.1 h).1
    simp [nv, Nat.add_mul_mod_self_left, Nat.mod_eq_of_lt h1]
  | x :: l, h, i + 1 => by
    have h1 := (W32.cons.1 h).1
    have ih := nv_digit (W32.cons.1 h).2 i
    simp only [List.getD_cons_succ, ih, nv]
    rw [Nat.pow_succ, Nat.mul_comm (4294967296 ^ i), ← Nat.div_div_eq_div_mul, Nat.add_mul_div_left _ _ (by decide), Nat.div_eq_of_lt h1, Nat.zero_add]
theorem nv_set_add {l : List Nat} {i x : Nat} (h : i < l.length) : nv (l.set i x) + 4294967296 ^ i * l.getD i 0 = nv l + 4294967296 ^ i * x := by
  rw [nv_set l i x h, nv_at l i h, Nat.mul_add, Nat.mul_add]
  omega
theorem ext_getD {l m : List Nat} (hl : l.length = m.length) (h : ∀ i, i < l.length → l.getD i 0 = m.getD i 0) : l = m := by
  apply List.ext_getElem hl
  intro i h1 h2
  have := h i h1
  simpa [List.getD, h1, h2] using this
theorem getD_set (l : List Nat) (i j x : Nat) (h : i < l.length) : (l.set i x).getD j 0 = if j = i then x else l.getD j 0 := by
  by_cases hj : j = i
  · subst hj; simp [List.getD, h]
  · rw [if_neg hj]; simp [List.getD, List.getElem?_set, Ne.symm hj]
theorem or_add (a k b : Nat) (h : b < 2 ^ k) : (a * 2 ^ k ||| b) = a * 2 ^ k + b := by
  rw [Nat.mul_comm, Nat.two_pow_add_eq_or_of_lt h]
theorem or_add' (a k b : Nat) (h : b < 2 ^ k) : (b ||| a * 2 ^ k) = a * 2 ^ k + b := by rw [Nat.or_comm, or_add a k b h]
def win (l : List Nat) (lo m : Nat) : List Nat := (l.drop lo).take m
def put (l : List Nat) (lo m : Nat) (w : List Nat) : List Nat := l.take lo ++ w ++ l.drop (lo + m)
theorem win_length {l : List Nat} {lo m : Nat} (h : lo + m ≤ l.length) : (win l lo m).length = m := by simp [win]; omega
theorem put_length {l : List Nat} {lo m : Nat} {w : List Nat} (h : lo + m ≤ l.length) (hw : w.length = m) : (put l lo m w).length = l.length := by simp [put, hw]; omega
theorem W32.win {l : List Nat} (h : W32 l) (lo m : Nat) : W32 (win l lo m) := (h.drop lo).take m
theorem W32.put {l w : List Nat} (h : W32 l) (hw : W32 w) (lo m : Nat) : W32 (put l lo m w) := W32.append.2 ⟨W32.append.2 ⟨h.take lo, hw⟩, h.drop _⟩
theorem getD_win (l : List Nat) (lo m i : Nat) (h : i < m) : (win l lo m).getD i 0 = l.getD (lo + i) 0 := by
  simp [win, List.getD, List.getElem?_take, h, List.getElem?_drop]
theorem eq_put {l k : List Nat} {lo m : Nat} {w : List Nat} (h1 : k.take lo = l.take lo) (h2 : k.drop (lo + m) = l.drop (lo + m)) (h3 : win k lo m = w) : k = put l lo m w := by
  rw [put, ← h1, ← h2, ← h3, win, List.append_assoc, ← List.drop_drop, List.take_append_drop, List.take_append_drop]
theorem getD_of_drop {l k : List Nat} {i : Nat} (h : k.drop i = l.drop i) : k.getD i 0 = l.getD i 0 := by
  have := congrArg (fun z => z.getD 0 0) h
  simpa [List.getD, List.getElem?_drop] using this
theorem take_set_ge (k : List Nat) (lo i x : Nat) : (k.set (lo + i) x).take lo = k.take lo := List.take_set_of_le (by omega)
theorem drop_set_lt (k : List Nat) (j x : Nat) : (k.set j x).drop (j + 1) = k.drop (j + 1) := List.drop_set_of_lt (by omega)
theorem nv_win_set {k : List Nat} {lo i x : Nat} (h : lo + i < k.length) : nv (((k.set (lo + i) x).drop lo).take (i + 1)) = nv ((k.drop lo).take i) + 4294967296 ^ i * x := by
  rw [List.drop_set, if_neg (by omega), show lo + i - lo = i by omega]
  exact nv_take_set (by simp; omega)
theorem getD_drop (l : List Nat) (lo i : Nat) : (l.drop lo).getD i 0 = l.getD (lo + i) 0 := by simp [List.getD, List.getElem?_drop]
theorem drop_succ {l k : List Nat} {i : Nat} (h : k.drop i = l.drop i) : k.drop (i + 1) = l.drop (i + 1) := by
  rw [← List.drop_drop, ← List.drop_drop, h]
theorem win_put {l w : List Nat} {lo m : Nat} (h : lo + m ≤ l.length) (hw : w.length = m) : win (put l lo m w) lo m = w := by
  have h1 : (l.take lo).length = lo := by simp; omega
  rw [win, put, List.append_assoc, List.drop_append_of_le_length (by omega), List.drop_of_length_le (by omega), List.nil_append, List.take_append_of_le_length (by omega), List.take_of_length_le (by omega)]
end Lift
namespace Lift
open Go Go.Proofs
def wd (x : Nat) : D := .v (.int .u32 (x : Int))
def Wd (ws : List Nat) : D := .sl 1 (ws.map wd)
abbrev dI (n : Int) : D := .v (.int .i64 n)
abbrev dU (n : Int) : D := .v (.int .u64 n)
abbrev dB (b : Bool) : D := .v (.bool b)
theorem wU64 {x : Int} (h0 : 0 ≤ x) (h1 : x < 18446744073709551616) : IntKind.u64.wrap x = x := by
  simp only [IntKind.wrap, IntKind.bits, IntKind.signed]
  simp
  omega
theorem wU32 {x : Int} (h0 : 0 ≤ x) (h1 : x < 4294967296) : IntKind.u32.wrap x = x := by
  simp only [IntKind.wrap, IntKind.bits, IntKind.signed]
  simp
  omega
theorem wI64 {x : Int} (h0 : -9223372036854775808 ≤ x) (h1 : x ≤ 9223372036854775807) : IntKind.i64.wrap x = x := by
  rw [IntKind.wrap_i64]; omega
theorem addU (m n : Nat) (h : m + n < 18446744073709551616) : IntKind.u64.wrap ((m : Int) + (n : Int)) = ((m + n : Nat) : Int) := by rw [wU64 (by omega) (by omega)]; omega
theorem mulU (m n : Nat) (h : m * n < 18446744073709551616) : IntKind.u64.wrap ((m : Int) * (n : Int)) = ((m * n : Nat) : Int) := by
  have e : (m : Int) * (n : Int) = ((m * n : Nat) : Int) := by push_cast; rfl
  rw [e, wU64 (by omega) (by omega)]
theorem cvU64 (m : Nat) (h : m < 18446744073709551616) : IntKind.u64.wrap (m : Int) = (m : Int) := wU64 (by omega) (by omega)
theorem cvU32 (m : Nat) : IntKind.u32.wrap (m : Int) = ((m % 4294967296 : Nat) : Int) := by
  simp only [IntKind.wrap, IntKind.bits, IntKind.signed]
  simp
theorem shrU (m k : Nat) (hk : k ≤ 64) : (m : Int).fdiv (2 ^ (min k IntKind.u64.bits)) = ((m / 2 ^ k : Nat) : Int) := by
  rw [show min k IntKind.u64.bits = k from Nat.min_eq_left hk, Int.fdiv_eq_ediv_of_nonneg _ (Int.pow_nonneg (by decide))]
  push_cast
  rfl
theorem shrU32 (m : Nat) : (m : Int).fdiv (2 ^ (min 32 IntKind.u64.bits)) = ((m / 4294967296 : Nat) : Int) := shrU m 32 (by decide)
theorem shlU (m k : Nat) (hk : k ≤ 64) (h : m * 2 ^ k < 18446744073709551616) : IntKind.u64.wrap ((m : Int) * 2 ^ (min k IntKind.u64.bits)) = ((m * 2 ^ k : Nat) : Int) := by
  rw [show min k IntKind.u64.bits = k from Nat.min_eq_left hk]
  have e : (m : Int) * 2 ^ k = ((m * 2 ^ k : Nat) : Int) := by push_cast; rfl
  rw [e, wU64 (by omega) (by omega)]
theorem orU (m n : Nat) (hm : m < 18446744073709551616) (hn : n < 18446744073709551616) : IntKind.u64.wrap ((BitVec.ofInt IntKind.u64.bits (m : Int) ||| BitVec.ofInt IntKind.u64.bits (n : Int)).toNat : Int) = ((m ||| n : Nat) : Int) := by
  have hb : IntKind.u64.bits = 64 := rfl
  rw [hb, BitVec.ofInt_natCast, BitVec.ofInt_natCast, BitVec.toNat_or, BitVec.toNat_ofNat, BitVec.toNat_ofNat, Nat.mod_eq_of_lt hm, Nat.mod_eq_of_lt hn]
  have : m ||| n < 2 ^ 64 := Nat.or_lt_two_pow hm hn
  exact wU64 (by omega) (by omega)
theorem orU32 (m n : Nat) (hm : m < 4294967296) (hn : n < 4294967296) : IntKind.u32.wrap ((BitVec.ofInt IntKind.u32.bits (m : Int) ||| BitVec.ofInt IntKind.u32.bits (n : Int)).toNat : Int) = ((m ||| n : Nat) : Int) := by
  have hb : IntKind.u32.bits = 32 := rfl
  rw [hb, BitVec.ofInt_natCast, BitVec.ofInt_natCast, BitVec.toNat_or, BitVec.toNat_ofNat, BitVec.toNat_ofNat, Nat.mod_eq_of_lt hm, Nat.mod_eq_of_lt hn]
  have : m ||| n < 2 ^ 32 := Nat.or_lt_two_pow hm hn
  exact wU32 (by omega) (by omega)
theorem subU (x y c : Nat) (hx : x < 4294967296) (hy : y < 4294967296) (hc : c ≤ 1) : IntKind.u64.wrap (IntKind.u64.wrap ((x : Int) - (y : Int)) - (c : Int)) = ((if y + c ≤ x then x - y - c else 18446744073709551616 + x - y - c : Nat) : Int) := by
  simp only [IntKind.wrap, IntKind.bits, IntKind.signed]
  simp
  split <;> omega
theorem shlU32 (m : Nat) (h : m < 4294967296) : IntKind.u64.wrap ((m : Int) * 2 ^ (min 32 IntKind.u64.bits)) = ((m * 4294967296 : Nat) : Int) := shlU m 32 (by decide) (by omega)
theorem orW (m n : Nat) (hm : m < 4294967296) (hn : n < 4294967296) : IntKind.u64.wrap ((BitVec.ofInt IntKind.u64.bits ((m * 4294967296 : Nat) : Int) ||| BitVec.ofInt IntKind.u64.bits (n : Int)).toNat : Int) = ((m * 4294967296 + n : Nat) : Int) := by
  rw [orU (m * 4294967296) n (by omega) (by omega), or_add m 32 n (by omega)]
theorem orW' (m n : Nat) (hm : m < 4294967296) (hn : n < 4294967296) : IntKind.u64.wrap ((BitVec.ofInt IntKind.u64.bits (n : Int) ||| BitVec.ofInt IntKind.u64.bits ((m * 4294967296 : Nat) : Int)).toNat : Int) = ((m * 4294967296 + n : Nat) : Int) := by
  rw [orU n (m * 4294967296) (by omega) (by omega), or_add' m 32 n (by omega)]
theorem divVq (x y : Nat) (h : x < 18446744073709551616) : divV true .u64 (x : Int) (y : Int) = .int .u64 ((x / y : Nat) : Int) := by
  have e : ((x : Int).tdiv (y : Int)) = ((x / y : Nat) : Int) := rfl
  have : x / y ≤ x := Nat.div_le_self x y
  simp only [divV, e, cvU64 _ (Nat.lt_of_le_of_lt this h)]
theorem divVr (x y : Nat) : divV false .u64 (x : Int) (y : Int) = .int .u64 ((x % y : Nat) : Int) := rfl
theorem shrU63 (m : Nat) : (m : Int).fdiv (2 ^ (min 63 IntKind.u64.bits)) = ((m / 9223372036854775808 : Nat) : Int) := shrU m 63 (by decide)
theorem getWd {ws : List Nat} {i : Nat} (h : i < ws.length) : (ws.map wd)[i]? = some (wd (ws.getD i 0)) := by
  simp [h]
theorem lenWd (ws : List Nat) : (ws.map wd).length = ws.length := by simp
set_option maxHeartbeats 400000 in
theorem integer_word_ok (ws : List Nat) (hw : W32 ws) (i : Nat) : Pure Tryz.prog 145 [Wd ws, dI i] (dU (ws.getD i 0 : Nat)) := by
  refine Pure.intro (n := 14) tok Tryz.func145 rfl rfl rfl (Nat.le_of_ble_eq_true rfl) (by kernel_rfl) (fun B F0 w0 => ?_)
  refine AW.seq (AW.region ?_)
  refine AOps.run tok 1 _ _ _ _ rfl ?_
  refine AOps.nil ?_
  refine AW.seq (AW.seq (AW.region ?_))
  refine AOps.run tok 4 _ _ _ _ rfl ?_
  refine AOps.nil ?_
  refine AW.cond rfl (fun h => ?_) (fun h => ?_)
  · have h' : i < ws.length := by simpa using h
    refine AW.seq (AW.region ?_)
    refine AOps.run tok 2 _ _ _ _ rfl ?_
    refine AOps.idx tok (wd (ws.getD i 0)) rfl rfl rfl rfl (Int.natCast_nonneg i) (getWd h') ?_
    refine AOps.run tok 3 _ _ _ _ rfl ?_
    have hb := hw.getD i
    rw [wU64 (by omega) (by omega)]
    refine AOps.nil ?_
    exact AW.ret rfl
  · have h' : ws.getD i 0 = 0 := by
      have : ws.length ≤ i := by simpa using h
      simp [List.getD, List.getElem?_eq_none this]
    rw [h']
    refine AW.skip ?_
    refine AW.seq (AW.region ?_)
    refine AOps.run tok 1 _ _ _ _ rfl ?_
    refine AOps.nil ?_
    exact AW.ret rfl
def cmpN (a b : Nat) : Int := if a < b then -1 else if a = b then 0 else 1
section
variable {P : Program} {T : Ty} {B : Nat} {F0 : Nat → Prop} {w0 : Bas} {n : Nat} {o : Oper} {d : Nat} {σ : St} {K : St → Prop} {all : Array Oper} {rest : List Oper}
theorem mapWd_set (xs : List Nat) (i b : Nat) : (xs.map wd).set i (wd b) = (xs.set i b).map wd := (List.map_set ..).symm
def b4 : TI → Bool
  | ⟨_, b, _, _, _, _, _, _⟩ => Nat.beq b 4
theorem b4_ok {t : TI} (h : b4 t = true) : t.bytes = 4 := Nat.eq_of_beq_eq_true h
theorem AOps.makeW (hT : TOk P T) (k : Nat) {e : Nat} {te : TI} {m : Int} (hd : o.dst = some d) (hdn : Nat.ble (d + 1) n = true) (hg : guardOk all σ o = true) (hx : mkF T σ.get o.op = some (e, te, m)) (hz : zeroOk te = true) (hzd : zeroD te = wd 0) (hm : m = (k : Int)) (hb4 : b4 te = true) (hk : k ≤ 70368744177664)
    (h : AOps P B F0 w0 n all rest K ((d, .ow e ((List.replicate k 0).map wd)) :: σ.kill d)) : AOps P B F0 w0 n all (o :: rest) K σ := by
  subst hm
  refine AOps.make hT hd hdn hg hx hz (Int.natCast_nonneg k) (by rw [b4_ok hb4]; omega) (by omega) ?_
  rw [hzd, Int.toNat_natCast]
  simpa using h
theorem AOps.storeW (hT : TOk P T) (b : Nat) {k e i : Nat} {xs : List Nat} {z : Int} (hd : o.dst = none) (hg : guardOk all σ o = true) (hx : seF T σ o.op = some (k, .ow e (xs.map wd), xs.map wd, i, 0, .v (.int .u32 z))) (hi : i < xs.length) (hz : z = (b : Int))
    (h : AOps P B F0 w0 n all rest K ((k, .ow e ((xs.set i b).map wd)) :: σ)) : AOps P B F0 w0 n all (o :: rest) K σ := by
  subst hz
  refine AOps.storeel hT (wd (xs.getD i 0)) hd hg hx (getWd hi) rfl ?_
  rw [← mapWd_set] at h
  exact h
theorem AOps.storeV (hT : TOk P T) (b : Nat) {q : Bool} {k e i lo m : Nat} {xs : List Nat} {z : Int} (hd : o.dst = none) (hg : guardOk all σ o = true) (hx : seF T σ o.op = some (k, .wn q e (xs.map wd) lo m, xs.map wd, i, 0, .v (.int .u32 z))) (hi : i < xs.length) (hz : z = (b : Int))
    (h : AOps P B F0 w0 n all rest K ((k, .wn q e ((xs.set i b).map wd) lo m) :: σ)) : AOps P B F0 w0 n all (o :: rest) K σ := by
  subst hz
  refine AOps.storewn hT (wd (xs.getD i 0)) hd hg hx (getWd hi) rfl ?_
  rw [← mapWd_set] at h
  exact h
end
theorem StOk.elW {T : Ty} {τ : St} {o : Oper} {h e i : Nat} {xs : List Nat} {z : Int} (b : Nat) (hx : seF T τ o.op = some (h, .ow e (xs.map wd), xs.map wd, i, 0, .v (.int .u32 z))) (hi : i < xs.length) (hz : z = (b : Int)) : StOk T τ o h (.ow e ((xs.set i b).map wd)) := by
  subst hz
  have := StOk.el hx (getWd hi) rfl
  rw [← mapWd_set]
  exact this
set_option maxHeartbeats 800000 in
theorem integer_compare_ok (a b : List Nat) (ha : W32 a) (hb : W32 b) (na : Nm a) (nb : Nm b) (hla : a.length ≤ 1000000000) : Pure Tryz.prog 100 [Wd a, Wd b] (dI (cmpN (nv a) (nv b))) := by
  refine Pure.intro (n := 41) tok Tryz.func100 rfl rfl rfl (Nat.le_of_ble_eq_true rfl) (by kernel_rfl) (fun B F0 w0 => ?_)
  refine AW.seq ?_
  refine AW.region ?_
  refine AOps.run tok 1 _ _ _ _ rfl ?_
  refine AOps.nil ?_
  refine AW.seq ?_
  refine AW.seq ?_
  refine AW.region ?_
  refine AOps.run tok 5 _ _ _ _ rfl ?_
  refine AOps.nil ?_
  refine AW.cond rfl (fun h => ?_) (fun h => ?_)
  · have hne : a.length ≠ b.length := by
      have : ¬ (a.length : Int) = b.length := by simpa using h
      omega
    refine AW.seq ?_
    refine AW.seq ?_
    refine AW.region ?_
    refine AOps.run tok 5 _ _ _ _ rfl ?_
    refine AOps.nil ?_
    refine AW.cond rfl (fun h => ?_) (fun h => ?_)
    · have hlt : a.length < b.length := by simpa using h
      rw [show cmpN (nv a) (nv b) = -1 by simp [cmpN, nv_len_lt ha nb hlt]]
      refine AW.seq ?_
      refine AW.region ?_
      refine AOps.run tok 1 _ _ _ _ rfl ?_
      refine AOps.nil ?_
      exact AW.ret rfl
    · have hlt : b.length < a.length := by have : b.length ≤ a.length := by simpa using h
                                           omega
      have hl := nv_len_lt hb na hlt
      rw [show cmpN (nv a) (nv b) = 1 by unfold cmpN; rw [if_neg (by omega), if_neg (by omega)]]
      refine AW.skip ?_
      refine AW.seq ?_
      refine AW.region ?_
      refine AOps.run tok 1 _ _ _ _ rfl ?_
      refine AOps.nil ?_
      exact AW.ret rfl
  · have hl : a.length = b.length := by
      have : (a.length : Int) = b.length := by simpa using h
      omega
    refine AW.skip ?_
    refine AW.seq ?_
    refine AW.seq ?_
    refine AW.region ?_
    refine AOps.run tok 4 _ _ _ _ rfl ?_
    rw [lenWd, wI64 (by omega) (by omega)]
    refine AOps.nil ?_
    refine AW.block ?_
    refine AW.loopS [0, 1, 5] (fun k : Nat => [(0, .d (Wd a)), (1, .d (Wd b)), (5, .d (dI ((k : Int) - 1)))]) (fun k => k ≤ a.length ∧ a.drop k = b.drop k) (fun k => k) a.length rfl ⟨Nat.le_refl _, by simp [hl]⟩ (fun k ⟨hk, hd⟩ => ?_)
    refine AW.seq ?_
    refine AW.seq ?_
    refine AW.region ?_
    refine AOps.run tok 2 _ _ _ _ rfl ?_
    refine AOps.nil ?_
    refine AW.cond rfl (fun h => ?_) (fun h => ?_)
    · have hk0 : 0 < k := by have : (0 : Int) ≤ (k : Int) - 1 := by simpa using h
                             omega
      obtain ⟨j, rfl⟩ : ∃ j, k = j + 1 := ⟨k - 1, by omega⟩
      have ej : ((j + 1 : Nat) : Int) - 1 = (j : Int) := by omega
      rw [ej]
      refine AW.skip ?_
      refine AW.seq ?_
      refine AW.block ?_
      refine AW.seq ?_
      refine AW.draw hmix 9 (by kernel_rfl) ?_
      refine APre.run tok 2 _ _ _ _ rfl ?_
      refine APre.idx tok (wd (a.getD j 0)) rfl rfl rfl rfl rfl (Int.natCast_nonneg j) (getWd (by omega)) ?_
      refine APre.run tok 3 _ _ _ _ rfl ?_
      refine APre.idx tok (wd (b.getD j 0)) rfl rfl rfl rfl rfl (Int.natCast_nonneg j) (getWd (by omega)) ?_
      refine APre.run tok 2 _ _ _ _ rfl ?_
      refine APre.nil ?_
      refine AOps.nil ?_
      refine AW.cond rfl (fun h => ?_) (fun h => ?_)
      · have hne : a.getD j 0 ≠ b.getD j 0 := by
          intro e; rw [e] at h; simp at h
        refine AW.seq ?_
        refine AW.seq ?_
        refine AW.draw hmix 9 (by kernel_rfl) ?_
        refine APre.run tok 2 _ _ _ _ rfl ?_
        refine APre.idx tok (wd (a.getD j 0)) rfl rfl rfl rfl rfl (Int.natCast_nonneg j) (getWd (by omega)) ?_
        refine APre.run tok 3 _ _ _ _ rfl ?_
        refine APre.idx tok (wd (b.getD j 0)) rfl rfl rfl rfl rfl (Int.natCast_nonneg j) (getWd (by omega)) ?_
        refine APre.run tok 2 _ _ _ _ rfl ?_
        refine APre.nil ?_
        refine AOps.nil ?_
        refine AW.cond rfl (fun h => ?_) (fun h => ?_)
        · have hlt : a.getD j 0 < b.getD j 0 := by have := of_decide_eq_true h; omega
          have hv := nv_top_lt ha hb (by omega) (by omega) hlt hd
          rw [show cmpN (nv a) (nv b) = -1 by simp [cmpN, hv]]
          refine AW.seq ?_
          refine AW.region ?_
          refine AOps.run tok 1 _ _ _ _ rfl ?_
          refine AOps.nil ?_
          exact AW.ret rfl
        · have hlt : b.getD j 0 < a.getD j 0 := by have := of_decide_eq_false h; omega
          have hv := nv_top_lt hb ha (by omega) (by omega) hlt hd.symm
          rw [show cmpN (nv a) (nv b) = 1 by unfold cmpN; rw [if_neg (by omega), if_neg (by omega)]]
          refine AW.skip ?_
          refine AW.seq ?_
          refine AW.region ?_
          refine AOps.run tok 1 _ _ _ _ rfl ?_
          refine AOps.nil ?_
          exact AW.ret rfl
      · have he : a.getD j 0 = b.getD j 0 := by
          have : ((a.getD j 0 : Nat) : Int) = ((b.getD j 0 : Nat) : Int) := by simpa using h
          omega
        refine AW.skip ?_
        refine AW.region ?_
        refine AOps.run tok 3 _ _ _ _ rfl ?_
        rw [wI64 (by omega) (by omega)]
        refine AOps.nil ?_
        exact ⟨j, rfl, ⟨by omega, by rw [drop_getD a j (by omega), drop_getD b j (by omega), he, hd]⟩, by omega⟩
    · have hk0 : k = 0 := by have : ¬ (0 : Int) ≤ (k : Int) - 1 := by simpa using h
                             omega
      subst hk0
      simp at hd
      rw [show cmpN (nv a) (nv b) = 0 by rw [hd]; simp [cmpN]]
      refine AW.exit ?_
      refine AW.seq ?_
      refine AW.region ?_
      refine AOps.run tok 1 _ _ _ _ rfl ?_
      refine AOps.nil ?_
      exact AW.ret rfl
theorem WdTake (a : List Nat) (n : Nat) : (a.map wd).take n = (a.take n).map wd := by rw [List.map_take]
set_option maxHeartbeats 800000 in
theorem integer_trim_ok (a : List Nat) (ha : W32 a) (hla : a.length ≤ 1000000000) : Pure Tryz.prog 139 [Wd a] (Wd (tw (nv a))) := by
  refine Pure.intro (n := 25) tok Tryz.func139 rfl rfl rfl (Nat.le_of_ble_eq_true rfl) (by kernel_rfl) (fun B F0 w0 => ?_)
  refine AW.seq ?_
  refine AW.region ?_
  refine AOps.run tok 1 _ _ _ _ rfl ?_
  refine AOps.nil ?_
  refine AW.seq ?_
  refine AW.region ?_
  refine AOps.run tok 3 _ _ _ _ rfl ?_
  rw [lenWd]
  refine AOps.nil ?_
  refine AW.cut [0, 3] (fun k : Nat => [(0, .d (Wd a)), (3, .d (dI (k : Int)))]) (fun k => k ≤ a.length ∧ (∀ i, k ≤ i → a.getD i 0 = 0) ∧ (k = 0 ∨ a.getD (k - 1) 0 ≠ 0)) ?_ (fun k ⟨hk, hz, hnz⟩ => ?_)
  · refine AW.block ?_
    refine AW.loopS [0, 3] (fun k : Nat => [(0, .d (Wd a)), (3, .d (dI (k : Int)))]) (fun k => k ≤ a.length ∧ ∀ i, k ≤ i → a.getD i 0 = 0) (fun k => k) a.length rfl ⟨Nat.le_refl _, fun i hi => by simp [List.getD, List.getElem?_eq_none hi]⟩ (fun k ⟨hk, hz⟩ => ?_)
    refine AW.seq ?_
    refine AW.cut [0, 3, 15] (fun b : Bool => [(0, .d (Wd a)), (3, .d (dI (k : Int))), (15, .d (dB b))]) (fun b => (b = true → 0 < k ∧ a.getD (k - 1) 0 = 0) ∧ (b = false → k = 0 ∨ a.getD (k - 1) 0 ≠ 0)) ?_ (fun b ⟨ht, hf⟩ => ?_)
    · refine AW.region ?_
      refine AOps.run tok 3 _ _ _ _ rfl ?_
      refine AOps.split (t := 8) rfl (fun h => ?_) (fun h => ?_)
      · have hk0 : 0 < k := by have := of_decide_eq_true h; omega
        obtain ⟨j, rfl⟩ : ∃ j, k = j + 1 := ⟨k - 1, by omega⟩
        refine AOps.run tok 3 _ _ _ _ rfl ?_
        rw [wI64 (by omega) (by omega), show ((j + 1 : Nat) : Int) - 1 = (j : Int) by omega]
        refine AOps.idx tok (wd (a.getD j 0)) rfl rfl rfl rfl (Int.natCast_nonneg j) (getWd (by omega)) ?_
        refine AOps.run tok 3 _ _ _ _ rfl ?_
        refine AOps.nil ?_
        exact ⟨_, rfl, fun h => ⟨by omega, by have := of_decide_eq_true h; simp at this; simpa using this⟩, fun h => .inr (by simpa using h)⟩
      · have hk0 : k = 0 := by have := of_decide_eq_false h; omega
        refine AOps.run tok 7 _ _ _ _ rfl ?_
        refine AOps.nil ?_
        exact ⟨_, rfl, fun h => by simp at h, fun h => .inl hk0⟩
    · refine AW.cond rfl (fun h => ?_) (fun h => ?_)
      · obtain ⟨h0, h1⟩ := ht h
        refine AW.skip ?_
        refine AW.block ?_
        refine AW.region ?_
        refine AOps.run tok 3 _ _ _ _ rfl ?_
        rw [wI64 (by omega) (by omega)]
        refine AOps.nil ?_
        refine ⟨k - 1, by rw [show ((k - 1 : Nat) : Int) = (k : Int) - 1 by omega]; rfl, ⟨by omega, fun i hi => ?_⟩, by omega⟩
        by_cases he : i = k - 1
        · rw [he, h1]
        · exact hz i (by omega)
      · refine AW.exit ?_
        exact ⟨k, rfl, hk, hz, hf h⟩
  · have hres := tw_take ha hk hz hnz
    refine AW.seq ?_
    refine AW.seq ?_
    refine AW.region ?_
    refine AOps.run tok 2 _ _ _ _ rfl ?_
    refine AOps.nil ?_
    refine AW.cond rfl (fun h => ?_) (fun h => ?_)
    · have hk0 : k = 0 := by simpa using h
      subst hk0
      rw [← hres, List.take_zero]
      refine AW.seq ?_
      refine AW.region ?_
      refine AOps.run tok 1 _ _ _ _ rfl ?_
      refine AOps.nil ?_
      exact AW.ret rfl
    · refine AW.skip ?_
      refine AW.seq ?_
      refine AW.region ?_
      refine AOps.run tok 3 _ _ _ _ rfl ?_
      refine AOps.slc tok rfl rfl rfl rfl trivial (Int.natCast_nonneg k) (Nat.zero_le _) (by simp [hiN]; omega) ?_
      refine AOps.app0 tok rfl rfl rfl rfl (by simp [hiN]; omega) ?_
      refine AOps.run tok 1 _ _ _ _ rfl ?_
      refine AOps.nil ?_
      rw [← hres, Wd, ← WdTake]
      exact AW.ret rfl
set_option maxHeartbeats 800000 in
theorem integer_plus_ok (a b : List Nat) (ha : W32 a) (hb : W32 b) (hla : a.length ≤ 100000000) (hlb : b.length ≤ 100000000) : Pure Tryz.prog 115 [Wd a, Wd b] (Wd (tw (nv a + nv b))) := by
  refine Pure.intro (n := 39) tok Tryz.func115 rfl rfl rfl (Nat.le_of_ble_eq_true rfl) (by kernel_rfl) (fun B F0 w0 => ?_)
  obtain ⟨N, hN⟩ : ∃ N, N = max a.length b.length + 1 := ⟨_, rfl⟩
  refine AW.seq ?_
  refine AW.region ?_
  refine AOps.run tok 1 _ _ _ _ rfl ?_
  refine AOps.nil ?_
  refine AW.seq ?_
  refine AW.region ?_
  refine AOps.run tok 6 _ _ _ _ rfl ?_
  refine AOps.makeW tok N rfl rfl rfl rfl rfl rfl (by simp only [List.length_map]; rw [wI64 (by split <;> omega) (by split <;> omega)]; split <;> omega) rfl (by omega) ?_
  refine AOps.run tok 1 _ _ _ _ rfl ?_
  refine AOps.nil ?_
  refine AW.seq ?_
  refine AW.region ?_
  refine AOps.run tok 1 _ _ _ _ rfl ?_
  refine AOps.nil ?_
  refine AW.seq ?_
  refine AW.seq ?_
  refine AW.region ?_
  refine AOps.run tok 3 _ _ _ _ rfl ?_
  rw [lenWd, List.length_replicate]
  refine AOps.nil ?_
  refine AW.block ?_
  refine AW.loopS [0, 1, 5, 6, 16, 17] (fun s : Nat × List Nat × Nat => [(0, .d (Wd a)), (1, .d (Wd b)), (5, .ow 141 (s.2.1.map wd)), (6, .d (dU s.2.2)), (16, .d (dI N)), (17, .d (dI s.1))])
    (fun s => s.1 ≤ N ∧ s.2.1.length = N ∧ W32 s.2.1 ∧ s.2.2 ≤ 1 ∧ nv (s.2.1.take s.1) + 4294967296 ^ s.1 * s.2.2 = nv (a.take s.1) + nv (b.take s.1)) (fun s => N - s.1) (0, List.replicate N 0, 0) rfl ⟨Nat.zero_le _, by simp, W32.replicate N, by simp, by simp [nv]⟩ (fun (i, out, c) ⟨hi, hol, how, hc, hv⟩ => ?_)
  simp only [] at hi hol how hc hv
  refine AW.seq ?_
  refine AW.region ?_
  refine AOps.run tok 1 _ _ _ _ rfl ?_
  refine AOps.nil ?_
  refine AW.seq ?_
  refine AW.cond rfl (fun h => ?_) (fun h => ?_)
  · have hiN : i < N := by have := of_decide_eq_true h; omega
    refine AW.skip ?_
    refine AW.seq ?_
    refine AW.block ?_
    refine AW.seq ?_
    refine AW.region ?_
    refine AOps.run tok 2 _ _ _ _ rfl ?_
    refine AOps.nil ?_
    refine AW.seq ?_
    refine AW.region ?_
    refine AOps.run tok 3 _ _ _ _ rfl ?_
    refine AOps.call tok rfl rfl rfl rfl (integer_word_ok a ha i) ?_
    refine AOps.run tok 2 _ _ _ _ rfl ?_
    refine AOps.call tok rfl rfl rfl rfl (integer_word_ok b hb i) ?_
    refine AOps.run tok 3 _ _ _ _ rfl ?_
    have hx := ha.getD i
    have hy := hb.getD i
    rw [addU (a.getD i 0) (b.getD i 0) (by omega), addU c (a.getD i 0 + b.getD i 0) (by omega)]
    refine AOps.nil ?_
    refine AW.seq ?_
    refine AW.region ?_
    refine AOps.run tok 4 _ _ _ _ rfl ?_
    refine AOps.idxo tok rfl rfl rfl rfl (Int.natCast_nonneg i) (by simp; omega) ?_
    refine AOps.storeW tok ((c + (a.getD i 0 + b.getD i 0)) % 4294967296) rfl rfl rfl (by omega) (cvU32 _) ?_
    refine AOps.nil ?_
    refine AW.region ?_
    refine AOps.run tok 3 _ _ _ _ rfl ?_
    rw [shrU32]
    refine AOps.nil ?_
    refine AW.region ?_
    refine AOps.run tok 2 _ _ _ _ rfl ?_
    rw [wI64 (by omega) (by omega)]
    refine AOps.nil ?_
    refine ⟨(i + 1, out.set i ((c + (a.getD i 0 + b.getD i 0)) % 4294967296), (c + (a.getD i 0 + b.getD i 0)) / 4294967296), rfl, ⟨by omega, by simpa using hol, how.set i (by omega), by show _ / _ ≤ 1; omega, ?_⟩, by simp only []; omega⟩
    simp only [nv_take_set (show i < out.length by omega), nv_take_succ a i, nv_take_succ b i, Nat.pow_succ]
    have := carry_step (4294967296 ^ i) (c + (a.getD i 0 + b.getD i 0))
    rw [Nat.mul_add, Nat.mul_add] at this
    omega
  · have hiN : i = N := by have := of_decide_eq_false h; omega
    subst hiN
    rw [List.take_of_length_le (by omega), List.take_of_length_le (by omega), List.take_of_length_le (by omega)] at hv
    have h1 := nv_lt ha
    have h2 := nv_lt hb
    have hc0 : c = 0 := by
      have h3 := pow_le (show a.length ≤ i - 1 by omega)
      have h4 := pow_le (show b.length ≤ i - 1 by omega)
      have h5 : 4294967296 ^ i = 4294967296 ^ (i - 1) * 4294967296 := by rw [← Nat.pow_succ]; congr 1; omega
      rcases Nat.eq_zero_or_pos c with h | h
      · exact h
      · have : 4294967296 ^ i * 1 ≤ 4294967296 ^ i * c := Nat.mul_le_mul_left _ h
        omega
    have hres : nv out = nv a + nv b := by rw [hc0] at hv; simpa using hv
    refine AW.exit ?_
    refine AW.seq ?_
    refine AW.region ?_
    refine AOps.run tok 1 _ _ _ _ rfl ?_
    refine AOps.frz tok 5 rfl rfl ?_
    refine AOps.call tok rfl rfl rfl rfl (integer_trim_ok out how (by omega)) ?_
    refine AOps.run tok 1 _ _ _ _ rfl ?_
    refine AOps.nil ?_
    rw [hres]
    exact AW.ret rfl
end Lift
