/- Parts of the proof, one behind the other: the logic, the contracts of the functions that the statement reaches. -/
import Derived.Test.YtgednajkanfpaaaGreatD2E
import Derived.Laws.StructEq
set_option linter.unusedVariables false
set_option linter.unusedSimpArgs false
/- Two structs of three truth values compared. -/
namespace Lift
open Go
open Go.RowKit (Below)
section
variable {P : Program} {T : Ty} {B : Nat} {F0 : Nat → Prop} {w0 : Bas} {n d : Nat} {o : Oper} {σ : St} {K : St → Prop} {all : Array Oper} {rest : List Oper} {lk hm : Nat → Option AV}

def isBoolT (P : Program) (t : TypeId) : Bool := match P.underlying t with
  | some .bool => true
  | _ => false
theorem isBoolT_ok {t : TypeId} (h : isBoolT P t = true) : P.underlying t = some .bool := by
  unfold isBoolT at h
  split at h
  · assumption
  · cases h
/-- The type is a struct of three truth values. -/
def bool3B (P : Program) (t : TypeId) : Bool := (match P.underlying t with
  | some (.struct fs) => match fs.toList with
    | [f, g, h] => isBoolT P f.type && (isBoolT P g.type && (isBoolT P h.type && (Nat.beq f.offset 0 && (Nat.beq g.offset 1 && (Nat.beq h.offset 2 && (f.name != "_" && (g.name != "_" && h.name != "_")))))))
    | _ => false
  | _ => false) && (!P.eqGuardType P.depth t && !P.stoodInHeld t)
theorem part_bool {w : World} {t : TypeId} (ht : P.underlying t = some .bool) {cs : Array Value} {i : Nat} {v : Value} (h : cs[i]? = some v) : (part t cs i).run P w = .ok v w := by
  simp [part, isAgg, run_underlying ht, h]
theorem equal3 {w : World} {t : TypeId} (h : bool3B P t = true) (a b c x y z : Bool) : (Op.equalIn 10000 t (.agg #[.bool a, .bool b, .bool c]) (.agg #[.bool x, .bool y, .bool z])).run P w = .ok (a == x && (b == y && c == z)) w := by
  unfold bool3B at h
  rw [Bool.and_eq_true, Bool.and_eq_true, Bool.not_eq_true', Bool.not_eq_true'] at h
  obtain ⟨h1, h2, h3⟩ := h
  split at h1
  rotate_left
  · cases h1
  rename_i fs hfs
  split at h1
  rotate_left
  · cases h1
  rename_i f g h hl
  simp only [Bool.and_eq_true, bne_iff_ne, ne_eq] at h1
  obtain ⟨b1, b2, b3, o1, o2, o3, n1, n2, n3⟩ := h1
  have b1 := isBoolT_ok b1
  have b2 := isBoolT_ok b2
  have b3 := isBoolT_ok b3
  have o1 := Nat.eq_of_beq_eq_true o1
  have o2 := Nat.eq_of_beq_eq_true o2
  have o3 := Nat.eq_of_beq_eq_true o3
  have hF : P.fieldsOf t = fs := by unfold Program.fieldsOf; rw [hfs]
  rw [show (10000 : Nat) = 9999 + 1 from rfl, run_equalIn_struct w 9999 t _ _ (by rw [hF]; exact hfs) h3, hF, hl]
  have p1 : ∀ u v x : Value, (part f.type #[u, v, x] f.offset).run P w = .ok u w := fun u v x => part_bool b1 (by rw [o1]; rfl)
  have p2 : ∀ u v x : Value, (part g.type #[u, v, x] g.offset).run P w = .ok v w := fun u v x => part_bool b2 (by rw [o2]; rfl)
  have p3 : ∀ u v x : Value, (part h.type #[u, v, x] h.offset).run P w = .ok x w := fun u v x => part_bool b3 (by rw [o3]; rfl)
  have q1 := fun u v => equalIn_bool (w := w) b1 9998 (x := u) (y := v)
  have q2 := fun u v => equalIn_bool (w := w) b2 9998 (x := u) (y := v)
  have q3 := fun u v => equalIn_bool (w := w) b3 9998 (x := u) (y := v)
  simp only [Nat.reduceAdd] at q1 q2 q3
  have e : (Op.eqFields 9999 #[.bool a, .bool b, .bool c] #[.bool x, .bool y, .bool z] [f, g, h]).run P w = .ok (if (!(a == x)) = true then false else if (!(b == y)) = true then false else if (!(c == z)) = true then false else true) w := by
    simp only [Op.eqFields, ne_eq, n1, n2, n3, not_false_eq_true, if_true, Sem.run_bind, p1, Result.andThen_ok, q1]
    cases a == x
    · rfl
    simp only [Bool.not_true, Bool.false_eq_true, if_false, Sem.run_bind, p2, Result.andThen_ok, q2]
    cases b == y
    · rfl
    simp only [Bool.not_true, Bool.false_eq_true, if_false, Sem.run_bind, p3, Result.andThen_ok, q3]
    cases c == z <;> rfl
  rw [e]
  cases a == x <;> cases b == y <;> cases c == z <;> rfl
def b3D : D → Option (Bool × Bool × Bool)
  | .ag [.v (.bool a), .v (.bool b), .v (.bool c)] => some (a, b, c)
  | _ => none
def seF3 (T : Ty) (lk : Nat → Option AV) : Op → Option (TypeId × Bool × (Bool × Bool × Bool) × (Bool × Bool × Bool))
  | .binOp op t x y _ => match datF T (ex T lk 0 x), datF T (ex T lk 0 y) with
    | some a, some b => match b3D a, b3D b with
      | some p, some q => match op with
        | .eql => some (t, true, p, q)
        | .neq => some (t, false, p, q)
        | _ => none
      | _, _ => none
    | _, _ => none
  | _ => none
theorem b3D_ok {w : World} {F : Nat → Prop} {a : D} {v : Value} {p : Bool × Bool × Bool} (h : Rd w F a v) (hp : b3D a = some p) : v = .agg #[.bool p.1, .bool p.2.1, .bool p.2.2] := by
  unfold b3D at hp
  split at hp
  · rename_i x y z
    simp at hp
    subst hp
    obtain ⟨vs, rfl, hl⟩ := h.ag_eq
    have e0 := hl.1
    rcases vs with _ | ⟨v0, _ | ⟨v1, _ | ⟨v2, _ | ⟨v3, r⟩⟩⟩⟩ <;> simp at e0
    have r0 := (hl.2 0 _ v0 rfl rfl).2
    have r1 := (hl.2 1 _ v1 rfl rfl).2
    have r2 := (hl.2 2 _ v2 rfl rfl).2
    rw [r0.v_eq.1, r1.v_eq.1, r2.v_eq.1]
  · cases hp
theorem PStep.se3 (hT : TOk P T) {t : TypeId} {q : Bool} {a b : Bool × Bool × Bool} (hd : o.dst = some d) (hn : hm d = none) (hx : seF3 T lk o.op = some (t, q, a, b)) (hB : bool3B P t = true) : PStep P B F0 w0 d o lk hm (.d (.v (.bool ((a == b) == q)))) := by
  refine ⟨hd, hn, fun ac w O hI K Q hK => ?_⟩
  obtain ⟨dst, op, ty, pos, after, guard⟩ := o
  simp only [] at hd hx hI
  cases op <;> simp only [seF3] at hx <;> try (cases hx; done)
  rename_i bop t' u v ty2
  split at hx <;> try (cases hx; done)
  rename_i a1 b1 hu hv
  split at hx <;> try (cases hx; done)
  rename_i p q' hp hq
  have hu := b3D_ok (datF_ex hT hI (fun t ht => by subst ht; simp [Op.operands]) hu) hp
  have hv := b3D_ok (datF_ex hT hI (fun t ht => by subst ht; simp [Op.operands]) hv) hq
  have hm' : P.eqGuardType P.depth t = false := by
    unfold bool3B at hB
    rw [Bool.and_eq_true, Bool.and_eq_true, Bool.not_eq_true', Bool.not_eq_true'] at hB
    exact hB.2.1
  obtain ⟨p1, p2, p3⟩ := p
  obtain ⟨q1, q2, q3⟩ := q'
  simp only [] at hu hv
  have hpq : (p1 == q1 && (p2 == q2 && p3 == q3)) = ((p1, p2, p3) == (q1, q2, q3)) := rfl
  split at hx <;> simp at hx
  · obtain ⟨rfl, rfl, rfl, rfl⟩ := hx
    have hg := run_eqGuard_agg (P := P) (w := w) .eql t' u v #[.bool p1, .bool p2, .bool p3] #[.bool q1, .bool q2, .bool q3] hm'
    refine wp_val (v := .bool (((p1, p2, p3) == (q1, q2, q3)) == true)) (w' := w) ?_ (hK _ w O (Grow.refl hI.lt) (.v rfl))
    simp only [execOp, Sem.run_bind]
    rw [hu, hv, hg, Result.andThen_ok, run_eql_struct, equal3 hB, hpq]
    simp
  · obtain ⟨rfl, rfl, rfl, rfl⟩ := hx
    have hg := run_eqGuard_agg (P := P) (w := w) .neq t' u v #[.bool p1, .bool p2, .bool p3] #[.bool q1, .bool q2, .bool q3] hm'
    refine wp_val (v := .bool (((p1, p2, p3) == (q1, q2, q3)) == false)) (w' := w) ?_ (hK _ w O (Grow.refl hI.lt) (.v rfl))
    simp only [execOp, Sem.run_bind]
    rw [hu, hv, hg, Result.andThen_ok, run_neq_struct, equal3 hB, hpq]
    cases (p1, p2, p3) == (q1, q2, q3) <;> simp
theorem AOps.se3 (hT : TOk P T) {t : TypeId} {q : Bool} {a b : Bool × Bool × Bool} (hd : o.dst = some d) (hdn : Nat.ble (d + 1) n = true) (hg : guardOk all σ o = true) (hx : seF3 T σ.get o.op = some (t, q, a, b)) (hB : bool3B P t = true)
    (h : AOps P B F0 w0 n all rest K ((d, .d (.v (.bool ((a == b) == q)))) :: σ)) : AOps P B F0 w0 n all (o :: rest) K σ := AOps.pure hg hdn (PStep.se3 hT hd (hmx_self σ d) hx hB) h
end
end Lift
/- Law 50: its helpers. -/
namespace Lift
open Go Go.Proofs

theorem ext_getI {a b : List Int} (h : a.length = b.length) (hk : ∀ k, k < a.length → a.getD k 0 = b.getD k 0) : a = b := by
  refine List.ext_getElem h fun i h1 h2 => ?_
  have := hk i h1
  rwa [List.getD_eq_getElem?_getD, List.getElem?_eq_getElem h1, List.getD_eq_getElem?_getD, List.getElem?_eq_getElem h2] at this
abbrev IsD (l : List Int) : D := .sl 1 (IL l)
set_option maxHeartbeats 800000 in
theorem base_Ints_ok (a b : List Int) (ha : a.length ≤ 1000000) : Pure Tryz.prog 15 [IsD a, IsD b] (dB (decide (a = b))) := by
  refine Pure.intro (n := 26) tok Tryz.func15 rfl rfl rfl (Nat.le_of_ble_eq_true rfl) (by kernel_rfl) (fun B F0 w0 => ?_)
  refine AW.seq ?_
  refine AW.region ?_   -- "base.go:22"
  refine AOps.run tok 1 _ _ _ _ rfl ?_
  refine AOps.nil ?_
  refine AW.seq ?_
  refine AW.seq ?_
  refine AW.region ?_   -- "base.go:23"
  refine AOps.run tok 5 _ _ _ _ rfl ?_
  rw [List.length_map, List.length_map]
  refine AOps.nil ?_
  refine AW.cond rfl (fun h => ?_) (fun h => ?_)
  · have hne : a ≠ b := by rintro rfl; simp at h
    rw [decide_eq_false hne]
    refine AW.seq ?_
    refine AW.region ?_
    refine AOps.run tok 1 _ _ _ _ rfl ?_
    refine AOps.nil ?_
    exact AW.ret rfl
  have hlen : a.length = b.length := by
    have : (a.length : Int) = b.length := by simpa using h
    omega
  refine AW.skip ?_
  refine AW.seq ?_
  refine AW.seq ?_
  refine AW.region ?_
  refine AOps.run tok 1 _ _ _ _ rfl ?_
  refine AOps.nil ?_
  refine AW.block ?_
  refine AW.loopS [0, 1, 5] (fun i : Nat => [(0, .d (IsD a)), (1, .d (IsD b)), (5, .d (dI i))]) (fun i => i ≤ a.length ∧ ∀ k, k < i → a.getD k 0 = b.getD k 0) (fun i => a.length - i) 0 rfl ⟨Nat.zero_le _, fun k hk => by omega⟩ (fun i ⟨hi, hI⟩ => ?_)
  refine AW.seq ?_
  refine AW.seq ?_
  refine AW.region ?_
  refine AOps.run tok 4 _ _ _ _ rfl ?_
  rw [List.length_map]
  refine AOps.nil ?_
  refine AW.cond rfl (fun h => ?_) (fun h => ?_)
  · have hin : i < a.length := by have := of_decide_eq_true h; omega
    refine AW.skip ?_
    refine AW.seq ?_
    refine AW.block ?_
    refine AW.seq ?_
    refine AW.draw hmix 9 (by kernel_rfl) ?_
    refine APre.run tok 2 _ _ _ _ rfl ?_
    refine APre.idx tok (dI (a.getD i 0)) rfl rfl rfl rfl rfl (Int.natCast_nonneg i) (getI hin) ?_
    refine APre.run tok 3 _ _ _ _ rfl ?_
    refine APre.idx tok (dI (b.getD i 0)) rfl rfl rfl rfl rfl (Int.natCast_nonneg i) (getI (by omega)) ?_
    refine APre.run tok 2 _ _ _ _ rfl ?_
    refine APre.nil ?_
    refine AOps.nil ?_
    refine AW.cond rfl (fun h => ?_) (fun h => ?_)
    · have hne : a ≠ b := by rintro rfl; simp at h
      rw [decide_eq_false hne]
      refine AW.seq ?_
      refine AW.region ?_
      refine AOps.run tok 1 _ _ _ _ rfl ?_
      refine AOps.nil ?_
      exact AW.ret rfl
    · have he : a.getD i 0 = b.getD i 0 := by simpa using h
      refine AW.skip ?_
      refine AW.region ?_
      refine AOps.run tok 3 _ _ _ _ rfl ?_
      rw [wI64 (x := (i : Int) + 1) (by omega) (by omega)]
      refine AOps.nil ?_
      refine ⟨i + 1, rfl, ⟨hin, fun k hk => ?_⟩, by omega⟩
      rcases Nat.lt_or_ge k i with e | e
      · exact hI k e
      · rw [show k = i by omega]; exact he
  have hin : ¬ i < a.length := by have := of_decide_eq_false h; omega
  have hab : a = b := ext_getI hlen (fun k hk => hI k (by omega))
  rw [decide_eq_true hab]
  refine AW.exit ?_
  refine AW.seq ?_
  refine AW.region ?_
  refine AOps.run tok 1 _ _ _ _ rfl ?_
  refine AOps.nil ?_
  exact AW.ret rfl
theorem law50_of_ok (x y : Int) (hx : -100 ≤ x ∧ x ≤ 100) (hy : -100 ≤ y ∧ y ≤ 100) : Pure Tryz.prog 76 [dI x, dI y] (VQ ((x : Rat), (y : Rat))).D := by
  refine Pure.intro (n := 10) tok Tryz.func76 rfl rfl rfl (Nat.le_of_ble_eq_true rfl) (by kernel_rfl) (fun B F0 w0 => ?_)
  have c1 := r02_Of_ok x (by omega) (by omega)
  have c2 := r02_Of_ok y (by omega) (by omega)
  refine AW.seq ?_
  refine AW.region ?_   -- "law.go:18"
  refine AOps.run tok 1 _ _ _ _ rfl ?_
  refine AOps.nil ?_
  refine AW.seq ?_
  refine AW.region ?_   -- "law.go:19"
  refine AOps.run tok 1 _ _ _ _ rfl ?_
  refine AOps.call tok rfl rfl rfl rfl c1 ?_
  refine AOps.run tok 1 _ _ _ _ rfl ?_
  refine AOps.call tok rfl rfl rfl rfl c2 ?_
  refine AOps.run tok 2 _ _ _ _ rfl ?_
  refine AOps.nil ?_
  exact AW.ret rfl
def shR (m : Nat) (r : RD) : Bool := decide (r.n.length ≤ m) && decide (r.d.length ≤ m)
def briefB (d : DyD) : Bool := d.rs.all (shR 6)
theorem all_noS {l : List RD} {m i : Nat} (hi : i < l.length) (h : shR m (l.getD i default) = false) : l.all (shR m) = false := by
  rw [List.all_eq_false]
  exact ⟨l.getD i default, by rw [List.getD_eq_getElem?_getD, List.getElem?_eq_getElem hi]; exact List.getElem_mem hi, by rw [h]; simp⟩
theorem all_yesS {l : List RD} {m : Nat} (h : ∀ i, i < l.length → shR m (l.getD i default) = true) : l.all (shR m) = true := by
  rw [List.all_eq_true]
  intro x hx
  obtain ⟨i, hi, rfl⟩ := List.mem_iff_getElem.1 hx
  have := h i hi
  rwa [List.getD_eq_getElem?_getD, List.getElem?_eq_getElem hi] at this
set_option maxHeartbeats 800000 in
theorem law50_brief_ok (d : DyD) : Pure Tryz.prog 38 [d.D] (dB (briefB d)) := by
  refine Pure.intro (n := 36) tok Tryz.func38 rfl rfl rfl (Nat.le_of_ble_eq_true rfl) (by kernel_rfl) (fun B F0 w0 => ?_)
  unfold briefB
  have hno := fun i hi => all_noS (l := d.rs) (m := 6) (i := i) hi
  have hyes := all_yesS (l := d.rs) (m := 6)
  have hr : d.rs.map RD.D = [d.c.x.D, d.c.y.D, d.m.x.D, d.m.y.D, d.r.D] := rfl
  have hrl : d.rs.length = 5 := rfl
  have hg0 := fun i hi => getM RD.D (l := d.rs) (i := i) hi
  generalize d.rs.all (shR 6) = E at hno hyes ⊢
  generalize d.rs = L at hno hyes hr hrl hg0
  obtain ⟨⟨x, y⟩, ⟨mx, my⟩, r⟩ := d
  rw [hr] at hg0
  refine AW.seq ?_
  refine AW.region ?_   -- "law.go:45"
  refine AOps.run tok 2 _ _ _ _ rfl ?_
  refine AOps.nil ?_
  refine AW.seq ?_
  refine AW.seq ?_
  refine AW.region ?_   -- "law.go:46"
  refine AOps.run tok 14 _ _ _ _ rfl ?_
  refine AOps.bsd tok rfl rfl rfl rfl rfl ?_
  refine AOps.run tok 2 _ _ _ _ rfl ?_
  refine AOps.nil ?_
  refine AW.block ?_   -- block 0
  refine AW.loopS [19, 20, 21] (fun i : Nat => [(19, .d (.sl 3 [x.D, y.D, mx.D, my.D, r.D])), (20, .d (dI 5)), (21, .d (dI i))]) (fun i => i ≤ 5 ∧ ∀ j, j < i → shR 6 (L.getD j default) = true) (fun i => 5 - i) 0 rfl ⟨Nat.zero_le _, fun j h => by omega⟩ (fun i ⟨hi, hI⟩ => ?_)
  refine AW.seq ?_
  refine AW.region ?_
  refine AOps.run tok 1 _ _ _ _ rfl ?_
  refine AOps.nil ?_
  refine AW.seq ?_
  refine AW.cond rfl (fun h => ?_) (fun h => ?_)
  rotate_left
  · have hii : i = 5 := by have := of_decide_eq_false h; omega
    subst hii
    rw [hyes (fun j hj => hI j (by omega))]
    refine AW.exit ?_
    refine AW.seq ?_
    refine AW.region ?_
    refine AOps.run tok 1 _ _ _ _ rfl ?_
    refine AOps.nil ?_
    exact AW.ret rfl
  have hii : i < 5 := by have := of_decide_eq_true h; omega
  have hg := hg0 i (by omega)
  have hno := hno i (by omega)
  have hsh : shR 6 (L.getD i default) = (decide ((L.getD i default).n.length ≤ 6) && decide ((L.getD i default).d.length ≤ 6)) := rfl
  obtain ⟨q, hq⟩ : ∃ q, q = L.getD i default := ⟨_, rfl⟩
  rw [← hq] at hg hno hsh
  obtain ⟨qg, qn, qd⟩ := q
  simp only [] at hsh
  refine AW.skip ?_
  refine AW.seq ?_
  refine AW.block ?_
  refine AW.seq ?_
  refine AW.region ?_
  refine AOps.idx tok (RD.mk qg qn qd).D rfl rfl rfl rfl (Int.natCast_nonneg i) hg ?_
  refine AOps.run tok 3 _ _ _ _ rfl ?_
  refine AOps.nil ?_
  refine AW.seq ?_
  refine AW.region ?_
  refine AOps.run tok 3 _ _ _ _ rfl ?_
  rw [lenWd]
  refine AOps.run tok 2 _ _ _ _ rfl ?_
  by_cases h1 : qn.length ≤ 6
  rotate_left
  · rw [decide_eq_true (show (6 : Int) < (qn.length : Int) by omega)]
    rw [decide_eq_false h1] at hsh
    rw [hno hsh]
    refine AOps.run tok 5 _ _ _ _ rfl ?_
    refine AOps.nil ?_
    refine AW.condT rfl ?_
    refine AW.seq ?_
    refine AW.region ?_
    refine AOps.run tok 1 _ _ _ _ rfl ?_
    refine AOps.nil ?_
    exact AW.ret rfl
  rw [decide_eq_false (show ¬ (6 : Int) < (qn.length : Int) by omega)]
  refine AOps.run tok 3 _ _ _ _ rfl ?_
  rw [lenWd]
  refine AOps.run tok 1 _ _ _ _ rfl ?_
  by_cases h2 : qd.length ≤ 6
  rotate_left
  · rw [decide_eq_true (show (6 : Int) < (qd.length : Int) by omega)]
    rw [decide_eq_false h2, Bool.and_false] at hsh
    rw [hno hsh]
    refine AOps.run tok 1 _ _ _ _ rfl ?_
    refine AOps.nil ?_
    refine AW.condT rfl ?_
    refine AW.seq ?_
    refine AW.region ?_
    refine AOps.run tok 1 _ _ _ _ rfl ?_
    refine AOps.nil ?_
    exact AW.ret rfl
  rw [decide_eq_false (show ¬ (6 : Int) < (qd.length : Int) by omega)]
  refine AOps.run tok 1 _ _ _ _ rfl ?_
  refine AOps.nil ?_
  refine AW.condF rfl ?_
  refine AW.skip ?_
  refine AW.region ?_
  refine AOps.run tok 1 _ _ _ _ rfl ?_
  rw [wI64 (x := (i : Int) + 1) (by omega) (by omega)]
  refine AOps.run tok 1 _ _ _ _ rfl ?_
  refine AOps.nil ?_
  refine ⟨i + 1, rfl, ⟨hii, fun j hj => ?_⟩, by omega⟩
  by_cases e : j = i
  · rw [e, ← hq]; show (decide (qn.length ≤ 6) && decide (qd.length ≤ 6)) = true; rw [decide_eq_true h1, decide_eq_true h2]; rfl
  · exact hI j (by omega)
end Lift
/- Law 50: short, the example, awake. -/
namespace Lift
open Go Go.Proofs

def PoD.rs (p : PoD) : List RD := [p.t.t, p.l.x, p.l.y]
def shP (p : PoD) : Bool := p.rs.all (shR 2)
def short17 (l : List PoD) : Bool := l.all shP
theorem short17_no {l : List PoD} {i : Nat} (hi : i < l.length) (h : shP (l.getD i default) = false) : short17 l = false := by
  unfold short17
  rw [List.all_eq_false]
  exact ⟨l.getD i default, by rw [List.getD_eq_getElem?_getD, List.getElem?_eq_getElem hi]; exact List.getElem_mem hi, by rw [h]; simp⟩
theorem short17_yes {l : List PoD} (h : ∀ i, i < l.length → shP (l.getD i default) = true) : short17 l = true := by
  unfold short17
  rw [List.all_eq_true]
  intro x hx
  obtain ⟨i, hi, rfl⟩ := List.mem_iff_getElem.1 hx
  have := h i hi
  rwa [List.getD_eq_getElem?_getD, List.getElem?_eq_getElem hi] at this
set_option maxHeartbeats 1600000 in
theorem r17_Short_ok (l : List PoD) (hl : l.length ≤ 4611686018427387904) : Pure Tryz.prog 33 [PoL l] (dB (short17 l)) := by
  refine Pure.intro (n := 40) tok Tryz.func33 rfl rfl rfl (Nat.le_of_ble_eq_true rfl) (by kernel_rfl) (fun B F0 w0 => ?_)
  have hno := fun i hi => short17_no (l := l) (i := i) hi
  have hyes := short17_yes (l := l)
  generalize short17 l = E at hno hyes ⊢
  refine AW.seq ?_
  refine AW.region ?_   -- "ref.go:130"
  refine AOps.run tok 1 _ _ _ _ rfl ?_
  refine AOps.nil ?_
  refine AW.seq ?_
  refine AW.seq ?_
  refine AW.region ?_   -- "ref.go:131"
  refine AOps.run tok 2 _ _ _ _ rfl ?_
  rw [List.length_map]
  refine AOps.run tok 1 _ _ _ _ rfl ?_
  refine AOps.nil ?_
  refine AW.block ?_   -- block 0
  refine AW.loopS [7, 8, 9] (fun i : Nat => [(7, .d (PoL l)), (8, .d (dI l.length)), (9, .d (dI i))]) (fun i => i ≤ l.length ∧ ∀ j, j < i → shP (l.getD j default) = true) (fun i => l.length - i) 0 rfl ⟨Nat.zero_le _, fun j h => by omega⟩ (fun i ⟨hi, hI⟩ => ?_)
  refine AW.seq ?_
  refine AW.region ?_
  refine AOps.run tok 1 _ _ _ _ rfl ?_
  refine AOps.nil ?_
  refine AW.seq ?_
  refine AW.cond rfl (fun h => ?_) (fun h => ?_)
  rotate_left
  · have hii : ¬ i < l.length := by have := of_decide_eq_false h; omega
    rw [hyes (fun j hj => hI j (by omega))]
    refine AW.exit ?_
    refine AW.seq ?_
    refine AW.region ?_
    refine AOps.run tok 1 _ _ _ _ rfl ?_
    refine AOps.nil ?_
    exact AW.ret rfl
  have hii : i < l.length := by have := of_decide_eq_true h; omega
  have hg := getM PoD.D (l := l) (i := i) hii
  have hnoi := hno i hii
  have hsP : shP (l.getD i default) = (l.getD i default).rs.all (shR 2) := rfl
  have hrs : ∀ p : PoD, p.rs.map RD.D = [p.t.t.D, p.l.x.D, p.l.y.D] := fun _ => rfl
  have hrl : ∀ p : PoD, p.rs.length = 3 := fun _ => rfl
  have hg0 := fun j hj => getM RD.D (l := (l.getD i default).rs) (i := j) hj
  have hn2 := fun j hj => all_noS (l := (l.getD i default).rs) (m := 2) (i := j) hj
  have hy2 := all_yesS (l := (l.getD i default).rs) (m := 2)
  rw [hrs] at hg0
  have hrl := hrl (l.getD i default)
  obtain ⟨p, hp⟩ : ∃ p, p = l.getD i default := ⟨_, rfl⟩
  rw [← hp] at hg hnoi hsP hg0 hn2 hy2 hrl
  rw [hsP] at hnoi
  generalize p.rs.all (shR 2) = e at hnoi hsP hn2 hy2
  generalize p.rs = L at hg0 hn2 hy2 hrl
  obtain ⟨⟨t, hf⟩, ⟨x, y⟩⟩ := p
  refine AW.skip ?_
  refine AW.seq ?_
  refine AW.block ?_
  refine AW.seq ?_
  refine AW.region ?_
  refine AOps.idx tok (PoD.mk ⟨t, hf⟩ ⟨x, y⟩).D rfl rfl rfl rfl (Int.natCast_nonneg i) hg ?_
  refine AOps.run tok 3 _ _ _ _ rfl ?_
  refine AOps.nil ?_
  refine AW.seq ?_
  refine AW.region ?_
  refine AOps.run tok 9 _ _ _ _ rfl ?_
  refine AOps.bsd tok rfl rfl rfl rfl rfl ?_
  refine AOps.run tok 2 _ _ _ _ rfl ?_
  refine AOps.nil ?_
  refine AW.block ?_
  refine AW.loopS [7, 8, 9, 22, 23, 24] (fun j : Nat => [(7, .d (PoL l)), (8, .d (dI l.length)), (9, .d (dI i)), (22, .d (.sl 3 [t.D, x.D, y.D])), (23, .d (dI 3)), (24, .d (dI j))]) (fun j => j ≤ 3 ∧ ∀ m, m < j → shR 2 (L.getD m default) = true) (fun j => 3 - j) 0 rfl ⟨Nat.zero_le _, fun m h => by omega⟩ (fun j ⟨hj, hJ⟩ => ?_)
  refine AW.seq ?_
  refine AW.region ?_
  refine AOps.run tok 1 _ _ _ _ rfl ?_
  refine AOps.nil ?_
  refine AW.seq ?_
  refine AW.cond rfl (fun h2 => ?_) (fun h2 => ?_)
  rotate_left
  · have hjj : j = 3 := by have := of_decide_eq_false h2; omega
    subst hjj
    have he := hy2 (fun m hm => hJ m (by omega))
    refine AW.exit ?_
    refine AW.region ?_
    refine AOps.run tok 1 _ _ _ _ rfl ?_
    rw [wI64 (x := (i : Int) + 1) (by omega) (by omega)]
    refine AOps.run tok 1 _ _ _ _ rfl ?_
    refine AOps.nil ?_
    refine ⟨i + 1, rfl, ⟨hii, fun m hm => ?_⟩, by omega⟩
    by_cases e1 : m = i
    · rw [e1, ← hp, hsP, he]
    · exact hI m (by omega)
  have hjj : j < 3 := by have := of_decide_eq_true h2; omega
  have hg2 := hg0 j (by omega)
  have hn2 := hn2 j (by omega)
  have hsh : shR 2 (L.getD j default) = (decide ((L.getD j default).n.length ≤ 2) && decide ((L.getD j default).d.length ≤ 2)) := rfl
  obtain ⟨q, hq⟩ : ∃ q, q = L.getD j default := ⟨_, rfl⟩
  rw [← hq] at hg2 hn2 hsh
  obtain ⟨qg, qn, qd⟩ := q
  simp only [] at hsh
  refine AW.skip ?_
  refine AW.seq ?_
  refine AW.block ?_
  refine AW.seq ?_
  refine AW.region ?_
  refine AOps.idx tok (RD.mk qg qn qd).D rfl rfl rfl rfl (Int.natCast_nonneg j) hg2 ?_
  refine AOps.run tok 3 _ _ _ _ rfl ?_
  refine AOps.nil ?_
  refine AW.seq ?_
  refine AW.region ?_
  refine AOps.run tok 3 _ _ _ _ rfl ?_
  rw [lenWd]
  refine AOps.run tok 2 _ _ _ _ rfl ?_
  by_cases h1 : qn.length ≤ 2
  rotate_left
  · rw [decide_eq_true (show (2 : Int) < (qn.length : Int) by omega)]
    rw [decide_eq_false h1] at hsh
    rw [hnoi (hn2 hsh)]
    refine AOps.run tok 5 _ _ _ _ rfl ?_
    refine AOps.nil ?_
    refine AW.condT rfl ?_
    refine AW.seq ?_
    refine AW.region ?_
    refine AOps.run tok 1 _ _ _ _ rfl ?_
    refine AOps.nil ?_
    exact AW.ret rfl
  rw [decide_eq_false (show ¬ (2 : Int) < (qn.length : Int) by omega)]
  refine AOps.run tok 3 _ _ _ _ rfl ?_
  rw [lenWd]
  refine AOps.run tok 1 _ _ _ _ rfl ?_
  by_cases h3 : qd.length ≤ 2
  rotate_left
  · rw [decide_eq_true (show (2 : Int) < (qd.length : Int) by omega)]
    rw [decide_eq_false h3, Bool.and_false] at hsh
    rw [hnoi (hn2 hsh)]
    refine AOps.run tok 1 _ _ _ _ rfl ?_
    refine AOps.nil ?_
    refine AW.condT rfl ?_
    refine AW.seq ?_
    refine AW.region ?_
    refine AOps.run tok 1 _ _ _ _ rfl ?_
    refine AOps.nil ?_
    exact AW.ret rfl
  rw [decide_eq_false (show ¬ (2 : Int) < (qd.length : Int) by omega)]
  refine AOps.run tok 1 _ _ _ _ rfl ?_
  refine AOps.nil ?_
  refine AW.condF rfl ?_
  refine AW.skip ?_
  refine AW.region ?_
  refine AOps.run tok 1 _ _ _ _ rfl ?_
  rw [wI64 (x := (j : Int) + 1) (by omega) (by omega)]
  refine AOps.run tok 1 _ _ _ _ rfl ?_
  refine AOps.nil ?_
  refine ⟨j + 1, rfl, ⟨hjj, fun m hm => ?_⟩, by omega⟩
  by_cases e1 : m = j
  · rw [e1, ← hq]; show (decide (qn.length ≤ 2) && decide (qd.length ≤ 2)) = true; rw [decide_eq_true h1, decide_eq_true h3]; rfl
  · exact hJ m (by omega)
end Lift
/- Law 50: the example, awake. -/
namespace Lift
open Go Go.Proofs

def exL : List PoD := [PoQ (some 0, (0, 0)), PoQ (some 0, (((1 : Int) : Rat), ((1 : Int) : Rat))), PoQ (some 0, (((2 : Int) : Rat), ((0 : Int) : Rat)))]
def exA : DyD := DyQ ((((1 : Int) : Rat), ((0 : Int) : Rat)), (0, 0), ((1 : Int) : Rat))
def exB : DyD := DyQ ((((5 : Int) : Rat), ((0 : Int) : Rat)), (((4 : Int) : Rat), ((0 : Int) : Rat)), ((1 : Int) : Rat))
theorem ex_chk : chkD exL exA exB = 0 := by decide +kernel
theorem ex_sg : (exL.map PoD.val).map (sgnF exA.val exB.val) = [0, -1, 0] := by decide +kernel
theorem ex_un : anyR (unB (rdB (exL.map PoD.val) exA.val exB.val)) ((rdB (exL.map PoD.val) exA.val exB.val).u.length - 1) = false := by decide +kernel
theorem ex_br : anyR (brB (rdB (exL.map PoD.val) exA.val exB.val).sg) (rdB (exL.map PoD.val) exA.val exB.val).sg.length = true := by decide +kernel
theorem ex_or : orderF (rdB (exL.map PoD.val) exA.val exB.val).u = false := by decide +kernel
theorem ex_ci : anyR (ciB (rdB (exL.map PoD.val) exA.val exB.val)) ((rdB (exL.map PoD.val) exA.val exB.val).u.length - 1) = true := by decide +kernel
theorem exL_D : PoL exL = .sl 10 [.ag [dB false, .sl 1 [], .sl 1 [], dB false, dB false, .sl 1 [], .sl 1 [], dB false, .sl 1 [], .sl 1 []], .ag [dB false, .sl 1 [], .sl 1 [], dB false, dB (Qr ((1 : Int) : Rat)).g, Wd (Qr ((1 : Int) : Rat)).n, Wd (Qr ((1 : Int) : Rat)).d, dB (Qr ((1 : Int) : Rat)).g, Wd (Qr ((1 : Int) : Rat)).n, Wd (Qr ((1 : Int) : Rat)).d], .ag [dB false, .sl 1 [], .sl 1 [], dB false, dB (Qr ((2 : Int) : Rat)).g, Wd (Qr ((2 : Int) : Rat)).n, Wd (Qr ((2 : Int) : Rat)).d, dB (Qr ((0 : Int) : Rat)).g, Wd (Qr ((0 : Int) : Rat)).n, Wd (Qr ((0 : Int) : Rat)).d]] := by
  show D.sl 10 [.ag [dB (Qr 0).g, Wd (Qr 0).n, Wd (Qr 0).d, dB false, dB (Qr 0).g, Wd (Qr 0).n, Wd (Qr 0).d, dB (Qr 0).g, Wd (Qr 0).n, Wd (Qr 0).d], .ag [dB (Qr 0).g, Wd (Qr 0).n, Wd (Qr 0).d, dB false, dB (Qr ((1 : Int) : Rat)).g, Wd (Qr ((1 : Int) : Rat)).n, Wd (Qr ((1 : Int) : Rat)).d, dB (Qr ((1 : Int) : Rat)).g, Wd (Qr ((1 : Int) : Rat)).n, Wd (Qr ((1 : Int) : Rat)).d], .ag [dB (Qr 0).g, Wd (Qr 0).n, Wd (Qr 0).d, dB false, dB (Qr ((2 : Int) : Rat)).g, Wd (Qr ((2 : Int) : Rat)).n, Wd (Qr ((2 : Int) : Rat)).d, dB (Qr ((0 : Int) : Rat)).g, Wd (Qr ((0 : Int) : Rat)).n, Wd (Qr ((0 : Int) : Rat)).d]] = _
  rw [Qr_zero]; rfl
theorem exA_D : exA.D = .ag [dB (Qr ((1 : Int) : Rat)).g, Wd (Qr ((1 : Int) : Rat)).n, Wd (Qr ((1 : Int) : Rat)).d, dB (Qr ((0 : Int) : Rat)).g, Wd (Qr ((0 : Int) : Rat)).n, Wd (Qr ((0 : Int) : Rat)).d, dB false, .sl 1 [], .sl 1 [], dB false, .sl 1 [], .sl 1 [], dB (Qr ((1 : Int) : Rat)).g, Wd (Qr ((1 : Int) : Rat)).n, Wd (Qr ((1 : Int) : Rat)).d] := by
  show D.ag [dB (Qr ((1 : Int) : Rat)).g, Wd (Qr ((1 : Int) : Rat)).n, Wd (Qr ((1 : Int) : Rat)).d, dB (Qr ((0 : Int) : Rat)).g, Wd (Qr ((0 : Int) : Rat)).n, Wd (Qr ((0 : Int) : Rat)).d, dB (Qr 0).g, Wd (Qr 0).n, Wd (Qr 0).d, dB (Qr 0).g, Wd (Qr 0).n, Wd (Qr 0).d, dB (Qr ((1 : Int) : Rat)).g, Wd (Qr ((1 : Int) : Rat)).n, Wd (Qr ((1 : Int) : Rat)).d] = _
  rw [Qr_zero]; rfl
abbrev ExD : D := .tu [PoL exL, exA.D, exB.D]
theorem law50_Example_ok : Pure Tryz.prog 37 [] ExD := by
  refine Pure.intro (n := 18) tok Tryz.func37 rfl rfl rfl (Nat.le_of_ble_eq_true rfl) (by kernel_rfl) (fun B F0 w0 => ?_)
  have o1 := r02_Of_ok 1 (by decide) (by decide)
  have c1 := law50_of_ok 1 1 (by decide) (by decide)
  have c2 := law50_of_ok 2 0 (by decide) (by decide)
  have c3 := law50_of_ok 1 0 (by decide) (by decide)
  have c4 := law50_of_ok 5 0 (by decide) (by decide)
  have c5 := law50_of_ok 4 0 (by decide) (by decide)
  refine AW.seq ?_
  refine AW.region ?_   -- "law.go:23"
  refine AOps.run tok 3 _ _ _ _ rfl ?_
  refine AOps.nil ?_
  refine AW.seq ?_
  refine AW.region ?_   -- "law.go:24"
  refine AOps.call tok rfl rfl rfl rfl o1 ?_
  refine AOps.run tok 2 _ _ _ _ rfl ?_
  refine AOps.nil ?_
  refine AW.seq ?_
  refine AW.draw3 tok hmix [(11, true), (2, false), (1, true)] 14 [1, 2] (by kernel_rfl) ⟨rfl, ?_⟩
  refine APre.run tok 1 _ _ _ _ rfl ?_
  refine APre.call tok rfl rfl rfl rfl rfl c1 ?_
  refine APre.run tok 1 _ _ _ _ rfl ?_
  refine APre.call tok rfl rfl rfl rfl rfl c2 ?_
  refine APre.run tok 1 _ _ _ _ rfl ?_
  refine APre.bsd tok rfl rfl rfl rfl rfl rfl ?_
  refine APre.call tok rfl rfl rfl rfl rfl c3 ?_
  refine APre.run tok 2 _ _ _ _ rfl ?_
  refine APre.call tok rfl rfl rfl rfl rfl c4 ?_
  refine APre.call tok rfl rfl rfl rfl rfl c5 ?_
  refine APre.nil ⟨rfl, ?_⟩
  refine APre.run tok 2 _ _ _ _ rfl ?_
  refine APre.nil ⟨rfl, ?_⟩
  refine APre.run tok 1 _ _ _ _ rfl ?_
  refine APre.nil ⟨_, StL.cons (.bx rfl) (StL.cons (.bx rfl) (StL.nil)), ?_⟩
  refine AOps.nil ?_
  unfold ExD
  rw [exL_D, exA_D]
  exact AW.ret rfl
end Lift
/- Law 50: awake, short. -/
namespace Lift
open Go Go.Proofs

theorem LQ_i (n : Int) (h : -100 ≤ n ∧ n ≤ 100) : LQ (n : Rat) ≤ 2 := by
  have h1 := LQ_of n
  have h2 : L n ≤ 2 := L_le (by omega)
  omega
theorem exL_w : ∀ i, i < exL.length → (exL.getD i default).w 2 := fun i hi => by
  have z : LQ 0 ≤ 2 := by rw [LQ_zero]; decide
  have i0 := LQ_i 0 (by decide)
  have i1 := LQ_i 1 (by decide)
  have i2 := LQ_i 2 (by decide)
  have hi : i < 3 := hi
  rcases i with _ | _ | _ | i
  · exact ⟨Qr_w _ z, Qr_w _ z, Qr_w _ z⟩
  · exact ⟨Qr_w _ z, Qr_w _ i1, Qr_w _ i1⟩
  · exact ⟨Qr_w _ z, Qr_w _ i2, Qr_w _ i0⟩
  · omega
theorem exA_w : exA.w 2 := by
  have z : LQ 0 ≤ 2 := by rw [LQ_zero]; decide
  exact ⟨⟨Qr_w _ (LQ_i 1 (by decide)), Qr_w _ (LQ_i 0 (by decide))⟩, ⟨Qr_w _ z, Qr_w _ z⟩, Qr_w _ (LQ_i 1 (by decide))⟩
theorem exB_w : exB.w 2 := ⟨⟨Qr_w _ (LQ_i 5 (by decide)), Qr_w _ (LQ_i 0 (by decide))⟩, ⟨Qr_w _ (LQ_i 4 (by decide)), Qr_w _ (LQ_i 0 (by decide))⟩, Qr_w _ (LQ_i 1 (by decide))⟩
theorem ex_Signs : signsD exL exA exB = .tu [IsD [0, -1, 0], nilE] := by
  unfold signsD
  rw [if_pos ex_chk, ex_sg]
theorem ex_Report : reportD exL exA exB = .tu [DfD true false true, nilE] := by
  unfold reportD rptD
  rw [if_neg (by rw [ex_chk]; simp), ex_un, ex_br, ex_or, ex_ci, if_neg (by simp)]
theorem law50_awake_ok : Pure Tryz.prog 10 [] (dB true) := by
  refine Pure.intro (n := 43) tok Tryz.func10 rfl rfl rfl (Nat.le_of_ble_eq_true rfl) (by kernel_rfl) (fun B F0 w0 => ?_)
  have cE := law50_Example_ok
  have cS := defects_Signs_ok exL exA exB (k := 2) (show 3 ≤ 1000000 by decide) exL_w exA_w exB_w (by decide) (by decide)
  have cR := defects_Report_ok exL exA exB (k := 2) (show 3 ≤ 1000000 by decide) exL_w exA_w exB_w (by decide) (by decide)
  rw [ex_Signs] at cS
  rw [ex_Report] at cR
  have cI := base_Ints_ok [0, -1, 0] [0, -1, 0] (show 3 ≤ 1000000 by decide)
  rw [decide_eq_true rfl] at cI
  unfold ExD at cE
  generalize exL = l at cE cS cR
  generalize exA = d at cE cS cR
  generalize exB = e at cE cS cR
  refine AW.seq ?_
  refine AW.region ?_   -- "law.go:29"
  refine AOps.run tok 1 _ _ _ _ rfl ?_
  refine AOps.nil ?_
  refine AW.seq ?_
  refine AW.region ?_   -- "law.go:30"
  refine AOps.call tok rfl rfl rfl rfl cE ?_
  refine AOps.run tok 9 _ _ _ _ rfl ?_
  refine AOps.nil ?_
  refine AW.seq ?_
  refine AW.region ?_   -- "law.go:31"
  refine AOps.run tok 3 _ _ _ _ rfl ?_
  refine AOps.call tok rfl rfl rfl rfl cS ?_
  refine AOps.run tok 5 _ _ _ _ rfl ?_
  refine AOps.nil ?_
  refine AW.seq ?_
  refine AW.region ?_   -- "law.go:32"
  refine AOps.run tok 3 _ _ _ _ rfl ?_
  refine AOps.call tok rfl rfl rfl rfl cR ?_
  refine AOps.run tok 6 _ _ _ _ rfl ?_
  refine AOps.nil ?_
  refine AW.seq ?_
  refine AW.region ?_   -- "law.go:33"   -- GUARDS
  refine AOps.run tok 1 _ _ _ _ rfl ?_
  refine AOps.err tok rfl rfl rfl rfl rfl ?_
  refine AOps.run tok 2 _ _ _ _ rfl ?_
  refine AOps.err tok rfl rfl rfl rfl rfl ?_
  refine AOps.run tok 3 _ _ _ _ rfl ?_
  refine AOps.bsd tok rfl rfl rfl rfl rfl ?_
  refine AOps.call tok rfl rfl rfl rfl cI ?_
  refine AOps.run tok 4 _ _ _ _ rfl ?_
  refine AOps.se3 tok rfl rfl rfl rfl (by kernel_rfl) ?_
  refine AOps.run tok 2 _ _ _ _ rfl ?_
  refine AOps.nil ?_
  exact AW.ret rfl
/-- A four-bar: two dyads. -/
abbrev FourD (d e : DyD) : D := .ag (d.D.flat ++ e.D.flat)
def shortB (l : List PoD) (d e : DyD) : Bool := decide (l.length ≤ 20) && (short17 l && (briefB d && briefB e))
theorem law50_short_ok (l : List PoD) (d e : DyD) (hl : l.length ≤ 4611686018427387904) : Pure Tryz.prog 11 [PoL l, FourD d e] (dB (shortB l d e)) := by
  refine Pure.intro (n := 22) tok Tryz.func11 rfl rfl rfl (Nat.le_of_ble_eq_true rfl) (by kernel_rfl) (fun B F0 w0 => ?_)
  have c1 := r17_Short_ok l hl
  have c2 := law50_brief_ok d
  have c3 := law50_brief_ok e
  unfold shortB
  generalize short17 l = s at c1 ⊢
  generalize briefB d = b1 at c2 ⊢
  generalize briefB e = b2 at c3 ⊢
  refine AW.seq ?_
  refine AW.region ?_   -- "law.go:40"
  refine AOps.run tok 2 _ _ _ _ rfl ?_
  refine AOps.nil ?_
  refine AW.seq ?_
  refine AW.region ?_   -- "law.go:41"   -- GUARDS
  refine AOps.run tok 2 _ _ _ _ rfl ?_
  rw [List.length_map]
  refine AOps.run tok 2 _ _ _ _ rfl ?_
  by_cases h : l.length ≤ 20
  rotate_left
  · rw [decide_eq_false h, decide_eq_false (show ¬ (l.length : Int) ≤ 20 by omega)]
    refine AOps.run tok 14 _ _ _ _ rfl ?_
    refine AOps.nil ?_
    exact AW.ret rfl
  rw [decide_eq_true h, decide_eq_true (show (l.length : Int) ≤ 20 by omega)]
  refine AOps.run tok 1 _ _ _ _ rfl ?_
  refine AOps.call tok rfl rfl rfl rfl c1 ?_
  refine AOps.run tok 2 _ _ _ _ rfl ?_
  cases s with
  | false =>
    refine AOps.run tok 10 _ _ _ _ rfl ?_
    refine AOps.nil ?_
    exact AW.ret rfl
  | true =>
  refine AOps.run tok 2 _ _ _ _ rfl ?_
  refine AOps.call tok rfl rfl rfl rfl c2 ?_
  refine AOps.run tok 2 _ _ _ _ rfl ?_
  cases b1 with
  | false =>
    refine AOps.run tok 5 _ _ _ _ rfl ?_
    refine AOps.nil ?_
    exact AW.ret rfl
  | true =>
  refine AOps.run tok 2 _ _ _ _ rfl ?_
  refine AOps.call tok rfl rfl rfl rfl c3 ?_
  refine AOps.run tok 2 _ _ _ _ rfl ?_
  refine AOps.nil ?_
  exact AW.ret rfl
end Lift
/- The reference: places and poses. Partly as GearW. -/
namespace Lift
open Go Go.Proofs

theorem r02_Div_ok (r s : RD) {k : Nat} (hr : r.w k) (hs : s.w k) (hk : k ≤ 20000000) (h0 : s.val ≠ 0) : Pure Tryz.prog 175 [r.D, s.D] (.tu [(Qr (r.val / s.val)).D, dI 0]) := by
  refine Pure.intro (n := 29) tok Tryz.func175 rfl rfl rfl (Nat.le_of_ble_eq_true rfl) (by kernel_rfl) (fun B F0 w0 => ?_)
  have hl := LQ_val (hr.mono (Nat.le_max_left k 1)) (Nat.le_max_right k 1)
  have hm := LQ_val (hs.mono (Nat.le_max_left k 1)) (Nat.le_max_right k 1)
  have := Lnum r.val; have := Lden r.val; have := Lnum s.val; have := Lden s.val
  obtain ⟨d1, d2, d3⟩ := div_sz hl hm h0
  rw [← div_divInt r.val s.val h0]
  refine AW.seq ?_
  refine AW.region ?_
  refine AOps.run tok 4 _ _ _ _ rfl ?_
  refine AOps.nil ?_
  refine AW.seq ?_
  refine AW.region ?_
  refine AOps.run tok 1 _ _ _ _ rfl ?_
  refine AOps.call tok rfl rfl rfl rfl (r02_Parts_ok r hr (by omega)) ?_
  refine AOps.run tok 7 _ _ _ _ rfl ?_
  refine AOps.nil ?_
  refine AW.seq ?_
  refine AW.region ?_
  refine AOps.run tok 1 _ _ _ _ rfl ?_
  refine AOps.call tok rfl rfl rfl rfl (r02_Parts_ok s hs (by omega)) ?_
  refine AOps.run tok 7 _ _ _ _ rfl ?_
  refine AOps.nil ?_
  refine AW.seq ?_
  refine AW.draw hmix 9 (by kernel_rfl) ?_
  refine APre.run tok 2 _ _ _ _ rfl ?_
  refine APre.call tok rfl rfl rfl rfl rfl (r01_Mul_ok r.val.num s.val.den (by omega) (by omega)) ?_
  refine APre.run tok 2 _ _ _ _ rfl ?_
  refine APre.call tok rfl rfl rfl rfl rfl (r01_Mul_ok r.val.den s.val.num (by omega) (by omega)) ?_
  refine APre.call tok rfl rfl rfl rfl rfl (r02_From_ok (r.val.num * s.val.den) (r.val.den * s.val.num) (by omega) (by omega) d3) ?_
  refine APre.run tok 2 _ _ _ _ rfl ?_
  refine APre.nil ?_
  refine AOps.run tok 2 _ _ _ _ rfl ?_
  refine AOps.nil ?_
  exact AW.ret rfl
theorem r17_Zero_ok (a : RD) {k : Nat} (h : a.w k) (hk : k ≤ 20000000) : Pure Tryz.prog 105 [a.D] (dB (decide (a.val = 0))) := by
  refine Pure.intro (n := 6) tok Tryz.func105 rfl rfl rfl (Nat.le_of_ble_eq_true rfl) (by kernel_rfl) (fun B F0 w0 => ?_)
  have c := r02_Sign_ok a h hk
  have e : decide (a.val = 0) = (sgI a.val.num == 0) := by
    by_cases h0 : a.val = 0
    · rw [decide_eq_true h0, beq_iff_eq.2 (sgI0.2 h0)]
    · rw [decide_eq_false h0, beq_eq_false_iff_ne.2 (fun h => h0 (sgI0.1 h))]
  rw [e]
  refine AW.seq ?_
  refine AW.region ?_   -- "ref.go:10"
  refine AOps.run tok 2 _ _ _ _ rfl ?_
  refine AOps.nil ?_
  refine AW.seq ?_
  refine AW.region ?_   -- "ref.go:10"
  refine AOps.run tok 1 _ _ _ _ rfl ?_
  refine AOps.call tok rfl rfl rfl rfl c ?_
  refine AOps.run tok 2 _ _ _ _ rfl ?_
  refine AOps.nil ?_
  exact AW.ret rfl
theorem r17_Turn_ok (a : TD) {k : Nat} (h : a.t.w k) (hk : k ≤ 20000000) : Pure Tryz.prog 129 [a.D] (dB a.okB) := by
  refine Pure.intro (n := 16) tok Tryz.func129 rfl rfl rfl (Nat.le_of_ble_eq_true rfl) (by kernel_rfl) (fun B F0 w0 => ?_)
  have c1 := r02_Valid_ok a.t h (by omega)
  have c2 := r17_Zero_ok a.t h hk
  unfold TD.okB
  obtain ⟨t, hf⟩ := a
  simp only [] at c1 c2 ⊢
  generalize decide (t.val = 0) = z at c2 ⊢
  generalize t.okB = v at c1 ⊢
  refine AW.seq ?_
  refine AW.region ?_   -- "ref.go:13"
  refine AOps.run tok 2 _ _ _ _ rfl ?_
  refine AOps.nil ?_
  refine AW.seq ?_
  refine AW.region ?_   -- "ref.go:13"   -- GUARDS
  refine AOps.run tok 2 _ _ _ _ rfl ?_
  refine AOps.call tok rfl rfl rfl rfl c1 ?_
  refine AOps.run tok 1 _ _ _ _ rfl ?_
  cases v with
  | false =>
    refine AOps.run tok 11 _ _ _ _ rfl ?_
    refine AOps.nil ?_
    exact AW.ret rfl
  | true =>
  refine AOps.run tok 3 _ _ _ _ rfl ?_
  cases hf with
  | false =>
    refine AOps.run tok 8 _ _ _ _ rfl ?_
    refine AOps.nil ?_
    exact AW.ret rfl
  | true =>
  refine AOps.run tok 3 _ _ _ _ rfl ?_
  refine AOps.call tok rfl rfl rfl rfl c2 ?_
  refine AOps.run tok 3 _ _ _ _ rfl ?_
  refine AOps.nil ?_
  exact AW.ret rfl
theorem r17_Place_ok (a : PD) {k : Nat} (h : a.w k) (hk : k ≤ 20000000) : Pure Tryz.prog 72 [a.D] (dB a.okB) := by
  refine Pure.intro (n := 11) tok Tryz.func72 rfl rfl rfl (Nat.le_of_ble_eq_true rfl) (by kernel_rfl) (fun B F0 w0 => ?_)
  have c1 := r02_Valid_ok a.x h.1 (by omega)
  have c2 := r02_Valid_ok a.y h.2 (by omega)
  unfold PD.okB
  generalize a.x.okB = v at c1 ⊢
  generalize a.y.okB = u at c2 ⊢
  refine AW.seq ?_
  refine AW.region ?_   -- "ref.go:16"
  refine AOps.run tok 2 _ _ _ _ rfl ?_
  refine AOps.nil ?_
  refine AW.seq ?_
  refine AW.region ?_   -- "ref.go:16"   -- GUARDS
  refine AOps.run tok 2 _ _ _ _ rfl ?_
  refine AOps.call tok rfl rfl rfl rfl c1 ?_
  refine AOps.run tok 1 _ _ _ _ rfl ?_
  cases v with
  | false =>
    refine AOps.run tok 5 _ _ _ _ rfl ?_
    refine AOps.nil ?_
    exact AW.ret rfl
  | true =>
  refine AOps.run tok 2 _ _ _ _ rfl ?_
  refine AOps.call tok rfl rfl rfl rfl c2 ?_
  refine AOps.run tok 2 _ _ _ _ rfl ?_
  refine AOps.nil ?_
  exact AW.ret rfl
theorem r17_Valid_ok (a : PoD) {k : Nat} (h : a.w k) (hk : k ≤ 20000000) : Pure Tryz.prog 81 [a.D] (dB a.okB) := by
  refine Pure.intro (n := 11) tok Tryz.func81 rfl rfl rfl (Nat.le_of_ble_eq_true rfl) (by kernel_rfl) (fun B F0 w0 => ?_)
  have c1 := r17_Turn_ok a.t h.1 hk
  have c2 := r17_Place_ok a.l h.2 hk
  unfold PoD.okB
  generalize a.t.okB = v at c1 ⊢
  generalize a.l.okB = u at c2 ⊢
  refine AW.seq ?_
  refine AW.region ?_   -- "ref.go:19"
  refine AOps.run tok 2 _ _ _ _ rfl ?_
  refine AOps.nil ?_
  refine AW.seq ?_
  refine AW.region ?_   -- "ref.go:19"   -- GUARDS
  refine AOps.run tok 2 _ _ _ _ rfl ?_
  refine AOps.call tok rfl rfl rfl rfl c1 ?_
  refine AOps.run tok 1 _ _ _ _ rfl ?_
  cases v with
  | false =>
    refine AOps.run tok 5 _ _ _ _ rfl ?_
    refine AOps.nil ?_
    exact AW.ret rfl
  | true =>
  refine AOps.run tok 2 _ _ _ _ rfl ?_
  refine AOps.call tok rfl rfl rfl rfl c2 ?_
  refine AOps.run tok 2 _ _ _ _ rfl ?_
  refine AOps.nil ?_
  exact AW.ret rfl
theorem r17_over_ok (r s : RD) {k : Nat} (hr : r.w k) (hs : s.w k) (hk : k ≤ 20000000) (h0 : s.val ≠ 0) : Pure Tryz.prog 159 [r.D, s.D] (Qr (r.val / s.val)).D := by
  refine Pure.intro (n := 14) tok Tryz.func159 rfl rfl rfl (Nat.le_of_ble_eq_true rfl) (by kernel_rfl) (fun B F0 w0 => ?_)
  have c := r02_Div_ok r s hr hs hk h0
  generalize Qr (r.val / s.val) = q at c ⊢
  refine AW.seq ?_
  refine AW.region ?_   -- "ref.go:22"
  refine AOps.run tok 3 _ _ _ _ rfl ?_
  refine AOps.nil ?_
  refine AW.seq ?_
  refine AW.region ?_   -- "ref.go:23"
  refine AOps.run tok 2 _ _ _ _ rfl ?_
  refine AOps.call tok rfl rfl rfl rfl c ?_
  refine AOps.run tok 6 _ _ _ _ rfl ?_
  refine AOps.nil ?_
  refine AW.seq ?_
  refine AW.region ?_   -- "ref.go:24"
  refine AOps.run tok 2 _ _ _ _ rfl ?_
  refine AOps.nil ?_
  exact AW.ret rfl
theorem r17_Plus_ok (a b : V2) {k : Nat} (ha : szV a ≤ k) (hb : szV b ≤ k) (hk : k ≤ 1000000) : Pure Tryz.prog 86 [(VQ a).D, (VQ b).D] (VQ (vadd a b)).D := by
  refine Pure.intro (n := 16) tok Tryz.func86 rfl rfl rfl (Nat.le_of_ble_eq_true rfl) (by kernel_rfl) (fun B F0 w0 => ?_)
  have ha := szV_1 ha
  have hb := szV_1 hb
  have m1 := r02_Add_ok (Qr a.1) (Qr b.1) (k := k) (Qr_w _ (by omega)) (Qr_w _ (by omega)) (by omega)
  have m2 := r02_Add_ok (Qr a.2) (Qr b.2) (k := k) (Qr_w _ (by omega)) (Qr_w _ (by omega)) (by omega)
  simp only [Qr_val] at m1 m2
  refine AW.seq ?_
  refine AW.region ?_   -- "ref.go:47"
  refine AOps.run tok 3 _ _ _ _ rfl ?_
  refine AOps.nil ?_
  refine AW.seq ?_
  refine AW.draw hmix 11 (by kernel_rfl) ?_   -- "ref.go:48"
  refine APre.run tok 4 _ _ _ _ rfl ?_
  refine APre.call tok rfl rfl rfl rfl rfl m1 ?_
  refine APre.run tok 4 _ _ _ _ rfl ?_
  refine APre.call tok rfl rfl rfl rfl rfl m2 ?_
  refine APre.run tok 1 _ _ _ _ rfl ?_
  refine APre.nil ?_
  refine AOps.run tok 1 _ _ _ _ rfl ?_
  refine AOps.nil ?_
  exact AW.ret rfl
theorem r17_Less_ok (a b : V2) {k : Nat} (ha : szV a ≤ k) (hb : szV b ≤ k) (hk : k ≤ 1000000) : Pure Tryz.prog 45 [(VQ a).D, (VQ b).D] (VQ (vsub a b)).D := by
  refine Pure.intro (n := 16) tok Tryz.func45 rfl rfl rfl (Nat.le_of_ble_eq_true rfl) (by kernel_rfl) (fun B F0 w0 => ?_)
  have ha := szV_1 ha
  have hb := szV_1 hb
  have m1 := r02_Sub_ok (Qr a.1) (Qr b.1) (k := k) (Qr_w _ (by omega)) (Qr_w _ (by omega)) (by omega)
  have m2 := r02_Sub_ok (Qr a.2) (Qr b.2) (k := k) (Qr_w _ (by omega)) (Qr_w _ (by omega)) (by omega)
  simp only [Qr_val] at m1 m2
  refine AW.seq ?_
  refine AW.region ?_   -- "ref.go:52"
  refine AOps.run tok 3 _ _ _ _ rfl ?_
  refine AOps.nil ?_
  refine AW.seq ?_
  refine AW.draw hmix 11 (by kernel_rfl) ?_   -- "ref.go:53"
  refine APre.run tok 4 _ _ _ _ rfl ?_
  refine APre.call tok rfl rfl rfl rfl rfl m1 ?_
  refine APre.run tok 4 _ _ _ _ rfl ?_
  refine APre.call tok rfl rfl rfl rfl rfl m2 ?_
  refine APre.run tok 1 _ _ _ _ rfl ?_
  refine APre.nil ?_
  refine AOps.run tok 1 _ _ _ _ rfl ?_
  refine AOps.nil ?_
  exact AW.ret rfl
theorem r17_Square_ok (a : V2) {k : Nat} (ha : szV a ≤ k) (hk : k ≤ 1000000) : Pure Tryz.prog 68 [(VQ a).D] (Qr (dt a a)).D := by
  refine Pure.intro (n := 14) tok Tryz.func68 rfl rfl rfl (Nat.le_of_ble_eq_true rfl) (by kernel_rfl) (fun B F0 w0 => ?_)
  have ha := szV_1 ha
  have l1 := LQ_mul a.1 a.1
  have l2 := LQ_mul a.2 a.2
  have m1 := r02_Mul_ok (Qr a.1) (Qr a.1) (k := k) (Qr_w _ (by omega)) (Qr_w _ (by omega)) (by omega)
  have m2 := r02_Mul_ok (Qr a.2) (Qr a.2) (k := k) (Qr_w _ (by omega)) (Qr_w _ (by omega)) (by omega)
  have m3 := r02_Add_ok (Qr (a.1 * a.1)) (Qr (a.2 * a.2)) (k := 2 * k) (Qr_w _ (by omega)) (Qr_w _ (by omega)) (by omega)
  simp only [Qr_val] at m1 m2 m3
  refine AW.seq ?_
  refine AW.region ?_   -- "ref.go:57"
  refine AOps.run tok 2 _ _ _ _ rfl ?_
  refine AOps.nil ?_
  refine AW.seq ?_
  refine AW.draw hmix 11 (by kernel_rfl) ?_   -- "ref.go:58"
  refine APre.run tok 4 _ _ _ _ rfl ?_
  refine APre.call tok rfl rfl rfl rfl rfl m1 ?_
  refine APre.run tok 4 _ _ _ _ rfl ?_
  refine APre.call tok rfl rfl rfl rfl rfl m2 ?_
  refine APre.call tok rfl rfl rfl rfl rfl m3 ?_
  refine APre.nil ?_
  refine AOps.run tok 1 _ _ _ _ rfl ?_
  refine AOps.nil ?_
  exact AW.ret rfl
theorem r38_Cross_ok (a b : V2) {k : Nat} (ha : szV a ≤ k) (hb : szV b ≤ k) (hk : k ≤ 1000000) : Pure Tryz.prog 26 [(VQ a).D, (VQ b).D] (Qr (crs a b)).D := by
  refine Pure.intro (n := 16) tok Tryz.func26 rfl rfl rfl (Nat.le_of_ble_eq_true rfl) (by kernel_rfl) (fun B F0 w0 => ?_)
  have ha := szV_1 ha
  have hb := szV_1 hb
  have l1 := LQ_mul a.1 b.2
  have l2 := LQ_mul a.2 b.1
  have m1 := r02_Mul_ok (Qr a.1) (Qr b.2) (k := k) (Qr_w _ (by omega)) (Qr_w _ (by omega)) (by omega)
  have m2 := r02_Mul_ok (Qr a.2) (Qr b.1) (k := k) (Qr_w _ (by omega)) (Qr_w _ (by omega)) (by omega)
  have m3 := r02_Sub_ok (Qr (a.1 * b.2)) (Qr (a.2 * b.1)) (k := 2 * k) (Qr_w _ (by omega)) (Qr_w _ (by omega)) (by omega)
  simp only [Qr_val] at m1 m2 m3
  refine AW.seq ?_
  refine AW.region ?_   -- "ref.go:52"
  refine AOps.run tok 3 _ _ _ _ rfl ?_
  refine AOps.nil ?_
  refine AW.seq ?_
  refine AW.draw hmix 11 (by kernel_rfl) ?_   -- "ref.go:53"
  refine APre.run tok 4 _ _ _ _ rfl ?_
  refine APre.call tok rfl rfl rfl rfl rfl m1 ?_
  refine APre.run tok 4 _ _ _ _ rfl ?_
  refine APre.call tok rfl rfl rfl rfl rfl m2 ?_
  refine APre.call tok rfl rfl rfl rfl rfl m3 ?_
  refine APre.nil ?_
  refine AOps.run tok 1 _ _ _ _ rfl ?_
  refine AOps.nil ?_
  exact AW.ret rfl
theorem r50_Dot_ok (a b : V2) {k : Nat} (ha : szV a ≤ k) (hb : szV b ≤ k) (hk : k ≤ 1000000) : Pure Tryz.prog 28 [(VQ a).D, (VQ b).D] (Qr (dt a b)).D := by
  refine Pure.intro (n := 16) tok Tryz.func28 rfl rfl rfl (Nat.le_of_ble_eq_true rfl) (by kernel_rfl) (fun B F0 w0 => ?_)
  have ha := szV_1 ha
  have hb := szV_1 hb
  have l1 := LQ_mul a.1 b.1
  have l2 := LQ_mul a.2 b.2
  have m1 := r02_Mul_ok (Qr a.1) (Qr b.1) (k := k) (Qr_w _ (by omega)) (Qr_w _ (by omega)) (by omega)
  have m2 := r02_Mul_ok (Qr a.2) (Qr b.2) (k := k) (Qr_w _ (by omega)) (Qr_w _ (by omega)) (by omega)
  have m3 := r02_Add_ok (Qr (a.1 * b.1)) (Qr (a.2 * b.2)) (k := 2 * k) (Qr_w _ (by omega)) (Qr_w _ (by omega)) (by omega)
  simp only [Qr_val] at m1 m2 m3
  refine AW.seq ?_
  refine AW.region ?_   -- "ref.go:49"
  refine AOps.run tok 3 _ _ _ _ rfl ?_
  refine AOps.nil ?_
  refine AW.seq ?_
  refine AW.draw hmix 11 (by kernel_rfl) ?_   -- "ref.go:50"
  refine APre.run tok 4 _ _ _ _ rfl ?_
  refine APre.call tok rfl rfl rfl rfl rfl m1 ?_
  refine APre.run tok 4 _ _ _ _ rfl ?_
  refine APre.call tok rfl rfl rfl rfl rfl m2 ?_
  refine APre.call tok rfl rfl rfl rfl rfl m3 ?_
  refine APre.nil ?_
  refine AOps.run tok 1 _ _ _ _ rfl ?_
  refine AOps.nil ?_
  exact AW.ret rfl
theorem r17_Direction_ok (v : Option Rat) {k : Nat} (h : szT v ≤ k) (h1 : 1 ≤ k) (hk : k ≤ 1000000) : Pure Tryz.prog 132 [(TQ v).D] (.tu [(Qr (dirT v).1).D, (Qr (dirT v).2).D]) := by
  refine Pure.intro (n := 32) tok Tryz.func132 rfl rfl rfl (Nat.le_of_ble_eq_true rfl) (by kernel_rfl) (fun B F0 w0 => ?_)
  cases v with
  | none =>
    have o1 := r02_Of_ok (-1) (by decide) (by decide)
    rw [show (TQ none).D = .ag [dB false, .sl 1 [], .sl 1 [], dB true] by unfold TQ; rw [Qr_zero]; rfl]
    rw [show ((-1 : Int) : Rat) = -1 from rfl] at o1
    show AW _ _ _ _ _ _ (retQ _ _ (.tu [(Qr (-1)).D, (Qr 0).D])) _
    rw [Qr_zero]
    refine AW.seq ?_
    refine AW.region ?_
    refine AOps.run tok 3 _ _ _ _ rfl ?_
    refine AOps.nil ?_
    refine AW.seq ?_
    refine AW.seq ?_
    refine AW.region ?_
    refine AOps.run tok 2 _ _ _ _ rfl ?_
    refine AOps.nil ?_
    refine AW.condT rfl ?_
    refine AW.seq ?_
    refine AW.region ?_
    refine AOps.call tok rfl rfl rfl rfl o1 ?_
    refine AOps.run tok 3 _ _ _ _ rfl ?_
    refine AOps.nil ?_
    exact AW.ret rfl
  | some t =>
  have h : LQ t ≤ k := h
  have o1 := r02_Of_ok 1 (by decide) (by decide)
  rw [show ((1 : Int) : Rat) = 1 from rfl] at o1
  have z1 := LQ_one
  have y1 := LQ_mul t t
  have c1 := r02_Mul_ok (Qr t) (Qr t) (k := k) (Qr_w _ h) (Qr_w _ h) (by omega)
  have c2 := r02_Add_ok (Qr 1) (Qr (t * t)) (k := 2 * k) (Qr_w _ (by omega)) (Qr_w _ (by omega)) (by omega)
  have y2 := LQ_add 1 (t * t)
  have c3 := r02_Sub_ok (Qr 1) (Qr (t * t)) (k := 2 * k) (Qr_w _ (by omega)) (Qr_w _ (by omega)) (by omega)
  have y3 := LQ_sub 1 (t * t)
  have c4 := r02_Add_ok (Qr t) (Qr t) (k := k) (Qr_w _ h) (Qr_w _ h) (by omega)
  have y4 := LQ_add t t
  have hn := dn_ne t
  have c5 := r17_over_ok (Qr (1 - t * t)) (Qr (1 + t * t)) (k := 4 * k + 4) (Qr_w _ (by omega)) (Qr_w _ (by omega)) (by omega) (by rw [Qr_val]; exact hn)
  have c6 := r17_over_ok (Qr (t + t)) (Qr (1 + t * t)) (k := 4 * k + 4) (Qr_w _ (by omega)) (Qr_w _ (by omega)) (by omega) (by rw [Qr_val]; exact hn)
  simp only [Qr_val] at c1 c2 c3 c4 c5 c6
  show AW _ _ _ _ _ _ (retQ _ _ (.tu [(Qr ((1 - t * t) / (1 + t * t))).D, (Qr ((t + t) / (1 + t * t))).D])) _
  refine AW.seq ?_
  refine AW.region ?_   -- "ref.go:28"
  refine AOps.run tok 3 _ _ _ _ rfl ?_
  refine AOps.nil ?_
  refine AW.seq ?_
  refine AW.seq ?_
  refine AW.region ?_   -- "ref.go:29"
  refine AOps.run tok 2 _ _ _ _ rfl ?_
  refine AOps.nil ?_
  refine AW.condF rfl ?_
  refine AW.skip ?_
  refine AW.seq ?_
  refine AW.draw hmix 8 (by kernel_rfl) ?_
  refine APre.call tok rfl rfl rfl rfl rfl o1 ?_
  refine APre.run tok 4 _ _ _ _ rfl ?_
  refine APre.call tok rfl rfl rfl rfl rfl c1 ?_
  refine APre.run tok 2 _ _ _ _ rfl ?_
  refine APre.nil ?_
  refine AOps.run tok 2 _ _ _ _ rfl ?_
  refine AOps.nil ?_
  refine AW.seq ?_
  refine AW.region ?_
  refine AOps.run tok 2 _ _ _ _ rfl ?_
  refine AOps.call tok rfl rfl rfl rfl c2 ?_
  refine AOps.run tok 2 _ _ _ _ rfl ?_
  refine AOps.nil ?_
  refine AW.seq ?_
  refine AW.draw hmix 12 (by kernel_rfl) ?_
  refine APre.run tok 2 _ _ _ _ rfl ?_
  refine APre.call tok rfl rfl rfl rfl rfl c3 ?_
  refine APre.run tok 1 _ _ _ _ rfl ?_
  refine APre.call tok rfl rfl rfl rfl rfl c5 ?_
  refine APre.run tok 4 _ _ _ _ rfl ?_
  refine APre.call tok rfl rfl rfl rfl rfl c4 ?_
  refine APre.run tok 1 _ _ _ _ rfl ?_
  refine APre.call tok rfl rfl rfl rfl rfl c6 ?_
  refine APre.nil ?_
  refine AOps.run tok 2 _ _ _ _ rfl ?_
  refine AOps.nil ?_
  exact AW.ret rfl
theorem r17_Rotate_ok (v : Option Rat) (q : V2) {k : Nat} (h : szT v ≤ k) (hq : szV q ≤ k) (h1 : 1 ≤ k) (hk : k ≤ 100000) : Pure Tryz.prog 87 [(TQ v).D, (VQ q).D] (VQ (rotF v q)).D := by
  refine Pure.intro (n := 31) tok Tryz.func87 rfl rfl rfl (Nat.le_of_ble_eq_true rfl) (by kernel_rfl) (fun B F0 w0 => ?_)
  have cd := r17_Direction_ok v h h1 (by omega)
  have hd := szV_1 (szV_dir v h h1)
  have hq := szV_1 hq
  unfold rotF
  generalize (dirT v).1 = c at cd hd ⊢
  generalize (dirT v).2 = s at cd hd ⊢
  obtain ⟨x, y⟩ := q
  simp only [] at hq ⊢
  have l1 := LQ_mul c x
  have l2 := LQ_mul s y
  have l3 := LQ_mul s x
  have l4 := LQ_mul c y
  have m1 := r02_Mul_ok (Qr c) (Qr x) (k := 4 * k + 4) (Qr_w _ (by omega)) (Qr_w _ (by omega)) (by omega)
  have m2 := r02_Mul_ok (Qr s) (Qr y) (k := 4 * k + 4) (Qr_w _ (by omega)) (Qr_w _ (by omega)) (by omega)
  have m3 := r02_Sub_ok (Qr (c * x)) (Qr (s * y)) (k := 8 * k + 8) (Qr_w _ (by omega)) (Qr_w _ (by omega)) (by omega)
  have m4 := r02_Mul_ok (Qr s) (Qr x) (k := 4 * k + 4) (Qr_w _ (by omega)) (Qr_w _ (by omega)) (by omega)
  have m5 := r02_Mul_ok (Qr c) (Qr y) (k := 4 * k + 4) (Qr_w _ (by omega)) (Qr_w _ (by omega)) (by omega)
  have m6 := r02_Add_ok (Qr (s * x)) (Qr (c * y)) (k := 8 * k + 8) (Qr_w _ (by omega)) (Qr_w _ (by omega)) (by omega)
  simp only [Qr_val] at m1 m2 m3 m4 m5 m6
  refine AW.seq ?_
  refine AW.region ?_   -- "ref.go:38"
  refine AOps.run tok 3 _ _ _ _ rfl ?_
  refine AOps.nil ?_
  refine AW.seq ?_
  refine AW.region ?_   -- "ref.go:39"
  refine AOps.run tok 1 _ _ _ _ rfl ?_
  refine AOps.call tok rfl rfl rfl rfl cd ?_
  refine AOps.run tok 7 _ _ _ _ rfl ?_
  refine AOps.nil ?_
  refine AW.seq ?_
  refine AW.draw hmix 19 (by kernel_rfl) ?_   -- "ref.go:40"
  refine APre.run tok 3 _ _ _ _ rfl ?_
  refine APre.call tok rfl rfl rfl rfl rfl m1 ?_
  refine APre.run tok 3 _ _ _ _ rfl ?_
  refine APre.call tok rfl rfl rfl rfl rfl m2 ?_
  refine APre.call tok rfl rfl rfl rfl rfl m3 ?_
  refine APre.run tok 3 _ _ _ _ rfl ?_
  refine APre.call tok rfl rfl rfl rfl rfl m4 ?_
  refine APre.run tok 3 _ _ _ _ rfl ?_
  refine APre.call tok rfl rfl rfl rfl rfl m5 ?_
  refine APre.call tok rfl rfl rfl rfl rfl m6 ?_
  refine APre.run tok 1 _ _ _ _ rfl ?_
  refine APre.nil ?_
  refine AOps.run tok 1 _ _ _ _ rfl ?_
  refine AOps.nil ?_
  exact AW.ret rfl
theorem r17_Apply_ok (p : Option Rat × V2) (q : V2) {k : Nat} (h : szP p ≤ k) (hq : szV q ≤ k) (h1 : 1 ≤ k) (hk : k ≤ 10000) : Pure Tryz.prog 44 [(PoQ p).D, (VQ q).D] (VQ (appF p q)).D := by
  refine Pure.intro (n := 12) tok Tryz.func44 rfl rfl rfl (Nat.le_of_ble_eq_true rfl) (by kernel_rfl) (fun B F0 w0 => ?_)
  obtain ⟨h2, h3⟩ := szP_1 h
  have c1 := r17_Rotate_ok p.1 q h2 hq h1 (by omega)
  have z1 := szV_rot p.1 q h2 hq h1
  have c2 := r17_Plus_ok (rotF p.1 q) p.2 (k := 10 * k + 9) z1 (by omega) (by omega)
  unfold appF
  generalize rotF p.1 q = r at c1 c2 ⊢
  refine AW.seq ?_
  refine AW.region ?_   -- "ref.go:86"
  refine AOps.run tok 3 _ _ _ _ rfl ?_
  refine AOps.nil ?_
  refine AW.seq ?_
  refine AW.draw hmix 7 (by kernel_rfl) ?_   -- "ref.go:86"
  refine APre.run tok 3 _ _ _ _ rfl ?_
  refine APre.call tok rfl rfl rfl rfl rfl c1 ?_
  refine APre.run tok 2 _ _ _ _ rfl ?_
  refine APre.call tok rfl rfl rfl rfl rfl c2 ?_
  refine APre.nil ?_
  refine AOps.run tok 1 _ _ _ _ rfl ?_
  refine AOps.nil ?_
  exact AW.ret rfl
theorem r17_SamePlace_ok (a b : V2) {k : Nat} (ha : szV a ≤ k) (hb : szV b ≤ k) (hk : k ≤ 1000000) : Pure Tryz.prog 42 [(VQ a).D, (VQ b).D] (dB (decide (a = b))) := by
  refine Pure.intro (n := 19) tok Tryz.func42 rfl rfl rfl (Nat.le_of_ble_eq_true rfl) (by kernel_rfl) (fun B F0 w0 => ?_)
  have ha := szV_1 ha
  have hb := szV_1 hb
  have m1 := r02_Cmp_ok (Qr a.1) (Qr b.1) (k := k) (Qr_w _ (by omega)) (Qr_w _ (by omega)) (by omega)
  have m2 := r02_Cmp_ok (Qr a.2) (Qr b.2) (k := k) (Qr_w _ (by omega)) (Qr_w _ (by omega)) (by omega)
  simp only [Qr_val] at m1 m2
  have e0 : decide (a = b) = (decide (a.1 = b.1) && decide (a.2 = b.2)) := by
    rw [← Bool.decide_and]
    exact decide_eq_decide.2 Prod.ext_iff
  rw [e0]
  refine AW.seq ?_
  refine AW.region ?_   -- "ref.go:120"
  refine AOps.run tok 3 _ _ _ _ rfl ?_
  refine AOps.nil ?_
  refine AW.seq ?_
  refine AW.region ?_   -- "ref.go:121"   -- GUARDS
  refine AOps.run tok 4 _ _ _ _ rfl ?_
  refine AOps.call tok rfl rfl rfl rfl m1 ?_
  refine AOps.run tok 1 _ _ _ _ rfl ?_
  rw [cmpQ0]
  cases decide (a.1 = b.1) with
  | true =>
    refine AOps.run tok 5 _ _ _ _ rfl ?_
    refine AOps.call tok rfl rfl rfl rfl m2 ?_
    refine AOps.run tok 1 _ _ _ _ rfl ?_
    rw [cmpQ0]
    refine AOps.run tok 2 _ _ _ _ rfl ?_
    refine AOps.nil ?_
    exact AW.ret rfl
  | false =>
    refine AOps.run tok 9 _ _ _ _ rfl ?_
    refine AOps.nil ?_
    exact AW.ret rfl
end Lift
/- The reference: the check of poses and dyads, Signs. -/
namespace Lift
open Go Go.Proofs

theorem r17_Places_ok (ps : List Po) (q : V2) {k : Nat} (hs : szL k ps) (hq : szV q ≤ k) (hl : ps.length ≤ 1000000) (h1 : 1 ≤ k) (hk : k ≤ 10000) : Pure Tryz.prog 85 [PsL ps, (VQ q).D] (VL (ps.map (fun p => appF p q))) := by
  refine Pure.intro (n := 22) tok Tryz.func85 rfl rfl rfl (Nat.le_of_ble_eq_true rfl) (by kernel_rfl) (fun B F0 w0 => ?_)
  refine AW.seq ?_
  refine AW.region ?_   -- "ref.go:154"
  refine AOps.run tok 2 _ _ _ _ rfl ?_
  refine AOps.nil ?_
  refine AW.seq ?_
  refine AW.region ?_   -- "ref.go:155"
  refine AOps.run tok 1 _ _ _ _ rfl ?_
  refine AOps.nil ?_
  refine AW.seq ?_
  refine AW.seq ?_
  refine AW.region ?_   -- "ref.go:156"
  refine AOps.run tok 2 _ _ _ _ rfl ?_
  rw [List.length_map]
  refine AOps.run tok 1 _ _ _ _ rfl ?_
  refine AOps.nil ?_
  refine AW.block ?_   -- block 0
  refine AW.loopS [3, 5, 8, 9, 10] (fun i : Nat => [(3, .bx (VQ q).D.flat), (5, .ow 27 (((ps.take i).map (fun p => appF p q)).map (fun v => (VQ v).D))), (8, .d (PsL ps)), (9, .d (dI ps.length)), (10, .d (dI i))]) (fun i => i ≤ ps.length) (fun i => ps.length - i) 0 rfl (Nat.zero_le _) (fun i hi => ?_)
  · skip
    refine AW.seq ?_
    refine AW.region ?_   -- "ref.go:156"
    refine AOps.run tok 1 _ _ _ _ rfl ?_
    refine AOps.nil ?_
    refine AW.seq ?_
    refine AW.cond rfl (fun h => ?_) (fun h => ?_)
    · have hii : i < ps.length := by have := of_decide_eq_true h; omega
      have hg := getPs hii
      have ca := r17_Apply_ok (ps.getD i (none, (0, 0))) q (hs i hii) hq h1 (by omega)
      have htk := take_snocD ps (none, (0, 0)) hii
      have hol : (ps.take i).length = i := by rw [List.length_take]; omega
      generalize ps.getD i (none, (0, 0)) = p at hg ca htk
      refine AW.skip ?_
      refine AW.seq ?_
      refine AW.block ?_   -- block 1
      refine AW.seq ?_
      refine AW.region ?_   -- "ref.go:156"
      refine AOps.idx tok (PoQ p).D rfl rfl rfl rfl (Int.natCast_nonneg i) hg ?_
      refine AOps.run tok 3 _ _ _ _ rfl ?_
      refine AOps.nil ?_
      refine AW.region ?_   -- "ref.go:157"
      refine AOps.run tok 3 _ _ _ _ rfl ?_
      refine AOps.call tok rfl rfl rfl rfl ca ?_
      refine AOps.bsd tok rfl rfl rfl rfl rfl ?_
      refine AOps.appo tok rfl rfl rfl rfl rfl rfl (by rw [List.length_map, List.length_map, hol]; show (_ + 1) * 112 ≤ _; omega) (by rw [List.length_map, List.length_map, hol]; show _ + 1 ≤ _; omega) ?_
      refine AOps.run tok 1 _ _ _ _ rfl ?_
      refine AOps.nil ?_
      refine AW.region ?_   -- "ref.go:156"
      refine AOps.run tok 1 _ _ _ _ rfl ?_
      rw [wI64 (x := (i : Int) + 1) (by omega) (by omega)]
      refine AOps.run tok 1 _ _ _ _ rfl ?_
      refine AOps.nil ?_
      exact ⟨i + 1, by rw [htk, List.map_append, List.map_append]; rfl, hii, by omega⟩
    have hii : i = ps.length := by have := of_decide_eq_false h; omega
    subst hii
    rw [List.take_length]
    refine AW.exit ?_
    -- END OF BODY; what follows the loop (from its exit):
    refine AW.seq ?_
    refine AW.region ?_   -- "ref.go:159"
    refine AOps.run tok 2 _ _ _ _ rfl ?_
    refine AOps.nil ?_
    exact AW.ret rfl
theorem r46_Dyad_ok (d : DyD) {k : Nat} (h : d.w k) (hk : k ≤ 20000000) : Pure Tryz.prog 35 [d.D] (dB d.okB) := by
  refine Pure.intro (n := 16) tok Tryz.func35 rfl rfl rfl (Nat.le_of_ble_eq_true rfl) (by kernel_rfl) (fun B F0 w0 => ?_)
  have c1 := r17_Place_ok d.c h.1 hk
  have c2 := r17_Place_ok d.m h.2.1 hk
  have c3 := r02_Valid_ok d.r h.2.2 (by omega)
  unfold DyD.okB
  generalize d.c.okB = v at c1 ⊢
  generalize d.m.okB = u at c2 ⊢
  generalize d.r.okB = t at c3 ⊢
  refine AW.seq ?_
  refine AW.region ?_   -- "ref.go:81"
  refine AOps.run tok 2 _ _ _ _ rfl ?_
  refine AOps.nil ?_
  refine AW.seq ?_
  refine AW.region ?_   -- "ref.go:82"   -- GUARDS
  refine AOps.run tok 2 _ _ _ _ rfl ?_
  refine AOps.call tok rfl rfl rfl rfl c1 ?_
  refine AOps.run tok 1 _ _ _ _ rfl ?_
  cases v with
  | false =>
    refine AOps.run tok 10 _ _ _ _ rfl ?_
    refine AOps.nil ?_
    exact AW.ret rfl
  | true =>
  refine AOps.run tok 2 _ _ _ _ rfl ?_
  refine AOps.call tok rfl rfl rfl rfl c2 ?_
  refine AOps.run tok 2 _ _ _ _ rfl ?_
  cases u with
  | false =>
    refine AOps.run tok 5 _ _ _ _ rfl ?_
    refine AOps.nil ?_
    exact AW.ret rfl
  | true =>
  refine AOps.run tok 2 _ _ _ _ rfl ?_
  refine AOps.call tok rfl rfl rfl rfl c3 ?_
  refine AOps.run tok 2 _ _ _ _ rfl ?_
  refine AOps.nil ?_
  exact AW.ret rfl
theorem r46_Passes_ok (ps : List Po) (d : V2 × V2 × Rat) {k : Nat} (h : szL k ps) (hd : szD d ≤ k) (hl : ps.length ≤ 1000000) (h1 : 1 ≤ k) (hk : k ≤ 1000) : Pure Tryz.prog 43 [PsL ps, (DyQ d).D] (dB (pasB ps d)) := by
  refine Pure.intro (n := 26) tok Tryz.func43 rfl rfl rfl (Nat.le_of_ble_eq_true rfl) (by kernel_rfl) (fun B F0 w0 => ?_)
  obtain ⟨hd1, hd2, hd3⟩ := szD_1 hd
  have cI := r17_Places_ok ps d.2.1 h hd2 (by omega) h1 (by omega)
  have hsz : ∀ i, i < ps.length → szV (appF (ps.getD i (none, (0, 0))) d.2.1) ≤ 11 * k + 10 := fun i hi => szV_app _ _ (h i hi) hd2 h1
  have hno := fun i hi => pas_no (ps := ps) (d := d) (i := i) hi
  have hyes := pas_yes (ps := ps) (d := d)
  generalize pasB ps d = E at hno hyes ⊢
  obtain ⟨c, m, r⟩ := d
  simp only [] at hd1 hd2 hd3 cI hsz hno hyes
  have cS := fun a (ha : szV a ≤ 11 * k + 10) => r17_Less_ok a c (k := 11 * k + 10) ha (by omega) (by omega)
  have cQ := fun a (ha : szV a ≤ 11 * k + 10) => r17_Square_ok (vsub a c) (k := 12 * k + 11) (Nat.le_trans (szV_sub a c ha hd1) (by omega)) (by omega)
  have cC := fun a (ha : szV a ≤ 11 * k + 10) => r02_Cmp_ok (Qr (dt (vsub a c) (vsub a c))) (Qr r) (k := 100 * k + 100) (Qr_w _ (Nat.le_trans (LQ_dt _ _ (szV_sub a c ha hd1) (szV_sub a c ha hd1)).1 (by omega))) (Qr_w _ (by omega)) (by omega)
  simp only [Qr_val] at cC
  refine AW.seq ?_
  refine AW.region ?_   -- "ref.go:86"
  refine AOps.run tok 2 _ _ _ _ rfl ?_
  refine AOps.nil ?_
  refine AW.seq ?_
  refine AW.seq ?_
  refine AW.region ?_   -- "ref.go:87"
  refine AOps.run tok 3 _ _ _ _ rfl ?_
  refine AOps.call tok rfl rfl rfl rfl cI ?_
  refine AOps.run tok 1 _ _ _ _ rfl ?_
  rw [List.length_map, List.length_map]
  refine AOps.run tok 1 _ _ _ _ rfl ?_
  refine AOps.nil ?_
  refine AW.block ?_   -- block 0
  refine AW.loopS [3, 10, 11, 12] (fun i : Nat => [(3, .bx (DyQ (c, m, r)).D.flat), (10, .d (VL (ps.map (fun p => appF p m)))), (11, .d (dI ps.length)), (12, .d (dI i))]) (fun i => i ≤ ps.length ∧ ∀ j, j < i → dt (vsub (appF (ps.getD j (none, (0, 0))) m) c) (vsub (appF (ps.getD j (none, (0, 0))) m) c) = r) (fun i => ps.length - i) 0 rfl ⟨Nat.zero_le _, fun j h => by omega⟩ (fun i ⟨hi, hI⟩ => ?_)
  refine AW.seq ?_
  refine AW.region ?_
  refine AOps.run tok 1 _ _ _ _ rfl ?_
  refine AOps.nil ?_
  refine AW.seq ?_
  refine AW.cond rfl (fun h => ?_) (fun h => ?_)
  rotate_left
  · have hii : ¬ i < ps.length := by have := of_decide_eq_false h; omega
    rw [hyes (fun j hj => hI j (by omega))]
    refine AW.exit ?_
    refine AW.seq ?_
    refine AW.region ?_
    refine AOps.run tok 1 _ _ _ _ rfl ?_
    refine AOps.nil ?_
    exact AW.ret rfl
  have hii : i < ps.length := by have := of_decide_eq_true h; omega
  have hg : ((ps.map (fun p => appF p m)).map (fun v => (VQ v).D))[i]? = some (VQ (appF (ps.getD i (none, (0, 0))) m)).D := by simp [hii]
  have ha := hsz i hii
  have hno := hno i hii
  obtain ⟨x, hx⟩ : ∃ x, x = appF (ps.getD i (none, (0, 0))) m := ⟨_, rfl⟩
  rw [← hx] at hg ha hno
  have s1 := cS x ha
  have s2 := cQ x ha
  have s3 := cC x ha
  refine AW.skip ?_
  refine AW.seq ?_
  refine AW.block ?_
  refine AW.seq ?_
  refine AW.region ?_
  refine AOps.idx tok (VQ x).D rfl rfl rfl rfl (Int.natCast_nonneg i) hg ?_
  refine AOps.run tok 3 _ _ _ _ rfl ?_
  refine AOps.nil ?_
  refine AW.seq ?_
  refine AW.draw hmix 9 (by kernel_rfl) ?_
  refine APre.run tok 3 _ _ _ _ rfl ?_
  refine APre.call tok rfl rfl rfl rfl rfl s1 ?_
  refine APre.call tok rfl rfl rfl rfl rfl s2 ?_
  refine APre.run tok 2 _ _ _ _ rfl ?_
  refine APre.call tok rfl rfl rfl rfl rfl s3 ?_
  refine APre.run tok 1 _ _ _ _ rfl ?_
  rw [cmpNe]
  refine APre.nil ?_
  refine AOps.nil ?_
  by_cases e : dt (vsub x c) (vsub x c) = r
  rotate_left
  · rw [decide_eq_false e, hno e]
    refine AW.condT rfl ?_
    refine AW.seq ?_
    refine AW.region ?_
    refine AOps.run tok 1 _ _ _ _ rfl ?_
    refine AOps.nil ?_
    exact AW.ret rfl
  rw [decide_eq_true e]
  refine AW.condF rfl ?_
  refine AW.skip ?_
  refine AW.region ?_
  refine AOps.run tok 1 _ _ _ _ rfl ?_
  rw [wI64 (x := (i : Int) + 1) (by omega) (by omega)]
  refine AOps.run tok 1 _ _ _ _ rfl ?_
  refine AOps.nil ?_
  refine ⟨i + 1, rfl, ⟨hii, fun j hj => ?_⟩, by omega⟩
  by_cases e2 : j = i
  · rw [e2, ← hx]; exact e
  · exact hI j (by omega)
theorem r45_Check_ok (l : List PoD) (hl : l.length ≤ 1000000) {k : Nat} (hw : ∀ i, i < l.length → (l.getD i default).w k) (hk : k ≤ 20000000) : Pure Tryz.prog 40 [PoL l] (dI (chkPo l)) := by
  refine Pure.intro (n := 23) tok Tryz.func40 rfl rfl rfl (Nat.le_of_ble_eq_true rfl) (by kernel_rfl) (fun B F0 w0 => ?_)
  unfold chkPo
  refine AW.seq ?_
  refine AW.region ?_   -- "ref.go:11"
  refine AOps.run tok 1 _ _ _ _ rfl ?_
  refine AOps.nil ?_
  refine AW.seq ?_
  refine AW.block ?_   -- block 0
  refine AW.seq ?_
  refine AW.region ?_   -- "ref.go:13"
  refine AOps.run tok 2 _ _ _ _ rfl ?_
  rw [List.length_map]
  refine AOps.run tok 2 _ _ _ _ rfl ?_
  refine AOps.nil ?_
  by_cases h2 : l.length < 2
  · rw [if_pos h2, decide_eq_true (show (l.length : Int) < 2 by omega)]
    refine AW.condT rfl ?_
    refine AW.seq ?_
    refine AW.region ?_
    refine AOps.run tok 1 _ _ _ _ rfl ?_
    refine AOps.nil ?_
    exact AW.ret rfl
  rw [if_neg h2, decide_eq_false (show ¬ (l.length : Int) < 2 by omega)]
  refine AW.condF rfl ?_
  refine AW.seq ?_
  refine AW.region ?_
  refine AOps.run tok 2 _ _ _ _ rfl ?_
  rw [List.length_map]
  refine AOps.run tok 2 _ _ _ _ rfl ?_
  refine AOps.nil ?_
  by_cases h5 : 5 < l.length
  · rw [if_pos h5, decide_eq_true (show (5 : Int) < (l.length : Int) by omega)]
    refine AW.condT rfl ?_
    refine AW.seq ?_
    refine AW.region ?_
    refine AOps.run tok 1 _ _ _ _ rfl ?_
    refine AOps.nil ?_
    exact AW.ret rfl
  rw [if_neg h5, decide_eq_false (show ¬ (5 : Int) < (l.length : Int) by omega)]
  refine AW.condF rfl ?_
  refine AW.skip ?_
  refine AW.seq ?_
  refine AW.seq ?_
  refine AW.region ?_
  refine AOps.run tok 2 _ _ _ _ rfl ?_
  rw [List.length_map]
  refine AOps.run tok 1 _ _ _ _ rfl ?_
  refine AOps.nil ?_
  refine AW.block ?_
  refine AW.loopS [13, 14, 15] (fun i : Nat => [(13, .d (PoL l)), (14, .d (dI l.length)), (15, .d (dI i))]) (fun i => i ≤ l.length ∧ ∀ j, j < i → (l.getD j default).okB = true) (fun i => l.length - i) 0 rfl ⟨Nat.zero_le _, fun j hj => by omega⟩ (fun i ⟨hi, hall⟩ => ?_)
  refine AW.seq ?_
  refine AW.region ?_
  refine AOps.run tok 1 _ _ _ _ rfl ?_
  refine AOps.nil ?_
  refine AW.seq ?_
  refine AW.cond rfl (fun h => ?_) (fun h => ?_)
  rotate_left
  · have hii : i = l.length := by have := of_decide_eq_false h; omega
    subst hii
    rw [posOk_yes hall, if_neg (by simp)]
    refine AW.exit ?_
    refine AW.seq ?_
    refine AW.region ?_
    refine AOps.run tok 1 _ _ _ _ rfl ?_
    refine AOps.nil ?_
    exact AW.ret rfl
  have hii : i < l.length := by have := of_decide_eq_true h; omega
  have hg := getM PoD.D (l := l) (i := i) hii
  have hno := posOk_no (l := l) (i := i) hii
  have cv := r17_Valid_ok (l.getD i default) (hw i hii) hk
  refine AW.skip ?_
  refine AW.seq ?_
  refine AW.block ?_
  refine AW.seq ?_
  refine AW.region ?_
  refine AOps.idx tok (l.getD i default).D rfl rfl rfl rfl (Int.natCast_nonneg i) hg ?_
  refine AOps.run tok 3 _ _ _ _ rfl ?_
  refine AOps.nil ?_
  refine AW.seq ?_
  refine AW.region ?_
  refine AOps.run tok 1 _ _ _ _ rfl ?_
  refine AOps.call tok rfl rfl rfl rfl cv ?_
  refine AOps.run tok 1 _ _ _ _ rfl ?_
  refine AOps.nil ?_
  cases hv : (l.getD i default).okB with
  | false =>
    rw [hno hv, if_pos rfl]
    refine AW.condT rfl ?_
    refine AW.seq ?_
    refine AW.region ?_
    refine AOps.run tok 1 _ _ _ _ rfl ?_
    refine AOps.nil ?_
    exact AW.ret rfl
  | true =>
  refine AW.condF rfl ?_
  refine AW.skip ?_
  refine AW.region ?_
  refine AOps.run tok 1 _ _ _ _ rfl ?_
  rw [wI64 (x := (i : Int) + 1) (by omega) (by omega)]
  refine AOps.run tok 1 _ _ _ _ rfl ?_
  refine AOps.nil ?_
  exact ⟨i + 1, rfl, ⟨hii, fun j hj => by
    by_cases e : j = i
    · subst e; exact hv
    · exact hall j (by omega)⟩, by omega⟩
end Lift
/- The reference of layer 50: Check, Signs; law 50: DefectsSigns. -/
namespace Lift
open Go Go.Proofs

set_option maxHeartbeats 1600000 in
theorem r50_Check_ok (l : List PoD) (d e : DyD) {k : Nat} (hl : l.length ≤ 1000000) (hw : ∀ i, i < l.length → (l.getD i default).w k) (hd : d.w k) (he : e.w k) (h1 : 1 ≤ k) (hk : k ≤ 1000) : Pure Tryz.prog 13 [PoL l, d.D, e.D] (dI (chkD l d e)) := by
  refine Pure.intro (n := 57) tok Tryz.func13 rfl rfl rfl (Nat.le_of_ble_eq_true rfl) (by kernel_rfl) (fun B F0 w0 => ?_)
  have cP := r45_Check_ok l hl hw (by omega)
  have v1 := r46_Dyad_ok d hd (by omega)
  have v2 := r46_Dyad_ok e he (by omega)
  have s1 := r02_Sign_ok d.r hd.2.2 (by omega)
  have s2 := r02_Sign_ok e.r he.2.2 (by omega)
  generalize hE : chkD l d e = E
  unfold chkD at hE
  refine AW.seq ?_
  refine AW.region ?_   -- "ref.go:16"
  refine AOps.run tok 3 _ _ _ _ rfl ?_
  refine AOps.nil ?_
  refine AW.seq ?_
  refine AW.seq ?_
  refine AW.region ?_   -- "ref.go:17"
  refine AOps.run tok 1 _ _ _ _ rfl ?_
  refine AOps.call tok rfl rfl rfl rfl cP ?_
  refine AOps.run tok 1 _ _ _ _ rfl ?_
  refine AOps.nil ?_
  by_cases hc : chkPo l = 0
  rotate_left
  · rw [if_pos hc] at hE
    subst hE
    refine AW.seq ?_
    refine AW.region ?_
    refine AOps.run tok 2 _ _ _ _ rfl ?_
    refine AOps.nil ?_
    rw [bne_iff_ne.2 (show ((chkPo l : Nat) : Int) ≠ 0 by omega)]
    refine AW.condT rfl ?_
    refine AW.seq ?_
    refine AW.region ?_
    refine AOps.run tok 2 _ _ _ _ rfl ?_
    refine AOps.nil ?_
    exact AW.ret rfl
  rw [if_neg (fun h => h hc)] at hE
  obtain ⟨hl2, hl5, hpo⟩ := chkPo_ok hc
  rw [hc]
  refine AW.seq ?_
  refine AW.region ?_
  refine AOps.run tok 2 _ _ _ _ rfl ?_
  refine AOps.nil ?_
  refine AW.condF rfl ?_
  refine AW.skip ?_
  refine AW.seq ?_
  refine AW.block ?_
  refine AW.seq ?_
  refine AW.region ?_
  refine AOps.run tok 1 _ _ _ _ rfl ?_
  refine AOps.call tok rfl rfl rfl rfl v1 ?_
  cases hv1 : d.okB with
  | false =>
    rw [hv1, if_pos (show (false && e.okB) = false from rfl)] at hE
    subst hE
    refine AOps.run tok 7 _ _ _ _ rfl ?_
    refine AOps.nil ?_
    refine AW.condT rfl ?_
    refine AW.seq ?_
    refine AW.region ?_
    refine AOps.run tok 1 _ _ _ _ rfl ?_
    refine AOps.nil ?_
    exact AW.ret rfl
  | true =>
  refine AOps.run tok 3 _ _ _ _ rfl ?_
  refine AOps.call tok rfl rfl rfl rfl v2 ?_
  refine AOps.run tok 3 _ _ _ _ rfl ?_
  refine AOps.nil ?_
  cases hv2 : e.okB with
  | false =>
    rw [hv1, hv2, if_pos (show (true && false) = false from rfl)] at hE
    subst hE
    refine AW.condT rfl ?_
    refine AW.seq ?_
    refine AW.region ?_
    refine AOps.run tok 1 _ _ _ _ rfl ?_
    refine AOps.nil ?_
    exact AW.ret rfl
  | true =>
  rw [hv1, hv2, if_neg (show ¬ (true && true) = false by simp)] at hE
  have q1 := DyD.canon hd hv1
  have q2 := DyD.canon he hv2
  have qd : d.m = VQ d.m.val := congrArg DyD.m q1
  have qe : e.m = VQ e.m.val := congrArg DyD.m q2
  have qdc : d.c = VQ d.c.val := congrArg DyD.c q1
  have qec : e.c = VQ e.c.val := congrArg DyD.c q2
  have sd := szD_1 (szD_val hd h1)
  have se := szD_1 (szD_val he h1)
  have m1 := r17_SamePlace_ok d.m.val e.m.val (k := k) sd.2.1 se.2.1 (by omega)
  have m2 := r17_SamePlace_ok d.c.val e.c.val (k := k) sd.1 se.1 (by omega)
  rw [← qd, ← qe] at m1
  rw [← qdc, ← qec] at m2
  have ql := PoL_canon hw hpo
  have p1 := r46_Passes_ok (l.map PoD.val) d.val (k := k) (szL_val hw h1) (szD_val hd h1) (by rw [List.length_map]; omega) h1 hk
  have p2 := r46_Passes_ok (l.map PoD.val) e.val (k := k) (szL_val hw h1) (szD_val he h1) (by rw [List.length_map]; omega) h1 hk
  rw [← PoL_q, ← ql, ← q1] at p1
  rw [← PoL_q, ← ql, ← q2] at p2
  refine AW.condF rfl ?_
  refine AW.seq ?_
  refine AW.region ?_
  refine AOps.run tok 2 _ _ _ _ rfl ?_
  refine AOps.call tok rfl rfl rfl rfl s1 ?_
  refine AOps.run tok 2 _ _ _ _ rfl ?_
  by_cases g1 : sgI d.r.val.num ≤ 0
  · rw [if_pos (.inl g1)] at hE
    subst hE
    rw [decide_eq_true g1]
    refine AOps.run tok 6 _ _ _ _ rfl ?_
    refine AOps.nil ?_
    refine AW.condT rfl ?_
    refine AW.seq ?_
    refine AW.region ?_
    refine AOps.run tok 1 _ _ _ _ rfl ?_
    refine AOps.nil ?_
    exact AW.ret rfl
  rw [decide_eq_false g1]
  refine AOps.run tok 2 _ _ _ _ rfl ?_
  refine AOps.call tok rfl rfl rfl rfl s2 ?_
  refine AOps.run tok 3 _ _ _ _ rfl ?_
  refine AOps.nil ?_
  by_cases g2 : sgI e.r.val.num ≤ 0
  · rw [if_pos (.inr g2)] at hE
    subst hE
    rw [decide_eq_true g2]
    refine AW.condT rfl ?_
    refine AW.seq ?_
    refine AW.region ?_
    refine AOps.run tok 1 _ _ _ _ rfl ?_
    refine AOps.nil ?_
    exact AW.ret rfl
  rw [decide_eq_false g2]
  rw [if_neg (fun h => h.elim g1 g2)] at hE
  refine AW.condF rfl ?_
  refine AW.seq ?_
  refine AW.region ?_
  refine AOps.run tok 4 _ _ _ _ rfl ?_
  refine AOps.call tok rfl rfl rfl rfl m1 ?_
  refine AOps.run tok 1 _ _ _ _ rfl ?_
  by_cases w1 : d.m.val = e.m.val
  · rw [if_pos (.inl w1)] at hE
    subst hE
    rw [decide_eq_true w1]
    refine AOps.run tok 7 _ _ _ _ rfl ?_
    refine AOps.nil ?_
    refine AW.condT rfl ?_
    refine AW.seq ?_
    refine AW.region ?_
    refine AOps.run tok 1 _ _ _ _ rfl ?_
    refine AOps.nil ?_
    exact AW.ret rfl
  rw [decide_eq_false w1]
  refine AOps.run tok 4 _ _ _ _ rfl ?_
  refine AOps.call tok rfl rfl rfl rfl m2 ?_
  refine AOps.run tok 2 _ _ _ _ rfl ?_
  refine AOps.nil ?_
  by_cases w2 : d.c.val = e.c.val
  · rw [if_pos (.inr w2)] at hE
    subst hE
    rw [decide_eq_true w2]
    refine AW.condT rfl ?_
    refine AW.seq ?_
    refine AW.region ?_
    refine AOps.run tok 1 _ _ _ _ rfl ?_
    refine AOps.nil ?_
    exact AW.ret rfl
  rw [decide_eq_false w2]
  rw [if_neg (fun h => h.elim w1 w2)] at hE
  refine AW.condF rfl ?_
  refine AW.seq ?_
  refine AW.region ?_
  refine AOps.run tok 2 _ _ _ _ rfl ?_
  refine AOps.call tok rfl rfl rfl rfl p1 ?_
  refine AOps.run tok 2 _ _ _ _ rfl ?_
  cases y1 : pasB (l.map PoD.val) d.val with
  | false =>
    rw [if_pos (.inl y1)] at hE
    subst hE
    refine AOps.run tok 6 _ _ _ _ rfl ?_
    refine AOps.nil ?_
    refine AW.condT rfl ?_
    refine AW.seq ?_
    refine AW.region ?_
    refine AOps.run tok 1 _ _ _ _ rfl ?_
    refine AOps.nil ?_
    exact AW.ret rfl
  | true =>
  refine AOps.run tok 2 _ _ _ _ rfl ?_
  refine AOps.call tok rfl rfl rfl rfl p2 ?_
  refine AOps.run tok 3 _ _ _ _ rfl ?_
  refine AOps.nil ?_
  cases y2 : pasB (l.map PoD.val) e.val with
  | false =>
    rw [if_pos (.inr y2)] at hE
    subst hE
    refine AW.condT rfl ?_
    refine AW.seq ?_
    refine AW.region ?_
    refine AOps.run tok 1 _ _ _ _ rfl ?_
    refine AOps.nil ?_
    exact AW.ret rfl
  | true =>
  rw [if_neg (fun h => by rw [y1, y2] at h; rcases h with h | h <;> cases h)] at hE
  subst hE
  refine AW.condF rfl ?_
  refine AW.skip ?_
  refine AW.seq ?_
  refine AW.region ?_
  refine AOps.run tok 1 _ _ _ _ rfl ?_
  refine AOps.nil ?_
  exact AW.ret rfl
end Lift
/- Law 50: DefectsSigns. -/
namespace Lift
open Go Go.Proofs

/-- What a law of layer 50 is handed. -/
def ok50 (l : List PoD) (d e : DyD) : Prop := l.length ≤ 4611686018427387904 ∧ (∀ i, i < l.length → (l.getD i default).w 35184372087808) ∧ d.w 35184372087808 ∧ e.w 35184372087808
theorem shR_w {r : RD} {K m k : Nat} (h : r.w K) (hs : shR m r = true) (hk : m ≤ k) : r.w k := by
  unfold shR at hs
  rw [Bool.and_eq_true, decide_eq_true_iff, decide_eq_true_iff] at hs
  exact ⟨h.1, h.2.1, by omega, by omega⟩
theorem rs_get {l : List RD} {m : Nat} (h : l.all (shR m) = true) {r : RD} (hr : r ∈ l) : shR m r = true := by
  rw [List.all_eq_true] at h
  exact h r hr
theorem brief_w {d : DyD} {K : Nat} (h : d.w K) (hb : briefB d = true) : d.w 6 := by
  have h1 := rs_get hb (r := d.c.x) (by show _ ∈ [d.c.x, d.c.y, d.m.x, d.m.y, d.r]; simp)
  have h2 := rs_get hb (r := d.c.y) (by show _ ∈ [d.c.x, d.c.y, d.m.x, d.m.y, d.r]; simp)
  have h3 := rs_get hb (r := d.m.x) (by show _ ∈ [d.c.x, d.c.y, d.m.x, d.m.y, d.r]; simp)
  have h4 := rs_get hb (r := d.m.y) (by show _ ∈ [d.c.x, d.c.y, d.m.x, d.m.y, d.r]; simp)
  have h5 := rs_get hb (r := d.r) (by show _ ∈ [d.c.x, d.c.y, d.m.x, d.m.y, d.r]; simp)
  exact ⟨⟨shR_w h.1.1 h1 (Nat.le_refl _), shR_w h.1.2 h2 (Nat.le_refl _)⟩, ⟨shR_w h.2.1.1 h3 (Nat.le_refl _), shR_w h.2.1.2 h4 (Nat.le_refl _)⟩, shR_w h.2.2 h5 (Nat.le_refl _)⟩
theorem shP_w {p : PoD} {K : Nat} (h : p.w K) (hb : shP p = true) : p.w 6 := by
  have h1 := rs_get hb (r := p.t.t) (by show _ ∈ [p.t.t, p.l.x, p.l.y]; simp)
  have h2 := rs_get hb (r := p.l.x) (by show _ ∈ [p.t.t, p.l.x, p.l.y]; simp)
  have h3 := rs_get hb (r := p.l.y) (by show _ ∈ [p.t.t, p.l.x, p.l.y]; simp)
  exact ⟨shR_w h.1 h1 (by decide), shR_w h.2.1 h2 (by decide), shR_w h.2.2 h3 (by decide)⟩
theorem short_w {l : List PoD} {d e : DyD} (h : ok50 l d e) (hs : shortB l d e = true) : l.length ≤ 20 ∧ (∀ i, i < l.length → (l.getD i default).w 6) ∧ d.w 6 ∧ e.w 6 := by
  unfold shortB at hs
  rw [Bool.and_eq_true, Bool.and_eq_true, Bool.and_eq_true, decide_eq_true_iff] at hs
  obtain ⟨h1, h2, h3, h4⟩ := hs
  refine ⟨h1, fun i hi => ?_, brief_w h.2.2.1 h3, brief_w h.2.2.2 h4⟩
  refine shP_w (h.2.1 i hi) ?_
  unfold short17 at h2
  rw [List.all_eq_true] at h2
  refine h2 _ ?_
  rw [List.getD_eq_getElem?_getD, List.getElem?_eq_getElem hi]
  exact List.getElem_mem hi
/-- What is known when poses and dyads are few and short, and accepted. -/
theorem ok_canon {l : List PoD} {d e : DyD} {k : Nat} (hw : ∀ i, i < l.length → (l.getD i default).w k) (hd : d.w k) (he : e.w k) (hc : chkD l d e = 0) : l = (l.map PoD.val).map PoQ ∧ d = DyQ d.val ∧ e = DyQ e.val := by
  obtain ⟨⟨_, _, hp⟩, h2, h3, _⟩ := chkD_ok hc
  exact ⟨PoL_canon hw hp, DyD.canon hd h2, DyD.canon he h3⟩
end Lift
/- Poses, dyads and four-bars as they are handed to a function. -/
namespace Lift
open Go Go.Proofs

theorem u_turn4 : RT Tryz.prog 50 TD (fun a => a.D.flat) (fun a => a.t.w 35184372087808) := by
  have h := RT.struct (P := Tryz.prog) (t := 50) (m := 4) Tryz.underlying50 (by kernel_rfl) (RTF.cons (by kernel_rfl) u_rat4 (RTF.cons (by kernel_rfl) u_bool RTF.nil)) (fun v => rfl)
  exact h.map (fun v => ⟨v.1, v.2.1⟩) (fun v h => rfl) (fun v h => h.1) (fun v => ⟨by kernel_rfl, fun d hd => by
    simp only [D.flat, List.mem_cons, List.mem_nil_iff, or_false] at hd
    rcases hd with rfl | rfl | rfl | rfl <;> rfl⟩)
theorem u_place4 : RT Tryz.prog 27 PD (fun a => a.D.flat) (fun a => a.w 35184372087808) := by
  have h := RT.struct (P := Tryz.prog) (t := 27) (m := 6) Tryz.underlying27 (by kernel_rfl) (RTF.cons (by kernel_rfl) u_rat4 (RTF.cons (by kernel_rfl) u_rat4 RTF.nil)) (fun v => rfl)
  exact h.map (fun v => ⟨v.1, v.2.1⟩) (fun v h => rfl) (fun v h => ⟨h.1, h.2.1⟩) (fun v => ⟨by kernel_rfl, fun d hd => by
    simp only [D.flat, List.mem_cons, List.mem_nil_iff, or_false] at hd
    rcases hd with rfl | rfl | rfl | rfl | rfl | rfl <;> rfl⟩)
theorem u_pose4 : RT Tryz.prog 52 PoD (fun a => a.D.flat) (fun a => a.w 35184372087808) := by
  have h := RT.struct (P := Tryz.prog) (t := 52) (m := 10) Tryz.underlying52 (by kernel_rfl) (RTF.cons (by kernel_rfl) u_turn4 (RTF.cons (by kernel_rfl) u_place4 RTF.nil)) (fun v => rfl)
  exact h.map (fun v => ⟨v.1, v.2.1⟩) (fun v h => rfl) (fun v h => ⟨h.1, h.2.1⟩) (fun v => ⟨by kernel_rfl, fun d hd => by
    simp only [D.flat, List.mem_cons, List.mem_nil_iff, or_false] at hd
    rcases hd with rfl | rfl | rfl | rfl | rfl | rfl | rfl | rfl | rfl | rfl <;> rfl⟩)
theorem u_poses4 : RT Tryz.prog 22 (List PoD) (fun l => [PoL l]) (fun l => l.length ≤ reachBytes ∧ ∀ v ∈ l, v.w 35184372087808) :=
  RT.slice (el := PoD.D) (s := 10) (by kernel_rfl) (by kernel_rfl) (by kernel_rfl) (by decide) (Nat.le_of_ble_eq_true (by kernel_rfl)) u_pose4 (fun v => rfl)
theorem u_dyad4 : RT Tryz.prog 29 DyD (fun a => a.D.flat) (fun a => a.w 35184372087808) := by
  have h := RT.struct (P := Tryz.prog) (t := 29) (m := 15) Tryz.underlying29 (by kernel_rfl) (RTF.cons (by kernel_rfl) u_place4 (RTF.cons (by kernel_rfl) u_place4 (RTF.cons (by kernel_rfl) u_rat4 RTF.nil))) (fun v => rfl)
  exact h.map (fun v => ⟨v.1, v.2.1, v.2.2.1⟩) (fun v h => rfl) (fun v h => ⟨h.1, h.2.1, h.2.2.1⟩) (fun v => ⟨by kernel_rfl, fun d hd => by
    simp only [D.flat, List.mem_cons, List.mem_nil_iff, or_false] at hd
    rcases hd with rfl | rfl | rfl | rfl | rfl | rfl | rfl | rfl | rfl | rfl | rfl | rfl | rfl | rfl | rfl <;> rfl⟩)
theorem u_four4 : RT Tryz.prog 31 (DyD × DyD) (fun a => (FourD a.1 a.2).flat) (fun a => a.1.w 35184372087808 ∧ a.2.w 35184372087808) := by
  have h := RT.struct (P := Tryz.prog) (t := 31) (m := 30) Tryz.underlying31 (by kernel_rfl) (RTF.cons (by kernel_rfl) u_dyad4 (RTF.cons (by kernel_rfl) u_dyad4 RTF.nil)) (fun v => rfl)
  exact h.map (fun v => (v.1, v.2.1)) (fun v h => rfl) (fun v h => ⟨h.1, h.2.1⟩) (fun v => ⟨by kernel_rfl, fun d hd => by
    simp only [D.flat, List.cons_append, List.nil_append, List.mem_cons, List.mem_nil_iff, or_false] at hd
    rcases hd with rfl | rfl | rfl | rfl | rfl | rfl | rfl | rfl | rfl | rfl | rfl | rfl | rfl | rfl | rfl | rfl | rfl | rfl | rfl | rfl | rfl | rfl | rfl | rfl | rfl | rfl | rfl | rfl | rfl | rfl <;> rfl⟩)
def ok50L (l : List PoD) : Prop := l.length ≤ 4611686018427387904 ∧ (∀ i, i < l.length → (l.getD i default).w 35184372087808)
def ok50F (x : DyD × DyD) : Prop := x.1.w 35184372087808 ∧ x.2.w 35184372087808
theorem ok50_of {l : List PoD} {x : DyD × DyD} (h1 : ok50L l) (h2 : ok50F x) : ok50 l x.1 x.2 := ⟨h1.1, h1.2, h2.1, h2.2⟩
theorem ok50L_of {l : List PoD} (h : l.length ≤ reachBytes ∧ ∀ v ∈ l, v.w 35184372087808) : ok50L l := ⟨Nat.le_trans h.1 (by decide), fun i hi => by
  rw [List.getD_eq_getElem?_getD, List.getElem?_eq_getElem hi]
  exact h.2 _ (List.getElem_mem hi)⟩
end Lift
/- The reference of layer 50: the discriminant, Between. -/
namespace Lift
open Go Go.Proofs

def insR (u v w : V2) : Bool := !decide (sgQ (crs u v) = 0) && (decide (sgQ (crs u w) = sgQ (crs u v)) && decide (sgQ (crs w v) = sgQ (crs u v)))
theorem r50_inside_ok (u v w : V2) {k : Nat} (hu : szV u ≤ k) (hv : szV v ≤ k) (hw : szV w ≤ k) (hk : k ≤ 10000) : Pure Tryz.prog 58 [(VQ u).D, (VQ v).D, (VQ w).D] (dB (insR u v w)) := by
  refine Pure.intro (n := 30) tok Tryz.func58 rfl rfl rfl (Nat.le_of_ble_eq_true rfl) (by kernel_rfl) (fun B F0 w0 => ?_)
  have z0 := (LQ_dt u v hu hv).2
  have z1 := (LQ_dt u w hu hw).2
  have z2 := (LQ_dt w v hw hv).2
  have m1 := r38_Cross_ok u v hu hv (by omega)
  have m2 := r02_Sign_ok (Qr (crs u v)) (k := 4 * k + 1) (Qr_w _ (by omega)) (by omega)
  have m3 := r38_Cross_ok u w hu hw (by omega)
  have m4 := r02_Sign_ok (Qr (crs u w)) (k := 4 * k + 1) (Qr_w _ (by omega)) (by omega)
  have m5 := r38_Cross_ok w v hw hv (by omega)
  have m6 := r02_Sign_ok (Qr (crs w v)) (k := 4 * k + 1) (Qr_w _ (by omega)) (by omega)
  rw [Qr_val, sgI_num] at m2 m4 m6
  unfold insR
  generalize sgQ (crs u v) = s at m2 ⊢
  generalize sgQ (crs u w) = t at m4 ⊢
  generalize sgQ (crs w v) = r at m6 ⊢
  refine AW.seq ?_
  refine AW.region ?_   -- "ref.go:59"
  refine AOps.run tok 4 _ _ _ _ rfl ?_
  refine AOps.nil ?_
  refine AW.seq ?_
  refine AW.region ?_   -- "ref.go:60"
  refine AOps.run tok 2 _ _ _ _ rfl ?_
  refine AOps.call tok rfl rfl rfl rfl m1 ?_
  refine AOps.call tok rfl rfl rfl rfl m2 ?_
  refine AOps.run tok 1 _ _ _ _ rfl ?_
  refine AOps.nil ?_
  refine AW.seq ?_
  refine AW.region ?_   -- "ref.go:61"   -- GUARDS
  refine AOps.run tok 2 _ _ _ _ rfl ?_
  by_cases h0 : s = 0
  · rw [decide_eq_true h0, bne_eq_false_iff_eq.2 h0]
    refine AOps.run tok 17 _ _ _ _ rfl ?_
    refine AOps.nil ?_
    exact AW.ret rfl
  rw [decide_eq_false h0, bne_iff_ne.2 h0]
  refine AOps.run tok 3 _ _ _ _ rfl ?_
  refine AOps.call tok rfl rfl rfl rfl m3 ?_
  refine AOps.call tok rfl rfl rfl rfl m4 ?_
  refine AOps.run tok 2 _ _ _ _ rfl ?_
  by_cases h1 : t = s
  rotate_left
  · rw [decide_eq_false h1, beq_eq_false_iff_ne.2 h1]
    refine AOps.run tok 10 _ _ _ _ rfl ?_
    refine AOps.nil ?_
    exact AW.ret rfl
  rw [decide_eq_true h1, beq_iff_eq.2 h1]
  refine AOps.run tok 4 _ _ _ _ rfl ?_
  refine AOps.call tok rfl rfl rfl rfl m5 ?_
  refine AOps.call tok rfl rfl rfl rfl m6 ?_
  refine AOps.run tok 2 _ _ _ _ rfl ?_
  by_cases h2 : r = s
  · rw [decide_eq_true h2, beq_iff_eq.2 h2]
    refine AOps.run tok 2 _ _ _ _ rfl ?_
    refine AOps.nil ?_
    exact AW.ret rfl
  · rw [decide_eq_false h2, beq_eq_false_iff_ne.2 h2]
    refine AOps.run tok 2 _ _ _ _ rfl ?_
    refine AOps.nil ?_
    exact AW.ret rfl
theorem r50_Opposite_ok (u v : V2) {k : Nat} (hu : szV u ≤ k) (hv : szV v ≤ k) (hk : k ≤ 10000) : Pure Tryz.prog 56 [(VQ u).D, (VQ v).D] (dB (btwU u v)) := by
  refine Pure.intro (n := 16) tok Tryz.func56 rfl rfl rfl (Nat.le_of_ble_eq_true rfl) (by kernel_rfl) (fun B F0 w0 => ?_)
  have z0 := LQ_dt u v hu hv
  have m1 := r38_Cross_ok u v hu hv (by omega)
  have m2 := r17_Zero_ok (Qr (crs u v)) (k := 4 * k + 1) (Qr_w _ (by omega)) (by omega)
  have m3 := r50_Dot_ok u v hu hv (by omega)
  have m4 := r02_Sign_ok (Qr (dt u v)) (k := 4 * k + 1) (Qr_w _ (by omega)) (by omega)
  rw [Qr_val] at m2 m4
  rw [sgI_num] at m4
  have e : decide (sgQ (crs u v) = 0) = decide (crs u v = 0) := decide_eq_decide.2 sgQ_zero
  unfold btwU
  rw [e]
  refine AW.seq ?_
  refine AW.region ?_   -- "ref.go:54"
  refine AOps.run tok 3 _ _ _ _ rfl ?_
  refine AOps.nil ?_
  refine AW.seq ?_
  refine AW.region ?_   -- "ref.go:55"   -- GUARDS
  refine AOps.run tok 2 _ _ _ _ rfl ?_
  refine AOps.call tok rfl rfl rfl rfl m1 ?_
  refine AOps.call tok rfl rfl rfl rfl m2 ?_
  refine AOps.run tok 1 _ _ _ _ rfl ?_
  cases decide (crs u v = 0) with
  | false =>
    refine AOps.run tok 7 _ _ _ _ rfl ?_
    refine AOps.nil ?_
    exact AW.ret rfl
  | true =>
  refine AOps.run tok 2 _ _ _ _ rfl ?_
  refine AOps.call tok rfl rfl rfl rfl m3 ?_
  refine AOps.call tok rfl rfl rfl rfl m4 ?_
  refine AOps.run tok 3 _ _ _ _ rfl ?_
  refine AOps.nil ?_
  exact AW.ret rfl
def b2F (d e : Dy) : Rat := dt (vsub e.2.1 d.2.1) (vsub e.2.1 d.2.1)
theorem r50_B2_ok (d e : Dy) {k : Nat} (hd : szD d ≤ k) (he : szD e ≤ k) (hk : k ≤ 10000) : Pure Tryz.prog 107 [(DyQ d).D, (DyQ e).D] (Qr (b2F d e)).D := by
  refine Pure.intro (n := 11) tok Tryz.func107 rfl rfl rfl (Nat.le_of_ble_eq_true rfl) (by kernel_rfl) (fun B F0 w0 => ?_)
  have hd := szD_1 hd
  have he := szD_1 he
  unfold b2F
  obtain ⟨dc, dm, dr⟩ := d
  obtain ⟨ec, em, er⟩ := e
  simp only [] at hd he ⊢
  have m1 := r17_Less_ok em dm (k := k) he.2.1 hd.2.1 (by omega)
  have z1 := szV_sub em dm he.2.1 hd.2.1
  generalize vsub em dm = u at m1 z1 ⊢
  have m2 := r17_Square_ok u z1 (by omega)
  refine AW.seq ?_
  refine AW.region ?_   -- "ref.go:65"
  refine AOps.run tok 3 _ _ _ _ rfl ?_
  refine AOps.nil ?_
  refine AW.seq ?_
  refine AW.region ?_   -- "ref.go:65"
  refine AOps.run tok 4 _ _ _ _ rfl ?_
  refine AOps.call tok rfl rfl rfl rfl m1 ?_
  refine AOps.call tok rfl rfl rfl rfl m2 ?_
  refine AOps.run tok 1 _ _ _ _ rfl ?_
  refine AOps.nil ?_
  exact AW.ret rfl
def areaF (a b c : Rat) : Rat := ((4 : Int) : Rat) * (a * b) - ((a + b) - c) * ((a + b) - c)
theorem r36_Area_ok (a b c : Rat) {k : Nat} (ha : LQ a ≤ k) (hb : LQ b ≤ k) (hc : LQ c ≤ k) (hk : k ≤ 100000) : Pure Tryz.prog 106 [(Qr a).D, (Qr b).D, (Qr c).D] (Qr (areaF a b c)).D := by
  refine Pure.intro (n := 24) tok Tryz.func106 rfl rfl rfl (Nat.le_of_ble_eq_true rfl) (by kernel_rfl) (fun B F0 w0 => ?_)
  unfold areaF
  have o4 := r02_Of_ok 4 (by decide) (by decide)
  have zo := LQ_four 4 (by decide)
  generalize ((4 : Int) : Rat) = r4 at o4 zo ⊢
  have c1 := r02_Add_ok (Qr a) (Qr b) (k := k) (Qr_w _ ha) (Qr_w _ hb) (by omega)
  have z1 := LQ_add a b
  have c2 := r02_Sub_ok (Qr (a + b)) (Qr c) (k := 2 * k + 1) (Qr_w _ (by omega)) (Qr_w _ (by omega)) (by omega)
  have z2 := LQ_sub (a + b) c
  have c3 := r02_Mul_ok (Qr a) (Qr b) (k := k) (Qr_w _ ha) (Qr_w _ hb) (by omega)
  have z3 := LQ_mul a b
  have c4 := r02_Mul_ok (Qr r4) (Qr (a * b)) (k := 2 * k + 2) (Qr_w _ (by omega)) (Qr_w _ (by omega)) (by omega)
  have z4 := LQ_mul r4 (a * b)
  simp only [Qr_val] at c1 c2 c3 c4
  generalize (a + b) - c = x at c2 z2 ⊢
  have c5 := r02_Mul_ok (Qr x) (Qr x) (k := 3 * k + 2) (Qr_w _ (by omega)) (Qr_w _ (by omega)) (by omega)
  have z5 := LQ_mul x x
  have c6 := r02_Sub_ok (Qr (r4 * (a * b))) (Qr (x * x)) (k := 10 * k + 10) (Qr_w _ (by omega)) (Qr_w _ (by omega)) (by omega)
  simp only [Qr_val] at c5 c6
  refine AW.seq ?_
  refine AW.region ?_   -- "ref.go:42"
  refine AOps.run tok 4 _ _ _ _ rfl ?_
  refine AOps.nil ?_
  refine AW.seq ?_
  refine AW.region ?_   -- "ref.go:43"
  refine AOps.call tok rfl rfl rfl rfl o4 ?_
  refine AOps.run tok 2 _ _ _ _ rfl ?_
  refine AOps.nil ?_
  refine AW.seq ?_
  refine AW.draw hmix 6 (by kernel_rfl) ?_   -- "ref.go:44"
  refine APre.run tok 2 _ _ _ _ rfl ?_
  refine APre.call tok rfl rfl rfl rfl rfl c1 ?_
  refine APre.run tok 1 _ _ _ _ rfl ?_
  refine APre.call tok rfl rfl rfl rfl rfl c2 ?_
  refine APre.run tok 1 _ _ _ _ rfl ?_
  refine APre.nil ?_
  refine AOps.run tok 1 _ _ _ _ rfl ?_
  refine AOps.nil ?_
  refine AW.seq ?_
  refine AW.draw hmix 9 (by kernel_rfl) ?_   -- "ref.go:45"
  refine APre.run tok 3 _ _ _ _ rfl ?_
  refine APre.call tok rfl rfl rfl rfl rfl c3 ?_
  refine APre.call tok rfl rfl rfl rfl rfl c4 ?_
  refine APre.run tok 2 _ _ _ _ rfl ?_
  refine APre.call tok rfl rfl rfl rfl rfl c5 ?_
  refine APre.call tok rfl rfl rfl rfl rfl c6 ?_
  refine APre.nil ?_
  refine AOps.run tok 1 _ _ _ _ rfl ?_
  refine AOps.nil ?_
  exact AW.ret rfl
/-- The bars, without directions and signs. -/
def barO (d e : Dy) : BarR := ⟨d.2.2, b2F d e, e.2.2, vsub e.1 d.1, [], []⟩
theorem r50_Disc_ok (d e : Dy) (u : V2) {k : Nat} (hd : szD d ≤ k) (he : szD e ≤ k) (hu : szV u ≤ k) (hk : k ≤ 1000) : Pure Tryz.prog 57 [(DyQ d).D, (DyQ e).D, (VQ u).D] (Qr (discQ (barO d e) u)).D := by
  refine Pure.intro (n := 23) tok Tryz.func57 rfl rfl rfl (Nat.le_of_ble_eq_true rfl) (by kernel_rfl) (fun B F0 w0 => ?_)
  have cb := r50_B2_ok d e hd he (by omega)
  have hd := szD_1 hd
  have he := szD_1 he
  have eD : discQ (barO d e) u = areaF (b2F d e) e.2.2 (dt (vsub (vsub e.1 d.1) u) (vsub (vsub e.1 d.1) u)) := rfl
  have zb : LQ (b2F d e) ≤ 8 * k + 5 := by
    have z1 := szV_sub e.2.1 d.2.1 he.2.1 hd.2.1
    have := (LQ_dt _ _ z1 z1).1
    show LQ (dt _ _) ≤ _
    exact Nat.le_trans this (by omega)
  rw [eD]
  obtain ⟨dc, dm, dr⟩ := d
  obtain ⟨ec, em, er⟩ := e
  simp only [] at hd he ⊢
  generalize b2F (dc, dm, dr) (ec, em, er) = bb at cb zb ⊢
  have m1 := r17_Less_ok ec dc (k := k) he.1 hd.1 (by omega)
  have z1 := szV_sub ec dc he.1 hd.1
  generalize vsub ec dc = f at m1 z1 ⊢
  have m2 := r17_Less_ok f u (k := 2 * k + 1) (by omega) (by omega) (by omega)
  have z2 := szV_sub f u z1 hu
  generalize vsub f u = w at m2 z2 ⊢
  have m3 := r17_Square_ok w z2 (by omega)
  have z3 := (LQ_dt w w z2 z2).1
  have m4 := r36_Area_ok bb er (dt w w) (k := 20 * k + 20) (by omega) (by omega) (by omega) (by omega)
  refine AW.seq ?_
  refine AW.region ?_   -- "ref.go:68"
  refine AOps.run tok 4 _ _ _ _ rfl ?_
  refine AOps.nil ?_
  refine AW.seq ?_
  refine AW.region ?_   -- "ref.go:69"
  refine AOps.run tok 4 _ _ _ _ rfl ?_
  refine AOps.call tok rfl rfl rfl rfl m1 ?_
  refine AOps.run tok 2 _ _ _ _ rfl ?_
  refine AOps.nil ?_
  refine AW.seq ?_
  refine AW.draw hmix 10 (by kernel_rfl) ?_   -- "ref.go:70"
  refine APre.run tok 2 _ _ _ _ rfl ?_
  refine APre.call tok rfl rfl rfl rfl rfl cb ?_
  refine APre.run tok 4 _ _ _ _ rfl ?_
  refine APre.call tok rfl rfl rfl rfl rfl m2 ?_
  refine APre.call tok rfl rfl rfl rfl rfl m3 ?_
  refine APre.call tok rfl rfl rfl rfl rfl m4 ?_
  refine APre.nil ?_
  refine AOps.run tok 1 _ _ _ _ rfl ?_
  refine AOps.nil ?_
  exact AW.ret rfl
def surdR (x a p : Rat) : Int := if sgQ x = 0 ∨ sgQ a * sgQ p = 0 ∨ sgQ x = sgQ a * sgQ p then (if sgQ x = 0 then sgQ a * sgQ p else sgQ x) else sgQ x * sgQ (x * x - a * a * p)
theorem surd_eq {x a p : Rat} (hp : 0 < p) : surdR x a p = surdF x a p := by
  have h1 : sgQ p = 1 := by
    have h := sgQ_pos.2 hp
    rcases sgQ_cases p with e | e | e <;> omega
  unfold surdR surdF
  rw [h1, Int.mul_one]
  by_cases h2 : sgQ x = 0
  · rw [if_pos (.inl h2), if_pos h2]
    by_cases h3 : sgQ x = sgQ a ∨ sgQ a = 0
    · rw [if_pos h3]; omega
    · rw [if_neg h3, if_pos h2]
  · by_cases h3 : sgQ x = sgQ a ∨ sgQ a = 0
    · rw [if_pos (.inr h3.symm), if_neg h2, if_pos h3]
    · rw [if_neg (fun h => h.elim h2 (fun h => h3 h.symm)), if_neg h3, if_neg h2]
theorem r34_Surd_ok (x a p : Rat) {k : Nat} (hx : LQ x ≤ k) (ha : LQ a ≤ k) (hp : LQ p ≤ k) (hk : k ≤ 100000) : Pure Tryz.prog 108 [(Qr x).D, (Qr a).D, (Qr p).D] (dI (surdR x a p)) := by
  refine Pure.intro (n := 44) tok Tryz.func108 rfl rfl rfl (Nat.le_of_ble_eq_true rfl) (by kernel_rfl) (fun B F0 w0 => ?_)
  have s1 := r02_Sign_ok (Qr x) (k := k) (Qr_w _ hx) (by omega)
  have s2 := r02_Sign_ok (Qr a) (k := k) (Qr_w _ ha) (by omega)
  have s3 := r02_Sign_ok (Qr p) (k := k) (Qr_w _ hp) (by omega)
  have c1 := r02_Mul_ok (Qr a) (Qr a) (k := k) (Qr_w _ ha) (Qr_w _ ha) (by omega)
  have z1 := LQ_mul a a
  have c2 := r02_Mul_ok (Qr (a * a)) (Qr p) (k := 2 * k) (Qr_w _ (by omega)) (Qr_w _ (by omega)) (by omega)
  have z2 := LQ_mul (a * a) p
  have c3 := r02_Mul_ok (Qr x) (Qr x) (k := k) (Qr_w _ hx) (Qr_w _ hx) (by omega)
  have z3 := LQ_mul x x
  have c4 := r02_Cmp_ok (Qr (x * x)) (Qr (a * a * p)) (k := 4 * k) (Qr_w _ (by omega)) (Qr_w _ (by omega)) (by omega)
  simp only [Qr_val] at c1 c2 c3 c4 s1 s2 s3
  rw [sgI_num] at s1 s2 s3
  rw [← cmpQ_sub, sgI_num] at c4
  unfold surdR
  have t1 := sgQ_cases x
  have t2 := sgQ_cases a
  have t3 := sgQ_cases p
  have t4 := sgQ_cases (x * x - a * a * p)
  generalize sgQ (x * x - a * a * p) = u at c4 t4 ⊢
  generalize sgQ x = s at s1 t1 ⊢
  generalize sgQ a = y at s2 t2 ⊢
  generalize sgQ p = z at s3 t3 ⊢
  have tm : tri (y * z) := tri_mul t2 t3
  have tm2 : tri (s * u) := tri_mul t1 t4
  refine AW.seq ?_
  refine AW.region ?_   -- "ref.go:10"
  refine AOps.run tok 4 _ _ _ _ rfl ?_
  refine AOps.nil ?_
  refine AW.seq ?_
  refine AW.draw hmix 8 (by kernel_rfl) ?_   -- "ref.go:11"
  refine APre.run tok 1 _ _ _ _ rfl ?_
  refine APre.call tok rfl rfl rfl rfl rfl s1 ?_
  refine APre.run tok 1 _ _ _ _ rfl ?_
  refine APre.call tok rfl rfl rfl rfl rfl s2 ?_
  refine APre.run tok 1 _ _ _ _ rfl ?_
  refine APre.call tok rfl rfl rfl rfl rfl s3 ?_
  refine APre.run tok 1 _ _ _ _ rfl ?_
  rw [wI64 (x := y * z) (by unfold tri at tm; omega) (by unfold tri at tm; omega)]
  generalize y * z = t at tm ⊢
  refine APre.run tok 1 _ _ _ _ rfl ?_
  refine APre.nil ?_
  refine AOps.run tok 1 _ _ _ _ rfl ?_
  refine AOps.nil ?_
  refine AW.cut [3, 4, 5, 7, 8] (fun _ : Unit => [(3, .bx (Qr x).D.flat), (4, .bx (Qr a).D.flat), (5, .bx (Qr p).D.flat), (7, .d (dI s)), (8, .d (dI t))]) (fun _ => ¬ (s = 0 ∨ t = 0 ∨ s = t)) ?_ (fun _ hN => ?_)
  · refine AW.seq ?_
    refine AW.region ?_
    refine AOps.run tok 2 _ _ _ _ rfl ?_
    by_cases h0 : s = 0
    · rw [beq_iff_eq.2 h0, if_pos (.inl h0), if_pos h0]
      refine AOps.run tok 9 _ _ _ _ rfl ?_
      refine AOps.nil ?_
      refine AW.condT rfl ?_
      refine AW.seq ?_
      refine AW.seq ?_
      refine AW.region ?_
      refine AOps.run tok 2 _ _ _ _ rfl ?_
      refine AOps.nil ?_
      rw [beq_iff_eq.2 h0]
      refine AW.condT rfl ?_
      refine AW.seq ?_
      refine AW.region ?_
      refine AOps.run tok 2 _ _ _ _ rfl ?_
      refine AOps.nil ?_
      exact AW.ret rfl
    rw [beq_eq_false_iff_ne.2 h0]
    refine AOps.run tok 3 _ _ _ _ rfl ?_
    by_cases h1 : t = 0
    · rw [beq_iff_eq.2 h1, if_pos (.inr (.inl h1)), if_neg h0]
      refine AOps.run tok 6 _ _ _ _ rfl ?_
      refine AOps.nil ?_
      refine AW.condT rfl ?_
      refine AW.seq ?_
      refine AW.seq ?_
      refine AW.region ?_
      refine AOps.run tok 2 _ _ _ _ rfl ?_
      refine AOps.nil ?_
      rw [beq_eq_false_iff_ne.2 h0]
      refine AW.condF rfl ?_
      refine AW.skip ?_
      refine AW.seq ?_
      refine AW.region ?_
      refine AOps.run tok 2 _ _ _ _ rfl ?_
      refine AOps.nil ?_
      exact AW.ret rfl
    rw [beq_eq_false_iff_ne.2 h1]
    refine AOps.run tok 5 _ _ _ _ rfl ?_
    by_cases h2 : s = t
    · rw [beq_iff_eq.2 h2, if_pos (.inr (.inr h2)), if_neg h0]
      refine AOps.run tok 1 _ _ _ _ rfl ?_
      refine AOps.nil ?_
      refine AW.condT rfl ?_
      refine AW.seq ?_
      refine AW.seq ?_
      refine AW.region ?_
      refine AOps.run tok 2 _ _ _ _ rfl ?_
      refine AOps.nil ?_
      rw [beq_eq_false_iff_ne.2 h0]
      refine AW.condF rfl ?_
      refine AW.skip ?_
      refine AW.seq ?_
      refine AW.region ?_
      refine AOps.run tok 2 _ _ _ _ rfl ?_
      refine AOps.nil ?_
      exact AW.ret rfl
    rw [beq_eq_false_iff_ne.2 h2]
    refine AOps.run tok 1 _ _ _ _ rfl ?_
    refine AOps.nil ?_
    refine AW.condF rfl ?_
    refine AW.skip ?_
    exact ⟨(), rfl, fun h => h.elim h0 (fun h => h.elim h1 h2)⟩
  rw [if_neg hN]
  show AW _ _ _ _ _ _ _ [(3, .bx (Qr x).D.flat), (4, .bx (Qr a).D.flat), (5, .bx (Qr p).D.flat), (7, .d (dI s)), (8, .d (dI t))]
  refine AW.seq ?_
  refine AW.draw hmix 6 (by kernel_rfl) ?_
  refine APre.run tok 2 _ _ _ _ rfl ?_
  refine APre.call tok rfl rfl rfl rfl rfl c1 ?_
  refine APre.run tok 1 _ _ _ _ rfl ?_
  refine APre.call tok rfl rfl rfl rfl rfl c2 ?_
  refine APre.run tok 1 _ _ _ _ rfl ?_
  refine APre.nil ?_
  refine AOps.run tok 1 _ _ _ _ rfl ?_
  refine AOps.nil ?_
  refine AW.seq ?_
  refine AW.draw hmix 7 (by kernel_rfl) ?_
  refine APre.run tok 3 _ _ _ _ rfl ?_
  refine APre.call tok rfl rfl rfl rfl rfl c3 ?_
  refine APre.run tok 1 _ _ _ _ rfl ?_
  refine APre.call tok rfl rfl rfl rfl rfl c4 ?_
  refine APre.run tok 1 _ _ _ _ rfl ?_
  rw [wI64 (x := s * u) (by unfold tri at tm2; omega) (by unfold tri at tm2; omega)]
  refine APre.nil ?_
  refine AOps.run tok 1 _ _ _ _ rfl ?_
  refine AOps.nil ?_
  exact AW.ret rfl
end Lift
/- Defects: the program's way between two directions is the reference's (plain). -/
namespace Lift

theorem sgQ_mul (x y : Rat) : sgQ (x * y) = sgQ x * sgQ y := by
  have key : ∀ {z : Rat}, 0 < z → sgQ z = 1 := fun {z} h => by
    have := sgQ_pos.2 h
    rcases sgQ_cases z with e | e | e <;> omega
  have keyn : ∀ {z : Rat}, z < 0 → sgQ z = -1 := fun {z} h => by
    have := sgQ_neg.2 h
    rcases sgQ_cases z with e | e | e <;> omega
  by_cases hx : x = 0
  · subst hx; rw [Rat.zero_mul, sgQ_0, Int.zero_mul]
  by_cases hy : y = 0
  · subst hy; rw [Rat.mul_zero, sgQ_0, Int.mul_zero]
  have cx : 0 < x ∨ x < 0 := by grind
  have cy : 0 < y ∨ y < 0 := by grind
  rcases cx with cx | cx <;> rcases cy with cy | cy
  · rw [key cx, key cy, key (Rat.mul_pos cx cy)]; rfl
  · have : 0 < x * (-y) := Rat.mul_pos cx (by grind)
    rw [key cx, keyn cy, keyn (by grind)]; rfl
  · have : 0 < (-x) * y := Rat.mul_pos (by grind) cy
    rw [keyn cx, key cy, keyn (by grind)]; rfl
  · have : 0 < (-x) * (-y) := Rat.mul_pos (by grind) (by grind)
    rw [keyn cx, keyn cy, key (by grind)]; rfl
theorem sgQ_one {z : Rat} (h : 0 < z) : sgQ z = 1 := by
  have := sgQ_pos.2 h
  rcases sgQ_cases z with e | e | e <;> omega
theorem sgQ_m1 {z : Rat} (h : z < 0) : sgQ z = -1 := by
  have := sgQ_neg.2 h
  rcases sgQ_cases z with e | e | e <;> omega
/-- The root is a fraction. -/
theorem surd_sq {P Y r : Rat} (hr : 0 < r) : surdF P Y (r * r) = sgQ (P + Y * r) := by
  unfold surdF
  have e : P * P - Y * Y * (r * r) = (P - Y * r) * (P + Y * r) := by grind
  rw [e, sgQ_mul]
  by_cases hY : Y = 0
  · subst hY; rw [if_pos (.inr sgQ_0), Rat.zero_mul, Rat.add_zero]
  by_cases hP : P = 0
  · subst hP
    rw [sgQ_0, Rat.zero_add, sgQ_mul, sgQ_one hr, Int.mul_one]
    by_cases h : (0 : Int) = sgQ Y ∨ sgQ Y = 0
    · rw [if_pos h]; omega
    · rw [if_neg h, if_pos rfl]
  have cY : 0 < Y ∨ Y < 0 := by grind
  have cP : 0 < P ∨ P < 0 := by grind
  rcases cY with cY | cY
  · have h1 : 0 < Y * r := Rat.mul_pos cY hr
    rcases cP with cP | cP
    · rw [sgQ_one cP, sgQ_one cY, if_pos (.inl rfl), sgQ_one (by grind)]
    · rw [sgQ_m1 cP, sgQ_one cY, if_neg (by decide), if_neg (by decide), sgQ_m1 (z := P - Y * r) (by grind)]
      omega
  · have h1 : 0 < (-Y) * r := Rat.mul_pos (by grind) hr
    rcases cP with cP | cP
    · rw [sgQ_one cP, sgQ_m1 cY, if_neg (by decide), if_neg (by decide), sgQ_one (z := P - Y * r) (by grind)]
      omega
    · rw [sgQ_m1 cP, sgQ_m1 cY, if_pos (.inl rfl), sgQ_m1 (by grind)]
theorem lagr (u w : V2) : dt u w * dt u w + crs u w * crs u w = dt u u * dt w w := by unfold dt crs; grind
theorem dt_vneg (u w : V2) : dt u (vneg w) = -dt u w := by unfold dt vneg; grind
theorem crs_vneg (u w : V2) : crs u (vneg w) = -crs u w := by unfold crs vneg; grind
/-- The discriminant by the scalar product with the frame. -/
theorem disc_dt {b : BarR} {u : V2} (h : dt u u = b.a2) : discQ b u = ((4 : Int) : Rat) * (b.b2 * b.c2) - (xlF b + 2 * dt u b.f) * (xlF b + 2 * dt u b.f) := by
  unfold discQ xlF
  have e : dt (vsub b.f u) (vsub b.f u) = dt b.f b.f - 2 * dt u b.f + dt u u := by unfold dt vsub; grind
  rw [e, h]
  grind
theorem four4 : ((4 : Int) : Rat) = 4 := rfl
theorem al_pos {b : BarR} {u : V2} (h : dt u u = b.a2) (hc : crs u b.f = 0) (hd : 0 < dt u b.f) : inLF b 1 = sgQ (discQ b u) := by
  have hp : prodF b = dt u b.f * dt u b.f := by
    have := lagr u b.f
    unfold prodF
    rw [← h, ← this, hc]; grind
  unfold inLF plainF
  rw [hp, surd_sq hd, disc_dt h]
  congr 1
  rw [four4, show ((-4 * 1 : Int) : Rat) = -4 from rfl]
  grind
theorem al_neg {b : BarR} {u : V2} (h : dt u u = b.a2) (hc : crs u b.f = 0) (hd : dt u b.f < 0) : inLF b (-1) = sgQ (discQ b u) := by
  have hp : prodF b = (-dt u b.f) * (-dt u b.f) := by
    have := lagr u b.f
    unfold prodF
    rw [← h, ← this, hc]; grind
  unfold inLF plainF
  rw [hp, surd_sq (by grind), disc_dt h]
  congr 1
  rw [four4, show ((-4 * -1 : Int) : Rat) = 4 from rfl]
  grind
/-- The frame's direction, or the opposite one. -/
def dirS (b : BarR) (s : Int) : V2 := if s < 0 then vneg b.f else b.f
theorem al_any {b : BarR} {u : V2} {s : Int} (hs : s = 1 ∨ s = -1) (h : dt u u = b.a2) (hc : crs u (dirS b s) = 0) (hd : 0 < dt u (dirS b s)) : inLF b s = sgQ (discQ b u) := by
  unfold dirS at hc hd
  rcases hs with rfl | rfl
  · rw [if_neg (by decide)] at hc hd
    exact al_pos h hc hd
  · rw [if_pos (by decide), crs_vneg] at hc
    rw [if_pos (by decide), dt_vneg] at hd
    exact al_neg h (by grind) (by grind)
theorem dirS_dt (b : BarR) (s : Int) : dt (dirS b s) (dirS b s) = dt b.f b.f := by
  unfold dirS
  split
  · unfold dt vneg; grind
  · rfl
theorem crs_comm (u v : V2) : crs u v = -crs v u := by unfold crs; grind
/-- A direction along u that is to the right of v, which is to the left of u. -/
theorem along {u v w : V2} (h0 : 0 < dt u u) (hw : 0 < dt w w) (ht : 0 < crs u v) (hc : crs u w = 0) (hv : 0 ≤ crs w v) : 0 < dt u w := by
  have e : dt u u * crs w v = dt u w * crs u v - crs u w * dt u v := by unfold dt crs; grind
  have l := lagr u w
  have hn : dt u w ≠ 0 := fun h => by
    have := Rat.mul_pos h0 hw
    rw [h, hc] at l
    grind
  have h1 : 0 ≤ dt u u * crs w v := Rat.mul_nonneg (by grind) hv
  by_cases h : 0 < dt u w
  · exact h
  · have : 0 < (-dt u w) * crs u v := Rat.mul_pos (by grind) ht
    rw [hc] at e
    grind
theorem along' {u v w : V2} (h0 : 0 < dt v v) (hw : 0 < dt w w) (ht : 0 < crs u v) (hc : crs w v = 0) (hv : 0 ≤ crs u w) : 0 < dt v w := by
  have e : dt v v * crs u w = dt v w * crs u v + dt u v * crs v w := by unfold dt crs; grind
  have l := lagr v w
  have hc2 : crs v w = 0 := by rw [crs_comm, hc]; grind
  have hn : dt v w ≠ 0 := fun h => by
    have := Rat.mul_pos h0 hw
    rw [h, hc2] at l
    grind
  have h1 : 0 ≤ dt v v * crs u w := Rat.mul_nonneg (by grind) hv
  by_cases h : 0 < dt v w
  · exact h
  · have : 0 < (-dt v w) * crs u v := Rat.mul_pos (by grind) ht
    rw [hc2] at e
    grind
theorem insR_of {u v w : V2} (ht : 0 < crs u v) : insR u v w = (decide (0 < crs u w) && decide (0 < crs w v)) := by
  unfold insR
  rw [sgQ_one ht]
  have k : ∀ x : Rat, decide (sgQ x = 1) = decide (0 < x) := fun x => decide_eq_decide.2 ⟨fun h => sgQ_pos.1 (by omega), fun h => sgQ_one h⟩
  rw [k, k]
  rfl
theorem insF_of (u v w : V2) : insF u v w = (decide (0 ≤ crs u w) && decide (0 ≤ crs w v)) := by
  unfold insF
  have k : ∀ x : Rat, decide (0 ≤ sgQ x) = decide (0 ≤ x) := fun x => decide_eq_decide.2 ⟨fun h => by
    by_cases hx : x < 0
    · have := sgQ_neg.2 hx; omega
    · grind, fun h => by
    rcases sgQ_cases x with e | e | e
    · omega
    · omega
    · have h1 : x < 0 := sgQ_neg.1 (by rw [e]; decide)
      grind⟩
  rw [k, k]
theorem way_eq {b : BarR} {u v : V2} {s : Int} (hs : s = 1 ∨ s = -1) (hu : dt u u = b.a2) (hv : dt v v = b.a2) (ha : 0 < b.a2) (hf : 0 < dt b.f b.f) (ht : 0 < crs u v) (pu : posF b u = true) (pv : posF b v = true) :
    wayF b u v s = (!insR u v (dirS b s) || decide (0 < inLF b s)) := by
  have e0 : wayF b u v s = (!insF u v (dirS b s) || decide (0 < inLF b s)) := rfl
  have hw := dirS_dt b s
  rw [e0, insR_of ht, insF_of]
  have pu : 0 < sgQ (discQ b u) := of_decide_eq_true pu
  have pv : 0 < sgQ (discQ b v) := of_decide_eq_true pv
  have a1 := fun hc hd => al_any (u := u) hs hu hc hd
  have a2 := fun hc hd => al_any (u := v) hs hv hc hd
  generalize dirS b s = w at hw a1 a2 ⊢
  by_cases h1 : 0 ≤ crs u w
  rotate_left
  · rw [decide_eq_false h1, decide_eq_false (show ¬ 0 < crs u w by grind), Bool.false_and, Bool.false_and]
  by_cases h2 : 0 ≤ crs w v
  rotate_left
  · rw [decide_eq_false h2, decide_eq_false (show ¬ 0 < crs w v by grind), Bool.and_false, Bool.and_false]
  rw [decide_eq_true h1, decide_eq_true h2]
  by_cases h3 : 0 < crs u w
  rotate_left
  · have h3 : crs u w = 0 := by grind
    have := a1 h3 (along (by rw [hu]; exact ha) (by rw [hw]; exact hf) ht h3 h2)
    rw [this, decide_eq_true pu, Bool.or_true, Bool.or_true]
  by_cases h4 : 0 < crs w v
  rotate_left
  · have h4 : crs w v = 0 := by grind
    have hc : crs v w = 0 := by rw [crs_comm, h4]; grind
    have := a2 hc (along' (by rw [hv]; exact ha) (by rw [hw]; exact hf) ht h4 h1)
    rw [this, decide_eq_true pv, Bool.or_true, Bool.or_true]
  rw [decide_eq_true h3, decide_eq_true h4]
theorem insR_swap (u v w : V2) : insR u v w = insR v u w := by
  unfold insR
  have e1 : sgQ (crs v u) = -sgQ (crs u v) := by rw [crs_comm v u, sgQ_negate]
  have e2 : sgQ (crs v w) = -sgQ (crs w v) := by rw [crs_comm v w, sgQ_negate]
  have e3 : sgQ (crs w u) = -sgQ (crs u w) := by rw [crs_comm w u, sgQ_negate]
  rw [e1, e2, e3]
  generalize sgQ (crs u v) = a
  generalize sgQ (crs u w) = x
  generalize sgQ (crs w v) = y
  have h1 : decide (-a = 0) = decide (a = 0) := decide_eq_decide.2 (by omega)
  have h2 : decide (-y = -a) = decide (y = a) := decide_eq_decide.2 (by omega)
  have h3 : decide (-x = -a) = decide (x = a) := decide_eq_decide.2 (by omega)
  rw [h1, h2, h3, Bool.and_comm (decide (y = a))]
/-- The reference's way between two directions. -/
def betG (b : BarR) (u v : V2) : Bool := if insR u v b.f = true then (posF b u && posF b v) && decide (0 < inLF b 1) else posF b u && posF b v
def betR (b : BarR) (u v : V2) : Bool := if insR u v (vneg b.f) = true then betG b u v && decide (0 < inLF b (-1)) else betG b u v
theorem btw_eq {b : BarR} {u v : V2} (hu : dt u u = b.a2) (hv : dt v v = b.a2) (ha : 0 < b.a2) (hf : 0 < dt b.f b.f) : btwV b u v = betR b u v := by
  have key : ∀ u v : V2, dt u u = b.a2 → dt v v = b.a2 → 0 < crs u v → posF b u = true → posF b v = true → (wayF b u v 1 && wayF b u v (-1)) = ((!insR u v b.f || decide (0 < inLF b 1)) && (!insR u v (vneg b.f) || decide (0 < inLF b (-1)))) := fun u v hu hv ht pu pv => by
    rw [way_eq (.inl rfl) hu hv ha hf ht pu pv, way_eq (.inr rfl) hu hv ha hf ht pu pv]
    rfl
  have k1 := key u v hu hv
  have k2 := key v u hv hu
  rw [insR_swap v u, insR_swap v u] at k2
  have hz : crs u v = 0 → ∀ w, insR u v w = false := fun h w => by unfold insR; rw [h, sgQ_0]; rfl
  unfold btwV betR betG
  cases hpu : posF b u with
  | false => cases insR u v b.f <;> cases insR u v (vneg b.f) <;> simp
  | true =>
  cases hpv : posF b v with
  | false => cases insR u v b.f <;> cases insR u v (vneg b.f) <;> simp
  | true =>
  by_cases h0 : crs u v = 0
  · rw [hz h0, hz h0, h0, sgQ_0]; rfl
  have hs0 : sgQ (crs u v) ≠ 0 := fun h => h0 (sgQ_zero.1 h)
  rw [decide_eq_false hs0]
  have fin : ∀ i1 i2 o1 o2 : Bool, ((!i1 || o1) && (!i2 || o2)) = (if i2 = true then (if i1 = true then (true && true) && o1 else (true && true)) && o2 else (if i1 = true then (true && true) && o1 else (true && true))) := by decide
  by_cases h1 : sgQ (crs u v) < 0
  · rw [if_pos h1]
    have h2 := sgQ_neg.1 h1
    rw [k2 (by rw [crs_comm]; grind) hpv hpu]
    show (true && (true && (false || _))) = _
    rw [Bool.true_and, Bool.true_and, Bool.false_or]
    exact fin _ _ _ _
  · rw [if_neg h1]
    have h2 : 0 < crs u v := by
      have : ¬ crs u v < 0 := fun h => h1 (sgQ_neg.2 h)
      grind
    rw [k1 h2 hpu hpv]
    show (true && (true && (false || _))) = _
    rw [Bool.true_and, Bool.true_and, Bool.false_or]
    exact fin _ _ _ _
end Lift
/- The reference of layer 50: Between; law 50: DefectsWays. -/
namespace Lift
open Go Go.Proofs

theorem r50_Direction_ok (p : Po) (d : Dy) {k : Nat} (h : szP p ≤ k) (hd : szD d ≤ k) (h1 : 1 ≤ k) (hk : k ≤ 1000) : Pure Tryz.prog 24 [(PoQ p).D, (DyQ d).D] (VQ (dirF d p)).D := by
  refine Pure.intro (n := 12) tok Tryz.func24 rfl rfl rfl (Nat.le_of_ble_eq_true rfl) (by kernel_rfl) (fun B F0 w0 => ?_)
  have hd := szD_1 hd
  unfold dirF
  obtain ⟨dc, dm, dr⟩ := d
  simp only [] at hd ⊢
  have c1 := r17_Apply_ok p dm h hd.2.1 h1 (by omega)
  have z1 := szV_app p dm h hd.2.1 h1
  generalize appF p dm = a at c1 z1 ⊢
  have c2 := r17_Less_ok a dc (k := 11 * k + 10) z1 (by omega) (by omega)
  refine AW.seq ?_
  refine AW.region ?_   -- "ref.go:44"
  refine AOps.run tok 3 _ _ _ _ rfl ?_
  refine AOps.nil ?_
  refine AW.seq ?_
  refine AW.draw hmix 7 (by kernel_rfl) ?_   -- "ref.go:45"
  refine APre.run tok 3 _ _ _ _ rfl ?_
  refine APre.call tok rfl rfl rfl rfl rfl c1 ?_
  refine APre.run tok 2 _ _ _ _ rfl ?_
  refine APre.call tok rfl rfl rfl rfl rfl c2 ?_
  refine APre.nil ?_
  refine AOps.run tok 1 _ _ _ _ rfl ?_
  refine AOps.nil ?_
  exact AW.ret rfl
set_option maxHeartbeats 800000 in
theorem r50_aligned_ok (d e : Dy) (s : Int) {k : Nat} (hs : s = 1 ∨ s = -1) (hd : szD d ≤ k) (he : szD e ≤ k) (hp : 0 < prodF (barO d e)) (hk : k ≤ 500) : Pure Tryz.prog 59 [(DyQ d).D, (DyQ e).D, dI s] (dI (inLF (barO d e) s)) := by
  refine Pure.intro (n := 58) tok Tryz.func59 rfl rfl rfl (Nat.le_of_ble_eq_true rfl) (by kernel_rfl) (fun B F0 w0 => ?_)
  have cb := r50_B2_ok d e hd he (by omega)
  have hd := szD_1 hd
  have he := szD_1 he
  have zb : LQ (b2F d e) ≤ 8 * k + 5 := by
    have z1 := szV_sub e.2.1 d.2.1 he.2.1 hd.2.1
    have := (LQ_dt _ _ z1 z1).1
    show LQ (dt _ _) ≤ _
    exact Nat.le_trans this (by omega)
  unfold inLF
  rw [← surd_eq hp]
  have e1 : prodF (barO d e) = d.2.2 * dt (vsub e.1 d.1) (vsub e.1 d.1) := rfl
  have e2 : xlF (barO d e) = (b2F d e + e.2.2) - (d.2.2 + dt (vsub e.1 d.1) (vsub e.1 d.1)) := rfl
  have e3 : plainF (barO d e) = ((4 : Int) : Rat) * (b2F d e * e.2.2) - (xlF (barO d e) * xlF (barO d e) + ((4 : Int) : Rat) * prodF (barO d e)) := rfl
  rw [e3]
  clear e3
  generalize prodF (barO d e) = p at e1 hp ⊢
  generalize xlF (barO d e) = x at e2 ⊢
  obtain ⟨dc, dm, a2⟩ := d
  obtain ⟨ec, em, c2⟩ := e
  simp only [] at hd he e1 e2 ⊢
  obtain ⟨_, _, h1⟩ := hd
  generalize b2F (dc, dm, a2) (ec, em, c2) = b2 at cb zb e2 ⊢
  have m1 := r17_Less_ok ec dc (k := k) he.1 (by omega) (by omega)
  have z1 := szV_sub ec dc (k := k) (m := k) he.1 (by omega)
  generalize vsub ec dc = f at m1 z1 e1 e2 ⊢
  have m2 := r17_Square_ok f z1 (by omega)
  have z2 := (LQ_dt f f z1 z1).1
  generalize dt f f = q at m2 z2 e1 e2 ⊢
  have d1 := r02_Mul_ok (Qr a2) (Qr q) (k := 10 * k + 10) (Qr_w _ (by omega)) (Qr_w _ (by omega)) (by omega)
  have y1 := LQ_mul a2 q
  have d2 := r02_Add_ok (Qr b2) (Qr c2) (k := 10 * k + 10) (Qr_w _ (by omega)) (Qr_w _ (by omega)) (by omega)
  have y2 := LQ_add b2 c2
  have d3 := r02_Add_ok (Qr a2) (Qr q) (k := 10 * k + 10) (Qr_w _ (by omega)) (Qr_w _ (by omega)) (by omega)
  have y3 := LQ_add a2 q
  have d4 := r02_Sub_ok (Qr (b2 + c2)) (Qr (a2 + q)) (k := 20 * k + 20) (Qr_w _ (by omega)) (Qr_w _ (by omega)) (by omega)
  have y4 := LQ_sub (b2 + c2) (a2 + q)
  rw [Qr_val, Qr_val] at d1 d2 d3 d4
  rw [← e1] at d1 y1
  rw [← e2] at d4 y4
  clear e1 e2
  have o4 := r02_Of_ok 4 (by decide) (by decide)
  have zo := LQ_four 4 (by decide)
  generalize ((4 : Int) : Rat) = r4 at o4 zo ⊢
  have c5 := r02_Mul_ok (Qr b2) (Qr c2) (k := 10 * k + 10) (Qr_w _ (by omega)) (Qr_w _ (by omega)) (by omega)
  have z5 := LQ_mul b2 c2
  have c6 := r02_Mul_ok (Qr r4) (Qr (b2 * c2)) (k := 20 * k + 20) (Qr_w _ (by omega)) (Qr_w _ (by omega)) (by omega)
  have z6 := LQ_mul r4 (b2 * c2)
  have c7 := r02_Mul_ok (Qr x) (Qr x) (k := 20 * k + 30) (Qr_w _ (by omega)) (Qr_w _ (by omega)) (by omega)
  have z7 := LQ_mul x x
  have c8 := r02_Mul_ok (Qr r4) (Qr p) (k := 20 * k + 30) (Qr_w _ (by omega)) (Qr_w _ (by omega)) (by omega)
  have z8 := LQ_mul r4 p
  have c9 := r02_Add_ok (Qr (x * x)) (Qr (r4 * p)) (k := 100 * k + 100) (Qr_w _ (by omega)) (Qr_w _ (by omega)) (by omega)
  have z9 := LQ_add (x * x) (r4 * p)
  have c10 := r02_Sub_ok (Qr (r4 * (b2 * c2))) (Qr (x * x + r4 * p)) (k := 200 * k + 200) (Qr_w _ (by omega)) (Qr_w _ (by omega)) (by omega)
  have z10 := LQ_sub (r4 * (b2 * c2)) (x * x + r4 * p)
  simp only [Qr_val] at c5 c6 c7 c8 c9 c10
  generalize r4 * (b2 * c2) - (x * x + r4 * p) = P at c10 z10 ⊢
  have os := r02_Of_ok (-4 * s) (by omega) (by omega)
  have zs := LQ_four (-4 * s) (by omega)
  generalize ((-4 * s : Int) : Rat) = rs at os zs ⊢
  have c11 := r02_Mul_ok (Qr rs) (Qr x) (k := 20 * k + 30) (Qr_w _ (by omega)) (Qr_w _ (by omega)) (by omega)
  have z11 := LQ_mul rs x
  rw [Qr_val, Qr_val] at c11
  generalize rs * x = Y at c11 z11 ⊢
  have c12 := r34_Surd_ok P Y p (k := 100 * k + 200) (by omega) (by omega) (by omega) (by omega)
  refine AW.seq ?_
  refine AW.region ?_   -- "ref.go:74"
  refine AOps.run tok 3 _ _ _ _ rfl ?_
  refine AOps.nil ?_
  refine AW.seq ?_
  refine AW.region ?_   -- "ref.go:75"
  refine AOps.run tok 4 _ _ _ _ rfl ?_
  refine AOps.call tok rfl rfl rfl rfl m1 ?_
  refine AOps.call tok rfl rfl rfl rfl m2 ?_
  refine AOps.run tok 2 _ _ _ _ rfl ?_
  refine AOps.nil ?_
  refine AW.seq ?_
  refine AW.region ?_   -- "ref.go:76"
  refine AOps.run tok 2 _ _ _ _ rfl ?_
  refine AOps.call tok rfl rfl rfl rfl cb ?_
  refine AOps.run tok 2 _ _ _ _ rfl ?_
  refine AOps.nil ?_
  refine AW.seq ?_
  refine AW.draw hmix 10 (by kernel_rfl) ?_   -- "ref.go:77"
  refine APre.run tok 3 _ _ _ _ rfl ?_
  refine APre.call tok rfl rfl rfl rfl rfl d2 ?_
  refine APre.run tok 3 _ _ _ _ rfl ?_
  refine APre.call tok rfl rfl rfl rfl rfl d3 ?_
  refine APre.call tok rfl rfl rfl rfl rfl d4 ?_
  refine APre.run tok 1 _ _ _ _ rfl ?_
  refine APre.nil ?_
  refine AOps.run tok 1 _ _ _ _ rfl ?_
  refine AOps.nil ?_
  refine AW.seq ?_
  refine AW.region ?_   -- "ref.go:78"
  refine AOps.run tok 3 _ _ _ _ rfl ?_
  refine AOps.call tok rfl rfl rfl rfl d1 ?_
  refine AOps.call tok rfl rfl rfl rfl o4 ?_
  refine AOps.run tok 4 _ _ _ _ rfl ?_
  refine AOps.nil ?_
  refine AW.seq ?_
  refine AW.draw hmix 15 (by kernel_rfl) ?_   -- "ref.go:80"
  refine APre.run tok 4 _ _ _ _ rfl ?_
  refine APre.call tok rfl rfl rfl rfl rfl c5 ?_
  refine APre.call tok rfl rfl rfl rfl rfl c6 ?_
  refine APre.run tok 2 _ _ _ _ rfl ?_
  refine APre.call tok rfl rfl rfl rfl rfl c7 ?_
  refine APre.run tok 2 _ _ _ _ rfl ?_
  refine APre.call tok rfl rfl rfl rfl rfl c8 ?_
  refine APre.call tok rfl rfl rfl rfl rfl c9 ?_
  refine APre.call tok rfl rfl rfl rfl rfl c10 ?_
  refine APre.run tok 1 _ _ _ _ rfl ?_
  refine APre.nil ?_
  refine AOps.run tok 1 _ _ _ _ rfl ?_
  refine AOps.nil ?_
  refine AW.seq ?_
  refine AW.draw hmix 8 (by kernel_rfl) ?_   -- "ref.go:81"
  refine APre.run tok 3 _ _ _ _ rfl ?_
  rw [wI64 (x := -4 * s) (by omega) (by omega)]
  refine APre.call tok rfl rfl rfl rfl rfl os ?_
  refine APre.run tok 1 _ _ _ _ rfl ?_
  refine APre.call tok rfl rfl rfl rfl rfl c11 ?_
  refine APre.run tok 1 _ _ _ _ rfl ?_
  refine APre.call tok rfl rfl rfl rfl rfl c12 ?_
  refine APre.nil ?_
  refine AOps.run tok 1 _ _ _ _ rfl ?_
  refine AOps.nil ?_
  exact AW.ret rfl
theorem VQ0 : (VQ (0, 0)).D = .ag [dB false, .sl 1 [], .sl 1 [], dB false, .sl 1 [], .sl 1 []] := by
  show D.ag [dB (Qr 0).g, Wd (Qr 0).n, Wd (Qr 0).d, dB (Qr 0).g, Wd (Qr 0).n, Wd (Qr 0).d] = _
  rw [Qr_zero]; rfl
theorem vsub0 (f : V2) : vsub (0, 0) f = vneg f := Prod.ext (by show 0 - f.1 = -f.1; grind) (by show 0 - f.2 = -f.2; grind)
def poG (ps : List Po) (i : Nat) : Po := ps.getD i (none, (0, 0))
def betweenR (ps : List Po) (d e : Dy) (i : Int) : D := if i < 0 ∨ (ps.length : Int) - 2 < i then .tu [dB false, dI 9] else if btwU (dirF d (poG ps i.toNat)) (dirF d (poG ps (i.toNat + 1))) = true then .tu [dB false, dI 15] else
  .tu [dB (betR (barO d e) (dirF d (poG ps i.toNat)) (dirF d (poG ps (i.toNat + 1)))), dI 0]
set_option maxHeartbeats 1600000 in
theorem r50_Between_ok (ps : List Po) (d e : Dy) (i : Int) {k : Nat} (hsz : szL k ps) (hd : szD d ≤ k) (he : szD e ≤ k) (hp : 0 < prodF (barO d e)) (hl : ps.length ≤ 1000) (h1 : 1 ≤ k) (hk : k ≤ 20) (i0 : -9223372036854775808 ≤ i) (i1 : i ≤ 9223372036854775807) : Pure Tryz.prog 23 [PsL ps, (DyQ d).D, (DyQ e).D, dI i] (betweenR ps d e i) := by
  refine Pure.intro (n := 85) tok Tryz.func23 rfl rfl rfl (Nat.le_of_ble_eq_true rfl) (by kernel_rfl) (fun B F0 w0 => ?_)
  unfold betweenR
  refine AW.seq ?_
  refine AW.region ?_   -- "ref.go:85"
  refine AOps.run tok 4 _ _ _ _ rfl ?_
  refine AOps.nil ?_
  refine AW.seq ?_
  refine AW.seq ?_
  refine AW.region ?_   -- "ref.go:86"   -- GUARDS
  refine AOps.run tok 2 _ _ _ _ rfl ?_
  by_cases h0 : i < 0
  · rw [decide_eq_true h0, if_pos (.inl h0)]
    refine AOps.run tok 7 _ _ _ _ rfl ?_
    refine AOps.nil ?_
    refine AW.condT rfl ?_
    refine AW.seq ?_
    refine AW.region ?_
    refine AOps.run tok 2 _ _ _ _ rfl ?_
    refine AOps.nil ?_
    exact AW.ret rfl
  rw [decide_eq_false h0]
  refine AOps.run tok 4 _ _ _ _ rfl ?_
  rw [List.length_map]
  refine AOps.run tok 1 _ _ _ _ rfl ?_
  rw [wI64 (x := (ps.length : Int) - 2) (by omega) (by omega)]
  refine AOps.run tok 2 _ _ _ _ rfl ?_
  refine AOps.nil ?_
  by_cases h2 : (ps.length : Int) - 2 < i
  · rw [decide_eq_true h2, if_pos (.inr h2)]
    refine AW.condT rfl ?_
    refine AW.seq ?_
    refine AW.region ?_
    refine AOps.run tok 2 _ _ _ _ rfl ?_
    refine AOps.nil ?_
    exact AW.ret rfl
  rw [decide_eq_false h2, if_neg (fun h => h.elim h0 h2)]
  obtain ⟨j, rfl⟩ : ∃ j : Nat, i = (j : Int) := ⟨i.toNat, by omega⟩
  rw [show ((j : Int)).toNat = j from rfl]
  have hj : j + 1 < ps.length := by omega
  have g1 := getPs (ps := ps) (i := j) (by omega)
  have g2 := getPs hj
  have s1 := hsz j (by omega)
  have s2 := hsz (j + 1) hj
  unfold poG
  generalize ps.getD j (none, (0, 0)) = p at g1 s1 ⊢
  generalize ps.getD (j + 1) (none, (0, 0)) = q at g2 s2 ⊢
  have c1 := r50_Direction_ok p d s1 hd h1 (by omega)
  have c2 := r50_Direction_ok q d s2 hd h1 (by omega)
  have hd' := szD_1 hd
  have he' := szD_1 he
  have zu : szV (dirF d p) ≤ 12 * k + 11 := Nat.le_trans (szV_sub _ _ (szV_app p d.2.1 s1 hd'.2.1 h1) hd'.1) (by omega)
  have zv : szV (dirF d q) ≤ 12 * k + 11 := Nat.le_trans (szV_sub _ _ (szV_app q d.2.1 s2 hd'.2.1 h1) hd'.1) (by omega)
  generalize dirF d p = u at c1 zu ⊢
  generalize dirF d q = v at c2 zv ⊢
  have cO := r50_Opposite_ok u v (k := 12 * k + 11) zu zv (by omega)
  have cf := r17_Less_ok e.1 d.1 (k := k) he'.1 hd'.1 (by omega)
  have zf := szV_sub e.1 d.1 he'.1 hd'.1
  have ef : (barO d e).f = vsub e.1 d.1 := rfl
  have cn := r17_Less_ok (0, 0) (vsub e.1 d.1) (k := 2 * k + 1) (by show max (LQ 0) (LQ 0) ≤ _; rw [LQ_zero]; omega) (by omega) (by omega)
  rw [VQ0, vsub0] at cn
  have znf : szV (vneg (vsub e.1 d.1)) ≤ 12 * k + 11 := by rw [sgV_neg]; omega
  have D1 := r50_Disc_ok d e u (k := 12 * k + 11) (by omega) (by omega) zu (by omega)
  have D2 := r50_Disc_ok d e v (k := 12 * k + 11) (by omega) (by omega) zv (by omega)
  have zD : ∀ w, szV w ≤ 12 * k + 11 → LQ (discQ (barO d e) w) ≤ 1000 * k + 1000 := fun w hw => by
    have zb : LQ (b2F d e) ≤ 8 * k + 5 := by
      have z1 := szV_sub e.2.1 d.2.1 he'.2.1 hd'.2.1
      have := (LQ_dt _ _ z1 z1).1
      show LQ (dt _ _) ≤ _
      exact Nat.le_trans this (by omega)
    have z2 := szV_sub (vsub e.1 d.1) w zf hw
    have z3 := (LQ_dt _ _ z2 z2).1
    have z4 := LQ_mul (b2F d e) e.2.2
    have z5 := LQ_mul ((4 : Int) : Rat) (b2F d e * e.2.2)
    have zo := LQ_four 4 (by decide)
    have z6 := LQ_add (b2F d e) e.2.2
    have z7 := LQ_sub (b2F d e + e.2.2) (dt (vsub (vsub e.1 d.1) w) (vsub (vsub e.1 d.1) w))
    have z8 := LQ_mul ((b2F d e + e.2.2) - dt (vsub (vsub e.1 d.1) w) (vsub (vsub e.1 d.1) w)) ((b2F d e + e.2.2) - dt (vsub (vsub e.1 d.1) w) (vsub (vsub e.1 d.1) w))
    have z9 := LQ_sub (((4 : Int) : Rat) * (b2F d e * e.2.2)) (((b2F d e + e.2.2) - dt (vsub (vsub e.1 d.1) w) (vsub (vsub e.1 d.1) w)) * ((b2F d e + e.2.2) - dt (vsub (vsub e.1 d.1) w) (vsub (vsub e.1 d.1) w)))
    show LQ (((4 : Int) : Rat) * (b2F d e * e.2.2) - ((b2F d e + e.2.2) - dt (vsub (vsub e.1 d.1) w) (vsub (vsub e.1 d.1) w)) * ((b2F d e + e.2.2) - dt (vsub (vsub e.1 d.1) w) (vsub (vsub e.1 d.1) w))) ≤ _
    omega
  have S1 := r02_Sign_ok (Qr (discQ (barO d e) u)) (k := 1000 * k + 1000) (Qr_w _ (zD u zu)) (by omega)
  have S2 := r02_Sign_ok (Qr (discQ (barO d e) v)) (k := 1000 * k + 1000) (Qr_w _ (zD v zv)) (by omega)
  rw [Qr_val, sgI_num] at S1 S2
  have I1 := r50_inside_ok u v (vsub e.1 d.1) (k := 12 * k + 11) zu zv (by omega) (by omega)
  have I2 := r50_inside_ok u v (vneg (vsub e.1 d.1)) (k := 12 * k + 11) zu zv znf (by omega)
  have A1 := r50_aligned_ok d e 1 (.inl rfl) hd he hp (by omega)
  have A2 := r50_aligned_ok d e (-1) (.inr rfl) hd he hp (by omega)
  unfold betR betG posF
  rw [ef]
  clear ef zD
  generalize discQ (barO d e) u = du at D1 S1 ⊢
  generalize discQ (barO d e) v = dv at D2 S2 ⊢
  generalize inLF (barO d e) 1 = l1 at A1 ⊢
  generalize inLF (barO d e) (-1) = l2 at A2 ⊢
  generalize vneg (vsub e.1 d.1) = nf at cn znf I2 ⊢
  generalize vsub e.1 d.1 = f at cf zf cn I1 ⊢
  generalize insR u v f = i1 at I1 ⊢
  generalize insR u v nf = i2 at I2 ⊢
  generalize sgQ du = s1 at S1 ⊢
  generalize sgQ dv = s2 at S2 ⊢
  refine AW.condF rfl ?_
  refine AW.skip ?_
  refine AW.seq ?_
  refine AW.draw hmix 15 (by kernel_rfl) ?_
  refine APre.run tok 2 _ _ _ _ rfl ?_
  refine APre.idx tok (PoQ p).D rfl rfl rfl rfl rfl (Int.natCast_nonneg j) g1 ?_
  refine APre.run tok 2 _ _ _ _ rfl ?_
  refine APre.call tok rfl rfl rfl rfl rfl c1 ?_
  refine APre.run tok 3 _ _ _ _ rfl ?_
  rw [wI64 (x := (j : Int) + 1) (by omega) (by omega)]
  refine APre.idx tok (PoQ q).D rfl rfl rfl rfl rfl (Int.natCast_nonneg (j + 1)) g2 ?_
  refine APre.run tok 2 _ _ _ _ rfl ?_
  refine APre.call tok rfl rfl rfl rfl rfl c2 ?_
  refine APre.run tok 2 _ _ _ _ rfl ?_
  refine APre.nil ?_
  refine AOps.run tok 2 _ _ _ _ rfl ?_
  refine AOps.nil ?_
  refine AW.seq ?_
  refine AW.seq ?_
  refine AW.region ?_
  refine AOps.run tok 2 _ _ _ _ rfl ?_
  refine AOps.call tok rfl rfl rfl rfl cO ?_
  refine AOps.nil ?_
  cases btwU u v with
  | true =>
    rw [if_pos rfl]
    refine AW.condT rfl ?_
    refine AW.seq ?_
    refine AW.region ?_
    refine AOps.run tok 2 _ _ _ _ rfl ?_
    refine AOps.nil ?_
    exact AW.ret rfl
  | false =>
  rw [if_neg (by simp)]
  refine AW.condF rfl ?_
  refine AW.skip ?_
  refine AW.seq ?_
  refine AW.region ?_
  refine AOps.run tok 4 _ _ _ _ rfl ?_
  refine AOps.call tok rfl rfl rfl rfl cf ?_
  refine AOps.run tok 2 _ _ _ _ rfl ?_
  refine AOps.nil ?_
  refine AW.seq ?_
  refine AW.region ?_
  refine AOps.run tok 2 _ _ _ _ rfl ?_
  refine AOps.call tok rfl rfl rfl rfl cn ?_
  refine AOps.run tok 2 _ _ _ _ rfl ?_
  refine AOps.nil ?_
  refine AW.cut [5, 6, 10, 11, 12, 13, 14] (fun _ : Unit => [(5, .bx (DyQ d).D.flat), (6, .bx (DyQ e).D.flat), (10, .bx (VQ u).D.flat), (11, .bx (VQ v).D.flat), (12, .bx (VQ f).D.flat), (13, .bx (VQ nf).D.flat), (14, .d (dB (decide (0 < s1) && decide (0 < s2))))]) (fun _ => True) ?_ (fun _ _ => ?_)
  · refine AW.region ?_
    refine AOps.run tok 3 _ _ _ _ rfl ?_
    refine AOps.call tok rfl rfl rfl rfl D1 ?_
    refine AOps.call tok rfl rfl rfl rfl S1 ?_
    refine AOps.run tok 2 _ _ _ _ rfl ?_
    cases decide (0 < s1) with
    | false =>
      refine AOps.run tok 8 _ _ _ _ rfl ?_
      refine AOps.nil ?_
      exact ⟨(), rfl, trivial⟩
    | true =>
    refine AOps.run tok 3 _ _ _ _ rfl ?_
    refine AOps.call tok rfl rfl rfl rfl D2 ?_
    refine AOps.call tok rfl rfl rfl rfl S2 ?_
    refine AOps.run tok 3 _ _ _ _ rfl ?_
    refine AOps.nil ?_
    exact ⟨(), rfl, trivial⟩
  show AW _ _ _ _ _ _ _ [(5, .bx (DyQ d).D.flat), (6, .bx (DyQ e).D.flat), (10, .bx (VQ u).D.flat), (11, .bx (VQ v).D.flat), (12, .bx (VQ f).D.flat), (13, .bx (VQ nf).D.flat), (14, .d (dB (decide (0 < s1) && decide (0 < s2))))]
  generalize (decide (0 < s1) && decide (0 < s2)) = g
  refine AW.cut [5, 6, 10, 11, 12, 13, 14] (fun _ : Unit => [(5, .bx (DyQ d).D.flat), (6, .bx (DyQ e).D.flat), (10, .bx (VQ u).D.flat), (11, .bx (VQ v).D.flat), (12, .bx (VQ f).D.flat), (13, .bx (VQ nf).D.flat), (14, .d (dB (if i1 = true then g && decide (0 < l1) else g)))]) (fun _ => True) ?_ (fun _ _ => ?_)
  · refine AW.seq ?_
    refine AW.region ?_
    refine AOps.run tok 3 _ _ _ _ rfl ?_
    refine AOps.call tok rfl rfl rfl rfl I1 ?_
    refine AOps.nil ?_
    cases i1 with
    | false =>
      refine AW.condF rfl ?_
      refine AW.skip ?_
      exact ⟨(), rfl, trivial⟩
    | true =>
    refine AW.condT rfl ?_
    refine AW.region ?_
    refine AOps.run tok 2 _ _ _ _ rfl ?_
    cases g with
    | false =>
      refine AOps.run tok 6 _ _ _ _ rfl ?_
      refine AOps.nil ?_
      exact ⟨(), rfl, trivial⟩
    | true =>
    refine AOps.run tok 2 _ _ _ _ rfl ?_
    refine AOps.call tok rfl rfl rfl rfl A1 ?_
    refine AOps.run tok 3 _ _ _ _ rfl ?_
    refine AOps.nil ?_
    exact ⟨(), rfl, trivial⟩
  show AW _ _ _ _ _ _ _ [(5, .bx (DyQ d).D.flat), (6, .bx (DyQ e).D.flat), (10, .bx (VQ u).D.flat), (11, .bx (VQ v).D.flat), (12, .bx (VQ f).D.flat), (13, .bx (VQ nf).D.flat), (14, .d (dB (if i1 = true then g && decide (0 < l1) else g)))]
  generalize (if i1 = true then g && decide (0 < l1) else g) = g1
  refine AW.cut [14] (fun _ : Unit => [(14, .d (dB (if i2 = true then g1 && decide (0 < l2) else g1)))]) (fun _ => True) ?_ (fun _ _ => ?_)
  · refine AW.seq ?_
    refine AW.region ?_
    refine AOps.run tok 3 _ _ _ _ rfl ?_
    refine AOps.call tok rfl rfl rfl rfl I2 ?_
    refine AOps.nil ?_
    cases i2 with
    | false =>
      refine AW.condF rfl ?_
      refine AW.skip ?_
      exact ⟨(), rfl, trivial⟩
    | true =>
    refine AW.condT rfl ?_
    refine AW.region ?_
    refine AOps.run tok 2 _ _ _ _ rfl ?_
    cases g1 with
    | false =>
      refine AOps.run tok 6 _ _ _ _ rfl ?_
      refine AOps.nil ?_
      exact ⟨(), rfl, trivial⟩
    | true =>
    refine AOps.run tok 2 _ _ _ _ rfl ?_
    refine AOps.call tok rfl rfl rfl rfl A2 ?_
    refine AOps.run tok 3 _ _ _ _ rfl ?_
    refine AOps.nil ?_
    exact ⟨(), rfl, trivial⟩
  show AW _ _ _ _ _ _ _ [(14, .d (dB (if i2 = true then g1 && decide (0 < l2) else g1)))]
  generalize (if i2 = true then g1 && decide (0 < l2) else g1) = g2
  refine AW.seq ?_
  refine AW.region ?_
  refine AOps.run tok 3 _ _ _ _ rfl ?_
  refine AOps.nil ?_
  exact AW.ret rfl
end Lift
/- Law 50: DefectsWays. -/
namespace Lift
open Go Go.Proofs

theorem pas_dir {ps : List Po} {d : Dy} (h : pasB ps d = true) {i : Nat} (hi : i < ps.length) : dt (dirF d (poG ps i)) (dirF d (poG ps i)) = d.2.2 := by
  unfold pasB at h
  rw [List.all_eq_true] at h
  have := h (poG ps i) (by unfold poG; rw [List.getD_eq_getElem?_getD, List.getElem?_eq_getElem hi]; exact List.getElem_mem hi)
  exact of_decide_eq_true this
theorem u_get (ps : List Po) (d e : Dy) {i : Nat} (hi : i < ps.length) : (rdB ps d e).u.getD i (0, 0) = dirF d (poG ps i) := by
  show (ps.map (dirF d)).getD i (0, 0) = dirF d (ps.getD i (none, (0, 0)))
  rw [List.getD_eq_getElem?_getD, List.getElem?_map, List.getD_eq_getElem?_getD, List.getElem?_eq_getElem hi]; rfl
/-- What holds of poses and dyads that are accepted. -/
structure Good (ps : List Po) (d e : Dy) : Prop where
  pd : pasB ps d = true
  pe : pasB ps e = true
  ap : 0 < d.2.2
  fp : 0 < dt (vsub e.1 d.1) (vsub e.1 d.1)
  l2 : 2 ≤ ps.length
  l5 : ps.length ≤ 5
theorem chk_good {l : List PoD} {d e : DyD} (h0 : chkD l d e = 0) : Good (l.map PoD.val) d.val e.val := by
  obtain ⟨⟨hl2, hl5, hp⟩, _, _, r1, r2, _, hc, h1, h2⟩ := chkD_ok h0
  exact ⟨h1, h2, sgI_pos r1, dt_pos (vsub_ne hc), by rw [List.length_map]; exact hl2, by rw [List.length_map]; exact hl5⟩
theorem Good.prod {ps : List Po} {d e : Dy} (g : Good ps d e) : 0 < prodF (barO d e) := Rat.mul_pos g.ap g.fp
theorem Good.btw {ps : List Po} {d e : Dy} (g : Good ps d e) {i : Nat} (hi : i + 1 < ps.length) : btwV (rdB ps d e) (dirF d (poG ps i)) (dirF d (poG ps (i + 1))) = betR (barO d e) (dirF d (poG ps i)) (dirF d (poG ps (i + 1))) :=
  btw_eq (b := rdB ps d e) (pas_dir g.pd (by omega)) (pas_dir g.pd hi) g.ap g.fp
set_option maxHeartbeats 800000 in
theorem law50_Ways_ok (l : List PoD) (d e : DyD) (i : Int) (h : ok50 l d e) (i0 : -9223372036854775808 ≤ i) (i1 : i ≤ 9223372036854775807) : Pure Tryz.prog 7 [PoL l, FourD d e, dI i] (dB true) := by
  refine Pure.intro (n := 66) tok Tryz.func7 rfl rfl rfl (Nat.le_of_ble_eq_true rfl) (by kernel_rfl) (fun B F0 w0 => ?_)
  have cA := law50_awake_ok
  have cS := law50_short_ok l d e h.1
  refine AW.seq ?_
  refine AW.region ?_   -- "law.go:67"
  refine AOps.run tok 2 _ _ _ _ rfl ?_
  refine AOps.nil ?_
  refine AW.seq ?_
  refine AW.seq ?_
  refine AW.region ?_   -- "law.go:68"   -- GUARDS
  refine AOps.call tok rfl rfl rfl rfl cA ?_
  refine AOps.run tok 4 _ _ _ _ rfl ?_
  refine AOps.call tok rfl rfl rfl rfl cS ?_
  refine AOps.run tok 2 _ _ _ _ rfl ?_
  refine AOps.nil ?_
  cases hs : shortB l d e with
  | false =>
    refine AW.condT rfl ?_
    refine AW.seq ?_
    refine AW.region ?_
    refine AOps.call tok rfl rfl rfl rfl cA ?_
    refine AOps.run tok 1 _ _ _ _ rfl ?_
    refine AOps.nil ?_
    exact AW.ret rfl
  | true =>
  obtain ⟨hl, hw, hd, he⟩ := short_w h hs
  have c1 := defects_Between_ok l d e i (by omega) hw hd he (by decide) (by decide) i0 i1
  have c2 := r50_Check_ok l d e (by omega) hw hd he (by decide) (by decide)
  refine AW.condF rfl ?_
  refine AW.skip ?_
  by_cases hc : chkD l d e = 0
  rotate_left
  · unfold betweenD at c1
    rw [if_pos hc] at c1
    have cN := base_Num_ok (chkD l d e)
    generalize chkD l d e = m at c1 c2 cN hc
    refine AW.seq ?_
    refine AW.region ?_
    refine AOps.run tok 6 _ _ _ _ rfl ?_
    refine AOps.call tok rfl rfl rfl rfl c1 ?_
    refine AOps.run tok 5 _ _ _ _ rfl ?_
    refine AOps.nil ?_
    refine AW.seq ?_
    refine AW.seq ?_
    refine AW.region ?_
    refine AOps.run tok 5 _ _ _ _ rfl ?_
    refine AOps.call tok rfl rfl rfl rfl c2 ?_
    refine AOps.run tok 1 _ _ _ _ rfl ?_
    refine AOps.nil ?_
    refine AW.seq ?_
    refine AW.region ?_
    refine AOps.run tok 2 _ _ _ _ rfl ?_
    refine AOps.nil ?_
    rw [bne_iff_ne.2 (show (m : Int) ≠ 0 by omega)]
    refine AW.condT rfl ?_
    refine AW.seq ?_
    refine AW.region ?_
    refine AOps.run tok 4 _ _ _ _ rfl ?_
    refine AOps.call tok rfl rfl rfl rfl cN ?_
    refine AOps.run tok 2 _ _ _ _ rfl ?_
    rw [beq_iff_eq.2 rfl]
    refine AOps.run tok 2 _ _ _ _ rfl ?_
    refine AOps.nil ?_
    exact AW.ret rfl
  have G := chk_good hc
  obtain ⟨q1, q2, q3⟩ := ok_canon hw hd he hc
  have hml : (l.map PoD.val).length = l.length := List.length_map ..
  have c3 := r50_Between_ok (l.map PoD.val) d.val e.val i (k := 6) (szL_val hw (by decide)) (szD_val hd (by decide)) (szD_val he (by decide)) G.prod (by omega) (by decide) (by decide) i0 i1
  rw [← PoL_q, ← q1, ← q2, ← q3] at c3
  obtain ⟨x, m, e1, e2⟩ : ∃ (x : Bool) (m : Nat), betweenD l d e i = .tu [dB x, erV m] ∧ betweenR (l.map PoD.val) d.val e.val i = .tu [dB x, dI m] := by
    unfold betweenD betweenR
    rw [if_neg (by rw [hc]; simp), hml]
    by_cases hb : i < 0 ∨ (l.length : Int) - 2 < i
    · rw [if_pos hb, if_pos hb]; exact ⟨false, 9, rfl, rfl⟩
    rw [if_neg hb, if_neg hb]
    have n1 : i.toNat + 1 < (l.map PoD.val).length := by omega
    rw [u_get _ _ _ (by omega), u_get _ _ _ n1]
    have hB := G.btw n1
    unfold btwD
    rw [hB]
    by_cases hu : btwU (dirF d.val (poG (l.map PoD.val) i.toNat)) (dirF d.val (poG (l.map PoD.val) (i.toNat + 1))) = true
    · rw [if_pos hu, if_pos hu]; exact ⟨false, 15, rfl, rfl⟩
    · rw [if_neg hu, if_neg hu]; exact ⟨_, 0, rfl, rfl⟩
  rw [e1] at c1
  rw [e2] at c3
  rw [hc] at c2
  have cN := base_Num_ok m
  refine AW.seq ?_
  refine AW.region ?_
  refine AOps.run tok 6 _ _ _ _ rfl ?_
  refine AOps.call tok rfl rfl rfl rfl c1 ?_
  refine AOps.run tok 5 _ _ _ _ rfl ?_
  refine AOps.nil ?_
  refine AW.seq ?_
  refine AW.seq ?_
  refine AW.region ?_
  refine AOps.run tok 5 _ _ _ _ rfl ?_
  refine AOps.call tok rfl rfl rfl rfl c2 ?_
  refine AOps.run tok 1 _ _ _ _ rfl ?_
  refine AOps.nil ?_
  refine AW.seq ?_
  refine AW.region ?_
  refine AOps.run tok 2 _ _ _ _ rfl ?_
  refine AOps.nil ?_
  refine AW.condF rfl ?_
  refine AW.skip ?_
  refine AW.seq ?_
  refine AW.region ?_
  refine AOps.run tok 6 _ _ _ _ rfl ?_
  refine AOps.call tok rfl rfl rfl rfl c3 ?_
  refine AOps.run tok 5 _ _ _ _ rfl ?_
  refine AOps.nil ?_
  refine AW.seq ?_
  refine AW.region ?_
  refine AOps.run tok 2 _ _ _ _ rfl ?_
  refine AOps.be tok rfl rfl rfl rfl ?_
  rw [show ((x == x) == true) = true by cases x <;> rfl]
  refine AOps.run tok 2 _ _ _ _ rfl ?_
  refine AOps.call tok rfl rfl rfl rfl cN ?_
  refine AOps.run tok 2 _ _ _ _ rfl ?_
  rw [beq_iff_eq.2 rfl]
  refine AOps.run tok 2 _ _ _ _ rfl ?_
  refine AOps.nil ?_
  exact AW.ret rfl
end Lift
/- Imports. -/
