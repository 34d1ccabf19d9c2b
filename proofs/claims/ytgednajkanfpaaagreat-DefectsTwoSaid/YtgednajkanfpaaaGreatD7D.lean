/- Parts of the proof, one behind the other: the logic, the contracts of the functions that the statement reaches. -/
import Derived.Test.YtgednajkanfpaaaGreatD7C
import Derived.Test.YtgednajkanfpaaaGreatRows
import Derived.OrdersHeld
import Derived.OrdersIn
import Derived.TacticsIn
import Derived.RangeFuncCalls
import Derived.RangeFuncKeeps
set_option linter.unusedVariables false
set_option linter.unusedSimpArgs false
namespace Lift
open Go Go.Proofs
theorem u_bool : RT Tryz.prog 4 Bool (fun b => [dB b]) (fun _ => True) := RT.bool (by kernel_rfl) (by kernel_rfl)
theorem u_word : RT Tryz.prog 141 Nat (fun n => [wd n]) (fun n => n < 4294967296) := by
  refine (RT.int (k := .u32) (by kernel_rfl) (by kernel_rfl)).map Int.toNat (fun n h => ?_) (fun n h => ?_) (fun v => ⟨by kernel_rfl, fun d hd => by simp at hd; subst hd; rfl⟩)
  · have : 0 ≤ n ∧ n ≤ 4294967295 := by simpa [Lit.wf, IntKind.min, IntKind.max, IntKind.signed, IntKind.bits] using h
    rw [wd, Int.toNat_of_nonneg this.1]
  · have : 0 ≤ n ∧ n ≤ 4294967295 := by simpa [Lit.wf, IntKind.min, IntKind.max, IntKind.signed, IntKind.bits] using h
    omega
theorem u_words4 : RT Tryz.prog 23 (List Nat) (fun l => [Wd l]) (fun l => W32 l ∧ l.length ≤ 35184372087808) :=
  (RT.sliceB 4 (el := wd) (s := 1) (by kernel_rfl) (by kernel_rfl) (by kernel_rfl) (by decide) (Nat.le_of_ble_eq_true (by kernel_rfl)) u_word (fun v => rfl)).map id (fun l h => rfl) (fun l h => ⟨h.2, by have := h.1; unfold reachBytes at this; show l.length ≤ _; omega⟩) (fun v => ⟨by kernel_rfl, fun d hd => by simp at hd; subst hd; rfl⟩)
theorem u_rat4 : RT Tryz.prog 25 RD (fun r => [dB r.g, Wd r.n, Wd r.d]) (fun r => r.w 35184372087808) := by
  have h := RT.struct (P := Tryz.prog) (t := 25) (m := 3) Tryz.underlying25 (by kernel_rfl) (RTF.cons (by kernel_rfl) u_bool (RTF.cons (by kernel_rfl) u_words4 (RTF.cons (by kernel_rfl) u_words4 RTF.nil))) (fun v => rfl)
  exact h.map (fun v => ⟨v.1, v.2.1, v.2.2.1⟩) (fun v h => rfl) (fun v h => ⟨h.2.1.1, h.2.2.1.1, h.2.1.2, h.2.2.1.2⟩) (fun v => ⟨by kernel_rfl, fun d hd => by
    simp only [List.mem_cons, List.mem_nil_iff, or_false] at hd
    rcases hd with rfl | rfl | rfl <;> rfl⟩)
theorem Lkg.ok.mono {l : Lkg} {k m : Nat} (h : l.ok k) (hk : k ≤ m) : l.ok m :=
  ⟨h.nm, h.nb, h.nj, h.nd, fun i => ⟨(h.b i).1, (h.b i).2.1, fun j => ⟨((h.b i).2.2 j).1, ((h.b i).2.2 j).2.1.mono hk, ((h.b i).2.2 j).2.2.mono hk⟩⟩, h.j, h.d⟩
end Lift
namespace Go.Proofs.YtgednajkanfpaaaGreat
open Lift Go
theorem Tryz.own : ownKnob Tryz.prog.godebug = none := by kernel_rfl
theorem Tryz.laidOut : laidOutB Tryz.prog = true := by kernel_rfl
end Go.Proofs.YtgednajkanfpaaaGreat
namespace Lift
open Go Go.Proofs
theorem base_Num_ok (n : Nat) : Pure Tryz.prog 14 [erV n] (dI n) := by
  refine Pure.intro (n := 15) tok Tryz.func14 rfl rfl rfl (Nat.le_of_ble_eq_true rfl) (by kernel_rfl) (fun B F0 w0 => ?_)
  cases n with
  | zero =>
    refine AW.seq ?_
    refine AW.region ?_
    refine AOps.run tok 1 _ _ _ _ rfl ?_
    refine AOps.nil ?_
    refine AW.seq ?_
    refine AW.seq ?_
    refine AW.region ?_
    refine AOps.run tok 1 _ _ _ _ rfl ?_
    refine AOps.err tok rfl rfl rfl rfl rfl ?_
    refine AOps.nil ?_
    refine AW.condT rfl ?_
    refine AW.seq ?_
    refine AW.region ?_
    refine AOps.run tok 1 _ _ _ _ rfl ?_
    refine AOps.nil ?_
    exact AW.ret rfl
  | succ m =>
    refine AW.seq ?_
    refine AW.region ?_
    refine AOps.run tok 1 _ _ _ _ rfl ?_
    refine AOps.nil ?_
    refine AW.seq ?_
    refine AW.seq ?_
    refine AW.region ?_
    refine AOps.run tok 1 _ _ _ _ rfl ?_
    refine AOps.err tok rfl rfl rfl rfl rfl ?_
    refine AOps.nil ?_
    refine AW.condF rfl ?_
    refine AW.skip ?_
    refine AW.seq ?_
    refine AW.region ?_
    refine AOps.run tok 1 _ _ _ _ rfl ?_
    refine AOps.ta tok rfl rfl rfl rfl ?_
    refine AOps.run tok 5 _ _ _ _ rfl ?_
    refine AOps.nil ?_
    refine AW.seq ?_
    refine AW.seq ?_
    refine AW.region ?_
    refine AOps.run tok 2 _ _ _ _ rfl ?_
    refine AOps.nil ?_
    refine AW.condF rfl ?_
    refine AW.skip ?_
    refine AW.seq ?_
    refine AW.region ?_
    refine AOps.run tok 2 _ _ _ _ rfl ?_
    refine AOps.nil ?_
    exact AW.ret rfl
theorem base_Is_ok (n m : Nat) : Pure Tryz.prog 19 [erV n, dI m] (dB (decide (n = m))) := by
  refine Pure.intro (n := 9) tok Tryz.func19 rfl rfl rfl (Nat.le_of_ble_eq_true rfl) (by kernel_rfl) (fun B F0 w0 => ?_)
  refine AW.seq ?_
  refine AW.region ?_
  refine AOps.run tok 1 _ _ _ _ rfl ?_
  refine AOps.nil ?_
  refine AW.seq ?_
  refine AW.region ?_
  refine AOps.run tok 1 _ _ _ _ rfl ?_
  refine AOps.call tok rfl rfl rfl rfl (base_Num_ok n) ?_
  refine AOps.run tok 3 _ _ _ _ rfl ?_
  refine AOps.nil ?_
  rw [show decide (n = m) = ((n : Int) == (m : Int)) by rw [Bool.eq_iff_iff]; simp only [decide_eq_true_eq, beq_iff_eq]; omega]
  exact AW.ret rfl
end Lift
namespace Lift
open Go Go.Proofs
theorem div_divInt (a b : Rat) (h : b ≠ 0) : Rat.divInt (a.num * (b.den : Int)) ((a.den : Int) * b.num) = a / b := by
  have h1 : ((a.den : Int) : Rat) ≠ 0 := by have := a.den_nz; exact_mod_cast this
  have h2 : ((b.den : Int) : Rat) ≠ 0 := by have := b.den_nz; exact_mod_cast this
  have h3 : b.num ≠ 0 := fun e => h (Rat.num_eq_zero.1 e)
  have h4 : (b.num : Rat) ≠ 0 := by exact_mod_cast h3
  have ha : (a.num : Rat) / ((a.den : Int) : Rat) = a := by rw [← Rat.divInt_eq_div]; exact Rat.num_divInt_den a
  have hb : (b.num : Rat) / ((b.den : Int) : Rat) = b := by rw [← Rat.divInt_eq_div]; exact Rat.num_divInt_den b
  rw [Rat.divInt_eq_div, Rat.intCast_mul, Rat.intCast_mul]
  generalize (a.num : Rat) = x at *
  generalize ((a.den : Int) : Rat) = y at *
  generalize (b.num : Rat) = z at *
  generalize ((b.den : Int) : Rat) = u at *
  subst ha; subst hb
  grind
theorem sgI_ne {z : Int} (h : z ≠ 0) : (sgI z == 0) = false := by
  unfold sgI
  rcases Int.lt_trichotomy z 0 with g | g | g
  · simp [g]
  · exact absurd g h
  · have : ¬ z < 0 := by omega
    simp [this, h]
theorem num_ne {q : Rat} (h : q ≠ 0) : q.num ≠ 0 := fun e => h (Rat.num_eq_zero.1 e)
theorem div_sz {r s : Rat} {k : Nat} (h1 : LQ r ≤ k) (h2 : LQ s ≤ k) (h0 : s ≠ 0) : L (r.num * (s.den : Int)) ≤ 2 * k ∧ L ((r.den : Int) * s.num) ≤ 2 * k ∧ (r.den : Int) * s.num ≠ 0 := by
  have := Lnum r; have := Lden r; have := Lnum s; have := Lden s
  have := L_mul r.num s.den; have := L_mul r.den s.num
  exact ⟨by omega, by omega, Int.mul_ne_zero (den_ne r) (num_ne h0)⟩
theorem LQ_div {r s : Rat} (h0 : s ≠ 0) : LQ (r / s) ≤ LQ r + LQ s := by
  have := Lnum r; have := Lden r; have := Lnum s; have := Lden s
  have := L_mul r.num s.den; have := L_mul r.den s.num
  have := LQ_divInt (r.num * (s.den : Int)) ((r.den : Int) * s.num) (Int.mul_ne_zero (den_ne r) (num_ne h0))
  rw [div_divInt r s h0] at this
  omega
theorem fraction_Of_ok (n : Int) (h0 : -9223372036854775808 ≤ n) (h1 : n ≤ 9223372036854775807) : Pure Tryz.prog 70 [dI n] (Qr n).D := by
  refine Pure.intro (n := 7) tok Tryz.func70 rfl rfl rfl (Nat.le_of_ble_eq_true rfl) (by kernel_rfl) (fun B F0 w0 => ?_)
  have hn := L_of n (by omega)
  rw [← of_divInt]
  refine AW.seq ?_
  refine AW.region ?_
  refine AOps.run tok 1 _ _ _ _ rfl ?_
  refine AOps.nil ?_
  refine AW.seq ?_
  refine AW.region ?_
  refine AOps.run tok 1 _ _ _ _ rfl ?_
  refine AOps.call tok rfl rfl rfl rfl (integer_Of_ok n h0 h1) ?_
  refine AOps.call tok rfl rfl rfl rfl fraction_one_ok ?_
  refine AOps.call tok rfl rfl rfl rfl (fraction_form_ok n 1 (by omega) (by rw [L_one]; omega) (by decide)) ?_
  refine AOps.run tok 1 _ _ _ _ rfl ?_
  refine AOps.nil ?_
  exact AW.ret rfl
theorem fraction_Sign_ok (r : RD) {k : Nat} (hr : r.w k) (hk : k ≤ 20000000) : Pure Tryz.prog 31 [r.D] (dI (sgI r.val.num)) := by
  refine Pure.intro (n := 12) tok Tryz.func31 rfl rfl rfl (Nat.le_of_ble_eq_true rfl) (by kernel_rfl) (fun B F0 w0 => ?_)
  have hl := LQ_val (hr.mono (Nat.le_max_left k 1)) (Nat.le_max_right k 1)
  have := Lnum r.val
  refine AW.seq ?_
  refine AW.region ?_
  refine AOps.run tok 2 _ _ _ _ rfl ?_
  refine AOps.nil ?_
  refine AW.seq ?_
  refine AW.region ?_
  refine AOps.run tok 1 _ _ _ _ rfl ?_
  refine AOps.call tok rfl rfl rfl rfl (fraction_Parts_ok r hr (by omega)) ?_
  refine AOps.run tok 7 _ _ _ _ rfl ?_
  refine AOps.nil ?_
  refine AW.seq ?_
  refine AW.region ?_
  refine AOps.run tok 1 _ _ _ _ rfl ?_
  refine AOps.call tok rfl rfl rfl rfl (integer_Sign_ok r.val.num (by omega)) ?_
  refine AOps.run tok 1 _ _ _ _ rfl ?_
  refine AOps.nil ?_
  exact AW.ret rfl
theorem fraction_From_ok (n d : Int) (hn : L n ≤ 50000000) (hd : L d ≤ 50000000) (h0 : d ≠ 0) : Pure Tryz.prog 60 [WhI n, WhI d] (.tu [(Qr (Rat.divInt n d)).D, nilE]) := by
  refine Pure.intro (n := 14) tok Tryz.func60 rfl rfl rfl (Nat.le_of_ble_eq_true rfl) (by kernel_rfl) (fun B F0 w0 => ?_)
  refine AW.seq ?_
  refine AW.region ?_
  refine AOps.run tok 4 _ _ _ _ rfl ?_
  refine AOps.nil ?_
  refine AW.seq ?_
  refine AW.seq ?_
  refine AW.region ?_
  refine AOps.run tok 1 _ _ _ _ rfl ?_
  refine AOps.call tok rfl rfl rfl rfl (integer_Sign_ok d (by omega)) ?_
  refine AOps.run tok 1 _ _ _ _ rfl ?_
  rw [sgI_ne h0]
  refine AOps.nil ?_
  refine AW.condF rfl ?_
  · skip
    refine AW.skip ?_
    refine AW.seq ?_
    refine AW.region ?_
    refine AOps.run tok 2 _ _ _ _ rfl ?_
    refine AOps.call tok rfl rfl rfl rfl (fraction_form_ok n d hn hd h0) ?_
    refine AOps.run tok 2 _ _ _ _ rfl ?_
    refine AOps.nil ?_
    exact AW.ret rfl
theorem fraction_Div_ok (r s : RD) {k : Nat} (hr : r.w k) (hs : s.w k) (hk : k ≤ 20000000) (h0 : s.val ≠ 0) : Pure Tryz.prog 25 [r.D, s.D] (.tu [(Qr (r.val / s.val)).D, nilE]) := by
  refine Pure.intro (n := 29) tok Tryz.func25 rfl rfl rfl (Nat.le_of_ble_eq_true rfl) (by kernel_rfl) (fun B F0 w0 => ?_)
  have hl := LQ_val (hr.mono (Nat.le_max_left k 1)) (Nat.le_max_right k 1)
  have hm := LQ_val (hs.mono (Nat.le_max_left k 1)) (Nat.le_max_right k 1)
  have := Lnum r.val; have := Lden r.val; have := Lnum s.val; have := Lden s.val
  obtain ⟨d1, d2, d3⟩ := div_sz hl hm h0
  rw [← div_divInt r.val s.val h0]
  refine AW.seq ?_
  refine AW.region ?_
  refine AOps.run tok 4 _ _ _ _ rfl ?_
  refine AOps.nil ?_
  refine AW.seq ?_
  refine AW.region ?_
  refine AOps.run tok 1 _ _ _ _ rfl ?_
  refine AOps.call tok rfl rfl rfl rfl (fraction_Parts_ok r hr (by omega)) ?_
  refine AOps.run tok 7 _ _ _ _ rfl ?_
  refine AOps.nil ?_
  refine AW.seq ?_
  refine AW.region ?_
  refine AOps.run tok 1 _ _ _ _ rfl ?_
  refine AOps.call tok rfl rfl rfl rfl (fraction_Parts_ok s hs (by omega)) ?_
  refine AOps.run tok 7 _ _ _ _ rfl ?_
  refine AOps.nil ?_
  refine AW.seq ?_
  refine AW.draw hmix 9 (by kernel_rfl) ?_
  refine APre.run tok 2 _ _ _ _ rfl ?_
  refine APre.call tok rfl rfl rfl rfl rfl (integer_Mul_ok r.val.num s.val.den (by omega) (by omega)) ?_
  refine APre.run tok 2 _ _ _ _ rfl ?_
  refine APre.call tok rfl rfl rfl rfl rfl (integer_Mul_ok r.val.den s.val.num (by omega) (by omega)) ?_
  refine APre.call tok rfl rfl rfl rfl rfl (fraction_From_ok (r.val.num * s.val.den) (r.val.den * s.val.num) (by omega) (by omega) d3) ?_
  refine APre.run tok 2 _ _ _ _ rfl ?_
  refine APre.nil ?_
  refine AOps.run tok 2 _ _ _ _ rfl ?_
  refine AOps.nil ?_
  exact AW.ret rfl
end Lift
namespace Lift
open Go Go.Proofs
theorem RD.canon {r : RD} {k : Nat} (hw : r.w k) (h : r.okB = true) : r = Qr r.val := by
  by_cases hn : r.n = []
  · have hv := RD.val_nil hn
    rw [hv, Qr_zero]
    obtain ⟨g, m, d⟩ := r
    dsimp only at hn
    subst hn
    unfold RD.okB at h
    simp only [true_and] at h
    split at h
    · rename_i hd; subst hd; simpa using h
    · simp at h
  · obtain ⟨h1, h2, h3, h4, h5, h6⟩ := RD.parts hw h hn
    obtain ⟨g, m, d⟩ := r
    dsimp only at h3 h4 h5 hn
    unfold Qr
    rw [if_neg h6, ← h4, ← h5, ← h3]
theorem sgI0 {q : Rat} : sgI q.num = 0 ↔ q = 0 := by
  constructor
  · intro h
    by_cases hq : q = 0
    · exact hq
    · have := sgI_ne (num_ne hq)
      rw [h] at this
      cases this
  · intro h; subst h; rfl
abbrev QsD (r : List Rat) : List D := r.map (fun q => (Qr q).D)
theorem getQ {r : List Rat} {i : Nat} (h : i < r.length) : (QsD r)[i]? = some (Qr (r.getD i 0)).D := by simp [h]
section
variable {P : Program} {T : Ty} {B : Nat} {F0 : Nat → Prop} {w0 : Bas} {n : Nat} {σ τ : St} {K : St → Prop} {all : Array Oper} {o : Oper} {d : Nat} {rest : List Oper}
theorem AOps.storeQ (hT : TOk P T) {k e i : Nat} {r : List Rat} (q : Rat) (hd : o.dst = none) (hg : guardOk all σ o = true) (hx : seF T σ o.op = some (k, .ow e (QsD r), QsD r, i, 0, (Qr q).D)) (hi : i < r.length)
    (h : AOps P B F0 w0 n all rest K ((k, .ow e (QsD (r.set i q))) :: σ)) : AOps P B F0 w0 n all (o :: rest) K σ := by
  refine AOps.storeel hT (Qr (r.getD i 0)).D hd hg hx (getQ hi) rfl ?_
  show AOps P B F0 w0 n all rest K ((k, .ow e ((QsD r).set i (Qr q).D)) :: σ)
  rw [show (QsD r).set i (Qr q).D = QsD (r.set i q) from (List.map_set ..).symm]
  exact h
end
end Lift
namespace Lift
theorem rsq (x : Rat) : 0 ≤ x * x := by
  rcases (Rat.le_total : 0 ≤ x ∨ x ≤ 0) with h | h
  · exact Rat.mul_nonneg h h
  · have h2 : 0 ≤ -x := by grind
    have := Rat.mul_nonneg h2 h2
    grind
theorem rsq0 {x : Rat} (h : x * x = 0) : x = 0 := by grind
theorem sum0 {x y : Rat} (h : x * x + y * y = 0) : x = 0 ∧ y = 0 := by
  have h1 := rsq x
  have h2 := rsq y
  have e1 : x * x = 0 := by grind
  have e2 : y * y = 0 := by grind
  exact ⟨rsq0 e1, rsq0 e2⟩
abbrev V2 := Rat × Rat
def vsub (a b : V2) : V2 := (a.1 - b.1, a.2 - b.2)
def vadd (a b : V2) : V2 := (a.1 + b.1, a.2 + b.2)
def vneg (a : V2) : V2 := (-a.1, -a.2)
def crs (a b : V2) : Rat := a.1 * b.2 - a.2 * b.1
def dt (a b : V2) : Rat := a.1 * b.1 + a.2 * b.2
theorem dt_nn (a : V2) : 0 ≤ dt a a := by
  have h1 := rsq a.1
  have h2 := rsq a.2
  unfold dt
  grind
theorem same_dir {u v : V2} (h1 : dt u u = dt v v) (h3 : crs u v = 0) (h4 : 0 < dt u v) : u = v := by
  obtain ⟨a, b⟩ := u
  obtain ⟨c, d⟩ := v
  simp only [dt, crs] at h1 h3 h4
  have e : (a * c + b * d - (a * a + b * b)) * (a * c + b * d + (a * a + b * b)) = 0 := by grind
  have hR : 0 ≤ a * a + b * b := by have := rsq a; have := rsq b; grind
  have e2 : a * c + b * d = a * a + b * b := by
    rcases Rat.mul_eq_zero.1 e with h | h
    · grind
    · grind
  have := sum0 (x := a - c) (y := b - d) (by grind)
  exact Prod.ext (by show a = c; grind) (by show b = d; grind)
def sgQ (x : Rat) : Int := if x = 0 then 0 else if x < 0 then -1 else 1
theorem sgQ_pos {x : Rat} : 0 < sgQ x ↔ 0 < x := by
  unfold sgQ
  split
  · rename_i h; subst h; constructor <;> intro h <;> grind
  · split <;> constructor <;> intro h <;> grind
theorem sgQ_neg {x : Rat} : sgQ x < 0 ↔ x < 0 := by
  unfold sgQ
  split
  · rename_i h; subst h; constructor <;> intro h <;> grind
  · split <;> constructor <;> intro h <;> grind
theorem sgQ_zero {x : Rat} : sgQ x = 0 ↔ x = 0 := by
  unfold sgQ
  split
  · rename_i h; exact ⟨fun _ => h, fun _ => rfl⟩
  · rename_i h0
    split
    · exact ⟨fun h => absurd h (by decide), fun h => absurd h h0⟩
    · exact ⟨fun h => absurd h (by decide), fun h => absurd h h0⟩
theorem sgQ_cases (x : Rat) : sgQ x = 0 ∨ sgQ x = 1 ∨ sgQ x = -1 := by
  unfold sgQ
  split
  · exact .inl rfl
  · split
    · exact .inr (.inr rfl)
    · exact .inr (.inl rfl)
theorem sgQ_negate (x : Rat) : sgQ (-x) = -sgQ x := by
  unfold sgQ
  by_cases h : x = 0
  · subst h; rfl
  · rw [if_neg (by grind), if_neg h]
    by_cases h2 : x < 0
    · rw [if_pos h2, if_neg (by grind)]; rfl
    · rw [if_neg h2, if_pos (by grind)]
def halfF (u v : V2) : Int := if 0 < sgQ (crs u v) ∨ (sgQ (crs u v) = 0 ∧ 0 < sgQ (dt u v)) then 0 else 1
def lessF (u v w : V2) : Bool := if halfF u v ≠ halfF u w then decide (halfF u v < halfF u w) else decide (0 < sgQ (crs v w))
def ascF (l : List V2) : Bool := match l with
  | [] => true
  | u :: r => (List.range r.length).all fun i => lessF u ((u :: r).getD i (0, 0)) ((u :: r).getD (i + 1) (0, 0))
def mirF (l : List V2) : List V2 := l.map fun p => (p.1, -p.2)
def orderF (l : List V2) : Bool := !ascF l && !ascF (mirF l)
theorem asc_two {u v : V2} (h1 : 0 < dt u u) : ascF [u, v] = false ↔ (crs u v = 0 ∧ 0 < dt u v) := by
  have e : ascF [u, v] = lessF u u v := by
    simp [ascF, List.range, List.range.loop]
  rw [e]
  have hc : crs u u = 0 := by unfold crs; grind
  have h0 : halfF u u = 0 := by
    unfold halfF
    rw [if_pos (.inr ⟨sgQ_zero.2 hc, sgQ_pos.2 h1⟩)]
  unfold lessF
  rw [h0]
  by_cases hh : 0 < sgQ (crs u v) ∨ (sgQ (crs u v) = 0 ∧ 0 < sgQ (dt u v))
  · have e1 : halfF u v = 0 := by unfold halfF; rw [if_pos hh]
    rw [e1, if_neg (by simp)]
    constructor
    · intro h
      have h := of_decide_eq_false h
      rcases hh with hh | hh
      · exact absurd hh h
      · exact ⟨sgQ_zero.1 hh.1, sgQ_pos.1 hh.2⟩
    · rintro ⟨h, _⟩
      refine decide_eq_false ?_
      rw [sgQ_zero.2 h]; decide
  · have e1 : halfF u v = 1 := by unfold halfF; rw [if_neg hh]
    rw [e1, if_pos (by decide)]
    constructor
    · intro h; cases h
    · rintro ⟨h, h2⟩
      exact absurd (.inr ⟨sgQ_zero.2 h, sgQ_pos.2 h2⟩) hh
theorem order_two {u v : V2} (h1 : 0 < dt u u) (h2 : dt u u = dt v v) : orderF [u, v] = decide (u = v) := by
  have e1 := asc_two (u := u) (v := v) h1
  have e2 := asc_two (u := (u.1, -u.2)) (v := (v.1, -v.2)) (by unfold dt at *; grind)
  have c2 : crs (u.1, -u.2) (v.1, -v.2) = -crs u v := by unfold crs; grind
  have d2 : dt (u.1, -u.2) (v.1, -v.2) = dt u v := by unfold dt; grind
  rw [c2, d2] at e2
  unfold orderF
  show (!ascF [u, v] && !ascF [(u.1, -u.2), (v.1, -v.2)]) = _
  by_cases h : crs u v = 0 ∧ 0 < dt u v
  · rw [e1.2 h, e2.2 ⟨by grind, h.2⟩, decide_eq_true (same_dir h2 h.1 h.2)]; rfl
  · have n1 : ascF [u, v] = true := by
      cases hv : ascF [u, v]
      · exact absurd (e1.1 hv) h
      · rfl
    rw [n1, decide_eq_false]
    · rfl
    · intro e
      subst e
      exact h ⟨by unfold crs; grind, h1⟩
end Lift
namespace Lift
abbrev NQ := List Rat
def szQs (k : Nat) (a : NQ) : Prop := ∀ c, LQ (a.getD c 0) ≤ k
def szRt (k : Nat) (rt : List NQ) : Prop := ∀ i, szQs k (rt.getD i [])
def zeroF (a : NQ) : Bool := a.all (fun q => decide (q = 0))
def wideF (a : NQ) (n : Nat) : NQ := a.take n ++ List.replicate (n - a.length) 0
def plusF (a b : NQ) : NQ := (List.range (max a.length b.length)).map fun i => a.getD i 0 + b.getD i 0
def minusF (a : NQ) : NQ := a.map (fun q => -q)
def joinF (a b : NQ) (n : Nat) : NQ := wideF a n ++ wideF b n
def mulS (R : NQ → NQ → NQ) (rt : List NQ) (a b : NQ) : NQ :=
  if (zeroF a || zeroF b) = true then [] else if a.length = 1 then [a.getD 0 0 * b.getD 0 0] else
  if b.length ≤ a.length / 2 then joinF (R (a.take (a.length / 2)) b) (R (a.drop (a.length / 2)) b) (a.length / 2) else
  joinF (plusF (R (a.take (a.length / 2)) (b.take (a.length / 2))) (R (R (a.drop (a.length / 2)) (b.drop (a.length / 2))) (rt.getD (a.length.log2 - 1) [])))
    (plusF (R (a.take (a.length / 2)) (b.drop (a.length / 2))) (R (a.drop (a.length / 2)) (b.take (a.length / 2)))) (a.length / 2)
def swpF (R : NQ → NQ → NQ) (a b : NQ) : NQ := if a.length < b.length then R b a else R a b
def timesF : Nat → List NQ → NQ → NQ → NQ
  | 0, rt, a, b => swpF (mulS (fun _ _ => []) rt) a b
  | l + 1, rt, a, b => swpF (mulS (timesF l rt) rt) a b
def LtN (l : Nat) (a : NQ) : Prop := a.length = 0 ∨ ∃ i, i ≤ l ∧ a.length = 2 ^ i
def RtOk (rt : List NQ) : Prop := ∀ j, j < rt.length → (rt.getD j []).length = 2 ^ j
def sT : Nat → Nat → Nat
  | 0, k => 2 * k
  | l + 1, k => sT l (sT l k) + sT l k + 1
theorem sT_mono : ∀ {l k m : Nat}, k ≤ m → sT l k ≤ sT l m
  | 0, k, m, h => by show 2 * k ≤ 2 * m; omega
  | l + 1, k, m, h => by
    have h1 := sT_mono (l := l) h
    have h2 := sT_mono (l := l) h1
    show sT l (sT l k) + sT l k + 1 ≤ sT l (sT l m) + sT l m + 1
    omega
theorem sT_two : ∀ (l k : Nat), 2 * k ≤ sT l k
  | 0, k => Nat.le_refl _
  | l + 1, k => by
    have h1 := sT_two l k
    show 2 * k ≤ sT l (sT l k) + sT l k + 1
    omega
theorem szQs.mono {k m : Nat} {a : NQ} (h : szQs k a) (hk : k ≤ m) : szQs m a := fun c => Nat.le_trans (h c) hk
theorem szRt.mono {k m : Nat} {a : List NQ} (h : szRt k a) (hk : k ≤ m) : szRt m a := fun i => (h i).mono hk
theorem szQs.pos {k : Nat} {a : NQ} (h : szQs k a) : 1 ≤ k := Nat.le_trans (LQ_pos _) (h 0)
theorem LQ0_le {k : Nat} (h : 1 ≤ k) : LQ 0 ≤ k := by rw [LQ_zero]; exact h
theorem gQ_over {a : NQ} {c : Nat} (h : a.length ≤ c) : a.getD c 0 = 0 := by rw [List.getD_eq_getElem?_getD, List.getElem?_eq_none h]; rfl
theorem szQs_nil {k : Nat} (h : 1 ≤ k) : szQs k [] := fun c => by rw [gQ_over (Nat.zero_le _)]; exact LQ0_le h
theorem gQ_take (a : NQ) (n c : Nat) : (a.take n).getD c 0 = if c < n then a.getD c 0 else 0 := by
  rw [List.getD_eq_getElem?_getD, List.getElem?_take]
  split
  · rw [List.getD_eq_getElem?_getD]
  · rfl
theorem gQ_drop (a : NQ) (n c : Nat) : (a.drop n).getD c 0 = a.getD (n + c) 0 := by
  rw [List.getD_eq_getElem?_getD, List.getElem?_drop, List.getD_eq_getElem?_getD]
theorem szQs.take {k : Nat} {a : NQ} (h : szQs k a) (n : Nat) : szQs k (a.take n) := fun c => by
  rw [gQ_take]
  split
  · exact h c
  · exact LQ0_le h.pos
theorem szQs.drop {k : Nat} {a : NQ} (h : szQs k a) (n : Nat) : szQs k (a.drop n) := fun c => by rw [gQ_drop]; exact h _
theorem gQ_append (a b : NQ) (c : Nat) : (a ++ b).getD c 0 = if c < a.length then a.getD c 0 else b.getD (c - a.length) 0 := by
  rw [List.getD_eq_getElem?_getD, List.getElem?_append]
  split <;> rw [List.getD_eq_getElem?_getD]
theorem wideF_len (a : NQ) (n : Nat) : (wideF a n).length = n := by
  unfold wideF
  rw [List.length_append, List.length_take, List.length_replicate]; omega
theorem wideF_get (a : NQ) (n c : Nat) : (wideF a n).getD c 0 = if c < n then a.getD c 0 else 0 := by
  unfold wideF
  rw [gQ_append, List.length_take, gQ_take]
  by_cases h : c < min n a.length
  · rw [if_pos h, if_pos (by omega)]
  · rw [if_neg h]
    have e : (List.replicate (n - a.length) (0 : Rat)).getD (c - min n a.length) 0 = 0 := by
      rw [List.getD_eq_getElem?_getD, List.getElem?_replicate]
      split <;> rfl
    rw [e]
    by_cases h2 : c < n
    · rw [if_pos h2, gQ_over (by omega)]
    · rw [if_neg h2]
theorem szQs.wide {k : Nat} {a : NQ} (h : szQs k a) (n : Nat) : szQs k (wideF a n) := fun c => by
  rw [wideF_get]
  split
  · exact h c
  · exact LQ0_le h.pos
theorem plusF_len (a b : NQ) : (plusF a b).length = max a.length b.length := by unfold plusF; rw [List.length_map, List.length_range]
theorem plusF_get (a b : NQ) (c : Nat) : (plusF a b).getD c 0 = a.getD c 0 + b.getD c 0 := by
  by_cases h : c < max a.length b.length
  · unfold plusF
    rw [List.getD_eq_getElem?_getD, List.getElem?_map, List.getElem?_range h]; rfl
  · rw [gQ_over (by rw [plusF_len]; omega), gQ_over (a := a) (by omega), gQ_over (a := b) (by omega), Rat.add_zero]
theorem szQs.plus {k m : Nat} {a b : NQ} (h : szQs k a) (h2 : szQs m b) : szQs (k + m + 1) (plusF a b) := fun c => by
  rw [plusF_get]
  have := LQ_add (a.getD c 0) (b.getD c 0)
  have := h c
  have := h2 c
  omega
theorem minusF_len (a : NQ) : (minusF a).length = a.length := List.length_map ..
theorem minusF_get (a : NQ) (c : Nat) : (minusF a).getD c 0 = -a.getD c 0 := by
  unfold minusF
  rw [List.getD_eq_getElem?_getD, List.getElem?_map, List.getD_eq_getElem?_getD]
  cases a[c]? with
  | none => rfl
  | some q => rfl
theorem szQs.minus {k : Nat} {a : NQ} (h : szQs k a) : szQs k (minusF a) := fun c => by rw [minusF_get, LQ_neg]; exact h c
theorem joinF_len (a b : NQ) (n : Nat) : (joinF a b n).length = n + n := by unfold joinF; rw [List.length_append, wideF_len, wideF_len]
theorem joinF_get (a b : NQ) (n c : Nat) : (joinF a b n).getD c 0 = if c < n then a.getD c 0 else if c < n + n then b.getD (c - n) 0 else 0 := by
  unfold joinF
  rw [gQ_append, wideF_len, wideF_get, wideF_get]
  by_cases h : c < n
  · rw [if_pos h, if_pos h, if_pos h]
  · rw [if_neg h, if_neg h]
    by_cases h2 : c < n + n
    · rw [if_pos h2, if_pos (by omega)]
    · rw [if_neg h2, if_neg (by omega)]
theorem szQs.join {k : Nat} {a b : NQ} (h : szQs k a) (h2 : szQs k b) (n : Nat) : szQs k (joinF a b n) := fun c => by
  rw [joinF_get]
  split
  · exact h c
  · split
    · exact h2 _
    · exact LQ0_le h.pos
theorem szQs_one {k : Nat} {q : Rat} (h : LQ q ≤ k) : szQs k [q] := fun c => by
  have := LQ_pos q
  cases c with
  | zero => exact h
  | succ c => rw [gQ_over (by simp)]; exact LQ0_le (by omega)
theorem zeroF_len {a : NQ} (h : zeroF a = false) : a ≠ [] := by
  intro e; subst e; cases h
theorem LtN.mono {l m : Nat} {a : NQ} (h : LtN l a) (hl : l ≤ m) : LtN m a := h.imp id (fun ⟨i, h1, h2⟩ => ⟨i, by omega, h2⟩)
theorem LtN_nil (l : Nat) : LtN l [] := .inl rfl
theorem LtN_one (l : Nat) (q : Rat) : LtN l [q] := .inr ⟨0, Nat.zero_le _, rfl⟩
theorem LtN.le {l : Nat} {a : NQ} (h : LtN l a) : a.length ≤ 2 ^ l := by
  rcases h with h | ⟨i, h1, h2⟩
  · rw [h]; exact Nat.zero_le _
  · rw [h2]; exact Nat.pow_le_pow_right (by decide) h1
theorem LtN.plus {l : Nat} {a b : NQ} (h : LtN l a) (h2 : LtN l b) : LtN l (plusF a b) := by
  unfold LtN
  rw [plusF_len]
  by_cases e : a.length ≤ b.length
  · rw [Nat.max_eq_right e]; exact h2
  · rw [Nat.max_eq_left (by omega)]; exact h
theorem LtN.minus {l : Nat} {a : NQ} (h : LtN l a) : LtN l (minusF a) := by unfold LtN; rw [minusF_len]; exact h
theorem pow_half (i : Nat) : 2 ^ (i + 1) / 2 = 2 ^ i := by rw [Nat.pow_succ]; omega
theorem halves {a : NQ} {i : Nat} (h : a.length = 2 ^ (i + 1)) : (a.take (a.length / 2)).length = 2 ^ i ∧ (a.drop (a.length / 2)).length = 2 ^ i ∧ a.length / 2 = 2 ^ i := by
  have e := pow_half i
  have e2 : 2 ^ (i + 1) = 2 ^ i * 2 := Nat.pow_succ ..
  rw [List.length_take, List.length_drop, h, e]
  omega
theorem mulS_ok {l k : Nat} {R : NQ → NQ → NQ} {rt : List NQ} {a b : NQ} (ha : LtN l a) (hb : LtN l b) (hab : b.length ≤ a.length) (hrt : RtOk rt) (hl : l ≤ rt.length) (sa : szQs k a) (sb : szQs k b) (sr : szRt k rt)
    (hR : ∀ l', l = l' + 1 → ∀ a' b' m, k ≤ m → LtN l' a' → LtN l' b' → szQs m a' → szQs m b' → LtN l' (R a' b') ∧ szQs (sT l' m) (R a' b')) : LtN l (mulS R rt a b) ∧ szQs (sT l k) (mulS R rt a b) := by
  have hk := sa.pos
  have h2 := sT_two l k
  unfold mulS
  by_cases h0 : (zeroF a || zeroF b) = true
  · rw [if_pos h0]; exact ⟨LtN_nil _, szQs_nil (by omega)⟩
  rw [if_neg h0]
  by_cases h1 : a.length = 1
  · rw [if_pos h1]
    refine ⟨LtN_one _ _, szQs_one ?_⟩
    have := LQ_mul (a.getD 0 0) (b.getD 0 0)
    have := sa 0
    have := sb 0
    omega
  rw [if_neg h1]
  have hz := fun z : zeroF a = true => h0 (by rw [z]; rfl)
  have hz2 := fun z : zeroF b = true => h0 (by rw [z, Bool.or_true])
  obtain ⟨i, hi, hla⟩ : ∃ i, i ≤ l ∧ a.length = 2 ^ i := by
    rcases ha with e | e
    · exact absurd (by rw [List.length_eq_zero_iff.1 e]; rfl) hz
    · exact e
  have hi0 : i ≠ 0 := fun e => h1 (by rw [hla, e])
  obtain ⟨j, rfl⟩ : ∃ j, i = j + 1 := ⟨i - 1, by omega⟩
  obtain ⟨l', rfl⟩ : ∃ l', l = l' + 1 := ⟨l - 1, by omega⟩
  have hj : j ≤ l' := by omega
  have hR := fun a' b' m h1 h2 h3 h4 h5 => hR l' rfl a' b' m h1 h2 h3 h4 h5
  obtain ⟨e1, e2, e3⟩ := halves hla
  have hx : LtN l' (a.take (a.length / 2)) := .inr ⟨j, hj, e1⟩
  have hy : LtN l' (a.drop (a.length / 2)) := .inr ⟨j, hj, e2⟩
  have hJ : ∀ c d, LtN (l' + 1) (joinF c d (a.length / 2)) := fun c d => .inr ⟨j + 1, by omega, by rw [joinF_len, e3, Nat.pow_succ]; omega⟩
  have hs0 := sT_two l' k
  have hs1 := sT_two l' (sT l' k)
  by_cases h3 : b.length ≤ a.length / 2
  · rw [if_pos h3]
    have hb' : LtN l' b := by
      rcases hb with e | ⟨i', _, e⟩
      · exact .inl e
      · refine .inr ⟨i', ?_, e⟩
        rw [e3, e] at h3
        have := (Nat.pow_le_pow_iff_right (a := 2) (by decide)).1 h3
        omega
    have r1 := hR _ _ k (Nat.le_refl _) hx hb' (sa.take _) sb
    have r2 := hR _ _ k (Nat.le_refl _) hy hb' (sa.drop _) sb
    refine ⟨hJ _ _, (r1.2.join r2.2 _).mono ?_⟩
    show _ ≤ sT l' (sT l' k) + sT l' k + 1
    omega
  rw [if_neg h3]
  have hlb : b.length = 2 ^ (j + 1) := by
    rcases hb with e | ⟨i', _, e⟩
    · exact absurd (by rw [List.length_eq_zero_iff.1 e]; rfl) hz2
    · rw [e] at h3 hab ⊢
      rw [hla] at hab
      rw [e3] at h3
      have h4 := (Nat.pow_le_pow_iff_right (a := 2) (by decide)).1 hab
      have h5 : ¬ i' ≤ j := fun h => h3 ((Nat.pow_le_pow_iff_right (a := 2) (by decide)).2 h)
      rw [show i' = j + 1 by omega]
  obtain ⟨f1, f2, f3⟩ := halves hlb
  rw [show b.length / 2 = a.length / 2 by rw [f3, e3]] at f1 f2
  have hu : LtN l' (b.take (a.length / 2)) := .inr ⟨j, hj, f1⟩
  have hv : LtN l' (b.drop (a.length / 2)) := .inr ⟨j, hj, f2⟩
  have r1 := hR _ _ k (Nat.le_refl _) hx hu (sa.take _) (sb.take _)
  have r2 := hR _ _ k (Nat.le_refl _) hy hv (sa.drop _) (sb.drop _)
  have r3 := hR _ _ k (Nat.le_refl _) hx hv (sa.take _) (sb.drop _)
  have r4 := hR _ _ k (Nat.le_refl _) hy hu (sa.drop _) (sb.take _)
  have hlog : a.length.log2 - 1 = j := by rw [hla, Nat.log2_two_pow]; omega
  have hd : LtN l' (rt.getD (a.length.log2 - 1) []) := .inr ⟨j, hj, by rw [hlog]; exact hrt j (by omega)⟩
  have r5 := hR _ _ (sT l' k) (by omega) r2.1 hd r2.2 ((sr _).mono (by omega))
  refine ⟨hJ _ _, (((r1.2.plus r5.2).mono ?_).join ((r3.2.plus r4.2).mono ?_) _)⟩
  · show _ ≤ sT l' (sT l' k) + sT l' k + 1
    omega
  · show _ ≤ sT l' (sT l' k) + sT l' k + 1
    omega
theorem times_ok : ∀ (l : Nat) {k : Nat} {rt : List NQ} {a b : NQ}, LtN l a → LtN l b → RtOk rt → l ≤ rt.length → szQs k a → szQs k b → szRt k rt → LtN l (timesF l rt a b) ∧ szQs (sT l k) (timesF l rt a b)
  | 0, k, rt, a, b, ha, hb, hrt, hl, sa, sb, sr => by
    show LtN 0 (swpF (mulS _ rt) a b) ∧ szQs (sT 0 k) (swpF (mulS _ rt) a b)
    unfold swpF
    split
    · exact mulS_ok hb ha (by omega) hrt hl sb sa sr (fun l' h => by omega)
    · exact mulS_ok ha hb (by omega) hrt hl sa sb sr (fun l' h => by omega)
  | l + 1, k, rt, a, b, ha, hb, hrt, hl, sa, sb, sr => by
    show LtN (l + 1) (swpF (mulS (timesF l rt) rt) a b) ∧ szQs (sT (l + 1) k) (swpF (mulS (timesF l rt) rt) a b)
    unfold swpF
    have ih : ∀ l', l + 1 = l' + 1 → ∀ a' b' m, k ≤ m → LtN l' a' → LtN l' b' → szQs m a' → szQs m b' → LtN l' (timesF l rt a' b') ∧ szQs (sT l' m) (timesF l rt a' b') := fun l' e a' b' m hm h1 h2 h3 h4 => by
      obtain rfl : l = l' := by omega
      exact times_ok l h1 h2 hrt (by omega) h3 h4 (sr.mono hm)
    split
    · exact mulS_ok hb ha (by omega) hrt hl sb sa sr ih
    · exact mulS_ok ha hb (by omega) hrt hl sa sb sr ih
end Lift
namespace Lift
open Go
open Go.RowKit (Below)
abbrev LR := Value × AV
section
variable {P : Program} {T : Ty} {B : Nat} {F0 : Nat → Prop} {w0 : Bas} {n : Nat} {σ σ' : St} {R R' : List LR} {a : Act} {w : World}
def LooseAt (P : Program) (w : World) (O : Nat → Option Nat) (F : Nat → Prop) (t : Nat) (r : LR) : Prop :=
  r.2 = .junk ∨ r.2.row.isSome = true ∧ r.2.tag = false ∧ AVR P (fun _ => False) w O F (fun _ => none) (fun _ => none) t r.2 r.1
structure RelZ (P : Program) (B : Nat) (F0 : Nat → Prop) (w0 : Bas) (n : Nat) (R : List LR) (σ : St) (a : Act) (w : World) : Prop where
  below : BelY B w0 w0.w w
  base : B ≤ w.heap.size
  f0 : F0ok B F0 w0
  defers : a.defers = []
  size : a.tmps.size = n
  own : ∃ O : Nat → Option Nat, (∀ b t, O b = some t → OwnR B w0 w b) ∧ (∀ t av, σ.get t = some av → ∃ v, a.tmps[t]? = some v ∧ AVR P w0.X w O (FW B F0 w) σ.get (fun h => a.tmps[h]?) t av v) ∧
    ∀ i r, R[i]? = some r → LooseAt P w O (FW B F0 w) (n + i) r
theorem RelZ.rel (h : RelZ P B F0 w0 n R σ a w) : Rel P B F0 w0 n σ a w := by
  obtain ⟨O, h1, h2, _⟩ := h.own
  exact ⟨h.below, h.base, h.f0, h.defers, h.size, O, h1, h2⟩
theorem Rel.z (h : Rel P B F0 w0 n σ a w) : RelZ P B F0 w0 n [] σ a w := by
  obtain ⟨O, h1, h2⟩ := h.own
  exact ⟨h.below, h.base, h.f0, h.defers, h.size, O, h1, h2, fun i r hr => by simp at hr⟩
theorem AVR.reX {X X' : Nat → Prop} {O : Nat → Option Nat} {F : Nat → Prop} {hm : Nat → Option AV} {tm : Nat → Option Value} {t : Nat} {av : AV} {v : Value} (h : AVR P X w O F hm tm t av v)
    (hx : av.tag = true → ∀ b, O b = some t → X' b) : AVR P X' w O F hm tm t av v := by
  cases av with
  | wn q e l lo m =>
    rcases h with h | ⟨b, o, cap, cs, hq, h1, h0, h2, h3⟩
    · exact .inl h
    · exact .inr ⟨b, o, cap, cs, fun e => hx e b h2, h1, h0, h2, h3⟩
  | _ => exact h
theorem AVR.owner {X X' : Nat → Prop} {O O' : Nat → Option Nat} {F F' : Nat → Prop} {hm hm' : Nat → Option AV} {tm tm' : Nat → Option Value} {s t : Nat} {av : AV} {v : Value} (h : AVR P X w O F hm tm s av v) (hrow : av.row.isSome = true) (htag : av.tag = false)
    (hO : ∀ c, O c = some s → O' c = some t) (hF : ∀ c, Free O F c → Free O' F' c) : AVR P X' w O' F' hm' tm' t av v := by
  cases av <;> simp [AV.row] at hrow
  · rcases h with h | ⟨b, cap, cs, h1, h2, h3, h4, h5, h6, h7, h8⟩
    · exact .inl h
    · exact .inr ⟨b, cap, cs, h1, hO b h2, h3, h4, h5, h6, h7, fun i d hd => ⟨(h8 i d hd).1, let ⟨u, hu, hr⟩ := (h8 i d hd).2; ⟨u, hu, hr.mono hF (fun _ _ => rfl)⟩⟩⟩
  · simp only [AV.tag] at htag
    subst htag
    rcases h with h | ⟨b, o, cap, cs, _, h1, h0, h2, h3, h4, h5, h6, h7, h8⟩
    · exact .inl h
    · exact .inr ⟨b, o, cap, cs, (fun e => by cases e), h1, h0, hO b h2, h3, h4, h5, h6, h7, fun i d hd => ⟨(h8 i d hd).1, let ⟨u, hu, hr⟩ := (h8 i d hd).2; ⟨u, hu, hr.mono hF (fun _ _ => rfl)⟩⟩⟩
def St.noTag : St → Bool
  | [] => true
  | (_, a) :: r => match a.tag with
    | true => false
    | false => St.noTag r
theorem St.noTag_get : ∀ {σ : St}, σ.noTag = true → ∀ (t : Nat) (av : AV), σ.get t = some av → av.tag = false
  | [], _, t, av, h => by cases h
  | (k, a) :: r, hn, t, av, h => by
    rw [St.get_cons] at h
    simp only [St.noTag] at hn
    split at hn
    · cases hn
    · rename_i ha
      split at h
      · cases h; exact ha
      · exact St.noTag_get hn t av h
def Seen (P : Program) (B : Nat) (F0 : Nat → Prop) (w0 : Bas) (V : Value) (e : Nat) (xs : List D) : Prop :=
  ∃ b cap cs, V = .slice (some ⟨b, 0, none⟩) xs.length cap ∧ b < B ∧ ¬ w0.X b ∧ w0.w.heap[b]? = some (.cells cs e (0, 0)) ∧ (∀ x, x ∈ xs → x.flat.length = P.cellsOf e) ∧
    ∀ (i : Nat) (d : D), (flatAll xs)[i]? = some d → d.isCell = true ∧ ∃ u, cs[i]? = some u ∧ ∀ (w : World) (O : Nat → Option Nat), BelY B w0 w0.w w → (∀ b t, O b = some t → OwnR B w0 w b) → Rd w (Free O (FW B F0 w)) d u
theorem RelZ.subS (hR : RelZ P B F0 w0 n R σ a w) : ∃ B1 F1 w1, Rel P B1 F1 w1 n σ a w ∧ (∀ (i : Nat) (V : Value) (e : Nat) (xs : List D), R[i]? = some (V, .ow e xs) → xs ≠ [] → Seen P B1 F1 w1 V e xs) ∧ ∀ σ' a' w', σ'.noTag = true → Rel P B1 F1 w1 n σ' a' w' → RelZ P B F0 w0 n R σ' a' w' := by
  obtain ⟨O, hOr, hO, hL⟩ := hR.own
  let X1 : Nat → Prop := fun b => ∃ t, t < n ∧ O b = some t
  let F1 : Nat → Prop := fun b => FW B F0 w b ∧ ∀ t, O b = some t → t < n
  let O1 : Nat → Option Nat := fun b => match O b with
    | some t => if t < n then some t else none
    | none => none
  have hO1 : ∀ b t, O1 b = some t ↔ O b = some t ∧ t < n := fun b t => by
    simp only [O1]
    split
    · rename_i t' ht'
      rw [ht']
      split
      · rename_i hlt
        constructor
        · intro h; cases h; exact ⟨rfl, hlt⟩
        · intro h; exact h.1
      · rename_i hlt
        constructor
        · intro h; cases h
        · intro h; obtain ⟨h, h'⟩ := h; cases h; exact absurd h' hlt
    · rename_i ht'; rw [ht']; simp
  have hO1z : ∀ b, O b = none → O1 b = none := fun b hb => by simp only [O1, hb]
  have hlt : ∀ t av, σ.get t = some av → t < n := fun t av h => by
    obtain ⟨v, hv, _⟩ := hO t av h
    rw [← hR.size]
    exact (Array.getElem?_eq_some_iff.1 hv).1
  have hFlt : ∀ b, FW B F0 w b → b < w.heap.size := fun b hb => (FW.step hR.f0 hR.base (Nat.le_refl _) b hb).1
  have hFree : ∀ c, Free O (FW B F0 w) c → Free O1 (FW w.heap.size F1 w) c := fun c hc => ⟨hO1z c hc.1, .inl ⟨hc.2, fun t ht => by rw [hc.1] at ht; cases ht⟩⟩
  refine ⟨w.heap.size, F1, ⟨w, X1⟩, ⟨.refl _ _ _, Nat.le_refl _, ⟨fun b hb => hFlt b hb.1, fun b hb => ?_⟩, hR.defers, hR.size, O1, fun b t hb => ?_, fun t av hav => ?_⟩, fun i V e xs hi hne => ?_, ?_⟩
  · obtain ⟨t, h1, h2⟩ := hb
    exact ⟨(hOr b t h2).fw hR.f0, fun t' h' => by rw [h2] at h'; cases h'; exact h1⟩
  · have := (hO1 b t).1 hb
    exact ⟨.inr ⟨t, this.2, this.1⟩, (hOr b t this.1).2⟩
  · obtain ⟨v, hv, hr⟩ := hO t av hav
    refine ⟨v, hv, AVR.reX (hr.move (fun c hc => ⟨hFree c hc, rfl⟩) (fun _ c hc => ⟨(hO1 c t).2 ⟨hc, hlt t av hav⟩, rfl⟩) (fun k _ x _ hk => ⟨hk, rfl⟩)) (fun _ b hb => ?_)⟩
    have := (hO1 b t).1 hb
    exact ⟨t, this.2, this.1⟩
  · rcases hL i _ hi with h | ⟨_, _, h⟩
    · cases h
    · rcases h with ⟨base, _, h4⟩ | ⟨b, cap, cs, h3, h4, h5, h6, h7, h8, h9, h10⟩
      · exact absurd h4 hne
      refine ⟨b, cap, cs, h3, (hOr b _ h4).2, fun ⟨t, g1, g2⟩ => by rw [h4] at g2; cases g2; omega, h5, h9, fun j d hd => ?_⟩
      obtain ⟨f1, u, f2, f3⟩ := h10 j d hd
      refine ⟨f1, u, f2, fun w' O' hb' hO' => f3.mono (fun c hc => ?_) (fun c hc => hb'.block c (hFlt c hc.2) (fun ⟨t, _, g⟩ => by rw [hc.1] at g; cases g))⟩
      refine ⟨?_, .inl ⟨hc.2, fun t ht => by rw [hc.1] at ht; cases ht⟩⟩
      cases hx : O' c with
      | none => rfl
      | some t =>
        exfalso
        rcases (hO' c t hx).1 with g | ⟨s, _, g⟩
        · have := hFlt c hc.2
          have g : w.heap.size ≤ c := g
          omega
        · rw [hc.1] at g; cases g
  · intro σ' a' w' htag h2
    have htag := St.noTag_get htag
    obtain ⟨O2, hOr2, hO2⟩ := h2.own
    have hsz : w.heap.size ≤ w'.heap.size := h2.below.size
    have hX1 : ∀ b, X1 b → B ≤ b ∨ w0.X b := fun b ⟨t, _, h⟩ => (hOr b t h).1
    have k1 : ∀ b t t', O2 b = some t → O b = some t' → t' < n := fun b t t' h h' => by
      rcases (hOr2 b t h).1 with g | ⟨t2, g1, g2⟩
      · have g : w.heap.size ≤ b := g
        have h1 : b < w.heap.size := (hOr b t' h').2
        omega
      · rw [h'] at g2; cases g2; exact g1
    let O3 : Nat → Option Nat := fun b => match O b with
      | some t => if t < n then O2 b else some t
      | none => O2 b
    have k2 : ∀ b t, O2 b = some t → O3 b = some t := fun b t h => by
      simp only [O3]
      split
      · rename_i t' ht'
        rw [if_pos (k1 b t t' h ht')]; exact h
      · exact h
    have k3 : ∀ c, Free O2 (FW w.heap.size F1 w') c → Free O3 (FW B F0 w') c := fun c hc => by
      rcases hc.2 with g | ⟨g1, g2⟩
      · refine ⟨?_, ?_⟩
        · simp only [O3]
          split
          · rename_i t' ht'
            rw [if_pos (g.2 t' ht')]; exact hc.1
          · exact hc.1
        · rcases g.1 with g | ⟨g1, g2⟩
          · exact .inl g
          · exact .inr ⟨g1, Nat.lt_of_lt_of_le g2 hsz⟩
      · refine ⟨?_, .inr ⟨Nat.le_trans hR.base g1, g2⟩⟩
        simp only [O3]
        split
        · rename_i t' ht'
          have : c < w.heap.size := (hOr c t' ht').2
          omega
        · exact hc.1
    refine ⟨hR.below.back hR.base hX1 h2.below, Nat.le_trans hR.base hsz, hR.f0, h2.defers, h2.size, O3, fun b t hb => ?_, fun t av hav => ?_, fun i r hr => ?_⟩
    · simp only [O3] at hb
      have e2 : O2 b = some t → OwnR B w0 w' b := fun h => by
        refine ⟨?_, (hOr2 b t h).2⟩
        rcases (hOr2 b t h).1 with g | g
        · exact .inl (Nat.le_trans hR.base g)
        · exact hX1 b g
      split at hb
      · rename_i t' ht'
        split at hb
        · exact e2 hb
        · exact ⟨(hOr b t' ht').1, Nat.lt_of_lt_of_le (hOr b t' ht').2 hsz⟩
      · exact e2 hb
    · obtain ⟨v, hv, hr⟩ := hO2 t av hav
      refine ⟨v, hv, AVR.reX (hr.move (fun c hc => ⟨k3 c hc, rfl⟩) (fun _ c hc => ⟨k2 c t hc, rfl⟩) (fun k _ x _ hk => ⟨hk, rfl⟩)) (fun e => ?_)⟩
      rw [htag t av hav] at e; cases e
    · rcases hL i r hr with h | ⟨h1, h2', h3⟩
      · exact .inl h
      refine .inr ⟨h1, h2', h3.move (fun c hc => ?_) (fun _ c hc => ?_) (fun k _ x _ hk => by cases hk)⟩
      · have hc' := hFlt c hc.2
        have hnx : ¬ X1 c := fun ⟨t, _, h⟩ => by rw [hc.1] at h; cases h
        refine ⟨⟨?_, ?_⟩, h2.below.block c hc' hnx⟩
        · simp only [O3, hc.1]
          cases h : O2 c with
          | none => rfl
          | some t =>
            exfalso
            rcases (hOr2 c t h).1 with g | g
            · have g : w.heap.size ≤ c := g
              omega
            · exact hnx g
        · rcases hc.2 with g | ⟨g1, g2⟩
          · exact .inl g
          · exact .inr ⟨g1, Nat.lt_of_lt_of_le g2 hsz⟩
      · have hnx : ¬ X1 c := fun ⟨t, h, h'⟩ => by rw [hc] at h'; cases h'; omega
        refine ⟨?_, h2.below.block c (hOr c _ hc).2 hnx⟩
        simp only [O3, hc]
        rw [if_neg (by omega)]
theorem RelZ.sub (hR : RelZ P B F0 w0 n R σ a w) : ∃ B1 F1 w1, Rel P B1 F1 w1 n σ a w ∧ ∀ σ' a' w', σ'.noTag = true → Rel P B1 F1 w1 n σ' a' w' → RelZ P B F0 w0 n R σ' a' w' := by
  obtain ⟨B1, F1, w1, h1, _, h2⟩ := hR.subS
  exact ⟨B1, F1, w1, h1, h2⟩
theorem set_other {R : List LR} {i j : Nat} {x r : LR} (hj : j ≠ i) (h : (R.set i x)[j]? = some r) : R[j]? = some r := by
  rw [List.getElem?_set_ne (Ne.symm hj)] at h; exact h
theorem AVR.swap {X : Nat → Prop} {O : Nat → Option Nat} {F : Nat → Prop} {u t : Nat} {tm : Nat → Option Value} {x : AV} {v : Value} {av : AV} {k : Nat} (hk : k ≠ t) (hku : k ≠ u) (h : AVR P X w O F σ.get tm k x v) (ha : av.home = true → True) :
    AVR P X w (swO O u t) F (St.get ((t, av) :: σ.kill t)) tm k (x.kill t) v := by
  rcases AV.kill_or t x with ⟨h1, h2⟩ | h1
  · rw [h1]
    refine h.move (fun c hc => ⟨⟨swO_none.2 hc.1, hc.2⟩, rfl⟩) (fun _ c hc => ⟨swO_other hc hku hk, rfl⟩) (fun j hj y hy hg => ?_)
    have hjt : j ≠ t := fun e => h2 (e ▸ hj)
    rw [St.get_cons, if_neg (Ne.symm hjt), St.get_kill] at hg
    cases hgj : σ.get j with
    | none => simp [hgj] at hg
    | some y' =>
      simp only [hgj, Option.map_some, Option.some.injEq] at hg
      subst hg
      rw [kill_home' hy]
      exact ⟨rfl, rfl⟩
  · rw [h1]; trivial
theorem RelZ.adopt {t i : Nat} {V : Value} {av : AV} (hR : RelZ P B F0 w0 n R σ a w) (hi : R[i]? = some (V, av)) (hrow : av.row.isSome = true) (ht : σ.get t = some (.d (.v V))) :
    RelZ P B F0 w0 n (R.set i (V, .junk)) ((t, av) :: σ.kill t) a w := by
  obtain ⟨O, hOr, hO, hL⟩ := hR.own
  obtain ⟨v, hv, hr⟩ := hO t _ ht
  have hvV := (Rd.v_eq hr).1
  subst hvV
  have htn : t < n := by rw [← hR.size]; exact (Array.getElem?_eq_some_iff.1 hv).1
  refine ⟨hR.below, hR.base, hR.f0, hR.defers, hR.size, swO O (n + i) t, swO_lt hOr, fun k x hk => ?_, fun j r hr' => ?_⟩
  · rw [St.get_cons] at hk
    split at hk
    · rename_i e
      subst e
      cases hk
      rcases hL i _ hi with h | ⟨h1, h2, h3⟩
      · simp only at h; subst h; cases hrow
      exact ⟨v, hv, h3.owner h1 h2 (fun c hc => by simp [swO, hc]) (fun c hc => ⟨swO_none.2 hc.1, hc.2⟩)⟩
    · rename_i hkt
      rw [St.get_kill] at hk
      cases hg : σ.get k with
      | none => simp [hg] at hk
      | some y =>
        simp only [hg, Option.map_some, Option.some.injEq] at hk
        subst hk
        obtain ⟨z, hz, hzr⟩ := hO k y hg
        have hkn : k < n := by rw [← hR.size]; exact (Array.getElem?_eq_some_iff.1 hz).1
        exact ⟨z, hz, hzr.swap (Ne.symm hkt) (by omega) (fun _ => trivial)⟩
  · by_cases hj : j = i
    · subst hj
      have hlt : j < R.length := (List.getElem?_eq_some_iff.1 hi).1
      rw [List.getElem?_set_self hlt] at hr'
      cases hr'
      exact .inl rfl
    · have := set_other hj hr'
      rcases hL j r this with h | ⟨h1, h2, h3⟩
      · exact .inl h
      · exact .inr ⟨h1, h2, h3.move (fun c hc => ⟨⟨swO_none.2 hc.1, hc.2⟩, rfl⟩) (fun _ c hc => ⟨swO_other hc (by omega) (by omega), rfl⟩) (fun k _ x _ hk => by cases hk)⟩
theorem RelZ.loosen {t i : Nat} {V : Value} {av : AV} (hR : RelZ P B F0 w0 n R σ a w) (ht : σ.get t = some av) (hrow : av.row.isSome = true) (htag : av.tag = false) (hV : a.tmps[t]? = some V)
    (hi : R'[i]? = some (V, av)) (hj : ∀ j r, j ≠ i → R'[j]? = some r → R[j]? = some r) : RelZ P B F0 w0 n R' ((t, .d (.v V)) :: σ.kill t) a w := by
  obtain ⟨O, hOr, hO, hL⟩ := hR.own
  obtain ⟨v, hv, hr⟩ := hO t _ ht
  rw [hV] at hv
  cases hv
  have htn : t < n := by rw [← hR.size]; exact (Array.getElem?_eq_some_iff.1 hV).1
  refine ⟨hR.below, hR.base, hR.f0, hR.defers, hR.size, swO O (n + i) t, swO_lt hOr, fun k x hk => ?_, fun j r hr' => ?_⟩
  · rw [St.get_cons] at hk
    split at hk
    · rename_i e
      subst e
      cases hk
      refine ⟨V, hV, .v ?_⟩
      cases av <;> simp [AV.row] at hrow
      · rcases hr with ⟨_, rfl, _⟩ | ⟨_, _, _, rfl, _⟩ <;> rfl
      · rcases hr with ⟨_, _, rfl, _⟩ | ⟨_, _, _, _, _, rfl, _⟩ <;> rfl
    · rename_i hkt
      rw [St.get_kill] at hk
      cases hg : σ.get k with
      | none => simp [hg] at hk
      | some y =>
        simp only [hg, Option.map_some, Option.some.injEq] at hk
        subst hk
        obtain ⟨z, hz, hzr⟩ := hO k y hg
        have hkn : k < n := by rw [← hR.size]; exact (Array.getElem?_eq_some_iff.1 hz).1
        exact ⟨z, hz, hzr.swap (Ne.symm hkt) (by omega) (fun _ => trivial)⟩
  · by_cases hji : j = i
    · subst hji
      rw [hi] at hr'
      cases hr'
      refine .inr ⟨hrow, htag, hr.owner hrow htag (fun c hc => ?_) (fun c hc => ⟨swO_none.2 hc.1, hc.2⟩)⟩
      simp only [swO]
      rw [if_neg (by rw [hc]; intro e; cases e; omega), if_pos hc]
    · rcases hL j r (hj j r hji hr') with h | ⟨h1, h2, h3⟩
      · exact .inl h
      · exact .inr ⟨h1, h2, h3.move (fun c hc => ⟨⟨swO_none.2 hc.1, hc.2⟩, rfl⟩) (fun _ c hc => ⟨swO_other hc (by omega) (by omega), rfl⟩) (fun k _ x _ hk => by cases hk)⟩
theorem RelZ.keep (ks : List Nat) (hR : RelZ P B F0 w0 n R σ a w) : RelZ P B F0 w0 n R (σ.keep ks) a w := by
  obtain ⟨O, hOr, hO, hL⟩ := hR.own
  refine ⟨hR.below, hR.base, hR.f0, hR.defers, hR.size, O, hOr, fun t av h => ?_, hL⟩
  rw [St.get_keep] at h
  split at h <;> try (cases h; done)
  obtain ⟨v, hv, hr⟩ := hO t av h
  refine ⟨v, hv, hr.move (fun c hc => ⟨hc, rfl⟩) (fun _ c hc => ⟨hc, rfl⟩) (fun k hk x hx hg => ?_)⟩
  rw [St.get_keep] at hg
  split at hg
  · exact ⟨hg, rfl⟩
  · cases hg
theorem RelZ.drop (hR : RelZ P B F0 w0 n R σ a w) (h : ∀ (i : Nat) (r : LR), R'[i]? = some r → R[i]? = some r ∨ r.2 = .junk) : RelZ P B F0 w0 n R' σ a w := by
  obtain ⟨O, hOr, hO, hL⟩ := hR.own
  refine ⟨hR.below, hR.base, hR.f0, hR.defers, hR.size, O, hOr, hO, fun i r hr => ?_⟩
  rcases h i r hr with g | g
  · exact hL i r g
  · exact .inl g
end
end Lift
namespace Lift
open Go
open Go.RowKit (Below)
section
variable {P : Program} {T : Ty} {B : Nat} {F0 : Nat → Prop} {w0 : Bas} {n : Nat} {σ σ' : St} {R R' : List LR} {all : Array Oper} {l : List Oper} {o : Oper}
theorem upon_keep {o : Oper} {a : Act} {next next' : Act → World → Prop} {Q Q' : Exit → Act → World → Prop} (hp : ∀ c a w, Q (.panic c) a w → Q' (.panic c) a w) (ho : LetsOut Q → LetsOut Q')
    (hn : ∀ v d w, next ({ a with defers := d }.put o.dst v) w → next' ({ a with defers := d }.put o.dst v) w) {r : Result Next} (h : o.upon P a next Q r) : o.upon P a next' Q' r := by
  cases r with
  | ok x w' =>
    cases x <;> simp only [Oper.upon] at h ⊢
    · exact hn _ a.defers _ h
    · exact hn _ a.defers _ h
    · exact Calls.mono h (fun e w'' he => by cases e <;> first | exact hn _ a.defers _ he | exact hp _ _ _ he | exact ho he)
    · exact hn _ _ _ h
    · exact Rows.mono h (fun v w'' he => hn _ a.defers _ he)
  | halt x w' => cases x <;> simp only [Oper.upon] at h ⊢ <;> exact hp _ _ _ h
def keepQ (t : Nat) (x : Option Value) (Q : Exit → Act → World → Prop) : Exit → Act → World → Prop := fun e a w => Q e a w ∧ (e = .normal → a.tmps[t]? = x)
theorem wpList_keep {t : Nat} {x : Option Value} {Q : Exit → Act → World → Prop} : ∀ (l : List Oper) (a : Act) (w : World), (∀ o, o ∈ l → o.dst ≠ some t) → a.tmps[t]? = x → wpList P all Q l a w → wpList P all (keepQ t x Q) l a w
  | [], a, w, _, hx, h => ⟨h, fun _ => hx⟩
  | o :: l, a, w, hd, hx, h => by
    have hput : ∀ v d, ({ a with defers := d }.put o.dst v).tmps[t]? = x := fun v d => by
      cases hdst : o.dst with
      | none => exact hx
      | some k =>
        have : k ≠ t := fun e => hd o (by simp) (by rw [hdst, e])
        rw [put_get (Ne.symm this)]; exact hx
    unfold wpList at h ⊢
    split at h
    · rw [if_pos (by assumption)]
      rcases h with h | ⟨h1, a1, w1, h2⟩
      · exact .inl (upon_keep (fun c a w h => ⟨h, fun e => by cases e⟩) (fun ⟨a, w, h⟩ => ⟨a, w, h, fun e => by cases e⟩) (fun v d w h => wpList_keep l _ _ (fun o ho => hd o (by simp [ho])) (hput v d) h) h)
      · exact .inr ⟨h1, a1, w1, h2, fun e => by cases e⟩
    · rw [if_neg (by assumption)]
      exact wpList_keep l _ _ (fun o ho => hd o (by simp [ho])) (hput undef a.defers) h
theorem wpList_mono {Q Q' : Exit → Act → World → Prop} (hq : ∀ e a w, Q e a w → Q' e a w) : ∀ {l : List Oper} {a : Act} {w : World}, wpList P all Q l a w → wpList P all Q' l a w
  | [], a, w, h => hq _ _ _ h
  | o :: l, a, w, h => by
    unfold wpList at h ⊢
    split at h
    · rw [if_pos (by assumption)]
      rcases h with h | ⟨h1, a1, w1, h2⟩
      · exact .inl (upon_keep (fun c a w h => hq _ _ _ h) (fun ⟨a, w, h⟩ => ⟨a, w, hq _ _ _ h⟩) (fun v d w h => wpList_mono hq h) h)
      · exact .inr ⟨h1, a1, w1, hq _ _ _ h2⟩
    · rw [if_neg (by assumption)]
      exact wpList_mono hq h
abbrev Pins := List (Nat × Value)
def PinsOk (p : Pins) (a : Act) : Prop := ∀ e, e ∈ p → a.tmps[e.1]? = some e.2
def dstNe (t : Nat) : List Oper → Bool
  | [] => true
  | o :: r => match o.dst with
    | some d => match Nat.beq d t with
      | true => false
      | false => dstNe t r
    | none => dstNe t r
theorem dstNe_ok {t : Nat} : ∀ {l : List Oper}, dstNe t l = true → ∀ o, o ∈ l → o.dst ≠ some t
  | [], _, o, ho => by cases ho
  | x :: r, h, o, ho => by
    simp only [dstNe] at h
    rcases List.mem_cons.1 ho with rfl | ho
    · split at h
      · rename_i d hd
        split at h
        · cases h
        · rename_i hb
          rw [hd]
          intro e
          cases e
          exact Nat.ne_of_beq_eq_false hb rfl
      · rename_i hd; rw [hd]; intro e; cases e
    · split at h
      · split at h
        · cases h
        · exact dstNe_ok h o ho
      · exact dstNe_ok h o ho
def pinsB (p : Pins) (l : List Oper) : Bool := match p with
  | [] => true
  | (t, _) :: r => match dstNe t l with
    | true => pinsB r l
    | false => false
theorem pinsB_ok : ∀ {p : Pins} {l : List Oper}, pinsB p l = true → ∀ e, e ∈ p → ∀ o, o ∈ l → o.dst ≠ some e.1
  | [], l, _, e, he => by cases he
  | (t, V) :: r, l, h, e, he => by
    simp only [pinsB] at h
    split at h
    · rename_i h1
      rcases List.mem_cons.1 he with rfl | he
      · exact dstNe_ok h1
      · exact pinsB_ok h e he
    · cases h
theorem wpList_pins {Q : Exit → Act → World → Prop} {a : Act} {w : World} : ∀ {p : Pins}, PinsOk p a → (∀ e, e ∈ p → ∀ o, o ∈ l → o.dst ≠ some e.1) → wpList P all Q l a w → wpList P all (fun e a w => Q e a w ∧ (e = .normal → PinsOk p a)) l a w
  | [], _, _, h => wpList_mono (fun e a w h => ⟨h, fun _ e he => by cases he⟩) h
  | (t, V) :: r, hp, hd, h => by
    have h1 := wpList_pins (p := r) (fun e he => hp e (by simp [he])) (fun e he => hd e (by simp [he])) h
    have h2 := wpList_keep l a w (hd (t, V) (by simp)) (hp (t, V) (by simp)) h1
    refine wpList_mono (fun e a w ⟨⟨h1, h2⟩, h3⟩ => ⟨h1, fun he e' he' => ?_⟩) h2
    rcases List.mem_cons.1 he' with rfl | he'
    · exact h3 he
    · exact h2 he e' he'
def AZOps (P : Program) (B : Nat) (F0 : Nat → Prop) (w0 : Bas) (n : Nat) (all : Array Oper) (l : List Oper) (K : List LR → St → Prop) (p : Pins) (R : List LR) (σ : St) : Prop :=
  ∀ (a : Act) (w : World), RelZ P B F0 w0 n R σ a w → PinsOk p a → ∀ Q : Exit → Act → World → Prop, (∀ a w R' σ', K R' σ' → RelZ P B F0 w0 n R' σ' a w → Q .normal a w) → wpList P all Q l a w
variable {K : List LR → St → Prop} {p : Pins}
theorem AZOps.nil (h : K R σ) : AZOps P B F0 w0 n all [] K p R σ := fun a w hR _ Q hQ => hQ a w R σ h hR
theorem AZOps.cut (k : Nat) (hp : pinsB p (l.take k) = true) (h : ∀ B1 F1 w1, AOps P B1 F1 w1 n all (l.take k) (fun σ' => σ'.noTag = true ∧ AZOps P B F0 w0 n all (l.drop k) K p R σ') σ) : AZOps P B F0 w0 n all l K p R σ := by
  intro a w hR hpin Q hQ
  obtain ⟨B1, F1, w1, hR1, hback⟩ := hR.sub
  rw [← List.take_append_drop k l]
  refine wpList_append (l.drop k) (l.take k) a w ?_
  have h1 := h B1 F1 w1 a w hR1 (fun e a' w' => e = .normal ∧ ∃ σ', σ'.noTag = true ∧ AZOps P B F0 w0 n all (l.drop k) K p R σ' ∧ RelZ P B F0 w0 n R σ' a' w') (fun a' w' σ' ⟨h1, h2⟩ hR' => ⟨rfl, σ', h1, h2, hback σ' a' w' h1 hR'⟩)
  refine wpList_mono (fun e a' w' ⟨⟨he, σ', _, h2, h3⟩, h4⟩ => ?_) (wpList_pins hpin (pinsB_ok hp) h1)
  subst he
  exact h2 a' w' h3 (h4 rfl) Q hQ
theorem AZOps.adopt (t i : Nat) {V : Value} {av : AV} (hi : R[i]? = some (V, av)) (ht : σ.get t = some (.d (.v V))) (hrow : av.row.isSome = true) (h : AZOps P B F0 w0 n all l K ((t, V) :: p) (R.set i (V, .junk)) ((t, av) :: σ.kill t)) : AZOps P B F0 w0 n all l K p R σ := by
  intro a w hR hpin Q hQ
  refine h a w (hR.adopt hi hrow ht) (fun e he => ?_) Q hQ
  rcases List.mem_cons.1 he with rfl | he
  · obtain ⟨O, _, hO, _⟩ := hR.own
    obtain ⟨v, hv, hr⟩ := hO t _ ht
    rw [hv, (Rd.v_eq hr).1]
  · exact hpin e he
theorem AZOps.back (t i : Nat) {V V' : Value} {av av' : AV} (ht : σ.get t = some av) (hrow : av.row.isSome = true) (htag : av.tag = false) (hp : (t, V) ∈ p) (hi : R[i]? = some (V', av')) (h : AZOps P B F0 w0 n all l K p (R.set i (V, av)) ((t, .d (.v V)) :: σ.kill t)) : AZOps P B F0 w0 n all l K p R σ := by
  intro a w hR hpin Q hQ
  exact h a w (hR.loosen ht hrow htag (hpin _ hp) (List.getElem?_set_self (List.getElem?_eq_some_iff.1 hi).1) (fun j r hj hr => set_other hj hr)) hpin Q hQ
theorem AZOps.loosen (t : Nat) {av : AV} (ht : σ.get t = some av) (hrow : av.row.isSome = true) (htag : av.tag = false) (h : ∀ V : Value, AZOps P B F0 w0 n all l K p (R ++ [(V, av)]) ((t, .d (.v V)) :: σ.kill t)) : AZOps P B F0 w0 n all l K p R σ := by
  intro a w hR hpin Q hQ
  obtain ⟨O, _, hO, _⟩ := hR.own
  obtain ⟨V, hV, _⟩ := hO t _ ht
  refine h V a w (hR.loosen (i := R.length) ht hrow htag hV (by simp) (fun j r hj hr => ?_)) hpin Q hQ
  rcases Nat.lt_or_ge j R.length with hlt | hge
  · rw [List.getElem?_append_left hlt] at hr; exact hr
  · rw [List.getElem?_append_right hge] at hr
    have : j - R.length ≠ 0 := by omega
    cases hj' : j - R.length with
    | zero => omega
    | succ m => rw [hj'] at hr; simp at hr
theorem AZOps.keep (ks : List Nat) (h : AZOps P B F0 w0 n all l K p R (σ.keep ks)) : AZOps P B F0 w0 n all l K p R σ := fun a w hR => h a w (hR.keep ks)
theorem AZOps.conv (h : σ = σ') (hk : AZOps P B F0 w0 n all l K p R σ') : AZOps P B F0 w0 n all l K p R σ := h ▸ hk
theorem AZOps.convR (h : R = R') (hk : AZOps P B F0 w0 n all l K p R' σ) : AZOps P B F0 w0 n all l K p R σ := h ▸ hk
def AZ (P : Program) (B : Nat) (F0 : Nat → Prop) (w0 : Bas) (n : Nat) (c : Code) (Q : Exit → List LR → St → Prop) (R : List LR) (σ : St) : Prop :=
  ∀ (a : Act) (w : World), RelZ P B F0 w0 n R σ a w → c.wp P (fun e a' w' => ∃ R' σ', Q e R' σ' ∧ RelZ P B F0 w0 n R' σ' a' w') a w
variable {Q : Exit → List LR → St → Prop} {x y : Code}
def thenZ (K : List LR → St → Prop) (Q : Exit → List LR → St → Prop) : Exit → List LR → St → Prop
  | .normal, R, σ => K R σ
  | .exit i, R, σ => Q (.exit i) R σ
  | .goto i, R, σ => Q (.goto i) R σ
  | .ret, R, σ => Q .ret R σ
  | .panic c, R, σ => Q (.panic c) R σ
  | .outgrown, R, σ => Q .outgrown R σ
def blockZ (id : Nat) (Q : Exit → List LR → St → Prop) : Exit → List LR → St → Prop
  | .normal, R, σ => Q .normal R σ
  | .exit i, R, σ => match Nat.beq i id with
    | true => Q .normal R σ
    | false => Q (.exit i) R σ
  | .goto i, R, σ => Q (.goto i) R σ
  | .ret, R, σ => Q .ret R σ
  | .panic c, R, σ => Q (.panic c) R σ
  | .outgrown, R, σ => Q .outgrown R σ
theorem AZ.skip (h : Q .normal R σ) : AZ P B F0 w0 n .skip Q R σ := fun a w hR => wp_skip ⟨R, σ, h, hR⟩
theorem AZ.exit {id : Nat} (h : Q (.exit id) R σ) : AZ P B F0 w0 n (.exit id) Q R σ := fun a w hR => wp_exit ⟨R, σ, h, hR⟩
theorem AZ.ret (h : Q .ret R σ) : AZ P B F0 w0 n .ret Q R σ := fun a w hR => wp_ret ⟨R, σ, h, hR⟩
theorem AZ.seq (h : AZ P B F0 w0 n x (thenZ (AZ P B F0 w0 n y Q) Q) R σ) : AZ P B F0 w0 n (.seq x y) Q R σ := by
  intro a w hR
  refine wp_seq (wp_mono (h a w hR) fun e a' w' ⟨R', σ', hq, hR'⟩ => ?_)
  cases e <;> first | exact hq a' w' hR' | exact ⟨R', σ', hq, hR'⟩
theorem AZ.block {id : Nat} (h : AZ P B F0 w0 n x (blockZ id Q) R σ) : AZ P B F0 w0 n (.block id x) Q R σ := by
  intro a w hR
  refine wp_block (wp_mono (h a w hR) fun e a' w' ⟨R', σ', hq, hR'⟩ => ?_)
  cases e with
  | exit i =>
    simp only [blockZ] at hq
    simp only [Exit.inBlock]
    split at hq
    · rename_i hb
      rw [if_pos (Nat.eq_of_beq_eq_true hb)]
      exact ⟨R', σ', hq, hR'⟩
    · rename_i hb
      rw [if_neg (Nat.ne_of_beq_eq_false hb)]
      exact ⟨R', σ', hq, hR'⟩
  | _ => exact ⟨R', σ', hq, hR'⟩
theorem AZ.cond {c : Operand} {b : Bool} (hc : boolAt σ c = some b) (h1 : b = true → AZ P B F0 w0 n x Q R σ) (h2 : b = false → AZ P B F0 w0 n y Q R σ) : AZ P B F0 w0 n (.cond c x y) Q R σ := by
  intro a w hR
  have he : a.eval c = .bool b := by
    unfold boolAt at hc
    split at hc <;> try (cases hc; done)
    · split at hc <;> simp at hc
      rename_i hg
      subst hc
      obtain ⟨O, hOr, hO, _⟩ := hR.own
      obtain ⟨v, hv, hr⟩ := hO _ _ hg
      have := (Rd.v_eq hr).1
      subst this
      exact eval_tmp hv
    · simp at hc; subst hc; rfl
  refine wp_cond he ?_
  cases b with
  | true => exact h1 rfl a w hR
  | false => exact h2 rfl a w hR
theorem AZ.condT {c : Operand} (hc : boolAt σ c = some true) (h1 : AZ P B F0 w0 n x Q R σ) : AZ P B F0 w0 n (.cond c x y) Q R σ := AZ.cond hc (fun _ => h1) (fun h => by cases h)
theorem AZ.condF {c : Operand} (hc : boolAt σ c = some false) (h1 : AZ P B F0 w0 n y Q R σ) : AZ P B F0 w0 n (.cond c x y) Q R σ := AZ.cond hc (fun h => by cases h) (fun _ => h1)
theorem AZ.region {id : Nat} {ops : Array Oper} (h : AZOps P B F0 w0 n ops ops.toList (Q .normal) [] R σ) : AZ P B F0 w0 n (.region id ops false) Q R σ :=
  fun a w hR => wp_region_list (h a w hR (fun e he => by cases he) _ fun a' w' R' σ' hk hR' => ⟨R', σ', hk, hR'⟩)
theorem AZ.frame (h : ∀ B1 F1 w1, AW P B1 F1 w1 n x (fun e σ' => σ'.noTag = true ∧ Q e R σ') σ) : AZ P B F0 w0 n x Q R σ := by
  intro a w hR
  obtain ⟨B1, F1, w1, hR1, hback⟩ := hR.sub
  exact wp_mono (h B1 F1 w1 a w hR1) fun e a' w' ⟨σ', ⟨h1, h2⟩, hR'⟩ => ⟨R, σ', h2, hback σ' a' w' h1 hR'⟩
theorem AZ.keep (ks : List Nat) (h : AZ P B F0 w0 n x Q R (σ.keep ks)) : AZ P B F0 w0 n x Q R σ := fun a w hR => h a w (hR.keep ks)
theorem AZ.conv (h : σ = σ') (hk : AZ P B F0 w0 n x Q R σ') : AZ P B F0 w0 n x Q R σ := h ▸ hk
theorem AZ.convR (h : R = R') (hk : AZ P B F0 w0 n x Q R' σ) : AZ P B F0 w0 n x Q R σ := h ▸ hk
theorem AZ.mono {Q' : Exit → List LR → St → Prop} (h : AZ P B F0 w0 n x Q R σ) (hq : ∀ e R σ, Q e R σ → Q' e R σ) : AZ P B F0 w0 n x Q' R σ := fun a w hR => wp_mono (h a w hR) fun e a' w' ⟨R', σ', h1, h2⟩ => ⟨R', σ', hq _ _ _ h1, h2⟩
theorem AZ.loosen (t : Nat) {av : AV} (ht : σ.get t = some av) (hrow : av.row.isSome = true) (htag : av.tag = false) (h : ∀ V : Value, AZ P B F0 w0 n x Q (R ++ [(V, av)]) ((t, .d (.v V)) :: σ.kill t)) : AZ P B F0 w0 n x Q R σ := by
  intro a w hR
  obtain ⟨O, _, hO, _⟩ := hR.own
  obtain ⟨V, hV, _⟩ := hO t _ ht
  refine h V a w (hR.loosen (i := R.length) ht hrow htag hV (by simp) (fun j r hj hr => ?_))
  rcases Nat.lt_or_ge j R.length with hlt | hge
  · rw [List.getElem?_append_left hlt] at hr; exact hr
  · rw [List.getElem?_append_right hge] at hr
    have : j - R.length ≠ 0 := by omega
    cases hj' : j - R.length with
    | zero => omega
    | succ m => rw [hj'] at hr; simp at hr
theorem AZ.adopt (t i : Nat) {V : Value} {av : AV} (hi : R[i]? = some (V, av)) (ht : σ.get t = some (.d (.v V))) (hrow : av.row.isSome = true) (h : AZ P B F0 w0 n x Q (R.set i (V, .junk)) ((t, av) :: σ.kill t)) : AZ P B F0 w0 n x Q R σ :=
  fun a w hR => h a w (hR.adopt hi hrow ht)
theorem AZ.loopS {S : Type} (ks : List Nat) (mk : S → List LR × St) (I : S → Prop) (μ : S → Nat) (s0 : S) (h0 : (R, σ.keep ks) = mk s0) (hI : I s0)
    (hb : ∀ s, I s → AZ P B F0 w0 n x (thenZ (fun R' σ' => ∃ s', (R', σ'.keep ks) = mk s' ∧ I s' ∧ μ s' < μ s) Q) (mk s).1 (mk s).2) : AZ P B F0 w0 n (.loop x) Q R σ := by
  intro a w hR
  let G : Act → World → S → Prop := fun a w s => I s ∧ RelZ P B F0 w0 n (mk s).1 (mk s).2 a w
  have hex : ∀ a w, (∃ s, G a w s) → ∃ m, (∃ s, μ s = m ∧ G a w s) ∧ ∀ s, G a w s → m ≤ μ s := fun a w ⟨s, h1⟩ => by
    let q : Nat → Prop := fun m => ∃ s, μ s = m ∧ G a w s
    have key : ∀ k m, m ≤ k → q m → ∃ m0, q m0 ∧ ∀ m', q m' → m0 ≤ m' := by
      intro k
      induction k with
      | zero => intro m hm hp; exact ⟨m, hp, fun m' _ => by omega⟩
      | succ k ih =>
        intro m hm hp
        by_cases hlt : ∃ m', m' ≤ k ∧ q m'
        · obtain ⟨m', h1, h2⟩ := hlt; exact ih m' h1 h2
        · exact ⟨m, hp, fun m' hp' => by
            rcases Nat.lt_or_ge k m' with h | h
            · omega
            · exact absurd ⟨m', h, hp'⟩ hlt⟩
    obtain ⟨m0, h3, h4⟩ := key (μ s) (μ s) (Nat.le_refl _) ⟨s, rfl, h1⟩
    exact ⟨m0, h3, fun s' g => h4 _ ⟨s', rfl, g⟩⟩
  let M : Act → World → Nat := fun a w => open Classical in if h : ∃ s, G a w s then Classical.choose (hex a w h) else 0
  have hM : ∀ a w, (∃ s, G a w s) → (∃ s, μ s = M a w ∧ G a w s) ∧ ∀ s, G a w s → M a w ≤ μ s := fun a w h => by
    have := Classical.choose_spec (hex a w h)
    simp only [M, dif_pos h]
    exact this
  have hG0 : G a w s0 := ⟨hI, by rw [← h0]; exact hR.keep ks⟩
  refine wp_loop (fun a w => ∃ s, G a w s) M ⟨s0, hG0⟩ (fun a w hg => ?_)
  obtain ⟨⟨s1, hm, hI1, hR1⟩, _⟩ := hM a w hg
  refine wp_mono (hb s1 hI1 a w hR1) fun e a' w' ⟨R', σ', hq, hR'⟩ => ?_
  cases e with
  | normal =>
    obtain ⟨s', h1, h2, h3⟩ := hq
    have hg' : G a' w' s' := ⟨h2, by rw [← h1]; exact hR'.keep ks⟩
    refine ⟨⟨s', hg'⟩, ?_⟩
    have := (hM a' w' ⟨s', hg'⟩).2 s' hg'
    omega
  | _ => exact ⟨R', σ', hq, hR'⟩
def cutZ {S : Type} (ks : List Nat) (mk : S → List LR × St) (I : S → Prop) (Q : Exit → List LR → St → Prop) : Exit → List LR → St → Prop
  | .normal, R, σ => ∃ s, (R, σ.keep ks) = mk s ∧ I s
  | .exit i, R, σ => Q (.exit i) R σ
  | .goto i, R, σ => Q (.goto i) R σ
  | .ret, R, σ => Q .ret R σ
  | .panic c, R, σ => Q (.panic c) R σ
  | .outgrown, R, σ => Q .outgrown R σ
theorem AZ.cut {S : Type} (ks : List Nat) (mk : S → List LR × St) (I : S → Prop) (hx : AZ P B F0 w0 n x (cutZ ks mk I Q) R σ) (hy : ∀ s, I s → AZ P B F0 w0 n y Q (mk s).1 (mk s).2) : AZ P B F0 w0 n (.seq x y) Q R σ := by
  refine AZ.seq (AZ.mono hx fun e R' σ' hq => ?_)
  cases e with
  | normal =>
    obtain ⟨s, h1, h2⟩ := hq
    have h1' := Prod.mk.inj (h1.trans (Prod.eta (mk s)).symm)
    refine AZ.convR h1'.1 (AZ.keep ks (AZ.conv h1'.2 (hy s h2)))
  | _ => exact hq
end
end Lift
namespace Lift
open Go
open Go.RowKit (Below)
section
variable {P : Program} {T : Ty} {B : Nat} {F0 : Nat → Prop} {w0 : Bas} {n : Nat} {σ σ' : St} {R R' : List LR} {ops : Array Oper}
def earlyP (ops : Array Oper) (i : Nat) : Bool := match ops[i]? with
  | some oi => oi.guard.isNone && (oi.after.toList.all fun e => !Region.binds .any e) && noSel ops &&
      (List.range ops.size).all fun j => Nat.beq j i || match ops[j]? with
        | some oj => (oj.after.toList.any fun e => Region.binds .any e && Nat.beq e.on i) || oi.apart ops oj
        | none => true
  | none => false
theorem wpAny_earlyP {Q : Exit → Act → World → Prop} (i : Nat) (hB : earlyP ops i = true) (hpan : ∀ c a w, Q (.panic c) a w → False) (hout : LetsOut Q → False) {a : Act} {w : World} {oi : Oper} {v : Value} (hoi : ops[i]? = some oi)
    (hexec : ∀ w, (execOp a.eval oi).run P w = .ok (.value v) w) (hA : wpAny P .any (earlier i ops) Q ops.size (Array.replicate ops.size false) a w) : wpAny P .any ops Q ops.size (Array.replicate ops.size false) a w := by
  unfold earlyP at hB
  rw [hoi] at hB
  simp only [Bool.and_eq_true, List.all_eq_true] at hB
  obtain ⟨⟨⟨hg, haf⟩, hsel⟩, hall⟩ := hB
  have hil : i < ops.size := (Array.getElem?_eq_some_iff.1 hoi).1
  have hgn : oi.guard = none := by simpa using hg
  obtain ⟨s, hs⟩ : ∃ s, ops.size = s + 1 := ⟨ops.size - 1, by omega⟩
  have hi0 : (Array.replicate ops.size false).getD i true = false := getD_in (by simpa using hil) (getD_replicate_false _ _)
  have hri : ∀ ops' : Array Oper, ops'[i]? = some oi → i ∈ Region.ready .any ops' (Array.replicate ops.size false) := fun ops' h' => by
    rw [mem_ready]
    refine ⟨hi0, oi, h', fun e he hb => ?_⟩
    have := haf e (by simpa using he)
    rw [hb] at this
    cases this
  have hwant : Region.wanted oi (yielded ops a.tmps) = true := by simp [Region.wanted, hgn]
  rw [hs] at hA
  rw [hs]
  have hI := hri (earlier i ops) (by rw [earlier_get, hoi]; simp [addEdge_same])
  rw [hs] at hI
  have h1 := wpOp_earlier i i (hA.2 i hI)
  have h2 : wpAny P .any (earlier i ops) Q s ((Array.replicate (s + 1) false).setIfInBounds i true) (a.put oi.dst v) w := by
    unfold wpOp at h1
    simp only [hoi, hwant, if_true] at h1
    rcases h1 with h1 | ⟨_, h1⟩
    · unfold Oper.wp at h1
      rw [hexec] at h1
      exact h1
    · exact (hout h1).elim
  have h3 := wpAny_earlier s _ _ _ (by simp; omega) h2
  have hri2 := hri ops hoi
  rw [hs] at hri2
  refine wpAny_first (i := i) (oi := oi) (v := v) hoi (fun j o cs b hj he => ?_) (fun c a' w' hq => (hpan _ _ _ hq).elim) s _ a _ (fun j oj hj hji _ hne => ?_) hri2 (.inl ⟨hwant, fun w => hexec w⟩) h3
  · unfold noSel at hsel
    have := List.all_eq_true.1 hsel o (by simpa using Array.mem_of_getElem? hj)
    rw [he] at this
    cases this
  · have hjl : j < ops.size := (Array.getElem?_eq_some_iff.1 hj).1
    have := hall j (List.mem_range.2 hjl)
    rw [hj] at this
    simp only [Bool.or_eq_true] at this
    rcases this with h | h
    · exact absurd (Nat.eq_of_beq_eq_true h) hji
    · rcases h with h | h
      · exfalso
        obtain ⟨e, he, hb⟩ := List.any_eq_true.1 h
        simp only [Bool.and_eq_true] at hb
        exact hne e (by simpa using he) hb.1 (Nat.eq_of_beq_eq_true hb.2)
      · exact h
def fadB (T : Ty) (σ : St) : Op → Bool
  | .fieldAddr t (.tmp s) f => match T.get t, σ.get s with
    | some i, some (.bx _) => (fieldF i f).isSome
    | _, _ => false
  | _ => false
theorem fad_run (hT : TOk P T) {a : Act} {w : World} (hR : Rel P B F0 w0 n σ a w) {o : Oper} (h : fadB T σ o.op = true) : ∃ v, ∀ w', (execOp a.eval o).run P w' = .ok (.value v) w' := by
  obtain ⟨dst, op, ty, pos, after, guard⟩ := o
  simp only [] at h
  cases op <;> simp only [fadB] at h <;> try (cases h; done)
  rename_i t x f
  cases x <;> simp only [fadB] at h <;> try (cases h; done)
  rename_i s
  split at h <;> try (cases h; done)
  rename_i i ds hi hs
  obtain ⟨⟨off, size, g⟩, hf⟩ := Option.isSome_iff_exists.1 h
  obtain ⟨info, dd, z, hok⟩ := hT t i hi
  obtain ⟨fs, fl, j, dd', h1, h2, h3, h4, h5, h6, h7, h8⟩ := fieldF_run hok hf
  obtain ⟨O, hOr, hO⟩ := hR.own
  obtain ⟨v, hv, b, cs, e, rfl, _⟩ := hO s _ hs
  have he : a.eval (.tmp s) = .pointer (some ⟨b, 0, none⟩) := eval_tmp hv
  refine ⟨.pointer (some ⟨b, 0 + off, none⟩), fun w' => ?_⟩
  have hs : j.size ≠ 0 := by omega
  simp [execOp, Instr.fieldAt, run_underlying h1, h2, he, Instr.sureAddr, fieldPlace, Go.sizeOf, typeInfo, h4, hs, h3, Addr.add_lit]
def ZAny (P : Program) (B : Nat) (F0 : Nat → Prop) (w0 : Bas) (n : Nat) (ops : Array Oper) (Q : Exit → List LR → St → Prop) (R : List LR) (σ : St) : Prop :=
  ∀ (a : Act) (w : World), RelZ P B F0 w0 n R σ a w → wpAny P .any ops (fun e a' w' => ∃ R' σ', Q e R' σ' ∧ RelZ P B F0 w0 n R' σ' a' w') ops.size (Array.replicate ops.size false) a { w with drawn := w.drawn + 1 }
variable {Q : Exit → List LR → St → Prop}
theorem AZ.any {id : Nat} (hmx : P.follows .mixedOrders = true) (h : ZAny P B F0 w0 n ops Q R σ) : AZ P B F0 w0 n (.region id ops true) Q R σ := fun a w hR => wp_region_any hmx (h a w hR)
theorem ZAny.early (hT : TOk P T) (i : Nat) {oi : Oper} (hB : earlyP ops i = true) (hoi : ops[i]? = some oi) (hf : fadB T σ oi.op = true) (hpan : ∀ c R σ, Q (.panic c) R σ → False) (hout : ∀ R σ, Q .outgrown R σ → False) (h : ZAny P B F0 w0 n (earlier i ops) Q R σ) : ZAny P B F0 w0 n ops Q R σ := by
  intro a w hR
  obtain ⟨v, hv⟩ := fad_run hT hR.rel hf
  have hA := h a w hR
  rw [earlier_size] at hA
  refine wpAny_earlyP i hB (fun c a w hq => ?_) (fun hq => ?_) hoi hv hA
  · obtain ⟨R, σ, h, _⟩ := hq; exact hpan c R σ h
  · obtain ⟨a, w, R, σ, h, _⟩ := hq; exact hout R σ h
theorem ZAny.draw (m : Nat) (hB : drawB ops m = true)
    (h : ∀ B1 F1 w1, APre P B1 F1 w1 n ops (heads ops m) (σ.less (heads ops m)) (ops.toList.take m) (σ.less (heads ops m)) (fun τ => τ.noTag = true ∧ AZOps P B F0 w0 n ops (ops.toList.drop m) (Q .normal) [] R τ)) : ZAny P B F0 w0 n ops Q R σ := by
  intro a w hR
  obtain ⟨B1, F1, w1, hR1, hback⟩ := hR.sub
  exact AAny.drawG m hB (fun τ a' w' ⟨ht, hz⟩ hR' => hz a' w' (hback τ a' w' ht hR') (fun e he => by cases he) _ (fun a w R' σ' hk hr => ⟨R', σ', hk, hr⟩)) (h B1 F1 w1) a w hR1
end
end Lift
namespace Lift
open Go
open Go.RowKit (Below)
section
variable {P : Program} {T : Ty} {B : Nat} {F0 : Nat → Prop} {w0 : Bas} {n : Nat} {σ σ' : St} {R R' : List LR} {ops all : Array Oper} {l : List Oper} {x : Code} {a : Act} {w : World} {K : List LR → St → Prop} {p : Pins}
theorem AZ.aw {Q : Exit → St → Prop} (h : AZ P B F0 w0 n x (fun e _ σ' => Q e σ') [] σ) : AW P B F0 w0 n x Q σ := fun a w hR => wp_mono (h a w hR.z) fun e a' w' ⟨R', σ', h1, h2⟩ => ⟨σ', h1, h2.rel⟩
variable {Q : Exit → List LR → St → Prop}
theorem AZ.reg {id : Nat} (h : ∀ B1 F1 w1, AOps P B1 F1 w1 n ops ops.toList (fun σ' => σ'.noTag = true ∧ Q .normal R σ') σ) : AZ P B F0 w0 n (.region id ops false) Q R σ :=
  AZ.frame fun B1 F1 w1 => AW.region (h B1 F1 w1)
theorem RelZ.frzc {t i k e : Nat} {V : Value} {xs cs : List D} (hR : RelZ P B F0 w0 n R σ a w) (ht : σ.get t = some (.bx cs)) (hk : cs[k]? = some (.v V)) (hi : R[i]? = some (V, .ow e xs)) :
    RelZ P B F0 w0 n (R.set i (V, .junk)) ((t, .bx (cs.set k (.sl (P.cellsOf e) xs))) :: σ) a w := by
  obtain ⟨O, hOr, hO, hL⟩ := hR.own
  let O' : Nat → Option Nat := fun b => if O b = some (n + i) then none else O b
  have h1 : ∀ b t, O' b = some t → O b = some t := fun b t h => by
    simp only [O'] at h
    split at h
    · cases h
    · exact h
  have h2 : ∀ b t, t ≠ n + i → O b = some t → O' b = some t := fun b t ht h => by
    simp only [O', h]
    rw [if_neg (by simpa using ht)]
  have hF : ∀ c, Free O (FW B F0 w) c → Free O' (FW B F0 w) c := fun c hc => ⟨by simp only [O', hc.1]; simp, hc.2⟩
  have hlt : ∀ t av, σ.get t = some av → t < n := fun t av h => by
    obtain ⟨v, hv, _⟩ := hO t av h
    rw [← hR.size]
    exact (Array.getElem?_eq_some_iff.1 hv).1
  refine ⟨hR.below, hR.base, hR.f0, hR.defers, hR.size, O', fun b t hb => hOr b t (h1 b t hb), fun j av hav => ?_, fun j r hr => ?_⟩
  · have key : ∀ j, (∀ ds, St.get ((t, AV.bx (cs.set k (.sl (P.cellsOf e) xs))) :: σ) j = some (.bx ds) → ∃ ds', σ.get j = some (.bx ds')) ∧ (∀ x e' l, St.get ((t, AV.bx (cs.set k (.sl (P.cellsOf e) xs))) :: σ) j = some x → x.row = some (e', l) → ∃ y l', σ.get j = some y ∧ y.row = some (e', l') ∧ l'.length = l.length ∧ y.tag = x.tag) := fun j => by
      rw [St.get_cons]
      by_cases hj : t = j
      · subst hj
        refine ⟨fun ds _ => ⟨cs, ht⟩, fun x e' l hx hrow => ?_⟩
        rw [if_pos rfl] at hx
        cases hx
        simp [AV.row] at hrow
      · rw [if_neg hj]
        exact ⟨fun ds hds => ⟨ds, hds⟩, fun x e' l hx hrow => ⟨x, l, hx, hrow, rfl, rfl⟩⟩
    rw [St.get_cons] at hav
    split at hav
    · rename_i e'
      subst e'
      cases hav
      obtain ⟨v, hv, b, cells, eb, rfl, g1, g2, g3⟩ := hO t _ ht
      refine ⟨_, hv, b, cells, eb, rfl, h2 b t (by have := hlt t _ ht; omega) g1, g2, by simpa using g3.1, fun j d u hd hu => ?_⟩
      by_cases hj : j = k
      · subst hj
        rw [List.getElem?_set_self (List.getElem?_eq_some_iff.1 hk).1] at hd
        cases hd
        have := (Rd.v_eq (g3.2 j _ u hk hu).2).1
        subst this
        refine ⟨rfl, ?_⟩
        rcases hL i _ hi with h | ⟨_, _, h⟩
        · cases h
        · rcases h with ⟨base, h3, h4⟩ | ⟨b', cap, cs', h3, h4, h5, h6, h7, h8, h9, h10⟩
          · simp only at h3 h4
            subst h3; subst h4
            exact .nil (Nat.zero_le _)
          · simp only at h3
            subst h3
            refine Rd.sl_mk (off := 0) ⟨by simp only [O', h4]; simp, (hOr b' _ h4).fw hR.f0⟩ h5 h6 h7 h9 (fun m d hd => ?_)
            obtain ⟨f1, u, f2, f3⟩ := h10 m d hd
            exact ⟨f1, u, by simpa using f2, f3.mono hF (fun _ _ => rfl)⟩
      · rw [List.getElem?_set_ne (Ne.symm hj)] at hd
        exact ⟨(g3.2 j d u hd hu).1, (g3.2 j d u hd hu).2.mono hF (fun _ _ => rfl)⟩
    · obtain ⟨v, hv, hr⟩ := hO j av hav
      have hr' : AVR P w0.X w O' (FW B F0 w) σ.get (fun h => a.tmps[h]?) j av v := hr.move (fun c hc => ⟨hF c hc, rfl⟩) (fun _ c hc => ⟨h2 c j (by have := hlt j av hav; omega) hc, rfl⟩) (fun k _ x _ hk => ⟨hk, rfl⟩)
      exact ⟨v, hv, hr'.retag (fun j _ => key j)⟩
  · by_cases hj : j = i
    · subst hj
      rw [List.getElem?_set_self (List.getElem?_eq_some_iff.1 hi).1] at hr
      cases hr
      exact .inl rfl
    · have := set_other hj hr
      rcases hL j r this with h | ⟨g1, g2, g3⟩
      · exact .inl h
      · exact .inr ⟨g1, g2, g3.move (fun c hc => ⟨hF c hc, rfl⟩) (fun _ c hc => ⟨h2 c _ (by omega) hc, rfl⟩) (fun k _ x _ hk => by cases hk)⟩
theorem AZ.frzc (hT : TOk P T) (t k i : Nat) {V : Value} {e : Nat} {te : TI} {xs cs : List D} (ht : σ.get t = some (.bx cs)) (hk : cs[k]? = some (.v V)) (hi : R[i]? = some (V, .ow e xs)) (he : T.get e = some te)
    (h : AZ P B F0 w0 n x Q (R.set i (V, .junk)) ((t, .bx (cs.set k (.sl te.size xs))) :: σ)) : AZ P B F0 w0 n x Q R σ := by
  obtain ⟨info, d, z, hok⟩ := hT e te he
  intro a w hR
  have := hR.frzc ht hk hi
  rw [hok.cellsOf] at this
  exact h a w this
theorem AZOps.frzc (hT : TOk P T) (t k i : Nat) {V : Value} {e : Nat} {te : TI} {xs cs : List D} (ht : σ.get t = some (.bx cs)) (hk : cs[k]? = some (.v V)) (hi : R[i]? = some (V, .ow e xs)) (he : T.get e = some te)
    (h : AZOps P B F0 w0 n all l K p (R.set i (V, .junk)) ((t, .bx (cs.set k (.sl te.size xs))) :: σ)) : AZOps P B F0 w0 n all l K p R σ := by
  obtain ⟨info, d, z, hok⟩ := hT e te he
  intro a w hR
  have := hR.frzc ht hk hi
  rw [hok.cellsOf] at this
  exact h a w this
end
end Lift
namespace Lift
open Go
open Go.RowKit (Below)
section
variable {P : Program} {T : Ty} {B : Nat} {F0 : Nat → Prop} {w0 : Bas} {n : Nat} {σ σ' : St} {R R' : List LR} {ops : Array Oper}
variable {Q : Exit → Act → World → Prop}
variable {Q : Exit → List LR → St → Prop}
theorem AZOps.to {all : Array Oper} {l : List Oper} {K : List LR → St → Prop} {p : Pins} (ks : List Nat) (τ : St) (h : σ.keep ks = τ) (hk : AZOps P B F0 w0 n all l K p R τ) : AZOps P B F0 w0 n all l K p R σ := AZOps.keep ks (h ▸ hk)
theorem AZ.to {c : Code} (ks : List Nat) (τ : St) (h : σ.keep ks = τ) (hk : AZ P B F0 w0 n c Q R τ) : AZ P B F0 w0 n c Q R σ := AZ.keep ks (h ▸ hk)
end
end Lift
namespace Lift
open Go
open Go.RowKit (Below)
def Owned (O : Nat → Option Nat) (b : Nat) : Prop := ∃ t, O b = some t
def CallZ (P : Program) (f : FuncId) (args : List D) (R : List LR) (Post : D → List LR → Prop) : Prop :=
  CallOk P f ∧ ∀ (w : World) (F : Nat → Prop) (O : Nat → Option Nat) (vs : List Value), (∀ b, F b → b < w.heap.size) → (∀ b t, O b = some t → F b) → vs.length = args.length →
    (∀ (i : Nat) (d : D) (v : Value), args[i]? = some d → vs[i]? = some v → Rd w (Free O F) d v) → (∀ (i : Nat) (r : LR), R[i]? = some r → LooseAt P w O F i r) →
    Calls P f vs.toArray w (fun ee w' => ∃ v res R' O', ee = .returned v ∧ Post res R' ∧ BelY w.heap.size ⟨w, Owned O⟩ w w' ∧ (∀ b t, O' b = some t → OwnR w.heap.size ⟨w, Owned O⟩ w' b) ∧ Rd w' (Free O' (FW w.heap.size F w')) res v ∧
      ∀ (i : Nat) (r : LR), R'[i]? = some r → LooseAt P w' O' (FW w.heap.size F w') i r)
section
variable {P : Program} {T : Ty} {B : Nat} {F0 : Nat → Prop} {w0 : Bas} {n : Nat} {σ σ' : St} {R R' : List LR} {all : Array Oper} {l rest : List Oper} {o : Oper} {d : Nat} {K : List LR → St → Prop} {p : Pins}
def resOneZ (T : Ty) (σ : St) : ResultVar → Option D
  | .tmp t => datF T (ex T σ.get 0 (.tmp t))
  | .cell c t => match T.get t, σ.get c with
    | some i, some (.bx ds) => match loadD i ds with
      | some (.d x) => some x
      | _ => none
    | _, _ => none
def resAllZ (T : Ty) (σ : St) : List ResultVar → Option (List D)
  | [] => some []
  | r :: rs => match resOneZ T σ r, resAllZ T σ rs with
    | some d, some ds => some (d :: ds)
    | _, _ => none
def resZ (T : Ty) (σ : St) (rs : List ResultVar) : Option D := match resAllZ T σ rs with
  | some [d] => some d
  | some [] => some (.tu [])
  | some (d :: e :: r) => some (.tu (d :: e :: r))
  | none => none
def retZ (T : Ty) (rs : List ResultVar) (Post : D → List LR → Prop) : Exit → List LR → St → Prop
  | .normal, R, σ => ∃ res, resZ T σ rs = some res ∧ Post res R
  | .ret, R, σ => ∃ res, resZ T σ rs = some res ∧ Post res R
  | .exit _, _, _ => False
  | .goto _, _, _ => False
  | .panic _, _, _ => False
  | .outgrown, _, _ => False
theorem resOneZ_sound (hT : TOk P T) {a : Act} {w : World} {O : Nat → Option Nat} (hR : Rel P B F0 w0 n σ a w) (hOr : ∀ b t, O b = some t → OwnR B w0 w b)
    (hO : ∀ t av, σ.get t = some av → ∃ v, a.tmps[t]? = some v ∧ AVR P w0.X w O (FW B F0 w) σ.get (fun h => a.tmps[h]?) t av v) {r : ResultVar} {d : D} (h : resOneZ T σ r = some d) :
    ∃ v, (resGet a.tmps r).run P w = .ok v w ∧ Rd w (Free O (FW B F0 w)) d v := by
  have hI : Inv P B F0 w0 (fun _ => True) σ.get σ.get a w O := ⟨hR.below, hR.base, hR.f0, hOr, fun t _ av h => hO t av h, fun t av h _ => hO t av h⟩
  cases r with
  | tmp t =>
    simp only [resOneZ] at h
    exact ⟨_, rfl, datF_ex hT hI (fun _ _ => trivial) h⟩
  | cell c t =>
    simp only [resOneZ] at h
    split at h <;> try (cases h; done)
    rename_i i ds hi hc
    split at h <;> simp at h
    rename_i y hy
    subst h
    obtain ⟨info, dd, z, hok⟩ := hT t i hi
    obtain ⟨u, hu, b, cs, e, rfl, h2, h3, h4⟩ := hO c _ hc
    obtain ⟨x, v, hx, hrun, hrd⟩ := load_run (off := 0) hok h3 (fun j x hj => by obtain ⟨g1, g2⟩ := h4.get hj; exact ⟨g1, by simpa using g2⟩) hy
    simp at hx
    subst hx
    refine ⟨v, ?_, hrd⟩
    have hgd : a.tmps.getD c undef = .pointer (some ⟨b, 0, none⟩) := by simp [Array.getD_eq_getD_getElem?, hu]
    simp only [resGet, hgd, asAddr, Sem.run_bind, Sem.run_pure, Result.andThen_ok, hrun]
theorem resAllZ_sound (hT : TOk P T) {a : Act} {w : World} {O : Nat → Option Nat} (hR : Rel P B F0 w0 n σ a w) (hOr : ∀ b t, O b = some t → OwnR B w0 w b)
    (hO : ∀ t av, σ.get t = some av → ∃ v, a.tmps[t]? = some v ∧ AVR P w0.X w O (FW B F0 w) σ.get (fun h => a.tmps[h]?) t av v) : ∀ (rs : List ResultVar) (ds : List D), resAllZ T σ rs = some ds →
    ∃ vs : List Value, (rs.mapM (resGet a.tmps)).run P w = .ok vs w ∧ vs.length = ds.length ∧
      ∀ (i : Nat) (d : D) (v : Value), ds[i]? = some d → vs[i]? = some v → Rd w (Free O (FW B F0 w)) d v
  | [], ds, h => by simp [resAllZ] at h; subst h; exact ⟨[], by simp, rfl, fun i d v h => by simp at h⟩
  | r :: rs, ds, h => by
    simp only [resAllZ] at h
    split at h <;> simp at h
    rename_i d ds' h1 h2
    subst h
    obtain ⟨v, hv, hr⟩ := resOneZ_sound hT hR hOr hO h1
    obtain ⟨vs, hvs, hl, hall⟩ := resAllZ_sound hT hR hOr hO rs ds' h2
    refine ⟨v :: vs, ?_, by simp [hl], fun i d' u h3 h4 => ?_⟩
    · simp only [List.mapM_cons, Sem.run_bind, Result.andThen_ok, hvs, Sem.run_pure, hv]
    · cases i with
      | zero => simp at h3 h4; subst h3; subst h4; exact hr
      | succ i => exact hall i d' u (by simpa using h3) (by simpa using h4)
theorem resZ_sound (hT : TOk P T) {fn : Func} {rs : List ResultVar} (hrs : fn.results.toList = rs) {a : Act} {w : World} {O : Nat → Option Nat} (hR : Rel P B F0 w0 n σ a w) (hOr : ∀ b t, O b = some t → OwnR B w0 w b)
    (hO : ∀ t av, σ.get t = some av → ∃ v, a.tmps[t]? = some v ∧ AVR P w0.X w O (FW B F0 w) σ.get (fun h => a.tmps[h]?) t av v) {res : D} (hq : resZ T σ rs = some res) :
    ∃ v, (results fn a.tmps).run P w = .ok v w ∧ Rd w (Free O (FW B F0 w)) res v := by
  unfold resZ at hq
  split at hq <;> simp at hq
  · rename_i d hd
    subst hq
    obtain ⟨vs', hrun, hl', hall⟩ := resAllZ_sound hT hR hOr hO rs _ hd
    match vs', hl' with
    | [v], _ =>
      refine ⟨v, ?_, hall 0 d v rfl rfl⟩
      rw [results_eq]
      simp only [Sem.run_bind, Array.mapM_eq_mapM_toList, hrs, Sem.run_map, hrun, Result.andThen_ok, Sem.run_pure]
      rfl
  · rename_i hd
    subst hq
    obtain ⟨vs', hrun, hl', hall⟩ := resAllZ_sound hT hR hOr hO rs _ hd
    match vs', hl' with
    | [], _ =>
      refine ⟨.tuple #[], ?_, Rd.tu (vs := []) rfl (fun i d v h => by simp at h)⟩
      rw [results_eq]
      simp only [Sem.run_bind, Array.mapM_eq_mapM_toList, hrs, Sem.run_map, hrun, Result.andThen_ok, Sem.run_pure]
      rfl
  · rename_i d e r hd
    subst hq
    obtain ⟨vs', hrun, hl', hall⟩ := resAllZ_sound hT hR hOr hO rs _ hd
    refine ⟨.tuple vs'.toArray, ?_, Rd.tu hl' (fun i d v h1 h2 => hall i d v h1 h2)⟩
    rw [results_eq]
    simp only [Sem.run_bind, Array.mapM_eq_mapM_toList, hrs, Sem.run_map, hrun, Result.andThen_ok, Sem.run_pure]
    rw [dif_neg (by simp at hl' ⊢; omega)]
theorem LooseAt.owner {w : World} {O O' : Nat → Option Nat} {F F' : Nat → Prop} {s t : Nat} {r : LR} (h : LooseAt P w O F s r) (hO : ∀ c, O c = some s → O' c = some t) (hF : ∀ c, Free O F c → Free O' F' c) : LooseAt P w O' F' t r := by
  rcases h with h | ⟨h1, h2, h3⟩
  · exact .inl h
  · exact .inr ⟨h1, h2, h3.owner h1 h2 hO hF⟩
theorem CallZ.intro {f : FuncId} {fn : Func} {c : Code} {rs : List ResultVar} {args : List D} {Post : D → List LR → Prop} (hT : TOk P T) (hf : P.funcs[f]? = some fn) (hb : fn.body = some c) (hrs : fn.results.toList = rs) (hn : fn.ntmps = n) (hl : args.length ≤ n) (hnm : (fn.name == "runtime.NumGoroutine") = false)
    (h : ∀ (B : Nat) (F0 : Nat → Prop) (w0 : Bas), AZ P B F0 w0 n c (retZ T rs Post) R (initSt 0 args)) : CallZ P f args R Post := by
  refine ⟨⟨fn, hf, hnm, by simp [hb]⟩, fun w F O vs hF hOF hlen hr hL => ?_⟩
  let Oz : Nat → Option Nat := fun b => (O b).map (n + ·)
  have hOz : ∀ b t, Oz b = some t → ∃ s, O b = some s ∧ t = n + s := fun b t h => by
    simp only [Oz, Option.map_eq_some_iff] at h
    obtain ⟨s, h1, h2⟩ := h
    exact ⟨s, h1, h2.symm⟩
  have hfr : ∀ c, Free O F c → Free Oz (FW w.heap.size F w) c := fun c hc => ⟨by simp [Oz, hc.1], .inl hc.2⟩
  refine calls_of_wp hf hb (wp_mono (h w.heap.size F ⟨w, Owned O⟩ _ w ?_) ?_)
  · refine ⟨.refl _ _ _, Nat.le_refl _, ⟨hF, fun b ⟨t, hb⟩ => hOF b t hb⟩, rfl, ?_, Oz, (fun b t hb => ?_), (fun t av hav => ?_), fun i r hr => ?_⟩
    · simp [hn]; omega
    · obtain ⟨s, h1, _⟩ := hOz b t hb
      exact ⟨.inr ⟨s, h1⟩, hF b (hOF b s h1)⟩
    · rw [get_initSt] at hav
      simp only [Nat.zero_le, if_true, Nat.sub_zero, Option.map_eq_some_iff] at hav
      obtain ⟨d, hd, rfl⟩ := hav
      have hlt : t < vs.length := by rw [hlen]; exact (List.getElem?_eq_some_iff.1 hd).1
      refine ⟨vs[t], by simp [Array.getElem?_append, hlt], ?_⟩
      exact (hr t d _ hd (List.getElem?_eq_getElem hlt)).mono hfr (fun _ _ => rfl)
    · exact (hL i r hr).owner (fun c hc => by simp [Oz, hc]) hfr
  · rintro ee a w' ⟨R', σ', hq, hR⟩
    obtain ⟨O2, hOr2, hO2, hL2⟩ := hR.own
    let O3 : Nat → Option Nat := fun b => match O2 b with
      | some t => if n ≤ t then some (t - n) else none
      | none => none
    have h3n : ∀ c, O2 c = none → O3 c = none := fun c hc => by simp only [O3, hc]
    have h3 : ∀ c t, O3 c = some t → O2 c = some (n + t) := fun c t hc => by
      simp only [O3] at hc
      split at hc
      · rename_i s hs
        split at hc
        · cases hc; rw [hs]; congr 1; omega
        · cases hc
      · cases hc
    have key : (∃ res, resZ T σ' rs = some res ∧ Post res R') → a.defers = [] ∧ ∃ v, (results fn a.tmps).run P w' = .ok v w' ∧ ∃ v' res R' O', Ending.returned v = .returned v' ∧ Post res R' ∧ BelY w.heap.size ⟨w, Owned O⟩ w w' ∧ (∀ b t, O' b = some t → OwnR w.heap.size ⟨w, Owned O⟩ w' b) ∧ Rd w' (Free O' (FW w.heap.size F w')) res v' ∧
        ∀ (i : Nat) (r : LR), R'[i]? = some r → LooseAt P w' O' (FW w.heap.size F w') i r := fun ⟨res, hq, hP⟩ => by
      refine ⟨hR.defers, ?_⟩
      obtain ⟨v, hv, hrd⟩ := resZ_sound hT hrs hR.rel hOr2 hO2 hq
      refine ⟨v, hv, v, res, R', O3, rfl, hP, hR.below, fun b t hb => hOr2 b _ (h3 b t hb), hrd.mono (fun c hc => ⟨h3n c hc.1, hc.2⟩) (fun _ _ => rfl), fun i r hr => ?_⟩
      exact (hL2 i r hr).owner (fun c hc => by simp only [O3, hc]; rw [if_pos (by omega)]; congr 1; omega) (fun c hc => ⟨h3n c hc.1, hc.2⟩)
    cases ee with
    | normal => exact key hq
    | ret => exact key hq
    | exit _ => exact hq.elim
    | goto _ => exact hq.elim
    | panic _ => exact hq.elim
    | outgrown => exact hq.elim
end
end Lift
namespace Lift
open Go
open Go.RowKit (Below)
section
variable {P : Program} {T : Ty} {B : Nat} {F0 : Nat → Prop} {w0 : Bas} {n : Nat} {σ σ' : St} {R R' : List LR} {all : Array Oper} {l rest : List Oper} {o : Oper} {d : Nat} {K : List LR → St → Prop} {p : Pins}
def selR (R : List LR) : List Nat → Option (List LR)
  | [] => some []
  | i :: r => match R[i]?, selR R r with
    | some x, some xs => some (x :: xs)
    | _, _ => none
def updR (R : List LR) : List Nat → List LR → List LR
  | i :: is, r :: rs => updR (R.set i r) is rs
  | [], rs => R ++ rs
  | _ :: _, [] => R
theorem selR_get : ∀ {is : List Nat} {Rs : List LR}, selR R is = some Rs → Rs.length = is.length ∧ ∀ (k : Nat) (r : LR), Rs[k]? = some r → ∃ i : Nat, is[k]? = some i ∧ R[i]? = some r
  | [], Rs, h => by simp [selR] at h; subst h; exact ⟨rfl, fun k r h => by simp at h⟩
  | i :: is, Rs, h => by
    simp only [selR] at h
    split at h <;> simp at h
    rename_i x xs h1 h2
    subst h
    obtain ⟨g1, g2⟩ := selR_get h2
    refine ⟨by simp [g1], fun k r hk => ?_⟩
    cases k with
    | zero => simp at hk; subst hk; exact ⟨i, rfl, h1⟩
    | succ k => simpa using g2 k r (by simpa using hk)
theorem selR_lt : ∀ {is : List Nat} {Rs : List LR}, selR R is = some Rs → ∀ i, i ∈ is → i < R.length
  | [], Rs, h, i, hi => by cases hi
  | j :: is, Rs, h, i, hi => by
    simp only [selR] at h
    split at h <;> simp at h
    rename_i x xs h1 h2
    rcases List.mem_cons.1 hi with rfl | hi
    · exact (List.getElem?_eq_some_iff.1 h1).1
    · exact selR_lt h2 i hi
theorem updR_get : ∀ {is : List Nat} {R R1 : List LR} {j : Nat} {r : LR}, is.length ≤ R1.length → (∀ i, i ∈ is → i < R.length) → is.Nodup → (updR R is R1)[j]? = some r →
    (∃ k : Nat, is[k]? = some j ∧ R1[k]? = some r) ∨ (j ∉ is ∧ j < R.length ∧ R[j]? = some r) ∨ ∃ k : Nat, j = R.length + k ∧ R1[is.length + k]? = some r
  | [], R, R1, j, r, _, _, _, h => by
    have h : (R ++ R1)[j]? = some r := by cases R1 <;> simpa [updR] using h
    rcases Nat.lt_or_ge j R.length with hj | hj
    · rw [List.getElem?_append_left hj] at h
      exact .inr (.inl ⟨by simp, hj, h⟩)
    · rw [List.getElem?_append_right hj] at h
      exact .inr (.inr ⟨j - R.length, by omega, by simpa using h⟩)
  | i :: is, R, [], j, r, hl, _, _, h => by simp at hl
  | i :: is, R, x :: R1, j, r, hl, hlt, hnd, h => by
    simp only [updR] at h
    have hni := (List.nodup_cons.1 hnd).1
    have hil := hlt i (by simp)
    rcases updR_get (is := is) (R := R.set i x) (by simpa using hl) (fun k hk => by simpa using hlt k (by simp [hk])) (List.nodup_cons.1 hnd).2 h with ⟨k, g1, g2⟩ | ⟨g1, g2, g3⟩ | ⟨k, g1, g2⟩
    · exact .inl ⟨k + 1, by simpa using g1, by simpa using g2⟩
    · by_cases hj : j = i
      · subst hj
        rw [List.getElem?_set_self hil] at g3
        exact .inl ⟨0, rfl, by simpa using g3⟩
      · rw [List.getElem?_set_ne (Ne.symm hj)] at g3
        exact .inr (.inl ⟨by simp [hj, g1], by simpa using g2, g3⟩)
    · refine .inr (.inr ⟨k, by simpa using g1, ?_⟩)
      rw [show (i :: is).length + k = (is.length + k) + 1 by simp; omega]
      simpa using g2
theorem nodup_get {is : List Nat} (h : is.Nodup) : ∀ {j k x : Nat}, is[j]? = some x → is[k]? = some x → j = k := by
  intro j k x h1 h2
  obtain ⟨a1, b1⟩ := List.getElem?_eq_some_iff.1 h1
  obtain ⟨a2, b2⟩ := List.getElem?_eq_some_iff.1 h2
  rcases Nat.lt_trichotomy j k with g | g | g
  · exact absurd (b1.trans b2.symm) (List.pairwise_iff_getElem.1 h j k a1 a2 g)
  · exact g
  · exact absurd (b2.trans b1.symm) (List.pairwise_iff_getElem.1 h k j a2 a1 g)
set_option maxHeartbeats 800000 in
theorem AZOps.callz (hT : TOk P T) {f : FuncId} {ds : List D} (is : List Nat) {Rs : List LR} {Post : D → List LR → Prop} (hd : o.dst = some d) (hdn : Nat.ble (d + 1) n = true) (hg : o.guard = none) (hx : callF T σ.get o.op = some (f, ds)) (hsel : selR R is = some Rs) (hnd : is.Nodup) (hpin : pinsB p [o] = true)
    (hP : CallZ P f ds Rs Post) (hlen : ∀ res R1, Post res R1 → is.length ≤ R1.length) (h : ∀ res R1, Post res R1 → AZOps P B F0 w0 n all rest K p (updR R is R1) ((d, .d res) :: σ)) : AZOps P B F0 w0 n all (o :: rest) K p R σ := by
  intro a w hR hpins Q hQ
  unfold wpList
  rw [if_pos (by simp [Region.wanted, hg])]
  refine .inl ?_
  obtain ⟨O, hOr, hO, hL⟩ := hR.own
  obtain ⟨dst, op, ty, pos, after, guard⟩ := o
  simp only [] at hd hx hg
  have hdo : ∀ v : Value, a.put dst v = a.put (some d) v := fun v => by rw [hd]
  have hpin' := pinsB_ok hpin
  cases op <;> simp only [callF] at hx <;> try (cases hx; done)
  rename_i c
  obtain ⟨callee, args, ats⟩ := c
  simp only [] at hx
  split at hx <;> try (cases hx; done)
  rename_i g
  split at hx <;> simp at hx
  rename_i ds' hds
  obtain ⟨rfl, rfl⟩ := hx
  have hI : Inv P B F0 w0 (fun _ => True) σ.get σ.get a w O := ⟨hR.below, hR.base, hR.f0, hOr, fun t _ av h => hO t av h, fun t av h _ => hO t av h⟩
  have hr := argsF_run hT hI args.toList ats.toList ds' (fun x hx t ht => trivial) hds
  unfold Oper.wp
  rw [exec_call hP.1]
  show Calls P g (args.map a.eval) w _
  let pass : Nat → Prop := fun t => ∃ i, i ∈ is ∧ t = n + i
  let Oc : Nat → Option Nat := fun b => match O b with
    | some t => if n ≤ t then is.idxOf? (t - n) else none
    | none => none
  let Fc : Nat → Prop := fun b => FW B F0 w b ∧ ∀ t, O b = some t → pass t
  have hlt := selR_lt hsel
  obtain ⟨hsl, hsg⟩ := selR_get hsel
  have hOc : ∀ b k, Oc b = some k → ∃ i, is[k]? = some i ∧ O b = some (n + i) := fun b k h => by
    simp only [Oc] at h
    split at h
    · rename_i t ht
      split at h
      · rename_i hnt
        rw [List.idxOf?, List.findIdx?_eq_some_iff_getElem] at h
        obtain ⟨h1, h2, _⟩ := h
        refine ⟨is[k], List.getElem?_eq_getElem h1, ?_⟩
        have : is[k] = t - n := by simpa using h2
        rw [this, ht]; congr 1; omega
      · cases h
    · cases h
  have hOc' : ∀ b k i, is[k]? = some i → O b = some (n + i) → Oc b = some k := fun b k i hk hb => by
    simp only [Oc, hb]
    rw [if_pos (by omega), show n + i - n = i by omega, List.idxOf?, List.findIdx?_eq_some_iff_getElem]
    obtain ⟨h1, h2⟩ := List.getElem?_eq_some_iff.1 hk
    refine ⟨h1, by simp [h2], fun j hj => ?_⟩
    intro hc
    have hc : is[j] = i := by simpa using hc
    have := nodup_get hnd (List.getElem?_eq_getElem (by omega : j < is.length)) (by rw [hk, hc] : is[k]? = some is[j])
    omega
  have hOcn : ∀ b, (∀ t, O b = some t → ¬ pass t) → Oc b = none := fun b hb => by
    cases h : Oc b with
    | none => rfl
    | some k =>
      obtain ⟨i, h1, h2⟩ := hOc b k h
      exact (hb _ h2 ⟨i, List.mem_of_getElem? h1, rfl⟩).elim
  have hOwn : ∀ b, Owned Oc b ↔ ∃ t, O b = some t ∧ pass t := fun b => by
    constructor
    · intro ⟨k, hk⟩
      obtain ⟨i, h1, h2⟩ := hOc b k hk
      exact ⟨_, h2, i, List.mem_of_getElem? h1, rfl⟩
    · intro ⟨t, ht, i, hi, hti⟩
      obtain ⟨k, hk, rfl⟩ := List.getElem_of_mem hi
      subst hti
      exact ⟨k, hOc' b k _ (List.getElem?_eq_getElem hk) ht⟩
  have hFlt : ∀ b, FW B F0 w b → b < w.heap.size := fun b hb => (FW.step hR.f0 hR.base (Nat.le_refl _) b hb).1
  have hfr : ∀ c, Free O (FW B F0 w) c → Free Oc Fc c := fun c hc => ⟨hOcn c (fun t ht => by rw [hc.1] at ht; cases ht), hc.2, fun t ht => by rw [hc.1] at ht; cases ht⟩
  have hc := hP.2 w Fc Oc (args.toList.map a.eval) (fun b hb => hFlt b hb.1) (fun b k hb => by
      obtain ⟨i, h1, h2⟩ := hOc b k hb
      exact ⟨(hOr b _ h2).fw hR.f0, fun t ht => by rw [h2] at ht; cases ht; exact ⟨i, List.mem_of_getElem? h1, rfl⟩⟩) hr.1 (fun i d v h1 h2 => (hr.2 i d v h1 h2).mono hfr (fun _ _ => rfl))
    (fun k r hk => by
      obtain ⟨i, h1, h2⟩ := hsg k r hk
      exact (hL i r h2).owner (fun c hc => hOc' c k i h1 hc) hfr)
  have he : (args.toList.map a.eval).toArray = args.map a.eval := by apply Array.ext'; simp
  rw [he] at hc
  refine hc.mono fun ee w' ⟨v, res, R1, O1, he, hPost, hbel, hOr1, hrd, hL1⟩ => ?_
  subst he
  show wpList P all Q rest (a.put dst v) w'
  have hsz : w.heap.size ≤ w'.heap.size := hbel.size
  have hlen1 := hlen res R1 hPost
  let tg : Nat → Nat := fun k => match is[k]? with
    | some i => i
    | none => R.length + (k - is.length)
  let cv : Option Nat → Option Nat := fun x => x.map (fun k => n + tg k)
  let O3 : Nat → Option Nat := fun b => match O b with
    | some t => if t < n ∨ t - n ∉ is then some t else cv (O1 b)
    | none => cv (O1 b)
  have hO1 : ∀ b k, O1 b = some k → O3 b = cv (O1 b) := fun b k hk => by
    simp only [O3]
    split
    · rename_i t ht
      rw [if_neg]
      intro hcon
      rcases (hOr1 b k hk).1 with g1 | g1
      · have g1 : w.heap.size ≤ b := g1
        have := (hOr b t ht).2
        omega
      · obtain ⟨t', h1, i, h2, h3⟩ := (hOwn b).1 g1
        rw [ht] at h1; cases h1
        subst h3
        rcases hcon with h | h
        · omega
        · exact h (by rwa [show n + i - n = i by omega])
    · rfl
  have h3n : ∀ c, (O c = none ∨ ∃ t, O c = some t ∧ pass t) → O1 c = none → O3 c = none := fun c hc h1 => by
    simp only [O3]
    split
    · rename_i t ht
      rcases hc with hc | ⟨t', h2, i, h3, h4⟩
      · rw [hc] at ht; cases ht
      · rw [ht] at h2; cases h2
        subst h4
        rw [if_neg (fun h => ?_), h1]; rfl
        rcases h with h | h
        · omega
        · exact h (by rwa [show n + i - n = i by omega])
    · rw [h1]; rfl
  have hfree0 : ∀ c, Free O (FW B F0 w) c → Free O3 (FW B F0 w') c ∧ w'.heap[c]? = w.heap[c]? := fun c hc => by
    have hcl := hFlt c hc.2
    have hnx : ¬ Owned Oc c := fun h => by
      obtain ⟨t, h1, _⟩ := (hOwn c).1 h
      rw [hc.1] at h1; cases h1
    refine ⟨⟨h3n c (.inl hc.1) ?_, ?_⟩, hbel.block c hcl hnx⟩
    · cases h : O1 c with
      | none => rfl
      | some k =>
        exfalso
        rcases (hOr1 c k h).1 with g1 | g1
        · have g1 : w.heap.size ≤ c := g1
          omega
        · exact hnx g1
    · rcases hc.2 with g | ⟨g1, g2⟩
      · exact .inl g
      · exact .inr ⟨g1, Nat.lt_of_lt_of_le g2 hsz⟩
  have hkeep : ∀ t, ¬ pass t → ∀ c, O c = some t → O3 c = some t ∧ w'.heap[c]? = w.heap[c]? := fun t ht c hc => by
    have hnx : ¬ Owned Oc c := fun h => by
      obtain ⟨t', h1, h2⟩ := (hOwn c).1 h
      rw [hc] at h1; cases h1
      exact ht h2
    refine ⟨?_, hbel.block c (hOr c t hc).2 hnx⟩
    simp only [O3, hc]
    rw [if_pos]
    rcases Nat.lt_or_ge t n with h | h
    · exact .inl h
    · exact .inr (fun hm => ht ⟨t - n, hm, by omega⟩)
  have hfree1 : ∀ c, Free O1 (FW w.heap.size Fc w') c → Free O3 (FW B F0 w') c := fun c hc => by
    rcases hc.2 with g | ⟨g1, g2⟩
    · refine ⟨h3n c ?_ hc.1, ?_⟩
      · cases h : O c with
        | none => exact .inl rfl
        | some t => exact .inr ⟨t, rfl, g.2 t h⟩
      · rcases g.1 with g | ⟨g1, g2⟩
        · exact .inl g
        · exact .inr ⟨g1, Nat.lt_of_lt_of_le g2 hsz⟩
    · refine ⟨h3n c (.inl ?_) hc.1, .inr ⟨Nat.le_trans hR.base g1, g2⟩⟩
      cases h : O c with
      | none => rfl
      | some t => have := (hOr c t h).2; omega
  have hdn' : d < n := Nat.le_of_ble_eq_true hdn
  have hX : ∀ b, Owned Oc b → B ≤ b ∨ w0.X b := fun b hb => by
    obtain ⟨t, h1, _⟩ := (hOwn b).1 hb
    exact (hOr b t h1).1
  rw [hdo v]
  refine h res R1 hPost (a.put (some d) v) w' ⟨hR.below.back (w1 := ⟨w, Owned Oc⟩) hR.base hX hbel, Nat.le_trans hR.base hsz, hR.f0, by simp [Act.put, hR.defers], by simp [Act.put, hR.size], O3, fun b t hb => ?_, fun t av hav => ?_, fun j r hj => ?_⟩ (fun e he => ?_) Q hQ
  · have e2 : ∀ k, O1 b = some k → OwnR B w0 w' b := fun k hk => by
      refine ⟨?_, (hOr1 b k hk).2⟩
      rcases (hOr1 b k hk).1 with g | g
      · exact .inl (Nat.le_trans hR.base g)
      · exact hX b g
    have e3 : cv (O1 b) = some t → OwnR B w0 w' b := fun h => by
      cases h1 : O1 b with
      | none => rw [h1] at h; cases h
      | some k => exact e2 k h1
    simp only [O3] at hb
    split at hb
    · rename_i t' ht'
      split at hb
      · exact ⟨(hOr b t' ht').1, Nat.lt_of_lt_of_le (hOr b t' ht').2 hsz⟩
      · exact e3 hb
    · exact e3 hb
  · rw [St.get_cons] at hav
    split at hav
    · rename_i e
      subst e
      cases hav
      exact ⟨v, put_get_same (by rw [hR.size]; exact hdn'), hrd.mono hfree1 (fun _ _ => rfl)⟩
    · rename_i htd
      obtain ⟨u, hu, hur⟩ := hO t av hav
      have htn : t < n := by rw [← hR.size]; exact (Array.getElem?_eq_some_iff.1 hu).1
      refine ⟨u, by rw [put_get (Ne.symm htd)]; exact hu, ?_⟩
      refine hur.move hfree0 (fun _ c hc => hkeep t (fun ⟨i, _, hti⟩ => by omega) c hc) (fun k hk x hx hg => ?_)
      rw [St.get_cons] at hg
      split at hg
      · cases hg; cases hx
      · rename_i hkd
        exact ⟨hg, put_get (Ne.symm hkd)⟩
  · rcases updR_get hlen1 hlt hnd hj with ⟨k, g1, g2⟩ | ⟨g1, g2, g3⟩ | ⟨k, g1, g2⟩
    · exact (hL1 k r g2).owner (fun c hc => by rw [hO1 c k hc, hc]; simp only [cv, tg, g1, Option.map_some]) hfree1
    · rcases hL j r g3 with h | ⟨h1, h2, h3⟩
      · exact .inl h
      · exact .inr ⟨h1, h2, h3.move hfree0 (fun _ c hc => hkeep (n + j) (fun ⟨i, hi, hti⟩ => g1 (by rwa [show j = i by omega])) c hc) (fun k _ x _ hk => by cases hk)⟩
    · subst g1
      refine (hL1 _ r g2).owner (fun c hc => ?_) hfree1
      rw [hO1 c _ hc, hc]
      have : is[is.length + k]? = none := List.getElem?_eq_none (by omega)
      simp only [cv, tg, this, Option.map_some]
      congr 2; omega
  · have hne : e.1 ≠ d := fun h => hpin' e he _ (List.mem_singleton.2 rfl) (by simp only []; rw [h]; exact hd)
    rw [put_get hne]
    exact hpins e he
end
end Lift
namespace Lift
open Go
open Go.RowKit (Below)
section
variable {P : Program} {T : Ty} {B : Nat} {F0 : Nat → Prop} {w0 : Bas} {n : Nat} {σ σ' τ σ0 : St} {R R' : List LR} {ops all : Array Oper} {l rest : List Oper} {o : Oper} {d : Nat} {lk hm : Nat → Option AV} {K : List LR → St → Prop} {p : Pins} {ds : List Nat}
def ptrV (V : Value) (k : Nat) : Value := match V with
  | .slice (some ⟨b, o, x⟩) _ _ => .pointer (some ⟨b, o + k, x⟩)
  | _ => undef
theorem Seen.plain {V : Value} {e : Nat} {xs : List D} (h : Seen P B F0 w0 V e xs) (k : Nat) : ∃ b cap, V = .slice (some ⟨b, 0, none⟩) xs.length cap ∧ ptrV V k = .pointer (some ⟨b, k, none⟩) := by
  obtain ⟨b, cap, cs, rfl, _⟩ := h
  exact ⟨b, cap, rfl, by simp [ptrV]⟩
def loadS (T : Ty) (lk : Nat → Option AV) : Op → Option (TI × Value)
  | .load t x => match T.get t, datF T (ex T lk 0 x) with
    | some ti, some (.v V) => some (ti, V)
    | _, _ => none
  | _ => none
theorem PStep.loads (hT : TOk P T) {V : Value} {e i s : Nat} {xs : List D} {ti te : TI} {y : D} {av : AV} (hS : Seen P B F0 w0 V e xs) (hd : o.dst = some d) (hn : hm d = none) (h : loadS T lk o.op = some (ti, ptrV V (i * s))) (hte : T.get e = some te) (hs : te.size = s) (hy : xs[i]? = some y) (hav : loadD ti y.flat = some av) :
    PStep P B F0 w0 d o lk hm av := by
  refine ⟨hd, hn, fun a w O hI K Q hK => ?_⟩
  obtain ⟨dst, op, ty, pos, after, guard⟩ := o
  simp only [] at hd h hI
  cases op <;> simp only [loadS] at h <;> try (cases h; done)
  rename_i t x
  split at h <;> simp at h
  rename_i ti' V' hti hx
  obtain ⟨rfl, rfl⟩ := h
  obtain ⟨info, dd, z, hok⟩ := hT t ti' hti
  obtain ⟨info', dd', z', hok'⟩ := hT _ te hte
  have hxv := (datF_ex hT hI (fun t ht => by subst ht; simp [Op.operands]) hx).v_eq.1
  obtain ⟨b, cap, cs, hV, h1, h2, h3, h4, h5⟩ := hS
  have hp : ptrV V (i * s) = .pointer (some ⟨b, i * s, none⟩) := by rw [hV]; simp [ptrV]
  rw [hp] at hxv
  have hb : w.heap[b]? = some (.cells cs e (0, 0)) := by rw [hI.below.block b h1 h2]; exact h3
  have hsz : P.cellsOf e = s := by rw [hok'.cellsOf, hs]
  obtain ⟨x', v, rfl, hrun, hrd⟩ := load_run (F := Free O (FW B F0 w)) hok hb (off := i * s) (fun j z hj => by
    have hlt : j < P.cellsOf e := by rw [← h4 y (List.mem_of_getElem? hy)]; exact (List.getElem?_eq_some_iff.1 hj).1
    have := flatAll_get j h4 hy hlt
    rw [hj] at this
    obtain ⟨f1, u, f2, f3⟩ := h5 _ z this
    exact ⟨f1, u, by rw [← hsz]; exact f2, f3 w O hI.below hI.orange⟩) hav
  exact wp_val (v := v) (w' := w) (by simp [execOp, Instr.loadAt, Instr.sureAddr, hxv, hrun]) (hK _ w O (Grow.refl hI.lt) hrd)
theorem AOps.loads (hT : TOk P T) {K : St → Prop} {V : Value} {e i s : Nat} {xs : List D} {ti te : TI} {x : D} (y : D) (hS : Seen P B F0 w0 V e xs) (hd : o.dst = some d) (hdn : Nat.ble (d + 1) n = true) (hg : guardOk all σ o = true) (hx : loadS T σ.get o.op = some (ti, ptrV V (i * s))) (hte : T.get e = some te) (hs : te.size = s) (hy : xs[i]? = some y) (hav : loadD ti y.flat = some (.d x))
    (h : AOps P B F0 w0 n all rest K ((d, .d x) :: σ)) : AOps P B F0 w0 n all (o :: rest) K σ := AOps.pure hg hdn (PStep.loads hT hS hd (hmx_self σ d) hx hte hs hy hav) h
theorem APre.loads (hT : TOk P T) {K : St → Prop} {V : Value} {e i s : Nat} {xs : List D} {ti te : TI} {x : D} (y : D) (hS : Seen P B F0 w0 V e xs) (hd : o.dst = some d) (hdn : Nat.ble (d + 1) n = true) (hg : guardOk ops τ o = true) (hs : σ0.get d = none) (hx : loadS T τ.get o.op = some (ti, ptrV V (i * s))) (hte : T.get e = some te) (hs2 : te.size = s) (hy : xs[i]? = some y) (hav : loadD ti y.flat = some (.d x))
    (h : APre P B F0 w0 n ops ds σ0 rest ((d, .d x) :: τ) K) : APre P B F0 w0 n ops ds σ0 (o :: rest) τ K := APre.pure hd hdn rfl hg (PStep.loads hT hS hd hs hx hte hs2 hy hav) h
def SeenR (P : Program) (B : Nat) (F0 : Nat → Prop) (w0 : Bas) (R : List LR) : Prop := ∀ (i : Nat) (V : Value) (e : Nat) (xs : List D), R[i]? = some (V, .ow e xs) → xs ≠ [] → Seen P B F0 w0 V e xs
theorem SeenR.at {i : Nat} {V : Value} {e : Nat} {xs : List D} (h : SeenR P B F0 w0 R) (hi : R[i]? = some (V, .ow e xs)) (hne : 0 < xs.length) : Seen P B F0 w0 V e xs := h i V e xs hi (fun e => by subst e; simp at hne)
variable {Q : Exit → List LR → St → Prop} {x : Code}
theorem RelZ.el {t u e k : Nat} {V : Value} {xs : List D} {a : Act} {w : World} (hR : RelZ P B F0 w0 n R σ a w) (ht : σ.get t = some (.ow e xs)) (hV : a.tmps[t]? = some V) (hu : σ.get u = some (.d (.v (ptrV V (k * P.cellsOf e))))) (hk : k < xs.length) (htu : t ≠ u) :
    RelZ P B F0 w0 n R ((u, .el t k 0) :: σ) a w := by
  obtain ⟨O, hOr, hO, hL⟩ := hR.own
  obtain ⟨v, hv, hr⟩ := hO t _ ht
  rw [hV] at hv
  cases hv
  refine ⟨hR.below, hR.base, hR.f0, hR.defers, hR.size, O, hOr, fun j av hj => ?_, hL⟩
  have hkeep : ∀ j x, x.home = true → St.get ((u, AV.el t k 0) :: σ) j = some x → σ.get j = some x ∧ a.tmps[j]? = a.tmps[j]? := fun j x hx hj => by
    rw [St.get_cons] at hj
    split at hj
    · cases hj; cases hx
    · exact ⟨hj, rfl⟩
  rw [St.get_cons] at hj
  split at hj
  · rename_i e'
    subst e'
    cases hj
    obtain ⟨v', hv', hr'⟩ := hO u _ hu
    refine ⟨v', hv', fun x e' l hx hrow => ?_⟩
    have hx' := (hkeep t x (row_home (by rw [hrow]; rfl)) hx).1
    rw [ht] at hx'
    cases hx'
    simp only [AV.row, Option.some.injEq, Prod.mk.injEq] at hrow
    obtain ⟨rfl, rfl⟩ := hrow
    refine ⟨hk, ?_⟩
    rcases hr with ⟨_, _, h⟩ | ⟨b, cap, cs, rfl, _⟩
    · subst h; simp at hk
    refine ⟨b, 0, _, cap, hV, ?_⟩
    have := (Rd.v_eq hr').1
    rw [this]
    simp [ptrV]
  · obtain ⟨z, hz, hzr⟩ := hO j av hj
    exact ⟨z, hz, hzr.move (fun c hc => ⟨hc, rfl⟩) (fun _ c hc => ⟨hc, rfl⟩) (fun k _ x hx hk => hkeep k x hx hk)⟩
theorem AZOps.el (hT : TOk P T) (t u : Nat) {e k s : Nat} {V : Value} {xs : List D} {te : TI} (ht : σ.get t = some (.ow e xs)) (hp : (t, V) ∈ p) (hu : σ.get u = some (.d (.v (ptrV V (k * s))))) (hte : T.get e = some te) (hs : te.size = s) (hk : k < xs.length) (htu : Nat.beq t u = false)
    (h : AZOps P B F0 w0 n all l K p R ((u, .el t k 0) :: σ)) : AZOps P B F0 w0 n all l K p R σ := by
  intro a w hR hpin Q hQ
  obtain ⟨info, d, z, hok⟩ := hT e te hte
  exact h a w (hR.el ht (hpin _ hp) (by rw [hok.cellsOf, hs]; exact hu) hk (Nat.ne_of_beq_eq_false htu)) hpin Q hQ
end
end Lift
namespace Lift
open Go
open Go.RowKit (Below)
section
variable {P : Program} {T : Ty} {B : Nat} {F0 : Nat → Prop} {w0 : Bas} {n : Nat} {σ : St} {ops E : Array Oper}
variable {Q : Exit → Act → World → Prop}
end
end Lift
namespace Lift
open Go
open Go.RowKit (Below)
section
variable {P : Program} {T : Ty} {B : Nat} {F0 : Nat → Prop} {w0 : Bas} {n : Nat} {σ : St} {ops : Array Oper} {K : St → Prop}
def Ords (P : Program) (B : Nat) (F0 : Nat → Prop) (w0 : Bas) (n : Nat) (ops : Array Oper) (K : St → Prop) : Nat → Array Bool → St → Prop
  | 0, listed, σ => Region.ready .any ops listed = [] ∧ K σ
  | f + 1, listed, σ => Region.ready .any ops listed ≠ [] ∧ ∀ j, j ∈ Region.ready .any ops listed → ∃ o, ops[j]? = some o ∧ AOps P B F0 w0 n ops [o] (Ords P B F0 w0 n ops K f (listed.setIfInBounds j true)) σ
theorem wpOp_one {Q : Exit → Act → World → Prop} {o : Oper} {j : Nat} (ho : ops[j]? = some o) {K' : St → Prop} {M : Act → World → Prop} (h : AOps P B F0 w0 n ops [o] K' σ) (hK : ∀ a w σ', K' σ' → Rel P B F0 w0 n σ' a w → M a w) {a : Act} {w : World} (hR : Rel P B F0 w0 n σ a w) : wpOp P ops Q j M a w := by
  have h1 := h a w hR (fun e a w => e = .normal ∧ M a w) (fun a w σ' h1 h2 => ⟨rfl, hK a w σ' h1 h2⟩)
  unfold wpList at h1
  unfold wpOp
  rw [ho]
  simp only []
  split at h1
  · rename_i hw
    rw [if_pos hw]
    rcases h1 with h1 | ⟨_, a1, w1, h2, _⟩
    · exact .inl (upon_keep (Q := fun e a w => e = .normal ∧ M a w) (fun c a w h => by cases h.1) (fun h => by obtain ⟨a, w, h, _⟩ := h; cases h) (fun v d w h => h.2) h1)
    · cases h2
  · rename_i hw
    rw [if_neg hw]
    exact h1.2
theorem Ords.any {Q : Exit → Act → World → Prop} : ∀ {f : Nat} {listed : Array Bool} {σ : St}, Ords P B F0 w0 n ops K f listed σ → (∀ a w σ', K σ' → Rel P B F0 w0 n σ' a w → Q .normal a w) → ∀ a w, Rel P B F0 w0 n σ a w → wpAny P .any ops Q f listed a w
  | 0, listed, σ, h, hQ, a, w, hR => ⟨h.1, hQ a w σ h.2 hR⟩
  | f + 1, listed, σ, h, hQ, a, w, hR => ⟨fun e => absurd e h.1, fun j hj => by
    obtain ⟨o, ho, hA⟩ := h.2 j hj
    exact wpOp_one ho hA (fun a w σ' h1 h2 => h1.any hQ a w h2) hR⟩
theorem Ords.ext {f : Nat} {listed : Array Bool} {σ σ' : St} (h : Ords P B F0 w0 n ops K f listed σ) (he : ∀ t, σ.get t = σ'.get t) {Q : Exit → Act → World → Prop} (hQ : ∀ a w σ', K σ' → Rel P B F0 w0 n σ' a w → Q .normal a w) (a : Act) (w : World) (hR : Rel P B F0 w0 n σ' a w) : wpAny P .any ops Q f listed a w :=
  h.any hQ a w (hR.ext he)
theorem Ords.one {f j : Nat} {listed : Array Bool} {o : Oper} (hr : (Region.ready .any ops listed == [j]) = true) (ho : ops[j]? = some o) (h : AOps P B F0 w0 n ops [o] (Ords P B F0 w0 n ops K f (listed.setIfInBounds j true)) σ) : Ords P B F0 w0 n ops K (f + 1) listed σ := by
  have hr : Region.ready .any ops listed = [j] := by simpa using hr
  refine ⟨by rw [hr]; simp, fun i hi => ?_⟩
  rw [hr] at hi
  simp at hi
  subst hi
  exact ⟨o, ho, h⟩
theorem Ords.two {f j k : Nat} {listed : Array Bool} {o o' : Oper} (hr : (Region.ready .any ops listed == [j, k]) = true) (ho : ops[j]? = some o) (ho' : ops[k]? = some o') (h : AOps P B F0 w0 n ops [o] (Ords P B F0 w0 n ops K f (listed.setIfInBounds j true)) σ)
    (h' : AOps P B F0 w0 n ops [o'] (Ords P B F0 w0 n ops K f (listed.setIfInBounds k true)) σ) : Ords P B F0 w0 n ops K (f + 1) listed σ := by
  have hr : Region.ready .any ops listed = [j, k] := by simpa using hr
  refine ⟨by rw [hr]; simp, fun i hi => ?_⟩
  rw [hr] at hi
  simp at hi
  rcases hi with rfl | rfl
  · exact ⟨o, ho, h⟩
  · exact ⟨o', ho', h'⟩
theorem Ords.zero {listed : Array Bool} (hr : (Region.ready .any ops listed).isEmpty = true) (h : K σ) : Ords P B F0 w0 n ops K 0 listed σ := ⟨by simpa using hr, h⟩
namespace D2
variable {lt : List (Nat × Bool)} {m : Nat} {hs ds : List Nat} {σ0 : St} {tl wl : List (Nat × AV)} (H : D2 P T B F0 w0 n ops lt m hs ds σ0 tl wl)
include H
end D2
variable {σ0 : St}
end
end Lift
namespace Lift
open Go
open Go.RowKit (Below)
section
variable {P : Program} {T : Ty} {B : Nat} {F0 : Nat → Prop} {w0 : Bas} {n : Nat} {σ : St} {R R' : List LR} {x : Code} {Q : Exit → List LR → St → Prop} {K : List LR → St → Prop} {p : Pins} {all : Array Oper} {l : List Oper}
theorem RelZ.swapR {a : Act} {w : World} {i j : Nat} {ri rj : LR} (hi : R[i]? = some ri) (hj : R[j]? = some rj) (hR : RelZ P B F0 w0 n R σ a w) : RelZ P B F0 w0 n ((R.set i rj).set j ri) σ a w := by
  obtain ⟨O, hOr, hO, hL⟩ := hR.own
  have hlt : ∀ t av, σ.get t = some av → t < n := fun t av h => by
    obtain ⟨v, hv, _⟩ := hO t av h
    rw [← hR.size]
    exact (Array.getElem?_eq_some_iff.1 hv).1
  have hF : ∀ c, Free O (FW B F0 w) c → Free (swO O (n + i) (n + j)) (FW B F0 w) c := fun c hc => ⟨swO_none.2 hc.1, hc.2⟩
  refine ⟨hR.below, hR.base, hR.f0, hR.defers, hR.size, swO O (n + i) (n + j), swO_lt hOr, fun t av h => ?_, fun k r hr => ?_⟩
  · obtain ⟨v, hv, hr⟩ := hO t av h
    have := hlt t av h
    exact ⟨v, hv, hr.move (fun c hc => ⟨hF c hc, rfl⟩) (fun _ c hc => ⟨swO_other hc (by omega) (by omega), rfl⟩) (fun k _ x _ hk => ⟨hk, rfl⟩)⟩
  · have hil := (List.getElem?_eq_some_iff.1 hi).1
    have hjl := (List.getElem?_eq_some_iff.1 hj).1
    by_cases hkj : k = j
    · subst hkj
      rw [List.getElem?_set_self (by simpa using hjl)] at hr
      cases hr
      exact (hL i _ hi).owner (fun c hc => by simp [swO, hc]) hF
    · rw [List.getElem?_set_ne (Ne.symm hkj)] at hr
      by_cases hki : k = i
      · subst hki
        rw [List.getElem?_set_self hil] at hr
        cases hr
        exact (hL j _ hj).owner (fun c hc => by simp only [swO, hc]; rw [if_neg (by simp; omega)]; simp) hF
      · rw [List.getElem?_set_ne (Ne.symm hki)] at hr
        exact (hL k _ hr).owner (fun c hc => swO_other hc (by omega) (by omega)) hF
theorem AZ.swapR {ri rj : LR} (i j : Nat) (hi : R[i]? = some ri) (hj : R[j]? = some rj) (h : AZ P B F0 w0 n x Q ((R.set i rj).set j ri) σ) : AZ P B F0 w0 n x Q R σ := fun a w hR => h a w (hR.swapR hi hj)
theorem AZ.dropR (R' : List LR) (hd : ∀ (i : Nat) (r : LR), R'[i]? = some r → R[i]? = some r ∨ r.2 = .junk) (h : AZ P B F0 w0 n x Q R' σ) : AZ P B F0 w0 n x Q R σ := fun a w hR => h a w (hR.drop hd)
end
end Lift
namespace Lift
open Go
open Go.RowKit (Below)
section
variable {P : Program} {T : Ty} {B : Nat} {F0 : Nat → Prop} {w0 : Bas} {n : Nat} {σ σ' τ σ0 : St} {R R' : List LR} {ops all : Array Oper} {l rest : List Oper} {o : Oper} {d : Nat} {lk hm : Nat → Option AV} {K : List LR → St → Prop} {p : Pins} {ds : List Nat}
end
end Lift
namespace Lift
open Go
open Go.RowKit (Below)
section
variable {P : Program} {T : Ty} {B : Nat} {F0 : Nat → Prop} {w0 : Bas} {n : Nat} {σ σ' τ : St} {R R' : List LR} {ops : Array Oper} {o : Oper} {d : Nat} {Q : Exit → List LR → St → Prop} {a : Act} {w : World}
abbrev Boxes := List (Nat × List D)
def SB (β : Boxes) (bl : Nat → Nat) (w : World) : Prop := ∀ t ds, (t, ds) ∈ β → ∀ (i : Nat) (u : Value), ds[i]? = some (.v u) → ∃ cs e fz, w.heap[bl t]? = some (.cells cs e fz) ∧ cs[i]? = some u
def pinsOf (β : Boxes) (bl : Nat → Nat) : Pins := β.map fun x => (x.1, .pointer (some ⟨bl x.1, 0, none⟩))
def BxIn (σ : St) : Boxes → Prop
  | [] => True
  | (t, ds) :: r => σ.get t = some (.bx ds) ∧ BxIn σ r
theorem BxIn.get : ∀ {β : Boxes}, BxIn σ β → ∀ t ds, (t, ds) ∈ β → σ.get t = some (.bx ds)
  | [], _, t, ds, h => by cases h
  | (t', ds') :: r, h, t, ds, hm => by
    rcases List.mem_cons.1 hm with e | e
    · cases e; exact h.1
    · exact BxIn.get h.2 t ds e
theorem pinsOf_get {β : Boxes} {bl : Nat → Nat} (h : PinsOk (pinsOf β bl) a) {t : Nat} {ds : List D} (hm : (t, ds) ∈ β) : a.tmps[t]? = some (.pointer (some ⟨bl t, 0, none⟩)) :=
  h (t, _) (List.mem_map.2 ⟨(t, ds), hm, rfl⟩)
theorem SB_of {β : Boxes} {bl : Nat → Nat} (hR : RelZ P B F0 w0 n R σ a w) (hσ : BxIn σ β) (hp : PinsOk (pinsOf β bl) a) : SB β bl w := by
  intro t ds hm i u hu
  obtain ⟨O, _, hO, _⟩ := hR.own
  obtain ⟨v, hv, b, cs, e, rfl, _, g2, g3⟩ := hO t _ (hσ.get t ds hm)
  rw [pinsOf_get hp hm] at hv
  simp only [Option.some.injEq, Value.pointer.injEq, Addr.mk.injEq] at hv
  obtain ⟨rfl, _, _⟩ := hv
  obtain ⟨_, u', h1, h2⟩ := g3.get hu
  rw [(Rd.v_eq h2).1] at h1
  exact ⟨cs, e, _, g2, by simpa using h1⟩
def ZH (P : Program) (B : Nat) (F0 : Nat → Prop) (w0 : Bas) (n : Nat) (ops : Array Oper) (Q : Exit → List LR → St → Prop) (β : Boxes) (fuel : Nat) (listed : Array Bool) (R : List LR) (σ : St) : Prop :=
  BxIn σ β ∧ ∀ (bl : Nat → Nat) (a : Act) (w : World), RelZ P B F0 w0 n R σ a w → PinsOk (pinsOf β bl) a →
    wpAnyH P .any ops (fun e a' w' => ∃ R' σ', Q e R' σ' ∧ RelZ P B F0 w0 n R' σ' a' w') (SB β bl) fuel listed a w
theorem RelZ.drew (hR : RelZ P B F0 w0 n R σ a w) : RelZ P B F0 w0 n R σ a { w with drawn := w.drawn + 1 } := by
  obtain ⟨O, hOr, hO, hL⟩ := hR.own
  refine ⟨hR.below.drew, hR.base, hR.f0, hR.defers, hR.size, O, hOr, fun t av h => ?_, fun i r hr => ?_⟩
  · obtain ⟨v, hv, hr⟩ := hO t av h
    exact ⟨v, hv, hr.move (fun c hc => ⟨hc, rfl⟩) (fun _ c hc => ⟨hc, rfl⟩) (fun k _ x _ hk => ⟨hk, rfl⟩)⟩
  · rcases hL i r hr with h | ⟨g1, g2, g3⟩
    · exact .inl h
    · exact .inr ⟨g1, g2, g3.move (fun c hc => ⟨hc, rfl⟩) (fun _ c hc => ⟨hc, rfl⟩) (fun k _ x _ hk => by cases hk)⟩
theorem ZH.any {β : Boxes} (h : ZH P B F0 w0 n ops Q β ops.size (Array.replicate ops.size false) R σ) : ZAny P B F0 w0 n ops Q R σ := by
  intro a w hR
  refine wpAny_of_held _ _ _ _ (h.2 (fun t => match a.tmps[t]? with | some (.pointer (some ⟨b, _, _⟩)) => b | _ => 0) a _ hR.drew (fun e he => ?_))
  obtain ⟨⟨t, ds⟩, hm, rfl⟩ := List.mem_map.1 he
  obtain ⟨O, _, hO, _⟩ := hR.own
  obtain ⟨v, hv, b, cs, e, rfl, _⟩ := hO t _ (h.1.get t ds hm)
  show a.tmps[t]? = some _
  simp only [hv]
theorem step_one {β : Boxes} {bl : Nat → Nat} {K : List LR → St → Prop} (hpn : pinsB (pinsOf β bl) [o] = true) (h : AZOps P B F0 w0 n ops [o] K [] R σ) (hR : RelZ P B F0 w0 n R σ a w) (hp : PinsOk (pinsOf β bl) a) :
    wpList P ops (fun e a' w' => (e = .normal ∧ ∃ R' σ', K R' σ' ∧ RelZ P B F0 w0 n R' σ' a' w') ∧ (e = .normal → PinsOk (pinsOf β bl) a')) [o] a w :=
  wpList_pins hp (pinsB_ok hpn) (h a w hR (fun e he => by cases he) _ (fun a w R' σ' h1 h2 => ⟨rfl, R', σ', h1, h2⟩))
theorem ZH.all {β : Boxes} {fuel : Nat} {listed : Array Bool} (i : Nat) (hr : Region.ready .any ops listed = [i]) (ho : ops[i]? = some o) (hg : o.guard = none) (hpn : ∀ bl, pinsB (pinsOf β bl) [o] = true) (hσ : BxIn σ β)
    (h : AZOps P B F0 w0 n ops [o] (fun R' σ' => ZH P B F0 w0 n ops Q β fuel (listed.setIfInBounds i true) R' σ') [] R σ) : ZH P B F0 w0 n ops Q β (fuel + 1) listed R σ := by
  refine ⟨hσ, fun bl a w hR hp => wpAnyH_all hr (by simp) (fun j hj => ?_)⟩
  rw [List.mem_singleton] at hj
  subst hj
  have h1 := step_one (hpn bl) h hR hp
  have hw : Region.wanted o (yielded ops a.tmps) = true := by simp [Region.wanted, hg]
  unfold wpOp
  simp only [ho, hw, if_true]
  unfold wpList at h1
  rw [if_pos hw] at h1
  rcases h1 with h1 | ⟨_, a1, w1, ⟨h2, _⟩, _⟩
  · refine .inl (upon_keep (fun c a w h => by cases h.1.1) (fun ⟨a, w, h⟩ => by cases h.1.1) (fun v dd w' hn => ?_) h1)
    unfold wpList at hn
    obtain ⟨⟨_, R', σ', h2, h3⟩, h4⟩ := hn
    exact ⟨SB_of h3 h2.1 (h4 rfl), h2.2 bl _ _ h3 (h4 rfl)⟩
  · cases h2
theorem ZH.done {β : Boxes} {fuel : Nat} {listed : Array Bool} (hr : Region.ready .any ops listed = []) (hσ : BxIn σ β) (h : Q .normal R σ) : ZH P B F0 w0 n ops Q β fuel listed R σ :=
  ⟨hσ, fun bl a w hR hp => wpAnyH_done hr ⟨R, σ, h, hR⟩ fuel⟩
theorem ZH.to {β : Boxes} {fuel : Nat} {listed : Array Bool} (ks : List Nat) (τ : St) (h : σ.keep ks = τ) (hσ : BxIn σ β) (hk : ZH P B F0 w0 n ops Q β fuel listed R τ) : ZH P B F0 w0 n ops Q β fuel listed R σ :=
  ⟨hσ, fun bl a w hR hp => hk.2 bl a w (h ▸ hR.keep ks) hp⟩
theorem ZH.first {β : Boxes} {fuel : Nat} {listed : Array Bool} (i : Nat) (ho : ops[i]? = some o) (hg : o.guard = none) (hs : Region.noSelect ops = true) (hf : Region.free .any ops listed i = true) (hr : (Region.ready .any ops listed).contains i = true)
    (hpan : ∀ c R σ, Q (.panic c) R σ → False) (hpn : ∀ bl, pinsB (pinsOf β bl) [o] = true) (hσ : BxIn σ β)
    (hy : ∀ bl a w, RelZ P B F0 w0 n R σ a w → PinsOk (pinsOf β bl) a → ∃ v, ∀ w', SB β bl w' → (execOp a.eval o).run P w' = .ok (.value v) w')
    (h : AZOps P B F0 w0 n ops [o] (fun R' σ' => ZH P B F0 w0 n ops Q β fuel (listed.setIfInBounds i true) R' σ') [] R σ) : ZH P B F0 w0 n ops Q β (fuel + 1) listed R σ := by
  refine ⟨hσ, fun bl a w hR hp => ?_⟩
  obtain ⟨v, hv⟩ := hy bl a w hR hp
  have hS := SB_of hR hσ hp
  have hw : Region.wanted o (yielded ops a.tmps) = true := by simp [Region.wanted, hg]
  refine wpAnyH_take ho hs hf hr (fun c a' w' hq => ?_) (.inl ⟨hw, hv⟩) hS ?_
  · obtain ⟨R', σ', hq, _⟩ := hq
    exact (hpan c R' σ' hq).elim
  have h1 := step_one (hpn bl) h hR hp
  unfold wpList at h1
  rw [if_pos hw] at h1
  rcases h1 with h1 | ⟨_, a1, w1, ⟨h2, _⟩, _⟩
  · unfold Oper.wp at h1
    rw [hv w hS] at h1
    simp only [Oper.upon] at h1
    unfold wpList at h1
    obtain ⟨⟨_, R', σ', h2, h3⟩, h4⟩ := h1
    exact h2.2 bl _ _ h3 (h4 rfl)
  · cases h2
end
end Lift
namespace Lift
open Go
open Go.RowKit (Below)
section
variable {P : Program} {T : Ty} {B : Nat} {F0 : Nat → Prop} {w0 : Bas} {n : Nat} {σ : St} {R : List LR} {all : Array Oper} {l : List Oper} {x : Code} {a : Act} {w : World} {K : List LR → St → Prop} {p : Pins}
end
end Lift
namespace Lift
open Go
open Go.RowKit (Below)
abbrev nilS : Value := .slice none 0 0
def zokN (d : D) (v : Value) : Bool := zok d v || match d, v with
  | .v (.slice none 0 0), .slice none 0 0 => true
  | _, _ => false
def zoksN : List D → List Value → Bool
  | [], [] => true
  | d :: ds, v :: vs => zokN d v && zoksN ds vs
  | _, _ => false
theorem zokN_rd {w : World} {F : Nat → Prop} {d : D} {v : Value} (h : zokN d v = true) : d.isCell = true ∧ Rd w F d v := by
  unfold zokN at h
  rw [Bool.or_eq_true] at h
  rcases h with h | h
  · exact zok_rd h
  · split at h <;> try (cases h; done)
    exact ⟨rfl, .v rfl⟩
theorem zoksN_rd {w : World} {F : Nat → Prop} : ∀ {ds : List D} {vs : List Value}, zoksN ds vs = true → RdL w F ds vs
  | [], [], _ => ⟨rfl, fun i d u h => by simp at h⟩
  | [], _ :: _, h => by simp [zoksN] at h
  | _ :: _, [], h => by simp [zoksN] at h
  | d :: ds, v :: vs, h => by
    simp only [zoksN, Bool.and_eq_true] at h
    have ih := zoksN_rd (w := w) (F := F) h.2
    have h1 := zokN_rd (w := w) (F := F) h.1
    refine ⟨by simp [ih.1], fun i d' u hd hu => ?_⟩
    cases i with
    | zero => simp at hd hu; subst hd; subst hu; exact h1
    | succ i => exact ih.2 i d' u (by simpa using hd) (by simpa using hu)
section
variable {P : Program} {T : Ty} {B : Nat} {F0 : Nat → Prop} {w0 : Bas} {n : Nat} {σ τ σ0 : St} {R : List LR} {ops all : Array Oper} {l rest : List Oper} {o : Oper} {d : Nat} {lk hm : Nat → Option AV} {x : Code} {a : Act} {w : World} {K : List LR → St → Prop} {p : Pins} {ds : List Nat}
def bldN (T : Ty) (lk : Nat → Option AV) (zs : List D) : Op → Option (Nat × List D)
  | .build t parts => match T.get t, partsD T lk parts.toList with
    | some i, some ps => match Nat.beq i.kind 5 with
      | true => match fillD i.fields zs ps with
        | some cs => some (t, cs)
        | none => none
      | false => none
    | _, _ => none
  | _ => none
def zeroIs (P : Program) (t : Nat) (zs : List D) : Bool := match P.info? t with
  | some info => match info.zero with
    | some z => zoksN zs z.cells.toList
    | none => false
  | none => false
theorem PStep.bldn (hT : TOk P T) (zs : List D) {t : Nat} {cs : List D} (hd : o.dst = some d) (hn : hm d = none) (hx : bldN T lk zs o.op = some (t, cs)) (hz : zeroIs P t zs = true) : PStep P B F0 w0 d o lk hm (.d (.ag cs)) := by
  refine ⟨hd, hn, fun a w O hI K Q hK => ?_⟩
  obtain ⟨dst, op, ty, pos, after, guard⟩ := o
  simp only [] at hd hx hI
  cases op <;> simp only [bldN] at hx <;> try (cases hx; done)
  rename_i t' parts
  split at hx <;> try (cases hx; done)
  rename_i i ps hi hps
  split at hx <;> try (cases hx; done)
  rename_i hk
  split at hx <;> simp at hx
  rename_i cs' hcs
  obtain ⟨rfl, rfl⟩ := hx
  obtain ⟨info, dd, z, hok⟩ := hT t' i hi
  have hzs : zoksN zs z.cells.toList = true := by
    unfold zeroIs at hz
    rw [hok.hinfo] at hz
    simp only [hok.zero] at hz
    exact hz
  obtain ⟨fs, hu, hfs, hall⟩ := hok.kind5 hk
  have hp := partsD_run hT hI parts.toList ps (fun p hp t ht => by
    simp only [Op.operands]
    have : p.2 ∈ parts.toList.map (·.2) := List.mem_map.2 ⟨p, hp, rfl⟩
    rw [ht] at this
    simpa using this) hps
  obtain ⟨cs2, e1, e2, e3⟩ := fillD_run ps (parts.toList.map fun (i, x) => (i, a.eval x)) zs z.cells cs' (by simp [hp.1]) hp.2 (zoksN_rd hzs) hcs
  have hmap : fs.toList.mapM (fun f => (P.info? f.type).map fun i => (f.offset, i.size)) = some (i.fields.map fun x => (x.1, x.2.1)) := by
    rw [← hfs]
    clear hfs hu hcs e1
    generalize fs.toList = l at hall
    induction l with
    | nil => rfl
    | cons f l ih =>
      obtain ⟨⟨j, hj⟩, _, _⟩ := hall f (by simp)
      simp [List.mapM_cons, hj, ih (fun f hf => hall f (by simp [hf])), fieldsOf, Program.cellsOf]
  have hb : P.built t' (parts.toList.map fun (i, x) => (i, a.eval x)) = some cs2 := by
    unfold Program.built
    simp only [hok.hinfo, hu, hok.zero, hmap]
    rw [← e1]
    congr 1
    funext k
    simp
  have hrun := run_build w t' (parts.map fun (i, x) => (i, a.eval x)) cs2 (by simpa using hb)
  refine wp_val (v := .agg cs2) (w' := w) (by simp only [execOp, Sem.run_bind, hrun, Result.andThen_ok]; rfl) (hK _ w O (Grow.refl hI.lt) ?_)
  have := Rd.ag (w := w) (F := Free O (FW B F0 w)) (l := cs') (vs := cs2.toList) e2.1 (fun x hx => by
    obtain ⟨j, hj⟩ := List.mem_iff_getElem?.1 hx
    exact (e2.get hj).1) (fun j x u h1 h2 => (e2.2 j x u h1 h2).2)
  show Rd _ _ _ _
  simpa using this
theorem AOps.bldn (hT : TOk P T) {K : St → Prop} (zs : List D) {t : Nat} {cs : List D} (hd : o.dst = some d) (hdn : Nat.ble (d + 1) n = true) (hg : guardOk all σ o = true) (hx : bldN T σ.get zs o.op = some (t, cs)) (hz : zeroIs P t zs = true)
    (h : AOps P B F0 w0 n all rest K ((d, .d (.ag cs)) :: σ)) : AOps P B F0 w0 n all (o :: rest) K σ := AOps.pure hg hdn (PStep.bldn hT zs hd (hmx_self σ d) hx hz) h
theorem APre.bldn (hT : TOk P T) {K : St → Prop} (zs : List D) {t : Nat} {cs : List D} (hd : o.dst = some d) (hdn : Nat.ble (d + 1) n = true) (hg : guardOk ops τ o = true) (hs : σ0.get d = none) (hx : bldN T τ.get zs o.op = some (t, cs)) (hz : zeroIs P t zs = true)
    (h : APre P B F0 w0 n ops ds σ0 rest ((d, .d (.ag cs)) :: τ) K) : APre P B F0 w0 n ops ds σ0 (o :: rest) τ K := APre.pure hd hdn rfl hg (PStep.bldn hT zs hd hs hx hz) h
theorem RelZ.nilRow (e : Nat) (hR : RelZ P B F0 w0 n R σ a w) : RelZ P B F0 w0 n (R ++ [(nilS, .ow e [])]) σ a w := by
  obtain ⟨O, hOr, hO, hL⟩ := hR.own
  refine ⟨hR.below, hR.base, hR.f0, hR.defers, hR.size, O, hOr, hO, fun i r hr => ?_⟩
  rcases Nat.lt_or_ge i R.length with h | h
  · rw [List.getElem?_append_left h] at hr
    exact hL i r hr
  · rw [List.getElem?_append_right h] at hr
    have : i - R.length = 0 := by
      rcases Nat.eq_zero_or_pos (i - R.length) with e | e
      · exact e
      · rw [List.getElem?_eq_none (by simp; omega)] at hr; cases hr
    rw [this] at hr
    cases hr
    exact .inr ⟨rfl, rfl, .inl ⟨none, rfl, rfl⟩⟩
theorem AZ.nilRow {Q : Exit → List LR → St → Prop} (e : Nat) (h : AZ P B F0 w0 n x Q (R ++ [(nilS, .ow e [])]) σ) : AZ P B F0 w0 n x Q R σ := fun a w hR => h a w (hR.nilRow e)
end
end Lift
namespace Lift
open Go
open Go.RowKit (Below)
section
variable {P : Program} {T : Ty} {B : Nat} {F0 : Nat → Prop} {w0 : Bas} {n : Nat} {σ : St} {R : List LR} {ops : Array Oper} {o : Oper} {Q : Exit → List LR → St → Prop} {β : Boxes} {fuel : Nat} {listed : Array Bool}
theorem one_step {K : List LR → St → Prop} (h : ∀ B1 F1 w1, AOps P B1 F1 w1 n ops [o] (fun σ' => σ'.noTag = true ∧ K R σ') σ) : AZOps P B F0 w0 n ops [o] K [] R σ :=
  AZOps.cut 1 rfl (fun B1 F1 w1 => by
    have := h B1 F1 w1
    refine fun a w hR Q hQ => this a w hR Q (fun a' w' σ' ⟨h1, h2⟩ hR' => hQ a' w' σ' ⟨h1, AZOps.nil h2⟩ hR'))
end
end Lift
namespace Lift
open Go
open Go.RowKit (Below)
section
variable {P : Program} {T : Ty} {B : Nat} {F0 : Nat → Prop} {w0 : Bas} {n : Nat} {σ : St} {R : List LR} {ops : Array Oper} {o o1 o2 o3 : Oper} {Q : Exit → List LR → St → Prop} {β : Boxes} {fuel : Nat} {listed : Array Bool}
def ZNext (P : Program) (B : Nat) (F0 : Nat → Prop) (w0 : Bas) (n : Nat) (ops : Array Oper) (Q : Exit → List LR → St → Prop) (β : Boxes) (fuel : Nat) (listed : Array Bool) (R : List LR) (σ : St) (i : Nat) (o : Oper) : Prop :=
  AZOps P B F0 w0 n ops [o] (fun R' σ' => ZH P B F0 w0 n ops Q β fuel (listed.setIfInBounds i true) R' σ') [] R σ
theorem ZH.many (rs : List Nat) (hr : Region.ready .any ops listed = rs) (hne : rs ≠ []) (hσ : BxIn σ β)
    (h : ∀ i ∈ rs, ∃ o, ops[i]? = some o ∧ o.guard = none ∧ (∀ bl, pinsB (pinsOf β bl) [o] = true) ∧ ZNext P B F0 w0 n ops Q β fuel listed R σ i o) : ZH P B F0 w0 n ops Q β (fuel + 1) listed R σ := by
  refine ⟨hσ, fun bl a w hR hp => wpAnyH_all hr hne (fun j hj => ?_)⟩
  obtain ⟨o, ho, hg, hpn, h⟩ := h j hj
  have h1 := step_one (hpn bl) h hR hp
  have hw : Region.wanted o (yielded ops a.tmps) = true := by simp [Region.wanted, hg]
  unfold wpOp
  simp only [ho, hw, if_true]
  unfold wpList at h1
  rw [if_pos hw] at h1
  rcases h1 with h1 | ⟨_, a1, w1, ⟨h2, _⟩, _⟩
  · refine .inl (upon_keep (fun c a w h => by cases h.1.1) (fun ⟨a, w, h⟩ => by cases h.1.1) (fun v dd w' hn => ?_) h1)
    unfold wpList at hn
    obtain ⟨⟨_, R', σ', h2, h3⟩, h4⟩ := hn
    exact ⟨SB_of h3 h2.1 (h4 rfl), h2.2 bl _ _ h3 (h4 rfl)⟩
  · cases h2
theorem ZH.two (i j : Nat) (hr : Region.ready .any ops listed = [i, j]) (ho1 : ops[i]? = some o1) (ho2 : ops[j]? = some o2) (hg1 : o1.guard = none) (hg2 : o2.guard = none) (hp1 : ∀ bl, pinsB (pinsOf β bl) [o1] = true) (hp2 : ∀ bl, pinsB (pinsOf β bl) [o2] = true) (hσ : BxIn σ β)
    (h1 : ZNext P B F0 w0 n ops Q β fuel listed R σ i o1) (h2 : ZNext P B F0 w0 n ops Q β fuel listed R σ j o2) : ZH P B F0 w0 n ops Q β (fuel + 1) listed R σ :=
  ZH.many [i, j] hr (by simp) hσ (fun k hk => by
    simp only [List.mem_cons, List.not_mem_nil, or_false] at hk
    rcases hk with rfl | rfl
    · exact ⟨o1, ho1, hg1, hp1, h1⟩
    · exact ⟨o2, ho2, hg2, hp2, h2⟩)
theorem ZH.three (i j k : Nat) (hr : Region.ready .any ops listed = [i, j, k]) (ho1 : ops[i]? = some o1) (ho2 : ops[j]? = some o2) (ho3 : ops[k]? = some o3) (hg1 : o1.guard = none) (hg2 : o2.guard = none) (hg3 : o3.guard = none) (hp1 : ∀ bl, pinsB (pinsOf β bl) [o1] = true) (hp2 : ∀ bl, pinsB (pinsOf β bl) [o2] = true) (hp3 : ∀ bl, pinsB (pinsOf β bl) [o3] = true) (hσ : BxIn σ β)
    (h1 : ZNext P B F0 w0 n ops Q β fuel listed R σ i o1) (h2 : ZNext P B F0 w0 n ops Q β fuel listed R σ j o2) (h3 : ZNext P B F0 w0 n ops Q β fuel listed R σ k o3) : ZH P B F0 w0 n ops Q β (fuel + 1) listed R σ :=
  ZH.many [i, j, k] hr (by simp) hσ (fun m hk => by
    simp only [List.mem_cons, List.not_mem_nil, or_false] at hk
    rcases hk with rfl | rfl | rfl
    · exact ⟨o1, ho1, hg1, hp1, h1⟩
    · exact ⟨o2, ho2, hg2, hp2, h2⟩
    · exact ⟨o3, ho3, hg3, hp3, h3⟩)
theorem ZH.meet (fuel' : Nat) (listed' : Array Bool) (Rf : Value → List LR) (σf : Value → St) (h : ∀ V, ZH P B F0 w0 n ops Q β fuel' listed' (Rf V) (σf V))
    (hk : (∀ V, ZH P B F0 w0 n ops Q β fuel' listed' (Rf V) (σf V)) → ZH P B F0 w0 n ops Q β fuel listed R σ) : ZH P B F0 w0 n ops Q β fuel listed R σ := hk h
theorem ZH.ls (l' : Array Bool) (h : listed = l') (hk : ZH P B F0 w0 n ops Q β fuel l' R σ) : ZH P B F0 w0 n ops Q β fuel listed R σ := h ▸ hk
end
end Lift
namespace Lift
open Go
open Go.RowKit (Below)
section
variable {P : Program} {T : Ty} {B : Nat} {F0 : Nat → Prop} {w0 : Bas} {n : Nat} {σ τ σ0 : St} {R : List LR} {ops all : Array Oper} {l rest : List Oper} {o : Oper} {d : Nat} {lk hm : Nat → Option AV} {x : Code} {a : Act} {w : World} {K : List LR → St → Prop} {p : Pins} {ds : List Nat}
theorem Rel.frzB {t : Nat} {cs : List D} (hR : Rel P B F0 w0 n σ a w) (ht : σ.get t = some (.bx cs)) : Rel P B F0 w0 n ((t, .d (.pr cs)) :: σ.kill t) a w := by
  obtain ⟨O, hOr, hO⟩ := hR.own
  let O' : Nat → Option Nat := fun c => if O c = some t then none else O c
  have hfree : ∀ c, Free O (FW B F0 w) c → Free O' (FW B F0 w) c := fun c hc => ⟨by simp only [O']; rw [hc.1]; simp, hc.2⟩
  refine ⟨hR.below, hR.base, hR.f0, hR.defers, hR.size, O', fun b k hk => ?_, fun k av hk => ?_⟩
  · simp only [O'] at hk
    split at hk
    · cases hk
    · exact hOr b k hk
  have hget : ∀ j x, x.home = true → St.get ((t, AV.d (.pr cs)) :: σ.kill t) j = some x → σ.get j = some x := fun j x hx hg => by
    rw [St.get_cons] at hg
    split at hg
    · simp at hg; subst hg; simp [AV.home] at hx
    · rw [St.get_kill] at hg
      cases hsk : σ.get j with
      | none => simp [hsk] at hg
      | some z =>
        simp only [hsk, Option.map_some, Option.some.injEq] at hg
        subst hg
        rw [kill_home' hx]
  rw [St.get_cons] at hk
  split at hk
  · rename_i e
    subst e
    cases hk
    obtain ⟨v, hv, hr⟩ := hO t _ ht
    obtain ⟨b, es, e, rfl, h2, h3, h4⟩ := hr
    refine ⟨_, hv, Rd.pr_mk ⟨by simp only [O', h2]; simp, (hOr b t h2).fw hR.f0⟩ h3 (fun i d hd => ?_)⟩
    obtain ⟨h5, u, hu, h6⟩ := h4.get hd
    exact ⟨h5, u, by simpa using hu, h6.mono hfree (fun _ _ => rfl)⟩
  · rename_i hne
    rw [St.get_kill] at hk
    cases hs : σ.get k with
    | none => simp [hs] at hk
    | some y =>
      simp only [hs, Option.map_some, Option.some.injEq] at hk
      subst hk
      obtain ⟨u, hu, hur⟩ := hO k y hs
      refine ⟨u, hu, ?_⟩
      rcases AV.kill_or t y with ⟨h1, h2⟩ | h1
      · rw [h1]
        exact hur.move (fun c hc => ⟨hfree c hc, rfl⟩) (fun _ c hc => ⟨by simp only [O', hc]; rw [if_neg (by simpa using Ne.symm hne)], rfl⟩) (fun j hj z hz hg => ⟨hget j z hz hg, rfl⟩)
      · rw [h1]; trivial
theorem AOps.frzb {K : St → Prop} (t : Nat) {cs : List D} (ht : σ.get t = some (.bx cs)) (h : AOps P B F0 w0 n all l K ((t, .d (.pr cs)) :: σ.kill t)) : AOps P B F0 w0 n all l K σ := fun a w hR => h a w (hR.frzB ht)
theorem AW.frzb {Q : Exit → St → Prop} (t : Nat) {cs : List D} (ht : σ.get t = some (.bx cs)) (h : AW P B F0 w0 n x Q ((t, .d (.pr cs)) :: σ.kill t)) : AW P B F0 w0 n x Q σ := fun a w hR => h a w (hR.frzB ht)
end
end Lift
namespace Lift
open Go
open Go.RowKit (Below)
def FR (l : Nat) : Fence := Fence.wide.inRound l
def noDefer (o : Oper) : Bool := match o.op with
  | .defer _ => false
  | _ => true
theorem noDefer_ok {o : Oper} (h : noDefer o = true) : ∀ c, o.op ≠ .defer c := fun c e => by simp [noDefer, e] at h
theorem op_in {P : Program} {l m : Nat} {o : Oper} {a : Act} {w : World} {K : Act → World → Prop} {Q : Exit → Act → World → Prop} (hnd : noDefer o = true) (h : o.wp P a w K Q) : o.wpIn (FR l) m P a w K Q := by
  refine ⟨fun _ _ => trivial, ?_⟩
  rw [Oper.semAt_eq _ _ _ (noDefer_ok hnd)]
  unfold Oper.wp at h
  generalize (execOp a.eval o).run P w = r at h
  have hd : (FR l).depth.isSome = true → 1 ≤ m := fun h => by simp [FR, Fence.inRound, Fence.wide] at h
  cases r with
  | ok x w' =>
    cases x <;> simp only [Oper.upon] at h <;> try (exact h)
    · exact ⟨hd, CallsIn.inRound l ((callsIn_wide.2 h).mono (fun e w'' he => by cases e <;> exact he))⟩
    · refine ⟨hd, fun c cs _ => ?_⟩
      obtain ⟨v, w'', r, s⟩ := h c cs
      exact ⟨v, w'', r, stepsIn_wide.2 s⟩
  | halt x w' => cases x <;> simp only [Oper.upon] at h <;> exact h
theorem wpList_in {P : Program} {l m : Nat} {ops : Array Oper} {Q : Exit → Act → World → Prop} (hQ : ¬ LetsOut Q) : ∀ (os : List Oper) (a : Act) (w : World), os.all noDefer = true → wpList P ops Q os a w → wpListIn (FR l) m P ops Q os a w
  | [], _, _, _, h => h
  | o :: os, a, w, hnd, h => by
    simp only [List.all_cons, Bool.and_eq_true] at hnd
    unfold wpList at h
    unfold wpListIn
    split at h
    · rw [if_pos (by assumption)]
      rcases h with h | ⟨_, h⟩
      · exact Oper.wpIn_mono (fun a w h => wpList_in hQ os a w hnd.2 h) (op_in hnd.1 h)
      · exact absurd h hQ
    · rw [if_neg (by assumption)]
      exact ⟨fun _ _ => trivial, wpList_in hQ os _ _ hnd.2 h⟩
theorem wpAny_in {P : Program} {l m : Nat} {ops : Array Oper} {Q : Exit → Act → World → Prop} (hQ : ¬ LetsOut Q) (hnd : ops.toList.all noDefer = true) : ∀ (fuel : Nat) (listed : Array Bool) (a : Act) (w : World), wpAny P .any ops Q fuel listed a w → wpAnyIn (FR l) m P .any ops Q fuel listed a w
  | 0, _, _, _, h => h
  | fuel + 1, listed, a, w, h => by
    refine ⟨h.1, fun i hi => ?_⟩
    have h2 := h.2 i hi
    unfold wpOp at h2
    unfold wpOpIn
    cases ho : ops[i]? with
    | none => rw [ho] at h2; exact wpAny_in hQ hnd fuel _ _ _ h2
    | some o =>
      simp only [ho] at h2 ⊢
      have hno : noDefer o = true := by
        rw [List.all_eq_true] at hnd
        refine hnd o ?_
        rw [Array.mem_toList_iff]
        exact Array.mem_of_getElem? ho
      split at h2
      · rw [if_pos (by assumption)]
        rcases h2 with h2 | ⟨_, h2⟩
        · exact Oper.wpIn_mono (fun a w h => wpAny_in hQ hnd fuel _ a w h) (op_in hno h2)
        · exact absurd h2 hQ
      · rw [if_neg (by assumption)]
        exact ⟨fun _ _ => trivial, wpAny_in hQ hnd fuel _ _ _ h2⟩
section
variable {P : Program} {T : Ty} {B : Nat} {F0 : Nat → Prop} {w0 : Bas} {n r : Nat} {pn : Pins} {σ : St} {R : List LR} {x y : Code} {Q : Exit → List LR → St → Prop}
def rPost (P : Program) (B : Nat) (F0 : Nat → Prop) (w0 : Bas) (n : Nat) (pn : Pins) (Q : Exit → List LR → St → Prop) : Exit → Act → World → Prop := fun e a w => (∃ R σ, Q e R σ ∧ RelZ P B F0 w0 n R σ a w) ∧ PinsOk pn a
theorem pins_put {p : Pins} {a : Act} {o : Oper} {v : Value} {d : List Deferred} (hp : PinsOk p a) (hd : ∀ e, e ∈ p → o.dst ≠ some e.1) : PinsOk p ({ a with defers := d }.put o.dst v) := fun e he => by
  cases hdst : o.dst with
  | none => exact hp e he
  | some k =>
    have : k ≠ e.1 := fun h => hd e he (by rw [hdst, h])
    rw [put_get (Ne.symm this)]; exact hp e he
theorem wpAny_pins {p : Pins} {ops : Array Oper} {Q : Exit → Act → World → Prop} (hd : ∀ e, e ∈ p → ∀ o, o ∈ ops.toList → o.dst ≠ some e.1) : ∀ (fuel : Nat) (listed : Array Bool) (a : Act) (w : World), PinsOk p a → wpAny P .any ops Q fuel listed a w → wpAny P .any ops (fun e a w => Q e a w ∧ (e = .normal → PinsOk p a)) fuel listed a w
  | 0, _, _, _, hp, h => ⟨h.1, h.2, fun _ => hp⟩
  | fuel + 1, listed, a, w, hp, h => by
    refine ⟨fun hr => ⟨h.1 hr, fun _ => hp⟩, fun i hi => ?_⟩
    have h2 := h.2 i hi
    unfold wpOp at h2 ⊢
    cases ho : ops[i]? with
    | none => simp only [ho] at h2 ⊢; exact wpAny_pins hd fuel _ _ _ hp h2
    | some o =>
      simp only [ho] at h2 ⊢
      have hmem : o ∈ ops.toList := by rw [Array.mem_toList_iff]; exact Array.mem_of_getElem? ho
      have hdo : ∀ e, e ∈ p → o.dst ≠ some e.1 := fun e he => hd e he o hmem
      split at h2
      · rw [if_pos (by assumption)]
        rcases h2 with h2 | ⟨h3, a1, w1, h4⟩
        · exact .inl (upon_keep (fun c a w h => ⟨h, fun e => by cases e⟩) (fun ⟨a, w, h⟩ => ⟨a, w, h, fun e => by cases e⟩) (fun v d w h => wpAny_pins hd fuel _ _ _ (pins_put hp hdo) h) h2)
        · exact .inr ⟨h3, a1, w1, h4, fun e => by cases e⟩
      · rw [if_neg (by assumption)]
        exact wpAny_pins hd fuel _ _ _ (pins_put (d := a.defers) hp hdo) h2
theorem evalBool {c : Operand} {b : Bool} {a : Act} {w : World} (hc : boolAt σ c = some b) (hR : RelZ P B F0 w0 n R σ a w) : a.eval c = .bool b := by
  unfold boolAt at hc
  split at hc <;> try (cases hc; done)
  · split at hc <;> simp at hc
    rename_i hg
    subst hc
    obtain ⟨O, hOr, hO, _⟩ := hR.own
    obtain ⟨v, hv, hr⟩ := hO _ _ hg
    have := (Rd.v_eq hr).1
    subst this
    exact eval_tmp hv
  · simp at hc; subst hc; rfl
def AR (P : Program) (B : Nat) (F0 : Nat → Prop) (w0 : Bas) (n r : Nat) (pn : Pins) (c : Code) (Q : Exit → List LR → St → Prop) (R : List LR) (σ : St) : Prop :=
  ∀ (m : Nat) (a : Act) (w : World), RelZ P B F0 w0 n R σ a w → PinsOk pn a → c.wpIn (FR r) m P (rPost P B F0 w0 n pn Q) a w
theorem AR.skip (h : Q .normal R σ) : AR P B F0 w0 n r pn .skip Q R σ := fun m a w hR hp => wpIn_skip ⟨⟨R, σ, h, hR⟩, hp⟩
theorem AR.exit {id : Nat} (h : Q (.exit id) R σ) : AR P B F0 w0 n r pn (.exit id) Q R σ := fun m a w hR hp => wpIn_exit ⟨⟨R, σ, h, hR⟩, hp⟩
theorem AR.ret (h : Q .ret R σ) : AR P B F0 w0 n r pn .ret Q R σ := fun m a w hR hp => wpIn_ret ⟨⟨R, σ, h, hR⟩, hp⟩
theorem AR.seq (h : AR P B F0 w0 n r pn x (thenZ (AR P B F0 w0 n r pn y Q) Q) R σ) : AR P B F0 w0 n r pn (.seq x y) Q R σ := by
  intro m a w hR hp
  refine wpIn_seq (wpIn_mono (h m a w hR hp) fun e a' w' ⟨⟨R', σ', hq, hR'⟩, hp'⟩ => ?_)
  cases e <;> first | exact hq m a' w' hR' hp' | exact ⟨⟨R', σ', hq, hR'⟩, hp'⟩
theorem AR.block {id : Nat} (h : AR P B F0 w0 n r pn x (blockZ id Q) R σ) : AR P B F0 w0 n r pn (.block id x) Q R σ := by
  intro m a w hR hp
  refine wpIn_block (wpIn_mono (h m a w hR hp) fun e a' w' ⟨⟨R', σ', hq, hR'⟩, hp'⟩ => ?_)
  cases e with
  | exit i =>
    simp only [blockZ] at hq
    simp only [Exit.inBlock]
    split at hq
    · rename_i hb
      rw [if_pos (Nat.eq_of_beq_eq_true hb)]
      exact ⟨⟨R', σ', hq, hR'⟩, hp'⟩
    · rename_i hb
      rw [if_neg (Nat.ne_of_beq_eq_false hb)]
      exact ⟨⟨R', σ', hq, hR'⟩, hp'⟩
  | _ => exact ⟨⟨R', σ', hq, hR'⟩, hp'⟩
theorem AR.region {id : Nat} {ops : Array Oper} (hnd : ops.toList.all noDefer = true) (hpn : pinsB pn ops.toList = true) (h : AZOps P B F0 w0 n ops ops.toList (Q .normal) [] R σ) : AR P B F0 w0 n r pn (.region id ops false) Q R σ := by
  intro m a w hR hp
  have h1 : wpList P ops (fun e a' w' => (e = .normal ∧ ∃ R' σ', Q .normal R' σ' ∧ RelZ P B F0 w0 n R' σ' a' w') ∧ (e = .normal → PinsOk pn a')) ops.toList a w :=
    wpList_pins hp (pinsB_ok hpn) (h a w hR (fun e he => by cases he) _ (fun a w R' σ' h1 h2 => ⟨rfl, R', σ', h1, h2⟩))
  refine wpIn_mono (wpIn_region_list (wpList_in (fun ⟨a, w, h⟩ => by cases h.1.1) _ _ _ hnd h1)) (fun e a' w' ⟨⟨he, R', σ', hq, hR'⟩, hp'⟩ => ?_)
  subst he
  exact ⟨⟨R', σ', hq, hR'⟩, hp' rfl⟩
theorem AR.any {id : Nat} {ops : Array Oper} (hmx : P.follows .mixedOrders = true) (hnd : ops.toList.all noDefer = true) (hpn : pinsB pn ops.toList = true) (h : ZAny P B F0 w0 n ops (fun e R σ => e = .normal ∧ Q .normal R σ) R σ) : AR P B F0 w0 n r pn (.region id ops true) Q R σ := by
  intro m a w hR hp
  have h1 := wpAny_pins (pinsB_ok hpn) _ _ _ _ (show PinsOk pn a from hp) (h a w hR)
  refine wpIn_mono (wpIn_region_any hmx (wpAny_in (fun ⟨a, w, h⟩ => by obtain ⟨⟨_, _, ⟨h, _⟩, _⟩, _⟩ := h; cases h) hnd _ _ _ _ h1)) (fun e a' w' ⟨⟨R', σ', ⟨he, hq⟩, hR'⟩, hp'⟩ => ?_)
  subst he
  exact ⟨⟨R', σ', hq, hR'⟩, hp' rfl⟩
theorem AR.to (ks : List Nat) (τ : St) (h : σ.keep ks = τ) (hk : AR P B F0 w0 n r pn x Q R τ) : AR P B F0 w0 n r pn x Q R σ := fun m a w hR hp => hk m a w (h ▸ hR.keep ks) hp
theorem AR.cond {c : Operand} {b : Bool} (hc : boolAt σ c = some b) (h1 : b = true → AR P B F0 w0 n r pn x Q R σ) (h2 : b = false → AR P B F0 w0 n r pn y Q R σ) : AR P B F0 w0 n r pn (.cond c x y) Q R σ := by
  intro m a w hR hp
  have he : a.eval c = .bool b := evalBool hc hR
  exact wpIn_cond_split he (fun h => h1 h m a w hR hp) (fun h => h2 h m a w hR hp)
end
end Lift
namespace Lift
open Go
open Go.RowKit (Below)
inductive Th (T : Ty) (R : List LR) (cs : List D) : List D → Prop
  | refl : Th T R cs cs
  | set {ds : List D} {V : Value} {e : Nat} {xs : List D} {te : TI} (k i : Nat) (h : Th T R cs ds) (hk : cs[k]? = some (.v V)) (hi : R[i]? = some (V, .ow e xs)) (he : T.get e = some te) : Th T R cs (ds.set k (.sl te.size xs))
section
variable {P : Program} {T : Ty} {B : Nat} {F0 : Nat → Prop} {w0 : Bas} {n : Nat} {σ σ' : St} {R R' : List LR} {all : Array Oper} {l rest : List Oper} {o : Oper} {d : Nat} {K : List LR → St → Prop} {p : Pins}
theorem Th.rd (hT : TOk P T) {w : World} {O : Nat → Option Nat} {F G : Nat → Prop} {cs ds : List D} {vs : List Value} (hr : RdL w (Free O F) cs vs) (hL : ∀ i r, R[i]? = some r → LooseAt P w O F (n + i) r) (hG : ∀ c, F c → G c) (hO : ∀ c t, O c = some t → G c) (h : Th T R cs ds) :
    ∀ (j : Nat) (d : D), ds[j]? = some d → d.isCell = true ∧ ∃ u, vs[j]? = some u ∧ Rd w G d u := by
  induction h with
  | refl =>
    intro j d hd
    obtain ⟨h1, u, h2, h3⟩ := hr.get hd
    exact ⟨h1, u, h2, h3.mono (fun c hc => hG c hc.2) (fun _ _ => rfl)⟩
  | set k i h hk hi he ih =>
    rename_i ds V e xs te
    intro j d hd
    by_cases hj : j = k
    · subst hj
      have hlt : j < ds.length := by
        rcases Nat.lt_or_ge j ds.length with h | h
        · exact h
        · rw [List.getElem?_eq_none (by simpa using h)] at hd; cases hd
      rw [List.getElem?_set_self hlt] at hd
      cases hd
      obtain ⟨_, u, h2, h3⟩ := hr.get hk
      have hu := (Rd.v_eq h3).1
      subst hu
      obtain ⟨info, dd, z, hok⟩ := hT e te he
      refine ⟨rfl, u, h2, ?_⟩
      rcases hL i _ hi with h | ⟨_, _, h⟩
      · cases h
      · rcases h with ⟨base, g1, g2⟩ | ⟨b, cap, cc, g3, g4, g5, g6, g7, g8, g9, g10⟩
        · simp only at g1 g2
          subst g1; subst g2
          exact .nil (Nat.zero_le _)
        · simp only at g3
          subst g3
          have := Rd.sl_mk (w := w) (F := G) (s := P.cellsOf e) (l := xs) (off := 0) (cap := cap) (hO b _ g4) g5 g6 g7 g9 (fun m d hd => by
            obtain ⟨f1, u, f2, f3⟩ := g10 m d hd
            exact ⟨f1, u, by simpa using f2, f3.mono (fun c hc => hG c hc.2) (fun _ _ => rfl)⟩)
          rwa [hok.cellsOf] at this
    · rw [List.getElem?_set_ne (Ne.symm hj)] at hd
      exact ih j d hd
theorem LooseAt.plain {w : World} {O O' : Nat → Option Nat} {F F' : Nat → Prop} {s t e : Nat} {V : Value} {xs : List D} (hp : plainL xs = true) (h : LooseAt P w O F s (V, .ow e xs)) (hO : ∀ c, O c = some s → O' c = some t) : LooseAt P w O' F' t (V, .ow e xs) := by
  rcases h with h | ⟨h1, h2, h⟩
  · cases h
  · refine .inr ⟨h1, h2, ?_⟩
    rcases h with h | ⟨b, cap, cc, g3, g4, g5, g6, g7, g8, g9, g10⟩
    · exact .inl h
    · exact .inr ⟨b, cap, cc, g3, hO b g4, g5, g6, g7, g8, g9, fun i d hd => by
        obtain ⟨f1, u, f2, f3⟩ := g10 i d hd
        exact ⟨f1, u, f2, f3.plain (plainL_get hp hd)⟩⟩
end
end Lift
namespace Lift
open Go
open Go.RowKit (Below)
def FF (ro : Option Nat) : Fence := { Fence.wide with round := ro }
theorem op_inF {P : Program} {ro : Option Nat} {m : Nat} {o : Oper} {a : Act} {w : World} {K : Act → World → Prop} {Q Q' : Exit → Act → World → Prop} (hnd : noDefer o = true) (hp : ∀ c a w, Q' (.panic c) a w → Q (.panic c) a w) (ho : LetsOut Q' → LetsOut Q) (h : o.wp P a w K Q') : o.wpIn (FF ro) m P a w K Q := by
  refine ⟨fun _ _ => trivial, ?_⟩
  rw [Oper.semAt_eq _ _ _ (noDefer_ok hnd)]
  unfold Oper.wp at h
  generalize (execOp a.eval o).run P w = r at h
  have hd : (FF ro).depth.isSome = true → 1 ≤ m := fun h => by simp [FF, Fence.wide] at h
  cases r with
  | ok x w' =>
    cases x <;> simp only [Oper.upon] at h <;> try (exact h)
    · rename_i f args
      have h1 : CallsIn Fence.wide (m - 1) P f args w' _ := (callsIn_wide.2 h).mono (fun e w'' he => he)
      refine ⟨hd, ?_⟩
      have h2 : CallsIn (FF ro) (m - 1) P f args w' _ := h1
      exact h2.mono (fun e w'' he => by cases e <;> first | exact he | exact hp _ _ _ he | exact ho he)
    · refine ⟨hd, fun c cs _ => ?_⟩
      obtain ⟨v, w'', r, s⟩ := h c cs
      exact ⟨v, w'', r, stepsIn_wide.2 s⟩
  | halt x w' => cases x <;> simp only [Oper.upon] at h <;> exact hp _ _ _ h
theorem listIn_app {P : Program} {ro : Option Nat} {m : Nat} {ops : Array Oper} {Q Q' : Exit → Act → World → Prop} {l2 : List Oper} (hk : ∀ a w, Q' .normal a w → wpListIn (FF ro) m P ops Q l2 a w) (hp : ∀ c a w, ¬ Q' (.panic c) a w) (ho : ¬ LetsOut Q') :
    ∀ (l1 : List Oper) (a : Act) (w : World), l1.all noDefer = true → wpList P ops Q' l1 a w → wpListIn (FF ro) m P ops Q (l1 ++ l2) a w
  | [], a, w, _, h => hk a w h
  | o :: l1, a, w, hnd, h => by
    simp only [List.all_cons, Bool.and_eq_true] at hnd
    unfold wpList at h
    rw [List.cons_append]
    unfold wpListIn
    split at h
    · rw [if_pos (by assumption)]
      rcases h with h | ⟨_, h⟩
      · exact Oper.wpIn_mono (fun a w h => listIn_app hk hp ho l1 a w hnd.2 h) (op_inF hnd.1 (fun c a w h => absurd h (hp c a w)) (fun h => absurd h ho) h)
      · exact absurd h ho
    · rw [if_neg (by assumption)]
      exact ⟨fun _ _ => trivial, listIn_app hk hp ho l1 _ _ hnd.2 h⟩
theorem wpIn_loopG {S : Type} {F : Fence} {m : Nat} {P : Program} {c : Code} {Q : Exit → Act → World → Prop} {a : Act} {w : World} (G : Act → World → S → Prop) (μ : S → Nat) (s0 : S) (h0 : G a w s0)
    (hb : ∀ a w s, G a w s → c.wpIn F m P (Exit.then (fun a' w' => ∃ s', G a' w' s' ∧ μ s' < μ s) Q) a w) : (Code.loop c).wpIn F m P Q a w := by
  have hex : ∀ a w, (∃ s, G a w s) → ∃ m, (∃ s, μ s = m ∧ G a w s) ∧ ∀ s, G a w s → m ≤ μ s := fun a w ⟨s, h1⟩ => by
    let q : Nat → Prop := fun m => ∃ s, μ s = m ∧ G a w s
    have key : ∀ k m, m ≤ k → q m → ∃ m0, q m0 ∧ ∀ m', q m' → m0 ≤ m' := by
      intro k
      induction k with
      | zero => intro m hm hp; exact ⟨m, hp, fun m' _ => by omega⟩
      | succ k ih =>
        intro m hm hp
        by_cases hlt : ∃ m', m' ≤ k ∧ q m'
        · obtain ⟨m', h1, h2⟩ := hlt; exact ih m' h1 h2
        · exact ⟨m, hp, fun m' hp' => by
            rcases Nat.lt_or_ge k m' with h | h
            · omega
            · exact absurd ⟨m', h, hp'⟩ hlt⟩
    obtain ⟨m0, h3, h4⟩ := key (μ s) (μ s) (Nat.le_refl _) ⟨s, rfl, h1⟩
    exact ⟨m0, h3, fun s' g => h4 _ ⟨s', rfl, g⟩⟩
  let M : Act → World → Nat := fun a w => open Classical in if h : ∃ s, G a w s then Classical.choose (hex a w h) else 0
  have hM : ∀ a w, (∃ s, G a w s) → (∃ s, μ s = M a w ∧ G a w s) ∧ ∀ s, G a w s → M a w ≤ μ s := fun a w h => by
    have := Classical.choose_spec (hex a w h)
    simp only [M, dif_pos h]
    exact this
  refine wpIn_loop (fun a w => ∃ s, G a w s) M ⟨s0, h0⟩ (fun a w hg => ?_)
  obtain ⟨⟨s1, hm, hG⟩, _⟩ := hM a w hg
  refine wpIn_mono (hb a w s1 hG) fun e a' w' hq => ?_
  cases e with
  | normal =>
    obtain ⟨s', h1, h2⟩ := hq
    refine ⟨⟨s', h1⟩, ?_⟩
    have := (hM a' w' ⟨s', h1⟩).2 s' h1
    omega
  | _ => exact hq
structure IS (P : Program) (G : Nat → Prop) (l n : Nat) (x : Option D) (ys : List Nat) (σ : St) (a : Act) (W : World) : Prop where
  defers : a.defers = []
  size : a.tmps.size = n
  y : ∀ t, t ∈ ys → a.tmps[t]? = some (.func (.yield l) #[] #[])
  c : ∀ xd, x = some xd → ∃ v, a.tmps[1]? = some v ∧ Rd W G xd v
  lt : ∀ b, x ≠ none → G b → b < W.heap.size
  sl : ∀ t av, σ.get t = some av → ∃ z, av = .d (.v z) ∧ plainV z = true ∧ a.tmps[t]? = some z
def st1 (x : Option D) (σ : St) : St := match x with
  | some xd => (1, .d xd) :: σ
  | none => σ
def plS : St → Bool
  | [] => true
  | (_, .d (.v _)) :: r => plS r
  | _ => false
theorem plS_get : ∀ {σ : St}, plS σ = true → ∀ t av, σ.get t = some av → ∃ z, av = .d (.v z)
  | [], _, t, av, h => by cases h
  | (k, b) :: r, hp, t, av, h => by
    rw [St.get_cons] at h
    unfold plS at hp
    split at hp <;> try (cases hp; done)
    · rename_i he; cases he
    · rename_i k' z r' he
      cases he
      split at h
      · cases h; exact ⟨_, rfl⟩
      · exact plS_get hp t av h
section
variable {P : Program} {T : Ty} {G : Nat → Prop} {l n : Nat} {x : Option D} {ys : List Nat} {σ τ : St} {a a' : Act} {W W' : World}
theorem IS.rel (h : IS P G l n x ys σ a W) : Rel P W.heap.size (fun b => x ≠ none ∧ G b) ⟨W, fun _ => False⟩ n (st1 x σ) a W := by
  refine ⟨.refl _ _ _, Nat.le_refl _, ⟨fun b hb => h.lt b hb.1 hb.2, fun _ h => h.elim⟩, h.defers, h.size, fun _ => none, (fun b t h => by cases h), fun t av hav => ?_⟩
  have hsl : σ.get t = some av → ∃ v, a.tmps[t]? = some v ∧ AVR P (fun _ => False) W (fun _ => none) (FW W.heap.size (fun b => x ≠ none ∧ G b) W) (St.get (st1 x σ)) (fun h => a.tmps[h]?) t av v := fun hav => by
    obtain ⟨z, rfl, hp, hz⟩ := h.sl t av hav
    exact ⟨z, hz, .v hp⟩
  cases hx : x with
  | none => rw [hx] at hav hsl; exact hsl hav
  | some xd =>
    rw [hx] at hsl
    rw [hx, st1, St.get_cons] at hav
    split at hav
    · rename_i e
      subst e
      cases hav
      obtain ⟨v, hv, hr⟩ := h.c xd hx
      exact ⟨v, hv, Rd.mono hr (fun b hb => ⟨rfl, .inl ⟨by simp, hb⟩⟩) (fun _ _ => rfl)⟩
    · exact hsl hav
theorem IS.step {v : Value} {ys' : List Nat} {ks : List Nat} {σ' : St} (h : IS P G l n x ys σ a W) (hR : Rel P W.heap.size (fun b => x ≠ none ∧ G b) ⟨W, fun _ => False⟩ n σ' a' W') (hv : x ≠ none → a'.tmps[1]? = a.tmps[1]?) (hy : ∀ t, t ∈ ys' → a'.tmps[t]? = some (.func (.yield l) #[] #[])) (hk : σ'.keep ks = τ) (hp : plS τ = true) :
    IS P G l n x ys' τ a' W' ∧ Below W.heap.size W W' := by
  have hb : Below W.heap.size W W' := ⟨hR.below.os, hR.below.tape, hR.below.output, hR.below.size, fun k hk => hR.below.block k hk (fun h => h)⟩
  refine ⟨⟨hR.defers, hR.size, hy, fun xd hx => ?_, fun b hx hG => Nat.lt_of_lt_of_le (h.lt b hx hG) hb.size, fun t av hav => ?_⟩, hb⟩
  · obtain ⟨u, hu, hr⟩ := h.c xd hx
    exact ⟨u, by rw [hv (by rw [hx]; simp)]; exact hu, hr.mono (fun _ h => h) (fun b hG => hb.block b (h.lt b (by rw [hx]; simp) hG))⟩
  · obtain ⟨z, rfl⟩ := plS_get hp t av hav
    have hR' := hR.keep ks
    rw [hk] at hR'
    obtain ⟨O, _, hO⟩ := hR'.own
    obtain ⟨u, hu, hr⟩ := hO t _ hav
    obtain ⟨e, hpl⟩ := Rd.v_eq hr
    subst e
    exact ⟨_, rfl, hpl, hu⟩
theorem wpList_keeps {ops : Array Oper} {Q : Exit → Act → World → Prop} {os : List Oper} {a : Act} {W : World} : ∀ (ts : List Nat), (∀ t, t ∈ ts → ∀ o, o ∈ os → o.dst ≠ some t) → wpList P ops Q os a W → wpList P ops (fun e a' w' => Q e a' w' ∧ (e = .normal → ∀ t, t ∈ ts → a'.tmps[t]? = a.tmps[t]?)) os a W
  | [], _, h => wpList_mono (fun e a w h => ⟨h, fun _ t ht => by cases ht⟩) h
  | t :: ts, hd, h => by
    have h1 := wpList_keeps ts (fun t' ht => hd t' (by simp [ht])) h
    refine wpList_mono (fun e a' w' h2 => ?_) (wpList_keep (t := t) (x := a.tmps[t]?) os a W (hd t (by simp)) rfl h1)
    obtain ⟨⟨g1, g2⟩, g3⟩ := h2
    refine ⟨g1, fun he t' ht => ?_⟩
    rcases List.mem_cons.1 ht with rfl | ht
    · exact g3 he
    · exact g2 he t' ht
variable {β : Type} {JJ : β → World → Prop} {ops : Array Oper} {os rest : List Oper} {o : Oper} {Q : Exit → β → Option D → St → Prop} {s s1 s2 : β} {c c2 : Code} {d : Nat}
def iPost (P : Program) (G : Nat → Prop) (l n : Nat) (JJ : β → World → Prop) (Q : Exit → β → Option D → St → Prop) : Exit → Act → World → Prop := fun e a W => ∃ s x σ, Q e s x σ ∧ IS P G l n x [0] σ a W ∧ JJ s W
def AIL (P : Program) (G : Nat → Prop) (l n : Nat) (JJ : β → World → Prop) (ops : Array Oper) (os : List Oper) (ys : List Nat) (Q : Exit → β → Option D → St → Prop) (s : β) (x : Option D) (σ : St) : Prop :=
  ∀ (m : Nat) (a : Act) (W : World), IS P G l n x ys σ a W → JJ s W → wpListIn (FF none) m P ops (iPost P G l n JJ Q) os a W
def AI (P : Program) (G : Nat → Prop) (l n : Nat) (JJ : β → World → Prop) (c : Code) (Q : Exit → β → Option D → St → Prop) (s : β) (x : Option D) (σ : St) : Prop :=
  ∀ (m : Nat) (a : Act) (W : World), IS P G l n x [0] σ a W → JJ s W → c.wpIn (FF none) m P (iPost P G l n JJ Q) a W
def Abid (JJ : β → World → Prop) : Prop := ∀ s W W', JJ s W → Below W.heap.size W W' → JJ s W'
def pinsU (ys : List Nat) : Pins := (1 :: ys).map (fun t => (t, undef))
theorem AIL.nil (h0 : 0 ∈ ys) (h : Q .normal s x σ) : AIL P G l n JJ ops [] ys Q s x σ := fun m a W hI hJ => ⟨s, x, σ, h, ⟨hI.defers, hI.size, fun t ht => by simp at ht; subst ht; exact hI.y 0 h0, hI.c, hI.lt, hI.sl⟩, hJ⟩
theorem AIL.cut (hJ : Abid JJ) (k : Nat) (hnd : (os.take k).all noDefer = true) (hpn : pinsB (pinsU ys) (os.take k) = true)
    (h : ∀ B F0 w0, AOps P B F0 w0 n ops (os.take k) (fun σ' => ∃ ks τ, σ'.keep ks = τ ∧ plS τ = true ∧ AIL P G l n JJ ops (os.drop k) ys Q s x τ) (st1 x σ)) : AIL P G l n JJ ops os ys Q s x σ := by
  intro m a W hI hJs
  have h1 : wpList P ops (fun e a' w' => e = .normal ∧ ∃ σ', (∃ ks τ, σ'.keep ks = τ ∧ plS τ = true ∧ AIL P G l n JJ ops (os.drop k) ys Q s x τ) ∧ Rel P W.heap.size (fun b => x ≠ none ∧ G b) ⟨W, fun _ => False⟩ n σ' a' w') (os.take k) a W :=
    h _ _ _ a W hI.rel _ (fun a' w' σ' hk hR' => ⟨rfl, σ', hk, hR'⟩)
  have h2 := wpList_keeps (1 :: ys) (fun t ht => pinsB_ok hpn (t, undef) (List.mem_map.2 ⟨t, ht, rfl⟩)) h1
  rw [← List.take_append_drop k os]
  refine listIn_app (ro := none) (fun a' w' h => ?_) (fun c a w h => by cases h.1.1) (fun ⟨a, w, h⟩ => by cases h.1.1) _ a W hnd h2
  obtain ⟨⟨_, σ', ⟨ks, τ, hk, hp, hA⟩, hR'⟩, hkeep⟩ := h
  obtain ⟨hI', hb⟩ := hI.step (ys' := ys) (v := undef) hR' (fun _ => hkeep rfl 1 (by simp)) (fun t ht => (hkeep rfl t (by simp [ht])).trans (hI.y t ht)) hk hp
  exact hA m a' w' hI' (hJ s W w' hJs hb)
theorem IS.wanted (hI : IS P G l n x ys σ a W) (hg : guardOk ops (st1 x σ) o = true) : Region.wanted o (yielded ops a.tmps) = true := by
  unfold guardOk at hg
  split at hg
  · rename_i hgd; simp [Region.wanted, hgd]
  · rename_i g b hgd
    split at hg
    · rename_i b' hb'
      obtain ⟨og, t, h1, h2, h3⟩ := guardVal_ok hb'
      have : b' = b := by simpa using hg
      subst this
      simp [Region.wanted, hgd, yielded_of hI.rel h1 h2 h3]
    · cases hg
theorem IS.put {W' : World} {x' : Option D} {z : Value} (hI : IS P G l n x ys σ a W) (hd : d < n) (h1 : d ≠ 1) (hy : d ∉ ys) (hz : plainV z = true) (hc : ∀ xd, x' = some xd → x = some xd ∧ (∀ b, G b → W'.heap[b]? = W.heap[b]?)) (hs : W.heap.size ≤ W'.heap.size) : IS P G l n x' ys ((d, .d (.v z)) :: σ) (a.put (some d) z) W' := by
  refine ⟨by simp [Act.put, hI.defers], by simp [Act.put, hI.size], fun t ht => ?_, fun xd hx => ?_, fun b hx hG => ?_, fun t av hav => ?_⟩
  · rw [put_get (show t ≠ d from fun e => hy (e ▸ ht))]; exact hI.y t ht
  · obtain ⟨e, hb⟩ := hc xd hx
    obtain ⟨v, hv, hr⟩ := hI.c xd e
    exact ⟨v, by rw [put_get (Ne.symm h1)]; exact hv, hr.mono (fun _ h => h) (fun b hG => hb b hG)⟩
  · cases hx' : x' with
    | none => exact absurd hx' hx
    | some xd =>
      obtain ⟨e, _⟩ := hc xd hx'
      exact Nat.lt_of_lt_of_le (hI.lt b (by rw [e]; simp) hG) hs
  · rw [St.get_cons] at hav
    split at hav
    · rename_i e
      subst e
      cases hav
      exact ⟨z, rfl, hz, put_get_same (by rw [hI.size]; exact hd)⟩
    · rename_i hne
      obtain ⟨z', h2, h3, h4⟩ := hI.sl t av hav
      exact ⟨z', h2, h3, by rw [put_get (Ne.symm hne)]; exact h4⟩
theorem AIL.yield {dy t1 t2 mm : Nat} {z1 z2 : Value} {Kp : World → World → Prop} (hd : o.dst = some d) (hop : ∃ ts, o.op = .call { callee := .value (.tmp dy), args := #[.tmp t1, .tmp t2], argTypes := ts }) (hdy : dy ∈ ys) (ht1 : σ.get t1 = some (.d (.v z1))) (ht2 : σ.get t2 = some (.d (.v z2)))
    (hg : guardOk ops (st1 x σ) o = true) (hdn : Nat.ble (d + 1) n = true) (h1 : Nat.beq d 1 = false) (hy : d ∉ ys) (hKp : ∀ W W', Kp W W' → W.heap.size ≤ W'.heap.size ∧ ∀ b, G b → W'.heap[b]? = W.heap[b]?)
    (hyl : ∀ W, JJ s W → YieldAt Fence.wide mm P l #[z1, z2] W (fun e W' => (e = .returned (.bool true) ∧ JJ s1 W' ∧ Kp W W') ∨ (e = .returned (.bool false) ∧ JJ s2 W')))
    (k1 : AIL P G l n JJ ops rest ys Q s1 x ((d, .d (.v (.bool true))) :: σ)) (k2 : ∀ (m : Nat) (a : Act) (W : World), a.defers = [] → a.tmps.size = n → (∀ t, t ∈ ys → a.tmps[t]? = some (.func (.yield l) #[] #[])) → (∀ t av, St.get ((d, AV.d (.v (.bool false))) :: σ) t = some av → ∃ z, av = .d (.v z) ∧ plainV z = true ∧ a.tmps[t]? = some z) → JJ s2 W → wpListIn (FF none) m P ops (iPost P G l n JJ Q) rest a W) : AIL P G l n JJ ops (o :: rest) ys Q s x σ := by
  intro m a W hI hJs
  have hw := hI.wanted hg
  obtain ⟨dst, op, ty, pos, after, guard⟩ := o
  simp only [] at hd hop
  obtain ⟨ts, rfl⟩ := hop
  obtain ⟨_, e1, _, g1⟩ := hI.sl t1 _ ht1
  cases e1
  obtain ⟨_, e2, _, g2⟩ := hI.sl t2 _ ht2
  cases e2
  obtain ⟨fn, tmps, assign, body, hyr, hrd⟩ := hyl W hJs
  unfold wpListIn
  rw [if_pos hw]
  refine ⟨fun _ _ => trivial, ?_⟩
  rw [Oper.semAt_eq _ _ _ (fun c e => by cases e)]
  have hev := eval_tmp (hI.y dy hdy)
  have ev1 := eval_tmp g1
  have ev2 := eval_tmp g2
  have hrun : (execOp a.eval { dst := dst, op := .call { callee := .value (.tmp dy), args := #[.tmp t1, .tmp t2], argTypes := ts }, type := ty, pos := pos, after := after, guard := guard }).run P W = .ok (.round l fn tmps assign body) W := by
    have e : (#[] : Array Value) ++ #[Operand.tmp t1, Operand.tmp t2].map a.eval = #[z1, z2] := by simp [ev1, ev2]
    simp only [execOp, resolve, Deferred.ofValue, hev, Sem.run_bind, Sem.run_pure, Result.andThen_ok, invoke, e, hyr]
  rw [hrun]
  have h1 := Nat.ne_of_beq_eq_false h1
  have hdn := Nat.le_of_ble_eq_true hdn
  refine ⟨fun h => by simp [FF, Fence.wide] at h, hrd.1, fun c cs _ => ?_⟩
  obtain ⟨e, w', hR, hc⟩ := hrd.2 c cs (room_wide _)
  refine ⟨e, w', ?_, hc⟩
  rcases hR with ⟨rfl, hJ1, hK⟩ | ⟨rfl, hJ2⟩
  · show wpListIn (FF none) m P ops _ rest (a.put dst _) w'
    rw [hd]
    obtain ⟨hs, hb⟩ := hKp W w' hK
    exact k1 m _ w' (hI.put hdn h1 hy rfl (fun xd hx => ⟨hx, hb⟩) hs) hJ1
  · show wpListIn (FF none) m P ops _ rest (a.put dst _) w'
    rw [hd]
    refine k2 m _ w' (by simp [Act.put, hI.defers]) (by simp [Act.put, hI.size]) (fun t ht => ?_) (fun t av hav => ?_) hJ2
    · rw [put_get (show t ≠ d from fun e => hy (e ▸ ht))]; exact hI.y t ht
    · rw [St.get_cons] at hav
      split at hav
      · rename_i e
        subst e
        cases hav
        exact ⟨_, rfl, rfl, put_get_same (by rw [hI.size]; exact hdn)⟩
      · rename_i hne
        obtain ⟨z', h2, h3, h4⟩ := hI.sl t av hav
        exact ⟨z', h2, h3, by rw [put_get (Ne.symm hne)]; exact h4⟩
def thenI (K : β → Option D → St → Prop) (Q : Exit → β → Option D → St → Prop) : Exit → β → Option D → St → Prop
  | .normal, s, x, σ => K s x σ
  | .exit i, s, x, σ => Q (.exit i) s x σ
  | .goto i, s, x, σ => Q (.goto i) s x σ
  | .ret, s, x, σ => Q .ret s x σ
  | .panic c, s, x, σ => Q (.panic c) s x σ
  | .outgrown, s, x, σ => Q .outgrown s x σ
def blockI (id : Nat) (Q : Exit → β → Option D → St → Prop) : Exit → β → Option D → St → Prop
  | .normal, s, x, σ => Q .normal s x σ
  | .exit i, s, x, σ => match Nat.beq i id with
    | true => Q .normal s x σ
    | false => Q (.exit i) s x σ
  | .goto i, s, x, σ => Q (.goto i) s x σ
  | .ret, s, x, σ => Q .ret s x σ
  | .panic c, s, x, σ => Q (.panic c) s x σ
  | .outgrown, s, x, σ => Q .outgrown s x σ
theorem AI.skip (h : Q .normal s x σ) : AI P G l n JJ .skip Q s x σ := fun m a W hI hJ => wpIn_skip ⟨s, x, σ, h, hI, hJ⟩
theorem AI.exit {id : Nat} (h : Q (.exit id) s x σ) : AI P G l n JJ (.exit id) Q s x σ := fun m a W hI hJ => wpIn_exit ⟨s, x, σ, h, hI, hJ⟩
theorem AI.ret (h : Q .ret s x σ) : AI P G l n JJ .ret Q s x σ := fun m a W hI hJ => wpIn_ret ⟨s, x, σ, h, hI, hJ⟩
theorem AI.seq (h : AI P G l n JJ c (thenI (fun s x σ => AI P G l n JJ c2 Q s x σ) Q) s x σ) : AI P G l n JJ (.seq c c2) Q s x σ := by
  intro m a W hI hJ
  refine wpIn_seq (wpIn_mono (h m a W hI hJ) fun e a' w' ⟨s', x', σ', hq, hI', hJ'⟩ => ?_)
  cases e <;> first | exact hq m a' w' hI' hJ' | exact ⟨s', x', σ', hq, hI', hJ'⟩
theorem AI.block {id : Nat} (h : AI P G l n JJ c (blockI id Q) s x σ) : AI P G l n JJ (.block id c) Q s x σ := by
  intro m a W hI hJ
  refine wpIn_block (wpIn_mono (h m a W hI hJ) fun e a' w' ⟨s', x', σ', hq, hI', hJ'⟩ => ?_)
  cases e with
  | exit i =>
    simp only [blockI] at hq
    simp only [Exit.inBlock]
    split at hq
    · rename_i hb
      rw [if_pos (Nat.eq_of_beq_eq_true hb)]
      exact ⟨s', x', σ', hq, hI', hJ'⟩
    · rename_i hb
      rw [if_neg (Nat.ne_of_beq_eq_false hb)]
      exact ⟨s', x', σ', hq, hI', hJ'⟩
  | _ => exact ⟨s', x', σ', hq, hI', hJ'⟩
theorem AI.cond {cc : Operand} {b : Bool} (hc : boolAt (st1 x σ) cc = some b) (h1 : b = true → AI P G l n JJ c Q s x σ) (h2 : b = false → AI P G l n JJ c2 Q s x σ) : AI P G l n JJ (.cond cc c c2) Q s x σ := by
  intro m a W hI hJ
  have he : a.eval cc = .bool b := evalBool hc hI.rel.z
  exact wpIn_cond_split he (fun h => h1 h m a W hI hJ) (fun h => h2 h m a W hI hJ)
theorem AI.region {id : Nat} (h : AIL P G l n JJ ops ops.toList [0] Q s x σ) : AI P G l n JJ (.region id ops false) Q s x σ := fun m a W hI hJ => wpIn_region_list (h m a W hI hJ)
theorem IS.keep (ks : List Nat) (hI : IS P G l n x ys σ a W) : IS P G l n x ys (σ.keep ks) a W := ⟨hI.defers, hI.size, hI.y, hI.c, hI.lt, fun t av hav => by
  have hz : IS P G l n none ys σ a W := ⟨hI.defers, hI.size, hI.y, (fun _ h => by cases h), (fun _ h _ => absurd rfl h), hI.sl⟩
  have hR := hz.rel.keep ks
  have hav2 := hav
  induction ks with
  | nil => cases hav
  | cons k r ih =>
    simp only [St.keep] at hav
    split at hav
    · rename_i av' hk
      rw [St.get_cons] at hav
      split at hav
      · rename_i e
        subst e
        cases hav
        exact hI.sl _ _ hk
      · exact ih hav (hz.rel.keep r) hav
    · exact ih hav (hz.rel.keep r) hav⟩
theorem AI.loopS {S : Type} {xd : Option D} (ks : List Nat) (mk : S → β × St) (I : S → Prop) (μ : S → Nat) (s0 : S) (h0 : (s, σ.keep ks) = mk s0) (hx : x = xd) (hI0 : I s0)
    (hb : ∀ s, I s → AI P G l n JJ c (thenI (fun s' x' σ' => ∃ S', x' = xd ∧ (s', σ'.keep ks) = mk S' ∧ I S' ∧ μ S' < μ s) Q) (mk s).1 xd (mk s).2) : AI P G l n JJ (.loop c) Q s x σ := by
  intro m a W hI hJ
  subst hx
  refine wpIn_loopG (fun a w S' => I S' ∧ IS P G l n x [0] (mk S').2 a w ∧ JJ (mk S').1 w) μ s0 ⟨hI0, by rw [← h0]; exact hI.keep ks, by rw [← h0]; exact hJ⟩ (fun a w S' ⟨h1, h2, h3⟩ => ?_)
  refine wpIn_mono (hb S' h1 m a w h2 h3) fun e a' w' ⟨s', x', σ', hq, hI', hJ'⟩ => ?_
  cases e with
  | normal =>
    obtain ⟨S2, g1, g2, g3, g4⟩ := hq
    subst g1
    exact ⟨S2, ⟨g3, by rw [← g2]; exact hI'.keep ks, by rw [← g2]; exact hJ'⟩, g4⟩
  | _ => exact ⟨s', x', σ', hq, hI', hJ'⟩
end
end Lift
namespace Lift
open Go
open Go.RowKit (Below)
def isCellsB (w : World) (b : Nat) : Prop := ∃ cs e fz, w.heap[b]? = some (.cells cs e fz)
theorem Rd.monoC {w w' : World} {F F' : Nat → Prop} {d : D} {v : Value} (h : Rd w F d v) (hF : ∀ b, F b → isCellsB w b → F' b ∧ w'.heap[b]? = w.heap[b]?) : Rd w' F' d v := by
  induction h with
  | v h => exact .v h
  | nil hm => exact .nil hm
  | sl vals hf hbb hcap hm hu hc hk hr ih =>
    obtain ⟨g1, g2⟩ := hF _ hf ⟨_, _, _, hbb⟩
    exact .sl vals g1 (g2.trans hbb) hcap hm hu hc hk ih
  | ag hl hk hr ih => exact .ag hl hk ih
  | tu hl hr ih => exact .tu hl ih
  | pr vals hf hbb hc hk hr ih =>
    obtain ⟨g1, g2⟩ := hF _ hf ⟨_, _, _, hbb⟩
    exact .pr vals g1 (g2.trans hbb) hc hk ih
  | fn ha hc ra rc ih1 ih2 => exact .fn ha hc ih1 ih2
def simA : AV → Bool
  | .d _ => true
  | .bx _ => true
  | .ow _ _ => false
  | .wn _ _ _ _ _ => false
  | .pt _ _ => false
  | .rf _ => false
  | .e0 _ => false
  | .al _ => false
  | .el _ _ _ => false
  | .sb _ _ _ => false
  | .un => false
  | .junk => false
def simS : St → Bool
  | [] => true
  | (_, a) :: r => simA a && simS r
theorem simS_get : ∀ {σ : St}, simS σ = true → ∀ t av, σ.get t = some av → simA av = true
  | [], _, t, av, h => by cases h
  | (k, b) :: r, hp, t, av, h => by
    simp only [simS, Bool.and_eq_true] at hp
    rw [St.get_cons] at h
    split at h
    · cases h; exact hp.1
    · exact simS_get hp.2 t av h
section
variable {P : Program} {T : Ty} {B : Nat} {F0 : Nat → Prop} {w0 : Bas} {n : Nat} {σ : St} {R : List LR} {a a' : Act} {W W' : World}
theorem AVR.sim {X X' : Nat → Prop} {O O' : Nat → Option Nat} {F F' : Nat → Prop} {hm hm' : Nat → Option AV} {tm tm' : Nat → Option Value} {t : Nat} {av : AV} {v : Value} (hs : simA av = true) (h : AVR P X W O F hm tm t av v)
    (hF : ∀ c, Free O F c → isCellsB W c → Free O' F' c ∧ W'.heap[c]? = W.heap[c]?) (hO : ∀ c, av.home = true → O c = some t → isCellsB W c → v = .pointer (some ⟨c, 0, none⟩) → O' c = some t ∧ W'.heap[c]? = W.heap[c]?) : AVR P X' W' O' F' hm' tm' t av v := by
  cases av <;> simp only [simA] at hs <;> try (cases hs; done)
  · exact Rd.monoC h hF
  · obtain ⟨b, cs, e, h1, h2, h3, h4⟩ := h
    obtain ⟨g1, g2⟩ := hO b rfl h2 ⟨_, _, _, h3⟩ h1
    exact ⟨b, cs, e, h1, g1, g2.trans h3, h4.1, fun i d u k1 k2 => ⟨(h4.2 i d u k1 k2).1, (h4.2 i d u k1 k2).2.monoC hF⟩⟩
theorem LooseAt.sim {O O' : Nat → Option Nat} {F F' : Nat → Prop} {s t e : Nat} {V : Value} {xs : List D} (h : LooseAt P W O F s (V, .ow e xs)) (hF : ∀ c, Free O F c → isCellsB W c → Free O' F' c ∧ W'.heap[c]? = W.heap[c]?) (hO : ∀ c, O c = some s → isCellsB W c → O' c = some t ∧ W'.heap[c]? = W.heap[c]?) : LooseAt P W' O' F' t (V, .ow e xs) := by
  rcases h with h | ⟨h1, h2, h⟩
  · cases h
  · refine .inr ⟨h1, h2, ?_⟩
    rcases h with h | ⟨b, cap, cc, g3, g4, g5, g6, g7, g8, g9, g10⟩
    · exact .inl h
    · obtain ⟨k1, k2⟩ := hO b g4 ⟨_, _, _, g5⟩
      exact .inr ⟨b, cap, cc, g3, k1, k2.trans g5, g6, g7, g8, g9, fun i d hd => by
        obtain ⟨f1, u, f2, f3⟩ := g10 i d hd
        exact ⟨f1, u, f2, f3.monoC hF⟩⟩
theorem RelZ.more {z : Value} {t : Nat} (hs : simS σ = true) (hR : RelZ P B F0 w0 n R σ a W) (ht : a.tmps[t]? = some z) (hz : plainV z = true) : RelZ P B F0 w0 n R ((t, .d (.v z)) :: σ) a W := by
  obtain ⟨O, hOr, hO, hL⟩ := hR.own
  refine ⟨hR.below, hR.base, hR.f0, hR.defers, hR.size, O, hOr, fun k av hav => ?_, hL⟩
  rw [St.get_cons] at hav
  split at hav
  · rename_i e
    subst e
    cases hav
    exact ⟨z, ht, Rd.v hz⟩
  · obtain ⟨v, hv, h⟩ := hO k av hav
    exact ⟨v, hv, h.sim (simS_get hs k av hav) (fun c hc _ => ⟨hc, rfl⟩) (fun c _ hc _ _ => ⟨hc, rfl⟩)⟩
end
end Lift
namespace Lift
open Go
open Go.RowKit (Below)
section
variable {P : Program} {T : Ty} {B : Nat} {F0 : Nat → Prop} {w0 : Bas} {n : Nat} {o : Oper} {d : Nat} {σ σ' : St}
def MutD (P : Program) (f : FuncId) (e : Nat) (L : List D) (lo m : Nat) (pre post : List D) (res : D) : Prop :=
  CallOk P f ∧ ∀ (w : World) (G : Nat → Prop) (b o cap : Nat) (cs : Array Value) (us vs : List Value), (∀ c, G c → c < w.heap.size ∧ c ≠ b) → w.heap[b]? = some (.cells cs e (0, 0)) →
    ((m = 0 ∨ o = lo * P.cellsOf e) ∧ (cap = 0 ∨ o = lo * P.cellsOf e) ∧ o + cap * P.cellsOf e ≤ cs.size) → lo + m ≤ L.length → m ≤ cap → cap ≤ maxLen → Cells P w G e L cs → us.length = pre.length → (∀ (i : Nat) (d : D) (v : Value), pre[i]? = some d → us[i]? = some v → Rd w G d v) →
    vs.length = post.length → (∀ (i : Nat) (d : D) (v : Value), post[i]? = some d → vs[i]? = some v → Rd w G d v) →
    Calls P f (us ++ Value.slice (some ⟨b, o, none⟩) m cap :: vs).toArray w (fun ee w' => ∃ v cs', ee = .returned v ∧ BelY w.heap.size ⟨w, fun c => c = b⟩ w w' ∧ w'.heap[b]? = some (.cells cs' e (0, 0)) ∧ Cells P w' (FW w.heap.size G w') e L cs' ∧ Rd w' (FW w.heap.size G w') res v)
def endD (T : Ty) (σ : St) (p : Nat) (rs : List ResultVar) (e : Nat) (L : List D) (res : D) : Prop := (∃ lo m, σ.get p = some (.wn true e L lo m)) ∧ resZ T σ rs = some res
def retD (T : Ty) (p : Nat) (rs : List ResultVar) (e : Nat) (L : List D) (res : D) : Exit → St → Prop
  | .normal, σ => endD T σ p rs e L res
  | .ret, σ => endD T σ p rs e L res
  | .exit _, _ => False
  | .goto _, _ => False
  | .panic _, _ => False
  | .outgrown, _ => False
theorem MutD.intro (hT : TOk P T) {f : FuncId} {fn : Func} {c : Code} {rs : List ResultVar} {e lo m : Nat} {pre post L : List D} {res : D} (hf : P.funcs[f]? = some fn) (hb : fn.body = some c) (hrs : fn.results.toList = rs) (hn : fn.ntmps = n) (hl : pre.length + post.length + 1 ≤ n) (hnm : (fn.name == "runtime.NumGoroutine") = false)
    (h : ∀ (B : Nat) (F0 : Nat → Prop) (w0 : Bas), AW P B F0 w0 n c (retD T pre.length rs e L res) ((pre.length, .wn true e L lo m) :: (initSt 0 pre ++ initSt (pre.length + 1) post))) : MutD P f e L lo m pre post res := by
  refine ⟨⟨fn, hf, hnm, by simp [hb]⟩, fun w G b o cap cs us vs hG hb' h0 hlm hcap hmax hcs hlu hru hlv hr => ?_⟩
  have hbs := (Array.getElem?_eq_some_iff.1 hb').1
  have hF0 : F0ok w.heap.size (fun c => G c ∨ c = b) ⟨w, fun c => c = b⟩ := ⟨fun c hc => hc.elim (fun h => (hG c h).1) (fun h => h ▸ hbs), fun c hc => .inr hc⟩
  refine calls_of_wp hf hb (wp_mono (h w.heap.size (fun c => G c ∨ c = b) ⟨w, fun c => c = b⟩ _ w ?_) ?_)
  · have hfree : ∀ c, G c → Free (fun c => if c = b then some pre.length else none) (FW w.heap.size (fun c => G c ∨ c = b) w) c := fun c hc => ⟨by simp [(hG c hc).2], .inl (.inl hc)⟩
    refine ⟨.refl _ _ _, Nat.le_refl _, hF0, rfl, ?_, fun c => if c = b then some pre.length else none, (fun c t hc => ?_), fun t av hav => ?_⟩
    · simp [hn]; omega
    · simp only [] at hc
      split at hc <;> simp at hc
      rename_i hcb
      subst hcb
      exact ⟨.inr rfl, hbs⟩
    · have htm : ∀ (k : Nat) (v : Value), (us ++ Value.slice (some ⟨b, o, none⟩) m cap :: vs)[k]? = some v → ((us ++ Value.slice (some ⟨b, o, none⟩) m cap :: vs).toArray ++ Array.replicate (fn.ntmps - (us ++ Value.slice (some ⟨b, o, none⟩) m cap :: vs).toArray.size) undef)[k]? = some v := fun k v hk => by
        have hlt := (List.getElem?_eq_some_iff.1 hk).1
        rw [Array.getElem?_append, if_pos (by simpa using hlt)]
        simpa using hk
      rw [St.get_cons] at hav
      split at hav
      · rename_i ht
        subst ht
        simp at hav
        subst hav
        refine ⟨.slice (some ⟨b, o, none⟩) m cap, htm _ _ (by rw [← hlu]; simp), .inr ⟨b, o, cap, cs, fun _ => rfl, rfl, ⟨h0.1, h0.2.1, h0.2.2⟩, by simp, hb', hlm, hcap, hmax, hcs.1, fun i d hd => ?_⟩⟩
        obtain ⟨f1, u, f2, f3⟩ := hcs.2 i d hd
        exact ⟨f1, u, f2, f3.mono hfree (fun _ _ => rfl)⟩
      · rename_i ht
        rw [get_app, get_initSt, get_initSt] at hav
        simp only [Nat.zero_le, if_true, Nat.sub_zero] at hav
        cases hp : pre[t]? with
        | some d =>
          rw [hp] at hav
          simp at hav
          subst hav
          have hlt : t < us.length := by rw [hlu]; exact (List.getElem?_eq_some_iff.1 hp).1
          refine ⟨us[t], htm _ _ (by rw [List.getElem?_append_left hlt, List.getElem?_eq_getElem hlt]), ?_⟩
          exact (hru t d _ hp (List.getElem?_eq_getElem hlt)).mono hfree (fun _ _ => rfl)
        | none =>
          rw [hp] at hav
          simp only [Option.map_none] at hav
          split at hav <;> try (cases hav; done)
          simp only [Option.map_eq_some_iff] at hav
          obtain ⟨d, hd, rfl⟩ := hav
          obtain ⟨k, rfl⟩ : ∃ k, t = pre.length + 1 + k := ⟨t - (pre.length + 1), by omega⟩
          rw [Nat.add_sub_cancel_left] at hd
          have hlt : k < vs.length := by rw [hlv]; exact (List.getElem?_eq_some_iff.1 hd).1
          refine ⟨vs[k], htm _ _ (by rw [← hlu, List.getElem?_append_right (by omega), show us.length + 1 + k - us.length = k + 1 by omega, List.getElem?_cons_succ, List.getElem?_eq_getElem hlt]), ?_⟩
          exact (hr k d _ hd (List.getElem?_eq_getElem hlt)).mono hfree (fun _ _ => rfl)
  · rintro ee a w' ⟨σ', hq, hR⟩
    have key : endD T σ' pre.length rs e L res → a.defers = [] ∧ ∃ v, (results fn a.tmps).run P w' = .ok v w' ∧ ∃ v' cs', Ending.returned v = .returned v' ∧ BelY w.heap.size ⟨w, fun c => c = b⟩ w w' ∧ w'.heap[b]? = some (.cells cs' e (0, 0)) ∧ Cells P w' (FW w.heap.size G w') e L cs' ∧ Rd w' (FW w.heap.size G w') res v' := fun hq => by
      refine ⟨hR.defers, ?_⟩
      obtain ⟨O, hOr, hO⟩ := hR.own
      have hI : Inv P w.heap.size (fun c => G c ∨ c = b) ⟨w, fun c => c = b⟩ (fun _ => True) σ'.get σ'.get a w' O := ⟨hR.below, hR.base, hR.f0, hOr, fun t _ av h => hO t av h, fun t av h _ => hO t av h⟩
      have home : ∀ k lo m, σ'.get k = some (.wn true e L lo m) → ∃ cs', O b = some k ∧ w'.heap[b]? = some (.cells cs' e (0, 0)) ∧ Cells P w' (FW w.heap.size G w') e L cs' := fun k lo m h => by
        obtain ⟨v, hv, hr⟩ := hO k _ h
        rcases hr with ⟨h, _⟩ | ⟨b', o', cap', cs', hq, h1, h0, h2, h3, h4, h5, h6, h7, h8⟩
        · cases h
        have hbb : b' = b := hq rfl
        subst hbb
        refine ⟨cs', h2, h3, h7, fun i d hd => ?_⟩
        obtain ⟨f1, u, f2, f3⟩ := h8 i d hd
        refine ⟨f1, u, f2, f3.mono (fun c hc => ?_) (fun _ _ => rfl)⟩
        have hne : c ≠ b' := fun e => by subst e; rw [Free, h2] at hc; cases hc.1
        rcases hc.2 with h | h
        · exact .inl (h.resolve_right hne)
        · exact .inr h
      obtain ⟨⟨lo, m, h0⟩, hres⟩ := hq
      obtain ⟨cs', hOb, hb1, hc1⟩ := home _ lo m h0
      obtain ⟨v, hrun, hrd⟩ := resZ_sound hT hrs hR hOr hO hres
      refine ⟨v, hrun, v, cs', rfl, hR.below, hb1, hc1, hrd.mono (fun c hc => ?_) (fun _ _ => rfl)⟩
      have hne : c ≠ b := fun e => by subst e; rw [Free, hOb] at hc; cases hc.1
      rcases hc.2 with h | h
      · exact .inl (h.resolve_right hne)
      · exact .inr h
    cases ee with
    | normal => exact key hq
    | ret => exact key hq
    | exit _ => exact hq.elim
    | goto _ => exact hq.elim
    | panic _ => exact hq.elim
    | outgrown => exact hq.elim
end
end Lift
namespace Lift
open Go
open Go.RowKit (Below)
section
variable {P : Program} {T : Ty} {B : Nat} {F0 : Nat → Prop} {w0 : Bas} {n d : Nat} {o : Oper} {σ : St} {K : St → Prop} {all : Array Oper} {rest : List Oper}
theorem run_copyS (w : World) (dT sT ty elem : TypeId) (g o dLen dCap : Nat) (a : Addr) (sLen sCap : Nat) (cur : Array Value) (t : TypeId) (cs : List Value) (i : TypeInfo)
    (hu : P.underlying dT = some (.slice elem)) (hi : P.info? elem = some i)
    (hg : w.heap[g]? = some (.cells cur t (0, 0))) (hn : cs.length = Nat.min sLen dLen * i.size)
    (hsrc : ∀ j v, cs[j]? = some v → w.cell? (a.add j) = some v) (hfit : o + cs.length ≤ cur.size) (h1 : ∀ v ∈ cs, v.oneCell' = true) :
    (Builtin.copy_ #[dT, sT] ty #[.slice (some ⟨g, o, none⟩) dLen dCap, .slice (some a) sLen sCap]).run P w =
      .ok (goInt (Nat.min sLen dLen)) (w.setRow g (cur.toList.take o ++ cs ++ cur.toList.drop (o + cs.length)).toArray) := by
  have hl := run_firstCells_some (P := P) w i.size (Nat.min sLen dLen) a sLen sCap cs hn hsrc
  have hst := run_storeCells_at P g o t cs 0 cur w hg (by simpa using hfit) h1
  simp [Builtin.copy_, run_underlying hu, Builtin.lenOf, Go.sizeOf, typeInfo, hi, hl, hst]
theorem run_copyS0 (w : World) (dT sT ty elem : TypeId) (x a : Option Addr) (dLen dCap sLen sCap : Nat) (i : TypeInfo) (hu : P.underlying dT = some (.slice elem)) (hi : P.info? elem = some i) (hn : Nat.min sLen dLen = 0) :
    (Builtin.copy_ #[dT, sT] ty #[.slice x dLen dCap, .slice a sLen sCap]).run P w = .ok (goInt 0) w := by
  have hl : ∀ (x : Addr), (loadCells x 0).run P w = .ok #[] w := fun x => by simpa using run_loadCells_list (P := P) w x [] (by simp)
  cases x <;> cases a <;> simp [Builtin.copy_, run_underlying hu, Builtin.lenOf, Builtin.firstCells, Go.sizeOf, typeInfo, hi, hn, storeCells, hl]
def cpS (T : Ty) (σ : St) : Op → Option (Nat × Nat × List D × List D)
  | .call c => match c.callee with
    | .builtin .copy => match c.args.toList, c.argTypes.toList with
      | [x, y], [t, u] => match T.get t, ex T σ.get t x, ex T σ.get u y with
        | some ti, some (.al h), some (.d (.sl s ys)) => match σ.get h with
          | some (.ow e l) => match Nat.beq ti.kind 4, Nat.beq e ti.elem, T.get ti.elem with
            | true, true, some te => match Nat.beq te.size s with
              | true => some (h, e, l, ys)
              | _ => none
            | _, _, _ => none
          | _ => none
        | _, _, _ => none
      | _, _ => none
    | _ => none
  | _ => none
theorem OpOk.copyS (hT : TOk P T) {h e : Nat} {l ys : List D} (hd : o.dst = some d) (hdn : d < n) (hx : cpS T σ o.op = some (h, e, l, ys)) :
    OpOk P B F0 w0 n o σ ((d, .d (.v (.int .i64 ((min ys.length l.length : Nat) : Int)))) :: (h, .ow e (ys.take (min ys.length l.length) ++ l.drop (min ys.length l.length))) :: σ) := by
  intro a w hR K Q hK
  obtain ⟨O, hOr, hO⟩ := hR.own
  have hI : Inv P B F0 w0 (fun _ => True) σ.get σ.get a w O := ⟨hR.below, hR.base, hR.f0, hOr, fun t _ av h => hO t av h, fun t av h _ => hO t av h⟩
  obtain ⟨dst, op, ty, pos, after, guard⟩ := o
  simp only [] at hd hx
  subst hd
  cases op <;> simp only [cpS] at hx <;> try (cases hx; done)
  rename_i c
  obtain ⟨callee, args, ats⟩ := c
  simp only [] at hx
  split at hx <;> try (cases hx; done)
  split at hx <;> try (cases hx; done)
  rename_i x y t u hxy htu
  split at hx <;> try (cases hx; done)
  rename_i ti h' s ys' hti hxe hye
  split at hx <;> try (cases hx; done)
  rename_i e' l' hav
  split at hx <;> try (cases hx; done)
  rename_i te hk hee hte
  split at hx <;> simp at hx
  rename_i hts
  obtain ⟨rfl, rfl, rfl, rfl⟩ := hx
  have hee := Nat.eq_of_beq_eq_true hee
  subst hee
  have hts := Nat.eq_of_beq_eq_true hts
  subst hts
  have hargs : args = #[x, y] := by apply Array.ext'; simpa using hxy
  have hats : ats = #[t, u] := by apply Array.ext'; simpa using htu
  subst hargs; subst hats
  obtain ⟨info, dd, z, hok⟩ := hT t ti hti
  obtain ⟨info', dd', z', hok'⟩ := hT _ te hte
  have hun := (hok.kind4 hk).1
  have hsz : info'.size = te.size := hok'.size
  have hcel : P.cellsOf ti.elem = te.size := hok'.cellsOf
  have hw : winF σ.get (ex T σ.get t x) = some (h', ti.elem, l', 0, l'.length) := by rw [hxe]; simp only [winF, hav]
  have hys : srcF T σ.get (ex T σ.get u y) = some (te.size, ys') := by rw [hye]; rfl
  rw [hxe] at hw
  rw [hye] at hys
  obtain ⟨zz, hz, hrow, hlm, cap, hcap, hmax, hv⟩ := win_sound hI (ex_sound hI (fun _ _ => trivial) hxe 0).1 hw
  rw [hav] at hz
  simp at hz
  subst hz
  obtain ⟨ad, cap', hyv, hmx, hall⟩ := src_cells hT hI (ex_sound hI (fun _ _ => trivial) hye 0).1 hys
  obtain ⟨k, hkk⟩ : ∃ k, k = min ys'.length l'.length := ⟨_, rfl⟩
  rw [← hkk] at hK
  rcases Nat.eq_zero_or_pos k with hk0 | hk0
  ·
    have hval : ∃ ax lc cx, a.eval x = .slice ax lc cx ∧ lc = l'.length := by
      rcases hv with ⟨hl0, _, _, base, hev⟩ | ⟨b, o1, len, cap1, cs, off, hq, htm, hev, h0', hOb, hb, hu, hcells⟩
      · exact ⟨base, 0, _, hev, hl0.symm⟩
      · exact ⟨_, _, _, hev, rfl⟩
    obtain ⟨ax, lc, cx, hev, hlc⟩ := hval
    have hrun := run_copyS0 (P := P) w t u ty ti.elem ax ad lc cx ys'.length cap' info' hun hok'.hinfo (by rw [hlc]; show min _ _ = 0; omega)
    have hex : (execOp a.eval { dst := some d, op := .call { callee := .builtin .copy, args := #[x, y], argTypes := #[t, u] }, type := ty, pos := pos, after := after, guard := guard }).run P w = .ok (.value (goInt 0)) w := by
      simp [execOp, resolve, invoke, builtin, hev, hyv, hrun]
    refine wp_val hex ?_
    have hsame : ∀ k2, St.get ((h', AV.ow ti.elem l') :: σ) k2 = σ.get k2 := fun k2 => by
      rw [St.get_cons]
      split
      · rename_i e1; subst e1; exact hav.symm
      · rfl
    have hR1 : Rel P B F0 w0 n ((h', .ow ti.elem l') :: σ) a w := ⟨hR.below, hR.base, hR.f0, hR.defers, hR.size, O, hOr, fun t av h => by
      rw [hsame] at h
      obtain ⟨v, h1, h2⟩ := hO t av h
      refine ⟨v, h1, ?_⟩
      have : St.get ((h', AV.ow ti.elem l') :: σ) = σ.get := funext hsame
      rw [this]; exact h2⟩
    subst hk0
    rw [List.take_zero, List.drop_zero, List.nil_append] at hK
    obtain ⟨O2, hOr2, hO2⟩ := hR1.own
    exact hK _ _ (hR1.put (d := d) (av := .d (.v (.int .i64 ((0 : Nat) : Int)))) (v := goInt 0) hOr2 hO2 hdn (Grow.refl (fun b t hb => (hOr2 b t hb).2)) (.v rfl))
  rcases hv with ⟨hl0, _⟩ | ⟨b, o1, len, cap1, cs, off, hq, htm, hev, h0', hOb, hb, hu, hcells⟩
  · omega
  rw [hcel] at h0' hu
  have hoff : off = 0 := by have := h0'.1; omega
  subst hoff
  rcases hall with h | ⟨sa, news, rfl, g1, g2, g3, g4⟩
  · subst h; simp at hkk; omega
  rw [flatAll_length g2] at g1
  obtain ⟨s, hs⟩ : ∃ s, s = te.size := ⟨_, rfl⟩
  rw [← hs] at g1 g2 hu hcel hsz
  have hlfl := flatAll_length hu
  have hcsl : l'.length * s ≤ cs.size := by
    rcases Nat.eq_zero_or_pos (l'.length * s) with h0 | h0
    · omega
    · obtain ⟨_, u, f2, _⟩ := hcells (l'.length * s - 1) _ (List.getElem?_eq_getElem (by omega))
      have := (Array.getElem?_eq_some_iff.1 f2).1
      omega
  have hkl : k * s ≤ l'.length * s := Nat.mul_le_mul_right s (by omega)
  have hky : k * s ≤ ys'.length * s := Nat.mul_le_mul_right s (by omega)
  have hnk : (news.take (k * s)).length = k * s := by rw [List.length_take]; omega
  have hrun := run_copyS (P := P) w t u ty ti.elem b 0 l'.length cap sa ys'.length cap' cs ti.elem (news.take (k * s)) info' hun hok'.hinfo hb
    (by rw [hnk, hsz, hkk]) (fun j v hj => by
      rw [List.getElem?_take] at hj
      split at hj
      · exact g3 j v hj
      · cases hj) (by rw [hnk]; omega) (fun v hv => g4.cells1 v (List.mem_of_mem_take hv))
  rw [hnk, Nat.zero_add, List.take_zero, List.nil_append] at hrun
  obtain ⟨cs', hcs'⟩ : ∃ cs', cs' = (news.take (k * s) ++ cs.toList.drop (k * s)).toArray := ⟨_, rfl⟩
  rw [← hcs', show Nat.min ys'.length l'.length = k from hkk.symm] at hrun
  have hss : cs'.size = cs.size := by
    rw [hcs']
    simp only [List.size_toArray, List.length_append, hnk, List.length_drop, Array.length_toList]
    omega
  have hex : (execOp a.eval { dst := some d, op := .call { callee := .builtin .copy, args := #[x, y], argTypes := #[t, u] }, type := ty, pos := pos, after := after, guard := guard }).run P w = .ok (.value (goInt k)) (w.setRow b cs') := by
    simp [execOp, resolve, invoke, builtin, hev, hyv, hrun]
  refine wp_val hex ?_
  have hR1 : Rel P B F0 w0 n ((h', .ow ti.elem (ys'.take k ++ l'.drop k)) :: σ) a (w.setRow b cs') := by
    refine Rel.write hb hss hR hOr hO hav hOb (.inr ⟨_, _, _, hrow, (row_with hrow).1, by simp only [List.length_append, List.length_take, List.length_drop]; omega, (row_with hrow).2.2.symm⟩) (fun v hv hr => ?_) (row_with hrow).2.1
    rw [htm] at hv
    simp at hv
    subst hv
    refine row_write hr hrow hb (setRow_heap w b cs _ ti.elem _ hb) hss (by simp only [List.length_append, List.length_take, List.length_drop]; omega) (fun h0 => by subst h0; simp at hkk; omega) (fun x hx => ?_) (fun j dd hj => ?_)
    · rw [hcel]
      rcases List.mem_append.1 hx with hx | hx
      · exact g2 x (List.mem_of_mem_take hx)
      · exact hu x (List.mem_of_mem_drop hx)
    · have hB : ∀ c, Free O (FW B F0 w) c → (w.setRow b cs').heap[c]? = w.heap[c]? := fun c hc => setRow_other w b c _ (fun e => by rw [e, Free, hOb] at hc; cases hc.1)
      have f2 := flatAll_length (s := s) (l := ys'.take k) (fun x hx => g2 x (List.mem_of_mem_take hx))
      have e2 : flatAll ys' = flatAll (ys'.take k) ++ flatAll (ys'.drop k) := by rw [← flatAll_append, List.take_append_drop]
      have e3 : flatAll l' = flatAll (l'.take k) ++ flatAll (l'.drop k) := by rw [← flatAll_append, List.take_append_drop]
      have f3 := flatAll_length (s := s) (l := l'.take k) (fun x hx => hu x (List.mem_of_mem_take hx))
      rw [List.length_take, show min k ys'.length = k by omega] at f2
      rw [List.length_take, show min k l'.length = k by omega] at f3
      rw [flatAll_append] at hj
      have hcg : cs'[j]? = (news.take (k * s) ++ cs.toList.drop (k * s))[j]? := by rw [hcs', List.getElem?_toArray]
      rw [hcg]
      rw [List.getElem?_append] at hj
      split at hj
      · rename_i hj2
        have h1 : (flatAll ys')[j]? = some dd := by rw [e2, List.getElem?_append_left (by omega)]; exact hj
        obtain ⟨q1, v, q2, q3⟩ := g4.get h1
        exact ⟨q1, v, by rw [List.getElem?_append_left (by omega), List.getElem?_take_of_lt (by omega)]; exact q2, q3.mono (fun _ h => by simpa [Free, FW] using h) hB⟩
      · rename_i hj1
        have h1 : (flatAll l')[j]? = some dd := by
          rw [e3, List.getElem?_append_right (by omega), ← hj]
          congr 1
          omega
        obtain ⟨q1, v, q2, q3⟩ := hcells j dd h1
        exact ⟨q1, v, by
          rw [List.getElem?_append_right (by omega), List.getElem?_drop]
          rw [← q2]
          simp
          congr 1
          omega, q3.mono (fun _ h => by simpa [Free, FW] using h) hB⟩
  obtain ⟨O2, hOr2, hO2⟩ := hR1.own
  exact hK _ _ (hR1.put (d := d) (av := .d (.v (.int .i64 (k : Int)))) (v := goInt k) hOr2 hO2 hdn (Grow.refl (fun b t hb => (hOr2 b t hb).2)) (.v rfl))
theorem AOps.copyS (hT : TOk P T) {h e : Nat} {l ys : List D} (hd : o.dst = some d) (hdn : Nat.ble (d + 1) n = true) (hg : guardOk all σ o = true) (hx : cpS T σ o.op = some (h, e, l, ys))
    (hk : AOps P B F0 w0 n all rest K ((d, .d (.v (.int .i64 ((min ys.length l.length : Nat) : Int)))) :: (h, .ow e (ys.take (min ys.length l.length) ++ l.drop (min ys.length l.length))) :: σ)) : AOps P B F0 w0 n all (o :: rest) K σ :=
  AOps.op hg (OpOk.copyS hT hd (Nat.le_of_ble_eq_true hdn) hx) hk
end
end Lift
namespace Lift
def sumN : Nat → (Nat → Rat) → Rat
  | 0, _ => 0
  | n + 1, f => sumN n f + f n
theorem sumN_congr {f g : Nat → Rat} : ∀ {n : Nat}, (∀ c, c < n → f c = g c) → sumN n f = sumN n g
  | 0, _ => rfl
  | n + 1, h => by rw [sumN, sumN, sumN_congr (fun c hc => h c (by omega)), h n (by omega)]
theorem sumN_zero {f : Nat → Rat} {n : Nat} (h : ∀ c, c < n → f c = 0) : sumN n f = 0 := by
  induction n with
  | zero => rfl
  | succ n ih => rw [sumN, ih (fun c hc => h c (by omega)), h n (by omega)]; grind
theorem sumN_add (f g : Nat → Rat) : ∀ n : Nat, sumN n (fun c => f c + g c) = sumN n f + sumN n g
  | 0 => by simp only [sumN]; grind
  | n + 1 => by simp only [sumN, sumN_add f g n]; grind
theorem sumN_mul (k : Rat) (f : Nat → Rat) : ∀ n : Nat, sumN n (fun c => k * f c) = k * sumN n f
  | 0 => by simp only [sumN]; grind
  | n + 1 => by simp only [sumN, sumN_mul k f n]; grind
theorem sumN_sub (f g : Nat → Rat) : ∀ n : Nat, sumN n (fun c => f c - g c) = sumN n f - sumN n g
  | 0 => by simp only [sumN]; grind
  | n + 1 => by simp only [sumN, sumN_sub f g n]; grind
theorem sumN_one {f : Nat → Rat} {n i : Nat} (hi : i < n) (h : ∀ c, c < n → c ≠ i → f c = 0) : sumN n f = f i := by
  induction n with
  | zero => omega
  | succ n ih =>
    rw [sumN]
    rcases Nat.lt_or_ge i n with g | g
    · rw [ih g (fun c hc => h c (by omega)), h n (by omega) (by omega)]; grind
    · have : i = n := by omega
      subst this
      rw [sumN_zero (fun c hc => h c (by omega) (by omega))]; grind
abbrev Mx := Nat → Nat → Rat
def eqn (n : Nat) (r : Nat → Rat) (x : Nat → Rat) : Prop := sumN n (fun c => r c * x c) = r n
def Sol (m n : Nat) (M : Mx) (x : Nat → Rat) : Prop := ∀ j, j < m → eqn n (M j) x
theorem eqn_congr {n : Nat} {r s : Nat → Rat} (h : ∀ c, c ≤ n → r c = s c) (x : Nat → Rat) : eqn n r x ↔ eqn n s x := by
  unfold eqn
  rw [sumN_congr (fun c hc => by rw [h c (by omega)]), h n (Nat.le_refl _)]
theorem eqn_scale {n : Nat} {r : Nat → Rat} {k : Rat} (hk : k ≠ 0) (x : Nat → Rat) : eqn n (fun c => k * r c) x ↔ eqn n r x := by
  unfold eqn
  rw [show (fun c => k * r c * x c) = (fun c => k * (r c * x c)) from funext fun c => by grind, sumN_mul]
  constructor
  · intro h
    have : k * (sumN n (fun c => r c * x c) - r n) = 0 := by grind
    rcases Rat.mul_eq_zero.1 this with h | h
    · exact absurd h hk
    · grind
  · intro h; rw [h]
theorem eqn_less {n : Nat} {r s : Nat → Rat} (k : Rat) {x : Nat → Rat} (hs : eqn n s x) : eqn n (fun c => r c - k * s c) x ↔ eqn n r x := by
  unfold eqn at *
  rw [show (fun c => (r c - k * s c) * x c) = (fun c => r c * x c - k * (s c * x c)) from funext fun c => by grind, sumN_sub, sumN_mul, hs]
  constructor <;> intro h <;> grind
structure Red (m n k : Nat) (M : Mx) (pr : Nat → Option Nat) : Prop where
  lt : ∀ c i, pr c = some i → c < k ∧ i < m
  inj : ∀ c d i, pr c = some i → pr d = some i → c = d
  piv : ∀ c i, pr c = some i → M i c ≠ 0
  col : ∀ c i j, pr c = some i → j < m → j ≠ i → M j c = 0
  row : ∀ j c, j < m → (∀ d, pr d ≠ some j) → c < k → M j c = 0
def solF (n : Nat) (M : Mx) (pr : Nat → Option Nat) (y : Nat → Rat) (c : Nat) : Rat := match pr c with
  | some i => (M i n - sumN n (fun d => match pr d with
    | some _ => 0
    | none => M i d * y d)) / M i c
  | none => y c
theorem Red.sol {m n : Nat} {M : Mx} {pr : Nat → Option Nat} (h : Red m n n M pr) (h0 : ∀ j, j < m → (∀ d, pr d ≠ some j) → M j n = 0) (y : Nat → Rat) : Sol m n M (solF n M pr y) := by
  intro j hj
  unfold eqn
  by_cases hp : ∃ c, pr c = some j
  · obtain ⟨c, hc⟩ := hp
    have hcn := (h.lt c j hc).1
    have hne := h.piv c j hc
    have e : sumN n (fun d => M j d * solF n M pr y d) = sumN n (fun d => (if d = c then M j c * solF n M pr y c else 0) + (match pr d with
        | some _ => 0
        | none => M j d * y d)) := sumN_congr (fun d hd => by
      by_cases hdc : d = c
      · subst hdc; rw [if_pos rfl, hc]; grind
      · rw [if_neg hdc]
        cases hpd : pr d with
        | none => simp only [solF, hpd]; grind
        | some i =>
          have hij : j ≠ i := fun e => hdc (h.inj d c i hpd (e ▸ hc))
          rw [h.col d i j hpd hj hij]; grind)
    rw [e, sumN_add, sumN_one hcn (fun d _ hd => by rw [if_neg hd]), if_pos rfl]
    simp only [solF, hc]
    rw [Rat.mul_comm, Rat.div_mul_cancel hne]
    grind
  · have hn : ∀ d, pr d ≠ some j := fun d hd => hp ⟨d, hd⟩
    rw [sumN_zero (fun c hc => by rw [h.row j c hj hn hc]; grind), h0 j hj hn]
theorem Red.two {m n f : Nat} {M : Mx} {pr : Nat → Option Nat} (h : Red m n n M pr) (h0 : ∀ j, j < m → (∀ d, pr d ≠ some j) → M j n = 0) (hf : f < n) (hpf : pr f = none) :
    ∃ x y, Sol m n M x ∧ Sol m n M y ∧ x f ≠ y f := by
  refine ⟨_, _, h.sol h0 (fun _ => 0), h.sol h0 (fun _ => 1), ?_⟩
  simp only [solF, hpf]
  decide
theorem Red.one {m n : Nat} {M : Mx} {pr : Nat → Option Nat} (h : Red m n n M pr) (hall : ∀ c, c < n → pr c ≠ none) {x : Nat → Rat} (hs : Sol m n M x) {c i : Nat} (hc : pr c = some i) : x c = M i n / M i c := by
  obtain ⟨hcn, him⟩ := h.lt c i hc
  have := hs i him
  unfold eqn at this
  rw [sumN_one hcn (fun d hd hdc => by
    cases hpd : pr d with
    | none => exact absurd hpd (hall d hd)
    | some j =>
      have hij : i ≠ j := fun e => hdc (h.inj d c i (e ▸ hpd) hc)
      rw [h.col d j i hpd him hij]; grind)] at this
  rw [← this, Rat.mul_comm, Rat.mul_div_cancel (h.piv c i hc)]
theorem Red.skip {m n k : Nat} {M : Mx} {pr : Nat → Option Nat} (h : Red m n k M pr) (h0 : ∀ j, j < m → (∀ d, pr d ≠ some j) → M j k = 0) : Red m n (k + 1) M pr :=
  ⟨fun c i hc => ⟨by have := (h.lt c i hc).1; omega, (h.lt c i hc).2⟩, h.inj, h.piv, h.col, fun j c hj hn hc => by
    rcases Nat.lt_or_ge c k with g | g
    · exact h.row j c hj hn g
    · have : c = k := by omega
      subst this; exact h0 j hj hn⟩
theorem Red.elim {m n k i : Nat} {M M' : Mx} {pr : Nat → Option Nat} (h : Red m n k M pr) (hi : i < m) (hn : ∀ d, pr d ≠ some i) (hk : M i k ≠ 0) (s : Rat) (hs : s ≠ 0) (q : Nat → Rat) (h1 : ∀ c, c ≤ k → M' i c = s * M i c) (h2 : ∀ j c, j < m → j ≠ i → c ≤ k → M' j c = M j c - q j * M i c)
    (h3 : ∀ j, j < m → j ≠ i → M' j k = 0) : Red m n (k + 1) M' (fun c => if c = k then some i else pr c) := by
  have hz : ∀ c, c < k → M i c = 0 := fun c hc => h.row i c hi hn hc
  have hold : ∀ j c, j < m → j ≠ i → c < k → M' j c = M j c := fun j c hj hji hc => by rw [h2 j c hj hji (by omega), hz c hc]; grind
  refine ⟨fun c j hc => ?_, fun c d j hc hd => ?_, fun c j hc => ?_, fun c j l hc hl hlj => ?_, fun j c hj hnj hc => ?_⟩
  · split at hc
    · cases hc; exact ⟨by omega, hi⟩
    · exact ⟨by have := (h.lt c j hc).1; omega, (h.lt c j hc).2⟩
  · split at hc <;> split at hd
    · omega
    · cases hc; exact absurd hd (hn d)
    · cases hd; exact absurd hc (hn c)
    · exact h.inj c d j hc hd
  · split at hc
    · rename_i e
      cases hc
      rw [e, h1 k (Nat.le_refl _)]
      intro h0
      rcases Rat.mul_eq_zero.1 h0 with g | g
      · exact hs g
      · exact hk g
    · have hji : j ≠ i := fun e => hn c (e ▸ hc)
      rw [hold j c (h.lt c j hc).2 hji (h.lt c j hc).1]
      exact h.piv c j hc
  · split at hc
    · rename_i e
      cases hc
      rw [e]; exact h3 l hl hlj
    · have hck := (h.lt c j hc).1
      by_cases hli : l = i
      · subst hli
        rw [h1 c (by omega), hz c hck]; grind
      · rw [hold l c hl hli hck]
        exact h.col c j l hc hl hlj
  · have hji : j ≠ i := fun e => hnj k (by simp [e])
    rcases Nat.lt_or_ge c k with g | g
    · rw [hold j c hj hji g]
      refine h.row j c hj (fun d hd => hnj d ?_) g
      have : d ≠ k := fun e => by have := (h.lt d j hd).1; omega
      simp [this, hd]
    · have : c = k := by omega
      subst this
      exact h3 j hj hji
theorem Sol.elim {m n i : Nat} {M M' : Mx} (hi : i < m) (s : Rat) (hs : s ≠ 0) (q : Nat → Rat) (h1 : ∀ c, c ≤ n → M' i c = s * M i c) (h2 : ∀ j c, j < m → j ≠ i → c ≤ n → M' j c = M j c - q j * M i c) (x : Nat → Rat) : Sol m n M' x ↔ Sol m n M x := by
  have hi' : eqn n (M' i) x ↔ eqn n (M i) x := (eqn_congr h1 x).trans (eqn_scale hs x)
  constructor
  · intro h j hj
    have hii := hi'.1 (h i hi)
    by_cases e : j = i
    · subst e; exact hii
    · exact (eqn_less (q j) hii).1 ((eqn_congr (fun c hc => h2 j c hj e hc) x).1 (h j hj))
  · intro h j hj
    by_cases e : j = i
    · subst e; exact hi'.2 (h j hj)
    · exact (eqn_congr (fun c hc => h2 j c hj e hc) x).2 ((eqn_less (q j) (h i hi)).2 (h j hj))
def swR (a b j : Nat) : Nat := if j = a then b else if j = b then a else j
theorem swR_swR (a b j : Nat) : swR a b (swR a b j) = j := by
  unfold swR
  by_cases h1 : j = a
  · subst h1
    rw [if_pos rfl]
    by_cases h2 : b = j
    · rw [if_pos h2]; exact h2
    · rw [if_neg h2, if_pos rfl]
  · rw [if_neg h1]
    by_cases h2 : j = b
    · subst h2; rw [if_pos rfl, if_pos rfl]
    · rw [if_neg h2, if_neg h1, if_neg h2]
theorem swR_lt {a b m : Nat} (ha : a < m) (hb : b < m) {j : Nat} (hj : j < m) : swR a b j < m := by
  unfold swR
  split
  · exact hb
  · split
    · exact ha
    · exact hj
theorem Red.swap {m n k a b : Nat} {M M' : Mx} {pr : Nat → Option Nat} (h : Red m n k M pr) (ha : a < m) (hb : b < m) (hna : ∀ d, pr d ≠ some a) (hnb : ∀ d, pr d ≠ some b) (hM : ∀ j c, j < m → c ≤ n → M' j c = M (swR a b j) c) (hkn : k ≤ n) : Red m n k M' pr := by
  have hfix : ∀ c i, pr c = some i → swR a b i = i := fun c i hc => by
    have h1 : i ≠ a := fun e => by subst e; exact hna c hc
    have h2 : i ≠ b := fun e => by subst e; exact hnb c hc
    unfold swR
    rw [if_neg h1, if_neg h2]
  refine ⟨h.lt, h.inj, fun c i hc => ?_, fun c i j hc hj hji => ?_, fun j c hj hn hc => ?_⟩
  · have := h.lt c i hc
    rw [hM i c this.2 (by omega), hfix c i hc]; exact h.piv c i hc
  · have := h.lt c i hc
    rw [hM j c hj (by omega)]
    refine h.col c i _ hc (swR_lt ha hb hj) (fun e => hji ?_)
    rw [← swR_swR a b j, e, hfix c i hc]
  · rw [hM j c hj (by omega)]
    refine h.row _ c (swR_lt ha hb hj) (fun d hd => ?_) hc
    have e := hfix d _ hd
    rw [swR_swR] at e
    exact hn d (by rw [hd, ← e])
theorem Sol.swap {m n a b : Nat} {M M' : Mx} (ha : a < m) (hb : b < m) (hM : ∀ j c, j < m → c ≤ n → M' j c = M (swR a b j) c) (x : Nat → Rat) : Sol m n M' x ↔ Sol m n M x := by
  constructor
  · intro h j hj
    have := (eqn_congr (fun c hc => hM (swR a b j) c (swR_lt ha hb hj) hc) x).1 (h _ (swR_lt ha hb hj))
    rwa [swR_swR] at this
  · intro h j hj
    exact (eqn_congr (fun c hc => hM j c hj hc) x).2 (h _ (swR_lt ha hb hj))
inductive Out where
  | over
  | free
  | val (l : List Rat)
def Right (m n : Nat) (M : Mx) : Out → Prop
  | .over => ∀ x, ¬ Sol m n M x
  | .free => ∃ x y f, f < n ∧ Sol m n M x ∧ Sol m n M y ∧ x f ≠ y f
  | .val l => l.length = n ∧ Sol m n M (fun c => l.getD c 0) ∧ ∀ y, Sol m n M y → ∀ c, c < n → y c = l.getD c 0
theorem Right.congr {m n : Nat} {M M' : Mx} {o : Out} (h : ∀ x, Sol m n M' x ↔ Sol m n M x) (ho : Right m n M' o) : Right m n M o := by
  cases o with
  | over => exact fun x hx => ho x ((h x).2 hx)
  | free =>
    obtain ⟨x, y, f, hf, h1, h2, h3⟩ := ho
    exact ⟨x, y, f, hf, (h x).1 h1, (h y).1 h2, h3⟩
  | val l => exact ⟨ho.1, (h _).1 ho.2.1, fun y hy => ho.2.2 y ((h y).2 hy)⟩
theorem Red.val {m n : Nat} {M : Mx} {pr : Nat → Option Nat} (h : Red m n n M pr) (h0 : ∀ j, j < m → (∀ d, pr d ≠ some j) → M j n = 0) {l : List Rat} (hl : l.length = n) (hv : ∀ c, c < n → ∃ i, pr c = some i ∧ l.getD c 0 = M i n / M i c) : Right m n M (.val l) := by
  have hall : ∀ c, c < n → pr c ≠ none := fun c hc e => by
    obtain ⟨i, h1, _⟩ := hv c hc
    rw [h1] at e; cases e
  have hx : ∀ y, Sol m n M y → ∀ c, c < n → y c = l.getD c 0 := fun y hy c hc => by
    obtain ⟨i, h1, h2⟩ := hv c hc
    rw [h2, h.one hall hy h1]
  refine ⟨hl, ?_, hx⟩
  have hs := h.sol h0 (fun _ => 0)
  intro j hj
  have := hs j hj
  unfold eqn at *
  rw [← this]
  exact sumN_congr (fun c hc => by rw [hx _ hs c hc])
end Lift
namespace Lift
abbrev Mt := List (List Rat)
def fM (a : Mt) : Mx := fun j c => (a.getD j []).getD c 0
def Rect (a : Mt) (w : Nat) : Prop := ∀ r, r ∈ a → r.length = w
theorem Rect.get {a : Mt} {w j : Nat} (h : Rect a w) (hj : j < a.length) : (a.getD j []).length = w := by
  rw [List.getD_eq_getElem?_getD, List.getElem?_eq_getElem hj]
  exact h _ (List.getElem_mem hj)
def nz (x : Rat) : Bool := decide (x ≠ 0)
theorem Rect.set {a : Mt} {w i : Nat} {r : List Rat} (h : Rect a w) (hr : r.length = w) : Rect (a.set i r) w := fun s hs => by
  rcases List.mem_or_eq_of_mem_set hs with g | g
  · exact h s g
  · rw [g]; exact hr
def outO (n : Nat) : Option (Mt × Nat) → Out
  | none => .over
  | some (b, d) => if d < n then .free else .val ((b.take n).map (fun r => r.getD n 0))
structure InvG (n k d : Nat) (a : Mt) (pr : Nat → Option Nat) : Prop where
  rect : Rect a (n + 1)
  red : Red a.length n k (fM a) pr
  img : ∀ i, (∃ c, pr c = some i) ↔ i < d
  one : ∀ c i, pr c = some i → fM a i c = 1
  le : d ≤ a.length
  way : (d = k ∧ ∀ c, c < k → pr c = some c) ∨ (d < k ∧ ∃ f, f < k ∧ pr f = none)
theorem InvG.fin {n k d : Nat} {a : Mt} {pr : Nat → Option Nat} (h : InvG n k d a pr) (hr : Red a.length n n (fM a) pr) (hk : k ≤ n) (h0 : ∀ j, j < a.length → d ≤ j → fM a j n = 0) : Right a.length n (fM a) (outO n (some (a, d))) := by
  have hz : ∀ j, j < a.length → (∀ c, pr c ≠ some j) → fM a j n = 0 := fun j hj hn => h0 j hj (by
    rcases Nat.lt_or_ge j d with g | g
    · obtain ⟨c, hc⟩ := (h.img j).2 g
      exact absurd hc (hn c)
    · exact g)
  show Right _ _ _ (if d < n then .free else .val ((a.take n).map (fun r => r.getD n 0)))
  split
  · rename_i hd
    have : ∃ f, f < n ∧ pr f = none := by
      rcases h.way with ⟨h1, h2⟩ | ⟨_, f, h1, h2⟩
      · refine ⟨k, by omega, ?_⟩
        cases hp : pr k with
        | none => rfl
        | some i => have := (h.red.lt k i hp).1; omega
      · exact ⟨f, by omega, h2⟩
    obtain ⟨f, hf, hpf⟩ := this
    obtain ⟨x, y, h1, h2, h3⟩ := hr.two hz hf hpf
    exact ⟨x, y, f, hf, h1, h2, h3⟩
  · rename_i hd
    have hk' : d = k ∧ ∀ c, c < k → pr c = some c := by
      rcases h.way with g | ⟨g, _⟩
      · exact g
      · omega
    have hdn : d = n := by omega
    refine hr.val hz (by rw [List.length_map, List.length_take]; have := h.le; omega) (fun c hc => ⟨c, hk'.2 c (by omega), ?_⟩)
    rw [h.one c c (hk'.2 c (by omega))]
    have hca : c < a.length := by have := h.le; omega
    have : ((a.take n).map (fun r => r.getD n 0)).getD c 0 = fM a c n := by
      unfold fM
      simp only [List.getD_eq_getElem?_getD, List.getElem?_map, List.getElem?_take, if_pos hc]
      rw [List.getElem?_eq_getElem hca]
      rfl
    rw [this]; grind
end Lift
namespace Lift
abbrev Eqs := List (List Rat × Rat)
def gE (l : Eqs) (j : Nat) : List Rat × Rat := l.getD j ([], 0)
def fE2 (l : Eqs) : Mx := fun j c => if c < (gE l j).1.length then (gE l j).1.getD c 0 else (gE l j).2
def RectE (l : Eqs) (n : Nat) : Prop := ∀ e, e ∈ l → e.1.length = n
theorem RectE.get {l : Eqs} {n j : Nat} (h : RectE l n) (hj : j < l.length) : (gE l j).1.length = n := by
  unfold gE
  rw [List.getD_eq_getElem?_getD, List.getElem?_eq_getElem hj]
  exact h _ (List.getElem_mem hj)
theorem RectE.set {l : Eqs} {n i : Nat} {e : List Rat × Rat} (h : RectE l n) (he : e.1.length = n) : RectE (l.set i e) n := fun s hs => by
  rcases List.mem_or_eq_of_mem_set hs with g | g
  · exact h s g
  · rw [g]; exact he
def cE (e : List Rat × Rat) (c : Nat) : Rat := if c < e.1.length then e.1.getD c 0 else e.2
def prR (done : List Int) (c : Nat) : Option Nat := match done[c]? with
  | some x => if x < 0 then none else some x.toNat
  | none => none
structure InvR (n i : Nat) (l : Eqs) (done : List Int) : Prop where
  rect : RectE l n
  len : done.length = i
  red : Red l.length n i (fE2 l) (prR done)
end Lift
namespace Lift
theorem Right.changed {m n : Nat} {M : Mx} {l l' : List Rat} (h : Right m n M (.val l)) {i : Nat} (hi : i < n) (hne : l'.getD i 0 ≠ l.getD i 0) : ¬ Sol m n M (fun c => l'.getD c 0) := fun hs => hne (h.2.2 _ hs i hi)
end Lift
namespace Lift
open Go Go.Proofs
structure TD where
  t : RD
  h : Bool
abbrev TD.D (a : TD) : D := .ag [dB a.t.g, Wd a.t.n, Wd a.t.d, dB a.h]
def TD.okB (a : TD) : Bool := a.t.okB && (!a.h || decide (a.t.val = 0))
def TD.val (a : TD) : Option Rat := if a.h = true then none else some a.t.val
def TQ : Option Rat → TD
  | none => ⟨Qr 0, true⟩
  | some q => ⟨Qr q, false⟩
theorem TD.canon {a : TD} {k : Nat} (hw : a.t.w k) (h : a.okB = true) : a = TQ a.val := by
  obtain ⟨t, b⟩ := a
  unfold TD.okB at h
  rw [Bool.and_eq_true] at h
  have ht := RD.canon hw h.1
  cases b with
  | true =>
    have h0 : t.val = 0 := by simpa using h.2
    show TD.mk t true = TD.mk (Qr 0) true
    have ht : t = Qr t.val := ht
    rw [h0] at ht
    rw [ht]
  | false =>
    show TD.mk t false = TD.mk (Qr t.val) false
    have ht : t = Qr t.val := ht
    rw [← ht]
def szT : Option Rat → Nat
  | none => 1
  | some q => LQ q
theorem szT_w (a : Option Rat) {k : Nat} (h : szT a ≤ k) : (TQ a).t.w k := by
  cases a with
  | none => exact Qr_w _ (by rw [LQ_zero]; exact h)
  | some q => exact Qr_w _ h
theorem LQ_m1 : LQ (-1) ≤ 1 := by
  have h := LQ_of 1
  rw [L_one, show ((1 : Int) : Rat) = 1 from rfl] at h
  rw [LQ_neg]
  omega
theorem LQ_one : LQ 1 ≤ 1 := by
  have h := LQ_of 1
  rw [L_one, show ((1 : Int) : Rat) = 1 from rfl] at h
  omega
theorem turn_Check_ok (a : TD) {k : Nat} (hw : a.t.w k) (hk : k ≤ 20000000) : Pure Tryz.prog 71 [a.D] (erV (if a.okB = true then 0 else 2)) := by
  refine Pure.intro (n := 18) tok Tryz.func71 rfl rfl rfl (Nat.le_of_ble_eq_true rfl) (by kernel_rfl) (fun B F0 w0 => ?_)
  refine AW.seq ?_
  refine AW.region ?_
  refine AOps.run tok 2 _ _ _ _ rfl ?_
  refine AOps.nil ?_
  refine AW.seq ?_
  refine AW.seq ?_
  refine AW.region ?_
  refine AOps.run tok 2 _ _ _ _ rfl ?_
  refine AOps.call tok rfl rfl rfl rfl (fraction_Valid_ok a.t hw (by omega)) ?_
  refine AOps.run tok 2 _ _ _ _ rfl ?_
  refine AOps.split (t := 7) rfl (fun h => ?_) (fun h => ?_)
  · have hv : a.okB = false := by unfold TD.okB; rw [show a.t.okB = false by simpa using h]; rfl
    rw [hv]
    refine AOps.run tok 9 _ _ _ _ rfl ?_
    refine AOps.nil ?_
    refine AW.condT rfl ?_
    refine AW.seq ?_
    refine AW.region ?_
    refine AOps.run tok 2 _ _ _ _ rfl ?_
    refine AOps.nil ?_
    exact AW.ret rfl
  have hv : a.t.okB = true := by simpa using h
  refine AOps.run tok 3 _ _ _ _ rfl ?_
  refine AOps.split (t := 10) rfl (fun hh => ?_) (fun hh => ?_)
  rotate_left
  · rw [show a.okB = true by unfold TD.okB; rw [hv, hh]; rfl]
    refine AOps.run tok 6 _ _ _ _ rfl ?_
    refine AOps.nil ?_
    refine AW.condF rfl ?_
    refine AW.skip ?_
    refine AW.seq ?_
    refine AW.region ?_
    refine AOps.run tok 1 _ _ _ _ rfl ?_
    refine AOps.nil ?_
    exact AW.ret rfl
  refine AOps.run tok 2 _ _ _ _ rfl ?_
  refine AOps.call tok rfl rfl rfl rfl (fraction_Sign_ok a.t hw hk) ?_
  refine AOps.run tok 3 _ _ _ _ rfl ?_
  refine AOps.nil ?_
  refine AW.cond rfl (fun h => ?_) (fun h => ?_)
  · rw [show a.okB = false by unfold TD.okB; rw [hv, hh]; simp at h; simpa [sgI0] using h]
    refine AW.seq ?_
    refine AW.region ?_
    refine AOps.run tok 2 _ _ _ _ rfl ?_
    refine AOps.nil ?_
    exact AW.ret rfl
  · rw [show a.okB = true by unfold TD.okB; rw [hv, hh]; simp at h; simpa [sgI0] using h]
    refine AW.skip ?_
    refine AW.seq ?_
    refine AW.region ?_
    refine AOps.run tok 1 _ _ _ _ rfl ?_
    refine AOps.nil ?_
    exact AW.ret rfl
theorem turn_over_ok (a b : Rat) {k : Nat} (ha : LQ a ≤ k) (hb : LQ b ≤ k) (hk : k ≤ 20000000) (h0 : b ≠ 0) : Pure Tryz.prog 151 [(Qr a).D, (Qr b).D] (Qr (a / b)).D := by
  refine Pure.intro (n := 17) tok Tryz.func151 rfl rfl rfl (Nat.le_of_ble_eq_true rfl) (by kernel_rfl) (fun B F0 w0 => ?_)
  refine AW.seq ?_
  refine AW.region ?_
  refine AOps.run tok 3 _ _ _ _ rfl ?_
  refine AOps.nil ?_
  refine AW.seq ?_
  refine AW.region ?_
  refine AOps.run tok 2 _ _ _ _ rfl ?_
  refine AOps.call tok rfl rfl rfl rfl (fraction_Div_ok (Qr a) (Qr b) (Qr_w _ ha) (Qr_w _ hb) hk (by rw [Qr_val]; exact h0)) ?_
  rw [Qr_val, Qr_val]
  refine AOps.run tok 6 _ _ _ _ rfl ?_
  refine AOps.nil ?_
  refine AW.seq ?_
  refine AW.seq ?_
  refine AW.region ?_
  refine AOps.run tok 1 _ _ _ _ rfl ?_
  refine AOps.err tok rfl rfl rfl rfl rfl ?_
  refine AOps.nil ?_
  refine AW.condF rfl ?_
  · skip
    refine AW.skip ?_
    refine AW.seq ?_
    refine AW.region ?_
    refine AOps.run tok 2 _ _ _ _ rfl ?_
    refine AOps.nil ?_
    exact AW.ret rfl
end Lift
namespace Lift
open Go Go.Proofs
structure PD where
  x : RD
  y : RD
abbrev PD.D (a : PD) : D := .ag [dB a.x.g, Wd a.x.n, Wd a.x.d, dB a.y.g, Wd a.y.n, Wd a.y.d]
structure PoD where
  t : TD
  l : PD
abbrev PoD.D (p : PoD) : D := .ag [dB p.t.t.g, Wd p.t.t.n, Wd p.t.t.d, dB p.t.h, dB p.l.x.g, Wd p.l.x.n, Wd p.l.x.d, dB p.l.y.g, Wd p.l.y.n, Wd p.l.y.d]
def PD.okB (a : PD) : Bool := a.x.okB && a.y.okB
def PoD.okB (p : PoD) : Bool := p.t.okB && p.l.okB
def PD.w (k : Nat) (a : PD) : Prop := a.x.w k ∧ a.y.w k
def PoD.w (k : Nat) (p : PoD) : Prop := p.t.t.w k ∧ p.l.w k
abbrev VQ (v : V2) : PD := ⟨Qr v.1, Qr v.2⟩
abbrev PoQ (p : Option Rat × V2) : PoD := ⟨TQ p.1, VQ p.2⟩
def PD.val (a : PD) : V2 := (a.x.val, a.y.val)
def PoD.val (p : PoD) : Option Rat × V2 := (p.t.val, p.l.val)
theorem PD.canon {a : PD} {k : Nat} (hw : a.w k) (h : a.okB = true) : a = VQ a.val := by
  obtain ⟨x, y⟩ := a
  unfold PD.okB at h
  rw [Bool.and_eq_true] at h
  have hx := RD.canon hw.1 h.1
  have hy := RD.canon hw.2 h.2
  show PD.mk x y = PD.mk (Qr x.val) (Qr y.val)
  have hx : x = Qr x.val := hx
  have hy : y = Qr y.val := hy
  rw [← hx, ← hy]
theorem PoD.canon {p : PoD} {k : Nat} (hw : p.w k) (h : p.okB = true) : p = PoQ p.val := by
  obtain ⟨t, l⟩ := p
  unfold PoD.okB at h
  rw [Bool.and_eq_true] at h
  have h1 := TD.canon hw.1 h.1
  have h2 := PD.canon hw.2 h.2
  show PoD.mk t l = PoD.mk (TQ t.val) (VQ l.val)
  have h1 : t = TQ t.val := h1
  have h2 : l = VQ l.val := h2
  rw [← h1, ← h2]
def szV (v : V2) : Nat := max (LQ v.1) (LQ v.2)
def szP (p : Option Rat × V2) : Nat := max (szT p.1) (szV p.2)
theorem szV_1 {v : V2} {k : Nat} (h : szV v ≤ k) : LQ v.1 ≤ k ∧ LQ v.2 ≤ k := by unfold szV at h; omega
theorem VQ_w {v : V2} {k : Nat} (h : szV v ≤ k) : (Qr v.1).w k ∧ (Qr v.2).w k := ⟨Qr_w _ (szV_1 h).1, Qr_w _ (szV_1 h).2⟩
theorem VQ_ok (v : V2) : (VQ v).okB = true := by unfold PD.okB; rw [Qr_ok, Qr_ok]; rfl
def dirT : Option Rat → V2
  | none => (-1, 0)
  | some t => ((1 - t * t) / (1 + t * t), (t + t) / (1 + t * t))
theorem dn_ne (t : Rat) : 1 + t * t ≠ 0 := by
  have := rsq t
  grind
theorem szV_dir (v : Option Rat) {k : Nat} (h : szT v ≤ k) (h1 : 1 ≤ k) : szV (dirT v) ≤ 4 * k + 4 := by
  have z0 := LQ_zero
  have zm := LQ_m1
  have z1 := LQ_one
  cases v with
  | none => show max (LQ (-1)) (LQ 0) ≤ _; omega
  | some t =>
    have ht : LQ t ≤ k := h
    have hm := LQ_mul t t
    have hs := LQ_sub 1 (t * t)
    have ha := LQ_add 1 (t * t)
    have hb := LQ_add t t
    have d1 := LQ_div (r := 1 - t * t) (dn_ne t)
    have d2 := LQ_div (r := t + t) (dn_ne t)
    show max (LQ ((1 - t * t) / (1 + t * t))) (LQ ((t + t) / (1 + t * t))) ≤ _
    omega
theorem turn_direction_ok (v : Option Rat) {k : Nat} (h : szT v ≤ k) (h1 : 1 ≤ k) (hk : k ≤ 1000000) : Pure Tryz.prog 162 [(TQ v).D] (.tu [(Qr (dirT v).1).D, (Qr (dirT v).2).D]) := by
  refine Pure.intro (n := 32) tok Tryz.func162 rfl rfl rfl (Nat.le_of_ble_eq_true rfl) (by kernel_rfl) (fun B F0 w0 => ?_)
  have z1 := LQ_one
  have co := fraction_Of_ok 1 (by decide) (by decide)
  have com := fraction_Of_ok (-1) (by decide) (by decide)
  rw [show ((1 : Int) : Rat) = 1 from rfl] at co
  rw [show ((-1 : Int) : Rat) = -1 from rfl] at com
  refine AW.seq ?_
  refine AW.region ?_
  refine AOps.run tok 3 _ _ _ _ rfl ?_
  refine AOps.nil ?_
  cases v with
  | none =>
    refine AW.seq ?_
    refine AW.seq ?_
    refine AW.region ?_
    refine AOps.run tok 2 _ _ _ _ rfl ?_
    refine AOps.nil ?_
    refine AW.condT rfl ?_
    refine AW.seq ?_
    refine AW.region ?_
    refine AOps.call tok rfl rfl rfl rfl com ?_
    refine AOps.run tok 3 _ _ _ _ rfl ?_
    refine AOps.nil ?_
    rw [show (dirT none).1 = -1 from rfl, show (dirT none).2 = 0 from rfl, Qr_zero]
    exact AW.ret rfl
  | some t =>
    have ht : LQ t ≤ k := h
    have hm := LQ_mul t t
    have hs := LQ_sub 1 (t * t)
    have ha := LQ_add 1 (t * t)
    have hb := LQ_add t t
    have c1 := fraction_Mul_ok (Qr t) (Qr t) (k := k) (Qr_w _ ht) (Qr_w _ ht) (by omega)
    have c2 := fraction_Add_ok (Qr 1) (Qr (t * t)) (k := 2 * k) (Qr_w _ (by omega)) (Qr_w _ (by omega)) (by omega)
    have c3 := fraction_Sub_ok (Qr 1) (Qr (t * t)) (k := 2 * k) (Qr_w _ (by omega)) (Qr_w _ (by omega)) (by omega)
    have c4 := fraction_Add_ok (Qr t) (Qr t) (k := k) (Qr_w _ ht) (Qr_w _ ht) (by omega)
    have c5 := turn_over_ok (1 - t * t) (1 + t * t) (k := 2 * k + 2) (by omega) (by omega) (by omega) (dn_ne t)
    have c6 := turn_over_ok (t + t) (1 + t * t) (k := 2 * k + 2) (by omega) (by omega) (by omega) (dn_ne t)
    simp only [Qr_val] at c1 c2 c3 c4
    refine AW.seq ?_
    refine AW.seq ?_
    refine AW.region ?_
    refine AOps.run tok 2 _ _ _ _ rfl ?_
    refine AOps.nil ?_
    refine AW.condF rfl ?_
    refine AW.skip ?_
    refine AW.seq ?_
    refine AW.draw hmix 8 (by kernel_rfl) ?_
    refine APre.call tok rfl rfl rfl rfl rfl co ?_
    refine APre.run tok 4 _ _ _ _ rfl ?_
    refine APre.call tok rfl rfl rfl rfl rfl c1 ?_
    refine APre.run tok 2 _ _ _ _ rfl ?_
    refine APre.nil ?_
    refine AOps.run tok 2 _ _ _ _ rfl ?_
    refine AOps.nil ?_
    refine AW.seq ?_
    refine AW.region ?_
    refine AOps.run tok 2 _ _ _ _ rfl ?_
    refine AOps.call tok rfl rfl rfl rfl c2 ?_
    refine AOps.run tok 2 _ _ _ _ rfl ?_
    refine AOps.nil ?_
    refine AW.seq ?_
    refine AW.draw hmix 12 (by kernel_rfl) ?_
    refine APre.run tok 2 _ _ _ _ rfl ?_
    refine APre.call tok rfl rfl rfl rfl rfl c3 ?_
    refine APre.run tok 1 _ _ _ _ rfl ?_
    refine APre.call tok rfl rfl rfl rfl rfl c5 ?_
    refine APre.run tok 4 _ _ _ _ rfl ?_
    refine APre.call tok rfl rfl rfl rfl rfl c4 ?_
    refine APre.run tok 1 _ _ _ _ rfl ?_
    refine APre.call tok rfl rfl rfl rfl rfl c6 ?_
    refine APre.nil ?_
    refine AOps.run tok 2 _ _ _ _ rfl ?_
    refine AOps.nil ?_
    exact AW.ret rfl
end Lift
namespace Lift
open Go Go.Proofs
def rotF (v : Option Rat) (q : V2) : V2 := ((dirT v).1 * q.1 - (dirT v).2 * q.2, (dirT v).2 * q.1 + (dirT v).1 * q.2)
def appF (p : Option Rat × V2) (q : V2) : V2 := vadd (rotF p.1 q) p.2
theorem szV_rot (v : Option Rat) (q : V2) {k : Nat} (h : szT v ≤ k) (hq : szV q ≤ k) (h1 : 1 ≤ k) : szV (rotF v q) ≤ 10 * k + 9 := by
  have hd := szV_1 (szV_dir v h h1)
  have hq := szV_1 hq
  have a1 := LQ_mul (dirT v).1 q.1
  have a2 := LQ_mul (dirT v).2 q.2
  have a3 := LQ_mul (dirT v).2 q.1
  have a4 := LQ_mul (dirT v).1 q.2
  have a5 := LQ_sub ((dirT v).1 * q.1) ((dirT v).2 * q.2)
  have a6 := LQ_add ((dirT v).2 * q.1) ((dirT v).1 * q.2)
  show max (LQ ((dirT v).1 * q.1 - (dirT v).2 * q.2)) (LQ ((dirT v).2 * q.1 + (dirT v).1 * q.2)) ≤ _
  omega
theorem szV_add (a b : V2) {k m : Nat} (ha : szV a ≤ k) (hb : szV b ≤ m) : szV (vadd a b) ≤ k + m + 1 := by
  have ha := szV_1 ha
  have hb := szV_1 hb
  have a1 := LQ_add a.1 b.1
  have a2 := LQ_add a.2 b.2
  show max (LQ (a.1 + b.1)) (LQ (a.2 + b.2)) ≤ _
  omega
theorem szV_sub (a b : V2) {k m : Nat} (ha : szV a ≤ k) (hb : szV b ≤ m) : szV (vsub a b) ≤ k + m + 1 := by
  have ha := szV_1 ha
  have hb := szV_1 hb
  have a1 := LQ_sub a.1 b.1
  have a2 := LQ_sub a.2 b.2
  show max (LQ (a.1 - b.1)) (LQ (a.2 - b.2)) ≤ _
  omega
theorem szP_1 {p : Option Rat × V2} {k : Nat} (h : szP p ≤ k) : szT p.1 ≤ k ∧ szV p.2 ≤ k := by unfold szP at h; omega
theorem szV_app (p : Option Rat × V2) (q : V2) {k : Nat} (h : szP p ≤ k) (hq : szV q ≤ k) (h1 : 1 ≤ k) : szV (appF p q) ≤ 11 * k + 10 := by
  have := szV_add (rotF p.1 q) p.2 (szV_rot p.1 q (szP_1 h).1 hq h1) (szP_1 h).2
  unfold appF
  omega
theorem TQ_okB (v : Option Rat) : (TQ v).okB = true := by
  cases v with
  | none => unfold TD.okB TQ; rw [Qr_ok]; simp [Qr_val]
  | some t => unfold TD.okB TQ; rw [Qr_ok]; rfl
theorem turn_Cos_ok (v : Option Rat) {k : Nat} (h : szT v ≤ k) (h1 : 1 ≤ k) (hk : k ≤ 1000000) : Pure Tryz.prog 137 [(TQ v).D] (.tu [(Qr (dirT v).1).D, nilE]) := by
  refine Pure.intro (n := 19) tok Tryz.func137 rfl rfl rfl (Nat.le_of_ble_eq_true rfl) (by kernel_rfl) (fun B F0 w0 => ?_)
  have cc := turn_Check_ok (TQ v) (szT_w v h) (by omega)
  rw [TQ_okB, if_pos rfl] at cc
  have cd := turn_direction_ok v h h1 hk
  generalize TQ v = a at cc cd
  refine AW.seq ?_
  refine AW.region ?_
  refine AOps.run tok 3 _ _ _ _ rfl ?_
  refine AOps.nil ?_
  refine AW.seq ?_
  refine AW.seq ?_
  refine AW.region ?_
  refine AOps.run tok 1 _ _ _ _ rfl ?_
  refine AOps.call tok rfl rfl rfl rfl cc ?_
  refine AOps.run tok 1 _ _ _ _ rfl ?_
  refine AOps.nil ?_
  refine AW.seq ?_
  refine AW.region ?_
  refine AOps.run tok 1 _ _ _ _ rfl ?_
  refine AOps.err tok rfl rfl rfl rfl rfl ?_
  refine AOps.nil ?_
  refine AW.condF rfl ?_
  refine AW.skip ?_
  refine AW.seq ?_
  refine AW.region ?_
  refine AOps.run tok 1 _ _ _ _ rfl ?_
  refine AOps.call tok rfl rfl rfl rfl cd ?_
  refine AOps.run tok 7 _ _ _ _ rfl ?_
  refine AOps.nil ?_
  refine AW.seq ?_
  refine AW.region ?_
  refine AOps.run tok 3 _ _ _ _ rfl ?_
  refine AOps.nil ?_
  exact AW.ret rfl
theorem turn_Sin_ok (v : Option Rat) {k : Nat} (h : szT v ≤ k) (h1 : 1 ≤ k) (hk : k ≤ 1000000) : Pure Tryz.prog 138 [(TQ v).D] (.tu [(Qr (dirT v).2).D, nilE]) := by
  refine Pure.intro (n := 19) tok Tryz.func138 rfl rfl rfl (Nat.le_of_ble_eq_true rfl) (by kernel_rfl) (fun B F0 w0 => ?_)
  have cc := turn_Check_ok (TQ v) (szT_w v h) (by omega)
  rw [TQ_okB, if_pos rfl] at cc
  have cd := turn_direction_ok v h h1 hk
  generalize TQ v = a at cc cd
  refine AW.seq ?_
  refine AW.region ?_
  refine AOps.run tok 3 _ _ _ _ rfl ?_
  refine AOps.nil ?_
  refine AW.seq ?_
  refine AW.seq ?_
  refine AW.region ?_
  refine AOps.run tok 1 _ _ _ _ rfl ?_
  refine AOps.call tok rfl rfl rfl rfl cc ?_
  refine AOps.run tok 1 _ _ _ _ rfl ?_
  refine AOps.nil ?_
  refine AW.seq ?_
  refine AW.region ?_
  refine AOps.run tok 1 _ _ _ _ rfl ?_
  refine AOps.err tok rfl rfl rfl rfl rfl ?_
  refine AOps.nil ?_
  refine AW.condF rfl ?_
  refine AW.skip ?_
  refine AW.seq ?_
  refine AW.region ?_
  refine AOps.run tok 1 _ _ _ _ rfl ?_
  refine AOps.call tok rfl rfl rfl rfl cd ?_
  refine AOps.run tok 7 _ _ _ _ rfl ?_
  refine AOps.nil ?_
  refine AW.seq ?_
  refine AW.region ?_
  refine AOps.run tok 3 _ _ _ _ rfl ?_
  refine AOps.nil ?_
  exact AW.ret rfl
theorem pose_validPlace_ok (a : PD) {k : Nat} (h : a.w k) (hk : k ≤ 50000000) : Pure Tryz.prog 50 [a.D] (dB a.okB) := by
  refine Pure.intro (n := 11) tok Tryz.func50 rfl rfl rfl (Nat.le_of_ble_eq_true rfl) (by kernel_rfl) (fun B F0 w0 => ?_)
  have c1 := fraction_Valid_ok a.x h.1 hk
  have c2 := fraction_Valid_ok a.y h.2 hk
  unfold PD.okB
  obtain ⟨x, y⟩ := a
  simp only [] at c1 c2
  refine AW.seq ?_
  refine AW.region ?_
  refine AOps.run tok 2 _ _ _ _ rfl ?_
  refine AOps.nil ?_
  refine AW.seq ?_
  refine AW.region ?_
  refine AOps.run tok 2 _ _ _ _ rfl ?_
  refine AOps.call tok rfl rfl rfl rfl c1 ?_
  cases x.okB with
  | true =>
    refine AOps.run tok 3 _ _ _ _ rfl ?_
    refine AOps.call tok rfl rfl rfl rfl c2 ?_
    refine AOps.run tok 2 _ _ _ _ rfl ?_
    refine AOps.nil ?_
    exact AW.ret rfl
  | false =>
    refine AOps.run tok 6 _ _ _ _ rfl ?_
    refine AOps.nil ?_
    exact AW.ret rfl
theorem pose_Valid_ok (p : PoD) {k : Nat} (h : p.w k) (hk : k ≤ 20000000) : Pure Tryz.prog 34 [p.D] (dB p.okB) := by
  refine Pure.intro (n := 12) tok Tryz.func34 rfl rfl rfl (Nat.le_of_ble_eq_true rfl) (by kernel_rfl) (fun B F0 w0 => ?_)
  have c1 := turn_Check_ok p.t h.1 hk
  have c2 := pose_validPlace_ok p.l h.2 (by omega)
  unfold PoD.okB
  obtain ⟨t, l⟩ := p
  simp only [] at c1 c2
  refine AW.seq ?_
  refine AW.region ?_
  refine AOps.run tok 2 _ _ _ _ rfl ?_
  refine AOps.nil ?_
  refine AW.seq ?_
  refine AW.region ?_
  refine AOps.run tok 2 _ _ _ _ rfl ?_
  refine AOps.call tok rfl rfl rfl rfl c1 ?_
  cases t.okB with
  | true =>
    rw [if_pos rfl]
    refine AOps.err tok rfl rfl rfl rfl rfl ?_
    refine AOps.run tok 3 _ _ _ _ rfl ?_
    refine AOps.call tok rfl rfl rfl rfl c2 ?_
    refine AOps.run tok 2 _ _ _ _ rfl ?_
    refine AOps.nil ?_
    exact AW.ret rfl
  | false =>
    rw [if_neg (by simp)]
    refine AOps.err tok rfl rfl rfl rfl rfl ?_
    refine AOps.run tok 6 _ _ _ _ rfl ?_
    refine AOps.nil ?_
    exact AW.ret rfl
theorem pose_Direction_ok (v : Option Rat) {k : Nat} (h : szT v ≤ k) (h1 : 1 ≤ k) (hk : k ≤ 1000000) : Pure Tryz.prog 98 [(TQ v).D] (.tu [(Qr (dirT v).1).D, (Qr (dirT v).2).D, nilE]) := by
  refine Pure.intro (n := 29) tok Tryz.func98 rfl rfl rfl (Nat.le_of_ble_eq_true rfl) (by kernel_rfl) (fun B F0 w0 => ?_)
  have cc := turn_Check_ok (TQ v) (szT_w v h) (by omega)
  rw [TQ_okB, if_pos rfl] at cc
  have c1 := turn_Cos_ok v h h1 hk
  have c2 := turn_Sin_ok v h h1 hk
  generalize TQ v = a at cc c1 c2
  generalize Qr (dirT v).1 = x at c1 ⊢
  generalize Qr (dirT v).2 = y at c2 ⊢
  refine AW.seq ?_
  refine AW.region ?_
  refine AOps.run tok 4 _ _ _ _ rfl ?_
  refine AOps.nil ?_
  refine AW.seq ?_
  refine AW.seq ?_
  refine AW.region ?_
  refine AOps.run tok 1 _ _ _ _ rfl ?_
  refine AOps.call tok rfl rfl rfl rfl cc ?_
  refine AOps.err tok rfl rfl rfl rfl rfl ?_
  refine AOps.nil ?_
  refine AW.condF rfl ?_
  refine AW.skip ?_
  refine AW.seq ?_
  refine AW.seq ?_
  refine AW.region ?_
  refine AOps.run tok 1 _ _ _ _ rfl ?_
  refine AOps.call tok rfl rfl rfl rfl c1 ?_
  refine AOps.run tok 5 _ _ _ _ rfl ?_
  refine AOps.nil ?_
  refine AW.seq ?_
  refine AW.region ?_
  refine AOps.run tok 1 _ _ _ _ rfl ?_
  refine AOps.err tok rfl rfl rfl rfl rfl ?_
  refine AOps.nil ?_
  refine AW.condF rfl ?_
  refine AW.skip ?_
  refine AW.seq ?_
  refine AW.region ?_
  refine AOps.run tok 1 _ _ _ _ rfl ?_
  refine AOps.call tok rfl rfl rfl rfl c2 ?_
  refine AOps.run tok 5 _ _ _ _ rfl ?_
  refine AOps.nil ?_
  refine AW.cut [2, 3, 4] (fun _ : Unit => [(2, .bx x.D.flat), (3, .bx y.D.flat), (4, .d nilE)]) (fun _ => True) ?_ (fun _ _ => ?_)
  · refine AZ.aw ?_
    refine AZ.to [1, 2, 3, 4] [(1, .bx a.D.flat), (2, .bx x.D.flat), (3, .bx y.D.flat), (4, .d nilE)] rfl ?_
    refine AZ.any hmix (ZH.any (β := [(1, a.D.flat)]) ?_)
    refine ZH.meet 0 #[true, true, true, true, true, true] (fun V => []) (fun V => [(1, .bx a.D.flat), (2, .bx x.D.flat), (3, .bx y.D.flat), (4, .d nilE)]) (fun V => ?_) (fun N4_1_1 => ?_)
    · refine ZH.done (by kernel_rfl) ⟨rfl, trivial⟩ ?_
      exact ⟨(), rfl, trivial⟩
    refine ZH.meet 1 #[true, true, true, true, true, false] (fun V => []) (fun V => [(1, .bx a.D.flat), (2, .bx x.D.flat), (3, .bx y.D.flat), (4, .d nilE), (28, .d nilE)]) (fun V => ?_) (fun N3_1_1 => ?_)
    · refine ZH.all 5 (by kernel_rfl) rfl rfl (fun _ => rfl) ⟨rfl, trivial⟩ ?_
      refine one_step (fun B1 F1 w1 => ?_)
      refine AOps.run tok 1 _ _ _ _ rfl ?_
      refine AOps.nil ⟨rfl, ?_⟩
      refine ZH.to [1, 2, 3, 4] [(1, .bx a.D.flat), (2, .bx x.D.flat), (3, .bx y.D.flat), (4, .d nilE)] rfl ⟨rfl, trivial⟩ ?_
      exact ZH.ls _ (by kernel_rfl) (N4_1_1 V)
    refine ZH.meet 2 #[true, true, true, true, false, false] (fun V => []) (fun V => [(1, .bx a.D.flat), (2, .bx x.D.flat), (3, .bx y.D.flat), (4, .d nilE), (27, .d y.D), (28, .d nilE)]) (fun V => ?_) (fun N2_1_1 => ?_)
    · refine ZH.all 4 (by kernel_rfl) rfl rfl (fun _ => rfl) ⟨rfl, trivial⟩ ?_
      refine one_step (fun B1 F1 w1 => ?_)
      refine AOps.run tok 1 _ _ _ _ rfl ?_
      refine AOps.nil ⟨rfl, ?_⟩
      refine ZH.to [1, 2, 3, 4, 28] [(1, .bx a.D.flat), (2, .bx x.D.flat), (3, .bx y.D.flat), (4, .d nilE), (28, .d nilE)] rfl ⟨rfl, trivial⟩ ?_
      exact ZH.ls _ (by kernel_rfl) (N3_1_1 V)
    refine ZH.meet 2 #[true, true, false, true, true, false] (fun V => []) (fun V => [(1, .bx a.D.flat), (2, .bx x.D.flat), (3, .bx y.D.flat), (4, .d nilE)]) (fun V => ?_) (fun N3_1_0 => ?_)
    · refine ZH.all 2 (by kernel_rfl) rfl rfl (fun _ => rfl) ⟨rfl, trivial⟩ ?_
      refine one_step (fun B1 F1 w1 => ?_)
      refine AOps.run tok 1 _ _ _ _ rfl ?_
      refine AOps.nil ⟨rfl, ?_⟩
      refine ZH.to [1, 2, 3, 4, 28] [(1, .bx a.D.flat), (2, .bx x.D.flat), (3, .bx y.D.flat), (4, .d nilE), (28, .d nilE)] rfl ⟨rfl, trivial⟩ ?_
      exact ZH.ls _ (by kernel_rfl) (N3_1_1 V)
    refine ZH.meet 3 #[true, true, true, false, false, false] (fun V => []) (fun V => [(1, .bx a.D.flat), (2, .bx x.D.flat), (3, .bx y.D.flat), (4, .d nilE), (26, .d x.D), (27, .d y.D), (28, .d nilE)]) (fun V => ?_) (fun N1_1_1 => ?_)
    · refine ZH.all 3 (by kernel_rfl) rfl rfl (fun _ => rfl) ⟨rfl, trivial⟩ ?_
      refine one_step (fun B1 F1 w1 => ?_)
      refine AOps.run tok 1 _ _ _ _ rfl ?_
      refine AOps.nil ⟨rfl, ?_⟩
      refine ZH.to [1, 2, 3, 4, 27, 28] [(1, .bx a.D.flat), (2, .bx x.D.flat), (3, .bx y.D.flat), (4, .d nilE), (27, .d y.D), (28, .d nilE)] rfl ⟨rfl, trivial⟩ ?_
      exact ZH.ls _ (by kernel_rfl) (N2_1_1 V)
    refine ZH.meet 3 #[true, false, true, true, false, false] (fun V => []) (fun V => [(1, .bx a.D.flat), (2, .bx x.D.flat), (3, .bx y.D.flat), (4, .d nilE), (28, .d nilE)]) (fun V => ?_) (fun N2_0_1 => ?_)
    · refine ZH.all 1 (by kernel_rfl) rfl rfl (fun _ => rfl) ⟨rfl, trivial⟩ ?_
      refine one_step (fun B1 F1 w1 => ?_)
      refine AOps.run tok 1 _ _ _ _ rfl ?_
      refine AOps.nil ⟨rfl, ?_⟩
      refine ZH.to [1, 2, 3, 4, 27, 28] [(1, .bx a.D.flat), (2, .bx x.D.flat), (3, .bx y.D.flat), (4, .d nilE), (27, .d y.D), (28, .d nilE)] rfl ⟨rfl, trivial⟩ ?_
      exact ZH.ls _ (by kernel_rfl) (N2_1_1 V)
    refine ZH.meet 3 #[true, true, false, true, false, false] (fun V => []) (fun V => [(1, .bx a.D.flat), (2, .bx x.D.flat), (3, .bx y.D.flat), (4, .d nilE), (27, .d y.D)]) (fun V => ?_) (fun N2_1_0 => ?_)
    · refine ZH.two 2 4 (by kernel_rfl) rfl rfl rfl rfl (fun _ => rfl) (fun _ => rfl) ⟨rfl, trivial⟩ ?_ ?_
      · refine one_step (fun B1 F1 w1 => ?_)
        refine AOps.run tok 1 _ _ _ _ rfl ?_
        refine AOps.nil ⟨rfl, ?_⟩
        refine ZH.to [1, 2, 3, 4, 27, 28] [(1, .bx a.D.flat), (2, .bx x.D.flat), (3, .bx y.D.flat), (4, .d nilE), (27, .d y.D), (28, .d nilE)] rfl ⟨rfl, trivial⟩ ?_
        exact ZH.ls _ (by kernel_rfl) (N2_1_1 V)
      · refine one_step (fun B1 F1 w1 => ?_)
        refine AOps.run tok 1 _ _ _ _ rfl ?_
        refine AOps.nil ⟨rfl, ?_⟩
        refine ZH.to [1, 2, 3, 4] [(1, .bx a.D.flat), (2, .bx x.D.flat), (3, .bx y.D.flat), (4, .d nilE)] rfl ⟨rfl, trivial⟩ ?_
        exact ZH.ls _ (by kernel_rfl) (N3_1_0 V)
    refine ZH.meet 4 #[false, true, true, false, false, false] (fun V => []) (fun V => [(1, .bx a.D.flat), (2, .bx x.D.flat), (3, .bx y.D.flat), (4, .d nilE), (27, .d y.D), (28, .d nilE)]) (fun V => ?_) (fun N0_1_1 => ?_)
    · refine ZH.all 0 (by kernel_rfl) rfl rfl (fun _ => rfl) ⟨rfl, trivial⟩ ?_
      refine one_step (fun B1 F1 w1 => ?_)
      refine AOps.run tok 1 _ _ _ _ rfl ?_
      refine AOps.nil ⟨rfl, ?_⟩
      refine ZH.to [1, 2, 3, 4, 26, 27, 28] [(1, .bx a.D.flat), (2, .bx x.D.flat), (3, .bx y.D.flat), (4, .d nilE), (26, .d x.D), (27, .d y.D), (28, .d nilE)] rfl ⟨rfl, trivial⟩ ?_
      exact ZH.ls _ (by kernel_rfl) (N1_1_1 V)
    refine ZH.meet 4 #[true, false, true, false, false, false] (fun V => []) (fun V => [(1, .bx a.D.flat), (2, .bx x.D.flat), (3, .bx y.D.flat), (4, .d nilE), (26, .d x.D), (28, .d nilE)]) (fun V => ?_) (fun N1_0_1 => ?_)
    · refine ZH.two 1 3 (by kernel_rfl) rfl rfl rfl rfl (fun _ => rfl) (fun _ => rfl) ⟨rfl, trivial⟩ ?_ ?_
      · refine one_step (fun B1 F1 w1 => ?_)
        refine AOps.run tok 1 _ _ _ _ rfl ?_
        refine AOps.nil ⟨rfl, ?_⟩
        refine ZH.to [1, 2, 3, 4, 26, 27, 28] [(1, .bx a.D.flat), (2, .bx x.D.flat), (3, .bx y.D.flat), (4, .d nilE), (26, .d x.D), (27, .d y.D), (28, .d nilE)] rfl ⟨rfl, trivial⟩ ?_
        exact ZH.ls _ (by kernel_rfl) (N1_1_1 V)
      · refine one_step (fun B1 F1 w1 => ?_)
        refine AOps.run tok 1 _ _ _ _ rfl ?_
        refine AOps.nil ⟨rfl, ?_⟩
        refine ZH.to [1, 2, 3, 4, 28] [(1, .bx a.D.flat), (2, .bx x.D.flat), (3, .bx y.D.flat), (4, .d nilE), (28, .d nilE)] rfl ⟨rfl, trivial⟩ ?_
        exact ZH.ls _ (by kernel_rfl) (N2_0_1 V)
    refine ZH.meet 4 #[true, true, false, false, false, false] (fun V => []) (fun V => [(1, .bx a.D.flat), (2, .bx x.D.flat), (3, .bx y.D.flat), (4, .d nilE), (26, .d x.D), (27, .d y.D)]) (fun V => ?_) (fun N1_1_0 => ?_)
    · refine ZH.two 2 3 (by kernel_rfl) rfl rfl rfl rfl (fun _ => rfl) (fun _ => rfl) ⟨rfl, trivial⟩ ?_ ?_
      · refine one_step (fun B1 F1 w1 => ?_)
        refine AOps.run tok 1 _ _ _ _ rfl ?_
        refine AOps.nil ⟨rfl, ?_⟩
        refine ZH.to [1, 2, 3, 4, 26, 27, 28] [(1, .bx a.D.flat), (2, .bx x.D.flat), (3, .bx y.D.flat), (4, .d nilE), (26, .d x.D), (27, .d y.D), (28, .d nilE)] rfl ⟨rfl, trivial⟩ ?_
        exact ZH.ls _ (by kernel_rfl) (N1_1_1 V)
      · refine one_step (fun B1 F1 w1 => ?_)
        refine AOps.run tok 1 _ _ _ _ rfl ?_
        refine AOps.nil ⟨rfl, ?_⟩
        refine ZH.to [1, 2, 3, 4, 27] [(1, .bx a.D.flat), (2, .bx x.D.flat), (3, .bx y.D.flat), (4, .d nilE), (27, .d y.D)] rfl ⟨rfl, trivial⟩ ?_
        exact ZH.ls _ (by kernel_rfl) (N2_1_0 V)
    refine ZH.meet 4 #[true, false, false, true, false, false] (fun V => []) (fun V => [(1, .bx a.D.flat), (2, .bx x.D.flat), (3, .bx y.D.flat), (4, .d nilE)]) (fun V => ?_) (fun N2_0_0 => ?_)
    · refine ZH.two 1 2 (by kernel_rfl) rfl rfl rfl rfl (fun _ => rfl) (fun _ => rfl) ⟨rfl, trivial⟩ ?_ ?_
      · refine one_step (fun B1 F1 w1 => ?_)
        refine AOps.run tok 1 _ _ _ _ rfl ?_
        refine AOps.nil ⟨rfl, ?_⟩
        refine ZH.to [1, 2, 3, 4, 27] [(1, .bx a.D.flat), (2, .bx x.D.flat), (3, .bx y.D.flat), (4, .d nilE), (27, .d y.D)] rfl ⟨rfl, trivial⟩ ?_
        exact ZH.ls _ (by kernel_rfl) (N2_1_0 V)
      · refine one_step (fun B1 F1 w1 => ?_)
        refine AOps.run tok 1 _ _ _ _ rfl ?_
        refine AOps.nil ⟨rfl, ?_⟩
        refine ZH.to [1, 2, 3, 4, 28] [(1, .bx a.D.flat), (2, .bx x.D.flat), (3, .bx y.D.flat), (4, .d nilE), (28, .d nilE)] rfl ⟨rfl, trivial⟩ ?_
        exact ZH.ls _ (by kernel_rfl) (N2_0_1 V)
    refine ZH.meet 5 #[false, false, true, false, false, false] (fun V => []) (fun V => [(1, .bx a.D.flat), (2, .bx x.D.flat), (3, .bx y.D.flat), (4, .d nilE), (28, .d nilE)]) (fun V => ?_) (fun N0_0_1 => ?_)
    · refine ZH.two 0 1 (by kernel_rfl) rfl rfl rfl rfl (fun _ => rfl) (fun _ => rfl) ⟨rfl, trivial⟩ ?_ ?_
      · refine one_step (fun B1 F1 w1 => ?_)
        refine AOps.run tok 1 _ _ _ _ rfl ?_
        refine AOps.nil ⟨rfl, ?_⟩
        refine ZH.to [1, 2, 3, 4, 26, 28] [(1, .bx a.D.flat), (2, .bx x.D.flat), (3, .bx y.D.flat), (4, .d nilE), (26, .d x.D), (28, .d nilE)] rfl ⟨rfl, trivial⟩ ?_
        exact ZH.ls _ (by kernel_rfl) (N1_0_1 V)
      · refine one_step (fun B1 F1 w1 => ?_)
        refine AOps.run tok 1 _ _ _ _ rfl ?_
        refine AOps.nil ⟨rfl, ?_⟩
        refine ZH.to [1, 2, 3, 4, 27, 28] [(1, .bx a.D.flat), (2, .bx x.D.flat), (3, .bx y.D.flat), (4, .d nilE), (27, .d y.D), (28, .d nilE)] rfl ⟨rfl, trivial⟩ ?_
        exact ZH.ls _ (by kernel_rfl) (N0_1_1 V)
    refine ZH.meet 5 #[false, true, false, false, false, false] (fun V => []) (fun V => [(1, .bx a.D.flat), (2, .bx x.D.flat), (3, .bx y.D.flat), (4, .d nilE), (27, .d y.D)]) (fun V => ?_) (fun N0_1_0 => ?_)
    · refine ZH.two 0 2 (by kernel_rfl) rfl rfl rfl rfl (fun _ => rfl) (fun _ => rfl) ⟨rfl, trivial⟩ ?_ ?_
      · refine one_step (fun B1 F1 w1 => ?_)
        refine AOps.run tok 1 _ _ _ _ rfl ?_
        refine AOps.nil ⟨rfl, ?_⟩
        refine ZH.to [1, 2, 3, 4, 26, 27] [(1, .bx a.D.flat), (2, .bx x.D.flat), (3, .bx y.D.flat), (4, .d nilE), (26, .d x.D), (27, .d y.D)] rfl ⟨rfl, trivial⟩ ?_
        exact ZH.ls _ (by kernel_rfl) (N1_1_0 V)
      · refine one_step (fun B1 F1 w1 => ?_)
        refine AOps.run tok 1 _ _ _ _ rfl ?_
        refine AOps.nil ⟨rfl, ?_⟩
        refine ZH.to [1, 2, 3, 4, 27, 28] [(1, .bx a.D.flat), (2, .bx x.D.flat), (3, .bx y.D.flat), (4, .d nilE), (27, .d y.D), (28, .d nilE)] rfl ⟨rfl, trivial⟩ ?_
        exact ZH.ls _ (by kernel_rfl) (N0_1_1 V)
    refine ZH.meet 5 #[true, false, false, false, false, false] (fun V => []) (fun V => [(1, .bx a.D.flat), (2, .bx x.D.flat), (3, .bx y.D.flat), (4, .d nilE), (26, .d x.D)]) (fun V => ?_) (fun N1_0_0 => ?_)
    · refine ZH.three 1 2 3 (by kernel_rfl) rfl rfl rfl rfl rfl rfl (fun _ => rfl) (fun _ => rfl) (fun _ => rfl) ⟨rfl, trivial⟩ ?_ ?_ ?_
      · refine one_step (fun B1 F1 w1 => ?_)
        refine AOps.run tok 1 _ _ _ _ rfl ?_
        refine AOps.nil ⟨rfl, ?_⟩
        refine ZH.to [1, 2, 3, 4, 26, 27] [(1, .bx a.D.flat), (2, .bx x.D.flat), (3, .bx y.D.flat), (4, .d nilE), (26, .d x.D), (27, .d y.D)] rfl ⟨rfl, trivial⟩ ?_
        exact ZH.ls _ (by kernel_rfl) (N1_1_0 V)
      · refine one_step (fun B1 F1 w1 => ?_)
        refine AOps.run tok 1 _ _ _ _ rfl ?_
        refine AOps.nil ⟨rfl, ?_⟩
        refine ZH.to [1, 2, 3, 4, 26, 28] [(1, .bx a.D.flat), (2, .bx x.D.flat), (3, .bx y.D.flat), (4, .d nilE), (26, .d x.D), (28, .d nilE)] rfl ⟨rfl, trivial⟩ ?_
        exact ZH.ls _ (by kernel_rfl) (N1_0_1 V)
      · refine one_step (fun B1 F1 w1 => ?_)
        refine AOps.run tok 1 _ _ _ _ rfl ?_
        refine AOps.nil ⟨rfl, ?_⟩
        refine ZH.to [1, 2, 3, 4] [(1, .bx a.D.flat), (2, .bx x.D.flat), (3, .bx y.D.flat), (4, .d nilE)] rfl ⟨rfl, trivial⟩ ?_
        exact ZH.ls _ (by kernel_rfl) (N2_0_0 V)
    refine ZH.meet 6 #[false, false, false, false, false, false] (fun V => []) (fun V => [(1, .bx a.D.flat), (2, .bx x.D.flat), (3, .bx y.D.flat), (4, .d nilE)]) (fun V => ?_) (fun N0_0_0 => ?_)
    · refine ZH.three 0 1 2 (by kernel_rfl) rfl rfl rfl rfl rfl rfl (fun _ => rfl) (fun _ => rfl) (fun _ => rfl) ⟨rfl, trivial⟩ ?_ ?_ ?_
      · refine one_step (fun B1 F1 w1 => ?_)
        refine AOps.run tok 1 _ _ _ _ rfl ?_
        refine AOps.nil ⟨rfl, ?_⟩
        refine ZH.to [1, 2, 3, 4, 26] [(1, .bx a.D.flat), (2, .bx x.D.flat), (3, .bx y.D.flat), (4, .d nilE), (26, .d x.D)] rfl ⟨rfl, trivial⟩ ?_
        exact ZH.ls _ (by kernel_rfl) (N1_0_0 V)
      · refine one_step (fun B1 F1 w1 => ?_)
        refine AOps.run tok 1 _ _ _ _ rfl ?_
        refine AOps.nil ⟨rfl, ?_⟩
        refine ZH.to [1, 2, 3, 4, 27] [(1, .bx a.D.flat), (2, .bx x.D.flat), (3, .bx y.D.flat), (4, .d nilE), (27, .d y.D)] rfl ⟨rfl, trivial⟩ ?_
        exact ZH.ls _ (by kernel_rfl) (N0_1_0 V)
      · refine one_step (fun B1 F1 w1 => ?_)
        refine AOps.run tok 1 _ _ _ _ rfl ?_
        refine AOps.nil ⟨rfl, ?_⟩
        refine ZH.to [1, 2, 3, 4, 28] [(1, .bx a.D.flat), (2, .bx x.D.flat), (3, .bx y.D.flat), (4, .d nilE), (28, .d nilE)] rfl ⟨rfl, trivial⟩ ?_
        exact ZH.ls _ (by kernel_rfl) (N0_0_1 V)
    refine ZH.to [1, 2, 3, 4] [(1, .bx a.D.flat), (2, .bx x.D.flat), (3, .bx y.D.flat), (4, .d nilE)] rfl ⟨rfl, trivial⟩ ?_
    exact ZH.ls _ (by kernel_rfl) (N0_0_0 nilS)
  exact AW.ret rfl
theorem pose_rotate_ok (v : Option Rat) (q : V2) {k : Nat} (h : szT v ≤ k) (hq : szV q ≤ k) (h1 : 1 ≤ k) (hk : k ≤ 100000) : Pure Tryz.prog 51 [(TQ v).D, (VQ q).D] (.tu [(VQ (rotF v q)).D, nilE]) := by
  refine Pure.intro (n := 38) tok Tryz.func51 rfl rfl rfl (Nat.le_of_ble_eq_true rfl) (by kernel_rfl) (fun B F0 w0 => ?_)
  have cd := pose_Direction_ok v h h1 (by omega)
  have hd := szV_1 (szV_dir v h h1)
  have hq := szV_1 hq
  have a1 := LQ_mul (dirT v).1 q.1
  have a2 := LQ_mul (dirT v).2 q.2
  have a3 := LQ_mul (dirT v).2 q.1
  have a4 := LQ_mul (dirT v).1 q.2
  unfold rotF
  generalize (dirT v).1 = c at *
  generalize (dirT v).2 = s at *
  obtain ⟨x, y⟩ := q
  simp only [] at hq a1 a2 a3 a4
  have m1 := fraction_Mul_ok (Qr c) (Qr x) (k := 4 * k + 4) (Qr_w _ (by omega)) (Qr_w _ (by omega)) (by omega)
  have m2 := fraction_Mul_ok (Qr s) (Qr y) (k := 4 * k + 4) (Qr_w _ (by omega)) (Qr_w _ (by omega)) (by omega)
  have m3 := fraction_Mul_ok (Qr s) (Qr x) (k := 4 * k + 4) (Qr_w _ (by omega)) (Qr_w _ (by omega)) (by omega)
  have m4 := fraction_Mul_ok (Qr c) (Qr y) (k := 4 * k + 4) (Qr_w _ (by omega)) (Qr_w _ (by omega)) (by omega)
  have m5 := fraction_Sub_ok (Qr (c * x)) (Qr (s * y)) (k := 5 * k + 4) (Qr_w _ (by omega)) (Qr_w _ (by omega)) (by omega)
  have m6 := fraction_Add_ok (Qr (s * x)) (Qr (c * y)) (k := 5 * k + 4) (Qr_w _ (by omega)) (Qr_w _ (by omega)) (by omega)
  simp only [Qr_val] at m1 m2 m3 m4 m5 m6
  generalize TQ v = a at cd
  refine AW.seq ?_
  refine AW.region ?_
  refine AOps.run tok 4 _ _ _ _ rfl ?_
  refine AOps.nil ?_
  refine AW.seq ?_
  refine AW.region ?_
  refine AOps.run tok 1 _ _ _ _ rfl ?_
  refine AOps.call tok rfl rfl rfl rfl cd ?_
  refine AOps.run tok 9 _ _ _ _ rfl ?_
  refine AOps.nil ?_
  refine AW.seq ?_
  refine AW.seq ?_
  refine AW.region ?_
  refine AOps.run tok 1 _ _ _ _ rfl ?_
  refine AOps.err tok rfl rfl rfl rfl rfl ?_
  refine AOps.nil ?_
  refine AW.condF rfl ?_
  refine AW.skip ?_
  refine AW.seq ?_
  refine AW.draw hmix 19 (by kernel_rfl) ?_
  refine APre.run tok 3 _ _ _ _ rfl ?_
  refine APre.call tok rfl rfl rfl rfl rfl m1 ?_
  refine APre.run tok 3 _ _ _ _ rfl ?_
  refine APre.call tok rfl rfl rfl rfl rfl m2 ?_
  refine APre.call tok rfl rfl rfl rfl rfl m5 ?_
  refine APre.run tok 3 _ _ _ _ rfl ?_
  refine APre.call tok rfl rfl rfl rfl rfl m3 ?_
  refine APre.run tok 3 _ _ _ _ rfl ?_
  refine APre.call tok rfl rfl rfl rfl rfl m4 ?_
  refine APre.call tok rfl rfl rfl rfl rfl m6 ?_
  refine APre.run tok 1 _ _ _ _ rfl ?_
  refine APre.nil ?_
  refine AOps.run tok 2 _ _ _ _ rfl ?_
  refine AOps.nil ?_
  exact AW.ret rfl
theorem pose_add_ok (a b : V2) {k : Nat} (ha : szV a ≤ k) (hb : szV b ≤ k) (hk : k ≤ 20000000) : Pure Tryz.prog 52 [(VQ a).D, (VQ b).D] (VQ (vadd a b)).D := by
  refine Pure.intro (n := 16) tok Tryz.func52 rfl rfl rfl (Nat.le_of_ble_eq_true rfl) (by kernel_rfl) (fun B F0 w0 => ?_)
  have ha := szV_1 ha
  have hb := szV_1 hb
  have m1 := fraction_Add_ok (Qr a.1) (Qr b.1) (k := k) (Qr_w _ (by omega)) (Qr_w _ (by omega)) (by omega)
  have m2 := fraction_Add_ok (Qr a.2) (Qr b.2) (k := k) (Qr_w _ (by omega)) (Qr_w _ (by omega)) (by omega)
  simp only [Qr_val] at m1 m2
  refine AW.seq ?_
  refine AW.region ?_
  refine AOps.run tok 3 _ _ _ _ rfl ?_
  refine AOps.nil ?_
  refine AW.seq ?_
  refine AW.draw hmix 11 (by kernel_rfl) ?_
  refine APre.run tok 4 _ _ _ _ rfl ?_
  refine APre.call tok rfl rfl rfl rfl rfl m1 ?_
  refine APre.run tok 4 _ _ _ _ rfl ?_
  refine APre.call tok rfl rfl rfl rfl rfl m2 ?_
  refine APre.run tok 1 _ _ _ _ rfl ?_
  refine APre.nil ?_
  refine AOps.run tok 1 _ _ _ _ rfl ?_
  refine AOps.nil ?_
  exact AW.ret rfl
theorem PoQ_okB (p : Option Rat × V2) : (PoQ p).okB = true := by unfold PoD.okB; rw [TQ_okB, VQ_ok]; rfl
theorem PoQ_w {p : Option Rat × V2} {k : Nat} (h : szP p ≤ k) : (PoQ p).w k := ⟨szT_w _ (szP_1 h).1, VQ_w (szP_1 h).2⟩
theorem pose_Apply_ok (p : Option Rat × V2) (q : V2) {k : Nat} (h : szP p ≤ k) (hq : szV q ≤ k) (h1 : 1 ≤ k) (hk : k ≤ 100000) : Pure Tryz.prog 20 [(PoQ p).D, (VQ q).D] (.tu [(VQ (appF p q)).D, nilE]) := by
  refine Pure.intro (n := 33) tok Tryz.func20 rfl rfl rfl (Nat.le_of_ble_eq_true rfl) (by kernel_rfl) (fun B F0 w0 => ?_)
  have c1 := pose_Valid_ok (PoQ p) (PoQ_w h) (by omega)
  rw [PoQ_okB] at c1
  have c2 := pose_validPlace_ok (VQ q) (VQ_w hq) (by omega)
  rw [VQ_ok] at c2
  have c3 := pose_rotate_ok p.1 q (szP_1 h).1 hq h1 hk
  have c4 := pose_add_ok (rotF p.1 q) p.2 (k := 11 * k + 10) (Nat.le_trans (szV_rot p.1 q (szP_1 h).1 hq h1) (by omega)) (Nat.le_trans (szP_1 h).2 (by omega)) (by omega)
  unfold appF
  generalize rotF p.1 q = r at c3 c4 ⊢
  refine AW.seq ?_
  refine AW.region ?_
  refine AOps.run tok 4 _ _ _ _ rfl ?_
  refine AOps.nil ?_
  refine AW.seq ?_
  refine AW.seq ?_
  refine AW.region ?_
  refine AOps.run tok 1 _ _ _ _ rfl ?_
  refine AOps.call tok rfl rfl rfl rfl c1 ?_
  refine AOps.run tok 3 _ _ _ _ rfl ?_
  refine AOps.call tok rfl rfl rfl rfl c2 ?_
  refine AOps.run tok 2 _ _ _ _ rfl ?_
  refine AOps.nil ?_
  refine AW.condF rfl ?_
  refine AW.skip ?_
  refine AW.seq ?_
  refine AW.region ?_
  refine AOps.run tok 3 _ _ _ _ rfl ?_
  refine AOps.call tok rfl rfl rfl rfl c3 ?_
  refine AOps.run tok 6 _ _ _ _ rfl ?_
  refine AOps.nil ?_
  refine AW.seq ?_
  refine AW.seq ?_
  refine AW.region ?_
  refine AOps.run tok 1 _ _ _ _ rfl ?_
  refine AOps.err tok rfl rfl rfl rfl rfl ?_
  refine AOps.nil ?_
  refine AW.condF rfl ?_
  refine AW.skip ?_
  refine AW.seq ?_
  refine AW.region ?_
  refine AOps.run tok 3 _ _ _ _ rfl ?_
  refine AOps.call tok rfl rfl rfl rfl c4 ?_
  refine AOps.run tok 2 _ _ _ _ rfl ?_
  refine AOps.nil ?_
  exact AW.ret rfl
end Lift
namespace Lift
open Go Go.Proofs
structure DyD where
  c : PD
  m : PD
  r : RD
abbrev DyD.D (d : DyD) : D := .ag [dB d.c.x.g, Wd d.c.x.n, Wd d.c.x.d, dB d.c.y.g, Wd d.c.y.n, Wd d.c.y.d, dB d.m.x.g, Wd d.m.x.n, Wd d.m.x.d, dB d.m.y.g, Wd d.m.y.n, Wd d.m.y.d, dB d.r.g, Wd d.r.n, Wd d.r.d]
def DyD.okB (d : DyD) : Bool := d.c.okB && d.m.okB && d.r.okB
def DyD.w (k : Nat) (d : DyD) : Prop := d.c.w k ∧ d.m.w k ∧ d.r.w k
abbrev DyQ (d : V2 × V2 × Rat) : DyD := ⟨VQ d.1, VQ d.2.1, Qr d.2.2⟩
def DyD.val (d : DyD) : V2 × V2 × Rat := (d.c.val, d.m.val, d.r.val)
theorem DyD.canon {d : DyD} {k : Nat} (hw : d.w k) (h : d.okB = true) : d = DyQ d.val := by
  obtain ⟨c, m, r⟩ := d
  unfold DyD.okB at h
  rw [Bool.and_eq_true, Bool.and_eq_true] at h
  have h1 := PD.canon hw.1 h.1.1
  have h2 := PD.canon hw.2.1 h.1.2
  have h3 := RD.canon hw.2.2 h.2
  show DyD.mk c m r = DyD.mk (VQ c.val) (VQ m.val) (Qr r.val)
  have h1 : c = VQ c.val := h1
  have h2 : m = VQ m.val := h2
  have h3 : r = Qr r.val := h3
  rw [← h1, ← h2, ← h3]
instance : Inhabited PoD := ⟨PoQ (none, (0, 0))⟩
abbrev PoL (l : List PoD) : D := .sl 10 (l.map PoD.D)
abbrev VL (l : List V2) : D := .sl 6 (l.map (fun v => (VQ v).D))
theorem LQ_dt (a b : V2) {k m : Nat} (ha : szV a ≤ k) (hb : szV b ≤ m) : LQ (dt a b) ≤ 2 * (k + m) + 1 ∧ LQ (crs a b) ≤ 2 * (k + m) + 1 := by
  have ha := szV_1 ha
  have hb := szV_1 hb
  have a1 := LQ_mul a.1 b.1
  have a2 := LQ_mul a.2 b.2
  have a3 := LQ_mul a.1 b.2
  have a4 := LQ_mul a.2 b.1
  have a5 := LQ_add (a.1 * b.1) (a.2 * b.2)
  have a6 := LQ_sub (a.1 * b.2) (a.2 * b.1)
  constructor
  · show LQ (a.1 * b.1 + a.2 * b.2) ≤ _; omega
  · show LQ (a.1 * b.2 - a.2 * b.1) ≤ _; omega
theorem defects_sub_ok (a b : V2) {k : Nat} (ha : szV a ≤ k) (hb : szV b ≤ k) (hk : k ≤ 1000000) : Pure Tryz.prog 78 [(VQ a).D, (VQ b).D] (VQ (vsub a b)).D := by
  refine Pure.intro (n := 16) tok Tryz.func78 rfl rfl rfl (Nat.le_of_ble_eq_true rfl) (by kernel_rfl) (fun B F0 w0 => ?_)
  have ha := szV_1 ha
  have hb := szV_1 hb
  have m1 := fraction_Sub_ok (Qr a.1) (Qr b.1) (k := k) (Qr_w _ (by omega)) (Qr_w _ (by omega)) (by omega)
  have m2 := fraction_Sub_ok (Qr a.2) (Qr b.2) (k := k) (Qr_w _ (by omega)) (Qr_w _ (by omega)) (by omega)
  simp only [Qr_val] at m1 m2
  refine AW.seq ?_
  refine AW.region ?_
  refine AOps.run tok 3 _ _ _ _ rfl ?_
  refine AOps.nil ?_
  refine AW.seq ?_
  refine AW.draw hmix 11 (by kernel_rfl) ?_
  refine APre.run tok 4 _ _ _ _ rfl ?_
  refine APre.call tok rfl rfl rfl rfl rfl m1 ?_
  refine APre.run tok 4 _ _ _ _ rfl ?_
  refine APre.call tok rfl rfl rfl rfl rfl m2 ?_
  refine APre.run tok 1 _ _ _ _ rfl ?_
  refine APre.nil ?_
  refine AOps.run tok 1 _ _ _ _ rfl ?_
  refine AOps.nil ?_
  exact AW.ret rfl
theorem threepos_sub_ok (a b : V2) {k : Nat} (ha : szV a ≤ k) (hb : szV b ≤ k) (hk : k ≤ 1000000) : Pure Tryz.prog 157 [(VQ a).D, (VQ b).D] (VQ (vsub a b)).D := by
  refine Pure.intro (n := 16) tok Tryz.func157 rfl rfl rfl (Nat.le_of_ble_eq_true rfl) (by kernel_rfl) (fun B F0 w0 => ?_)
  have ha := szV_1 ha
  have hb := szV_1 hb
  have m1 := fraction_Sub_ok (Qr a.1) (Qr b.1) (k := k) (Qr_w _ (by omega)) (Qr_w _ (by omega)) (by omega)
  have m2 := fraction_Sub_ok (Qr a.2) (Qr b.2) (k := k) (Qr_w _ (by omega)) (Qr_w _ (by omega)) (by omega)
  simp only [Qr_val] at m1 m2
  refine AW.seq ?_
  refine AW.region ?_
  refine AOps.run tok 3 _ _ _ _ rfl ?_
  refine AOps.nil ?_
  refine AW.seq ?_
  refine AW.draw hmix 11 (by kernel_rfl) ?_
  refine APre.run tok 4 _ _ _ _ rfl ?_
  refine APre.call tok rfl rfl rfl rfl rfl m1 ?_
  refine APre.run tok 4 _ _ _ _ rfl ?_
  refine APre.call tok rfl rfl rfl rfl rfl m2 ?_
  refine APre.run tok 1 _ _ _ _ rfl ?_
  refine APre.nil ?_
  refine AOps.run tok 1 _ _ _ _ rfl ?_
  refine AOps.nil ?_
  exact AW.ret rfl
theorem defects_dot_ok (a b : V2) {k : Nat} (ha : szV a ≤ k) (hb : szV b ≤ k) (hk : k ≤ 1000000) : Pure Tryz.prog 79 [(VQ a).D, (VQ b).D] (Qr (dt a b)).D := by
  refine Pure.intro (n := 16) tok Tryz.func79 rfl rfl rfl (Nat.le_of_ble_eq_true rfl) (by kernel_rfl) (fun B F0 w0 => ?_)
  have ha := szV_1 ha
  have hb := szV_1 hb
  have l1 := LQ_mul a.1 b.1
  have l2 := LQ_mul a.2 b.2
  have m1 := fraction_Mul_ok (Qr a.1) (Qr b.1) (k := k) (Qr_w _ (by omega)) (Qr_w _ (by omega)) (by omega)
  have m2 := fraction_Mul_ok (Qr a.2) (Qr b.2) (k := k) (Qr_w _ (by omega)) (Qr_w _ (by omega)) (by omega)
  have m3 := fraction_Add_ok (Qr (a.1 * b.1)) (Qr (a.2 * b.2)) (k := 2 * k) (Qr_w _ (by omega)) (Qr_w _ (by omega)) (by omega)
  simp only [Qr_val] at m1 m2 m3
  refine AW.seq ?_
  refine AW.region ?_
  refine AOps.run tok 3 _ _ _ _ rfl ?_
  refine AOps.nil ?_
  refine AW.seq ?_
  refine AW.draw hmix 11 (by kernel_rfl) ?_
  refine APre.run tok 4 _ _ _ _ rfl ?_
  refine APre.call tok rfl rfl rfl rfl rfl m1 ?_
  refine APre.run tok 4 _ _ _ _ rfl ?_
  refine APre.call tok rfl rfl rfl rfl rfl m2 ?_
  refine APre.call tok rfl rfl rfl rfl rfl m3 ?_
  refine APre.nil ?_
  refine AOps.run tok 1 _ _ _ _ rfl ?_
  refine AOps.nil ?_
  exact AW.ret rfl
theorem defects_cross_ok (a b : V2) {k : Nat} (ha : szV a ≤ k) (hb : szV b ≤ k) (hk : k ≤ 1000000) : Pure Tryz.prog 80 [(VQ a).D, (VQ b).D] (Qr (crs a b)).D := by
  refine Pure.intro (n := 16) tok Tryz.func80 rfl rfl rfl (Nat.le_of_ble_eq_true rfl) (by kernel_rfl) (fun B F0 w0 => ?_)
  have ha := szV_1 ha
  have hb := szV_1 hb
  have l1 := LQ_mul a.1 b.2
  have l2 := LQ_mul a.2 b.1
  have m1 := fraction_Mul_ok (Qr a.1) (Qr b.2) (k := k) (Qr_w _ (by omega)) (Qr_w _ (by omega)) (by omega)
  have m2 := fraction_Mul_ok (Qr a.2) (Qr b.1) (k := k) (Qr_w _ (by omega)) (Qr_w _ (by omega)) (by omega)
  have m3 := fraction_Sub_ok (Qr (a.1 * b.2)) (Qr (a.2 * b.1)) (k := 2 * k) (Qr_w _ (by omega)) (Qr_w _ (by omega)) (by omega)
  simp only [Qr_val] at m1 m2 m3
  refine AW.seq ?_
  refine AW.region ?_
  refine AOps.run tok 3 _ _ _ _ rfl ?_
  refine AOps.nil ?_
  refine AW.seq ?_
  refine AW.draw hmix 11 (by kernel_rfl) ?_
  refine APre.run tok 4 _ _ _ _ rfl ?_
  refine APre.call tok rfl rfl rfl rfl rfl m1 ?_
  refine APre.run tok 4 _ _ _ _ rfl ?_
  refine APre.call tok rfl rfl rfl rfl rfl m2 ?_
  refine APre.call tok rfl rfl rfl rfl rfl m3 ?_
  refine APre.nil ?_
  refine AOps.run tok 1 _ _ _ _ rfl ?_
  refine AOps.nil ?_
  exact AW.ret rfl
theorem threepos_square_ok (a : V2) {k : Nat} (ha : szV a ≤ k) (hk : k ≤ 1000000) : Pure Tryz.prog 156 [(VQ a).D] (Qr (dt a a)).D := by
  refine Pure.intro (n := 14) tok Tryz.func156 rfl rfl rfl (Nat.le_of_ble_eq_true rfl) (by kernel_rfl) (fun B F0 w0 => ?_)
  have ha := szV_1 ha
  have l1 := LQ_mul a.1 a.1
  have l2 := LQ_mul a.2 a.2
  have m1 := fraction_Mul_ok (Qr a.1) (Qr a.1) (k := k) (Qr_w _ (by omega)) (Qr_w _ (by omega)) (by omega)
  have m2 := fraction_Mul_ok (Qr a.2) (Qr a.2) (k := k) (Qr_w _ (by omega)) (Qr_w _ (by omega)) (by omega)
  have m3 := fraction_Add_ok (Qr (a.1 * a.1)) (Qr (a.2 * a.2)) (k := 2 * k) (Qr_w _ (by omega)) (Qr_w _ (by omega)) (by omega)
  simp only [Qr_val] at m1 m2 m3
  refine AW.seq ?_
  refine AW.region ?_
  refine AOps.run tok 2 _ _ _ _ rfl ?_
  refine AOps.nil ?_
  refine AW.seq ?_
  refine AW.draw hmix 11 (by kernel_rfl) ?_
  refine APre.run tok 4 _ _ _ _ rfl ?_
  refine APre.call tok rfl rfl rfl rfl rfl m1 ?_
  refine APre.run tok 4 _ _ _ _ rfl ?_
  refine APre.call tok rfl rfl rfl rfl rfl m2 ?_
  refine APre.call tok rfl rfl rfl rfl rfl m3 ?_
  refine APre.nil ?_
  refine AOps.run tok 1 _ _ _ _ rfl ?_
  refine AOps.nil ?_
  exact AW.ret rfl
theorem defects_neg_ok (a : V2) {k : Nat} (ha : szV a ≤ k) (hk : k ≤ 1000000) : Pure Tryz.prog 91 [(VQ a).D] (VQ (vneg a)).D := by
  refine Pure.intro (n := 10) tok Tryz.func91 rfl rfl rfl (Nat.le_of_ble_eq_true rfl) (by kernel_rfl) (fun B F0 w0 => ?_)
  have ha := szV_1 ha
  have m1 := fraction_Neg_ok (Qr a.1) (k := k) (Qr_w _ (by omega)) (by omega)
  have m2 := fraction_Neg_ok (Qr a.2) (k := k) (Qr_w _ (by omega)) (by omega)
  simp only [Qr_val] at m1 m2
  refine AW.seq ?_
  refine AW.region ?_
  refine AOps.run tok 2 _ _ _ _ rfl ?_
  refine AOps.nil ?_
  refine AW.seq ?_
  refine AW.draw hmix 7 (by kernel_rfl) ?_
  refine APre.run tok 2 _ _ _ _ rfl ?_
  refine APre.call tok rfl rfl rfl rfl rfl m1 ?_
  refine APre.run tok 2 _ _ _ _ rfl ?_
  refine APre.call tok rfl rfl rfl rfl rfl m2 ?_
  refine APre.run tok 1 _ _ _ _ rfl ?_
  refine APre.nil ?_
  refine AOps.run tok 1 _ _ _ _ rfl ?_
  refine AOps.nil ?_
  exact AW.ret rfl
theorem cmpQ0 (a b : Rat) : (cmpQ a b == 0) = decide (a = b) := by
  unfold cmpQ
  by_cases h : a < b
  · rw [if_pos h]
    have hne : a ≠ b := fun e => by rw [e] at h; exact absurd h Rat.lt_irrefl
    rw [decide_eq_false hne]; rfl
  · rw [if_neg h]
    by_cases he : a = b
    · rw [if_pos he, decide_eq_true he]; rfl
    · rw [if_neg he, decide_eq_false he]; rfl
theorem defects_same_ok (a b : V2) {k : Nat} (ha : szV a ≤ k) (hb : szV b ≤ k) (hk : k ≤ 1000000) : Pure Tryz.prog 127 [(VQ a).D, (VQ b).D] (dB (decide (a = b))) := by
  refine Pure.intro (n := 19) tok Tryz.func127 rfl rfl rfl (Nat.le_of_ble_eq_true rfl) (by kernel_rfl) (fun B F0 w0 => ?_)
  have ha := szV_1 ha
  have hb := szV_1 hb
  have m1 := fraction_Cmp_ok (Qr a.1) (Qr b.1) (k := k) (Qr_w _ (by omega)) (Qr_w _ (by omega)) (by omega)
  have m2 := fraction_Cmp_ok (Qr a.2) (Qr b.2) (k := k) (Qr_w _ (by omega)) (Qr_w _ (by omega)) (by omega)
  simp only [Qr_val] at m1 m2
  have e0 : decide (a = b) = (decide (a.1 = b.1) && decide (a.2 = b.2)) := by
    rw [← Bool.decide_and]
    exact decide_eq_decide.2 Prod.ext_iff
  rw [e0]
  refine AW.seq ?_
  refine AW.region ?_
  refine AOps.run tok 3 _ _ _ _ rfl ?_
  refine AOps.nil ?_
  refine AW.seq ?_
  refine AW.region ?_
  refine AOps.run tok 4 _ _ _ _ rfl ?_
  refine AOps.call tok rfl rfl rfl rfl m1 ?_
  refine AOps.run tok 1 _ _ _ _ rfl ?_
  rw [cmpQ0]
  cases decide (a.1 = b.1) with
  | true =>
    refine AOps.run tok 5 _ _ _ _ rfl ?_
    refine AOps.call tok rfl rfl rfl rfl m2 ?_
    refine AOps.run tok 1 _ _ _ _ rfl ?_
    rw [cmpQ0]
    refine AOps.run tok 2 _ _ _ _ rfl ?_
    refine AOps.nil ?_
    exact AW.ret rfl
  | false =>
    refine AOps.run tok 9 _ _ _ _ rfl ?_
    refine AOps.nil ?_
    exact AW.ret rfl
theorem threepos_valid_ok (a : PD) {k : Nat} (h : a.w k) (hk : k ≤ 50000000) : Pure Tryz.prog 154 [a.D] (dB a.okB) := by
  refine Pure.intro (n := 11) tok Tryz.func154 rfl rfl rfl (Nat.le_of_ble_eq_true rfl) (by kernel_rfl) (fun B F0 w0 => ?_)
  have c1 := fraction_Valid_ok a.x h.1 hk
  have c2 := fraction_Valid_ok a.y h.2 hk
  unfold PD.okB
  obtain ⟨x, y⟩ := a
  simp only [] at c1 c2
  refine AW.seq ?_
  refine AW.region ?_
  refine AOps.run tok 2 _ _ _ _ rfl ?_
  refine AOps.nil ?_
  refine AW.seq ?_
  refine AW.region ?_
  refine AOps.run tok 2 _ _ _ _ rfl ?_
  refine AOps.call tok rfl rfl rfl rfl c1 ?_
  cases x.okB with
  | true =>
    refine AOps.run tok 3 _ _ _ _ rfl ?_
    refine AOps.call tok rfl rfl rfl rfl c2 ?_
    refine AOps.run tok 2 _ _ _ _ rfl ?_
    refine AOps.nil ?_
    exact AW.ret rfl
  | false =>
    refine AOps.run tok 6 _ _ _ _ rfl ?_
    refine AOps.nil ?_
    exact AW.ret rfl
abbrev DyD.rs (d : DyD) : List RD := [d.c.x, d.c.y, d.m.x, d.m.y, d.r]
theorem DyD.rs_ok (d : DyD) : d.okB = d.rs.all RD.okB := by
  unfold DyD.okB PD.okB
  simp only [List.all_cons, List.all_nil, Bool.and_true, Bool.and_assoc]
theorem DyD.rs_w {d : DyD} {k : Nat} (h : d.w k) (i : Nat) (hi : i < 5) : (d.rs.getD i default).w k := by
  match i with
  | 0 => exact h.1.1
  | 1 => exact h.1.2
  | 2 => exact h.2.1.1
  | 3 => exact h.2.1.2
  | 4 => exact h.2.2
  | i + 5 => omega
theorem all_no {l : List RD} {i : Nat} (hi : i < l.length) (h : (l.getD i default).okB = false) : l.all RD.okB = false := by
  rw [List.all_eq_false]
  exact ⟨l.getD i default, by rw [List.getD_eq_getElem?_getD, List.getElem?_eq_getElem hi]; exact List.getElem_mem hi, by rw [h]; simp⟩
theorem all_yes {l : List RD} (h : ∀ i, i < l.length → (l.getD i default).okB = true) : l.all RD.okB = true := by
  rw [List.all_eq_true]
  intro x hx
  obtain ⟨i, hi, rfl⟩ := List.mem_iff_getElem.1 hx
  have := h i hi
  rw [List.getD_eq_getElem?_getD, List.getElem?_eq_getElem hi] at this
  exact this
theorem defects_valid_ok (d : DyD) {k : Nat} (h : d.w k) (hk : k ≤ 50000000) : Pure Tryz.prog 126 [d.D] (dB d.okB) := by
  refine Pure.intro (n := 29) tok Tryz.func126 rfl rfl rfl (Nat.le_of_ble_eq_true rfl) (by kernel_rfl) (fun B F0 w0 => ?_)
  rw [DyD.rs_ok]
  have hw := fun i hi => DyD.rs_w h i hi
  refine AW.seq ?_
  refine AW.region ?_
  refine AOps.run tok 2 _ _ _ _ rfl ?_
  refine AOps.nil ?_
  refine AW.seq ?_
  refine AW.seq ?_
  refine AW.region ?_
  refine AOps.run tok 14 _ _ _ _ rfl ?_
  refine AOps.bsd tok rfl rfl rfl rfl rfl ?_
  refine AOps.run tok 2 _ _ _ _ rfl ?_
  refine AOps.nil ?_
  refine AW.block ?_
  refine AW.loopS [19, 20, 21] (fun i : Nat => [(19, .d (.sl 3 (d.rs.map RD.D))), (20, .d (dI 5)), (21, .d (dI i))]) (fun i => i ≤ 5 ∧ ∀ j, j < i → (d.rs.getD j default).okB = true) (fun i => 5 - i) 0 rfl ⟨Nat.zero_le _, fun j hj => by omega⟩ (fun i ⟨hi, hall⟩ => ?_)
  · skip
    refine AW.seq ?_
    refine AW.region ?_
    refine AOps.run tok 1 _ _ _ _ rfl ?_
    refine AOps.nil ?_
    refine AW.seq ?_
    refine AW.cond rfl (fun h => ?_) (fun h => ?_)
    · have hii : i < 5 := by have := of_decide_eq_true h; omega
      have hg := getM RD.D (l := d.rs) (i := i) hii
      have hno := all_no (l := d.rs) (i := i) hii
      have cv := fraction_Valid_ok (d.rs.getD i default) (hw i hii) hk
      refine AW.skip ?_
      refine AW.seq ?_
      refine AW.block ?_
      refine AW.seq ?_
      refine AW.region ?_
      refine AOps.idx tok (d.rs.getD i default).D rfl rfl rfl rfl (Int.natCast_nonneg i) hg ?_
      refine AOps.run tok 3 _ _ _ _ rfl ?_
      refine AOps.nil ?_
      refine AW.seq ?_
      refine AW.region ?_
      refine AOps.run tok 1 _ _ _ _ rfl ?_
      refine AOps.call tok rfl rfl rfl rfl cv ?_
      refine AOps.run tok 1 _ _ _ _ rfl ?_
      cases hv : (d.rs.getD i default).okB with
      | false =>
        rw [hno hv]
        refine AOps.nil ?_
        refine AW.condT rfl ?_
        refine AW.seq ?_
        refine AW.region ?_
        refine AOps.run tok 1 _ _ _ _ rfl ?_
        refine AOps.nil ?_
        exact AW.ret rfl
      | true =>
        refine AOps.nil ?_
        refine AW.condF rfl ?_
        refine AW.skip ?_
        refine AW.region ?_
        refine AOps.run tok 1 _ _ _ _ rfl ?_
        rw [wI64 (x := (i : Int) + 1) (by omega) (by omega)]
        refine AOps.run tok 1 _ _ _ _ rfl ?_
        refine AOps.nil ?_
        exact ⟨i + 1, rfl, ⟨hii, fun j hj => by
          by_cases e : j = i
          · subst e; exact hv
          · exact hall j (by omega)⟩, by omega⟩
    have hii : i = 5 := by have := of_decide_eq_false h; omega
    subst hii
    rw [all_yes (l := d.rs) hall]
    refine AW.exit ?_
    refine AW.seq ?_
    refine AW.region ?_
    refine AOps.run tok 1 _ _ _ _ rfl ?_
    refine AOps.nil ?_
    exact AW.ret rfl
def posOk (l : List PoD) : Bool := l.all PoD.okB
theorem posOk_no {l : List PoD} {i : Nat} (hi : i < l.length) (h : (l.getD i default).okB = false) : posOk l = false := by
  unfold posOk
  rw [List.all_eq_false]
  exact ⟨l.getD i default, by rw [List.getD_eq_getElem?_getD, List.getElem?_eq_getElem hi]; exact List.getElem_mem hi, by rw [h]; simp⟩
theorem posOk_yes {l : List PoD} (h : ∀ i, i < l.length → (l.getD i default).okB = true) : posOk l = true := by
  unfold posOk
  rw [List.all_eq_true]
  intro x hx
  obtain ⟨i, hi, rfl⟩ := List.mem_iff_getElem.1 hx
  have := h i hi
  rw [List.getD_eq_getElem?_getD, List.getElem?_eq_getElem hi] at this
  exact this
def chkPo (l : List PoD) : Nat := if l.length < 2 then 9 + 1 else if 5 < l.length then 4 else if posOk l = false then 2 else 0
theorem poles_check_ok (l : List PoD) (hl : l.length ≤ 1000000) {k : Nat} (hw : ∀ i, i < l.length → (l.getD i default).w k) (hk : k ≤ 20000000) : Pure Tryz.prog 153 [PoL l] (erV (if posOk l = false then 2 else 0)) := by
  refine Pure.intro (n := 16) tok Tryz.func153 rfl rfl rfl (Nat.le_of_ble_eq_true rfl) (by kernel_rfl) (fun B F0 w0 => ?_)
  refine AW.seq ?_
  refine AW.region ?_
  refine AOps.run tok 1 _ _ _ _ rfl ?_
  refine AOps.nil ?_
  refine AW.seq ?_
  refine AW.seq ?_
  refine AW.region ?_
  refine AOps.run tok 2 _ _ _ _ rfl ?_
  rw [List.length_map]
  refine AOps.run tok 1 _ _ _ _ rfl ?_
  refine AOps.nil ?_
  refine AW.block ?_
  refine AW.loopS [5, 6, 7] (fun i : Nat => [(5, .d (PoL l)), (6, .d (dI l.length)), (7, .d (dI i))]) (fun i => i ≤ l.length ∧ ∀ j, j < i → (l.getD j default).okB = true) (fun i => l.length - i) 0 rfl ⟨Nat.zero_le _, fun j hj => by omega⟩ (fun i ⟨hi, hall⟩ => ?_)
  · skip
    refine AW.seq ?_
    refine AW.region ?_
    refine AOps.run tok 1 _ _ _ _ rfl ?_
    refine AOps.nil ?_
    refine AW.seq ?_
    refine AW.cond rfl (fun h => ?_) (fun h => ?_)
    · have hii : i < l.length := by have := of_decide_eq_true h; omega
      have hg := getM PoD.D (l := l) (i := i) hii
      have hno := posOk_no (l := l) (i := i) hii
      have cv := pose_Valid_ok (l.getD i default) (hw i hii) hk
      refine AW.skip ?_
      refine AW.seq ?_
      refine AW.block ?_
      refine AW.seq ?_
      refine AW.region ?_
      refine AOps.idx tok (l.getD i default).D rfl rfl rfl rfl (Int.natCast_nonneg i) hg ?_
      refine AOps.run tok 3 _ _ _ _ rfl ?_
      refine AOps.nil ?_
      refine AW.seq ?_
      refine AW.region ?_
      refine AOps.run tok 1 _ _ _ _ rfl ?_
      refine AOps.call tok rfl rfl rfl rfl cv ?_
      refine AOps.run tok 1 _ _ _ _ rfl ?_
      cases hv : (l.getD i default).okB with
      | false =>
        rw [hno hv, if_pos rfl]
        refine AOps.nil ?_
        refine AW.condT rfl ?_
        refine AW.seq ?_
        refine AW.region ?_
        refine AOps.run tok 2 _ _ _ _ rfl ?_
        refine AOps.nil ?_
        exact AW.ret rfl
      | true =>
        refine AOps.nil ?_
        refine AW.condF rfl ?_
        refine AW.skip ?_
        refine AW.region ?_
        refine AOps.run tok 1 _ _ _ _ rfl ?_
        rw [wI64 (x := (i : Int) + 1) (by omega) (by omega)]
        refine AOps.run tok 1 _ _ _ _ rfl ?_
        refine AOps.nil ?_
        exact ⟨i + 1, rfl, ⟨hii, fun j hj => by
          by_cases e : j = i
          · subst e; exact hv
          · exact hall j (by omega)⟩, by omega⟩
    have hii : i = l.length := by have := of_decide_eq_false h; omega
    subst hii
    rw [posOk_yes hall, if_neg (by simp)]
    refine AW.exit ?_
    refine AW.seq ?_
    refine AW.region ?_
    refine AOps.run tok 1 _ _ _ _ rfl ?_
    refine AOps.nil ?_
    exact AW.ret rfl
theorem poles_Check_ok (l : List PoD) (hl : l.length ≤ 1000000) {k : Nat} (hw : ∀ i, i < l.length → (l.getD i default).w k) (hk : k ≤ 20000000) : Pure Tryz.prog 125 [PoL l] (erV (chkPo l)) := by
  refine Pure.intro (n := 13) tok Tryz.func125 rfl rfl rfl (Nat.le_of_ble_eq_true rfl) (by kernel_rfl) (fun B F0 w0 => ?_)
  have c := poles_check_ok l hl hw hk
  unfold chkPo
  refine AW.seq ?_
  refine AW.region ?_
  refine AOps.run tok 1 _ _ _ _ rfl ?_
  refine AOps.nil ?_
  refine AW.seq ?_
  refine AW.seq ?_
  refine AW.region ?_
  refine AOps.run tok 2 _ _ _ _ rfl ?_
  rw [List.length_map]
  refine AOps.run tok 1 _ _ _ _ rfl ?_
  by_cases h2 : l.length < 2
  · rw [show decide ((l.length : Int) < 2) = true from decide_eq_true (by omega), if_pos h2]
    refine AOps.nil ?_
    refine AW.condT rfl ?_
    refine AW.seq ?_
    refine AW.region ?_
    refine AOps.run tok 2 _ _ _ _ rfl ?_
    refine AOps.nil ?_
    exact AW.ret rfl
  rw [show decide ((l.length : Int) < 2) = false from decide_eq_false (by omega), if_neg h2]
  refine AOps.nil ?_
  refine AW.condF rfl ?_
  refine AW.skip ?_
  refine AW.seq ?_
  refine AW.seq ?_
  refine AW.region ?_
  refine AOps.run tok 2 _ _ _ _ rfl ?_
  rw [List.length_map]
  refine AOps.run tok 1 _ _ _ _ rfl ?_
  by_cases h5 : 5 < l.length
  · rw [show decide ((5 : Int) < (l.length : Int)) = true from decide_eq_true (by omega), if_pos h5]
    refine AOps.nil ?_
    refine AW.condT rfl ?_
    refine AW.seq ?_
    refine AW.region ?_
    refine AOps.run tok 2 _ _ _ _ rfl ?_
    refine AOps.nil ?_
    exact AW.ret rfl
  rw [show decide ((5 : Int) < (l.length : Int)) = false from decide_eq_false (by omega), if_neg h5]
  refine AOps.nil ?_
  refine AW.condF rfl ?_
  refine AW.skip ?_
  refine AW.seq ?_
  refine AW.region ?_
  refine AOps.run tok 1 _ _ _ _ rfl ?_
  refine AOps.call tok rfl rfl rfl rfl c ?_
  refine AOps.run tok 1 _ _ _ _ rfl ?_
  refine AOps.nil ?_
  exact AW.ret rfl
end Lift
