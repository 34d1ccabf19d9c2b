/- Parts of the proof, one behind the other: the logic, the contracts of the functions that the statement reaches. -/
import Derived.Test.YtjjebjajjjjcjaaGreatGzD
import Derived.RangeFuncNested
import Derived.RangeFuncLeaves
set_option linter.unusedVariables false
set_option linter.unusedSimpArgs false
/- Groups: the next group of two bodies. -/
namespace Lift
open Go Go.Proofs
open Go.RowKit (Below)

def parS (l : Lkg) (kn : List Bool) (i j : Nat) : Option Grp :=
  if 0 ≤ ancF l kn 0 i ∧ 0 ≤ ancF l kn 0 j ∧ 0 ≤ jtF 0 i (fun o => decide ((o : Int) = j)) l.joints then some ⟨1, [(i : Int), j], [ancF l kn 0 i, ancF l kn 0 j, jtF 0 i (fun o => decide ((o : Int) = j)) l.joints], 0⟩ else none
def parG (l : Lkg) (kn dr : List Bool) : Option Grp := (prsF (freF kn dr) l.bodies.length).findSome? (fun p => parS l kn p.1 p.2)
abbrev pZ : List D := [dI 0, .sl 1 [], .sl 1 [], dI 0]
abbrev pSt (l : Lkg) (kn dr us : List Bool) (g : D) : St := [(1, .bx [.pr (FinC l kn dr us g)]), (2, .bx pZ), (3, .bx [dB false])]
abbrev pStN (l : Lkg) (kn dr us : List Bool) (g : D) : St := [(1, .bx [.pr (FinC l kn dr us g)]), (2, .bx [dI 0, .v nilS, .v nilS, dI 0]), (3, .bx [dB false])]
abbrev pStR (l : Lkg) (kn dr us : List Bool) (g : D) (r : Grp) (Vb Vj : Value) : St := [(1, .bx [.pr (FinC l kn dr us g)]), (2, .bx [dI r.kind, .v Vb, .v Vj, dI r.dr]), (3, .bx [dB true])]
abbrev pStX (l : Lkg) (kn dr us : List Bool) (g : D) (i j : Nat) : St := [(1, .bx [.pr (FinC l kn dr us g)]), (2, .bx pZ), (3, .bx [dB false]), (4, .d (dI i)), (5, .bx [dI j])]
theorem pair_hq (l : Lkg) (i j : Nat) (b : Int) (h0 : 0 ≤ b) : Pure Tryz.prog 77 ([] ++ [dI b] ++ [.pr [dI j]]) (dB ((fun o : Nat => decide ((o : Int) = j)) b.toNat)) := by
  have := fin_pair1_ok b j
  simp only [Int.toNat_of_nonneg h0]
  exact this
/-- The body of the range, in a round. -/
theorem pair_body (l : Lkg) (hl : LkIn l) (kn dr us : List Bool) (g : D) (hk : kn.length = l.bodies.length) (i j : Nat) {B : Nat} {F0 : Nat → Prop} {w0 : Bas} (r : Nat) (p1 p2 p3 : Value) {c : Code} (hc : c = (match Tryz.f56.body with
    | some (.seq _ (.seq (.seq _ (.block _ (.rangeFunc _ _ _ b))) _)) => b
    | _ => .skip)) :
    AR Tryz.prog B F0 w0 42 r [(1, p1), (2, p2), (3, p3)] c (fun e R σ => (e = .normal ∧ R = [] ∧ σ.keep [1, 2, 3] = pSt l kn dr us g ∧ parS l kn i j = none) ∨ (e = .ret ∧ ∃ r Vb Vj, parS l kn i j = some r ∧ R = [(Vb, AV.ow 3 (IsL r.bs)), (Vj, AV.ow 3 (IsL r.js))] ∧ σ.keep [1, 2, 3] = pStR l kn dr us g r Vb Vj)) [] (pStX l kn dr us g i j) := by
  subst hc
  obtain ⟨hb1, hb2, hj1, hd1, hj, hd⟩ := hl
  have hP : parS l kn i j = if 0 ≤ ancF l kn 0 i ∧ 0 ≤ ancF l kn 0 j ∧ 0 ≤ jtF 0 i (fun o => decide ((o : Int) = j)) l.joints then some ⟨1, [(i : Int), j], [ancF l kn 0 i, ancF l kn 0 j, jtF 0 i (fun o => decide ((o : Int) = j)) l.joints], 0⟩ else none := rfl
  have cA := fin_anchored_ok l (by unfold big; omega) kn dr us g 0 i (fun i hi => by rw [hk]; exact othF_lt hj hb1 hi)
  have cB := fin_anchored_ok l (by unfold big; omega) kn dr us g 0 j (fun i hi => by rw [hk]; exact othF_lt hj hb1 hi)
  have cC := fin_joint_ok l (by unfold big; omega) kn dr us g 0 i (fun o : Nat => decide ((o : Int) = j)) (fun i' hi h0 => pair_hq l i j _ h0)
  refine AR.block ?_
  refine AR.seq ?_
  refine AR.any hmix rfl rfl (ZAny.draw 6 (by kernel_rfl) (fun B1 F1 w1 => ?_))
  refine APre.run tok 2 _ _ _ _ rfl ?_
  refine APre.call tok rfl rfl rfl rfl rfl cA ?_
  refine APre.run tok 2 _ _ _ _ rfl ?_
  refine APre.call tok rfl rfl rfl rfl rfl cB ?_
  refine APre.nil ⟨rfl, ?_⟩
  refine AZOps.cut 2 rfl (fun B1 F1 w1 => ?_)
  refine AOps.run tok 2 _ _ _ _ rfl ?_
  refine AOps.nil ⟨rfl, ?_⟩
  refine AZOps.nil ⟨rfl, ?_⟩
  refine AR.to [1, 2, 3, 4, 5, 6, 7] [(1, .bx [.pr (FinC l kn dr us g)]), (2, .bx pZ), (3, .bx [dB false]), (4, .d (dI i)), (5, .bx [dI j]), (6, .d (dI (ancF l kn 0 i))), (7, .d (dI (ancF l kn 0 j)))] rfl ?_
  refine AR.seq ?_
  refine AR.region rfl rfl ?_
  refine AZOps.cut 5 rfl (fun B1 F1 w1 => ?_)
  refine AOps.run tok 2 _ _ _ _ rfl ?_
  refine AOps.frzb 5 rfl ?_
  refine AOps.mkfn tok rfl rfl rfl rfl ?_
  refine AOps.call tok rfl rfl rfl rfl cC ?_
  refine AOps.run tok 1 _ _ _ _ rfl ?_
  refine AOps.nil ⟨rfl, ?_⟩
  refine AZOps.nil ?_
  refine AR.to [1, 2, 3, 4, 5, 6, 7, 8] [(1, .bx [.pr (FinC l kn dr us g)]), (2, .bx pZ), (3, .bx [dB false]), (4, .d (dI i)), (5, .d (.pr [dI j])), (6, .d (dI (ancF l kn 0 i))), (7, .d (dI (ancF l kn 0 j))), (8, .d (dI (jtF 0 i (fun o => decide ((o : Int) = j)) l.joints)))] rfl ?_
  generalize ancF l kn 0 i = a at *
  generalize ancF l kn 0 j = b at *
  generalize jtF 0 i (fun o => decide ((o : Int) = j)) l.joints = c at *
  refine AR.seq ?_
  refine AR.region rfl rfl ?_
  refine AZOps.cut 10 rfl (fun B1 F1 w1 => ?_)
  refine AOps.run tok 3 _ _ _ _ rfl ?_
  refine AOps.split (t := 25) rfl (fun h => ?_) (fun h => ?_)
  rotate_left
  · have h1 : ¬ 0 ≤ a := of_decide_eq_false h
    rw [if_neg (fun h => h1 h.1)] at hP
    refine AOps.run tok 4 _ _ _ _ rfl ?_
    refine AOps.split (t := 29) rfl (fun h => by cases h) (fun h => ?_)
    refine AOps.run tok 3 _ _ _ _ rfl ?_
    refine AOps.nil ⟨rfl, ?_⟩
    refine AZOps.nil ?_
    refine AR.cond rfl (fun h => by cases h) (fun h => ?_)
    exact AR.skip (.inl ⟨rfl, rfl, rfl, hP⟩)
  have h1 : 0 ≤ a := of_decide_eq_true h
  refine AOps.run tok 4 _ _ _ _ rfl ?_
  refine AOps.split (t := 29) rfl (fun h => ?_) (fun h => ?_)
  rotate_left
  · have h2 : ¬ 0 ≤ b := of_decide_eq_false h
    rw [if_neg (fun h => h2 h.2.1)] at hP
    refine AOps.run tok 3 _ _ _ _ rfl ?_
    refine AOps.nil ⟨rfl, ?_⟩
    refine AZOps.nil ?_
    refine AR.cond rfl (fun h => by cases h) (fun h => ?_)
    exact AR.skip (.inl ⟨rfl, rfl, rfl, hP⟩)
  have h2 : 0 ≤ b := of_decide_eq_true h
  refine AOps.run tok 3 _ _ _ _ rfl ?_
  refine AOps.nil ⟨rfl, ?_⟩
  refine AZOps.nil ?_
  refine AR.cond rfl (fun h => ?_) (fun h => ?_)
  rotate_left
  · have h3 : ¬ 0 ≤ c := of_decide_eq_false h
    rw [if_neg (fun h => h3 h.2.2)] at hP
    exact AR.skip (.inl ⟨rfl, rfl, rfl, hP⟩)
  have h3 : 0 ≤ c := of_decide_eq_true h
  rw [if_pos ⟨h1, h2, h3⟩] at hP
  refine AR.to [1, 2, 3, 4, 5, 6, 7, 8] [(1, .bx [.pr (FinC l kn dr us g)]), (2, .bx pZ), (3, .bx [dB false]), (4, .d (dI i)), (5, .d (.pr [dI j])), (6, .d (dI a)), (7, .d (dI b)), (8, .d (dI c))] rfl ?_
  refine AR.seq ?_
  refine AR.region rfl rfl ?_
  refine AZOps.cut 7 rfl (fun B1 F1 w1 => ?_)
  refine AOps.run tok 2 _ _ _ _ rfl ?_
  refine AOps.bs tok rfl rfl rfl rfl ?_
  refine AOps.run tok 3 _ _ _ _ rfl ?_
  refine AOps.bs tok rfl rfl rfl rfl ?_
  refine AOps.nil ⟨rfl, ?_⟩
  refine AZOps.loosen 35 rfl rfl rfl (fun Vb => ?_)
  refine AZOps.loosen 39 rfl rfl rfl (fun Vj => ?_)
  refine AZOps.cut 3 rfl (fun B1 F1 w1 => ?_)
  refine AOps.run tok 3 _ _ _ _ rfl ?_
  refine AOps.nil ⟨rfl, ?_⟩
  refine AZOps.nil ?_
  exact AR.ret (.inr ⟨rfl, _, Vb, Vj, hP, rfl, rfl⟩)
end Lift
/- Groups: the next group of two bodies: the range over the pairs. -/
namespace Lift
open Go Go.Proofs
open Go.RowKit (Below)

theorem findSome_pre {α β : Type} {f : α → Option β} : ∀ {xs : List α}, (∀ p, p ∈ xs → f p = none) → xs.findSome? f = none
  | [], _ => rfl
  | x :: xs, h => by rw [List.findSome?_cons, h x (by simp)]; exact findSome_pre (fun p hp => h p (by simp [hp]))
theorem findSome_at {α β : Type} {f : α → Option β} {x : α} {b : β} {ys : List α} : ∀ {xs : List α}, (∀ p, p ∈ xs → f p = none) → f x = some b → (xs ++ x :: ys).findSome? f = some b
  | [], _, hx => by rw [List.nil_append, List.findSome?_cons, hx]
  | y :: xs, h, hx => by rw [List.cons_append, List.findSome?_cons, h y (by simp)]; exact findSome_at (fun p hp => h p (by simp [hp])) hx
/-- Where a round's frame begins. -/
abbrev rAct {nb : Nat} (a : Act) (x : PrT nb) : Act := { tmps := ((#[11, 12] : Array Tmp).zip (encP x)).foldl (fun t (p, v) => t.setIfInBounds p v) a.tmps, defers := [] }
theorem rAct_11 {nb : Nat} {a : Act} {x : PrT nb} (h : a.tmps.size = 42) : (rAct a x).tmps[11]? = some (.int .i64 (x.1.1 : Nat)) := by
  simp [rAct, encP, h]
theorem rAct_12 {nb : Nat} {a : Act} {x : PrT nb} (h : a.tmps.size = 42) : (rAct a x).tmps[12]? = some (.int .i64 (x.1.2 : Nat)) := by
  simp [rAct, encP, h]
theorem rAct_ne {nb : Nat} {a : Act} {x : PrT nb} {t : Nat} (h1 : t ≠ 11) (h2 : t ≠ 12) : (rAct a x).tmps[t]? = a.tmps[t]? := by
  simp [rAct, encP, Array.getElem?_setIfInBounds, Ne.symm h1, Ne.symm h2]
theorem rAct_size {nb : Nat} {a : Act} {x : PrT nb} : (rAct a x).tmps.size = a.tmps.size := by
  simp [rAct, encP]
theorem keepsFrom_of {P : Program} {F1 : Nat → Prop} {X : Nat → Prop} {n : Nat} {R : List LR} {σ : St} {a : Act} {W W' : World} (k : Nat) (hX : ∀ b, X b → isCellsB W b ∧ b < W.heap.size) (h : RelZ P W.heap.size F1 ⟨W, X⟩ n R σ a W') : KeepsFrom k W W' :=
  ⟨h.below.size, fun i o _ hi ho => by
    rw [h.below.block i (Array.getElem?_eq_some_iff.1 hi).1 (fun hx => ?_)]
    · exact hi
    · obtain ⟨⟨cs, e, fz, hc⟩, _⟩ := hX i hx
      rw [hc] at hi; cases hi; cases ho⟩
theorem pSt_t {l : Lkg} {kn dr us : List Bool} {g : D} {t : Nat} {av : AV} (h : (pSt l kn dr us g).get t = some av) : t = 1 ∨ t = 2 ∨ t = 3 := by
  rw [St.get_cons] at h
  split at h
  · exact .inl (by omega)
  rw [St.get_cons] at h
  split at h
  · exact .inr (.inl (by omega))
  rw [St.get_cons] at h
  split at h
  · exact .inr (.inr (by omega))
  cases h
theorem pStX_t {l : Lkg} {kn dr us : List Bool} {g : D} {i j t : Nat} {cs : List D} (h : (pStX l kn dr us g i j).get t = some (.bx cs)) : t = 1 ∨ t = 2 ∨ t = 3 ∨ t = 5 := by
  rw [St.get_cons] at h
  split at h
  · exact .inl (by omega)
  rw [St.get_cons] at h
  split at h
  · exact .inr (.inl (by omega))
  rw [St.get_cons] at h
  split at h
  · exact .inr (.inr (.inl (by omega)))
  rw [St.get_cons] at h
  split at h
  · cases h
  rw [St.get_cons] at h
  split at h
  · exact .inr (.inr (.inr (by omega)))
  cases h
theorem enters_ok {P : Program} {f : FuncId} (hok : CallOk P f) (args : Array Value) (w : World) : (callFunc f args).run P w = .ok (.enter f args) w := by
  obtain ⟨fn, h1, h2, h3⟩ := hok
  simp only [callFunc, Sem.run_bind, Sem.run_pure, Result.andThen_ok, run_program, h1, h2, h3, Bool.false_eq_true, if_false]
/-- The function is left, behind the range. -/
theorem pair_leave {w : World} {F : Nat → Prop} {O : Nat → Option Nat} {o : Option Grp} {R' : List LR} {σ' : St} {a1 : Act} {W2 : World} {D : Nat} {res : Lift.D} (hs : simS σ' = true) (ho : owR R' = true) (hR : RelZ Tryz.prog w.heap.size (Free O F) ⟨w, fun _ => False⟩ 42 R' σ' a1 W2) (hD : w.heap.size ≤ D) (hDW : W2.heap[D]? = some (.deferred (some []))) (hq : resZ tys σ' [ResultVar.cell 2 29, ResultVar.cell 3 4] = some res) (hP : grpPost o res R') :
    LeavesInM Fence.wide 9 Tryz.prog Tryz.f56 a1.tmps (fun ee w' => ∃ v res R' O', ee = Ending.returned v ∧ grpPost o res R' ∧ BelY w.heap.size ⟨w, Owned O⟩ w w' ∧ (∀ b t, O' b = some t → OwnR w.heap.size ⟨w, Owned O⟩ w' b) ∧ Rd w' (Free O' (FW w.heap.size F w')) res v ∧
      ∀ (i : Nat) (r : LR), R'[i]? = some r → LooseAt Tryz.prog w' O' (FW w.heap.size F w') i r) (addD [{ target := .collected D, args := #[] }] a1).defers .returning W2 := by
  have hd := hR.defers
  have e : (addD [{ target := .collected D, args := #[] }] a1).defers = [{ target := .collected D, args := #[] }] := by simp [addD, hd]
  rw [e]
  refine ⟨by simp, .inl ⟨D, _, rfl, run_takeDeferred hDW, ?_⟩⟩
  have hR9 := hR.grown hs ho (grownBy_putObj' W2 D (.deferred none)) (fun r e => by cases e; exact ⟨hD, _, hDW, rfl⟩)
  obtain ⟨v, hv, O', h1, h2, h3, h4⟩ := RelZ.result (O := O) (F := F) tok (fn := Tryz.f56) (rs := [ResultVar.cell 2 29, ResultVar.cell 3 4]) rfl hR9 hq (fun b hb => hb.2)
  exact ⟨v, hv, v, res, R', O', rfl, hP, h1, h2, h3, h4⟩
set_option maxHeartbeats 6400000 in
theorem fin_pair_ok (l : Lkg) (hl : LkIn l) (kn dr us : List Bool) (g : D) (hk : kn.length = l.bodies.length) (hr : dr.length = l.bodies.length) : CallZ Tryz.prog 56 [.pr (FinC l kn dr us g)] [] (grpPost (parG l kn dr)) := by
  refine ⟨⟨_, Tryz.func56, by kernel_rfl, rfl⟩, fun w F O vs hF hOF hlen hr' hL => ?_⟩
  obtain ⟨v0, rfl⟩ : ∃ v0, vs = [v0] := by
    match vs, hlen with
    | [v], _ => exact ⟨v, rfl⟩
  have hd0 := hr' 0 _ v0 rfl rfl
  refine callsIn_wide.1 (callsIn_of_wp_marks (F := Fence.wide) (n := 9) Tryz.func56 rfl trivial ?_)
  have hR0 : RelZ Tryz.prog w.heap.size (Free O F) ⟨w, fun _ => False⟩ 42 [] (initSt 0 [.pr (FinC l kn dr us g)]) { tmps := #[v0] ++ Array.replicate (42 - 1) undef, defers := [] } w := by
    refine ⟨.refl _ _ _, Nat.le_refl _, ⟨fun b hb => hF b hb.2, fun _ h => h.elim⟩, rfl, by simp, fun _ => none, (fun b t h => by cases h), fun t av hav => ?_, fun i r h => by simp at h⟩
    rw [initSt, initSt, St.get_cons] at hav
    split at hav
    · rename_i e
      subst e
      cases hav
      exact ⟨v0, by simp, Rd.mono hd0 (fun c hc => ⟨rfl, .inl hc⟩) (fun _ _ => rfl)⟩
    · cases hav
  refine wpIn_seq (wpIn_mono (wpIn_wide.2 ((show AZ Tryz.prog w.heap.size (Free O F) ⟨w, fun _ => False⟩ 42 _ (fun e R σ => e = .normal ∧ R = [] ∧ σ.keep [1, 2, 3] = pSt l kn dr us g) [] (initSt 0 [.pr (FinC l kn dr us g)]) from ?_) _ w hR0)) (fun e a w1 h1 => ?_))
  · refine AZ.reg (fun B1 F1 w1 => ?_)
    refine AOps.run tok 3 _ _ _ _ rfl ?_
    exact AOps.nil ⟨rfl, rfl, rfl, rfl⟩
  obtain ⟨_, σ1, ⟨rfl, rfl, hk1⟩, hR1⟩ := h1
  have hR1 := hR1.keep [1, 2, 3]
  rw [hk1] at hR1
  change Code.wpIn _ _ _ _ _ _ _
  refine wpIn_seq (wpIn_seq (wpIn_mono (wpIn_wide.2 ((show AZ Tryz.prog w.heap.size (Free O F) ⟨w, fun _ => False⟩ 42 _ (fun e R σ => e = .normal ∧ R = [] ∧ σ.keep [1, 2, 3, 10] = pSt l kn dr us g ++ [(10, .d (.fn 101 [] [.pr [.pr (FinC l kn dr us g)]]))]) [] (pSt l kn dr us g) from ?_) a w1 hR1)) (fun e a w2 h2 => ?_)))
  · refine AZ.reg (fun B1 F1 w1 => ?_)
    refine AOps.run tok 1 _ _ _ _ rfl ?_
    refine AOps.call tok rfl rfl rfl rfl (fin_pairs_ok l kn dr us g) ?_
    exact AOps.nil ⟨rfl, rfl, rfl, rfl⟩
  obtain ⟨_, σ2, ⟨rfl, rfl, hk2⟩, hR2⟩ := h2
  have hR2 := hR2.keep [1, 2, 3, 10]
  rw [hk2] at hR2
  change Code.wpIn _ _ _ _ _ _ _
  refine wpIn_block ?_
  have hPst : RelZ Tryz.prog w.heap.size (Free O F) ⟨w, fun _ => False⟩ 42 [] (pSt l kn dr us g) a w2 := hR2.keep [1, 2, 3]
  have hdef := hR2.defers
  have hsz := hR2.size
  obtain ⟨OA, hOA, hOs, _⟩ := hR2.own
  obtain ⟨v10, hv10, hr10⟩ := hOs 10 _ rfl
  obtain ⟨va, vc, rfl, la, lc, _, rc⟩ := Rd.fn_eq hr10
  obtain ⟨V1, rfl⟩ : ∃ V1, vc = [V1] := by
    match vc, lc with
    | [v], _ => exact ⟨v, rfl⟩
  have hva : va = [] := List.length_eq_zero_iff.1 la
  subst hva
  have hV1 := rc 0 _ V1 rfl rfl
  obtain ⟨G, hGe⟩ : ∃ G, G = Free OA (FW w.heap.size (Free O F) w2) := ⟨_, rfl⟩
  rw [← hGe] at hV1
  have hGlt : ∀ b, G b → b < w2.heap.size := fun b hb => by rw [hGe] at hb; exact (FW.step hR2.f0 hR2.base (Nat.le_refl _) b hb.2).1
  have hGn : ∀ (b t : Nat) (cs : List D), (pSt l kn dr us g).get t = some (.bx cs) → a.tmps[t]? = some (.pointer (some ⟨b, 0, none⟩)) → ¬ G b := fun b t cs h1 h2 hG => by
    rw [hGe] at hG
    have h3 : St.get (pSt l kn dr us g ++ [(10, .d (.fn 101 [] [.pr [.pr (FinC l kn dr us g)]]))]) t = some (.bx cs) := by
      rcases pSt_t h1 with rfl | rfl | rfl <;> exact h1
    obtain ⟨v, hv, b', es, e, rfl, h4, _⟩ := hOs t _ h3
    rw [h2] at hv
    simp only [Option.some.injEq, Value.pointer.injEq, Addr.mk.injEq] at hv
    obtain ⟨rfl, _⟩ := hv
    have := hG.1
    rw [h4] at this; cases this
  obtain ⟨q1, hq1, _⟩ := hOs 1 _ rfl
  obtain ⟨q2, hq2, _⟩ := hOs 2 _ rfl
  obtain ⟨q3, hq3, _⟩ := hOs 3 _ rfl
  have hpt : ∀ a' : Act, PinsOk [(1, q1), (2, q2), (3, q3)] a' → ∀ t, t = 1 ∨ t = 2 ∨ t = 3 → a.tmps[t]? = a'.tmps[t]? := fun a' hp t ht => by
    rcases ht with rfl | rfl | rfl
    · rw [hq1]; exact (hp (1, q1) (by simp)).symm
    · rw [hq2]; exact (hp (2, q2) (by simp)).symm
    · rw [hq3]; exact (hp (3, q3) (by simp)).symm
  have hBw : w.heap.size ≤ w2.heap.size := hR2.base
  refine wpIn_rangeFunc_ownH (α := PrT l.bodies.length) rfl (by decide) (gf := 101) (lb := #[V1]) (eval_tmp hv10) trivial (fun args w => ?_) (fin_pairs1_ok l hl kn dr us g hk hr hGlt hV1 8) (fun h1 h2 => ⟨Nat.le_trans h1.1 h2.1, fun b hb => (h2.2 b hb).trans (h1.2 b hb)⟩) (fun W lo o o' hlo _ _ _ => ⟨by simp [World.putObj], fun b hb => World.putObj_heap_other (by have := hGlt b hb; omega)⟩) (Below.refl _ _) (fun _ => rfl)
    (fun pre W => w2.heap.size ≤ W.heap.size ∧ (∀ p, p ∈ pvals pre → parS l kn p.1 p.2 = none) ∧ RelZ Tryz.prog w.heap.size (Free O F) ⟨w, fun _ => False⟩ 42 [] (pSt l kn dr us g) a W)
    (fun c pre W => c = .ret ∧ ∃ rest q r Vb Vj, pvals pre = rest ++ [q] ∧ (∀ p, p ∈ rest → parS l kn p.1 p.2 = none) ∧ parS l kn q.1 q.2 = some r ∧ RelZ Tryz.prog w.heap.size (Free O F) ⟨w, fun _ => False⟩ 42 [(Vb, AV.ow 3 (IsL r.bs)), (Vj, AV.ow 3 (IsL r.js))] (pStR l kn dr us g r Vb Vj) a W)
    (fun s W W' row hs hg hrw => ⟨Nat.le_trans hs.1 hg.size, hs.2.1, hs.2.2.grown rfl rfl hg (fun r e => by obtain ⟨h1, h2⟩ := hrw r e; exact ⟨by omega, h2⟩)⟩)
    (fun c s W W' row hs hg hrw => by
      obtain ⟨h0, rest, q, r, Vb, Vj, h1, h2, h3, h4⟩ := hs
      exact ⟨h0, rest, q, r, Vb, Vj, h1, h2, h3, h4.grown rfl rfl hg (fun r e => by obtain ⟨h1, h2⟩ := hrw r e; exact ⟨by omega, h2⟩)⟩)
    ⟨Nat.le_refl _, (fun p hp => by simp [pvals] at hp), hPst⟩
    (fun x a' W => PinsOk [(1, q1), (2, q2), (3, q3)] a' ∧ RelZ Tryz.prog w.heap.size (Free O F) ⟨w, fun _ => False⟩ 42 [] (pStX l kn dr us g x.1.1 x.1.2) a' W ∧ ∃ b5, a'.tmps[5]? = some (.pointer (some ⟨b5, 0, none⟩)) ∧ w2.heap.size ≤ b5)
    (fun x a' _ W W' row hs hg hrw => ⟨hs.1, hs.2.1.grown rfl rfl hg (fun r e => by obtain ⟨h1, h2⟩ := hrw r e; exact ⟨by omega, h2⟩), hs.2.2⟩)
    ?_ ?_ ?_ ?_
  · exact enters_ok ⟨_, Tryz.func101, by kernel_rfl, rfl⟩ args w
  · -- a round begins
    intro lr pre x W K hI hK
    have hRx : RelZ Tryz.prog w.heap.size (Free O F) ⟨w, fun _ => False⟩ 42 [] (pSt l kn dr us g) (rAct a x) W := hI.2.2.frame2 rfl rfl (by rw [rAct_size]; exact hsz) (fun t av hav => by rcases pSt_t hav with rfl | rfl | rfl <;> exact rAct_ne (by decide) (by decide))
    have hRy := hRx.more (t := 12) rfl (rAct_12 hsz) rfl
    have hRz := hRy.more (t := 11) rfl (rAct_11 hsz) rfl
    obtain ⟨F1, hRb, hX, hback⟩ := hRz.reb rfl
    have hpins : PinsOk [(1, q1), (2, q2), (3, q3)] (rAct a x) := fun e he => by
      simp only [List.mem_cons, List.not_mem_nil, or_false] at he
      rcases he with rfl | rfl | rfl
      · exact (rAct_ne (t := 1) (by decide) (by decide)).trans hq1
      · exact (rAct_ne (t := 2) (by decide) (by decide)).trans hq2
      · exact (rAct_ne (t := 3) (by decide) (by decide)).trans hq3
    have hbx : ∀ b, BoxOf ((11, AV.d (.v (.int .i64 (x.1.1 : Nat)))) :: (12, AV.d (.v (.int .i64 (x.1.2 : Nat)))) :: pSt l kn dr us g) (rAct a x) b → ∃ t cs, (pSt l kn dr us g).get t = some (.bx cs) ∧ a.tmps[t]? = some (.pointer (some ⟨b, 0, none⟩)) := fun b ⟨t, cs, h1, h2⟩ => by
      rw [St.get_cons] at h1
      split at h1
      · cases h1
      rw [St.get_cons] at h1
      split at h1
      · cases h1
      exact ⟨t, cs, h1, by rw [← h2, rAct_ne (by omega) (by omega)]⟩
    refine wpIn_mono ((show AR Tryz.prog W.heap.size F1 ⟨W, BoxOf ((11, AV.d (.v (.int .i64 (x.1.1 : Nat)))) :: (12, AV.d (.v (.int .i64 (x.1.2 : Nat)))) :: pSt l kn dr us g) (rAct a x)⟩ 42 lr [(1, q1), (2, q2), (3, q3)] _ (fun e R σ => e = .normal ∧ R = [] ∧ σ.keep [1, 2, 3, 4, 5] = pStX l kn dr us g x.1.1 x.1.2) [] ((11, AV.d (.v (.int .i64 (x.1.1 : Nat)))) :: (12, AV.d (.v (.int .i64 (x.1.2 : Nat)))) :: pSt l kn dr us g) from ?_) _ _ W hRb hpins) (fun e a' W' h => ?_)
    · refine AR.seq ?_
      refine AR.region rfl rfl ?_
      refine AZOps.cut 1 rfl (fun B1 F1 w1 => ?_)
      refine AOps.run tok 1 _ _ _ _ rfl ?_
      refine AOps.nil ⟨rfl, ?_⟩
      refine AZOps.nil ?_
      refine AR.region rfl rfl ?_
      refine AZOps.cut 2 rfl (fun B1 F1 w1 => ?_)
      refine AOps.run tok 2 _ _ _ _ rfl ?_
      refine AOps.nil ⟨rfl, ?_⟩
      exact AZOps.nil ⟨rfl, rfl, rfl⟩
    obtain ⟨⟨R', σ', ⟨rfl, rfl, hk'⟩, hR'⟩, hp'⟩ := h
    have hR'k := hR'.keep [1, 2, 3, 4, 5]
    rw [hk'] at hR'k
    have hBk := hback [] _ a' W' rfl rfl hR'k
    refine hK a' W' (keepsFrom_of _ hX hR'k) ⟨hR'k.below.size, fun b hb => hR'k.below.block b (Nat.lt_of_lt_of_le (hGlt b hb) hI.1) (fun h => ?_)⟩ ⟨Nat.le_trans hI.1 hR'k.below.size, hI.2.1, (show RelZ Tryz.prog w.heap.size (Free O F) ⟨w, fun _ => False⟩ 42 [] (pSt l kn dr us g) a' W' from hBk.keep [1, 2, 3]).frame2 rfl hdef hsz (fun t av hav => hpt a' hp' t (pSt_t hav))⟩ ⟨hp', hBk, ?_⟩
    · obtain ⟨t, cs, h1, h2⟩ := hbx b h
      exact hGn b t cs h1 h2 hb
    · obtain ⟨O', hO'r, hO's, _⟩ := hR'k.own
      obtain ⟨v5, hv5, b5, es, e, rfl, h55, _⟩ := hO's 5 _ rfl
      refine ⟨b5, hv5, ?_⟩
      rcases (hO'r b5 5 h55).1 with h | h
      · exact Nat.le_trans hI.1 h
      · exfalso
        obtain ⟨t, cs, h1, h2⟩ := hbx b5 h
        have ht := pSt_t h1
        rw [hpt a' hp' t ht] at h2
        have h3 : St.get (pStX l kn dr us g x.1.1 x.1.2) t = some (.bx cs) := by rcases ht with rfl | rfl | rfl <;> exact h1
        obtain ⟨v, hv, b', es', e', rfl, h4, _⟩ := hO's t _ h3
        rw [h2] at hv
        simp only [Option.some.injEq, Value.pointer.injEq, Addr.mk.injEq] at hv
        obtain ⟨rfl, _⟩ := hv
        rw [h55] at h4
        cases h4
        omega
  · -- a round
    intro lr pre x a' W hlr hrec hI hAx hlen'
    obtain ⟨hp, hRx, b5, h5, h5s⟩ := hAx
    obtain ⟨F1, hRb, hX, hback⟩ := hRx.reb rfl
    have hnb : ∀ b, G b → ¬ BoxOf (pStX l kn dr us g x.1.1 x.1.2) a' b := fun b hG ⟨t, cs, h1, h2⟩ => by
      have hkey : ∀ t, t = 1 ∨ t = 2 ∨ t = 3 → (pStX l kn dr us g x.1.1 x.1.2).get t = some (.bx cs) → a'.tmps[t]? = some (.pointer (some ⟨b, 0, none⟩)) → False := fun t ht h1 h2 => by
        rw [← hpt a' hp t ht] at h2
        exact hGn b t cs (by rcases ht with rfl | rfl | rfl <;> exact h1) h2 hG
      rcases pStX_t h1 with rfl | rfl | rfl | rfl
      · exact hkey 1 (.inl rfl) h1 h2
      · exact hkey 2 (.inr (.inl rfl)) h1 h2
      · exact hkey 3 (.inr (.inr rfl)) h1 h2
      · rw [h5] at h2
        simp only [Option.some.injEq, Value.pointer.injEq, Addr.mk.injEq] at h2
        obtain ⟨rfl, _⟩ := h2
        have := hGlt b5 hG
        omega
    refine wpIn_mono (pair_body l hl kn dr us g hk x.1.1 x.1.2 lr q1 q2 q3 rfl _ a' W hRb hp) (fun e a2 W2 h => ?_)
    obtain ⟨⟨R', σ', hq, hR'⟩, hp2⟩ := h
    have hR'k := hR'.keep [1, 2, 3]
    rcases hq with ⟨rfl, rfl, hk', hn⟩ | ⟨rfl, r, Vb, Vj, hs, rfl, hk'⟩
    · rw [hk'] at hR'k
      refine ⟨keepsFrom_of _ hX hR'k, ⟨hR'k.below.size, fun b hb => hR'k.below.block b (Nat.lt_of_lt_of_le (hGlt b hb) hI.1) (hnb b hb)⟩, Nat.le_trans hI.1 hR'k.below.size, fun p hp => ?_, (hback [] _ a2 W2 rfl rfl hR'k).frame2 rfl hdef hsz (fun t av hav => hpt a2 hp2 t (pSt_t hav))⟩
      rw [pvals_app] at hp
      rcases List.mem_append.1 hp with h | h
      · exact hI.2.1 p h
      · simp only [pvals, List.map_cons, List.map_nil, List.mem_singleton] at h
        rw [h]; exact hn
    · rw [hk'] at hR'k
      exact ⟨keepsFrom_of _ hX hR'k, rfl, pvals pre, x.1, r, Vb, Vj, by rw [pvals_app]; rfl, hI.2.1, hs, (hback _ _ a2 W2 rfl rfl hR'k).frame2 rfl hdef hsz (fun t av hav => hpt a2 hp2 t (by
        rw [St.get_cons] at hav
        split at hav
        · exact .inl (by omega)
        rw [St.get_cons] at hav
        split at hav
        · exact .inr (.inl (by omega))
        rw [St.get_cons] at hav
        split at hav
        · exact .inr (.inr (by omega))
        cases hav))⟩
  · -- behind the range
    intro D xs W hD hS hI hDW
    have ha : ({ a with defers := { target := .collected D, args := #[] } :: a.defers } : Act) = addD [{ target := .collected D, args := #[] }] a := by simp [addD, hdef]
    rw [ha]
    change Code.wpIn _ _ _ _ _ _ _
    obtain ⟨F1, hRb, hX, hback⟩ := hI.2.2.reb rfl
    refine wpIn_seq (wpIn_mono (wpIn_wide.2 (wp_region_list (wpList_defers (Q := fun e a1 W1 => e = .normal ∧ ∃ σ', σ'.keep [1, 2, 3] = pStN l kn dr us g ∧ RelZ Tryz.prog W.heap.size F1 ⟨W, BoxOf (pSt l kn dr us g) a⟩ 42 [] σ' a1 W1) _ (fun c a w h => by cases h.1) (fun ⟨a, w, h⟩ => by cases h.1) _ a W
      ((show AZOps Tryz.prog W.heap.size F1 ⟨W, BoxOf (pSt l kn dr us g) a⟩ 42 _ _ (fun R σ => R = [] ∧ σ.keep [1, 2, 3] = pStN l kn dr us g) [] [] (pSt l kn dr us g) from ?_) a W hRb (fun e he => by cases he) _ (fun a1 W1 R1 σ1 h1 h2 => ⟨rfl, σ1, h1.2, h1.1 ▸ h2⟩))))) (fun e a2 W2 h => ?_))
    · refine AZOps.cut 3 rfl (fun B1 F1 w1 => ?_)
      refine AOps.bldn tok [dI 0, .v nilS, .v nilS, dI 0] rfl rfl rfl rfl (by kernel_rfl) ?_
      refine AOps.run tok 2 _ _ _ _ rfl ?_
      refine AOps.nil ⟨rfl, ?_⟩
      exact AZOps.nil ⟨rfl, rfl⟩
    obtain ⟨rfl, a1, rfl, _, σ1, hk1, hR1⟩ := h
    have hR1 := hR1.keep [1, 2, 3]
    rw [hk1] at hR1
    change Code.wpIn _ _ _ _ _ _ _
    refine wpIn_ret ?_
    refine pair_leave (o := parG l kn dr) rfl rfl (hback [] _ a1 W2 rfl rfl hR1) (by omega) ?_ rfl ?_
    · rw [hR1.below.block D (Array.getElem?_eq_some_iff.1 hDW).1 (fun hx => by
        obtain ⟨⟨cs, e, fz, hc⟩, _⟩ := hX D hx
        rw [hc] at hDW; cases hDW)]
      exact hDW
    · rw [show parG l kn dr = none by unfold parG; rw [← hS]; exact findSome_pre hI.2.1]
      exact ⟨rfl, rfl⟩
  · -- a round has returned
    intro D c pre W hD hSp hIx hDW
    have ha : ({ a with defers := { target := .collected D, args := #[] } :: a.defers } : Act) = addD [{ target := .collected D, args := #[] }] a := by simp [addD, hdef]
    rw [ha]
    obtain ⟨rfl, rest, q, r, Vb, Vj, hpre, hnone, hq, hRx⟩ := hIx
    obtain ⟨t, ht⟩ := hSp
    refine wpIn_ret ?_
    refine pair_leave (o := parG l kn dr) rfl rfl hRx (by omega) hDW rfl ?_
    rw [show parG l kn dr = some r by unfold parG; rw [← ht, hpre, List.append_assoc]; exact findSome_at hnone hq]
    exact ⟨Vb, Vj, rfl, rfl⟩
end Lift
/- Groups: the next group. -/
namespace Lift
open Go Go.Proofs

def nxtG (l : Lkg) (kn dr : List Bool) : Option Grp := match drvG l kn with
  | some g => some g
  | none => match parG l kn dr with
    | some g => some g
    | none => sngG l kn dr
set_option maxHeartbeats 1600000 in
theorem fin_next_ok (l : Lkg) (hl : LkIn l) (kn dr us : List Bool) (g : D) (hk : kn.length = l.bodies.length) (hr : dr.length = l.bodies.length) : CallZ Tryz.prog 40 [.pr (FinC l kn dr us g)] [] (grpPost (nxtG l kn dr)) := by
  refine CallZ.intro (n := 26) tok Tryz.func40 rfl rfl rfl (Nat.le_of_ble_eq_true rfl) (by kernel_rfl) (fun B F0 w0 => ?_)
  have cD := fin_driver_ok l hl kn dr us g hk
  have cP := fin_pair_ok l hl kn dr us g hk hr
  have cS := fin_single_ok l hl kn dr us g hk hr
  have hN : nxtG l kn dr = (match drvG l kn with
    | some g => some g
    | none => match parG l kn dr with
      | some g => some g
      | none => sngG l kn dr) := rfl
  generalize nxtG l kn dr = N at hN ⊢
  refine AZ.seq ?_
  refine AZ.reg (fun B1 F1 w1 => ?_)
  refine AOps.run tok 2 _ _ _ _ rfl ?_
  refine AOps.nil ⟨rfl, ?_⟩
  refine AZ.seq ?_
  refine AZ.seq ?_
  refine AZ.region ?_
  refine AZOps.cut 1 rfl (fun B1 F1 w1 => ?_)
  refine AOps.run tok 1 _ _ _ _ rfl ?_
  refine AOps.nil ⟨rfl, ?_⟩
  refine AZOps.callz tok [] rfl rfl rfl rfl rfl List.nodup_nil rfl cD (fun _ _ _ => Nat.zero_le _) (fun res R1 hP => ?_)
  rcases hd : drvG l kn with _ | gd
  rotate_left
  · rw [hd] at hP hN
    subst hN
    obtain ⟨Vb, Vj, rfl, rfl⟩ := hP
    refine AZOps.cut 6 rfl (fun B1 F1 w1 => ?_)
    refine AOps.run tok 6 _ _ _ _ rfl ?_
    refine AOps.nil ⟨rfl, ?_⟩
    refine AZOps.nil ?_
    refine AZ.seq ?_
    refine AZ.reg (fun B1 F1 w1 => ?_)
    refine AOps.run tok 1 _ _ _ _ rfl ?_
    refine AOps.nil ⟨rfl, ?_⟩
    refine AZ.condT rfl ?_
    refine AZ.seq ?_
    refine AZ.reg (fun B1 F1 w1 => ?_)
    refine AOps.run tok 3 _ _ _ _ rfl ?_
    refine AOps.nil ⟨rfl, ?_⟩
    exact AZ.ret ⟨_, rfl, Vb, Vj, rfl, rfl⟩
  rw [hd] at hP hN
  obtain ⟨rfl, rfl⟩ := hP
  refine AZOps.cut 6 rfl (fun B1 F1 w1 => ?_)
  refine AOps.run tok 6 _ _ _ _ rfl ?_
  refine AOps.nil ⟨rfl, ?_⟩
  refine AZOps.nil ?_
  refine AZ.seq ?_
  refine AZ.reg (fun B1 F1 w1 => ?_)
  refine AOps.run tok 1 _ _ _ _ rfl ?_
  refine AOps.nil ⟨rfl, ?_⟩
  refine AZ.condF rfl ?_
  refine AZ.skip ?_
  refine AZ.seq ?_
  refine AZ.seq ?_
  refine AZ.region ?_
  refine AZOps.cut 1 rfl (fun B1 F1 w1 => ?_)
  refine AOps.run tok 1 _ _ _ _ rfl ?_
  refine AOps.nil ⟨rfl, ?_⟩
  refine AZOps.callz tok [] rfl rfl rfl rfl rfl List.nodup_nil rfl cP (fun _ _ _ => Nat.zero_le _) (fun res R1 hP => ?_)
  rcases hp : parG l kn dr with _ | gd
  rotate_left
  · rw [hp] at hP hN
    subst hN
    obtain ⟨Vb, Vj, rfl, rfl⟩ := hP
    refine AZOps.cut 6 rfl (fun B1 F1 w1 => ?_)
    refine AOps.run tok 6 _ _ _ _ rfl ?_
    refine AOps.nil ⟨rfl, ?_⟩
    refine AZOps.nil ?_
    refine AZ.seq ?_
    refine AZ.reg (fun B1 F1 w1 => ?_)
    refine AOps.run tok 1 _ _ _ _ rfl ?_
    refine AOps.nil ⟨rfl, ?_⟩
    refine AZ.condT rfl ?_
    refine AZ.seq ?_
    refine AZ.reg (fun B1 F1 w1 => ?_)
    refine AOps.run tok 3 _ _ _ _ rfl ?_
    refine AOps.nil ⟨rfl, ?_⟩
    exact AZ.ret ⟨_, rfl, Vb, Vj, rfl, rfl⟩
  rw [hp] at hP hN
  obtain ⟨rfl, rfl⟩ := hP
  subst hN
  refine AZOps.cut 6 rfl (fun B1 F1 w1 => ?_)
  refine AOps.run tok 6 _ _ _ _ rfl ?_
  refine AOps.nil ⟨rfl, ?_⟩
  refine AZOps.nil ?_
  refine AZ.seq ?_
  refine AZ.reg (fun B1 F1 w1 => ?_)
  refine AOps.run tok 1 _ _ _ _ rfl ?_
  refine AOps.nil ⟨rfl, ?_⟩
  refine AZ.condF rfl ?_
  refine AZ.skip ?_
  refine AZ.seq ?_
  refine AZ.region ?_
  refine AZOps.cut 1 rfl (fun B1 F1 w1 => ?_)
  refine AOps.run tok 1 _ _ _ _ rfl ?_
  refine AOps.nil ⟨rfl, ?_⟩
  refine AZOps.callz tok [] rfl rfl rfl rfl rfl List.nodup_nil rfl cS (fun _ _ _ => Nat.zero_le _) (fun res R1 hP => ?_)
  rcases hs : sngG l kn dr with _ | gd
  · rw [hs] at hP
    obtain ⟨rfl, rfl⟩ := hP
    refine AZOps.cut 4 rfl (fun B1 F1 w1 => ?_)
    refine AOps.run tok 4 _ _ _ _ rfl ?_
    refine AOps.nil ⟨rfl, ?_⟩
    refine AZOps.nil ?_
    exact AZ.ret ⟨_, rfl, rfl, rfl⟩
  · rw [hs] at hP
    obtain ⟨Vb, Vj, rfl, rfl⟩ := hP
    refine AZOps.cut 4 rfl (fun B1 F1 w1 => ?_)
    refine AOps.run tok 4 _ _ _ _ rfl ?_
    refine AOps.nil ⟨rfl, ?_⟩
    refine AZOps.nil ?_
    exact AZ.ret ⟨_, rfl, Vb, Vj, rfl, rfl⟩
end Lift
/- The model's checks: numbers, bodies. -/
namespace Lift
open Go Go.Proofs

theorem model_in_ok (i : Int) (n : Nat) : Pure Tryz.prog 49 [dI i, dI n] (dB (inB i n)) := by
  refine Pure.intro (n := 12) tok Tryz.func49 rfl rfl rfl (Nat.le_of_ble_eq_true rfl) (by kernel_rfl) (fun B F0 w0 => ?_)
  refine AW.seq ?_
  refine AW.region ?_   -- "model.go:42"
  refine AOps.run tok 1 _ _ _ _ rfl ?_
  refine AOps.nil ?_
  refine AW.seq ?_
  refine AW.region ?_   -- "model.go:42"   -- GUARDS
  refine AOps.run tok 2 _ _ _ _ rfl ?_
  refine AOps.split (t := 6) rfl (fun h => ?_) (fun h => ?_)
  · have h1 := of_decide_eq_true h
    refine AOps.run tok 6 _ _ _ _ rfl ?_
    refine AOps.nil ?_
    rw [show inB i n = decide (i < n) by unfold inB; rw [decide_eq_decide]; omega]
    exact AW.ret rfl
  · have h1 := of_decide_eq_false h
    refine AOps.run tok 6 _ _ _ _ rfl ?_
    refine AOps.nil ?_
    rw [show inB i n = false by unfold inB; rw [decide_eq_false_iff_not]; omega]
    exact AW.ret rfl

set_option maxHeartbeats 1600000 in
theorem model_bodies_ok (bs : List Body) {K : Nat} (hn : bs.length ≤ big) (hb : ∀ i, (bs.getD i default).ok K) (hK : K ≤ 50000000) : Pure Tryz.prog 32 [BodiesD bs] (erV (bodiesE bs)) := by
  refine Pure.intro (n := 85) tok Tryz.func32 rfl rfl rfl (Nat.le_of_ble_eq_true rfl) (by kernel_rfl) (fun B F0 w0 => ?_)
  unfold big at hn
  refine AW.seq ?_
  refine AW.region ?_   -- "model.go:11"
  refine AOps.run tok 1 _ _ _ _ rfl ?_
  refine AOps.nil ?_
  refine AW.seq ?_
  refine AW.seq ?_
  refine AW.region ?_   -- "model.go:12"
  refine AOps.run tok 3 _ _ _ _ rfl ?_
  rw [List.length_map]
  refine AOps.nil ?_
  refine AW.block ?_   -- block 0
  refine AW.loopS [0, 11, 12, 13] (fun i : Nat => [(0, .d (BodiesD bs)), (11, .d (BodiesD bs)), (12, .d (dI bs.length)), (13, .d (dI i))])
    (fun i => i ≤ bs.length ∧ bodiesE bs = fE (bodyE bs) (bs.length - i) i) (fun i => bs.length - i) 0 rfl ⟨Nat.zero_le _, rfl⟩ (fun i ⟨hi, hE⟩ => ?_)
  refine AW.seq ?_
  refine AW.region ?_   -- "model.go:12"
  refine AOps.run tok 1 _ _ _ _ rfl ?_
  refine AOps.nil ?_
  refine AW.seq ?_
  refine AW.cond rfl (fun h => ?_) (fun h => ?_)
  · have hin : i < bs.length := by have := of_decide_eq_true h; omega
    obtain ⟨bok1, bok2, bok3⟩ := hb i
    have hbE : bodyE bs i ≠ 0 → bodiesE bs = bodyE bs i := fun h0 => hE.trans (fE_hit hin h0)
    have hbM : bodyE bs i = 0 → bodiesE bs = fE (bodyE bs) (bs.length - (i + 1)) (i + 1) := fun h0 => hE.trans (fE_miss hin h0)
    obtain ⟨b, hbe⟩ : ∃ b, b = bs.getD i default := ⟨_, rfl⟩
    rw [← hbe] at bok1 bok2 bok3
    unfold big at bok1 bok2
    have hdup : dupB bs i = anyF (fun k => decide ((bs.getD k default).nm = b.nm)) i 0 := by rw [hbe]; rfl
    have hbd : bodyE bs i = if nameB b.nm = false then 5 else if dupB bs i = true then 6 else ptsE b.pts := by rw [hbe]; rfl
    refine AW.skip ?_
    refine AW.seq ?_
    refine AW.block ?_   -- block 1
    refine AW.seq ?_
    refine AW.region ?_   -- "model.go:12"
    refine AOps.run tok 1 _ _ _ _ rfl ?_
    refine AOps.idx tok b.D rfl rfl rfl rfl (Int.natCast_nonneg i) (by rw [hbe]; exact getM Body.D hin) ?_
    refine AOps.run tok 4 _ _ _ _ rfl ?_
    refine AOps.nil ?_
    refine AW.seq ?_
    refine AW.seq ?_
    refine AW.region ?_   -- "model.go:13"
    refine AOps.run tok 2 _ _ _ _ rfl ?_
    refine AOps.call tok rfl rfl rfl rfl (token_Name_ok b.nm bok1) ?_
    refine AOps.run tok 1 _ _ _ _ rfl ?_
    refine AOps.nil ?_
    refine AW.cond rfl (fun h => ?_) (fun h => ?_)
    · have hnm : nameB b.nm = false := by simpa using h
      have h5 : bodyE bs i = 5 := by rw [hbd, hnm]; rfl
      rw [show bodiesE bs = 5 by rw [hbE (by omega), h5]]
      refine AW.seq ?_
      refine AW.region ?_   -- "model.go:14"
      refine AOps.run tok 2 _ _ _ _ rfl ?_
      refine AOps.nil ?_
      exact AW.ret rfl
    · have hnm : nameB b.nm = true := by simpa using h
      rw [hnm, if_neg (by decide)] at hbd
      refine AW.skip ?_
      refine AW.seq ?_
      refine AW.seq ?_
      refine AW.region ?_   -- "model.go:16"
      refine AOps.run tok 2 _ _ _ _ rfl ?_
      refine AOps.slc tok rfl rfl rfl rfl trivial (Int.natCast_nonneg i) (Nat.zero_le _) (by show i ≤ _; rw [List.length_map]; omega) ?_
      refine AOps.run tok 2 _ _ _ _ rfl ?_
      rw [slcLen (by rw [List.length_map]; omega)]
      refine AOps.nil ?_
      refine AW.block ?_   -- block 2
      refine AW.loopS [0, 3, 4, 11, 12, 13, 25, 26, 27] (fun k : Nat => [(0, .d (BodiesD bs)), (3, .d (dI i)), (4, .bx [dS b.nm, PtsD b.pts]), (11, .d (BodiesD bs)), (12, .d (dI bs.length)), (13, .d (dI i)), (25, .d (.sl 2 ((bs.map Body.D).take i))), (26, .d (dI i)), (27, .d (dI k))])
        (fun k => k ≤ i ∧ dupB bs i = anyF (fun k => decide ((bs.getD k default).nm = b.nm)) (i - k) k) (fun k => i - k) 0 rfl ⟨Nat.zero_le _, hdup⟩ (fun k ⟨hk, hD⟩ => ?_)
      refine AW.seq ?_
      refine AW.region ?_   -- "model.go:16"
      refine AOps.run tok 1 _ _ _ _ rfl ?_
      refine AOps.nil ?_
      refine AW.seq ?_
      refine AW.cond rfl (fun h => ?_) (fun h => ?_)
      · have hki : k < i := by have := of_decide_eq_true h; omega
        refine AW.skip ?_
        refine AW.seq ?_
        refine AW.block ?_   -- block 3
        refine AW.seq ?_
        refine AW.region ?_   -- "model.go:16"
        refine AOps.idx tok (bs.getD k default).D rfl rfl rfl rfl (Int.natCast_nonneg k) (getT Body.D (by omega) hki) ?_
        refine AOps.run tok 3 _ _ _ _ rfl ?_
        refine AOps.nil ?_
        refine AW.seq ?_
        refine AW.region ?_   -- "model.go:17"
        refine AOps.run tok 5 _ _ _ _ rfl ?_
        rw [str_eq]
        refine AOps.nil ?_
        refine AW.cond rfl (fun h => ?_) (fun h => ?_)
        · have h6 : bodyE bs i = 6 := by rw [hbd, hD.trans (anyF_hit hki h)]; rfl
          rw [show bodiesE bs = 6 by rw [hbE (by omega), h6]]
          refine AW.seq ?_
          refine AW.region ?_   -- "model.go:18"
          refine AOps.run tok 2 _ _ _ _ rfl ?_
          refine AOps.nil ?_
          exact AW.ret rfl
        · refine AW.skip ?_
          refine AW.region ?_   -- "model.go:16"
          refine AOps.run tok 2 _ _ _ _ rfl ?_
          rw [wI64 (x := (k : Int) + 1) (by omega) (by omega)]
          refine AOps.nil ?_
          exact ⟨k + 1, rfl, ⟨hki, hD.trans (anyF_miss hki h)⟩, by omega⟩
      · have hki : ¬ k < i := by have := of_decide_eq_false h; omega
        rw [hD.trans (anyF_end hki), if_neg (by decide)] at hbd
        refine AW.exit ?_
        refine AW.seq ?_
        refine AW.seq ?_
        refine AW.region ?_   -- "model.go:21"
        refine AOps.run tok 4 _ _ _ _ rfl ?_
        rw [List.length_map]
        refine AOps.nil ?_
        refine AW.cond rfl (fun h => ?_) (fun h => ?_)
        · have h8 : 8 < b.pts.length := by have := of_decide_eq_true h; omega
          have h4 : bodyE bs i = 4 := by rw [hbd, ptsE, if_pos h8]
          rw [show bodiesE bs = 4 by rw [hbE (by omega), h4]]
          refine AW.seq ?_
          refine AW.region ?_   -- "model.go:22"
          refine AOps.run tok 2 _ _ _ _ rfl ?_
          refine AOps.nil ?_
          exact AW.ret rfl
        · have h8 : ¬ 8 < b.pts.length := by have := of_decide_eq_false h; omega
          rw [ptsE, if_neg h8] at hbd
          refine AW.skip ?_
          refine AW.seq ?_
          refine AW.region ?_   -- "model.go:24"
          refine AOps.run tok 4 _ _ _ _ rfl ?_
          rw [List.length_map]
          refine AOps.nil ?_
          refine AW.block ?_   -- block 4
          refine AW.loopS [0, 4, 11, 12, 13, 44, 45, 46] (fun p : Nat => [(0, .d (BodiesD bs)), (4, .bx [dS b.nm, PtsD b.pts]), (11, .d (BodiesD bs)), (12, .d (dI bs.length)), (13, .d (dI i)), (44, .d (PtsD b.pts)), (45, .d (dI b.pts.length)), (46, .d (dI p))])
            (fun p => p ≤ b.pts.length ∧ bodyE bs i = fE (ptE b.pts) (b.pts.length - p) p) (fun p => b.pts.length - p) 0 rfl ⟨Nat.zero_le _, hbd⟩ (fun p ⟨hp, hP⟩ => ?_)
          refine AW.seq ?_
          refine AW.region ?_   -- "model.go:24"
          refine AOps.run tok 1 _ _ _ _ rfl ?_
          refine AOps.nil ?_
          refine AW.seq ?_
          refine AW.cond rfl (fun h => ?_) (fun h => ?_)
          · have hpn : p < b.pts.length := by have := of_decide_eq_true h; omega
            obtain ⟨mok1, mok2, mok3⟩ := bok3 p
            have hpE : ptE b.pts p ≠ 0 → bodiesE bs = ptE b.pts p := fun h0 => by
              have := hP.trans (fE_hit hpn h0)
              rw [hbE (by omega), this]
            have hpM : ptE b.pts p = 0 → bodyE bs i = fE (ptE b.pts) (b.pts.length - (p + 1)) (p + 1) := fun h0 => hP.trans (fE_miss hpn h0)
            obtain ⟨m, hm⟩ : ∃ m, m = b.pts.getD p default := ⟨_, rfl⟩
            rw [← hm] at mok1 mok2 mok3
            unfold big at mok1
            have hdup2 : dupM b.pts p = anyF (fun k => decide ((b.pts.getD k default).nm = m.nm)) p 0 := by rw [hm]; rfl
            have hpd : ptE b.pts p = if nameB m.nm = false then 5 else if dupM b.pts p = true then 6 else if m.x.okB = true ∧ m.y.okB = true then 0 else 3 := by rw [hm]; rfl
            refine AW.skip ?_
            refine AW.seq ?_
            refine AW.block ?_   -- block 5
            refine AW.seq ?_
            refine AW.region ?_   -- "model.go:24"
            refine AOps.run tok 1 _ _ _ _ rfl ?_
            refine AOps.idx tok m.D rfl rfl rfl rfl (Int.natCast_nonneg p) (by rw [hm]; exact getM Mark.D hpn) ?_
            refine AOps.run tok 4 _ _ _ _ rfl ?_
            refine AOps.nil ?_
            refine AW.seq ?_
            refine AW.seq ?_
            refine AW.region ?_   -- "model.go:25"
            refine AOps.run tok 2 _ _ _ _ rfl ?_
            refine AOps.call tok rfl rfl rfl rfl (token_Name_ok m.nm mok1) ?_
            refine AOps.run tok 1 _ _ _ _ rfl ?_
            refine AOps.nil ?_
            refine AW.cond rfl (fun h => ?_) (fun h => ?_)
            · have hnm2 : nameB m.nm = false := by simpa using h
              have h5 : ptE b.pts p = 5 := by rw [hpd, hnm2]; rfl
              rw [show bodiesE bs = 5 by rw [hpE (by omega), h5]]
              refine AW.seq ?_
              refine AW.region ?_   -- "model.go:26"
              refine AOps.run tok 2 _ _ _ _ rfl ?_
              refine AOps.nil ?_
              exact AW.ret rfl
            · have hnm2 : nameB m.nm = true := by simpa using h
              rw [hnm2, if_neg (by decide)] at hpd
              refine AW.skip ?_
              refine AW.seq ?_
              refine AW.seq ?_
              refine AW.region ?_   -- "model.go:28"
              refine AOps.run tok 3 _ _ _ _ rfl ?_
              refine AOps.slc tok rfl rfl rfl rfl trivial (Int.natCast_nonneg p) (Nat.zero_le _) (by show p ≤ _; rw [List.length_map]; omega) ?_
              refine AOps.run tok 2 _ _ _ _ rfl ?_
              rw [slcLen (by rw [List.length_map]; omega)]
              refine AOps.nil ?_
              refine AW.block ?_   -- block 6
              refine AW.loopS [0, 4, 8, 11, 12, 13, 44, 45, 46, 59, 60, 61] (fun k : Nat => [(0, .d (BodiesD bs)), (4, .bx [dS b.nm, PtsD b.pts]), (8, .bx [dS m.nm, dB m.x.g, Wd m.x.n, Wd m.x.d, dB m.y.g, Wd m.y.n, Wd m.y.d]), (11, .d (BodiesD bs)), (12, .d (dI bs.length)), (13, .d (dI i)), (44, .d (PtsD b.pts)), (45, .d (dI b.pts.length)), (46, .d (dI p)), (59, .d (.sl 7 ((b.pts.map Mark.D).take p))), (60, .d (dI p)), (61, .d (dI k))])
                (fun k => k ≤ p ∧ dupM b.pts p = anyF (fun k => decide ((b.pts.getD k default).nm = m.nm)) (p - k) k) (fun k => p - k) 0 rfl ⟨Nat.zero_le _, hdup2⟩ (fun k ⟨hk, hD2⟩ => ?_)
              refine AW.seq ?_
              refine AW.region ?_   -- "model.go:28"
              refine AOps.run tok 1 _ _ _ _ rfl ?_
              refine AOps.nil ?_
              refine AW.seq ?_
              refine AW.cond rfl (fun h => ?_) (fun h => ?_)
              · have hkp : k < p := by have := of_decide_eq_true h; omega
                refine AW.skip ?_
                refine AW.seq ?_
                refine AW.block ?_   -- block 7
                refine AW.seq ?_
                refine AW.region ?_   -- "model.go:28"
                refine AOps.idx tok (b.pts.getD k default).D rfl rfl rfl rfl (Int.natCast_nonneg k) (getT Mark.D (by omega) hkp) ?_
                refine AOps.run tok 3 _ _ _ _ rfl ?_
                refine AOps.nil ?_
                refine AW.seq ?_
                refine AW.region ?_   -- "model.go:29"
                refine AOps.run tok 5 _ _ _ _ rfl ?_
                rw [str_eq]
                refine AOps.nil ?_
                refine AW.cond rfl (fun h => ?_) (fun h => ?_)
                · have h6 : ptE b.pts p = 6 := by rw [hpd, hD2.trans (anyF_hit hkp h)]; rfl
                  rw [show bodiesE bs = 6 by rw [hpE (by omega), h6]]
                  refine AW.seq ?_
                  refine AW.region ?_   -- "model.go:30"
                  refine AOps.run tok 2 _ _ _ _ rfl ?_
                  refine AOps.nil ?_
                  exact AW.ret rfl
                · refine AW.skip ?_
                  refine AW.region ?_   -- "model.go:28"
                  refine AOps.run tok 2 _ _ _ _ rfl ?_
                  rw [wI64 (x := (k : Int) + 1) (by omega) (by omega)]
                  refine AOps.nil ?_
                  exact ⟨k + 1, rfl, ⟨hkp, hD2.trans (anyF_miss hkp h)⟩, by omega⟩
              · have hkp : ¬ k < p := by have := of_decide_eq_false h; omega
                rw [hD2.trans (anyF_end hkp), if_neg (by decide)] at hpd
                refine AW.exit ?_
                refine AW.cut [0, 4, 11, 12, 13, 44, 45, 46, 81] (fun _ : Unit => [(0, .d (BodiesD bs)), (4, .bx [dS b.nm, PtsD b.pts]), (11, .d (BodiesD bs)), (12, .d (dI bs.length)), (13, .d (dI i)), (44, .d (PtsD b.pts)), (45, .d (dI b.pts.length)), (46, .d (dI p)), (81, .d (dB (!decide (m.x.okB = true ∧ m.y.okB = true))))]) (fun _ => True) ?_ (fun _ _ => ?_)
                · refine AW.region ?_   -- "model.go:33"   -- GUARDS
                  refine AOps.run tok 2 _ _ _ _ rfl ?_
                  refine AOps.call tok rfl rfl rfl rfl (fraction_Valid_ok m.x mok2 hK) ?_
                  refine AOps.split (t := 74) rfl (fun h => ?_) (fun h => ?_)
                  · refine AOps.run tok 4 _ _ _ _ rfl ?_
                    refine AOps.call tok rfl rfl rfl rfl (fraction_Valid_ok m.y mok3 hK) ?_   -- guarded
                    refine AOps.run tok 2 _ _ _ _ rfl ?_
                    refine AOps.nil ?_
                    exact ⟨(), by rw [show decide (m.x.okB = true ∧ m.y.okB = true) = m.y.okB by simp [h]]; rfl, trivial⟩
                  · refine AOps.run tok 7 _ _ _ _ rfl ?_
                    refine AOps.nil ?_
                    exact ⟨(), by rw [show decide (m.x.okB = true ∧ m.y.okB = true) = false by simp [h]]; rfl, trivial⟩
                refine AW.cond rfl (fun h => ?_) (fun h => ?_)
                · have hno : ¬ (m.x.okB = true ∧ m.y.okB = true) := fun e => by rw [decide_eq_true e] at h; cases h
                  have h3 : ptE b.pts p = 3 := by rw [hpd, if_neg hno]
                  rw [show bodiesE bs = 3 by rw [hpE (by omega), h3]]
                  refine AW.seq ?_
                  refine AW.region ?_   -- "model.go:34"
                  refine AOps.run tok 2 _ _ _ _ rfl ?_
                  refine AOps.nil ?_
                  exact AW.ret rfl
                · have hyes : m.x.okB = true ∧ m.y.okB = true := by simpa using h
                  rw [if_pos hyes] at hpd
                  refine AW.skip ?_
                  refine AW.region ?_   -- "model.go:24"
                  refine AOps.run tok 2 _ _ _ _ rfl ?_
                  rw [wI64 (x := (p : Int) + 1) (by omega) (by omega)]
                  refine AOps.nil ?_
                  exact ⟨p + 1, rfl, ⟨hpn, hpM hpd⟩, by omega⟩
          · have hpn : ¬ p < b.pts.length := by have := of_decide_eq_false h; omega
            have h0 : bodyE bs i = 0 := hP.trans (fE_end hpn)
            refine AW.exit ?_
            refine AW.region ?_   -- "model.go:12"
            refine AOps.run tok 2 _ _ _ _ rfl ?_
            rw [wI64 (x := (i : Int) + 1) (by omega) (by omega)]
            refine AOps.nil ?_
            exact ⟨i + 1, rfl, ⟨hin, hbM h0⟩, by omega⟩
  · have hin : ¬ i < bs.length := by have := of_decide_eq_false h; omega
    rw [hE, fE_end hin]
    refine AW.exit ?_
    refine AW.seq ?_
    refine AW.region ?_   -- "model.go:38"
    refine AOps.run tok 1 _ _ _ _ rfl ?_
    refine AOps.nil ?_
    exact AW.ret rfl
end Lift
/- The model's check of a joint. -/
namespace Lift
open Go Go.Proofs

theorem cmpQ_zero (a b : Rat) : (cmpQ a b == 0) = decide (a = b) := by
  unfold cmpQ
  by_cases h : a < b
  · rw [if_pos h]
    have hne : a ≠ b := fun e => by rw [e] at h; exact absurd h Rat.lt_irrefl
    rw [decide_eq_false hne]; rfl
  · rw [if_neg h]
    by_cases he : a = b
    · rw [if_pos he, decide_eq_true he]; rfl
    · rw [if_neg he, decide_eq_false he]; rfl
theorem not_t {b : Bool} (h : (!b) = true) : b = false := by cases b <;> simp_all
theorem inB_t {i : Int} {n : Nat} (h : inB i n = true) : 0 ≤ i ∧ i.toNat < n := by
  have := of_decide_eq_true h; omega

set_option maxHeartbeats 1600000 in
theorem model_joint_ok (l : Lkg) (j : Joint) {K : Nat} (hl : l.ok K) (hK : K ≤ 20000000) : Pure Tryz.prog 48 [l.D, j.D] (erV (jE l.bodies j)) := by
  refine Pure.intro (n := 107) tok Tryz.func48 rfl rfl rfl (Nat.le_of_ble_eq_true rfl) (by kernel_rfl) (fun B F0 w0 => ?_)
  obtain ⟨ln, bs, js, ds⟩ := l
  have hb := hl.b
  simp only [] at hb ⊢
  obtain ⟨nm, kind, a, pt, b, on, to⟩ := j
  have hj : jE bs ⟨nm, kind, a, pt, b, on, to⟩ = if kind ≠ 0 ∧ kind ≠ 1 then 7 else if (inB a bs.length && inB b bs.length) = false then 9 else if a = b then 13 else
    if (inB pt (bs.getD a.toNat default).pts.length && inB on (bs.getD b.toNat default).pts.length) = false then 9 else
    if kind = 0 then (if to = 0 then 0 else 2) else if inB to (bs.getD b.toNat default).pts.length = false then 9 else
    if sameM ((bs.getD b.toNat default).pts.getD on.toNat default) ((bs.getD b.toNat default).pts.getD to.toNat default) = true then 8 else 0 := rfl
  generalize jE bs ⟨nm, kind, a, pt, b, on, to⟩ = E at *
  refine AW.seq ?_
  refine AW.region ?_   -- "model.go:45"
  refine AOps.run tok 3 _ _ _ _ rfl ?_
  refine AOps.nil ?_
  refine AW.seq ?_
  refine AW.cut [2, 3, 15] (fun _ : Unit => [(2, .bx [dS ln, BodiesD bs, JointsD js, DriversD ds]), (3, .bx [dS nm, dI kind, dI a, dI pt, dI b, dI on, dI to]), (15, .d (dB (decide (kind ≠ 0 ∧ kind ≠ 1))))]) (fun _ => True) ?_ (fun _ _ => ?_)
  · refine AW.region ?_   -- "model.go:46"   -- GUARDS
    refine AOps.run tok 3 _ _ _ _ rfl ?_
    refine AOps.split (t := 10) rfl (fun h => ?_) (fun h => ?_)
    · have h1 : kind ≠ 0 := by simpa using h
      refine AOps.run tok 5 _ _ _ _ rfl ?_
      refine AOps.nil ?_
      exact ⟨(), by rw [show decide (kind ≠ 0 ∧ kind ≠ 1) = (kind != 1) by rw [Bool.eq_iff_iff]; simp [h1]]; rfl, trivial⟩
    · have h1 : kind = 0 := by simpa using h
      refine AOps.run tok 5 _ _ _ _ rfl ?_
      refine AOps.nil ?_
      exact ⟨(), by rw [show decide (kind ≠ 0 ∧ kind ≠ 1) = false by simp [h1]]; rfl, trivial⟩
  refine AW.cond rfl (fun h => ?_) (fun h => ?_)
  · rw [if_pos (of_decide_eq_true h)] at hj
    rw [hj]
    refine AW.seq ?_
    refine AW.region ?_   -- "model.go:47"
    refine AOps.run tok 2 _ _ _ _ rfl ?_
    refine AOps.nil ?_
    exact AW.ret rfl
  rw [if_neg (of_decide_eq_false h)] at hj
  refine AW.skip ?_
  refine AW.seq ?_
  refine AW.cut [2, 3, 32] (fun _ : Unit => [(2, .bx [dS ln, BodiesD bs, JointsD js, DriversD ds]), (3, .bx [dS nm, dI kind, dI a, dI pt, dI b, dI on, dI to]), (32, .d (dB (!(inB a bs.length && inB b bs.length))))]) (fun _ => True) ?_ (fun _ _ => ?_)
  · refine AW.region ?_   -- "model.go:49"   -- GUARDS
    refine AOps.run tok 5 _ _ _ _ rfl ?_
    rw [List.length_map]
    refine AOps.call tok rfl rfl rfl rfl (model_in_ok a bs.length) ?_
    refine AOps.split (t := 22) rfl (fun h => ?_) (fun h => ?_)
    · refine AOps.run tok 7 _ _ _ _ rfl ?_
      rw [List.length_map]
      refine AOps.call tok rfl rfl rfl rfl (model_in_ok b bs.length) ?_   -- guarded
      refine AOps.run tok 2 _ _ _ _ rfl ?_
      refine AOps.nil ?_
      exact ⟨(), by rw [h]; rfl, trivial⟩
    · refine AOps.run tok 10 _ _ _ _ rfl ?_
      refine AOps.nil ?_
      exact ⟨(), by rw [h]; rfl, trivial⟩
  refine AW.cond rfl (fun h => ?_) (fun h => ?_)
  · rw [if_pos (not_t h)] at hj
    rw [hj]
    refine AW.seq ?_
    refine AW.region ?_   -- "model.go:50"
    refine AOps.run tok 2 _ _ _ _ rfl ?_
    refine AOps.nil ?_
    exact AW.ret rfl
  have hab : inB a bs.length = true ∧ inB b bs.length = true := by simpa using h
  rw [if_neg (by simp [hab])] at hj
  obtain ⟨ha0, ha1⟩ := inB_t hab.1
  obtain ⟨hb0, hb1⟩ := inB_t hab.2
  obtain ⟨Bb, hBb⟩ : ∃ x, x = bs.getD b.toNat default := ⟨_, rfl⟩
  obtain ⟨Ba, hBa⟩ : ∃ x, x = bs.getD a.toNat default := ⟨_, rfl⟩
  have okb := hb b.toNat
  rw [← hBb] at hj okb
  rw [← hBa] at hj
  refine AW.skip ?_
  refine AW.seq ?_
  refine AW.seq ?_
  refine AW.region ?_   -- "model.go:52"
  refine AOps.run tok 5 _ _ _ _ rfl ?_
  refine AOps.nil ?_
  refine AW.cond rfl (fun h => ?_) (fun h => ?_)
  · rw [if_pos (by simpa using h)] at hj
    rw [hj]
    refine AW.seq ?_
    refine AW.region ?_   -- "model.go:53"
    refine AOps.run tok 2 _ _ _ _ rfl ?_
    refine AOps.nil ?_
    exact AW.ret rfl
  rw [if_neg (by simpa using h)] at hj
  refine AW.skip ?_
  refine AW.seq ?_
  refine AW.region ?_   -- "model.go:55"
  refine AOps.run tok 4 _ _ _ _ rfl ?_
  refine AOps.idx tok Bb.D rfl rfl rfl rfl hb0 (by rw [hBb]; exact getM Body.D hb1) ?_
  refine AOps.run tok 3 _ _ _ _ rfl ?_
  refine AOps.nil ?_
  refine AW.seq ?_
  refine AW.cut [2, 3, 5, 66] (fun _ : Unit => [(2, .bx [dS ln, BodiesD bs, JointsD js, DriversD ds]), (3, .bx [dS nm, dI kind, dI a, dI pt, dI b, dI on, dI to]), (5, .d (PtsD Bb.pts)), (66, .d (dB (!(inB pt Ba.pts.length && inB on Bb.pts.length))))]) (fun _ => True) ?_ (fun _ _ => ?_)
  · have c1 := model_in_ok pt Ba.pts.length
    cases hq : inB pt Ba.pts.length with
    | true =>
      rw [hq] at c1
      refine AW.draw hmix 20 (by kernel_rfl) ?_   -- "model.go:56"   -- GUARDS
      refine APre.run tok 6 _ _ _ _ rfl ?_
      refine APre.idx tok Ba.D rfl rfl rfl rfl rfl ha0 (by rw [hBa]; exact getM Body.D ha1) ?_
      refine APre.run tok 3 _ _ _ _ rfl ?_
      rw [List.length_map]
      refine APre.call tok rfl rfl rfl rfl rfl c1 ?_
      refine APre.run tok 6 _ _ _ _ rfl ?_
      rw [List.length_map]
      refine APre.call tok rfl rfl rfl rfl rfl (model_in_ok on Bb.pts.length) ?_   -- guarded
      refine APre.run tok 2 _ _ _ _ rfl ?_
      refine APre.nil ?_
      refine AOps.nil ?_
      exact ⟨(), rfl, trivial⟩
    | false =>
      rw [hq] at c1
      refine AW.draw hmix 20 (by kernel_rfl) ?_   -- "model.go:56"   -- GUARDS
      refine APre.run tok 6 _ _ _ _ rfl ?_
      refine APre.idx tok Ba.D rfl rfl rfl rfl rfl ha0 (by rw [hBa]; exact getM Body.D ha1) ?_
      refine APre.run tok 3 _ _ _ _ rfl ?_
      rw [List.length_map]
      refine APre.call tok rfl rfl rfl rfl rfl c1 ?_
      refine APre.run tok 9 _ _ _ _ rfl ?_
      refine APre.nil ?_
      refine AOps.nil ?_
      exact ⟨(), rfl, trivial⟩
  refine AW.cond rfl (fun h => ?_) (fun h => ?_)
  · rw [if_pos (not_t h)] at hj
    rw [hj]
    refine AW.seq ?_
    refine AW.region ?_   -- "model.go:57"
    refine AOps.run tok 2 _ _ _ _ rfl ?_
    refine AOps.nil ?_
    exact AW.ret rfl
  have hpo : inB pt Ba.pts.length = true ∧ inB on Bb.pts.length = true := by simpa using h
  rw [if_neg (by simp [hpo])] at hj
  obtain ⟨ho0, ho1⟩ := inB_t hpo.2
  refine AW.skip ?_
  refine AW.seq ?_
  refine AW.seq ?_
  refine AW.region ?_   -- "model.go:59"
  refine AOps.run tok 3 _ _ _ _ rfl ?_
  refine AOps.nil ?_
  refine AW.cond rfl (fun h => ?_) (fun h => ?_)
  · rw [if_pos (by simpa using h)] at hj
    refine AW.seq ?_
    refine AW.seq ?_
    refine AW.region ?_   -- "model.go:60"
    refine AOps.run tok 3 _ _ _ _ rfl ?_
    refine AOps.nil ?_
    refine AW.cond rfl (fun h => ?_) (fun h => ?_)
    · rw [if_neg (by simpa using h)] at hj
      rw [hj]
      refine AW.seq ?_
      refine AW.region ?_   -- "model.go:61"
      refine AOps.run tok 2 _ _ _ _ rfl ?_
      refine AOps.nil ?_
      exact AW.ret rfl
    · rw [if_pos (by simpa using h)] at hj
      rw [hj]
      refine AW.skip ?_
      refine AW.seq ?_
      refine AW.region ?_   -- "model.go:63"
      refine AOps.run tok 1 _ _ _ _ rfl ?_
      refine AOps.nil ?_
      exact AW.ret rfl
  rw [if_neg (by simpa using h)] at hj
  refine AW.skip ?_
  refine AW.seq ?_
  refine AW.seq ?_
  refine AW.region ?_   -- "model.go:65"
  refine AOps.run tok 4 _ _ _ _ rfl ?_
  rw [List.length_map]
  refine AOps.call tok rfl rfl rfl rfl (model_in_ok to Bb.pts.length) ?_
  refine AOps.run tok 1 _ _ _ _ rfl ?_
  refine AOps.nil ?_
  refine AW.cond rfl (fun h => ?_) (fun h => ?_)
  · rw [if_pos (by simpa using h)] at hj
    rw [hj]
    refine AW.seq ?_
    refine AW.region ?_   -- "model.go:66"
    refine AOps.run tok 2 _ _ _ _ rfl ?_
    refine AOps.nil ?_
    exact AW.ret rfl
  have hto : inB to Bb.pts.length = true := by simpa using h
  rw [if_neg (by simp [hto])] at hj
  obtain ⟨ht0, ht1⟩ := inB_t hto
  obtain ⟨p, hp⟩ : ∃ x, x = Bb.pts.getD on.toNat default := ⟨_, rfl⟩
  obtain ⟨q, hq⟩ : ∃ x, x = Bb.pts.getD to.toNat default := ⟨_, rfl⟩
  have okp := okb.2.2 on.toNat
  have okq := okb.2.2 to.toNat
  rw [← hp] at hj okp
  rw [← hq] at hj okq
  refine AW.skip ?_
  refine AW.seq ?_
  refine AW.draw3 tok hmix [(5, true), (5, false), (2, true)] 12 [6, 7] (by kernel_rfl) ⟨rfl, ?_⟩   -- "model.go:68"
  refine APre.run tok 3 _ _ _ _ rfl ?_
  refine APre.idx tok p.D rfl rfl rfl rfl rfl ho0 (by rw [hp]; exact getM Mark.D ho1) ?_
  refine APre.run tok 1 _ _ _ _ rfl ?_
  refine APre.nil ⟨rfl, ?_⟩
  refine APre.run tok 3 _ _ _ _ rfl ?_
  refine APre.idx tok q.D rfl rfl rfl rfl rfl ht0 (by rw [hq]; exact getM Mark.D ht1) ?_
  refine APre.run tok 1 _ _ _ _ rfl ?_
  refine APre.nil ⟨rfl, ?_⟩
  refine APre.run tok 2 _ _ _ _ rfl ?_
  refine APre.nil ⟨_, StL.cons (.bx rfl) (StL.cons (.bx rfl) (StL.nil)), ?_⟩
  refine AOps.nil ?_
  refine AW.seq ?_
  refine AW.cut [105] (fun _ : Unit => [(105, .d (dB (sameM p q)))]) (fun _ => True) ?_ (fun _ _ => ?_)
  · refine AW.region ?_   -- "model.go:69"   -- GUARDS
    refine AOps.run tok 4 _ _ _ _ rfl ?_
    refine AOps.call tok rfl rfl rfl rfl (fraction_Cmp_ok p.x q.x okp.2.1 okq.2.1 hK) ?_
    refine AOps.run tok 1 _ _ _ _ rfl ?_
    rw [cmpQ_zero]
    refine AOps.split (t := 97) rfl (fun h => ?_) (fun h => ?_)
    · have h1 := of_decide_eq_true h
      refine AOps.run tok 5 _ _ _ _ rfl ?_
      refine AOps.call tok rfl rfl rfl rfl (fraction_Cmp_ok p.y q.y okp.2.2 okq.2.2 hK) ?_   -- guarded
      refine AOps.run tok 2 _ _ _ _ rfl ?_
      rw [cmpQ_zero]
      refine AOps.nil ?_
      exact ⟨(), by rw [show sameM p q = decide (p.y.val = q.y.val) by unfold sameM; simp [h1]]; rfl, trivial⟩
    · have h1 := of_decide_eq_false h
      refine AOps.run tok 8 _ _ _ _ rfl ?_
      refine AOps.nil ?_
      exact ⟨(), by rw [show sameM p q = false by unfold sameM; simp [h1]]; rfl, trivial⟩
  refine AW.cond rfl (fun h => ?_) (fun h => ?_)
  · rw [if_pos h] at hj
    rw [hj]
    refine AW.seq ?_
    refine AW.region ?_   -- "model.go:70"
    refine AOps.run tok 2 _ _ _ _ rfl ?_
    refine AOps.nil ?_
    exact AW.ret rfl
  · rw [if_neg (by rw [h]; decide)] at hj
    rw [hj]
    refine AW.skip ?_
    refine AW.seq ?_
    refine AW.region ?_   -- "model.go:72"
    refine AOps.run tok 1 _ _ _ _ rfl ?_
    refine AOps.nil ?_
    exact AW.ret rfl
end Lift
/- The model's checks: joints, drivers, the whole. -/
namespace Lift
open Go Go.Proofs

set_option maxHeartbeats 1600000 in
theorem model_joints_ok (l : Lkg) {K : Nat} (hl : l.ok K) (hK : K ≤ 20000000) : Pure Tryz.prog 33 [l.D] (erV (jointsE l.bodies l.joints)) := by
  refine Pure.intro (n := 49) tok Tryz.func33 rfl rfl rfl (Nat.le_of_ble_eq_true rfl) (by kernel_rfl) (fun B F0 w0 => ?_)
  have hjoint := fun j => model_joint_ok l j hl hK
  obtain ⟨ln, bs, js, ds⟩ := l
  have hj := hl.j
  have hn := hl.nj
  simp only [] at hj hn hjoint ⊢
  show AW _ _ _ _ _ _ _ (initSt 0 [D.ag [dS ln, BodiesD bs, JointsD js, DriversD ds]])
  unfold big at hn
  refine AW.seq ?_
  refine AW.region ?_   -- "model.go:76"
  refine AOps.run tok 2 _ _ _ _ rfl ?_
  refine AOps.nil ?_
  refine AW.seq ?_
  refine AW.seq ?_
  refine AW.region ?_   -- "model.go:77"
  refine AOps.run tok 4 _ _ _ _ rfl ?_
  rw [List.length_map]
  refine AOps.nil ?_
  refine AW.cond rfl (fun h => ?_) (fun h => ?_)
  · have h16 : 16 < js.length := by have := of_decide_eq_true h; omega
    rw [jointsE, if_pos h16]
    refine AW.seq ?_
    refine AW.region ?_   -- "model.go:78"
    refine AOps.run tok 2 _ _ _ _ rfl ?_
    refine AOps.nil ?_
    exact AW.ret rfl
  have h16 : ¬ 16 < js.length := by have := of_decide_eq_false h; omega
  rw [jointsE, if_neg h16]
  refine AW.skip ?_
  refine AW.seq ?_
  refine AW.seq ?_
  refine AW.region ?_   -- "model.go:80"
  refine AOps.run tok 4 _ _ _ _ rfl ?_
  rw [List.length_map]
  refine AOps.nil ?_
  refine AW.block ?_   -- block 0
  refine AW.loopS [1, 14, 15, 16] (fun i : Nat => [(1, .bx [dS ln, BodiesD bs, JointsD js, DriversD ds]), (14, .d (JointsD js)), (15, .d (dI js.length)), (16, .d (dI i))])
    (fun i => i ≤ js.length ∧ fE (jointE bs js) js.length 0 = fE (jointE bs js) (js.length - i) i) (fun i => js.length - i) 0 rfl ⟨Nat.zero_le _, rfl⟩ (fun i ⟨hi, hE⟩ => ?_)
  refine AW.seq ?_
  refine AW.region ?_   -- "model.go:80"
  refine AOps.run tok 1 _ _ _ _ rfl ?_
  refine AOps.nil ?_
  refine AW.seq ?_
  refine AW.cond rfl (fun h => ?_) (fun h => ?_)
  · have hin : i < js.length := by have := of_decide_eq_true h; omega
    have jok := hj i
    have hbE : jointE bs js i ≠ 0 → fE (jointE bs js) js.length 0 = jointE bs js i := fun h0 => hE.trans (fE_hit hin h0)
    have hbM : jointE bs js i = 0 → fE (jointE bs js) js.length 0 = fE (jointE bs js) (js.length - (i + 1)) (i + 1) := fun h0 => hE.trans (fE_miss hin h0)
    generalize fE (jointE bs js) js.length 0 = E at *
    obtain ⟨j, hje⟩ : ∃ j, j = js.getD i default := ⟨_, rfl⟩
    rw [← hje] at jok
    unfold big at jok
    have hdup : dupJ js i = anyF (fun k => decide ((js.getD k default).nm = j.nm)) i 0 := by rw [hje]; rfl
    have hbd : jointE bs js i = if nameB j.nm = false then 5 else if dupJ js i = true then 6 else jE bs j := by rw [hje]; rfl
    refine AW.skip ?_
    refine AW.seq ?_
    refine AW.block ?_   -- block 1
    refine AW.seq ?_
    refine AW.region ?_   -- "model.go:80"
    refine AOps.run tok 1 _ _ _ _ rfl ?_
    refine AOps.idx tok j.D rfl rfl rfl rfl (Int.natCast_nonneg i) (by rw [hje]; exact getM Joint.D hin) ?_
    refine AOps.run tok 4 _ _ _ _ rfl ?_
    refine AOps.nil ?_
    refine AW.seq ?_
    refine AW.seq ?_
    refine AW.region ?_   -- "model.go:81"
    refine AOps.run tok 2 _ _ _ _ rfl ?_
    refine AOps.call tok rfl rfl rfl rfl (token_Name_ok j.nm jok) ?_
    refine AOps.run tok 1 _ _ _ _ rfl ?_
    refine AOps.nil ?_
    refine AW.cond rfl (fun h => ?_) (fun h => ?_)
    · have hnm : nameB j.nm = false := not_t h
      have h5 : jointE bs js i = 5 := by rw [hbd, hnm]; rfl
      rw [show E = 5 by rw [hbE (by omega), h5]]
      refine AW.seq ?_
      refine AW.region ?_   -- "model.go:82"
      refine AOps.run tok 2 _ _ _ _ rfl ?_
      refine AOps.nil ?_
      exact AW.ret rfl
    have hnm : nameB j.nm = true := by simpa using h
    rw [hnm, if_neg (by decide)] at hbd
    refine AW.skip ?_
    refine AW.seq ?_
    refine AW.seq ?_
    refine AW.region ?_   -- "model.go:84"
    refine AOps.run tok 3 _ _ _ _ rfl ?_
    refine AOps.slc tok rfl rfl rfl rfl trivial (Int.natCast_nonneg i) (Nat.zero_le _) (by show i ≤ _; rw [List.length_map]; omega) ?_
    refine AOps.run tok 2 _ _ _ _ rfl ?_
    rw [slcLen (by rw [List.length_map]; omega)]
    refine AOps.nil ?_
    refine AW.block ?_   -- block 2
    refine AW.loopS [1, 4, 14, 15, 16, 29, 30, 31] (fun k : Nat => [(1, .bx [dS ln, BodiesD bs, JointsD js, DriversD ds]), (4, .bx [dS j.nm, dI j.kind, dI j.a, dI j.pt, dI j.b, dI j.on, dI j.to]), (14, .d (JointsD js)), (15, .d (dI js.length)), (16, .d (dI i)), (29, .d (.sl 7 ((js.map Joint.D).take i))), (30, .d (dI i)), (31, .d (dI k))])
      (fun k => k ≤ i ∧ dupJ js i = anyF (fun k => decide ((js.getD k default).nm = j.nm)) (i - k) k) (fun k => i - k) 0 rfl ⟨Nat.zero_le _, hdup⟩ (fun k ⟨hk, hD⟩ => ?_)
    refine AW.seq ?_
    refine AW.region ?_   -- "model.go:84"
    refine AOps.run tok 1 _ _ _ _ rfl ?_
    refine AOps.nil ?_
    refine AW.seq ?_
    refine AW.cond rfl (fun h => ?_) (fun h => ?_)
    · have hki : k < i := by have := of_decide_eq_true h; omega
      refine AW.skip ?_
      refine AW.seq ?_
      refine AW.block ?_   -- block 3
      refine AW.seq ?_
      refine AW.region ?_   -- "model.go:84"
      refine AOps.idx tok (js.getD k default).D rfl rfl rfl rfl (Int.natCast_nonneg k) (getT Joint.D (by omega) hki) ?_
      refine AOps.run tok 3 _ _ _ _ rfl ?_
      refine AOps.nil ?_
      refine AW.seq ?_
      refine AW.region ?_   -- "model.go:85"
      refine AOps.run tok 5 _ _ _ _ rfl ?_
      rw [str_eq]
      refine AOps.nil ?_
      refine AW.cond rfl (fun h => ?_) (fun h => ?_)
      · have h6 : jointE bs js i = 6 := by rw [hbd, hD.trans (anyF_hit hki h)]; rfl
        rw [show E = 6 by rw [hbE (by omega), h6]]
        refine AW.seq ?_
        refine AW.region ?_   -- "model.go:86"
        refine AOps.run tok 2 _ _ _ _ rfl ?_
        refine AOps.nil ?_
        exact AW.ret rfl
      · refine AW.skip ?_
        refine AW.region ?_   -- "model.go:84"
        refine AOps.run tok 2 _ _ _ _ rfl ?_
        rw [wI64 (x := (k : Int) + 1) (by omega) (by omega)]
        refine AOps.nil ?_
        exact ⟨k + 1, rfl, ⟨hki, hD.trans (anyF_miss hki h)⟩, by omega⟩
    · have hki : ¬ k < i := by have := of_decide_eq_false h; omega
      rw [hD.trans (anyF_end hki), if_neg (by decide)] at hbd
      refine AW.exit ?_
      have c := hjoint j
      cases he : jE bs j with
      | zero =>
        rw [he] at hbd c
        refine AW.seq ?_
        refine AW.region ?_   -- "model.go:89"
        refine AOps.run tok 2 _ _ _ _ rfl ?_
        refine AOps.call tok rfl rfl rfl rfl c ?_
        refine AOps.run tok 1 _ _ _ _ rfl ?_
        refine AOps.nil ?_
        refine AW.seq ?_
        refine AW.region ?_   -- "model.go:89"
        refine AOps.run tok 1 _ _ _ _ rfl ?_
        refine AOps.err tok rfl rfl rfl rfl rfl ?_
        refine AOps.nil ?_
        refine AW.condF rfl ?_
        refine AW.skip ?_
        refine AW.region ?_   -- "model.go:80"
        refine AOps.run tok 2 _ _ _ _ rfl ?_
        rw [wI64 (x := (i : Int) + 1) (by omega) (by omega)]
        refine AOps.nil ?_
        exact ⟨i + 1, rfl, ⟨hin, hbM hbd⟩, by omega⟩
      | succ m =>
        rw [he] at hbd c
        rw [show E = m + 1 by rw [hbE (by omega), hbd]]
        refine AW.seq ?_
        refine AW.region ?_   -- "model.go:89"
        refine AOps.run tok 2 _ _ _ _ rfl ?_
        refine AOps.call tok rfl rfl rfl rfl c ?_
        refine AOps.run tok 1 _ _ _ _ rfl ?_
        refine AOps.nil ?_
        refine AW.seq ?_
        refine AW.region ?_   -- "model.go:89"
        refine AOps.run tok 1 _ _ _ _ rfl ?_
        refine AOps.err tok rfl rfl rfl rfl rfl ?_
        refine AOps.nil ?_
        refine AW.condT rfl ?_
        refine AW.seq ?_
        refine AW.region ?_   -- "model.go:90"
        refine AOps.run tok 2 _ _ _ _ rfl ?_
        refine AOps.nil ?_
        exact AW.ret rfl
  · have hin : ¬ i < js.length := by have := of_decide_eq_false h; omega
    rw [hE, fE_end hin]
    refine AW.exit ?_
    refine AW.seq ?_
    refine AW.region ?_   -- "model.go:93"
    refine AOps.run tok 1 _ _ _ _ rfl ?_
    refine AOps.nil ?_
    exact AW.ret rfl

set_option maxHeartbeats 1600000 in
theorem model_drivers_ok (l : Lkg) {K : Nat} (hl : l.ok K) : Pure Tryz.prog 34 [l.D] (erV (driversE l.bodies.length l.drivers)) := by
  refine Pure.intro (n := 72) tok Tryz.func34 rfl rfl rfl (Nat.le_of_ble_eq_true rfl) (by kernel_rfl) (fun B F0 w0 => ?_)
  obtain ⟨ln, bs, js, ds⟩ := l
  have hd := hl.d
  have hn := hl.nd
  simp only [] at hd hn ⊢
  show AW _ _ _ _ _ _ _ (initSt 0 [D.ag [dS ln, BodiesD bs, JointsD js, DriversD ds]])
  unfold big at hn
  refine AW.seq ?_
  refine AW.region ?_   -- "model.go:97"
  refine AOps.run tok 2 _ _ _ _ rfl ?_
  refine AOps.nil ?_
  refine AW.seq ?_
  refine AW.seq ?_
  refine AW.region ?_   -- "model.go:98"
  refine AOps.run tok 4 _ _ _ _ rfl ?_
  rw [List.length_map]
  refine AOps.nil ?_
  refine AW.cond rfl (fun h => ?_) (fun h => ?_)
  · have h2 : 2 < ds.length := by have := of_decide_eq_true h; omega
    rw [driversE, if_pos h2]
    refine AW.seq ?_
    refine AW.region ?_   -- "model.go:99"
    refine AOps.run tok 2 _ _ _ _ rfl ?_
    refine AOps.nil ?_
    exact AW.ret rfl
  have h2 : ¬ 2 < ds.length := by have := of_decide_eq_false h; omega
  rw [driversE, if_neg h2]
  refine AW.skip ?_
  refine AW.seq ?_
  refine AW.seq ?_
  refine AW.region ?_   -- "model.go:101"
  refine AOps.run tok 4 _ _ _ _ rfl ?_
  rw [List.length_map]
  refine AOps.nil ?_
  refine AW.block ?_   -- block 0
  refine AW.loopS [1, 15, 16, 17] (fun i : Nat => [(1, .bx [dS ln, BodiesD bs, JointsD js, DriversD ds]), (15, .d (DriversD ds)), (16, .d (dI ds.length)), (17, .d (dI i))])
    (fun i => i ≤ ds.length ∧ fE (driverE bs.length ds) ds.length 0 = fE (driverE bs.length ds) (ds.length - i) i) (fun i => ds.length - i) 0 rfl ⟨Nat.zero_le _, rfl⟩ (fun i ⟨hi, hE⟩ => ?_)
  refine AW.seq ?_
  refine AW.region ?_   -- "model.go:101"
  refine AOps.run tok 1 _ _ _ _ rfl ?_
  refine AOps.nil ?_
  refine AW.seq ?_
  refine AW.cond rfl (fun h => ?_) (fun h => ?_)
  · have hin : i < ds.length := by have := of_decide_eq_true h; omega
    have dok := hd i
    have hbE : driverE bs.length ds i ≠ 0 → fE (driverE bs.length ds) ds.length 0 = driverE bs.length ds i := fun h0 => hE.trans (fE_hit hin h0)
    have hbM : driverE bs.length ds i = 0 → fE (driverE bs.length ds) ds.length 0 = fE (driverE bs.length ds) (ds.length - (i + 1)) (i + 1) := fun h0 => hE.trans (fE_miss hin h0)
    generalize fE (driverE bs.length ds) ds.length 0 = E at *
    obtain ⟨d, hde⟩ : ∃ d, d = ds.getD i default := ⟨_, rfl⟩
    rw [← hde] at dok
    unfold big at dok
    have hdup : dupD ds i = anyF (fun k => decide ((ds.getD k default).nm = d.nm)) i 0 := by rw [hde]; rfl
    have hdup2 : dupT ds i = anyF (fun k => decide ((ds.getD k default).body = d.body)) i 0 := by rw [hde]; rfl
    have hbd : driverE bs.length ds i = if nameB d.nm = false then 5 else if dupD ds i = true then 6 else if inB d.body bs.length = false then 9 else if d.body = 0 then 7 else if dupT ds i = true then 6 else 0 := by rw [hde]; rfl
    refine AW.skip ?_
    refine AW.seq ?_
    refine AW.block ?_   -- block 1
    refine AW.seq ?_
    refine AW.region ?_   -- "model.go:101"
    refine AOps.run tok 1 _ _ _ _ rfl ?_
    refine AOps.idx tok d.D rfl rfl rfl rfl (Int.natCast_nonneg i) (by rw [hde]; exact getM Driver.D hin) ?_
    refine AOps.run tok 4 _ _ _ _ rfl ?_
    refine AOps.nil ?_
    refine AW.seq ?_
    refine AW.seq ?_
    refine AW.region ?_   -- "model.go:102"
    refine AOps.run tok 2 _ _ _ _ rfl ?_
    refine AOps.call tok rfl rfl rfl rfl (token_Name_ok d.nm dok) ?_
    refine AOps.run tok 1 _ _ _ _ rfl ?_
    refine AOps.nil ?_
    refine AW.cond rfl (fun h => ?_) (fun h => ?_)
    · have hnm : nameB d.nm = false := not_t h
      have h5 : driverE bs.length ds i = 5 := by rw [hbd, hnm]; rfl
      rw [show E = 5 by rw [hbE (by omega), h5]]
      refine AW.seq ?_
      refine AW.region ?_   -- "model.go:103"
      refine AOps.run tok 2 _ _ _ _ rfl ?_
      refine AOps.nil ?_
      exact AW.ret rfl
    have hnm : nameB d.nm = true := by simpa using h
    rw [hnm, if_neg (by decide)] at hbd
    refine AW.skip ?_
    refine AW.seq ?_
    refine AW.seq ?_
    refine AW.region ?_   -- "model.go:105"
    refine AOps.run tok 3 _ _ _ _ rfl ?_
    refine AOps.slc tok rfl rfl rfl rfl trivial (Int.natCast_nonneg i) (Nat.zero_le _) (by show i ≤ _; rw [List.length_map]; omega) ?_
    refine AOps.run tok 2 _ _ _ _ rfl ?_
    rw [slcLen (by rw [List.length_map]; omega)]
    refine AOps.nil ?_
    refine AW.block ?_   -- block 2
    refine AW.loopS [1, 3, 4, 15, 16, 17, 30, 31, 32] (fun k : Nat => [(1, .bx [dS ln, BodiesD bs, JointsD js, DriversD ds]), (3, .d (dI i)), (4, .bx [dS d.nm, dI d.body]), (15, .d (DriversD ds)), (16, .d (dI ds.length)), (17, .d (dI i)), (30, .d (.sl 2 ((ds.map Driver.D).take i))), (31, .d (dI i)), (32, .d (dI k))])
      (fun k => k ≤ i ∧ dupD ds i = anyF (fun k => decide ((ds.getD k default).nm = d.nm)) (i - k) k) (fun k => i - k) 0 rfl ⟨Nat.zero_le _, hdup⟩ (fun k ⟨hk, hD⟩ => ?_)
    refine AW.seq ?_
    refine AW.region ?_   -- "model.go:105"
    refine AOps.run tok 1 _ _ _ _ rfl ?_
    refine AOps.nil ?_
    refine AW.seq ?_
    refine AW.cond rfl (fun h => ?_) (fun h => ?_)
    · have hki : k < i := by have := of_decide_eq_true h; omega
      refine AW.skip ?_
      refine AW.seq ?_
      refine AW.block ?_   -- block 3
      refine AW.seq ?_
      refine AW.region ?_   -- "model.go:105"
      refine AOps.idx tok (ds.getD k default).D rfl rfl rfl rfl (Int.natCast_nonneg k) (getT Driver.D (by omega) hki) ?_
      refine AOps.run tok 3 _ _ _ _ rfl ?_
      refine AOps.nil ?_
      refine AW.seq ?_
      refine AW.region ?_   -- "model.go:106"
      refine AOps.run tok 5 _ _ _ _ rfl ?_
      rw [str_eq]
      refine AOps.nil ?_
      refine AW.cond rfl (fun h => ?_) (fun h => ?_)
      · have h6 : driverE bs.length ds i = 6 := by rw [hbd, hD.trans (anyF_hit hki h)]; rfl
        rw [show E = 6 by rw [hbE (by omega), h6]]
        refine AW.seq ?_
        refine AW.region ?_   -- "model.go:107"
        refine AOps.run tok 2 _ _ _ _ rfl ?_
        refine AOps.nil ?_
        exact AW.ret rfl
      · refine AW.skip ?_
        refine AW.region ?_   -- "model.go:105"
        refine AOps.run tok 2 _ _ _ _ rfl ?_
        rw [wI64 (x := (k : Int) + 1) (by omega) (by omega)]
        refine AOps.nil ?_
        exact ⟨k + 1, rfl, ⟨hki, hD.trans (anyF_miss hki h)⟩, by omega⟩
    · have hki : ¬ k < i := by have := of_decide_eq_false h; omega
      rw [hD.trans (anyF_end hki), if_neg (by decide)] at hbd
      refine AW.exit ?_
      refine AW.seq ?_
      refine AW.seq ?_
      refine AW.region ?_   -- "model.go:110"
      refine AOps.run tok 5 _ _ _ _ rfl ?_
      rw [List.length_map]
      refine AOps.call tok rfl rfl rfl rfl (model_in_ok d.body bs.length) ?_
      refine AOps.run tok 1 _ _ _ _ rfl ?_
      refine AOps.nil ?_
      refine AW.cond rfl (fun h => ?_) (fun h => ?_)
      · rw [if_pos (not_t h)] at hbd
        rw [show E = 9 by rw [hbE (by omega), hbd]]
        refine AW.seq ?_
        refine AW.region ?_   -- "model.go:111"
        refine AOps.run tok 2 _ _ _ _ rfl ?_
        refine AOps.nil ?_
        exact AW.ret rfl
      have hinb : inB d.body bs.length = true := by simpa using h
      rw [if_neg (by simp [hinb])] at hbd
      refine AW.skip ?_
      refine AW.seq ?_
      refine AW.seq ?_
      refine AW.region ?_   -- "model.go:113"
      refine AOps.run tok 3 _ _ _ _ rfl ?_
      refine AOps.nil ?_
      refine AW.cond rfl (fun h => ?_) (fun h => ?_)
      · rw [if_pos (by simpa using h)] at hbd
        rw [show E = 7 by rw [hbE (by omega), hbd]]
        refine AW.seq ?_
        refine AW.region ?_   -- "model.go:114"
        refine AOps.run tok 2 _ _ _ _ rfl ?_
        refine AOps.nil ?_
        exact AW.ret rfl
      rw [if_neg (by simpa using h)] at hbd
      refine AW.skip ?_
      refine AW.seq ?_
      refine AW.region ?_   -- "model.go:116"
      refine AOps.run tok 3 _ _ _ _ rfl ?_
      refine AOps.slc tok rfl rfl rfl rfl trivial (Int.natCast_nonneg i) (Nat.zero_le _) (by show i ≤ _; rw [List.length_map]; omega) ?_
      refine AOps.run tok 2 _ _ _ _ rfl ?_
      rw [slcLen (by rw [List.length_map]; omega)]
      refine AOps.nil ?_
      refine AW.block ?_   -- block 4
      refine AW.loopS [1, 4, 15, 16, 17, 58, 59, 60] (fun k : Nat => [(1, .bx [dS ln, BodiesD bs, JointsD js, DriversD ds]), (4, .bx [dS d.nm, dI d.body]), (15, .d (DriversD ds)), (16, .d (dI ds.length)), (17, .d (dI i)), (58, .d (.sl 2 ((ds.map Driver.D).take i))), (59, .d (dI i)), (60, .d (dI k))])
        (fun k => k ≤ i ∧ dupT ds i = anyF (fun k => decide ((ds.getD k default).body = d.body)) (i - k) k) (fun k => i - k) 0 rfl ⟨Nat.zero_le _, hdup2⟩ (fun k ⟨hk, hD⟩ => ?_)
      refine AW.seq ?_
      refine AW.region ?_   -- "model.go:116"
      refine AOps.run tok 1 _ _ _ _ rfl ?_
      refine AOps.nil ?_
      refine AW.seq ?_
      refine AW.cond rfl (fun h => ?_) (fun h => ?_)
      · have hki : k < i := by have := of_decide_eq_true h; omega
        refine AW.skip ?_
        refine AW.seq ?_
        refine AW.block ?_   -- block 5
        refine AW.seq ?_
        refine AW.region ?_   -- "model.go:116"
        refine AOps.idx tok (ds.getD k default).D rfl rfl rfl rfl (Int.natCast_nonneg k) (getT Driver.D (by omega) hki) ?_
        refine AOps.run tok 3 _ _ _ _ rfl ?_
        refine AOps.nil ?_
        refine AW.seq ?_
        refine AW.region ?_   -- "model.go:117"
        refine AOps.run tok 5 _ _ _ _ rfl ?_
        refine AOps.nil ?_
        refine AW.cond rfl (fun h => ?_) (fun h => ?_)
        · have h' : decide ((ds.getD k default).body = d.body) = true := by simpa using h
          rw [hD.trans (anyF_hit hki h')] at hbd
          rw [show E = 6 by rw [hbE (by rw [hbd]; decide), hbd]; rfl]
          refine AW.seq ?_
          refine AW.region ?_   -- "model.go:118"
          refine AOps.run tok 2 _ _ _ _ rfl ?_
          refine AOps.nil ?_
          exact AW.ret rfl
        · have h' : decide ((ds.getD k default).body = d.body) = false := by simpa using h
          refine AW.skip ?_
          refine AW.region ?_   -- "model.go:116"
          refine AOps.run tok 2 _ _ _ _ rfl ?_
          rw [wI64 (x := (k : Int) + 1) (by omega) (by omega)]
          refine AOps.nil ?_
          exact ⟨k + 1, rfl, ⟨hki, hD.trans (anyF_miss hki h')⟩, by omega⟩
      · have hki : ¬ k < i := by have := of_decide_eq_false h; omega
        rw [hD.trans (anyF_end hki), if_neg (by decide)] at hbd
        refine AW.exit ?_
        refine AW.region ?_   -- "model.go:101"
        refine AOps.run tok 2 _ _ _ _ rfl ?_
        rw [wI64 (x := (i : Int) + 1) (by omega) (by omega)]
        refine AOps.nil ?_
        exact ⟨i + 1, rfl, ⟨hin, hbM hbd⟩, by omega⟩
  · have hin : ¬ i < ds.length := by have := of_decide_eq_false h; omega
    rw [hE, fE_end hin]
    refine AW.exit ?_
    refine AW.seq ?_
    refine AW.region ?_   -- "model.go:122"
    refine AOps.run tok 1 _ _ _ _ rfl ?_
    refine AOps.nil ?_
    exact AW.ret rfl

set_option maxHeartbeats 1600000 in
theorem model_Check_ok (l : Lkg) {K : Nat} (hl : l.ok K) (hK : K ≤ 20000000) : Pure Tryz.prog 19 [l.D] (erV (chk l)) := by
  refine Pure.intro (n := 33) tok Tryz.func19 rfl rfl rfl (Nat.le_of_ble_eq_true rfl) (by kernel_rfl) (fun B F0 w0 => ?_)
  have c1 := model_bodies_ok l.bodies hl.nb hl.b (by omega)
  have c2 := model_joints_ok l hl hK
  have c3 := model_drivers_ok l hl
  have hcd : chk l = if nameB l.nm = false then 5 else if l.bodies = [] then 10 else if 8 < l.bodies.length then 4 else
    if bodiesE l.bodies ≠ 0 then bodiesE l.bodies else if jointsE l.bodies l.joints ≠ 0 then jointsE l.bodies l.joints else driversE l.bodies.length l.drivers := rfl
  generalize chk l = E at *
  obtain ⟨ln, bs, js, ds⟩ := l
  have hnm := hl.nm
  have hnb := hl.nb
  simp only [] at hcd c1 c2 c3 hnm hnb ⊢
  show AW _ _ _ _ _ _ _ (initSt 0 [D.ag [dS ln, BodiesD bs, JointsD js, DriversD ds]])
  unfold big at hnm hnb
  refine AW.seq ?_
  refine AW.region ?_   -- "model.go:126"
  refine AOps.run tok 2 _ _ _ _ rfl ?_
  refine AOps.nil ?_
  refine AW.seq ?_
  refine AW.seq ?_
  refine AW.region ?_   -- "model.go:127"
  refine AOps.run tok 2 _ _ _ _ rfl ?_
  refine AOps.call tok rfl rfl rfl rfl (token_Name_ok ln hnm) ?_
  refine AOps.run tok 1 _ _ _ _ rfl ?_
  refine AOps.nil ?_
  refine AW.cond rfl (fun h => ?_) (fun h => ?_)
  · rw [if_pos (not_t h)] at hcd
    rw [hcd]
    refine AW.seq ?_
    refine AW.region ?_   -- "model.go:128"
    refine AOps.run tok 2 _ _ _ _ rfl ?_
    refine AOps.nil ?_
    exact AW.ret rfl
  rw [if_neg (by simpa using h)] at hcd
  refine AW.skip ?_
  refine AW.seq ?_
  refine AW.seq ?_
  refine AW.region ?_   -- "model.go:130"
  refine AOps.run tok 4 _ _ _ _ rfl ?_
  rw [List.length_map]
  refine AOps.nil ?_
  refine AW.cond rfl (fun h => ?_) (fun h => ?_)
  · have h0 : bs = [] := List.length_eq_zero_iff.1 (by have : (bs.length : Int) = 0 := by simpa using h
                                                       omega)
    rw [if_pos h0] at hcd
    rw [hcd]
    refine AW.seq ?_
    refine AW.region ?_   -- "model.go:131"
    refine AOps.run tok 2 _ _ _ _ rfl ?_
    refine AOps.nil ?_
    exact AW.ret rfl
  have h0 : bs ≠ [] := by rintro rfl; simp at h
  rw [if_neg h0] at hcd
  refine AW.skip ?_
  refine AW.seq ?_
  refine AW.seq ?_
  refine AW.region ?_   -- "model.go:133"
  refine AOps.run tok 4 _ _ _ _ rfl ?_
  rw [List.length_map]
  refine AOps.nil ?_
  refine AW.cond rfl (fun h => ?_) (fun h => ?_)
  · have h8 : 8 < bs.length := by have := of_decide_eq_true h; omega
    rw [if_pos h8] at hcd
    rw [hcd]
    refine AW.seq ?_
    refine AW.region ?_   -- "model.go:134"
    refine AOps.run tok 2 _ _ _ _ rfl ?_
    refine AOps.nil ?_
    exact AW.ret rfl
  have h8 : ¬ 8 < bs.length := by have := of_decide_eq_false h; omega
  rw [if_neg h8] at hcd
  refine AW.skip ?_
  cases he : bodiesE bs with
  | succ m =>
    rw [he] at hcd c1
    rw [show E = m + 1 by rw [hcd, if_pos (by omega)]]
    refine AW.seq ?_
    refine AW.seq ?_
    refine AW.region ?_   -- "model.go:136"
    refine AOps.run tok 2 _ _ _ _ rfl ?_
    refine AOps.call tok rfl rfl rfl rfl c1 ?_
    refine AOps.run tok 1 _ _ _ _ rfl ?_
    refine AOps.nil ?_
    refine AW.seq ?_
    refine AW.region ?_   -- "model.go:136"
    refine AOps.run tok 1 _ _ _ _ rfl ?_
    refine AOps.err tok rfl rfl rfl rfl rfl ?_
    refine AOps.nil ?_
    refine AW.condT rfl ?_
    refine AW.seq ?_
    refine AW.region ?_   -- "model.go:137"
    refine AOps.run tok 2 _ _ _ _ rfl ?_
    refine AOps.nil ?_
    exact AW.ret rfl
  | zero =>
    rw [he] at hcd c1
    rw [if_neg (by omega)] at hcd
    refine AW.seq ?_
    refine AW.seq ?_
    refine AW.region ?_   -- "model.go:136"
    refine AOps.run tok 2 _ _ _ _ rfl ?_
    refine AOps.call tok rfl rfl rfl rfl c1 ?_
    refine AOps.run tok 1 _ _ _ _ rfl ?_
    refine AOps.nil ?_
    refine AW.seq ?_
    refine AW.region ?_   -- "model.go:136"
    refine AOps.run tok 1 _ _ _ _ rfl ?_
    refine AOps.err tok rfl rfl rfl rfl rfl ?_
    refine AOps.nil ?_
    refine AW.condF rfl ?_
    refine AW.skip ?_
    cases he2 : jointsE bs js with
    | succ m =>
      rw [he2] at hcd c2
      rw [show E = m + 1 by rw [hcd, if_pos (by omega)]]
      refine AW.seq ?_
      refine AW.seq ?_
      refine AW.region ?_   -- "model.go:139"
      refine AOps.run tok 1 _ _ _ _ rfl ?_
      refine AOps.call tok rfl rfl rfl rfl c2 ?_
      refine AOps.run tok 1 _ _ _ _ rfl ?_
      refine AOps.nil ?_
      refine AW.seq ?_
      refine AW.region ?_   -- "model.go:139"
      refine AOps.run tok 1 _ _ _ _ rfl ?_
      refine AOps.err tok rfl rfl rfl rfl rfl ?_
      refine AOps.nil ?_
      refine AW.condT rfl ?_
      refine AW.seq ?_
      refine AW.region ?_   -- "model.go:140"
      refine AOps.run tok 2 _ _ _ _ rfl ?_
      refine AOps.nil ?_
      exact AW.ret rfl
    | zero =>
      rw [he2] at hcd c2
      rw [if_neg (by omega)] at hcd
      rw [hcd]
      refine AW.seq ?_
      refine AW.seq ?_
      refine AW.region ?_   -- "model.go:139"
      refine AOps.run tok 1 _ _ _ _ rfl ?_
      refine AOps.call tok rfl rfl rfl rfl c2 ?_
      refine AOps.run tok 1 _ _ _ _ rfl ?_
      refine AOps.nil ?_
      refine AW.seq ?_
      refine AW.region ?_   -- "model.go:139"
      refine AOps.run tok 1 _ _ _ _ rfl ?_
      refine AOps.err tok rfl rfl rfl rfl rfl ?_
      refine AOps.nil ?_
      refine AW.condF rfl ?_
      refine AW.skip ?_
      refine AW.seq ?_
      refine AW.region ?_   -- "model.go:142"
      refine AOps.run tok 1 _ _ _ _ rfl ?_
      refine AOps.call tok rfl rfl rfl rfl c3 ?_
      refine AOps.run tok 1 _ _ _ _ rfl ?_
      refine AOps.nil ?_
      exact AW.ret rfl
end Lift
/- Groups: what the next group says; all groups of a linkage. -/
namespace Lift
open Go Go.Proofs

/-- A group's numbers are of the linkage, and one of its bodies is new. -/
def GrIn (l : Lkg) (kn : List Bool) (g : Grp) : Prop :=
  (∀ b, b ∈ g.bs → 0 ≤ b ∧ b < l.bodies.length) ∧ (∀ j, j ∈ g.js → 0 ≤ j ∧ j < l.joints.length) ∧ ∃ b, b ∈ g.bs ∧ kn.getD b.toNat false = false
theorem fstO_some {α : Type} {g : Nat → Option α} {a : α} : ∀ {m i : Nat}, fstO g m i = some a → ∃ k, i ≤ k ∧ k < i + m ∧ g k = some a
  | 0, i, h => by simp [fstO] at h
  | m + 1, i, h => by
    unfold fstO at h
    split at h
    · rename_i b hb
      exact ⟨i, Nat.le_refl _, by omega, by rw [hb]; exact h⟩
    · obtain ⟨k, h1, h2, h3⟩ := fstO_some h
      exact ⟨k, by omega, by omega, h3⟩
theorem jtF_in {kind b : Int} {q : Nat → Bool} {js : List Joint} (h : 0 ≤ jtF kind b q js) : jtF kind b q js < js.length := by
  have := jtF_lt h
  omega
theorem freF_no {kn dr : List Bool} {i : Nat} (h : freF kn dr i = true) : kn.getD i false = false := by
  unfold freF at h
  rw [Bool.and_eq_true] at h
  exact notT h.1
theorem drvG_in {l : Lkg} (hl : LkIn l) {kn : List Bool} {g : Grp} (h : drvG l kn = some g) : GrIn l kn g := by
  obtain ⟨k, _, h2, h3⟩ := fstO_some h
  unfold drvS at h3
  split at h3
  · cases h3
  · rename_i hk
    split at h3
    · rename_i ha
      cases h3
      have hd := hl.d k (by omega)
      refine ⟨fun b hb => ?_, fun j hj => ?_, (l.drivers.getD k default).body, List.Mem.head _, ?_⟩
      · cases List.mem_singleton.1 hb
        exact hd
      · cases List.mem_singleton.1 hj
        exact ⟨ha, jtF_in ha⟩
      · cases hv : kn.getD (l.drivers.getD k default).body.toNat false
        · rfl
        · exact absurd hv hk
    · cases h3
theorem sngG_in {l : Lkg} {kn dr : List Bool} {g : Grp} (h : sngG l kn dr = some g) : GrIn l kn g := by
  obtain ⟨k, _, h2, h3⟩ := fstO_some h
  unfold sngS at h3
  split at h3
  · cases h3
  · rename_i hk
    split at h3
    · cases h3
    · rename_i ha
      cases h3
      have ha1 : 0 ≤ ancF l kn 0 k := by omega
      have ha2 : 0 ≤ ancF l kn 1 k := by omega
      refine ⟨fun b hb => ?_, fun j hj => ?_, (k : Int), List.Mem.head _, ?_⟩
      · cases List.mem_singleton.1 hb
        omega
      · rcases List.mem_cons.1 hj with rfl | hj
        · exact ⟨ha1, jtF_in ha1⟩
        · cases List.mem_singleton.1 hj
          exact ⟨ha2, jtF_in ha2⟩
      · exact freF_no (dr := dr) (by cases hv : freF kn dr k <;> simp_all)
theorem prIn_mem {fr : Nat → Bool} {i : Nat} {p : Nat × Nat} : ∀ {m j : Nat}, p ∈ prIn fr i m j → p.1 = i ∧ j ≤ p.2 ∧ p.2 < j + m ∧ fr p.1 = true ∧ fr p.2 = true
  | 0, j, h => by simp [prIn] at h
  | m + 1, j, h => by
    unfold prIn at h
    rcases List.mem_append.1 h with h | h
    · split at h
      · rename_i hf
        cases List.mem_singleton.1 h
        rw [Bool.and_eq_true] at hf
        exact ⟨rfl, Nat.le_refl _, by omega, hf.1, hf.2⟩
      · cases h
    · obtain ⟨h1, h2, h3, h4⟩ := prIn_mem h
      exact ⟨h1, by omega, by omega, h4⟩
theorem prOut_mem {fr : Nat → Bool} {n : Nat} {p : Nat × Nat} : ∀ {m i : Nat}, p ∈ prOut fr n m i → p.1 < i + m ∧ p.2 < max n (p.1 + 1) ∧ fr p.1 = true ∧ fr p.2 = true
  | 0, i, h => by simp [prOut] at h
  | m + 1, i, h => by
    unfold prOut at h
    rcases List.mem_append.1 h with h | h
    · obtain ⟨h1, h2, h3, h4⟩ := prIn_mem h
      exact ⟨by omega, by omega, h4⟩
    · obtain ⟨h1, h2, h4⟩ := prOut_mem h
      exact ⟨by omega, h2, h4⟩
theorem prsF_mem {fr : Nat → Bool} {n : Nat} {p : Nat × Nat} (h : p ∈ prsF fr n) : p.1 < n ∧ p.2 < n ∧ fr p.1 = true ∧ fr p.2 = true := by
  obtain ⟨h1, h2, h4⟩ := prOut_mem h
  exact ⟨by omega, by omega, h4⟩
theorem parG_in {l : Lkg} {kn dr : List Bool} {g : Grp} (h : parG l kn dr = some g) : GrIn l kn g := by
  obtain ⟨p, hp, h3⟩ := List.exists_of_findSome?_eq_some h
  obtain ⟨h1, h2, h4, h5⟩ := prsF_mem hp
  unfold parS at h3
  split at h3
  · rename_i ha
    cases h3
    refine ⟨fun b hb => ?_, fun j hj => ?_, (p.1 : Int), List.Mem.head _, freF_no h4⟩
    · rcases List.mem_cons.1 hb with rfl | hb
      · omega
      · cases List.mem_singleton.1 hb
        omega
    · rcases List.mem_cons.1 hj with rfl | hj
      · exact ⟨ha.1, jtF_in ha.1⟩
      · rcases List.mem_cons.1 hj with rfl | hj
        · exact ⟨ha.2.1, jtF_in ha.2.1⟩
        · cases List.mem_singleton.1 hj
          exact ⟨ha.2.2, jtF_in ha.2.2⟩
  · cases h3
theorem nxtG_in {l : Lkg} (hl : LkIn l) {kn dr : List Bool} {g : Grp} (h : nxtG l kn dr = some g) : GrIn l kn g := by
  unfold nxtG at h
  split at h
  · cases h
    exact drvG_in hl (by assumption)
  · split at h
    · cases h
      exact parG_in (by assumption)
    · exact sngG_in h
theorem nxtG_len {l : Lkg} {kn dr : List Bool} {g : Grp} (h : nxtG l kn dr = some g) : g.bs.length ≤ 2 ∧ g.js.length ≤ 3 := by
  unfold nxtG at h
  split at h
  · cases h
    obtain ⟨k, _, _, h3⟩ := fstO_some (by assumption : drvG l kn = some g)
    unfold drvS at h3
    split at h3
    · cases h3
    · split at h3
      · cases h3; exact ⟨by show 1 ≤ 2; omega, by show 1 ≤ 3; omega⟩
      · cases h3
  · split at h
    · cases h
      obtain ⟨p, _, h3⟩ := List.exists_of_findSome?_eq_some (by assumption : parG l kn dr = some g)
      unfold parS at h3
      split at h3
      · cases h3; exact ⟨Nat.le_refl 2, Nat.le_refl 3⟩
      · cases h3
    · obtain ⟨k, _, _, h3⟩ := fstO_some h
      unfold sngS at h3
      split at h3
      · cases h3
      · split at h3
        · cases h3
        · cases h3; exact ⟨by show 1 ≤ 2; omega, by show 2 ≤ 3; omega⟩
/-- The numbers' places set. -/
def setTs (l : List Bool) (is : List Int) : List Bool := is.foldl (fun l i => l.set i.toNat true) l
theorem setTs_length (is : List Int) : ∀ l : List Bool, (setTs l is).length = l.length := by
  induction is with
  | nil => intro l; rfl
  | cons i is ih => intro l; show (setTs (l.set i.toNat true) is).length = _; rw [ih, List.length_set]
theorem setTs_take {l : List Bool} {is : List Int} {i : Nat} (h : i < is.length) : (setTs l (is.take i)).set (is.getD i 0).toNat true = setTs l (is.take (i + 1)) := by
  rw [List.take_add_one, List.getElem?_eq_getElem h]
  unfold setTs
  rw [List.foldl_append]
  simp [List.getD_eq_getElem?_getD, List.getElem?_eq_getElem h]
/-- How many are false. -/
def cF : List Bool → Nat
  | [] => 0
  | true :: l => cF l
  | false :: l => cF l + 1
theorem cF_set : ∀ (l : List Bool) (i : Nat), cF (l.set i true) ≤ cF l
  | [], _ => Nat.le_refl _
  | true :: l, 0 => Nat.le_refl _
  | false :: l, 0 => Nat.le_succ _
  | true :: l, i + 1 => cF_set l i
  | false :: l, i + 1 => Nat.succ_le_succ (cF_set l i)
theorem cF_set_lt : ∀ (l : List Bool) (i : Nat), i < l.length → l.getD i false = false → cF (l.set i true) < cF l
  | [], _, h, _ => by simp at h
  | true :: l, 0, _, h => by simp at h
  | false :: l, 0, _, _ => Nat.lt_succ_self _
  | true :: l, i + 1, h, h2 => cF_set_lt l i (by simpa using h) (by simpa using h2)
  | false :: l, i + 1, h, h2 => Nat.succ_lt_succ (cF_set_lt l i (by simpa using h) (by simpa using h2))
theorem setTs_cF (is : List Int) : ∀ l : List Bool, cF (setTs l is) ≤ cF l := by
  induction is with
  | nil => intro l; exact Nat.le_refl _
  | cons i is ih => intro l; exact Nat.le_trans (ih _) (cF_set _ _)
theorem setTs_cF_lt {is : List Int} : ∀ {l : List Bool} {b : Int}, b ∈ is → b.toNat < l.length → l.getD b.toNat false = false → cF (setTs l is) < cF l := by
  induction is with
  | nil => intro l b h; cases h
  | cons i is ih =>
    intro l b h hb hf
    show cF (setTs (l.set i.toNat true) is) < _
    by_cases he : i.toNat = b.toNat
    · rw [he]
      exact Nat.lt_of_le_of_lt (setTs_cF _ _) (cF_set_lt _ _ hb hf)
    · rcases List.mem_cons.1 h with rfl | h
      · exact absurd rfl he
      · refine Nat.lt_of_lt_of_le (ih h (by rw [List.length_set]; exact hb) ?_) (cF_set _ _)
        rw [List.getD_eq_getElem?_getD, List.getElem?_set_ne he, ← List.getD_eq_getElem?_getD]
        exact hf
theorem cF_le : ∀ l : List Bool, cF l ≤ l.length
  | [] => Nat.le_refl _
  | true :: l => Nat.le_succ_of_le (cF_le l)
  | false :: l => Nat.succ_le_succ (cF_le l)
/-- What find has found. -/
structure FSt where
  kn : List Bool
  us : List Bool
  gs : List Grp
/-- The search from a state on, of at most m steps. -/
def fgo (l : Lkg) (dr : List Bool) : Nat → FSt → FSt
  | 0, s => s
  | m + 1, s => match nxtG l s.kn dr with
    | some g => fgo l dr m ⟨setTs s.kn g.bs, setTs s.us g.js, s.gs ++ [g]⟩
    | none => s
theorem fgo_end {l : Lkg} {dr : List Bool} {s : FSt} (h : nxtG l s.kn dr = none) (m : Nat) : fgo l dr m s = s := by
  cases m with
  | zero => rfl
  | succ m => unfold fgo; rw [h]
theorem fgo_step {l : Lkg} (hl : LkIn l) {dr : List Bool} {s : FSt} {g : Grp} (hk : s.kn.length = l.bodies.length) (h : nxtG l s.kn dr = some g) : cF (setTs s.kn g.bs) < cF s.kn := by
  obtain ⟨h1, _, b, h3, h4⟩ := nxtG_in hl h
  have := h1 b h3
  exact setTs_cF_lt h3 (by omega) h4
/-- More steps than false marks change nothing. -/
theorem fgo_more {l : Lkg} (hl : LkIn l) {dr : List Bool} : ∀ (m m' : Nat) (s : FSt), s.kn.length = l.bodies.length → cF s.kn ≤ m → cF s.kn ≤ m' → fgo l dr m s = fgo l dr m' s := by
  intro m
  induction m with
  | zero =>
    intro m' s hk h1 h2
    cases hg : nxtG l s.kn dr with
    | none => rw [fgo_end hg, fgo_end hg]
    | some g => have := fgo_step hl hk hg; omega
  | succ m ih =>
    intro m' s hk h1 h2
    cases hg : nxtG l s.kn dr with
    | none => rw [fgo_end hg, fgo_end hg]
    | some g =>
      have hlt := fgo_step hl hk hg
      cases m' with
      | zero => omega
      | succ m' =>
        unfold fgo
        rw [hg]
        exact ih m' _ (by rw [setTs_length]; exact hk) (by show cF (setTs _ _) ≤ _; omega) (by show cF (setTs _ _) ≤ _; omega)
/-- The bodies of drivers. -/
def drvB (l : Lkg) : List Bool := setTs (List.replicate l.bodies.length false) (l.drivers.map Driver.body)
/-- All that find finds. -/
def findF (l : Lkg) : FSt := fgo l (drvB l) l.bodies.length ⟨(List.replicate l.bodies.length false).set 0 true, List.replicate l.joints.length false, []⟩
end Lift
/- Groups: all groups of a linkage, one after the other: find. -/
namespace Lift
open Go Go.Proofs
open Go.RowKit (Below)

section
variable {P : Program} {T : Ty} {B : Nat} {F0 : Nat → Prop} {w0 : Bas} {n : Nat} {σ : St} {R : List LR} {ops all : Array Oper} {l rest : List Oper} {o : Oper} {d : Nat} {x : Code} {a : Act} {w : World} {Q : Exit → List LR → St → Prop}
/-- A move may be taken first. -/
theorem ZAny.earlyM (i : Nat) {oi : Oper} (hB : earlyP ops i = true) (hoi : ops[i]? = some oi) (hm : isMove oi.op = true) (hpan : ∀ c R σ, Q (.panic c) R σ → False) (hout : ∀ R σ, Q .outgrown R σ → False) (h : ZAny P B F0 w0 n (earlier i ops) Q R σ) : ZAny P B F0 w0 n ops Q R σ := by
  intro a w hR
  obtain ⟨v, hv⟩ := move_run hm a
  have hA := h a w hR
  rw [earlier_size] at hA
  refine wpAny_earlyP i hB (fun c a w hq => ?_) (fun hq => ?_) hoi hv hA
  · obtain ⟨R, σ, h, _⟩ := hq; exact hpan c R σ h
  · obtain ⟨a, w, R, σ, h, _⟩ := hq; exact hout R σ h
/-- A slot that points to a box that becomes data. -/
theorem Rel.frzP {s t : Nat} {cs : List D} (hR : Rel P B F0 w0 n σ a w) (ht : σ.get t = some (.bx cs)) (hs : σ.get s = some (.pt t 0)) : Rel P B F0 w0 n ((s, .d (.pr cs)) :: (t, .d (.pr cs)) :: σ.kill t) a w := by
  obtain ⟨O1, _, hO1⟩ := hR.own
  obtain ⟨v, hv, b, es, e, rfl, _⟩ := hO1 t _ ht
  obtain ⟨u, hu, hur⟩ := hO1 s _ hs
  obtain ⟨b', hb', rfl⟩ := hur cs ht
  have hb2 : a.tmps[t]? = some (Value.pointer (some ⟨b', 0, none⟩)) := hb'
  rw [hv] at hb2
  cases hb2
  have hR2 := hR.frzB ht
  obtain ⟨O, hOr, hO⟩ := hR2.own
  have hget : ∀ j x, x.home = true → St.get ((s, AV.d (.pr cs)) :: (t, AV.d (.pr cs)) :: σ.kill t) j = some x → St.get ((t, AV.d (.pr cs)) :: σ.kill t) j = some x := fun j x hx hg => by
    rw [St.get_cons] at hg
    split at hg
    · simp at hg; subst hg; simp [AV.home] at hx
    · exact hg
  refine ⟨hR2.below, hR2.base, hR2.f0, hR2.defers, hR2.size, O, hOr, fun k av hk => ?_⟩
  rw [St.get_cons] at hk
  split at hk
  · rename_i e
    subst e
    cases hk
    obtain ⟨v, hv', hr⟩ := hO t (.d (.pr cs)) (by rw [St.get_cons, if_pos rfl])
    rw [hv] at hv'
    cases hv'
    exact ⟨_, hu, hr⟩
  · obtain ⟨v, hv, hr⟩ := hO k av hk
    exact ⟨v, hv, hr.move (fun c hc => ⟨hc, rfl⟩) (fun _ c hc => ⟨hc, rfl⟩) (fun j hj z hz hg => ⟨hget j z hz hg, rfl⟩)⟩
theorem AOps.frzp {K : St → Prop} (s t : Nat) {cs : List D} (ht : σ.get t = some (.bx cs)) (hs : σ.get s = some (.pt t 0)) (h : AOps P B F0 w0 n all l K ((s, .d (.pr cs)) :: (t, .d (.pr cs)) :: σ.kill t)) : AOps P B F0 w0 n all l K σ := fun a w hR => h a w (hR.frzP ht hs)
def asgF (T : Ty) (lk : Nat → Option AV) (ty : Nat) : Op → Option AV
  | .assign x => match ex T lk ty x with
    | some (.pt h off) => some (.pt h off)
    | _ => none
  | _ => none
theorem PStep.asgp (hT : TOk P T) {lk hm : Nat → Option AV} {av : AV} (hd : o.dst = some d) (hn : hm d = none) (hx : asgF T lk o.type o.op = some av) : PStep P B F0 w0 d o lk hm av := by
  refine ⟨hd, hn, fun a w O hI K Q hK => ?_⟩
  obtain ⟨dst, op, ty, pos, after, guard⟩ := o
  simp only [] at hd hx hI
  cases op <;> simp only [asgF] at hx <;> try (cases hx; done)
  rename_i x
  split at hx <;> try (cases hx; done)
  rename_i h off he
  simp at hx
  subst hx
  have hr := (ex_sound hI (fun t ht => by subst ht; simp [Op.operands]) he d).1
  have hrun : (execOp a.eval { dst := dst, op := .assign x, type := ty, pos := pos, after := after, guard := guard }).run P w = .ok (.value (a.eval x)) w := by
    simp [execOp]
  exact wp_val hrun (hK _ w O (Grow.refl hI.lt) hr)
/-- A pointer to a box is handed on. -/
theorem AOps.asgp (hT : TOk P T) {K : St → Prop} {h off : Nat} (hd : o.dst = some d) (hdn : Nat.ble (d + 1) n = true) (hg : guardOk all σ o = true) (hx : asgF T σ.get o.type o.op = some (.pt h off))
    (h : AOps P B F0 w0 n all rest K ((d, .pt h off) :: σ)) : AOps P B F0 w0 n all (o :: rest) K σ := AOps.pure hg hdn (PStep.asgp hT hd (hmx_self σ d) hx) h
theorem APre.nchp (hT : TOk P T) {K : St → Prop} {τ σ0 : St} {ds : List Nat} {k off : Nat} (hd : o.dst = some d) (hdn : Nat.ble (d + 1) n = true) (hg : guardOk ops τ o = true) (hs : σ0.get d = none) (hr : refsOk ds (.pt k off) = true) (hx : nchkF T τ.get σ0.get o.op = some (.pt k off))
    (h : APre P B F0 w0 n ops ds σ0 rest ((d, .pt k off) :: τ) K) : APre P B F0 w0 n ops ds σ0 (o :: rest) τ K := APre.pure hd hdn hr hg (PStep.nchk hT hd hs hx) h
theorem AOps.storeT (hT : TOk P T) {K : St → Prop} {k e i : Nat} {xs : List Bool} (hd : o.dst = none) (hg : guardOk all σ o = true) (hx : seF T σ o.op = some (k, .ow e (xs.map (fun b => dB b)), xs.map (fun b => dB b), i, 0, dB true)) (hi : i < xs.length)
    (h : AOps P B F0 w0 n all rest K ((k, .ow e ((xs.set i true).map (fun b => dB b))) :: σ)) : AOps P B F0 w0 n all (o :: rest) K σ := by
  refine AOps.storeel hT (dB (xs.getD i false)) hd hg hx (getBs hi) rfl ?_
  show AOps P B F0 w0 n all rest K ((k, .ow e ((xs.map (fun b => dB b)).set i (dB true))) :: σ)
  rw [List.map_set] at h
  exact h
end
theorem fE_zeroG {f : Nat → Nat} : ∀ {m i : Nat}, fE f m i = 0 → ∀ k, i ≤ k → k < i + m → f k = 0
  | 0, i, _, k, h1, h2 => by omega
  | m + 1, i, h, k, h1, h2 => by
    rw [fE] at h
    split at h
    · rename_i h0
      rcases Nat.eq_or_lt_of_le h1 with e | e
      · subst e; exact h0
      · exact fE_zeroG h k (by omega) (by omega)
    · rename_i h0
      exact absurd h h0
theorem inB_iff {i : Int} {n : Nat} (h : inB i n = true) : 0 ≤ i ∧ i < n := of_decide_eq_true h
/-- What a linkage without errors is. -/
theorem chk_in {l : Lkg} (h : chk l = 0) : LkIn l ∧ l.bodies.length ≤ 8 ∧ l.joints.length ≤ 16 ∧ l.drivers.length ≤ 2 := by
  unfold chk at h
  split at h
  · cases h
  split at h
  · cases h
  rename_i h2
  split at h
  · cases h
  rename_i h3
  split at h
  · rename_i h4; exact absurd h h4
  split at h
  · rename_i h5; exact absurd h h5
  rename_i h5
  have h5 : jointsE l.bodies l.joints = 0 := Decidable.not_not.1 h5
  unfold jointsE at h5
  split at h5
  · cases h5
  rename_i h6
  unfold driversE at h
  split at h
  · cases h
  rename_i h7
  have hb : 0 < l.bodies.length := List.length_pos_iff.2 h2
  refine ⟨⟨hb, by omega, by omega, by omega, fun i hi => ?_, fun i hi => ?_⟩, by omega, by omega, by omega⟩
  · have := fE_zeroG h5 i (Nat.zero_le _) (by omega)
    unfold jointE at this
    split at this
    · cases this
    split at this
    · cases this
    unfold jE at this
    split at this
    · cases this
    split at this
    · cases this
    rename_i h8
    have h8 : (inB (l.joints.getD i default).a l.bodies.length && inB (l.joints.getD i default).b l.bodies.length) = true := by
      cases hv : (inB (l.joints.getD i default).a l.bodies.length && inB (l.joints.getD i default).b l.bodies.length)
      · exact absurd hv h8
      · rfl
    rw [Bool.and_eq_true] at h8
    have e1 := inB_iff h8.1
    have e2 := inB_iff h8.2
    exact ⟨e1.1, e1.2, e2.1, e2.2⟩
  · have := fE_zeroG h i (Nat.zero_le _) (by omega)
    unfold driverE at this
    split at this
    · cases this
    split at this
    · cases this
    split at this
    · cases this
    rename_i h8
    exact inB_iff (by
      cases hv : inB (l.drivers.getD i default).body l.bodies.length
      · exact absurd hv h8
      · rfl)
abbrev GrpsD (gs : List Grp) : D := .sl 4 (gs.map Grp.D)
def findD (l : Lkg) : D := if chk l = 0 then .tu [.pr (FinC l (findF l).kn (drvB l) (findF l).us (GrpsD (findF l).gs)), nilE] else .tu [.v (.pointer none), erV (chk l)]
abbrev FinV (l : Lkg) (V1 V2 V3 V7 : Value) : List D := [dS l.nm, BodiesD l.bodies, JointsD l.joints, DriversD l.drivers, .v V1, .v V2, .v V3, .v V7]
abbrev bRow (V : Value) (l : List Bool) : LR := (V, .ow 4 (l.map (fun b => dB b)))
abbrev gRow (V : Value) (gs : List Grp) : LR := (V, .ow 29 (gs.map Grp.D))
abbrev iRow (V : Value) (l : List Int) : LR := (V, .ow 3 (IsL l))
theorem plain_isl (l : List Int) : plainL (IsL l) = true := by
  unfold plainL
  rw [List.all_eq_true]
  intro d hd
  unfold flatAll at hd
  obtain ⟨x, hx, hd⟩ := List.mem_flatMap.1 hd
  obtain ⟨z, _, rfl⟩ := List.mem_map.1 hx
  cases List.mem_singleton.1 hd
  rfl
theorem grp_back {o : Option Grp} (res : D) (R1 : List LR) (h : grpPost o res R1) : BackOk res R1 := by
  cases o with
  | none =>
    obtain ⟨rfl, rfl⟩ := h
    exact ⟨rfl, fun r hr => by cases hr⟩
  | some g =>
    obtain ⟨Vb, Vj, rfl, rfl⟩ := h
    refine ⟨rfl, fun r hr => ?_⟩
    rcases List.mem_cons.1 hr with rfl | hr
    · exact ⟨_, _, rfl, plain_isl _⟩
    · cases List.mem_singleton.1 hr
      exact ⟨_, _, rfl, plain_isl _⟩
theorem getIs {l : List Int} {i : Nat} (h : i < l.length) : (l.map (fun n => dI n))[i]? = some (dI (l.getD i 0)) := by simp [h]
theorem getMem {l : List Int} {i : Nat} (h : i < l.length) : l.getD i 0 ∈ l := by
  rw [List.getD_eq_getElem?_getD, List.getElem?_eq_getElem h]
  exact List.getElem_mem h
/-- A round's state: what is known, what is used, the groups, the next group. -/
structure FL where
  kn : List Bool
  us : List Bool
  gs : List Grp
  o : Option Grp
  V7 : Value
  Vb : Value
  Vj : Value
def flR (l : Lkg) (V1 V2 V3 : Value) (s : FL) : List LR := match s.o with
  | some g => [bRow V1 s.kn, bRow V2 (drvB l), bRow V3 s.us, gRow s.V7 s.gs, iRow s.Vb g.bs, iRow s.Vj g.js]
  | none => [bRow V1 s.kn, bRow V2 (drvB l), bRow V3 s.us, gRow s.V7 s.gs]
def flB (s : FL) : List D := match s.o with
  | some g => [dI g.kind, .v s.Vb, .v s.Vj, dI g.dr]
  | none => [dI 0, .v nilS, .v nilS, dI 0]
def flS (l : Lkg) (V1 V2 V3 : Value) (s : FL) : St := [(5, .pt 33 0), (8, .bx (flB s)), (9, .d (dB s.o.isSome)), (33, .bx (FinV l V1 V2 V3 s.V7))]
structure FInv (l : Lkg) (s : FL) : Prop where
  k : s.kn.length = l.bodies.length
  u : s.us.length = l.joints.length
  g : s.gs.length + cF s.kn ≤ l.bodies.length
  o : s.o = nxtG l s.kn (drvB l)
  f : fgo l (drvB l) (cF s.kn) ⟨s.kn, s.us, s.gs⟩ = findF l
theorem FInv.step {l : Lkg} (hl : LkIn l) {s : FL} {g : Grp} (h : FInv l s) (hg : s.o = some g) (V7 Vb Vj : Value) : FInv l ⟨setTs s.kn g.bs, setTs s.us g.js, s.gs ++ [g], nxtG l (setTs s.kn g.bs) (drvB l), V7, Vb, Vj⟩ ∧ cF (setTs s.kn g.bs) < cF s.kn := by
  have hn := h.o.symm.trans hg
  have hlt := fgo_step hl (s := ⟨s.kn, s.us, s.gs⟩) h.k hn
  have hlt : cF (setTs s.kn g.bs) < cF s.kn := hlt
  have h3 := h.g
  refine ⟨⟨by rw [setTs_length]; exact h.k, by rw [setTs_length]; exact h.u, by show (s.gs ++ [g]).length + cF (setTs s.kn g.bs) ≤ _; rw [List.length_append]; show s.gs.length + 1 + _ ≤ _; omega, rfl, ?_⟩, hlt⟩
  rw [← h.f]
  obtain ⟨m, hm⟩ : ∃ m, cF s.kn = m + 1 := ⟨cF s.kn - 1, by omega⟩
  rw [hm]
  show _ = fgo l (drvB l) (m + 1) ⟨s.kn, s.us, s.gs⟩
  rw [fgo]
  simp only [hn]
  exact fgo_more hl _ _ _ (by show (setTs s.kn g.bs).length = _; rw [setTs_length]; exact h.k) (Nat.le_refl _) (by show cF (setTs s.kn g.bs) ≤ m; omega)
theorem fin_th (l : Lkg) (V1 V2 V3 V7 : Value) (kn dr us : List Bool) (R' : List LR) : Th tys (bRow V1 kn :: bRow V2 dr :: bRow V3 us :: R') (FinV l V1 V2 V3 V7) (FinC l kn dr us (.v V7)) := by
  have h0 : Th tys (bRow V1 kn :: bRow V2 dr :: bRow V3 us :: R') (FinV l V1 V2 V3 V7) (FinV l V1 V2 V3 V7) := Th.refl
  have h1 := h0.set 4 0 (V := V1) (e := 4) (xs := kn.map (fun b => dB b)) rfl rfl rfl
  have h2 := h1.set 5 1 (V := V2) (e := 4) (xs := dr.map (fun b => dB b)) rfl rfl rfl
  have h3 := h2.set 6 2 (V := V3) (e := 4) (xs := us.map (fun b => dB b)) rfl rfl rfl
  exact h3
theorem grp_res {l : Lkg} {V1 V2 V3 V7 : Value} {kn us : List Bool} {gs : List Grp} {res : D} {R1 : List LR} (h : grpPost (nxtG l kn (drvB l)) res R1) : ∃ (k d : Int) (a b : Value), res = .tu [.ag [dI k, .v a, .v b, dI d], dB (nxtG l kn (drvB l)).isSome] ∧
    (bRow V1 kn :: bRow V2 (drvB l) :: bRow V3 us :: gRow V7 gs :: R1, [(5, AV.pt 33 0), (8, .bx [dI k, .v a, .v b, dI d]), (9, .d (dB (nxtG l kn (drvB l)).isSome)), (33, .bx (FinV l V1 V2 V3 V7))]) = (flR l V1 V2 V3 ⟨kn, us, gs, nxtG l kn (drvB l), V7, a, b⟩, flS l V1 V2 V3 ⟨kn, us, gs, nxtG l kn (drvB l), V7, a, b⟩) := by
  cases hn : nxtG l kn (drvB l) with
  | none => rw [hn] at h; obtain ⟨rfl, rfl⟩ := h; exact ⟨0, 0, nilS, nilS, rfl, rfl⟩
  | some g => rw [hn] at h; obtain ⟨Vb, Vj, rfl, rfl⟩ := h; exact ⟨g.kind, g.dr, Vb, Vj, rfl, rfl⟩
set_option maxHeartbeats 3200000 in
theorem groups_find_ok (l : Lkg) {K : Nat} (hl : l.ok K) (hK : K ≤ 20000000) : Pure Tryz.prog 25 [l.D] (findD l) := by
  refine Pure.intro (n := 105) tok Tryz.func25 rfl rfl rfl (Nat.le_of_ble_eq_true rfl) (by kernel_rfl) (fun B F0 w0 => ?_)
  have c := model_Check_ok l hl hK
  have hin := fun h => chk_in (l := l) h
  unfold findD
  generalize chk l = E at c hin ⊢
  refine AW.seq ?_
  refine AW.region ?_
  refine AOps.run tok 3 _ _ _ _ rfl ?_
  refine AOps.nil ?_
  refine AW.seq ?_
  refine AW.seq ?_
  refine AW.region ?_
  refine AOps.run tok 1 _ _ _ _ rfl ?_
  refine AOps.call tok rfl rfl rfl rfl c ?_
  refine AOps.run tok 1 _ _ _ _ rfl ?_
  refine AOps.nil ?_
  refine AW.seq ?_
  refine AW.region ?_
  refine AOps.run tok 1 _ _ _ _ rfl ?_
  rcases E with _ | m
  rotate_left
  · refine AOps.err tok rfl rfl rfl rfl rfl ?_
    refine AOps.nil ?_
    refine AW.condT rfl ?_
    refine AW.seq ?_
    refine AW.region ?_
    refine AOps.run tok 3 _ _ _ _ rfl ?_
    refine AOps.nil ?_
    rw [if_neg (Nat.succ_ne_zero m)]
    exact AW.ret rfl
  refine AOps.err tok rfl rfl rfl rfl rfl ?_
  refine AOps.nil ?_
  refine AW.condF rfl ?_
  refine AW.skip ?_
  rw [if_pos rfl]
  obtain ⟨hL, hb8, hj16, hd2⟩ := hin rfl
  have hnx : ∀ (kn us : List Bool) (g : D), kn.length = l.bodies.length → CallZ Tryz.prog 40 [.pr (FinC l kn (drvB l) us g)] [] (grpPost (nxtG l kn (drvB l))) := fun kn us g hk => fin_next_ok l hL kn (drvB l) us g hk (by unfold drvB; rw [setTs_length, List.length_replicate])
  refine AZ.aw ?_
  refine AZ.seq ?_
  refine AZ.any hmix (ZAny.draw 13 (by kernel_rfl) (fun B1 F1 w1 => ?_))
  refine APre.run tok 4 _ _ _ _ rfl ?_
  rw [List.length_map]
  refine APre.make tok rfl rfl rfl rfl rfl rfl (Int.natCast_nonneg _) (by show (1 : Int) * _ ≤ _; omega) (by omega) ?_
  refine APre.run tok 3 _ _ _ _ rfl ?_
  rw [List.length_map]
  refine APre.make tok rfl rfl rfl rfl rfl rfl (Int.natCast_nonneg _) (by show (1 : Int) * _ ≤ _; omega) (by omega) ?_
  refine APre.run tok 3 _ _ _ _ rfl ?_
  rw [List.length_map]
  refine APre.make tok rfl rfl rfl rfl rfl rfl (Int.natCast_nonneg _) (by show (1 : Int) * _ ≤ _; omega) (by omega) ?_
  refine APre.nil ⟨rfl, ?_⟩
  refine AZOps.loosen 23 rfl rfl rfl (fun V1 => ?_)
  refine AZOps.loosen 27 rfl rfl rfl (fun V2 => ?_)
  refine AZOps.loosen 31 rfl rfl rfl (fun V3 => ?_)
  refine AZOps.cut 3 rfl (fun B1 F1 w1 => ?_)
  refine AOps.bldn tok [.v (.string ByteArray.empty), .v nilS, .v nilS, .v nilS, .v nilS, .v nilS, .v nilS, .v nilS] rfl rfl rfl rfl (by kernel_rfl) ?_
  refine AOps.run tok 1 _ _ _ _ rfl ?_
  refine AOps.asgp tok rfl rfl rfl rfl ?_
  refine AOps.nil ⟨rfl, ?_⟩
  refine AZOps.nil ?_
  refine AZ.to [1, 5, 33] [(1, .bx l.D.flat), (5, .pt 33 0), (33, .bx (FinV l V1 V2 V3 nilS))] rfl ?_
  refine AZ.nilRow 29 ?_
  refine AZ.convR (R' := [bRow V1 (List.replicate l.bodies.length false), bRow V2 (List.replicate l.bodies.length false), bRow V3 (List.replicate l.joints.length false), gRow nilS []]) (by simp only [bRow, gRow, List.map_replicate, Int.toNat_natCast]; rfl) ?_
  have hb1 := hL.b1
  refine AZ.seq ?_
  refine AZ.region ?_
  refine AZOps.cut 4 rfl (fun B1 F1 w1 => ?_)
  refine AOps.run tok 1 _ _ _ _ rfl ?_
  refine AOps.nchk tok rfl rfl rfl rfl rfl ?_
  refine AOps.run tok 2 _ _ _ _ rfl ?_
  refine AOps.nil ⟨rfl, ?_⟩
  refine AZOps.adopt 37 0 rfl rfl rfl ?_
  refine AZOps.cut 2 rfl (fun B1 F1 w1 => ?_)
  refine AOps.idxo tok rfl rfl rfl rfl (Int.le_refl 0) (by rw [List.length_map, List.length_replicate]; exact hb1) ?_
  refine AOps.storeT tok rfl rfl rfl (by rw [List.length_replicate]; exact hb1) ?_
  refine AOps.nil ⟨rfl, ?_⟩
  refine AZOps.back 37 0 rfl rfl rfl (List.Mem.head _) rfl ?_
  refine AZOps.nil ?_
  obtain ⟨kn0, hk0⟩ : ∃ k, k = (List.replicate l.bodies.length false).set 0 true := ⟨_, rfl⟩
  refine AZ.convR (R' := [bRow V1 kn0, bRow V2 (List.replicate l.bodies.length false), bRow V3 (List.replicate l.joints.length false), gRow nilS []]) (by rw [hk0]; rfl) ?_
  refine AZ.to [1, 5, 33] [(1, .bx l.D.flat), (5, .pt 33 0), (33, .bx (FinV l V1 V2 V3 nilS))] rfl ?_
  refine AZ.seq ?_
  refine AZ.seq ?_
  refine AZ.reg (fun B1 F1 w1 => ?_)
  refine AOps.run tok 3 _ _ _ _ rfl ?_
  rw [List.length_map]
  refine AOps.run tok 1 _ _ _ _ rfl ?_
  refine AOps.nil ⟨rfl, ?_⟩
  refine AZ.block ?_
  refine AZ.loopS [5, 33, 40, 41, 42] (fun i : Nat => ([bRow V1 kn0, bRow V2 (setTs (List.replicate l.bodies.length false) ((l.drivers.map Driver.body).take i)), bRow V3 (List.replicate l.joints.length false), gRow nilS []], [(5, .pt 33 0), (33, .bx (FinV l V1 V2 V3 nilS)), (40, .d (DriversD l.drivers)), (41, .d (dI l.drivers.length)), (42, .d (dI i))])) (fun i => i ≤ l.drivers.length) (fun i => l.drivers.length - i) 0 rfl (Nat.zero_le _) (fun i hi => ?_)
  refine AZ.seq ?_
  refine AZ.reg (fun B1 F1 w1 => ?_)
  refine AOps.run tok 1 _ _ _ _ rfl ?_
  refine AOps.nil ⟨rfl, ?_⟩
  refine AZ.seq ?_
  refine AZ.cond rfl (fun h => ?_) (fun h => ?_)
  · have hin : i < l.drivers.length := by have := of_decide_eq_true h; omega
    have hdi := hL.d i hin
    have hid := getDr hin
    have hts := setTs_take (l := List.replicate l.bodies.length false) (is := l.drivers.map Driver.body) (i := i) (by rw [List.length_map]; exact hin)
    have hgd : (l.drivers.map Driver.body).getD i 0 = (l.drivers.getD i default).body := by simp [List.getD_eq_getElem?_getD, hin]
    rw [hgd] at hts
    generalize l.drivers.getD i default = x at hdi hid hts
    refine AZ.skip ?_
    refine AZ.seq ?_
    refine AZ.block ?_
    refine AZ.seq ?_
    refine AZ.reg (fun B1 F1 w1 => ?_)
    refine AOps.idx tok x.D rfl rfl rfl rfl (Int.natCast_nonneg i) hid ?_
    refine AOps.run tok 3 _ _ _ _ rfl ?_
    refine AOps.nil ⟨rfl, ?_⟩
    refine AZ.any hmix (ZAny.draw 6 (by kernel_rfl) (fun B1 F1 w1 => ?_))
    refine APre.run tok 1 _ _ _ _ rfl ?_
    refine APre.nchp tok rfl rfl rfl rfl rfl rfl ?_
    refine APre.run tok 4 _ _ _ _ rfl ?_
    refine APre.nil ⟨rfl, ?_⟩
    refine AZOps.adopt 49 1 rfl rfl rfl ?_
    refine AZOps.cut 2 rfl (fun B1 F1 w1 => ?_)
    refine AOps.idxo tok rfl rfl rfl rfl hdi.1 (by rw [List.length_map, setTs_length, List.length_replicate]; omega) ?_
    refine AOps.storeT tok rfl rfl rfl (by rw [setTs_length, List.length_replicate]; omega) ?_
    refine AOps.nil ⟨rfl, ?_⟩
    refine AZOps.back 49 1 rfl rfl rfl (List.Mem.head _) rfl ?_
    refine AZOps.nil ?_
    refine AZ.reg (fun B1 F1 w1 => ?_)
    refine AOps.run tok 1 _ _ _ _ rfl ?_
    rw [wI64 (x := (i : Int) + 1) (by omega) (by omega)]
    refine AOps.run tok 1 _ _ _ _ rfl ?_
    refine AOps.nil ⟨rfl, ?_⟩
    exact ⟨i + 1, by rw [← hts]; rfl, hin, by omega⟩
  have hid : i = l.drivers.length := by have := of_decide_eq_false h; omega
  subst hid
  refine AZ.exit ?_
  refine AZ.convR (R' := [bRow V1 kn0, bRow V2 (drvB l), bRow V3 (List.replicate l.joints.length false), gRow nilS []]) (by unfold drvB; rw [List.take_of_length_le (by rw [List.length_map]; exact Nat.le_refl _)]) ?_
  refine AZ.to [5, 33] [(5, .pt 33 0), (33, .bx (FinV l V1 V2 V3 nilS))] rfl ?_
  have hkl0 : kn0.length = l.bodies.length := by rw [hk0, List.length_set, List.length_replicate]
  refine AZ.seq ?_
  refine AZ.seq ?_
  refine AZ.region ?_
  refine AZOps.cut 1 rfl (fun B1 F1 w1 => ?_)
  refine AOps.run tok 1 _ _ _ _ rfl ?_
  refine AOps.nil ⟨rfl, ?_⟩
  refine AZOps.callb tok rfl rfl rfl ⟨_, rfl⟩ rfl rfl (fin_th l V1 V2 V3 nilS kn0 (drvB l) (List.replicate l.joints.length false) _) rfl (hnx kn0 _ (.v nilS) hkl0) grp_back (fun res R1 hP => ?_)
  have hI0 : ∀ Vb Vj, FInv l ⟨kn0, List.replicate l.joints.length false, [], nxtG l kn0 (drvB l), nilS, Vb, Vj⟩ := fun Vb Vj => ⟨hkl0, List.length_replicate, by
    show 0 + cF kn0 ≤ _
    have := cF_le kn0
    omega, rfl, by
    unfold findF
    rw [← hk0]
    have := cF_le kn0
    exact fgo_more hL _ _ _ hkl0 (Nat.le_refl _) (by show cF kn0 ≤ _; omega)⟩
  obtain ⟨k0, d0, Vb0, Vj0, rfl, hR0⟩ := grp_res (V1 := V1) (V2 := V2) (V3 := V3) (V7 := nilS) (us := List.replicate l.joints.length false) (gs := []) hP
  refine AZOps.cut 6 rfl (fun B1 F1 w1 => ?_)
  refine AOps.run tok 6 _ _ _ _ rfl ?_
  refine AOps.nil ⟨rfl, ?_⟩
  refine AZOps.nil ?_
  refine AZ.block ?_
  refine AZ.loopS [5, 8, 9, 33] (fun s : FL => (flR l V1 V2 V3 s, flS l V1 V2 V3 s)) (FInv l) (fun s => cF s.kn) _ hR0 (hI0 Vb0 Vj0) (fun s hI => ?_)
  obtain ⟨kn, us, gs, o, V7, Vb, Vj⟩ := s
  have hkl : kn.length = l.bodies.length := hI.k
  have hul : us.length = l.joints.length := hI.u
  have hgl : gs.length + cF kn ≤ l.bodies.length := hI.g
  have hno : o = nxtG l kn (drvB l) := hI.o
  refine AZ.seq ?_
  refine AZ.seq ?_
  rcases o with _ | g
  · show AZ _ _ _ _ _ _ _ [bRow V1 kn, bRow V2 (drvB l), bRow V3 us, gRow V7 gs] [(5, .pt 33 0), (8, .bx [dI 0, .v nilS, .v nilS, dI 0]), (9, .d (dB false)), (33, .bx (FinV l V1 V2 V3 V7))]
    refine AZ.reg (fun B1 F1 w1 => ?_)
    refine AOps.run tok 1 _ _ _ _ rfl ?_
    refine AOps.nil ⟨rfl, ?_⟩
    refine AZ.condF rfl ?_
    refine AZ.exit ?_
    refine AZ.frzc tok 33 4 0 rfl rfl rfl rfl ?_
    refine AZ.frzc tok 33 5 1 rfl rfl rfl rfl ?_
    refine AZ.frzc tok 33 6 2 rfl rfl rfl rfl ?_
    refine AZ.frzc tok 33 7 3 rfl rfl rfl rfl ?_
    refine AZ.to [5, 33] [(5, .pt 33 0), (33, .bx (FinC l kn (drvB l) us (GrpsD gs)))] rfl ?_
    refine AZ.seq ?_
    refine AZ.reg (fun B1 F1 w1 => ?_)
    refine AOps.frzp 5 33 rfl rfl ?_
    refine AOps.run tok 3 _ _ _ _ rfl ?_
    refine AOps.nil ⟨rfl, ?_⟩
    have hF := hI.f
    rw [fgo_end hno.symm] at hF
    rw [← hF]
    exact AZ.ret rfl
  have hbnd := nxtG_in hL hno.symm
  obtain ⟨hln1, hln2⟩ := nxtG_len hno.symm
  have hlt := fgo_step hL (s := ⟨kn, us, gs⟩) hkl hno.symm
  have hlt : cF (setTs kn g.bs) < cF kn := hlt
  show AZ _ _ _ _ _ _ _ [bRow V1 kn, bRow V2 (drvB l), bRow V3 us, gRow V7 gs, iRow Vb g.bs, iRow Vj g.js] [(5, .pt 33 0), (8, .bx [dI g.kind, .v Vb, .v Vj, dI g.dr]), (9, .d (dB true)), (33, .bx (FinV l V1 V2 V3 V7))]
  refine AZ.reg (fun B1 F1 w1 => ?_)
  refine AOps.run tok 1 _ _ _ _ rfl ?_
  refine AOps.nil ⟨rfl, ?_⟩
  refine AZ.condT rfl ?_
  refine AZ.skip ?_
  refine AZ.frzc tok 8 1 4 rfl rfl rfl rfl ?_
  refine AZ.frzc tok 8 2 5 rfl rfl rfl rfl ?_
  refine AZ.dropR [bRow V1 kn, bRow V2 (drvB l), bRow V3 us, gRow V7 gs] (fun i r hr => .inl (by
    have hi : i < 4 := (List.getElem?_eq_some_iff.1 hr).1
    rcases i with _ | _ | _ | _ | i
    · exact hr
    · exact hr
    · exact hr
    · exact hr
    · omega)) ?_
  refine AZ.to [5, 8, 33] [(5, .pt 33 0), (8, .bx [dI g.kind, IsDG g.bs, IsDG g.js, dI g.dr]), (33, .bx (FinV l V1 V2 V3 V7))] rfl ?_
  refine AZ.seq ?_
  refine AZ.block ?_
  refine AZ.seq ?_
  refine AZ.seq ?_
  refine AZ.reg (fun B1 F1 w1 => ?_)
  refine AOps.run tok 3 _ _ _ _ rfl ?_
  rw [List.length_map]
  refine AOps.run tok 1 _ _ _ _ rfl ?_
  refine AOps.nil ⟨rfl, ?_⟩
  refine AZ.block ?_
  refine AZ.loopS [5, 8, 33, 66, 67, 68] (fun i : Nat => ([bRow V1 (setTs kn (g.bs.take i)), bRow V2 (drvB l), bRow V3 us, gRow V7 gs], [(5, .pt 33 0), (8, .bx [dI g.kind, IsDG g.bs, IsDG g.js, dI g.dr]), (33, .bx (FinV l V1 V2 V3 V7)), (66, .d (IsDG g.bs)), (67, .d (dI g.bs.length)), (68, .d (dI i))])) (fun i => i ≤ g.bs.length) (fun i => g.bs.length - i) 0 rfl (Nat.zero_le _) (fun i hi => ?_)
  refine AZ.seq ?_
  refine AZ.reg (fun B1 F1 w1 => ?_)
  refine AOps.run tok 1 _ _ _ _ rfl ?_
  refine AOps.nil ⟨rfl, ?_⟩
  refine AZ.seq ?_
  refine AZ.cond rfl (fun h => ?_) (fun h => ?_)
  · have hin : i < g.bs.length := by have := of_decide_eq_true h; omega
    have hbi := hbnd.1 _ (getMem hin)
    have hts := setTs_take (l := kn) hin
    refine AZ.skip ?_
    refine AZ.seq ?_
    refine AZ.block ?_
    refine AZ.seq ?_
    refine AZ.reg (fun B1 F1 w1 => ?_)
    refine AOps.idx tok (dI (g.bs.getD i 0)) rfl rfl rfl rfl (Int.natCast_nonneg i) (getIs hin) ?_
    refine AOps.run tok 2 _ _ _ _ rfl ?_
    refine AOps.nil ⟨rfl, ?_⟩
    refine AZ.region ?_
    refine AZOps.cut 5 rfl (fun B1 F1 w1 => ?_)
    refine AOps.run tok 1 _ _ _ _ rfl ?_
    refine AOps.nchk tok rfl rfl rfl rfl rfl ?_
    refine AOps.run tok 3 _ _ _ _ rfl ?_
    refine AOps.nil ⟨rfl, ?_⟩
    refine AZOps.adopt 75 0 rfl rfl rfl ?_
    refine AZOps.cut 2 rfl (fun B1 F1 w1 => ?_)
    refine AOps.idxo tok rfl rfl rfl rfl hbi.1 (by rw [List.length_map, setTs_length]; omega) ?_
    refine AOps.storeT tok rfl rfl rfl (by rw [setTs_length]; omega) ?_
    refine AOps.nil ⟨rfl, ?_⟩
    refine AZOps.back 75 0 rfl rfl rfl (List.Mem.head _) rfl ?_
    refine AZOps.nil ?_
    refine AZ.reg (fun B1 F1 w1 => ?_)
    refine AOps.run tok 1 _ _ _ _ rfl ?_
    rw [wI64 (x := (i : Int) + 1) (by omega) (by omega)]
    refine AOps.run tok 1 _ _ _ _ rfl ?_
    refine AOps.nil ⟨rfl, ?_⟩
    exact ⟨i + 1, by rw [← hts]; rfl, hin, by omega⟩
  have hid : i = g.bs.length := by have := of_decide_eq_false h; omega
  subst hid
  refine AZ.exit ?_
  rw [List.take_of_length_le (Nat.le_refl _)]
  refine AZ.to [5, 8, 33] [(5, .pt 33 0), (8, .bx [dI g.kind, IsDG g.bs, IsDG g.js, dI g.dr]), (33, .bx (FinV l V1 V2 V3 V7))] rfl ?_
  refine AZ.seq ?_
  refine AZ.seq ?_
  refine AZ.reg (fun B1 F1 w1 => ?_)
  refine AOps.run tok 3 _ _ _ _ rfl ?_
  rw [List.length_map]
  refine AOps.run tok 1 _ _ _ _ rfl ?_
  refine AOps.nil ⟨rfl, ?_⟩
  refine AZ.block ?_
  refine AZ.loopS [5, 8, 33, 80, 81, 82] (fun i : Nat => ([bRow V1 (setTs kn g.bs), bRow V2 (drvB l), bRow V3 (setTs us (g.js.take i)), gRow V7 gs], [(5, .pt 33 0), (8, .bx [dI g.kind, IsDG g.bs, IsDG g.js, dI g.dr]), (33, .bx (FinV l V1 V2 V3 V7)), (80, .d (IsDG g.js)), (81, .d (dI g.js.length)), (82, .d (dI i))])) (fun i => i ≤ g.js.length) (fun i => g.js.length - i) 0 rfl (Nat.zero_le _) (fun i hi => ?_)
  refine AZ.seq ?_
  refine AZ.reg (fun B1 F1 w1 => ?_)
  refine AOps.run tok 1 _ _ _ _ rfl ?_
  refine AOps.nil ⟨rfl, ?_⟩
  refine AZ.seq ?_
  refine AZ.cond rfl (fun h => ?_) (fun h => ?_)
  · have hin : i < g.js.length := by have := of_decide_eq_true h; omega
    have hbi := hbnd.2.1 _ (getMem hin)
    have hts := setTs_take (l := us) hin
    refine AZ.skip ?_
    refine AZ.seq ?_
    refine AZ.block ?_
    refine AZ.seq ?_
    refine AZ.reg (fun B1 F1 w1 => ?_)
    refine AOps.idx tok (dI (g.js.getD i 0)) rfl rfl rfl rfl (Int.natCast_nonneg i) (getIs hin) ?_
    refine AOps.run tok 2 _ _ _ _ rfl ?_
    refine AOps.nil ⟨rfl, ?_⟩
    refine AZ.region ?_
    refine AZOps.cut 5 rfl (fun B1 F1 w1 => ?_)
    refine AOps.run tok 1 _ _ _ _ rfl ?_
    refine AOps.nchk tok rfl rfl rfl rfl rfl ?_
    refine AOps.run tok 3 _ _ _ _ rfl ?_
    refine AOps.nil ⟨rfl, ?_⟩
    refine AZOps.adopt 89 2 rfl rfl rfl ?_
    refine AZOps.cut 2 rfl (fun B1 F1 w1 => ?_)
    refine AOps.idxo tok rfl rfl rfl rfl hbi.1 (by rw [List.length_map, setTs_length]; omega) ?_
    refine AOps.storeT tok rfl rfl rfl (by rw [setTs_length]; omega) ?_
    refine AOps.nil ⟨rfl, ?_⟩
    refine AZOps.back 89 2 rfl rfl rfl (List.Mem.head _) rfl ?_
    refine AZOps.nil ?_
    refine AZ.reg (fun B1 F1 w1 => ?_)
    refine AOps.run tok 1 _ _ _ _ rfl ?_
    rw [wI64 (x := (i : Int) + 1) (by omega) (by omega)]
    refine AOps.run tok 1 _ _ _ _ rfl ?_
    refine AOps.nil ⟨rfl, ?_⟩
    exact ⟨i + 1, by rw [← hts]; rfl, hin, by omega⟩
  have hid : i = g.js.length := by have := of_decide_eq_false h; omega
  subst hid
  refine AZ.exit ?_
  rw [List.take_of_length_le (Nat.le_refl _)]
  refine AZ.to [5, 8, 33] [(5, .pt 33 0), (8, .bx [dI g.kind, IsDG g.bs, IsDG g.js, dI g.dr]), (33, .bx (FinV l V1 V2 V3 V7))] rfl ?_
  refine AZ.any hmix (ZAny.earlyM 0 (by kernel_rfl) rfl rfl (fun _ _ _ h => h) (fun _ _ h => h) (ZAny.draw 7 (by kernel_rfl) (fun B1 F1 w1 => ?_)))
  refine APre.run tok 2 _ _ _ _ rfl ?_
  refine APre.nchp tok rfl rfl rfl rfl rfl rfl ?_
  refine APre.run tok 3 _ _ _ _ rfl ?_
  refine APre.bsd tok rfl rfl rfl rfl rfl rfl ?_
  refine APre.nil ⟨rfl, ?_⟩
  refine AZOps.adopt 97 3 rfl rfl rfl ?_
  refine AZOps.cut 1 rfl (fun B1 F1 w1 => ?_)
  refine AOps.appo tok rfl rfl rfl rfl rfl rfl (by show ((gs.map Grp.D).length + 1) * 64 ≤ _; rw [List.length_map]; omega) (by show (gs.map Grp.D).length + 1 ≤ _; rw [List.length_map]; omega) ?_
  refine AOps.nil ⟨rfl, ?_⟩
  refine AZOps.loosen 100 rfl rfl rfl (fun V7' => ?_)
  refine AZOps.cut 3 rfl (fun B1 F1 w1 => ?_)
  refine AOps.nchk tok rfl rfl rfl rfl rfl ?_
  refine AOps.run tok 2 _ _ _ _ rfl ?_
  refine AOps.nil ⟨rfl, ?_⟩
  refine AZOps.nil ?_
  refine AZ.swapR 3 4 rfl rfl ?_
  refine AZ.dropR [bRow V1 (setTs kn g.bs), bRow V2 (drvB l), bRow V3 (setTs us g.js), gRow V7' (gs ++ [g])] (fun i r hr => .inl (by
    have hi : i < 4 := (List.getElem?_eq_some_iff.1 hr).1
    rcases i with _ | _ | _ | _ | i
    · exact hr
    · exact hr
    · exact hr
    · rw [show gRow V7' (gs ++ [g]) = (V7', AV.ow 29 (gs.map Grp.D ++ [g.D])) by unfold gRow; rw [List.map_append]; rfl] at hr
      exact hr
    · omega)) ?_
  refine AZ.to [5, 8, 33] [(5, .pt 33 0), (8, .bx [dI g.kind, IsDG g.bs, IsDG g.js, dI g.dr]), (33, .bx (FinV l V1 V2 V3 V7'))] rfl ?_
  refine AZ.seq ?_
  refine AZ.seq ?_
  refine AZ.reg (fun B1 F1 w1 => ?_)
  refine AOps.run tok 1 _ _ _ _ rfl ?_
  refine AOps.nil ⟨rfl, ?_⟩
  refine AZ.reg (fun B1 F1 w1 => ?_)
  refine AOps.run tok 2 _ _ _ _ rfl ?_
  refine AOps.nil ⟨rfl, ?_⟩
  refine AZ.to [5, 8, 33] [(5, .pt 33 0), (8, .bx [dI g.kind, IsDG g.bs, IsDG g.js, dI g.dr]), (33, .bx (FinV l V1 V2 V3 V7'))] rfl ?_
  have hkl' : (setTs kn g.bs).length = l.bodies.length := by rw [setTs_length]; exact hkl
  refine AZ.region ?_
  refine AZOps.cut 1 rfl (fun B1 F1 w1 => ?_)
  refine AOps.run tok 1 _ _ _ _ rfl ?_
  refine AOps.nil ⟨rfl, ?_⟩
  refine AZOps.callb tok rfl rfl rfl ⟨_, rfl⟩ rfl rfl (fin_th l V1 V2 V3 V7' (setTs kn g.bs) (drvB l) (setTs us g.js) _) rfl (hnx _ _ (.v V7') hkl') grp_back (fun res R1 hP => ?_)
  obtain ⟨k0, d0, Vb0, Vj0, rfl, hR0⟩ := grp_res (V1 := V1) (V2 := V2) (V3 := V3) (V7 := V7') (us := setTs us g.js) (gs := gs ++ [g]) hP
  refine AZOps.cut 5 rfl (fun B1 F1 w1 => ?_)
  refine AOps.run tok 5 _ _ _ _ rfl ?_
  refine AOps.nil ⟨rfl, ?_⟩
  refine AZOps.nil ?_
  have hst := FInv.step hL hI rfl V7' Vb0 Vj0
  exact ⟨_, hR0, hst.1, hst.2⟩
end Lift
/- Groups: a bool in a list; what is missing; Rest. -/
namespace Lift
open Go Go.Proofs

theorem eqTT {b : Bool} (h : (b == true) = true) : b = true := by cases b <;> simp_all
theorem eqTF {b : Bool} (h : (b == true) = false) : b = false := by cases b <;> simp_all
theorem slices_IndexB_ok (bs : List Bool) (hl : bs.length ≤ 1000) (x : Bool) : Pure Tryz.prog 41 [BsD bs, dB x] (dI (fIx (fun i => x == bs.getD i false) bs.length 0)) := by
  refine Pure.intro (n := 19) tok Tryz.func41 rfl rfl rfl (Nat.le_of_ble_eq_true rfl) (by kernel_rfl) (fun B F0 w0 => ?_)
  generalize hE : fIx (fun i => x == bs.getD i false) bs.length 0 = E
  refine AW.seq ?_
  refine AW.region ?_   -- "slices.go:96"
  refine AOps.run tok 1 _ _ _ _ rfl ?_
  refine AOps.nil ?_
  refine AW.seq ?_
  refine AW.seq ?_
  refine AW.region ?_   -- "slices.go:97"
  refine AOps.run tok 3 _ _ _ _ rfl ?_
  rw [List.length_map]
  refine AOps.nil ?_
  refine AW.block ?_   -- block 0
  refine AW.loopS [0, 1, 7, 8] (fun i : Nat => [(0, .d (BsD bs)), (1, .d (dB x)), (7, .d (dI bs.length)), (8, .d (dI i))]) (fun i => i ≤ bs.length ∧ fIx (fun i => x == bs.getD i false) (bs.length - i) i = E) (fun i => bs.length - i) 0 rfl ⟨Nat.zero_le _, hE⟩ (fun i hi => ?_)
  obtain ⟨hi, hE⟩ := hi
  · skip
    refine AW.seq ?_
    refine AW.region ?_   -- "slices.go:97"
    refine AOps.run tok 1 _ _ _ _ rfl ?_
    refine AOps.nil ?_
    refine AW.seq ?_
    refine AW.cond rfl (fun h => ?_) (fun h => ?_)
    · have hin : i < bs.length := by have := of_decide_eq_true h; omega
      have hhit := fIx_hit (g := fun i => x == bs.getD i false) hin
      have hmiss := fIx_miss (g := fun i => x == bs.getD i false) hin
      refine AW.skip ?_
      refine AW.seq ?_
      refine AW.block ?_   -- block 1
      refine AW.seq ?_
      refine AW.region ?_   -- "slices.go:97"
      refine AOps.run tok 2 _ _ _ _ rfl ?_
      refine AOps.nil ?_
      refine AW.seq ?_
      refine AW.region ?_   -- "slices.go:98"
      refine AOps.run tok 3 _ _ _ _ rfl ?_
      refine AOps.idx tok (dB (bs.getD i false)) rfl rfl rfl rfl (Int.natCast_nonneg i) (getBs hin) ?_
      refine AOps.run tok 1 _ _ _ _ rfl ?_
      refine AOps.be tok rfl rfl rfl rfl ?_
      refine AOps.nil ?_
      refine AW.cond rfl (fun h => ?_) (fun h => ?_)
      · rw [← hE, hhit (eqTT h)]
        refine AW.seq ?_
        refine AW.region ?_   -- "slices.go:99"
        refine AOps.run tok 2 _ _ _ _ rfl ?_
        refine AOps.nil ?_
        exact AW.ret rfl
      · skip
        refine AW.skip ?_
        refine AW.region ?_   -- "slices.go:97"
        refine AOps.run tok 1 _ _ _ _ rfl ?_
        rw [wI64 (x := (i : Int) + 1) (by omega) (by omega)]
        refine AOps.run tok 1 _ _ _ _ rfl ?_
        refine AOps.nil ?_
        exact ⟨i + 1, rfl, ⟨hin, by rw [← hmiss (eqTF h)]; exact hE⟩, by omega⟩
    have hin : ¬ i < bs.length := by have := of_decide_eq_false h; omega
    rw [← hE, fIx_end hin]
    refine AW.exit ?_
      -- exit 0
    -- END OF BODY; what follows the loop (from its exit):
    refine AW.seq ?_
    refine AW.region ?_   -- "slices.go:102"
    refine AOps.run tok 1 _ _ _ _ rfl ?_
    refine AOps.nil ?_
    exact AW.ret rfl
/-- Whether one of them is false. -/
def anyN (bs : List Bool) : Bool := decide (0 ≤ fIx (fun i => false == bs.getD i false) bs.length 0)
theorem slices_ContainsB_ok (bs : List Bool) (hl : bs.length ≤ 1000) : Pure Tryz.prog 26 [BsD bs, dB false] (dB (anyN bs)) := by
  refine Pure.intro (n := 9) tok Tryz.func26 rfl rfl rfl (Nat.le_of_ble_eq_true rfl) (by kernel_rfl) (fun B F0 w0 => ?_)
  refine AW.seq ?_
  refine AW.region ?_   -- "slices.go:117"
  refine AOps.run tok 1 _ _ _ _ rfl ?_
  refine AOps.nil ?_
  refine AW.seq ?_
  refine AW.region ?_   -- "slices.go:118"
  refine AOps.run tok 2 _ _ _ _ rfl ?_
  refine AOps.call tok rfl rfl rfl rfl (slices_IndexB_ok bs hl false) ?_
  refine AOps.run tok 2 _ _ _ _ rfl ?_
  refine AOps.nil ?_
  exact AW.ret rfl
/-- The places below i that are false. -/
def misP (l : List Bool) : Nat → List Int
  | 0 => []
  | i + 1 => misP l i ++ (if l.getD i false = true then [] else [(i : Int)])
def misF (l : List Bool) : List Int := misP l l.length
theorem misP_len (l : List Bool) : ∀ i, (misP l i).length ≤ i
  | 0 => Nat.le_refl _
  | i + 1 => by
    have := misP_len l i
    rw [misP, List.length_append]
    split
    · simp; omega
    · simp; omega
theorem groups_missing_ok (bs : List Bool) (hl : bs.length ≤ 1000) : Pure Tryz.prog 27 [BsD bs] (IsDG (misF bs)) := by
  refine Pure.intro (n := 21) tok Tryz.func27 rfl rfl rfl (Nat.le_of_ble_eq_true rfl) (by kernel_rfl) (fun B F0 w0 => ?_)
  refine AW.seq ?_
  refine AW.region ?_   -- "groups.go:140"
  refine AOps.run tok 1 _ _ _ _ rfl ?_
  refine AOps.nil ?_
  refine AW.seq ?_
  refine AW.region ?_   -- "groups.go:141"
  refine AOps.run tok 1 _ _ _ _ rfl ?_
  refine AOps.nil ?_
  refine AW.seq ?_
  refine AW.seq ?_
  refine AW.region ?_   -- "groups.go:142"
  refine AOps.run tok 3 _ _ _ _ rfl ?_
  rw [List.length_map]
  refine AOps.nil ?_
  refine AW.block ?_   -- block 0
  refine AW.loopS [3, 6, 7, 8] (fun i : Nat => [(3, .ow 3 (IsL (misP bs i))), (6, .d (BsD bs)), (7, .d (dI bs.length)), (8, .d (dI i))]) (fun i => i ≤ bs.length) (fun i => bs.length - i) 0 rfl (Nat.zero_le _) (fun i hi => ?_)
  · skip
    refine AW.seq ?_
    refine AW.region ?_   -- "groups.go:142"
    refine AOps.run tok 1 _ _ _ _ rfl ?_
    refine AOps.nil ?_
    refine AW.seq ?_
    refine AW.cond rfl (fun h => ?_) (fun h => ?_)
    · have hin : i < bs.length := by have := of_decide_eq_true h; omega
      have hln := misP_len bs i
      have hst : misP bs (i + 1) = misP bs i ++ (if bs.getD i false = true then [] else [(i : Int)]) := rfl
      refine AW.skip ?_
      refine AW.seq ?_
      refine AW.block ?_   -- block 1
      refine AW.seq ?_
      refine AW.region ?_   -- "groups.go:142"
      refine AOps.run tok 1 _ _ _ _ rfl ?_
      refine AOps.idx tok (dB (bs.getD i false)) rfl rfl rfl rfl (Int.natCast_nonneg i) (getBs hin) ?_
      refine AOps.run tok 3 _ _ _ _ rfl ?_
      refine AOps.nil ?_
      refine AW.seq ?_
      refine AW.region ?_   -- "groups.go:143"
      refine AOps.run tok 2 _ _ _ _ rfl ?_
      refine AOps.nil ?_
      refine AW.cond rfl (fun h => ?_) (fun h => ?_)
      · rw [if_neg (by rw [notT h]; simp)] at hst
        refine AW.region ?_   -- "groups.go:144"
        refine AOps.run tok 2 _ _ _ _ rfl ?_
        refine AOps.bs tok rfl rfl rfl rfl ?_
        refine AOps.appo tok rfl rfl rfl rfl rfl rfl (by show ((IsL (misP bs i)).length + 1) * 8 ≤ _; rw [List.length_map]; omega) (by show (IsL (misP bs i)).length + 1 ≤ _; rw [List.length_map]; omega) ?_
        refine AOps.run tok 1 _ _ _ _ rfl ?_
        refine AOps.nil ?_
        refine AW.region ?_   -- "groups.go:142"
        refine AOps.run tok 1 _ _ _ _ rfl ?_
        rw [wI64 (x := (i : Int) + 1) (by omega) (by omega)]
        refine AOps.run tok 1 _ _ _ _ rfl ?_
        refine AOps.nil ?_
        exact ⟨i + 1, by rw [show IsL (misP bs (i + 1)) = IsL (misP bs i) ++ [dI i] by rw [hst]; simp [IsL]]; rfl, hin, by omega⟩
      · have hbi : bs.getD i false = true := by
          cases hv : bs.getD i false
          · rw [hv] at h; cases h
          · rfl
        rw [if_pos hbi, List.append_nil] at hst
        refine AW.skip ?_
        refine AW.region ?_   -- "groups.go:142"
        refine AOps.run tok 1 _ _ _ _ rfl ?_
        rw [wI64 (x := (i : Int) + 1) (by omega) (by omega)]
        refine AOps.run tok 1 _ _ _ _ rfl ?_
        refine AOps.nil ?_
        exact ⟨i + 1, by rw [hst]; rfl, hin, by omega⟩
    have hid : i = bs.length := by have := of_decide_eq_false h; omega
    subst hid
    refine AW.exit ?_
      -- exit 0
    -- END OF BODY; what follows the loop (from its exit):
    refine AW.seq ?_
    refine AW.region ?_   -- "groups.go:147"
    refine AOps.run tok 2 _ _ _ _ rfl ?_
    refine AOps.nil ?_
    exact AW.ret rfl
theorem fgo_len {l : Lkg} {dr : List Bool} : ∀ (m : Nat) (s : FSt), (fgo l dr m s).kn.length = s.kn.length ∧ (fgo l dr m s).us.length = s.us.length
  | 0, s => ⟨rfl, rfl⟩
  | m + 1, s => by
    unfold fgo
    split
    · have := fgo_len (l := l) (dr := dr) m ⟨setTs s.kn (by assumption : Grp).bs, setTs s.us (by assumption : Grp).js, s.gs ++ [(by assumption : Grp)]⟩
      rw [this.1, this.2]
      exact ⟨setTs_length _ _, setTs_length _ _⟩
    · exact ⟨rfl, rfl⟩
theorem findF_len (l : Lkg) : (findF l).kn.length = l.bodies.length ∧ (findF l).us.length = l.joints.length := by
  have := fgo_len (l := l) (dr := drvB l) l.bodies.length ⟨(List.replicate l.bodies.length false).set 0 true, List.replicate l.joints.length false, []⟩
  unfold findF
  rw [this.1, this.2]
  simp
def restD (l : Lkg) : D := if chk l = 0 then .tu [IsDG (misF (findF l).kn), IsDG (misF (findF l).us), nilE] else .tu [.sl 1 [], .sl 1 [], erV (chk l)]
theorem groups_Rest_ok (l : Lkg) {K : Nat} (hl : l.ok K) (hK : K ≤ 20000000) : Pure Tryz.prog 13 [l.D] (restD l) := by
  refine Pure.intro (n := 25) tok Tryz.func13 rfl rfl rfl (Nat.le_of_ble_eq_true rfl) (by kernel_rfl) (fun B F0 w0 => ?_)
  have c := groups_find_ok l hl hK
  have hin := fun h => chk_in (l := l) h
  unfold findD at c
  unfold restD
  have hfl := findF_len l
  generalize findF l = s at c hfl ⊢
  generalize chk l = E at c hin ⊢
  rcases E with _ | m
  rotate_left
  · rw [if_neg (Nat.succ_ne_zero m)] at c ⊢
    refine AW.seq ?_
    refine AW.region ?_
    refine AOps.run tok 4 _ _ _ _ rfl ?_
    refine AOps.nil ?_
    refine AW.seq ?_
    refine AW.region ?_
    refine AOps.run tok 1 _ _ _ _ rfl ?_
    refine AOps.call tok rfl rfl rfl rfl c ?_
    refine AOps.run tok 5 _ _ _ _ rfl ?_
    refine AOps.nil ?_
    refine AW.seq ?_
    refine AW.seq ?_
    refine AW.region ?_
    refine AOps.run tok 1 _ _ _ _ rfl ?_
    refine AOps.err tok rfl rfl rfl rfl rfl ?_
    refine AOps.nil ?_
    refine AW.condT rfl ?_
    refine AW.seq ?_
    refine AW.region ?_
    refine AOps.run tok 4 _ _ _ _ rfl ?_
    refine AOps.nil ?_
    exact AW.ret rfl
  rw [if_pos rfl] at c ⊢
  obtain ⟨_, hb8, hj16, _⟩ := hin rfl
  refine AW.seq ?_
  refine AW.region ?_
  refine AOps.run tok 4 _ _ _ _ rfl ?_
  refine AOps.nil ?_
  refine AW.seq ?_
  refine AW.region ?_
  refine AOps.run tok 1 _ _ _ _ rfl ?_
  refine AOps.call tok rfl rfl rfl rfl c ?_
  refine AOps.run tok 5 _ _ _ _ rfl ?_
  refine AOps.nil ?_
  refine AW.seq ?_
  refine AW.seq ?_
  refine AW.region ?_
  refine AOps.run tok 1 _ _ _ _ rfl ?_
  refine AOps.err tok rfl rfl rfl rfl rfl ?_
  refine AOps.nil ?_
  refine AW.condF rfl ?_
  refine AW.skip ?_
  refine AW.seq ?_
  refine AW.draw hmix 10 (by kernel_rfl) ?_
  refine APre.run tok 1 _ _ _ _ rfl ?_
  refine APre.nchk tok rfl rfl rfl rfl rfl ?_
  refine APre.run tok 2 _ _ _ _ rfl ?_
  refine APre.call tok rfl rfl rfl rfl rfl (groups_missing_ok s.kn (by omega)) ?_
  refine APre.run tok 1 _ _ _ _ rfl ?_
  refine APre.nchk tok rfl rfl rfl rfl rfl ?_
  refine APre.run tok 2 _ _ _ _ rfl ?_
  refine APre.call tok rfl rfl rfl rfl rfl (groups_missing_ok s.us (by omega)) ?_
  refine APre.nil ?_
  refine AOps.run tok 3 _ _ _ _ rfl ?_
  refine AOps.nil ?_
  exact AW.ret rfl
end Lift
/- Groups: Split and Order. -/
namespace Lift
open Go Go.Proofs

def splitD (l : Lkg) : D := if chk l = 0 then (if (anyN (findF l).kn || anyN (findF l).us) = true then .tu [.sl 4 [], er 7] else .tu [GrpsD (findF l).gs, nilE]) else .tu [.sl 4 [], erV (chk l)]
theorem groups_Split_ok (l : Lkg) {K : Nat} (hl : l.ok K) (hK : K ≤ 20000000) : Pure Tryz.prog 12 [l.D] (splitD l) := by
  refine Pure.intro (n := 31) tok Tryz.func12 rfl rfl rfl (Nat.le_of_ble_eq_true rfl) (by kernel_rfl) (fun B F0 w0 => ?_)
  have c := groups_find_ok l hl hK
  have hin := fun h => chk_in (l := l) h
  unfold findD at c
  unfold splitD
  have hfl := findF_len l
  generalize findF l = s at c hfl ⊢
  generalize chk l = E at c hin ⊢
  rcases E with _ | m
  rotate_left
  · rw [if_neg (Nat.succ_ne_zero m)] at c ⊢
    refine AW.seq ?_
    refine AW.region ?_
    refine AOps.run tok 3 _ _ _ _ rfl ?_
    refine AOps.nil ?_
    refine AW.seq ?_
    refine AW.region ?_
    refine AOps.run tok 1 _ _ _ _ rfl ?_
    refine AOps.call tok rfl rfl rfl rfl c ?_
    refine AOps.run tok 5 _ _ _ _ rfl ?_
    refine AOps.nil ?_
    refine AW.seq ?_
    refine AW.seq ?_
    refine AW.region ?_
    refine AOps.run tok 1 _ _ _ _ rfl ?_
    refine AOps.err tok rfl rfl rfl rfl rfl ?_
    refine AOps.nil ?_
    refine AW.condT rfl ?_
    refine AW.seq ?_
    refine AW.region ?_
    refine AOps.run tok 3 _ _ _ _ rfl ?_
    refine AOps.nil ?_
    exact AW.ret rfl
  rw [if_pos rfl] at c ⊢
  obtain ⟨_, hb8, hj16, _⟩ := hin rfl
  have c1 := slices_ContainsB_ok s.kn (by omega)
  have c2 := slices_ContainsB_ok s.us (by omega)
  generalize anyN s.kn = b1 at c1 ⊢
  generalize anyN s.us = b2 at c2 ⊢
  refine AW.seq ?_
  refine AW.region ?_
  refine AOps.run tok 3 _ _ _ _ rfl ?_
  refine AOps.nil ?_
  refine AW.seq ?_
  refine AW.region ?_
  refine AOps.run tok 1 _ _ _ _ rfl ?_
  refine AOps.call tok rfl rfl rfl rfl c ?_
  refine AOps.run tok 5 _ _ _ _ rfl ?_
  refine AOps.nil ?_
  refine AW.seq ?_
  refine AW.seq ?_
  refine AW.region ?_
  refine AOps.run tok 1 _ _ _ _ rfl ?_
  refine AOps.err tok rfl rfl rfl rfl rfl ?_
  refine AOps.nil ?_
  refine AW.condF rfl ?_
  refine AW.skip ?_
  refine AW.seq ?_
  refine AW.seq ?_
  refine AW.region ?_
  refine AOps.run tok 1 _ _ _ _ rfl ?_
  refine AOps.nchk tok rfl rfl rfl rfl rfl ?_
  refine AOps.run tok 2 _ _ _ _ rfl ?_
  refine AOps.call tok rfl rfl rfl rfl c1 ?_
  refine AOps.run tok 1 _ _ _ _ rfl ?_
  cases b1
  rotate_left
  · refine AOps.run tok 6 _ _ _ _ rfl ?_
    refine AOps.nil ?_
    refine AW.condT rfl ?_
    refine AW.seq ?_
    refine AW.region ?_
    refine AOps.run tok 3 _ _ _ _ rfl ?_
    refine AOps.nil ?_
    exact AW.ret rfl
  refine AOps.run tok 1 _ _ _ _ rfl ?_
  refine AOps.nchk tok rfl rfl rfl rfl rfl ?_
  refine AOps.run tok 2 _ _ _ _ rfl ?_
  refine AOps.call tok rfl rfl rfl rfl c2 ?_
  refine AOps.run tok 1 _ _ _ _ rfl ?_
  refine AOps.nil ?_
  cases b2
  rotate_left
  · refine AW.condT rfl ?_
    refine AW.seq ?_
    refine AW.region ?_
    refine AOps.run tok 3 _ _ _ _ rfl ?_
    refine AOps.nil ?_
    exact AW.ret rfl
  refine AW.condF rfl ?_
  refine AW.skip ?_
  refine AW.seq ?_
  refine AW.region ?_
  refine AOps.run tok 1 _ _ _ _ rfl ?_
  refine AOps.nchk tok rfl rfl rfl rfl rfl ?_
  refine AOps.run tok 4 _ _ _ _ rfl ?_
  refine AOps.nil ?_
  exact AW.ret rfl
theorem fgo_gs {l : Lkg} {dr : List Bool} : ∀ (m : Nat) (s : FSt), (∀ g, g ∈ s.gs → g.bs.length ≤ 2 ∧ g.js.length ≤ 3) → (∀ g, g ∈ (fgo l dr m s).gs → g.bs.length ≤ 2 ∧ g.js.length ≤ 3) ∧ (fgo l dr m s).gs.length ≤ s.gs.length + m
  | 0, s, h => ⟨h, Nat.le_refl _⟩
  | m + 1, s, h => by
    cases hn : nxtG l s.kn dr with
    | none => rw [fgo_end hn]; exact ⟨h, by omega⟩
    | some g0 =>
      have e : fgo l dr (m + 1) s = fgo l dr m ⟨setTs s.kn g0.bs, setTs s.us g0.js, s.gs ++ [g0]⟩ := by rw [fgo]; simp only [hn]
      rw [e]
      have := fgo_gs (l := l) (dr := dr) m ⟨setTs s.kn g0.bs, setTs s.us g0.js, s.gs ++ [g0]⟩ (fun g hg => by
        rcases List.mem_append.1 hg with hg | hg
        · exact h g hg
        · cases List.mem_singleton.1 hg
          exact nxtG_len hn)
      refine ⟨this.1, ?_⟩
      have h2 := this.2
      simp only [List.length_append, List.length_singleton] at h2
      omega
theorem findF_gs (l : Lkg) : (∀ g, g ∈ (findF l).gs → g.bs.length ≤ 2 ∧ g.js.length ≤ 3) ∧ (findF l).gs.length ≤ l.bodies.length := by
  have := fgo_gs (l := l) (dr := drvB l) l.bodies.length ⟨(List.replicate l.bodies.length false).set 0 true, List.replicate l.joints.length false, []⟩ (fun g hg => by cases hg)
  refine ⟨this.1, ?_⟩
  have h2 := this.2
  simp only [List.length_nil] at h2
  unfold findF
  omega
def ordP (gs : List Grp) : Nat → List Int
  | 0 => [0]
  | i + 1 => ordP gs i ++ (gs.getD i default).bs
theorem ordP_len {gs : List Grp} (h : ∀ g, g ∈ gs → g.bs.length ≤ 2) : ∀ i, i ≤ gs.length → (ordP gs i).length ≤ 1 + 2 * i
  | 0, _ => Nat.le_refl _
  | i + 1, hi => by
    have := ordP_len h i (by omega)
    have hm : (gs.getD i default).bs.length ≤ 2 := h _ (by
      rw [List.getD_eq_getElem?_getD, List.getElem?_eq_getElem (by omega)]
      exact List.getElem_mem _)
    rw [ordP, List.length_append]
    omega
def orderD (l : Lkg) : D := if chk l = 0 then (if (anyN (findF l).kn || anyN (findF l).us) = true then .tu [.sl 1 [], er 7] else .tu [IsDG (ordP (findF l).gs (findF l).gs.length), nilE]) else .tu [.sl 1 [], erV (chk l)]
theorem getG {gs : List Grp} {i : Nat} (h : i < gs.length) : (gs.map Grp.D)[i]? = some (gs.getD i default).D := by simp [h]
theorem groups_Order_ok (l : Lkg) {K : Nat} (hl : l.ok K) (hK : K ≤ 20000000) : Pure Tryz.prog 14 [l.D] (orderD l) := by
  refine Pure.intro (n := 30) tok Tryz.func14 rfl rfl rfl (Nat.le_of_ble_eq_true rfl) (by kernel_rfl) (fun B F0 w0 => ?_)
  have c := groups_Split_ok l hl hK
  have hin := fun h => chk_in (l := l) h
  unfold splitD at c
  unfold orderD
  obtain ⟨hg1, hg2⟩ := findF_gs l
  generalize findF l = s at c hg1 hg2 ⊢
  generalize chk l = E at c hin ⊢
  generalize (anyN s.kn || anyN s.us) = b at c ⊢
  obtain ⟨e, he⟩ : ∃ e, e = (if E = 0 then (if b = true then 7 else 0) else E) := ⟨_, rfl⟩
  have hc : (if E = 0 then (if b = true then D.tu [.sl 4 [], er 7] else .tu [GrpsD s.gs, nilE]) else .tu [.sl 4 [], erV E]) = if e = 0 then .tu [GrpsD s.gs, nilE] else .tu [.sl 4 [], erV e] := by
    subst he
    cases E <;> cases b <;> rfl
  have hr : (if E = 0 then (if b = true then D.tu [.sl 1 [], er 7] else .tu [IsDG (ordP s.gs s.gs.length), nilE]) else .tu [.sl 1 [], erV E]) = if e = 0 then .tu [IsDG (ordP s.gs s.gs.length), nilE] else .tu [.sl 1 [], erV e] := by
    subst he
    cases E <;> cases b <;> rfl
  have hE : e = 0 → E = 0 := fun h => by
    subst he
    split at h
    · assumption
    · exact h
  rw [hc] at c
  rw [hr]
  clear he hc hr
  rcases e with _ | m
  rotate_left
  · rw [if_neg (Nat.succ_ne_zero m)] at c ⊢
    refine AW.seq ?_
    refine AW.region ?_
    refine AOps.run tok 3 _ _ _ _ rfl ?_
    refine AOps.nil ?_
    refine AW.seq ?_
    refine AW.region ?_
    refine AOps.run tok 1 _ _ _ _ rfl ?_
    refine AOps.call tok rfl rfl rfl rfl c ?_
    refine AOps.run tok 5 _ _ _ _ rfl ?_
    refine AOps.nil ?_
    refine AW.seq ?_
    refine AW.seq ?_
    refine AW.region ?_
    refine AOps.run tok 1 _ _ _ _ rfl ?_
    refine AOps.err tok rfl rfl rfl rfl rfl ?_
    refine AOps.nil ?_
    refine AW.condT rfl ?_
    refine AW.seq ?_
    refine AW.region ?_
    refine AOps.run tok 3 _ _ _ _ rfl ?_
    refine AOps.nil ?_
    exact AW.ret rfl
  rw [if_pos rfl] at c ⊢
  obtain ⟨_, hb8, hj16, _⟩ := hin (hE rfl)
  refine AW.seq ?_
  refine AW.region ?_
  refine AOps.run tok 3 _ _ _ _ rfl ?_
  refine AOps.nil ?_
  refine AW.seq ?_
  refine AW.region ?_
  refine AOps.run tok 1 _ _ _ _ rfl ?_
  refine AOps.call tok rfl rfl rfl rfl c ?_
  refine AOps.run tok 5 _ _ _ _ rfl ?_
  refine AOps.nil ?_
  refine AW.seq ?_
  refine AW.seq ?_
  refine AW.region ?_
  refine AOps.run tok 1 _ _ _ _ rfl ?_
  refine AOps.err tok rfl rfl rfl rfl rfl ?_
  refine AOps.nil ?_
  refine AW.condF rfl ?_
  refine AW.skip ?_
  refine AW.seq ?_
  refine AW.region ?_
  refine AOps.bs tok rfl rfl rfl rfl ?_
  refine AOps.run tok 1 _ _ _ _ rfl ?_
  refine AOps.nil ?_
  refine AW.seq ?_
  refine AW.seq ?_
  refine AW.region ?_
  refine AOps.run tok 2 _ _ _ _ rfl ?_
  rw [List.length_map]
  refine AOps.run tok 1 _ _ _ _ rfl ?_
  refine AOps.nil ?_
  refine AW.block ?_
  refine AW.loopS [6, 18, 19, 20] (fun i : Nat => [(6, .ow 3 (IsL (ordP s.gs i))), (18, .d (GrpsD s.gs)), (19, .d (dI s.gs.length)), (20, .d (dI i))]) (fun i => i ≤ s.gs.length) (fun i => s.gs.length - i) 0 rfl (Nat.zero_le _) (fun i hi => ?_)
  refine AW.seq ?_
  refine AW.region ?_
  refine AOps.run tok 1 _ _ _ _ rfl ?_
  refine AOps.nil ?_
  refine AW.seq ?_
  refine AW.cond rfl (fun h => ?_) (fun h => ?_)
  · have hi1 : i < s.gs.length := by have := of_decide_eq_true h; omega
    have hln := ordP_len (fun g hg => (hg1 g hg).1) i hi
    have hgb : (s.gs.getD i default).bs.length ≤ 2 := (hg1 _ (by
      rw [List.getD_eq_getElem?_getD, List.getElem?_eq_getElem hi1]
      exact List.getElem_mem _)).1
    have hgt := getG hi1
    have hst : ordP s.gs (i + 1) = ordP s.gs i ++ (s.gs.getD i default).bs := rfl
    generalize s.gs.getD i default = g at hgb hgt hst
    refine AW.skip ?_
    refine AW.seq ?_
    refine AW.block ?_
    refine AW.seq ?_
    refine AW.region ?_
    refine AOps.idx tok g.D rfl rfl rfl rfl (Int.natCast_nonneg i) hgt ?_
    refine AOps.run tok 3 _ _ _ _ rfl ?_
    refine AOps.nil ?_
    refine AW.region ?_
    refine AOps.run tok 3 _ _ _ _ rfl ?_
    refine AOps.appo tok rfl rfl rfl rfl rfl rfl (by show ((IsL (ordP s.gs i)).length + (IsL g.bs).length) * 8 ≤ _; rw [List.length_map, List.length_map]; omega) (by show (IsL (ordP s.gs i)).length + (IsL g.bs).length ≤ _; rw [List.length_map, List.length_map]; omega) ?_
    refine AOps.run tok 1 _ _ _ _ rfl ?_
    refine AOps.nil ?_
    refine AW.region ?_
    refine AOps.run tok 1 _ _ _ _ rfl ?_
    rw [wI64 (x := (i : Int) + 1) (by omega) (by omega)]
    refine AOps.run tok 1 _ _ _ _ rfl ?_
    refine AOps.nil ?_
    exact ⟨i + 1, by rw [show IsL (ordP s.gs (i + 1)) = IsL (ordP s.gs i) ++ IsL g.bs by rw [hst]; simp [IsL]]; rfl, hi1, by omega⟩
  have hid : i = s.gs.length := by have := of_decide_eq_false h; omega
  subst hid
  refine AW.exit ?_
  refine AW.seq ?_
  refine AW.region ?_
  refine AOps.run tok 3 _ _ _ _ rfl ?_
  refine AOps.nil ?_
  exact AW.ret rfl
end Lift
/- Groups: sums over what is marked; what the least joint is. -/
namespace Lift
open Go Go.Proofs

/-- The sum of f over the places that are true. -/
def wS (f : Nat → Nat) : List Bool → Nat → Nat
  | [], _ => 0
  | b :: l, i => (if b = true then f i else 0) + wS f l (i + 1)
theorem wS_set (f : Nat → Nat) : ∀ (l : List Bool) (k i : Nat), k < l.length → l.getD k false = false → wS f (l.set k true) i = wS f l i + f (i + k)
  | [], k, i, h, _ => by simp at h
  | b :: l, 0, i, _, h => by
    have hb : b = false := by simpa using h
    subst hb
    simp [wS]
    omega
  | b :: l, k + 1, i, h, h2 => by
    have := wS_set f l k (i + 1) (by simpa using h) (by simpa using h2)
    simp only [List.set_cons_succ, wS]
    rw [this, show i + 1 + k = i + (k + 1) by omega]
    omega
theorem wS_rep (f : Nat → Nat) : ∀ (n i : Nat), wS f (List.replicate n false) i = 0
  | 0, _ => rfl
  | n + 1, i => by
    show (if false = true then f i else 0) + wS f (List.replicate n false) (i + 1) = 0
    rw [wS_rep f n (i + 1)]
    rfl
/-- The least joint of a kind of a body with a body that passes. -/
theorem jtF_spec {kind b : Int} {q : Nat → Bool} {js : List Joint} (h : 0 ≤ jtF kind b q js) : gjP kind b q (js.getD (jtF kind b q js).toNat default) = true :=
  (fIx_lt (show 0 ≤ fIx (fun i => gjP kind b q (js.getD i default)) js.length 0 from h)).2.2
theorem gjP_spec {kind b : Int} {q : Nat → Bool} {j : Joint} (h : gjP kind b q j = true) : j.kind = kind ∧ 0 ≤ othF j b ∧ q (othF j b).toNat = true := by
  unfold gjP at h
  simp only [Bool.and_eq_true, decide_eq_true_eq] at h
  obtain ⟨h1, h2, h3⟩ := h
  exact ⟨h1, h2, h3⟩
/-- A joint that has another body has this one. -/
theorem othF_mem {j : Joint} {b : Int} (h : 0 ≤ othF j b) : b = j.a ∧ othF j b = j.b ∨ b = j.b ∧ othF j b = j.a := by
  unfold othF at h ⊢
  split
  · rename_i e; exact .inl ⟨e, rfl⟩
  · rename_i e
    rw [if_neg e] at h
    split
    · rename_i e2; exact .inr ⟨e2, rfl⟩
    · rename_i e2
      rw [if_neg e2] at h
      omega
end Lift
/- Groups: what each new group adds: three for each new body. -/
namespace Lift
open Go Go.Proofs

def wJ (l : Lkg) (j : Nat) : Nat := if (l.joints.getD j default).kind = 1 then 1 else 2
def fD (l : Lkg) (i : Nat) : Nat := if (drvB l).getD i false = true then 1 else 0
/-- Used joints have known bodies; what is used is three for each known body but the frame. -/
structure CInv (l : Lkg) (kn us : List Bool) : Prop where
  k : kn.length = l.bodies.length
  u : us.length = l.joints.length
  e : ∀ j, j < l.joints.length → us.getD j false = true → kn.getD (l.joints.getD j default).a.toNat false = true ∧ kn.getD (l.joints.getD j default).b.toNat false = true
  c : wS (wJ l) us 0 + wS (fD l) kn 0 + 3 = wS (fun _ => 3) kn 0
theorem getD_set_self {l : List Bool} {i : Nat} (h : i < l.length) : (l.set i true).getD i false = true := by
  rw [List.getD_eq_getElem?_getD, List.getElem?_set_self h]; rfl
theorem getD_set_ne {l : List Bool} {i j : Nat} (h : i ≠ j) : (l.set i true).getD j false = l.getD j false := by
  rw [List.getD_eq_getElem?_getD, List.getElem?_set_ne h, ← List.getD_eq_getElem?_getD]
theorem getD_set_mono {l : List Bool} {i j : Nat} (h : l.getD j false = true) : (l.set i true).getD j false = true := by
  by_cases e : i = j
  · subst e
    refine getD_set_self ?_
    rcases Nat.lt_or_ge i l.length with h1 | h1
    · exact h1
    · rw [List.getD_eq_getElem?_getD, List.getElem?_eq_none h1] at h; cases h
  · rw [getD_set_ne e]; exact h
/-- A joint of an unknown body is not used. -/
theorem CInv.unused {l : Lkg} {kn us : List Bool} (h : CInv l kn us) {j : Nat} {b : Int} (hj : j < l.joints.length) (hb : kn.getD b.toNat false = false) (ho : 0 ≤ othF (l.joints.getD j default) b) : us.getD j false = false := by
  cases hu : us.getD j false
  · rfl
  · obtain ⟨e1, e2⟩ := h.e j hj hu
    rcases othF_mem ho with ⟨rfl, _⟩ | ⟨rfl, _⟩
    · rw [hb] at e1; cases e1
    · rw [hb] at e2; cases e2
/-- One joint more is used, of a body that is known and another one that is. -/
theorem CInv.ends {l : Lkg} {j : Nat} {b : Int} {kn : List Bool} (ho : 0 ≤ othF (l.joints.getD j default) b) (hb : kn.getD b.toNat false = true) (hq : kn.getD (othF (l.joints.getD j default) b).toNat false = true) :
    kn.getD (l.joints.getD j default).a.toNat false = true ∧ kn.getD (l.joints.getD j default).b.toNat false = true := by
  rcases othF_mem ho with ⟨rfl, e⟩ | ⟨rfl, e⟩
  · rw [e] at hq; exact ⟨hb, hq⟩
  · rw [e] at hq; exact ⟨hq, hb⟩
theorem setTs_mono {is : List Int} : ∀ {l : List Bool} {j : Nat}, l.getD j false = true → (setTs l is).getD j false = true := by
  induction is with
  | nil => intro l j h; exact h
  | cons i is ih => intro l j h; exact ih (getD_set_mono h)
theorem setTs_mem {is : List Int} : ∀ {l : List Bool} {x : Int}, x ∈ is → x.toNat < l.length → (setTs l is).getD x.toNat false = true := by
  induction is with
  | nil => intro l x h; cases h
  | cons i is ih =>
    intro l x h hx
    rcases List.mem_cons.1 h with rfl | h
    · show (setTs (l.set x.toNat true) is).getD _ false = true
      exact setTs_mono (getD_set_self hx)
    · exact ih h (by rw [List.length_set]; exact hx)
theorem CInv.drv {l : Lkg} (hL : LkIn l) {kn us : List Bool} (h : CInv l kn us) {g : Grp} (hg : drvG l kn = some g) : CInv l (setTs kn g.bs) (setTs us g.js) := by
  obtain ⟨k, _, hk, h3⟩ := fstO_some hg
  unfold drvS at h3
  split at h3
  · cases h3
  rename_i hx
  split at h3
  rotate_left
  · cases h3
  rename_i ha
  have hd := hL.d k (by omega)
  have hmem : (l.drivers.getD k default).body ∈ l.drivers.map Driver.body := List.mem_map.2 ⟨_, by
    rw [List.getD_eq_getElem?_getD, List.getElem?_eq_getElem (by omega)]
    exact List.getElem_mem _, rfl⟩
  generalize (l.drivers.getD k default).body = x at *
  have hp := jtF_lt ha
  obtain ⟨q1, q2, q3⟩ := gjP_spec (jtF_spec ha)
  generalize hpe : jtF 0 x (fun o => kn.getD o false) l.joints = p at *
  have hpa : ancF l kn 0 x = p := hpe
  rw [hpa] at h3
  cases h3
  have hx : kn.getD x.toNat false = false := by
    cases hv : kn.getD x.toNat false
    · rfl
    · exact absurd hv hx
  have hu := h.unused hp hx q2
  have hxl : x.toNat < kn.length := by rw [h.k]; omega
  have hpl : p.toNat < us.length := by rw [h.u]; exact hp
  refine ⟨by rw [setTs_length]; exact h.k, by rw [setTs_length]; exact h.u, fun j hj hj2 => ?_, ?_⟩
  · show (kn.set x.toNat true).getD _ false = true ∧ (kn.set x.toNat true).getD _ false = true
    by_cases e : p.toNat = j
    · subst e
      exact CInv.ends q2 (getD_set_self hxl) (getD_set_mono q3)
    · have hj2 : (us.set p.toNat true).getD j false = true := hj2
      rw [getD_set_ne e] at hj2
      obtain ⟨e1, e2⟩ := h.e j hj hj2
      exact ⟨getD_set_mono e1, getD_set_mono e2⟩
  · show wS (wJ l) (us.set p.toNat true) 0 + wS (fD l) (kn.set x.toNat true) 0 + 3 = wS (fun _ => 3) (kn.set x.toNat true) 0
    rw [wS_set _ _ _ _ hpl hu, wS_set _ _ _ _ hxl hx, wS_set _ _ _ _ hxl hx, Nat.zero_add, Nat.zero_add]
    have e1 : wJ l p.toNat = 2 := by unfold wJ; rw [q1]; rfl
    have e2 : fD l x.toNat = 1 := by
      unfold fD drvB
      rw [setTs_mem hmem (by rw [List.length_replicate]; omega)]
      rfl
    have := h.c
    omega
theorem freF_dr {kn dr : List Bool} {i : Nat} (h : freF kn dr i = true) : dr.getD i false = false := by
  unfold freF at h
  rw [Bool.and_eq_true] at h
  exact notT h.2
theorem CInv.sng {l : Lkg} {kn us : List Bool} (h : CInv l kn us) {g : Grp} (hg : sngG l kn (drvB l) = some g) : CInv l (setTs kn g.bs) (setTs us g.js) := by
  obtain ⟨i, _, hi, h3⟩ := fstO_some hg
  unfold sngS at h3
  split at h3
  · cases h3
  rename_i hf
  have hf : freF kn (drvB l) i = true := by
    cases hv : freF kn (drvB l) i
    · exact absurd hv hf
    · rfl
  split at h3
  · cases h3
  rename_i ha
  have ha1 : 0 ≤ ancF l kn 0 i := by omega
  have ha2 : 0 ≤ ancF l kn 1 i := by omega
  have hp := jtF_lt ha1
  have hp2 := jtF_lt ha2
  obtain ⟨q1, q2, q3⟩ := gjP_spec (jtF_spec ha1)
  obtain ⟨r1, r2, r3⟩ := gjP_spec (jtF_spec ha2)
  change (ancF l kn 0 i).toNat < _ at hp
  change (ancF l kn 1 i).toNat < _ at hp2
  change (l.joints.getD (ancF l kn 0 i).toNat default).kind = 0 at q1
  change 0 ≤ othF (l.joints.getD (ancF l kn 0 i).toNat default) i at q2
  change kn.getD (othF (l.joints.getD (ancF l kn 0 i).toNat default) i).toNat false = true at q3
  change (l.joints.getD (ancF l kn 1 i).toNat default).kind = 1 at r1
  change 0 ≤ othF (l.joints.getD (ancF l kn 1 i).toNat default) i at r2
  change kn.getD (othF (l.joints.getD (ancF l kn 1 i).toNat default) i).toNat false = true at r3
  generalize ancF l kn 0 i = p at *
  generalize ancF l kn 1 i = s at *
  cases h3
  have hx : kn.getD ((i : Int)).toNat false = false := freF_no hf
  have hu := h.unused hp hx q2
  have hu2 := h.unused hp2 hx r2
  have hxl : i < kn.length := by rw [h.k]; omega
  have hpl : p.toNat < us.length := by rw [h.u]; exact hp
  have hsl : s.toNat < us.length := by rw [h.u]; exact hp2
  have hne : p.toNat ≠ s.toNat := fun e => by rw [e, r1] at q1; cases q1
  have hxl' : ((i : Int)).toNat < kn.length := hxl
  refine ⟨by rw [setTs_length]; exact h.k, by rw [setTs_length]; exact h.u, fun j hj hj2 => ?_, ?_⟩
  · show (kn.set ((i : Int)).toNat true).getD _ false = true ∧ (kn.set ((i : Int)).toNat true).getD _ false = true
    by_cases e : p.toNat = j
    · subst e
      exact CInv.ends q2 (getD_set_self hxl') (getD_set_mono q3)
    by_cases e2 : s.toNat = j
    · subst e2
      exact CInv.ends r2 (getD_set_self hxl') (getD_set_mono r3)
    · have hj2 : ((us.set p.toNat true).set s.toNat true).getD j false = true := hj2
      rw [getD_set_ne e2, getD_set_ne e] at hj2
      obtain ⟨e1, e2⟩ := h.e j hj hj2
      exact ⟨getD_set_mono e1, getD_set_mono e2⟩
  · show wS (wJ l) ((us.set p.toNat true).set s.toNat true) 0 + wS (fD l) (kn.set ((i : Int)).toNat true) 0 + 3 = wS (fun _ => 3) (kn.set ((i : Int)).toNat true) 0
    rw [wS_set _ (us.set p.toNat true) s.toNat 0 (by rw [List.length_set]; exact hsl) (by rw [getD_set_ne hne]; exact hu2), wS_set _ us p.toNat 0 hpl hu, wS_set _ _ _ _ hxl' hx, wS_set _ _ _ _ hxl' hx, Nat.zero_add, Nat.zero_add, Nat.zero_add]
    have e1 : wJ l p.toNat = 2 := by unfold wJ; rw [q1]; rfl
    have e3 : wJ l s.toNat = 1 := by unfold wJ; rw [r1]; rfl
    have e2 : fD l ((i : Int)).toNat = 0 := by
      unfold fD
      rw [show (drvB l).getD ((i : Int)).toNat false = false from freF_dr hf]
      rfl
    have := h.c
    omega
theorem prIn_lt {fr : Nat → Bool} {n : Nat} {p : Nat × Nat} : ∀ {m i : Nat}, p ∈ prOut fr n m i → p.1 < p.2
  | 0, i, h => by simp [prOut] at h
  | m + 1, i, h => by
    unfold prOut at h
    rcases List.mem_append.1 h with h | h
    · obtain ⟨h1, h2, _⟩ := prIn_mem h
      omega
    · exact prIn_lt h
theorem CInv.par {l : Lkg} {kn us : List Bool} (h : CInv l kn us) {g : Grp} (hg : parG l kn (drvB l) = some g) : CInv l (setTs kn g.bs) (setTs us g.js) := by
  obtain ⟨pr, hpr, h3⟩ := List.exists_of_findSome?_eq_some hg
  obtain ⟨hi, hj, hf, hf2⟩ := prsF_mem hpr
  have hij := prIn_lt hpr
  obtain ⟨i, k⟩ := pr
  simp only [] at hi hj hf hf2 hij h3
  unfold parS at h3
  split at h3
  rotate_left
  · cases h3
  rename_i ha
  obtain ⟨ha1, ha2, ha3⟩ := ha
  have hp := jtF_lt ha1
  have hp2 := jtF_lt ha2
  have hp3 := jtF_lt ha3
  obtain ⟨q1, q2, q3⟩ := gjP_spec (jtF_spec ha1)
  obtain ⟨r1, r2, r3⟩ := gjP_spec (jtF_spec ha2)
  obtain ⟨s1, s2, s3⟩ := gjP_spec (jtF_spec ha3)
  change (ancF l kn 0 i).toNat < _ at hp
  change (ancF l kn 0 k).toNat < _ at hp2
  change (l.joints.getD (ancF l kn 0 i).toNat default).kind = 0 at q1
  change 0 ≤ othF (l.joints.getD (ancF l kn 0 i).toNat default) i at q2
  change kn.getD (othF (l.joints.getD (ancF l kn 0 i).toNat default) i).toNat false = true at q3
  change (l.joints.getD (ancF l kn 0 k).toNat default).kind = 0 at r1
  change 0 ≤ othF (l.joints.getD (ancF l kn 0 k).toNat default) k at r2
  change kn.getD (othF (l.joints.getD (ancF l kn 0 k).toNat default) k).toNat false = true at r3
  generalize ancF l kn 0 i = p at *
  generalize ancF l kn 0 k = s at *
  generalize jtF 0 i (fun o => decide ((o : Int) = k)) l.joints = c at *
  cases h3
  have hx : kn.getD ((i : Int)).toNat false = false := freF_no hf
  have hy : kn.getD ((k : Int)).toNat false = false := freF_no hf2
  have hs3 : othF (l.joints.getD c.toNat default) i = k := by
    have := of_decide_eq_true s3
    omega
  have hxl : ((i : Int)).toNat < kn.length := by rw [h.k]; exact hi
  have hyl : ((k : Int)).toNat < kn.length := by rw [h.k]; exact hj
  have hik : ((i : Int)).toNat ≠ ((k : Int)).toNat := by omega
  have hu := h.unused hp hx q2
  have hu2 := h.unused hp2 hy r2
  have hu3 := h.unused hp3 hx s2
  -- the three joints differ
  have hpc : p.toNat ≠ c.toNat := fun e => by
    rw [e, hs3, hy] at q3; cases q3
  have hsc : s.toNat ≠ c.toNat := fun e => by
    rw [e] at r2 r3
    rcases othF_mem s2 with ⟨e1, e2⟩ | ⟨e1, e2⟩
    · rcases othF_mem r2 with ⟨f1, f2⟩ | ⟨f1, f2⟩
      · rw [← f1] at e1; omega
      · rw [f2, ← e1, hx] at r3; cases r3
    · rcases othF_mem r2 with ⟨f1, f2⟩ | ⟨f1, f2⟩
      · rw [f2, ← e1, hx] at r3; cases r3
      · rw [← f1] at e1; omega
  have hps : p.toNat ≠ s.toNat := fun e => by
    rw [e] at q2 q3
    rcases othF_mem q2 with ⟨e1, e2⟩ | ⟨e1, e2⟩
    · rcases othF_mem r2 with ⟨f1, f2⟩ | ⟨f1, f2⟩
      · rw [← f1] at e1; omega
      · rw [e2, ← f1, hy] at q3; cases q3
    · rcases othF_mem r2 with ⟨f1, f2⟩ | ⟨f1, f2⟩
      · rw [e2, ← f1, hy] at q3; cases q3
      · rw [← f1] at e1; omega
  have hpl : p.toNat < us.length := by rw [h.u]; exact hp
  have hsl : s.toNat < us.length := by rw [h.u]; exact hp2
  have hcl : c.toNat < us.length := by rw [h.u]; exact hp3
  have hky : ((kn.set ((i : Int)).toNat true).set ((k : Int)).toNat true).getD ((k : Int)).toNat false = true := getD_set_self (by rw [List.length_set]; exact hyl)
  have hkx : ((kn.set ((i : Int)).toNat true).set ((k : Int)).toNat true).getD ((i : Int)).toNat false = true := getD_set_mono (getD_set_self hxl)
  refine ⟨by rw [setTs_length]; exact h.k, by rw [setTs_length]; exact h.u, fun j hj hj2 => ?_, ?_⟩
  · show ((kn.set ((i : Int)).toNat true).set ((k : Int)).toNat true).getD _ false = true ∧ ((kn.set ((i : Int)).toNat true).set ((k : Int)).toNat true).getD _ false = true
    by_cases e : p.toNat = j
    · subst e
      exact CInv.ends q2 hkx (getD_set_mono (getD_set_mono q3))
    by_cases e2 : s.toNat = j
    · subst e2
      exact CInv.ends r2 hky (getD_set_mono (getD_set_mono r3))
    by_cases e3 : c.toNat = j
    · subst e3
      exact CInv.ends s2 hkx (by rw [hs3]; exact hky)
    · have hj2 : (((us.set p.toNat true).set s.toNat true).set c.toNat true).getD j false = true := hj2
      rw [getD_set_ne e3, getD_set_ne e2, getD_set_ne e] at hj2
      obtain ⟨e1, e2⟩ := h.e j hj hj2
      exact ⟨getD_set_mono (getD_set_mono e1), getD_set_mono (getD_set_mono e2)⟩
  · show wS (wJ l) (((us.set p.toNat true).set s.toNat true).set c.toNat true) 0 + wS (fD l) ((kn.set ((i : Int)).toNat true).set ((k : Int)).toNat true) 0 + 3 = wS (fun _ => 3) ((kn.set ((i : Int)).toNat true).set ((k : Int)).toNat true) 0
    rw [wS_set _ ((us.set p.toNat true).set s.toNat true) c.toNat 0 (by rw [List.length_set, List.length_set]; exact hcl) (by rw [getD_set_ne hsc, getD_set_ne hpc]; exact hu3),
      wS_set _ (us.set p.toNat true) s.toNat 0 (by rw [List.length_set]; exact hsl) (by rw [getD_set_ne hps]; exact hu2), wS_set _ us p.toNat 0 hpl hu,
      wS_set _ (kn.set ((i : Int)).toNat true) ((k : Int)).toNat 0 (by rw [List.length_set]; exact hyl) (by rw [getD_set_ne hik]; exact hy), wS_set _ kn _ 0 hxl hx,
      wS_set _ (kn.set ((i : Int)).toNat true) ((k : Int)).toNat 0 (by rw [List.length_set]; exact hyl) (by rw [getD_set_ne hik]; exact hy), wS_set _ kn _ 0 hxl hx]
    simp only [Nat.zero_add]
    have e1 : wJ l p.toNat = 2 := by unfold wJ; rw [q1]; rfl
    have e2 : wJ l s.toNat = 2 := by unfold wJ; rw [r1]; rfl
    have e3 : wJ l c.toNat = 2 := by unfold wJ; rw [s1]; rfl
    have e4 : fD l ((i : Int)).toNat = 0 := by
      unfold fD
      rw [show (drvB l).getD ((i : Int)).toNat false = false from freF_dr hf]
      rfl
    have e5 : fD l ((k : Int)).toNat = 0 := by
      unfold fD
      rw [show (drvB l).getD ((k : Int)).toNat false = false from freF_dr hf2]
      rfl
    have := h.c
    omega
theorem CInv.nxt {l : Lkg} (hL : LkIn l) {kn us : List Bool} (h : CInv l kn us) {g : Grp} (hg : nxtG l kn (drvB l) = some g) : CInv l (setTs kn g.bs) (setTs us g.js) := by
  unfold nxtG at hg
  split at hg
  · cases hg
    exact h.drv hL (by assumption)
  · split at hg
    · cases hg
      exact h.par (by assumption)
    · exact h.sng hg
theorem CInv.go {l : Lkg} (hL : LkIn l) : ∀ (m : Nat) (s : FSt), CInv l s.kn s.us → CInv l (fgo l (drvB l) m s).kn (fgo l (drvB l) m s).us
  | 0, s, h => h
  | m + 1, s, h => by
    cases hn : nxtG l s.kn (drvB l) with
    | none => rw [fgo_end hn]; exact h
    | some g0 =>
      have e : fgo l (drvB l) (m + 1) s = fgo l (drvB l) m ⟨setTs s.kn g0.bs, setTs s.us g0.js, s.gs ++ [g0]⟩ := by rw [fgo]; simp only [hn]
      rw [e]
      exact CInv.go hL m ⟨setTs s.kn g0.bs, setTs s.us g0.js, s.gs ++ [g0]⟩ (h.nxt hL hn)
theorem CInv.find {l : Lkg} (hL : LkIn l) (h0 : fD l 0 = 0) : CInv l (findF l).kn (findF l).us := by
  have hb := hL.b1
  unfold findF
  refine CInv.go hL _ _ ⟨by simp, by simp, fun j hj hu => ?_, ?_⟩
  · have hu : (List.replicate l.joints.length false).getD j false = true := hu
    rw [List.getD_eq_getElem?_getD, List.getElem?_replicate] at hu
    split at hu <;> cases hu
  · show wS (wJ l) (List.replicate l.joints.length false) 0 + wS (fD l) ((List.replicate l.bodies.length false).set 0 true) 0 + 3 = wS (fun _ => 3) ((List.replicate l.bodies.length false).set 0 true) 0
    have hz : (List.replicate l.bodies.length false).getD 0 false = false := by
      rw [List.getD_eq_getElem?_getD, List.getElem?_replicate]
      split <;> rfl
    rw [wS_set _ _ _ _ (by simpa using hb) hz, wS_set _ _ _ _ (by simpa using hb) hz, wS_rep, wS_rep, wS_rep, Nat.zero_add, h0]
end Lift
/- Groups: all marks are true. -/
namespace Lift
open Go Go.Proofs

theorem anyN_all {l : List Bool} (h : anyN l = false) : l = List.replicate l.length true := by
  refine List.ext_getElem (by simp) fun i h1 h2 => ?_
  rw [List.getElem_replicate]
  have hneg : ¬ 0 ≤ fIx (fun i => false == l.getD i false) l.length 0 := of_decide_eq_false h
  cases hv : l[i]
  · exfalso
    apply hneg
    have key : ∀ (m j : Nat), j ≤ i → i < j + m → 0 ≤ fIx (fun i => false == l.getD i false) m j := by
      intro m
      induction m with
      | zero => intro j a b; omega
      | succ m ih =>
        intro j a b
        unfold fIx
        split
        · exact Int.natCast_nonneg j
        · rename_i hg
          rcases Nat.eq_or_lt_of_le a with e | e
          · subst e
            exfalso
            apply hg
            rw [List.getD_eq_getElem?_getD, List.getElem?_eq_getElem h1]
            simp [hv]
          · exact ih (j + 1) e (by omega)
    exact key l.length 0 (Nat.zero_le _) (by omega)
  · rfl
end Lift
/- Groups: the drivers of an accepted linkage. -/
namespace Lift
open Go Go.Proofs

theorem anyF_noG {g : Nat → Bool} : ∀ {m i : Nat}, anyF g m i = false → ∀ k, i ≤ k → k < i + m → g k = false
  | 0, i, h, k, h1, h2 => by omega
  | m + 1, i, h, k, h1, h2 => by
    rw [anyF, Bool.or_eq_false_iff] at h
    rcases Nat.eq_or_lt_of_le h1 with e | e
    · subst e; exact h.1
    · exact anyF_noG h.2 k e (by omega)
/-- Drivers' bodies differ, and none is the frame. -/
theorem chk_drv {l : Lkg} (h : chk l = 0) : ∀ i, i < l.drivers.length → (l.drivers.getD i default).body ≠ 0 ∧ ∀ k, k < i → (l.drivers.getD k default).body ≠ (l.drivers.getD i default).body := by
  unfold chk at h
  split at h
  · cases h
  split at h
  · cases h
  split at h
  · cases h
  split at h
  · rename_i h4; exact absurd h h4
  split at h
  · rename_i h5; exact absurd h h5
  unfold driversE at h
  split at h
  · cases h
  intro i hi
  have := fE_zeroG h i (Nat.zero_le _) (by omega)
  unfold driverE at this
  split at this
  · cases this
  split at this
  · cases this
  split at this
  · cases this
  split at this
  · cases this
  rename_i hz
  split at this
  · cases this
  rename_i ht
  refine ⟨hz, fun k hk e => ?_⟩
  have hf : dupT l.drivers i = false := by
    cases hv : dupT l.drivers i
    · rfl
    · exact absurd hv ht
  have := anyF_noG hf k (Nat.zero_le _) (by omega)
  exact absurd e (of_decide_eq_false this)
theorem drv_mem {l : Lkg} {x : Int} (hx : x ∈ l.drivers.map Driver.body) : ∃ i, i < l.drivers.length ∧ (l.drivers.getD i default).body = x := by
  obtain ⟨d, hd, rfl⟩ := List.mem_map.1 hx
  obtain ⟨i, hi, rfl⟩ := List.mem_iff_getElem.1 hd
  exact ⟨i, hi, by rw [List.getD_eq_getElem?_getD, List.getElem?_eq_getElem hi]; rfl⟩
theorem repl_no (n i : Nat) : (List.replicate n false).getD i false = false := by
  rw [List.getD_eq_getElem?_getD, List.getElem?_replicate]
  split <;> rfl
theorem setTs_other {is : List Int} : ∀ {l : List Bool} {j : Nat}, (∀ x, x ∈ is → x.toNat ≠ j) → (setTs l is).getD j false = l.getD j false := by
  induction is with
  | nil => intro l j _; rfl
  | cons i is ih =>
    intro l j h
    show (setTs (l.set i.toNat true) is).getD j false = _
    rw [ih (fun x hx => h x (List.mem_cons_of_mem _ hx)), getD_set_ne (h i (List.Mem.head _))]
theorem fD_zero {l : Lkg} (h : chk l = 0) : fD l 0 = 0 := by
  obtain ⟨hL, _⟩ := chk_in h
  unfold fD drvB
  rw [setTs_other (fun x hx => by
    obtain ⟨i, hi, rfl⟩ := drv_mem hx
    have := hL.d i hi
    have := (chk_drv h i hi).1
    omega), repl_no]
  rfl
end Lift
/- Groups: a number in a list; Anchors. -/
namespace Lift
open Go Go.Proofs

/-- Whether x is among them. -/
def hasI (bs : List Int) (x : Int) : Bool := decide (0 ≤ fIx (fun i => decide (x = bs.getD i 0)) bs.length 0)
/-- The bodies that hold a group, from its joint i on (m joints). -/
def ancL (l : Lkg) (g : Grp) : Nat → Nat → List Int → Option (List Int)
  | 0, _, out => some out
  | m + 1, i, out => if inB (g.js.getD i 0) l.joints.length = false then none
    else ancL l g m (i + 1) (out ++ [if (hasI g.bs (l.joints.getD (g.js.getD i 0).toNat default).a && hasI g.bs (l.joints.getD (g.js.getD i 0).toNat default).b) = true then -1 else if hasI g.bs (l.joints.getD (g.js.getD i 0).toNat default).a = true then (l.joints.getD (g.js.getD i 0).toNat default).b else (l.joints.getD (g.js.getD i 0).toNat default).a])
end Lift
/- Groups: each group that is found is as it should be. -/
namespace Lift
open Go Go.Proofs

theorem fIx_neg {g : Nat → Bool} : ∀ {m i : Nat}, fIx g m i < 0 → ∀ k, i ≤ k → k < i + m → g k = false
  | 0, i, _, k, h1, h2 => by omega
  | m + 1, i, h, k, h1, h2 => by
    unfold fIx at h
    split at h
    · omega
    · rename_i hg
      by_cases e : k = i
      · subst e
        cases hv : g k
        · rfl
        · exact absurd hv hg
      · exact fIx_neg h k (by omega) (by omega)
theorem hasI_mem {bs : List Int} {x : Int} (h : x ∈ bs) : hasI bs x = true := by
  unfold hasI
  refine decide_eq_true ?_
  rcases Int.lt_or_le (fIx (fun i => decide (x = bs.getD i 0)) bs.length 0) 0 with hn | hp
  · obtain ⟨i, hi, e⟩ := List.mem_iff_getElem.1 h
    have := fIx_neg hn i (Nat.zero_le _) (by omega)
    rw [List.getD_eq_getElem?_getD, List.getElem?_eq_getElem hi] at this
    simp only [Option.getD_some, e, decide_true] at this
    cases this
  · exact hp
theorem hasI_no {bs : List Int} {x : Int} (h : x ∉ bs) : hasI bs x = false := by
  unfold hasI
  refine decide_eq_false fun h0 => h ?_
  obtain ⟨h1, h2, h3⟩ := fIx_lt h0
  have h3 := of_decide_eq_true h3
  rw [h3, List.getD_eq_getElem?_getD, List.getElem?_eq_getElem (by omega)]
  exact List.getElem_mem _
/-- The body that holds a group at a joint. -/
def atF (bs : List Int) (j : Joint) : Int := if (hasI bs j.a && hasI bs j.b) = true then -1 else if hasI bs j.a = true then j.b else j.a
theorem atF_out {bs : List Int} {j : Joint} {b : Int} (hb : b ∈ bs) (ho : 0 ≤ othF j b) (hn : othF j b ∉ bs) : atF bs j = othF j b := by
  unfold atF
  rcases othF_mem ho with ⟨e1, e2⟩ | ⟨e1, e2⟩
  · rw [e2] at hn
    rw [← e1, hasI_mem hb, hasI_no hn, e2]
    rfl
  · rw [e2] at hn
    rw [hasI_no hn, e2]
    rfl
theorem atF_in {bs : List Int} {j : Joint} {b : Int} (hb : b ∈ bs) (ho : 0 ≤ othF j b) (hn : othF j b ∈ bs) : atF bs j = -1 := by
  unfold atF
  rcases othF_mem ho with ⟨e1, e2⟩ | ⟨e1, e2⟩
  · rw [e2] at hn
    rw [← e1, hasI_mem hb, hasI_mem hn]
    rfl
  · rw [e2] at hn
    rw [← e1, hasI_mem hb, hasI_mem hn]
    rfl
structure GStep (l : Lkg) (kn us : List Bool) (g : Grp) (A : List Int) : Prop where
  kd : 0 ≤ g.kind ∧ g.kind ≤ 3
  nb : (g.bs.length : Int) = [1, 2, 1, 1].getD g.kind.toNat 0
  nj : (g.js.length : Int) = [1, 3, 2, 2].getD g.kind.toNat 0
  an : ancL l g g.js.length 0 [] = some A
  al : A.length = g.js.length
  j : ∀ i, i < g.js.length → 0 ≤ g.js.getD i 0 ∧ (g.js.getD i 0).toNat < l.joints.length ∧ (setTs us (g.js.take i)).getD (g.js.getD i 0).toNat false = false
  a1 : ∀ i, i < g.js.length → g.kind = 1 → i = 2 → A.getD i 0 = -1
  a2 : ∀ i, i < g.js.length → ¬ (g.kind = 1 ∧ i = 2) → 0 ≤ A.getD i 0 ∧ (A.getD i 0).toNat < l.bodies.length ∧ kn.getD (A.getD i 0).toNat false = true
  s : ∀ i, i < g.js.length → ((l.joints.getD (g.js.getD i 0).toNat default).kind = 1 ↔ 2 ≤ g.kind ∧ i = 1)
  b : ∀ i, i < g.bs.length → 0 ≤ g.bs.getD i 0 ∧ (g.bs.getD i 0).toNat < l.bodies.length ∧ (setTs kn (g.bs.take i)).getD (g.bs.getD i 0).toNat false = false
  d : g.kind = 0 → 0 ≤ g.dr ∧ g.dr < l.drivers.length ∧ (l.drivers.getD g.dr.toNat default).body = g.bs.getD 0 0
theorem othF_kn {l : Lkg} (hL : LkIn l) {p : Nat} (hp : p < l.joints.length) {b : Int} {kn : List Bool} (ho : 0 ≤ othF (l.joints.getD p default) b) (hk : kn.getD (othF (l.joints.getD p default) b).toNat false = true) {bs : List Int} (hb : b ∈ bs) (hn : ∀ x, x ∈ bs → kn.getD x.toNat false = false) :
    atF bs (l.joints.getD p default) = othF (l.joints.getD p default) b ∧ 0 ≤ atF bs (l.joints.getD p default) ∧ (atF bs (l.joints.getD p default)).toNat < l.bodies.length ∧ kn.getD (atF bs (l.joints.getD p default)).toNat false = true := by
  have e := atF_out hb ho (fun h => by have := hn _ h; rw [hk] at this; cases this)
  rw [e]
  refine ⟨rfl, ho, ?_, hk⟩
  have := hL.j p hp
  rcases othF_mem ho with ⟨e1, e2⟩ | ⟨e1, e2⟩ <;> omega
theorem inB_of {x : Int} {n : Nat} (h0 : 0 ≤ x) (h : x.toNat < n) : inB x n = true := by
  unfold inB
  simp only [Bool.and_eq_true, decide_eq_true_eq]
  omega
theorem GStep.drv {l : Lkg} (hL : LkIn l) {kn us : List Bool} (h : CInv l kn us) {g : Grp} (hg : drvG l kn = some g) : ∃ A, GStep l kn us g A := by
  obtain ⟨k, _, hk, h3⟩ := fstO_some hg
  unfold drvS at h3
  split at h3
  · cases h3
  rename_i hx
  split at h3
  rotate_left
  · cases h3
  rename_i ha
  have hd := hL.d k (by omega)
  generalize hxe : (l.drivers.getD k default).body = x at *
  have hp := jtF_lt ha
  obtain ⟨q1, q2, q3⟩ := gjP_spec (jtF_spec ha)
  generalize hpe : jtF 0 x (fun o => kn.getD o false) l.joints = p at *
  have hpa : ancF l kn 0 x = p := hpe
  rw [hpa] at h3 ha
  cases h3
  have hx : kn.getD x.toNat false = false := by
    cases hv : kn.getD x.toNat false
    · rfl
    · exact absurd hv hx
  have hu := h.unused hp hx q2
  obtain ⟨o1, o2, o3, o4⟩ := othF_kn hL hp q2 q3 (List.mem_singleton.2 rfl) (fun y hy => by rw [List.mem_singleton.1 hy]; exact hx)
  refine ⟨[atF [x] (l.joints.getD p.toNat default)], ⟨(by show (0 : Int) ≤ 0 ∧ (0 : Int) ≤ 3; decide), rfl, rfl, ?_, rfl, fun i hi => ?_, fun i hi h1 => (by cases h1), fun i hi _ => ?_, fun i hi => ?_, fun i hi => ?_, fun _ => ⟨Int.natCast_nonneg k, by show (k : Int) < _; omega, hxe⟩⟩⟩
  · show (if inB p l.joints.length = false then none else _) = _
    rw [inB_of ha hp]; rfl
  · have : i = 0 := by have : i < 1 := hi; omega
    subst this
    exact ⟨ha, hp, hu⟩
  · have : i = 0 := by have : i < 1 := hi; omega
    subst this
    exact ⟨o2, o3, o4⟩
  · have : i = 0 := by have : i < 1 := hi; omega
    subst this
    show (l.joints.getD p.toNat default).kind = 1 ↔ _
    rw [q1]
    exact ⟨fun e => absurd e (by decide), fun e => absurd e.2 (by decide)⟩
  · have : i = 0 := by have : i < 1 := hi; omega
    subst this
    exact ⟨hd.1, by show x.toNat < _; omega, hx⟩
theorem GStep.sng {l : Lkg} (hL : LkIn l) {kn us : List Bool} (h : CInv l kn us) {g : Grp} (hg : sngG l kn (drvB l) = some g) : ∃ A, GStep l kn us g A := by
  obtain ⟨i, _, hi, h3⟩ := fstO_some hg
  unfold sngS at h3
  split at h3
  · cases h3
  rename_i hf
  have hf : freF kn (drvB l) i = true := by
    cases hv : freF kn (drvB l) i
    · exact absurd hv hf
    · rfl
  split at h3
  · cases h3
  rename_i ha
  have ha1 : 0 ≤ ancF l kn 0 i := by omega
  have ha2 : 0 ≤ ancF l kn 1 i := by omega
  have hp := jtF_lt ha1
  have hp2 := jtF_lt ha2
  obtain ⟨q1, q2, q3⟩ := gjP_spec (jtF_spec ha1)
  obtain ⟨r1, r2, r3⟩ := gjP_spec (jtF_spec ha2)
  change (ancF l kn 0 i).toNat < _ at hp
  change (ancF l kn 1 i).toNat < _ at hp2
  change (l.joints.getD (ancF l kn 0 i).toNat default).kind = 0 at q1
  change 0 ≤ othF (l.joints.getD (ancF l kn 0 i).toNat default) i at q2
  change kn.getD (othF (l.joints.getD (ancF l kn 0 i).toNat default) i).toNat false = true at q3
  change (l.joints.getD (ancF l kn 1 i).toNat default).kind = 1 at r1
  change 0 ≤ othF (l.joints.getD (ancF l kn 1 i).toNat default) i at r2
  change kn.getD (othF (l.joints.getD (ancF l kn 1 i).toNat default) i).toNat false = true at r3
  generalize ancF l kn 0 i = p at *
  generalize ancF l kn 1 i = s at *
  have hkd : ∃ kd : Int, (kd = 2 ∨ kd = 3) ∧ g = ⟨kd, [(i : Int)], [p, s], 0⟩ := by
    cases h3
    split
    · exact ⟨2, .inl rfl, rfl⟩
    · exact ⟨3, .inr rfl, rfl⟩
  obtain ⟨kd, hkd, rfl⟩ := hkd
  have hx : kn.getD ((i : Int)).toNat false = false := freF_no hf
  have hu := h.unused hp hx q2
  have hu2 := h.unused hp2 hx r2
  have hne : p.toNat ≠ s.toNat := fun e => by rw [e, r1] at q1; cases q1
  obtain ⟨o1, o2, o3, o4⟩ := othF_kn hL hp q2 q3 (List.mem_singleton.2 rfl) (fun y hy => by rw [List.mem_singleton.1 hy]; exact hx)
  obtain ⟨t1, t2, t3, t4⟩ := othF_kn hL hp2 r2 r3 (List.mem_singleton.2 rfl) (fun y hy => by rw [List.mem_singleton.1 hy]; exact hx)
  refine ⟨[atF [(i : Int)] (l.joints.getD p.toNat default), atF [(i : Int)] (l.joints.getD s.toNat default)], ⟨(by show 0 ≤ kd ∧ kd ≤ 3; omega), ?_, ?_, ?_, rfl, fun m hm => ?_, fun m hm (h1 : kd = 1) => (by omega), fun m hm _ => ?_, fun m hm => ?_, fun m hm => ?_, fun (h1 : kd = 0) => by omega⟩⟩
  · show (1 : Int) = [1, 2, 1, 1].getD kd.toNat 0
    rcases hkd with rfl | rfl <;> rfl
  · show (2 : Int) = [1, 3, 2, 2].getD kd.toNat 0
    rcases hkd with rfl | rfl <;> rfl
  · show (if inB p l.joints.length = false then none else if inB s l.joints.length = false then none else _) = _
    rw [inB_of ha1 hp, inB_of ha2 hp2]; rfl
  · have : m = 0 ∨ m = 1 := by have : m < 2 := hm; omega
    rcases this with rfl | rfl
    · exact ⟨ha1, hp, hu⟩
    · exact ⟨ha2, hp2, by show (us.set p.toNat true).getD s.toNat false = false; rw [getD_set_ne hne]; exact hu2⟩
  · have : m = 0 ∨ m = 1 := by have : m < 2 := hm; omega
    rcases this with rfl | rfl
    · exact ⟨o2, o3, o4⟩
    · exact ⟨t2, t3, t4⟩
  · have : m = 0 ∨ m = 1 := by have : m < 2 := hm; omega
    rcases this with rfl | rfl
    · show (l.joints.getD p.toNat default).kind = 1 ↔ 2 ≤ kd ∧ 0 = 1
      rw [q1]; omega
    · show (l.joints.getD s.toNat default).kind = 1 ↔ 2 ≤ kd ∧ 1 = 1
      rw [r1]; omega
  · have : m = 0 := by have : m < 1 := hm; omega
    subst this
    exact ⟨Int.natCast_nonneg i, by show ((i : Int)).toNat < _; omega, hx⟩
theorem GStep.par {l : Lkg} (hL : LkIn l) {kn us : List Bool} (h : CInv l kn us) {g : Grp} (hg : parG l kn (drvB l) = some g) : ∃ A, GStep l kn us g A := by
  obtain ⟨pr, hpr, h3⟩ := List.exists_of_findSome?_eq_some hg
  obtain ⟨hi, hj, hf, hf2⟩ := prsF_mem hpr
  have hij := prIn_lt hpr
  obtain ⟨i, k⟩ := pr
  simp only [] at hi hj hf hf2 hij h3
  unfold parS at h3
  split at h3
  rotate_left
  · cases h3
  rename_i ha
  obtain ⟨ha1, ha2, ha3⟩ := ha
  have hp := jtF_lt ha1
  have hp2 := jtF_lt ha2
  have hp3 := jtF_lt ha3
  obtain ⟨q1, q2, q3⟩ := gjP_spec (jtF_spec ha1)
  obtain ⟨r1, r2, r3⟩ := gjP_spec (jtF_spec ha2)
  obtain ⟨s1, s2, s3⟩ := gjP_spec (jtF_spec ha3)
  change (ancF l kn 0 i).toNat < _ at hp
  change (ancF l kn 0 k).toNat < _ at hp2
  change (l.joints.getD (ancF l kn 0 i).toNat default).kind = 0 at q1
  change 0 ≤ othF (l.joints.getD (ancF l kn 0 i).toNat default) i at q2
  change kn.getD (othF (l.joints.getD (ancF l kn 0 i).toNat default) i).toNat false = true at q3
  change (l.joints.getD (ancF l kn 0 k).toNat default).kind = 0 at r1
  change 0 ≤ othF (l.joints.getD (ancF l kn 0 k).toNat default) k at r2
  change kn.getD (othF (l.joints.getD (ancF l kn 0 k).toNat default) k).toNat false = true at r3
  generalize ancF l kn 0 i = p at *
  generalize ancF l kn 0 k = s at *
  generalize jtF 0 i (fun o => decide ((o : Int) = k)) l.joints = c at *
  cases h3
  have hx : kn.getD ((i : Int)).toNat false = false := freF_no hf
  have hy : kn.getD ((k : Int)).toNat false = false := freF_no hf2
  have hs3 : othF (l.joints.getD c.toNat default) i = k := by
    have := of_decide_eq_true s3
    omega
  have hik : ((i : Int)).toNat ≠ ((k : Int)).toNat := by omega
  have hu := h.unused hp hx q2
  have hu2 := h.unused hp2 hy r2
  have hu3 := h.unused hp3 hx s2
  have hpc : p.toNat ≠ c.toNat := fun e => by
    rw [e, hs3, hy] at q3; cases q3
  have hsc : s.toNat ≠ c.toNat := fun e => by
    rw [e] at r2 r3
    rcases othF_mem s2 with ⟨e1, e2⟩ | ⟨e1, e2⟩
    · rcases othF_mem r2 with ⟨f1, f2⟩ | ⟨f1, f2⟩
      · rw [← f1] at e1; omega
      · rw [f2, ← e1, hx] at r3; cases r3
    · rcases othF_mem r2 with ⟨f1, f2⟩ | ⟨f1, f2⟩
      · rw [f2, ← e1, hx] at r3; cases r3
      · rw [← f1] at e1; omega
  have hps : p.toNat ≠ s.toNat := fun e => by
    rw [e] at q2 q3
    rcases othF_mem q2 with ⟨e1, e2⟩ | ⟨e1, e2⟩
    · rcases othF_mem r2 with ⟨f1, f2⟩ | ⟨f1, f2⟩
      · rw [← f1] at e1; omega
      · rw [e2, ← f1, hy] at q3; cases q3
    · rcases othF_mem r2 with ⟨f1, f2⟩ | ⟨f1, f2⟩
      · rw [e2, ← f1, hy] at q3; cases q3
      · rw [← f1] at e1; omega
  have hno : ∀ x, x ∈ [(i : Int), (k : Int)] → kn.getD x.toNat false = false := fun x hx0 => by
    rcases List.mem_cons.1 hx0 with rfl | hx0
    · exact hx
    · rw [List.mem_singleton.1 hx0]; exact hy
  have hmi : (i : Int) ∈ [(i : Int), (k : Int)] := List.mem_cons_self
  have hmk : (k : Int) ∈ [(i : Int), (k : Int)] := List.mem_cons_of_mem _ (List.mem_singleton.2 rfl)
  obtain ⟨o1, o2, o3, o4⟩ := othF_kn hL hp q2 q3 hmi hno
  obtain ⟨t1, t2, t3, t4⟩ := othF_kn hL hp2 r2 r3 hmk hno
  have hin : atF [(i : Int), (k : Int)] (l.joints.getD c.toNat default) = -1 := atF_in hmi s2 (by rw [hs3]; exact hmk)
  refine ⟨[atF [(i : Int), (k : Int)] (l.joints.getD p.toNat default), atF [(i : Int), (k : Int)] (l.joints.getD s.toNat default), atF [(i : Int), (k : Int)] (l.joints.getD c.toNat default)], ⟨(by show (0 : Int) ≤ 1 ∧ (1 : Int) ≤ 3; decide), rfl, rfl, ?_, rfl, fun m hm => ?_, fun m hm _ e => (by subst e; exact hin), fun m hm hne => ?_, fun m hm => ?_, fun m hm => ?_, fun h1 => by cases h1⟩⟩
  · show (if inB p l.joints.length = false then none else if inB s l.joints.length = false then none else if inB c l.joints.length = false then none else _) = _
    rw [inB_of ha1 hp, inB_of ha2 hp2, inB_of ha3 hp3]; rfl
  · have : m = 0 ∨ m = 1 ∨ m = 2 := by have : m < 3 := hm; omega
    rcases this with rfl | rfl | rfl
    · exact ⟨ha1, hp, hu⟩
    · exact ⟨ha2, hp2, by show (us.set p.toNat true).getD s.toNat false = false; rw [getD_set_ne hps]; exact hu2⟩
    · exact ⟨ha3, hp3, by show ((us.set p.toNat true).set s.toNat true).getD c.toNat false = false; rw [getD_set_ne hsc, getD_set_ne hpc]; exact hu3⟩
  · have : m = 0 ∨ m = 1 ∨ m = 2 := by have : m < 3 := hm; omega
    rcases this with rfl | rfl | rfl
    · exact ⟨o2, o3, o4⟩
    · exact ⟨t2, t3, t4⟩
    · exact absurd ⟨rfl, rfl⟩ hne
  · have : m = 0 ∨ m = 1 ∨ m = 2 := by have : m < 3 := hm; omega
    rcases this with rfl | rfl | rfl
    · show (l.joints.getD p.toNat default).kind = 1 ↔ (2 : Int) ≤ 1 ∧ 0 = 1
      rw [q1]; omega
    · show (l.joints.getD s.toNat default).kind = 1 ↔ (2 : Int) ≤ 1 ∧ 1 = 1
      rw [r1]; omega
    · show (l.joints.getD c.toNat default).kind = 1 ↔ (2 : Int) ≤ 1 ∧ 2 = 1
      rw [s1]; omega
  · have : m = 0 ∨ m = 1 := by have : m < 2 := hm; omega
    rcases this with rfl | rfl
    · exact ⟨Int.natCast_nonneg i, by show ((i : Int)).toNat < _; omega, hx⟩
    · exact ⟨Int.natCast_nonneg k, by show ((k : Int)).toNat < _; omega, by show (kn.set ((i : Int)).toNat true).getD ((k : Int)).toNat false = false; rw [getD_set_ne hik]; exact hy⟩
theorem GStep.nxt {l : Lkg} (hL : LkIn l) {kn us : List Bool} (h : CInv l kn us) {g : Grp} (hg : nxtG l kn (drvB l) = some g) : ∃ A, GStep l kn us g A := by
  unfold nxtG at hg
  split at hg
  · cases hg
    exact GStep.drv hL h (by assumption)
  · split at hg
    · cases hg
      exact GStep.par hL h (by assumption)
    · exact GStep.sng hL h hg
/-- What is known, and what is used, ahead of each group. -/
def knA (l : Lkg) (gs : List Grp) : Nat → List Bool
  | 0 => (List.replicate l.bodies.length false).set 0 true
  | i + 1 => setTs (knA l gs i) (gs.getD i default).bs
def usA (l : Lkg) (gs : List Grp) : Nat → List Bool
  | 0 => List.replicate l.joints.length false
  | i + 1 => setTs (usA l gs i) (gs.getD i default).js
theorem knA_len (l : Lkg) (gs : List Grp) : ∀ i, (knA l gs i).length = l.bodies.length
  | 0 => by simp [knA]
  | i + 1 => by rw [knA, setTs_length, knA_len l gs i]
theorem usA_len (l : Lkg) (gs : List Grp) : ∀ i, (usA l gs i).length = l.joints.length
  | 0 => by simp [usA]
  | i + 1 => by rw [usA, setTs_length, usA_len l gs i]
theorem getD_appG {gs : List Grp} {g : Grp} {i : Nat} (h : i < gs.length) : (gs ++ [g]).getD i default = gs.getD i default := by
  rw [List.getD_eq_getElem?_getD, List.getElem?_append_left h, ← List.getD_eq_getElem?_getD]
theorem getD_appGL {gs : List Grp} {g : Grp} : (gs ++ [g]).getD gs.length default = g := by
  rw [List.getD_eq_getElem?_getD, List.getElem?_append_right (Nat.le_refl _), Nat.sub_self]; rfl
theorem knA_app (l : Lkg) (gs : List Grp) (g : Grp) : ∀ i, i ≤ gs.length → knA l (gs ++ [g]) i = knA l gs i
  | 0, _ => rfl
  | i + 1, h => by rw [knA, knA, knA_app l gs g i (by omega), getD_appG (by omega)]
theorem usA_app (l : Lkg) (gs : List Grp) (g : Grp) : ∀ i, i ≤ gs.length → usA l (gs ++ [g]) i = usA l gs i
  | 0, _ => rfl
  | i + 1, h => by rw [usA, usA, usA_app l gs g i (by omega), getD_appG (by omega)]
structure FOk (l : Lkg) (s : FSt) : Prop where
  g : ∀ i, i < s.gs.length → ∃ A, GStep l (knA l s.gs i) (usA l s.gs i) (s.gs.getD i default) A
  k : knA l s.gs s.gs.length = s.kn
  u : usA l s.gs s.gs.length = s.us
  c : CInv l s.kn s.us
theorem FOk.go {l : Lkg} (hL : LkIn l) : ∀ (m : Nat) (s : FSt), FOk l s → FOk l (fgo l (drvB l) m s)
  | 0, s, h => h
  | m + 1, s, h => by
    cases hn : nxtG l s.kn (drvB l) with
    | none => rw [fgo_end hn]; exact h
    | some g0 =>
      have e : fgo l (drvB l) (m + 1) s = fgo l (drvB l) m ⟨setTs s.kn g0.bs, setTs s.us g0.js, s.gs ++ [g0]⟩ := by rw [fgo]; simp only [hn]
      rw [e]
      refine FOk.go hL m ⟨setTs s.kn g0.bs, setTs s.us g0.js, s.gs ++ [g0]⟩ ⟨fun i hi => ?_, ?_, ?_, h.c.nxt hL hn⟩
      · have hi : i < s.gs.length + 1 := by simpa using hi
        show ∃ A, GStep l (knA l (s.gs ++ [g0]) i) (usA l (s.gs ++ [g0]) i) ((s.gs ++ [g0]).getD i default) A
        rw [knA_app _ _ _ _ (by omega), usA_app _ _ _ _ (by omega)]
        by_cases e : i = s.gs.length
        · subst e
          rw [getD_appGL, h.k, h.u]
          exact GStep.nxt hL h.c hn
        · rw [getD_appG (by omega)]
          exact h.g i (by omega)
      · show knA l (s.gs ++ [g0]) (s.gs ++ [g0]).length = setTs s.kn g0.bs
        rw [List.length_append, List.length_singleton, knA, knA_app _ _ _ _ (Nat.le_refl _), getD_appGL, h.k]
      · show usA l (s.gs ++ [g0]) (s.gs ++ [g0]).length = setTs s.us g0.js
        rw [List.length_append, List.length_singleton, usA, usA_app _ _ _ _ (Nat.le_refl _), getD_appGL, h.u]
/-- All groups that are found are as they should be. -/
theorem FOk.find {l : Lkg} (hL : LkIn l) (h0 : fD l 0 = 0) : FOk l (findF l) := by
  have hb := hL.b1
  unfold findF
  refine FOk.go hL _ _ ⟨fun i hi => (by cases hi), rfl, rfl, ?_⟩
  have hz : (List.replicate l.bodies.length false).getD 0 false = false := by
    rw [List.getD_eq_getElem?_getD, List.getElem?_replicate]
    split <;> rfl
  refine ⟨by simp, by simp, fun j hj hu => ?_, ?_⟩
  · have hu : (List.replicate l.joints.length false).getD j false = true := hu
    rw [List.getD_eq_getElem?_getD, List.getElem?_replicate] at hu
    split at hu <;> cases hu
  · show wS (wJ l) (List.replicate l.joints.length false) 0 + wS (fD l) ((List.replicate l.bodies.length false).set 0 true) 0 + 3 = wS (fun _ => 3) ((List.replicate l.bodies.length false).set 0 true) 0
    rw [wS_set _ _ _ _ (by simpa using hb) hz, wS_set _ _ _ _ (by simpa using hb) hz, wS_rep, wS_rep, wS_rep, Nat.zero_add, h0]
end Lift
/- Groups: the reference's joint, driven, only, free. -/
namespace Lift
open Go Go.Proofs

def rjP (kind b : Int) (os : List Bool) (x : Joint) : Bool := (x.kind == kind) && (((x.a == b) && os.getD x.b.toNat false) || ((x.b == b) && os.getD x.a.toNat false))
theorem rjP_eq {kind b : Int} {os : List Bool} {x : Joint} (ha : 0 ≤ x.a) (hb : 0 ≤ x.b) : rjP kind b os x = gjP kind b (fun o => os.getD o false) x := by
  unfold rjP gjP
  show _ = (decide (x.kind = kind) && (decide (0 ≤ othF x b) && os.getD (othF x b).toNat false))
  rw [show (x.kind == kind) = decide (x.kind = kind) from rfl]
  congr 1
  unfold othF
  by_cases e1 : b = x.a
  · rw [if_pos e1, e1, beq_self_eq_true, decide_eq_true hb]
    by_cases e2 : x.b = x.a
    · rw [e2, beq_self_eq_true]
      cases os.getD x.a.toNat false <;> rfl
    · rw [show (x.b == x.a) = false from decide_eq_false e2]
      cases os.getD x.b.toNat false <;> rfl
  · rw [if_neg e1, show (x.a == b) = false from decide_eq_false (Ne.symm e1)]
    by_cases e2 : b = x.b
    · rw [if_pos e2, e2, beq_self_eq_true, decide_eq_true ha]
      rfl
    · rw [if_neg e2, show (x.b == b) = false from decide_eq_false (Ne.symm e2)]
      rfl
theorem fIx_congr {f g : Nat → Bool} : ∀ {m i : Nat}, (∀ k, i ≤ k → k < i + m → f k = g k) → fIx f m i = fIx g m i
  | 0, _, _ => rfl
  | m + 1, i, h => by
    rw [fIx, fIx, h i (Nat.le_refl _) (by omega), fIx_congr (m := m) (i := i + 1) (fun k h1 h2 => h k (by omega) (by omega))]
theorem jtR_eq {kind b : Int} {os : List Bool} {js : List Joint} {n : Nat} (h : JsIn n js) : fIx (fun i => rjP kind b os (js.getD i default)) js.length 0 = jtF kind b (fun o => os.getD o false) js :=
  fIx_congr (fun k _ hk => rjP_eq (h k (by omega)).1 (h k (by omega)).2.2.1)
set_option maxHeartbeats 1600000 in
theorem r25_joint_ok (l : Lkg) (hl : LkIn l) (kind b : Int) (os : List Bool) (ho : os.length = l.bodies.length) : Pure Tryz.prog 58 [l.D, dI kind, dI b, BsD os] (dI (jtF kind b (fun o => os.getD o false) l.joints)) := by
  refine Pure.intro (n := 51) tok Tryz.func58 rfl rfl rfl (Nat.le_of_ble_eq_true rfl) (by kernel_rfl) (fun B F0 w0 => ?_)
  have hj1 := hl.j1
  rw [← jtR_eq hl.j]
  generalize hE : fIx (fun i => rjP kind b os (l.joints.getD i default)) l.joints.length 0 = E
  refine AW.seq ?_
  refine AW.region ?_   -- "ref.go:20"
  refine AOps.run tok 2 _ _ _ _ rfl ?_
  refine AOps.nil ?_
  refine AW.seq ?_
  refine AW.seq ?_
  refine AW.region ?_   -- "ref.go:21"
  refine AOps.run tok 3 _ _ _ _ rfl ?_
  rw [List.length_map]
  refine AOps.run tok 1 _ _ _ _ rfl ?_
  refine AOps.nil ?_
  refine AW.block ?_   -- block 0
  refine AW.loopS [1, 2, 3, 12, 13, 14] (fun i : Nat => [(1, .d (dI kind)), (2, .d (dI b)), (3, .d (BsD os)), (12, .d (JointsD l.joints)), (13, .d (dI l.joints.length)), (14, .d (dI i))]) (fun i => i ≤ l.joints.length ∧ fIx (fun i => rjP kind b os (l.joints.getD i default)) (l.joints.length - i) i = E) (fun i => l.joints.length - i) 0 rfl ⟨Nat.zero_le _, hE⟩ (fun i ⟨hi, hE⟩ => ?_)
  · skip
    refine AW.seq ?_
    refine AW.region ?_   -- "ref.go:21"
    refine AOps.run tok 1 _ _ _ _ rfl ?_
    refine AOps.nil ?_
    refine AW.seq ?_
    refine AW.cond rfl (fun h => ?_) (fun h => ?_)
    · have hii : i < l.joints.length := by have := of_decide_eq_true h; omega
      have hjx := getJ hii
      obtain ⟨ha1, ha2, hb1, hb2⟩ := hl.j i hii
      have ht := fun e => (fIx_hit (g := fun i => rjP kind b os (l.joints.getD i default)) hii e).symm.trans hE
      have hf := fun e => (fIx_miss (g := fun i => rjP kind b os (l.joints.getD i default)) hii e).symm.trans hE
      generalize l.joints.getD i default = x at hjx ha1 ha2 hb1 hb2 ht hf
      have ha : 0 ≤ x.a ∧ x.a < l.bodies.length := ⟨ha1, ha2⟩
      have hb : 0 ≤ x.b ∧ x.b < l.bodies.length := ⟨hb1, hb2⟩
      refine AW.skip ?_
      refine AW.seq ?_
      refine AW.block ?_   -- block 1
      refine AW.seq ?_
      refine AW.region ?_   -- "ref.go:21"
      refine AOps.run tok 1 _ _ _ _ rfl ?_
      refine AOps.idx tok x.D rfl rfl rfl rfl (Int.natCast_nonneg i) hjx ?_
      refine AOps.run tok 4 _ _ _ _ rfl ?_
      refine AOps.nil ?_
      refine AW.cut [1, 2, 3, 12, 13, 14, 9, 48] (fun _ : Unit => [(1, .d (dI kind)), (2, .d (dI b)), (3, .d (BsD os)), (12, .d (JointsD l.joints)), (13, .d (dI l.joints.length)), (14, .d (dI i)), (9, .d (dI i)), (48, .d (dB (rjP kind b os x)))]) (fun _ => True) ?_ (fun _ _ => ?_)
      · skip
        refine AW.region ?_
        refine AOps.run tok 4 _ _ _ _ rfl ?_
        cases h1 : (x.kind == kind) with
        | false =>
          refine AOps.run tok 26 _ _ _ _ rfl ?_
          refine AOps.nil ?_
          exact ⟨(), by rw [show rjP kind b os x = false from by unfold rjP; rw [h1]; rfl]; rfl, trivial⟩
        | true =>
          refine AOps.run tok 5 _ _ _ _ rfl ?_
          cases h2 : (x.a == b) with
          | true =>
            refine AOps.run tok 4 _ _ _ _ rfl ?_
            refine AOps.idx tok (dB (os.getD x.b.toNat false)) rfl rfl rfl rfl hb.1 (getBs (by omega)) ?_
            refine AOps.run tok 1 _ _ _ _ rfl ?_
            cases h3 : os.getD x.b.toNat false with
            | true =>
              refine AOps.run tok 15 _ _ _ _ rfl ?_
              refine AOps.nil ?_
              exact ⟨(), by rw [show rjP kind b os x = true from by unfold rjP; rw [h1, h2, h3]; rfl]; rfl, trivial⟩
            | false =>
              refine AOps.run tok 6 _ _ _ _ rfl ?_
              cases h4 : (x.b == b) with
              | false =>
                refine AOps.run tok 9 _ _ _ _ rfl ?_
                refine AOps.nil ?_
                exact ⟨(), by rw [show rjP kind b os x = false from by unfold rjP; rw [h1, h2, h3, h4]; rfl]; rfl, trivial⟩
              | true =>
                refine AOps.run tok 4 _ _ _ _ rfl ?_
                refine AOps.idx tok (dB (os.getD x.a.toNat false)) rfl rfl rfl rfl ha.1 (getBs (by omega)) ?_
                refine AOps.run tok 1 _ _ _ _ rfl ?_
                cases h5 : os.getD x.a.toNat false with
                | true =>
                  refine AOps.run tok 3 _ _ _ _ rfl ?_
                  refine AOps.nil ?_
                  exact ⟨(), by rw [show rjP kind b os x = true from by unfold rjP; rw [h1, h2, h3, h4, h5]; rfl]; rfl, trivial⟩
                | false =>
                  refine AOps.run tok 3 _ _ _ _ rfl ?_
                  refine AOps.nil ?_
                  exact ⟨(), by rw [show rjP kind b os x = false from by unfold rjP; rw [h1, h2, h3, h4, h5]; rfl]; rfl, trivial⟩
          | false =>
            refine AOps.run tok 12 _ _ _ _ rfl ?_
            cases h4 : (x.b == b) with
            | false =>
              refine AOps.run tok 9 _ _ _ _ rfl ?_
              refine AOps.nil ?_
              exact ⟨(), by rw [show rjP kind b os x = false from by unfold rjP; rw [h1, h2, h4]; rfl]; rfl, trivial⟩
            | true =>
              refine AOps.run tok 4 _ _ _ _ rfl ?_
              refine AOps.idx tok (dB (os.getD x.a.toNat false)) rfl rfl rfl rfl ha.1 (getBs (by omega)) ?_
              refine AOps.run tok 1 _ _ _ _ rfl ?_
              cases h5 : os.getD x.a.toNat false with
              | true =>
                refine AOps.run tok 3 _ _ _ _ rfl ?_
                refine AOps.nil ?_
                exact ⟨(), by rw [show rjP kind b os x = true from by unfold rjP; rw [h1, h2, h4, h5]; rfl]; rfl, trivial⟩
              | false =>
                refine AOps.run tok 3 _ _ _ _ rfl ?_
                refine AOps.nil ?_
                exact ⟨(), by rw [show rjP kind b os x = false from by unfold rjP; rw [h1, h2, h4, h5]; rfl]; rfl, trivial⟩
      cases hr : rjP kind b os x with
      | true =>
        rw [← ht hr]
        refine AW.condT rfl ?_
        refine AW.seq ?_
        refine AW.region ?_
        refine AOps.run tok 2 _ _ _ _ rfl ?_
        refine AOps.nil ?_
        exact AW.ret rfl
      | false =>
        refine AW.condF rfl ?_
        refine AW.skip ?_
        refine AW.region ?_
        refine AOps.run tok 1 _ _ _ _ rfl ?_
        rw [wI64 (x := (i : Int) + 1) (by omega) (by omega)]
        refine AOps.run tok 1 _ _ _ _ rfl ?_
        refine AOps.nil ?_
        exact ⟨i + 1, rfl, ⟨hii, hf hr⟩, by omega⟩
    have hii : i = l.joints.length := by have := of_decide_eq_false h; omega
    rw [hii, Nat.sub_self, fIx] at hE
    subst hE
    refine AW.exit ?_
    -- END OF BODY; what follows the loop (from its exit):
    refine AW.seq ?_
    refine AW.region ?_   -- "ref.go:26"
    refine AOps.run tok 1 _ _ _ _ rfl ?_
    refine AOps.nil ?_
    exact AW.ret rfl
theorem drvB_hit {l : Lkg} (hl : LkIn l) {k : Nat} (hk : k < l.drivers.length) : (drvB l).getD (l.drivers.getD k default).body.toNat false = true := by
  have := hl.d k hk
  exact setTs_mem (List.mem_map.2 ⟨l.drivers.getD k default, by rw [List.getD_eq_getElem?_getD, List.getElem?_eq_getElem hk]; exact List.getElem_mem hk, rfl⟩) (by rw [List.length_replicate]; omega)
theorem drvB_miss {l : Lkg} (hl : LkIn l) {b : Int} (h0 : 0 ≤ b) (h : ∀ k, k < l.drivers.length → (l.drivers.getD k default).body ≠ b) : (drvB l).getD b.toNat false = false := by
  unfold drvB
  rw [setTs_other (fun x hx => by
    obtain ⟨i, hi, rfl⟩ := drv_mem hx
    have := hl.d i hi
    have := h i hi
    omega), repl_no]
theorem r25_driven_ok (l : Lkg) (hl : LkIn l) (b : Int) (h0 : 0 ≤ b) : Pure Tryz.prog 79 [l.D, dI b] (dB ((drvB l).getD b.toNat false)) := by
  refine Pure.intro (n := 19) tok Tryz.func79 rfl rfl rfl (Nat.le_of_ble_eq_true rfl) (by kernel_rfl) (fun B F0 w0 => ?_)
  have hd1 := hl.d1
  refine AW.seq ?_
  refine AW.region ?_   -- "ref.go:10"
  refine AOps.run tok 2 _ _ _ _ rfl ?_
  refine AOps.nil ?_
  refine AW.seq ?_
  refine AW.seq ?_
  refine AW.region ?_   -- "ref.go:11"
  refine AOps.run tok 3 _ _ _ _ rfl ?_
  rw [List.length_map]
  refine AOps.run tok 1 _ _ _ _ rfl ?_
  refine AOps.nil ?_
  refine AW.block ?_   -- block 0
  refine AW.loopS [1, 8, 9, 10] (fun i : Nat => [(1, .d (dI b)), (8, .d (DriversD l.drivers)), (9, .d (dI l.drivers.length)), (10, .d (dI i))]) (fun i => i ≤ l.drivers.length ∧ ∀ k, k < i → (l.drivers.getD k default).body ≠ b) (fun i => l.drivers.length - i) 0 rfl ⟨Nat.zero_le _, fun k hk => by omega⟩ (fun i ⟨hi, hno⟩ => ?_)
  · skip
    refine AW.seq ?_
    refine AW.region ?_   -- "ref.go:11"
    refine AOps.run tok 1 _ _ _ _ rfl ?_
    refine AOps.nil ?_
    refine AW.seq ?_
    refine AW.cond rfl (fun h => ?_) (fun h => ?_)
    · have hii : i < l.drivers.length := by have := of_decide_eq_true h; omega
      have hjx := getDr hii
      have hit := drvB_hit hl hii
      refine AW.skip ?_
      refine AW.seq ?_
      refine AW.block ?_   -- block 1
      refine AW.seq ?_
      refine AW.region ?_   -- "ref.go:11"
      refine AOps.idx tok (l.drivers.getD i default).D rfl rfl rfl rfl (Int.natCast_nonneg i) hjx ?_
      refine AOps.run tok 3 _ _ _ _ rfl ?_
      refine AOps.nil ?_
      refine AW.seq ?_
      refine AW.region ?_   -- "ref.go:12"
      refine AOps.run tok 4 _ _ _ _ rfl ?_
      by_cases e : (l.drivers.getD i default).body = b
      · rw [show ((l.drivers.getD i default).body == b) = true from decide_eq_true e]
        rw [e] at hit
        rw [hit]
        refine AOps.nil ?_
        refine AW.condT rfl ?_
        refine AW.seq ?_
        refine AW.region ?_
        refine AOps.run tok 1 _ _ _ _ rfl ?_
        refine AOps.nil ?_
        exact AW.ret rfl
      rw [show ((l.drivers.getD i default).body == b) = false from decide_eq_false e]
      refine AOps.nil ?_
      refine AW.condF rfl ?_
      refine AW.skip ?_
      refine AW.region ?_
      refine AOps.run tok 1 _ _ _ _ rfl ?_
      rw [wI64 (x := (i : Int) + 1) (by omega) (by omega)]
      refine AOps.run tok 1 _ _ _ _ rfl ?_
      refine AOps.nil ?_
      exact ⟨i + 1, rfl, ⟨hii, fun k hk => by
        by_cases e2 : k = i
        · subst e2; exact e
        · exact hno k (by omega)⟩, by omega⟩
    have hii : i = l.drivers.length := by have := of_decide_eq_false h; omega
    subst hii
    rw [drvB_miss hl h0 hno]
    refine AW.exit ?_
    -- END OF BODY; what follows the loop (from its exit):
    refine AW.seq ?_
    refine AW.region ?_   -- "ref.go:16"
    refine AOps.run tok 1 _ _ _ _ rfl ?_
    refine AOps.nil ?_
    exact AW.ret rfl
theorem r25_only_ok (l : Lkg) (hl : LkIn l) (b : Nat) (hb : b < l.bodies.length) : PureO Tryz.prog 28 [l.D, dI b] 4 (((List.replicate l.bodies.length false).set b true).map (fun b => dB b)) 0 l.bodies.length := by
  refine PureO.intro (n := 14) tok Tryz.func28 rfl rfl rfl (Nat.le_of_ble_eq_true rfl) (by kernel_rfl) (fun B F0 w0 => ?_)
  have hb2 := hl.b2
  refine AW.seq ?_
  refine AW.region ?_   -- "ref.go:30"
  refine AOps.run tok 2 _ _ _ _ rfl ?_
  refine AOps.nil ?_
  refine AW.cut [2, 1, 5] (fun _ : Unit => [(2, .bx l.D.flat), (1, .d (dI b)), (5, .ow 4 ((List.replicate l.bodies.length false).map (fun b => dB b)))]) (fun _ => True) ?_ (fun _ _ => ?_)
  · refine AW.region ?_
    refine AOps.run tok 3 _ _ _ _ rfl ?_
    rw [List.length_map]
    refine AOps.make tok rfl rfl rfl rfl rfl (Int.natCast_nonneg _) (by show (1 : Int) * _ ≤ _; omega) (by omega) ?_
    refine AOps.run tok 1 _ _ _ _ rfl ?_
    refine AOps.nil ?_
    exact ⟨(), by rw [List.map_replicate]; rfl, trivial⟩
  refine AW.seq ?_
  refine AW.region ?_   -- "ref.go:32"
  refine AOps.run tok 2 _ _ _ _ rfl ?_
  refine AOps.idxo tok rfl rfl rfl rfl (Int.natCast_nonneg b) (by rw [List.length_map, List.length_replicate]; exact hb) ?_
  rw [Int.toNat_natCast]
  refine AOps.storeT tok rfl rfl rfl (by rw [List.length_replicate]; exact hb) ?_
  refine AOps.nil ?_
  refine AW.seq ?_
  refine AW.region ?_   -- "ref.go:33"
  refine AOps.run tok 2 _ _ _ _ rfl ?_
  refine AOps.nil ?_
  refine AW.towin 4 rfl ?_
  rw [List.length_map, List.length_set, List.length_replicate]
  exact AW.ret rfl
theorem r25_free_ok (l : Lkg) (hl : LkIn l) (kn : List Bool) (hk : kn.length = l.bodies.length) (i : Nat) (hi : i < l.bodies.length) : Pure Tryz.prog 59 [l.D, BsD kn, dI i] (dB (freF kn (drvB l) i)) := by
  refine Pure.intro (n := 18) tok Tryz.func59 rfl rfl rfl (Nat.le_of_ble_eq_true rfl) (by kernel_rfl) (fun B F0 w0 => ?_)
  have cd := r25_driven_ok l hl i (Int.natCast_nonneg i)
  rw [Int.toNat_natCast] at cd
  unfold freF
  refine AW.seq ?_
  refine AW.region ?_   -- "ref.go:50"
  refine AOps.run tok 2 _ _ _ _ rfl ?_
  refine AOps.nil ?_
  refine AW.seq ?_
  refine AW.region ?_   -- "ref.go:50"   -- GUARDS
  refine AOps.run tok 2 _ _ _ _ rfl ?_
  refine AOps.idx tok (dB (kn.getD i false)) rfl rfl rfl rfl (Int.natCast_nonneg i) (getBs (by omega)) ?_
  refine AOps.run tok 1 _ _ _ _ rfl ?_
  cases kn.getD i false with
  | true =>
    refine AOps.run tok 8 _ _ _ _ rfl ?_
    refine AOps.nil ?_
    exact AW.ret rfl
  | false =>
    refine AOps.run tok 4 _ _ _ _ rfl ?_
    refine AOps.call tok rfl rfl rfl rfl cd ?_
    refine AOps.run tok 3 _ _ _ _ rfl ?_
    refine AOps.nil ?_
    exact AW.ret rfl
end Lift
/- Functions that are handed a row of the call's own, leave it as it was, and hand back data that is apart from it. -/
namespace Lift
open Go
open Go.RowKit (Below)

section
variable {P : Program} {T : Ty} {B : Nat} {F0 : Nat → Prop} {w0 : Bas} {n : Nat} {o : Oper} {d : Nat} {σ σ' : St}
/-- The function is handed m elements of the row L from lo on, ahead of them and behind them data; the row stays; what it hands back reads as res and is apart from the row. -/
def MutD (P : Program) (f : FuncId) (e : Nat) (L : List D) (lo m : Nat) (pre post : List D) (res : D) : Prop :=
  CallOk P f ∧ ∀ (w : World) (G : Nat → Prop) (b o cap : Nat) (cs : Array Value) (us vs : List Value), (∀ c, G c → c < w.heap.size ∧ c ≠ b) → w.heap[b]? = some (.cells cs e (0, 0)) →
    ((m = 0 ∨ o = lo * P.cellsOf e) ∧ (cap = 0 ∨ o = lo * P.cellsOf e) ∧ o + cap * P.cellsOf e ≤ cs.size) → lo + m ≤ L.length → m ≤ cap → cap ≤ maxLen → Cells P w G e L cs → us.length = pre.length → (∀ (i : Nat) (d : D) (v : Value), pre[i]? = some d → us[i]? = some v → Rd w G d v) →
    vs.length = post.length → (∀ (i : Nat) (d : D) (v : Value), post[i]? = some d → vs[i]? = some v → Rd w G d v) →
    Calls P f (us ++ Value.slice (some ⟨b, o, none⟩) m cap :: vs).toArray w (fun ee w' => ∃ v cs', ee = .returned v ∧ BelY w.heap.size ⟨w, fun c => c = b⟩ w w' ∧ w'.heap[b]? = some (.cells cs' e (0, 0)) ∧ Cells P w' (FW w.heap.size G w') e L cs' ∧ Rd w' (FW w.heap.size G w') res v)
def endD (T : Ty) (σ : St) (p : Nat) (rs : List ResultVar) (e : Nat) (L : List D) (res : D) : Prop := (∃ lo m, σ.get p = some (.wn true e L lo m)) ∧ resZ T σ rs = some res
def retD (T : Ty) (p : Nat) (rs : List ResultVar) (e : Nat) (L : List D) (res : D) : Exit → St → Prop
  | .normal, σ => endD T σ p rs e L res
  | .ret, σ => endD T σ p rs e L res
  | .exit _, _ => False
  | .goto _, _ => False
  | .panic _, _ => False
  | .outgrown, _ => False
theorem MutD.intro (hT : TOk P T) {f : FuncId} {fn : Func} {c : Code} {rs : List ResultVar} {e lo m : Nat} {pre post L : List D} {res : D} (hf : P.funcs[f]? = some fn) (hb : fn.body = some c) (hrs : fn.results.toList = rs) (hn : fn.ntmps = n) (hl : pre.length + post.length + 1 ≤ n) (hnm : (fn.name == "runtime.NumGoroutine") = false)
    (h : ∀ (B : Nat) (F0 : Nat → Prop) (w0 : Bas), AW P B F0 w0 n c (retD T pre.length rs e L res) ((pre.length, .wn true e L lo m) :: (initSt 0 pre ++ initSt (pre.length + 1) post))) : MutD P f e L lo m pre post res := by
  refine ⟨⟨fn, hf, hnm, by simp [hb]⟩, fun w G b o cap cs us vs hG hb' h0 hlm hcap hmax hcs hlu hru hlv hr => ?_⟩
  have hbs := (Array.getElem?_eq_some_iff.1 hb').1
  have hF0 : F0ok w.heap.size (fun c => G c ∨ c = b) ⟨w, fun c => c = b⟩ := ⟨fun c hc => hc.elim (fun h => (hG c h).1) (fun h => h ▸ hbs), fun c hc => .inr hc⟩
  refine calls_of_wp hf hb (wp_mono (h w.heap.size (fun c => G c ∨ c = b) ⟨w, fun c => c = b⟩ _ w ?_) ?_)
  · have hfree : ∀ c, G c → Free (fun c => if c = b then some pre.length else none) (FW w.heap.size (fun c => G c ∨ c = b) w) c := fun c hc => ⟨by simp [(hG c hc).2], .inl (.inl hc)⟩
    refine ⟨.refl _ _ _, Nat.le_refl _, hF0, rfl, ?_, fun c => if c = b then some pre.length else none, (fun c t hc => ?_), fun t av hav => ?_⟩
    · simp [hn]; omega
    · simp only [] at hc
      split at hc <;> simp at hc
      rename_i hcb
      subst hcb
      exact ⟨.inr rfl, hbs⟩
    · have htm : ∀ (k : Nat) (v : Value), (us ++ Value.slice (some ⟨b, o, none⟩) m cap :: vs)[k]? = some v → ((us ++ Value.slice (some ⟨b, o, none⟩) m cap :: vs).toArray ++ Array.replicate (fn.ntmps - (us ++ Value.slice (some ⟨b, o, none⟩) m cap :: vs).toArray.size) undef)[k]? = some v := fun k v hk => by
        have hlt := (List.getElem?_eq_some_iff.1 hk).1
        rw [Array.getElem?_append, if_pos (by simpa using hlt)]
        simpa using hk
      rw [St.get_cons] at hav
      split at hav
      · rename_i ht
        subst ht
        simp at hav
        subst hav
        refine ⟨.slice (some ⟨b, o, none⟩) m cap, htm _ _ (by rw [← hlu]; simp), .inr ⟨b, o, cap, cs, fun _ => rfl, rfl, ⟨h0.1, h0.2.1, h0.2.2⟩, by simp, hb', hlm, hcap, hmax, hcs.1, fun i d hd => ?_⟩⟩
        obtain ⟨f1, u, f2, f3⟩ := hcs.2 i d hd
        exact ⟨f1, u, f2, f3.mono hfree (fun _ _ => rfl)⟩
      · rename_i ht
        rw [get_app, get_initSt, get_initSt] at hav
        simp only [Nat.zero_le, if_true, Nat.sub_zero] at hav
        cases hp : pre[t]? with
        | some d =>
          rw [hp] at hav
          simp at hav
          subst hav
          have hlt : t < us.length := by rw [hlu]; exact (List.getElem?_eq_some_iff.1 hp).1
          refine ⟨us[t], htm _ _ (by rw [List.getElem?_append_left hlt, List.getElem?_eq_getElem hlt]), ?_⟩
          exact (hru t d _ hp (List.getElem?_eq_getElem hlt)).mono hfree (fun _ _ => rfl)
        | none =>
          rw [hp] at hav
          simp only [Option.map_none] at hav
          split at hav <;> try (cases hav; done)
          simp only [Option.map_eq_some_iff] at hav
          obtain ⟨d, hd, rfl⟩ := hav
          obtain ⟨k, rfl⟩ : ∃ k, t = pre.length + 1 + k := ⟨t - (pre.length + 1), by omega⟩
          rw [Nat.add_sub_cancel_left] at hd
          have hlt : k < vs.length := by rw [hlv]; exact (List.getElem?_eq_some_iff.1 hd).1
          refine ⟨vs[k], htm _ _ (by rw [← hlu, List.getElem?_append_right (by omega), show us.length + 1 + k - us.length = k + 1 by omega, List.getElem?_cons_succ, List.getElem?_eq_getElem hlt]), ?_⟩
          exact (hr k d _ hd (List.getElem?_eq_getElem hlt)).mono hfree (fun _ _ => rfl)
  · rintro ee a w' ⟨σ', hq, hR⟩
    have key : endD T σ' pre.length rs e L res → a.defers = [] ∧ ∃ v, (results fn a.tmps).run P w' = .ok v w' ∧ ∃ v' cs', Ending.returned v = .returned v' ∧ BelY w.heap.size ⟨w, fun c => c = b⟩ w w' ∧ w'.heap[b]? = some (.cells cs' e (0, 0)) ∧ Cells P w' (FW w.heap.size G w') e L cs' ∧ Rd w' (FW w.heap.size G w') res v' := fun hq => by
      refine ⟨hR.defers, ?_⟩
      obtain ⟨O, hOr, hO⟩ := hR.own
      have hI : Inv P w.heap.size (fun c => G c ∨ c = b) ⟨w, fun c => c = b⟩ (fun _ => True) σ'.get σ'.get a w' O := ⟨hR.below, hR.base, hR.f0, hOr, fun t _ av h => hO t av h, fun t av h _ => hO t av h⟩
      have home : ∀ k lo m, σ'.get k = some (.wn true e L lo m) → ∃ cs', O b = some k ∧ w'.heap[b]? = some (.cells cs' e (0, 0)) ∧ Cells P w' (FW w.heap.size G w') e L cs' := fun k lo m h => by
        obtain ⟨v, hv, hr⟩ := hO k _ h
        rcases hr with ⟨h, _⟩ | ⟨b', o', cap', cs', hq, h1, h0, h2, h3, h4, h5, h6, h7, h8⟩
        · cases h
        have hbb : b' = b := hq rfl
        subst hbb
        refine ⟨cs', h2, h3, h7, fun i d hd => ?_⟩
        obtain ⟨f1, u, f2, f3⟩ := h8 i d hd
        refine ⟨f1, u, f2, f3.mono (fun c hc => ?_) (fun _ _ => rfl)⟩
        have hne : c ≠ b' := fun e => by subst e; rw [Free, h2] at hc; cases hc.1
        rcases hc.2 with h | h
        · exact .inl (h.resolve_right hne)
        · exact .inr h
      obtain ⟨⟨lo, m, h0⟩, hres⟩ := hq
      obtain ⟨cs', hOb, hb1, hc1⟩ := home _ lo m h0
      obtain ⟨v, hrun, hrd⟩ := resZ_sound hT hrs hR hOr hO hres
      refine ⟨v, hrun, v, cs', rfl, hR.below, hb1, hc1, hrd.mono (fun c hc => ?_) (fun _ _ => rfl)⟩
      have hne : c ≠ b := fun e => by subst e; rw [Free, hOb] at hc; cases hc.1
      rcases hc.2 with h | h
      · exact .inl (h.resolve_right hne)
      · exact .inr h
    cases ee with
    | normal => exact key hq
    | ret => exact key hq
    | exit _ => exact hq.elim
    | goto _ => exact hq.elim
    | panic _ => exact hq.elim
    | outgrown => exact hq.elim
theorem Rel.writeGO {a : Act} {w w' : World} {h b : Nat} {x x' : AV} {cs cs0 : Array Value} {e0 : TypeId} {fz : Nat × Nat} {O : Nat → Option Nat} (hbb : w.heap[b]? = some (.cells cs0 e0 fz)) (hbb' : w'.heap[b]? = some (.cells cs e0 fz)) (hbel : BelY B w0 w w') (hold : ∀ c, c < w.heap.size → c ≠ b → w'.heap[c]? = w.heap[c]?) (hR : Rel P B F0 w0 n σ a w)
    (hOr : ∀ b t, O b = some t → OwnR B w0 w b) (hO : ∀ t av, σ.get t = some av → ∃ v, a.tmps[t]? = some v ∧ AVR P w0.X w O (FW B F0 w) σ.get (fun h => a.tmps[h]?) t av v)
    (hx : σ.get h = some x) (hb : O b = some h) (hsame : ∃ e l l', x.row = some (e, l) ∧ x'.row = some (e, l') ∧ l.length = l'.length ∧ x.tag = x'.tag)
    (hv : ∀ v, a.tmps[h]? = some v → AVR P w0.X w O (FW B F0 w) σ.get (fun h => a.tmps[h]?) h x v → AVR P w0.X w' O (FW B F0 w') σ.get (fun h => a.tmps[h]?) h x' v)
    (hh : x'.home = true) : (∀ c t, O c = some t → OwnR B w0 w' c) ∧ (∀ t av, St.get ((h, x') :: σ) t = some av → ∃ v, a.tmps[t]? = some v ∧ AVR P w0.X w' O (FW B F0 w') (St.get ((h, x') :: σ)) (fun h => a.tmps[h]?) t av v) := by
  have hget : ∀ t, St.get ((h, x') :: σ) t = if h = t then some x' else σ.get t := fun t => St.get_cons _ _ _ _
  have hbase' : B ≤ w'.heap.size := Nat.le_trans hR.base hbel.size
  refine ⟨fun c t hc => ⟨(hOr c t hc).1, Nat.lt_of_lt_of_le (hOr c t hc).2 hbel.size⟩, fun t av hav => ?_⟩
  rw [hget] at hav
  by_cases htd : h = t
  · subst htd
    simp at hav
    subst hav
    obtain ⟨v, hv', hr⟩ := hO h x hx
    refine ⟨v, hv', (hv v hv' hr).mono (fun c hc => FW.step hR.f0 hbase' (Nat.le_refl _) c hc) (fun _ _ => rfl) (fun c u hc => Nat.lt_of_lt_of_le (hOr c u hc).2 hbel.size) (fun _ _ => rfl) (fun k hk => ?_)⟩
    exfalso
    cases x' <;> simp_all [AV.home, AV.refs]
  · rw [if_neg htd] at hav
    obtain ⟨v, hv', hr⟩ := hO t av hav
    refine ⟨v, hv', ?_⟩
    have h1 : AVR P w0.X (w.setRow b cs) O (FW B F0 w) (St.get ((h, x') :: σ)) (fun h => a.tmps[h]?) t av v := hr.write hb (fun e => absurd e.symm htd) (fun _ hc => hc) (fun k hk => ⟨fun ds hds => ?_, fun z e l hz hl => ?_⟩)
    · refine h1.mono (fun c hc => ⟨by simpa using (FW.step hR.f0 hR.base (Nat.le_refl _) c hc).1, (FW.step hR.f0 hR.base hbel.size c hc).2⟩) (fun _ _ => rfl) (fun c u hc => by simpa using (hOr c u hc).2) (fun c hc => ?_) (fun k hk x hx hg => ⟨hg, rfl⟩)
      by_cases hcb : c = b
      · subst hcb
        rw [hbb', setRow_heap w c _ cs e0 fz hbb]
      · rw [setRow_other w b c cs hcb]
        exact hold c (by simpa using hc) hcb
    · rw [hget] at hds
      split at hds
      · rename_i hk'
        subst hk'
        simp at hds
        subst hds
        obtain ⟨_, _, _, _, h2, _, _⟩ := hsame
        simp [AV.row] at h2
      · exact ⟨ds, hds⟩
    · rw [hget] at hz
      split at hz
      · rename_i hk'
        subst hk'
        simp at hz
        subst hz
        obtain ⟨e', l1, l2, h1, h2, h3, h4⟩ := hsame
        rw [h2] at hl
        simp at hl
        obtain ⟨rfl, rfl⟩ := hl
        exact ⟨x, l1, hx, h1, h3, h4⟩
      · exact ⟨z, l, hz, hl, rfl, rfl⟩
def mutG (T : Ty) (σ : St) : Op → Option (FuncId × Nat × AV × Nat × List D × Nat × Nat × List D × List D)
  | .call c => match c.callee with
    | .value (.func f) => match argIx T σ c.args.toList c.argTypes.toList with
      | some (p, h, e, l, lo, m) => match σ.get h, argsF T σ.get (c.args.toList.take p) (c.argTypes.toList.take p), argsF T σ.get (c.args.toList.drop (p + 1)) (c.argTypes.toList.drop (p + 1)) with
        | some y, some d1, some d2 => some (f, h, y, e, l, lo, m, d1, d2)
        | _, _, _ => none
      | none => none
    | _ => none
  | _ => none
theorem OpOk.calld (hT : TOk P T) {f h e lo m : Nat} {y : AV} {l d1 d2 : List D} {res : D} (hd : o.dst = some d) (hdn : d < n) (hx : mutG T σ o.op = some (f, h, y, e, l, lo, m, d1, d2)) (hP : MutD P f e l lo m d1 d2 res) (h0 : 0 < m) (hs : plainL l = true) :
    OpOk P B F0 w0 n o σ ((d, .d res) :: (h, y.withRow l) :: σ) := by
  intro a w hR K Q hK
  obtain ⟨O, hOr, hO⟩ := hR.own
  have hI : Inv P B F0 w0 (fun _ => True) σ.get σ.get a w O := ⟨hR.below, hR.base, hR.f0, hOr, fun t _ av h => hO t av h, fun t av h _ => hO t av h⟩
  obtain ⟨dst, op, ty, pos, after, guard⟩ := o
  simp only [] at hx hd
  cases op <;> simp only [mutG] at hx <;> try (cases hx; done)
  rename_i c
  obtain ⟨callee, args, ats⟩ := c
  simp only [] at hx
  split at hx <;> try (cases hx; done)
  rename_i g
  split at hx <;> try (cases hx; done)
  rename_i p h' e' l1 lo' m' hw
  split at hx <;> simp at hx
  rename_i y' d1' d2' hy hds1 hds2
  obtain ⟨rfl, rfl, rfl, rfl, rfl, rfl, rfl, rfl, rfl⟩ := hx
  obtain ⟨x, t, hxs, _, hwx⟩ := argIx_spec hw
  cases hxe : ex T σ.get t x with
  | none => rw [hxe] at hwx; simp [winF] at hwx
  | some av =>
  rw [hxe] at hwx
  obtain ⟨z, hz, hrow, hlm, cap, hcap, hmax, hv⟩ := win_sound hI (ex_sound hI (fun _ _ => trivial) hxe 0).1 hwx
  rw [hy] at hz
  simp at hz
  subst hz
  rcases hv with ⟨hl0, _⟩ | ⟨b, o1, len, cap1, cs, off, hq, htm, hev, h0', hOb, hb, hu, hcells⟩
  · omega
  have hargs1 := argsF_run hT hI _ _ d1' (fun _ _ _ _ => trivial) hds1
  have hargs2 := argsF_run hT hI _ _ d2' (fun _ _ _ _ => trivial) hds2
  have hcall := hP.2 w (Free O (FW B F0 w)) b off cap cs _ _ (fun c hc => ⟨(FW.step hR.f0 hR.base (Nat.le_refl _) c hc.2).1, fun e => by subst e; rw [Free, hOb] at hc; cases hc.1⟩) hb ⟨h0'.1, h0'.2.1, Nat.le_trans h0'.2.2.1 hq.2⟩ hlm hcap hmax
    ⟨hu, hcells⟩ hargs1.1 hargs1.2 hargs2.1 hargs2.2
  unfold Oper.wp
  rw [exec_call hP.1]
  show Calls P g (args.map a.eval) w _
  have he : ((args.toList.take p).map a.eval ++ Value.slice (some ⟨b, off, none⟩) m' cap :: (args.toList.drop (p + 1)).map a.eval).toArray = args.map a.eval := by
    rw [← hev]
    apply Array.ext'
    rw [Array.toList_map]
    conv => rhs; rw [hxs]
    simp
  rw [he] at hcall
  have hbs := (hOr b h' hOb)
  refine hcall.mono fun ee w' ⟨v, cs', he, hbel, hb', hc', hr⟩ => ?_
  subst he
  have hsz := hbel.size
  have hbelB : BelY B w0 w w' := ⟨hbel.os, hbel.tape, hbel.output, hbel.size, fun k hk hxk => hbel.block k (Nat.lt_of_lt_of_le hk hR.base) (fun e => by
    subst e
    rcases hbs.1 with h1 | h1
    · omega
    · exact hxk h1), hbel.same⟩
  have hcsz : cs'.size = cs.size := by
    obtain ⟨c2, h1, h2⟩ := hbel.same b cs _ _ hb
    rw [hb'] at h1
    simp at h1
    rw [h1]
    exact h2
  have hyr := row_with (l' := l1) hrow
  have hgo := Rel.writeGO hb hb' hbelB (fun c hc hne => hbel.block c hc hne) hR hOr hO hy hOb (x' := y'.withRow l1) ⟨_, _, _, hrow, hyr.1, rfl, hyr.2.2.symm⟩ (fun v hv hr => by
    rw [htm] at hv
    simp at hv
    subst hv
    exact row_write hr hrow hb hb' hcsz rfl (fun e => by subst e; simp at hlm; omega) hc'.1 (fun i d hd => by obtain ⟨f1, u, f2, f3⟩ := hc'.2 i d hd; exact ⟨f1, u, f2, f3.plain (plainL_get hs hd)⟩)) hyr.2.1
  have hR1 : Rel P B F0 w0 n ((h', y'.withRow l1) :: σ) a w' := ⟨hR.below.trans hbelB, Nat.le_trans hR.base hbelB.size, hR.f0, hR.defers, hR.size, O, hgo.1, hgo.2⟩
  rw [hd]
  refine hK _ _ (hR1.put (d := d) (av := .d res) (v := v) hgo.1 hgo.2 hdn (Grow.refl (fun b t hb => (hgo.1 b t hb).2)) ?_)
  refine Rd.mono hr (fun c hc => ?_) (fun _ _ => rfl)
  rcases hc with h1 | ⟨h1, h2⟩
  · exact ⟨h1.1, (FW.step hR.f0 hR.base hsz c h1.2).2⟩
  · refine ⟨?_, .inr ⟨Nat.le_trans hR.base h1, h2⟩⟩
    cases ho : O c with
    | none => rfl
    | some t => have := (hOr c t ho).2; omega
theorem AOps.calld (hT : TOk P T) {K : St → Prop} {all : Array Oper} {rest : List Oper} {f h e lo m : Nat} {y : AV} {l d1 d2 : List D} {res : D} (hd : o.dst = some d) (hdn : Nat.ble (d + 1) n = true) (hg : guardOk all σ o = true) (hx : mutG T σ o.op = some (f, h, y, e, l, lo, m, d1, d2)) (hP : MutD P f e l lo m d1 d2 res) (h0 : 0 < m) (hs : plainL l = true)
    (hk : AOps P B F0 w0 n all rest K ((d, .d res) :: (h, y.withRow l) :: σ)) : AOps P B F0 w0 n all (o :: rest) K σ := AOps.op hg (OpOk.calld hT hd (Nat.le_of_ble_eq_true hdn) hx hP h0 hs) hk
end
end Lift
/- Groups: the reference's driver, pair, single. -/
namespace Lift
open Go Go.Proofs

def rgD (o : Option Grp) : D := match o with
  | some g => .tu [g.D, dB true]
  | none => .tu [.ag [dI 0, .sl 1 [], .sl 1 [], dI 0], dB false]
theorem win_bs (l : List Bool) {n : Nat} (h : l.length = n) : D.sl 1 (((l.map (fun b => dB b)).drop 0).take n) = BsD l := by
  rw [List.drop_zero, List.take_of_length_le (by rw [List.length_map, h]; exact Nat.le_refl _)]
theorem plain_bsl (l : List Bool) : plainL (l.map (fun b => dB b)) = true := by
  unfold plainL
  rw [List.all_eq_true]
  intro d hd
  unfold flatAll at hd
  obtain ⟨x, hx, hd⟩ := List.mem_flatMap.1 hd
  obtain ⟨z, _, rfl⟩ := List.mem_map.1 hx
  cases List.mem_singleton.1 hd
  rfl
theorem r25_jointW_ok (l : Lkg) (hl : LkIn l) (kind b : Int) (os : List Bool) (ho : os.length = l.bodies.length) : Pure Tryz.prog 58 [l.D, dI kind, dI b, .sl 1 (((os.map (fun b => dB b)).drop 0).take l.bodies.length)] (dI (jtF kind b (fun o => os.getD o false) l.joints)) := by
  rw [win_bs os ho]; exact r25_joint_ok l hl kind b os ho
theorem r25_freeW_ok (l : Lkg) (hl : LkIn l) (kn : List Bool) (hk : kn.length = l.bodies.length) (i : Nat) (hi : i < l.bodies.length) : Pure Tryz.prog 59 [l.D, .sl 1 (((kn.map (fun b => dB b)).drop 0).take l.bodies.length), dI i] (dB (freF kn (drvB l) i)) := by
  rw [win_bs kn hk]; exact r25_free_ok l hl kn hk i hi
theorem r25_driver_ok (l : Lkg) (hl : LkIn l) (kn : List Bool) (hk : kn.length = l.bodies.length) : MutD Tryz.prog 42 4 (kn.map (fun b => dB b)) 0 l.bodies.length [l.D] [] (rgD (drvG l kn)) := by
  refine MutD.intro (n := 38) tok Tryz.func42 rfl rfl rfl (Nat.le_of_ble_eq_true rfl) (by kernel_rfl) (fun B F0 w0 => ?_)
  have hd1 := hl.d1
  have cj := fun b => r25_jointW_ok l hl 0 b kn hk
  generalize hE : drvG l kn = E
  unfold drvG at hE
  refine AW.seq ?_
  refine AW.region ?_   -- "ref.go:37"
  refine AOps.run tok 3 _ _ _ _ rfl ?_
  refine AOps.nil ?_
  refine AW.seq ?_
  refine AW.seq ?_
  refine AW.region ?_   -- "ref.go:38"
  refine AOps.run tok 3 _ _ _ _ rfl ?_
  rw [List.length_map]
  refine AOps.run tok 1 _ _ _ _ rfl ?_
  refine AOps.nil ?_
  refine AW.block ?_   -- block 0
  refine AW.loopS [1, 2, 4, 10, 11, 12] (fun i : Nat => [(1, .wn true 4 (kn.map (fun b => dB b)) 0 l.bodies.length), (2, .bx l.D.flat), (4, .bx [dI 0, .sl 1 [], .sl 1 [], dI 0]), (10, .d (DriversD l.drivers)), (11, .d (dI l.drivers.length)), (12, .d (dI i))]) (fun i => i ≤ l.drivers.length ∧ fstO (drvS l kn) (l.drivers.length - i) i = E) (fun i => l.drivers.length - i) 0 rfl ⟨Nat.zero_le _, hE⟩ (fun i ⟨hi, hE⟩ => ?_)
  · skip
    refine AW.seq ?_
    refine AW.region ?_   -- "ref.go:38"
    refine AOps.run tok 1 _ _ _ _ rfl ?_
    refine AOps.nil ?_
    refine AW.seq ?_
    refine AW.cond rfl (fun h => ?_) (fun h => ?_)
    · have hii : i < l.drivers.length := by have := of_decide_eq_true h; omega
      have hjx := getDr hii
      obtain ⟨hx0, hx1⟩ := hl.d i hii
      have hS : drvS l kn i = if kn.getD (l.drivers.getD i default).body.toNat false = true then none else if 0 ≤ ancF l kn 0 (l.drivers.getD i default).body then some ⟨0, [(l.drivers.getD i default).body], [ancF l kn 0 (l.drivers.getD i default).body], i⟩ else none := rfl
      have ht := fun (g : Grp) (e : drvS l kn i = some g) => (fstO_hit hii e).symm.trans hE
      have hf := fun (e : drvS l kn i = none) => (fstO_miss hii e).symm.trans hE
      generalize l.drivers.getD i default = x at hjx hx0 hx1 hS
      have cj := cj x.body
      change Pure _ _ _ (dI (ancF l kn 0 x.body)) at cj
      generalize ancF l kn 0 x.body = p at cj hS
      refine AW.skip ?_
      refine AW.seq ?_
      refine AW.block ?_   -- block 1
      refine AW.seq ?_
      refine AW.region ?_   -- "ref.go:38"
      refine AOps.run tok 1 _ _ _ _ rfl ?_
      refine AOps.idx tok x.D rfl rfl rfl rfl (Int.natCast_nonneg i) hjx ?_
      refine AOps.run tok 4 _ _ _ _ rfl ?_
      refine AOps.nil ?_
      refine AW.seq ?_
      refine AW.seq ?_
      refine AW.region ?_   -- "ref.go:39"
      refine AOps.run tok 3 _ _ _ _ rfl ?_
      refine AOps.idxw tok rfl rfl rfl rfl hx0 (by omega) ?_
      rw [Nat.zero_add]
      refine AOps.loadel tok (dB (kn.getD x.body.toNat false)) rfl rfl rfl rfl (getBs (by omega)) rfl ?_
      cases hb : kn.getD x.body.toNat false with
      | true =>
        rw [hb, if_pos rfl] at hS
        refine AOps.nil ?_
        refine AW.condT rfl ?_
        refine AW.exit ?_
        refine AW.region ?_
        refine AOps.run tok 1 _ _ _ _ rfl ?_
        rw [wI64 (x := (i : Int) + 1) (by omega) (by omega)]
        refine AOps.run tok 1 _ _ _ _ rfl ?_
        refine AOps.nil ?_
        exact ⟨i + 1, rfl, ⟨hii, hf hS⟩, by omega⟩
      | false =>
        rw [hb, if_neg (by simp)] at hS
        refine AOps.nil ?_
        refine AW.condF rfl ?_
        refine AW.skip ?_
        refine AW.seq ?_
        refine AW.region ?_
        refine AOps.run tok 4 _ _ _ _ rfl ?_
        refine AOps.calls tok rfl rfl rfl rfl cj rfl ?_
        refine AOps.run tok 1 _ _ _ _ rfl ?_
        refine AOps.nil ?_
        refine AW.seq ?_
        refine AW.region ?_
        refine AOps.run tok 2 _ _ _ _ rfl ?_
        by_cases h0 : 0 ≤ p
        · rw [show decide (0 ≤ p) = true from decide_eq_true h0]
          rw [if_pos h0] at hS
          rw [← ht _ hS]
          refine AOps.nil ?_
          refine AW.condT rfl ?_
          refine AW.seq ?_
          refine AW.region ?_
          refine AOps.run tok 2 _ _ _ _ rfl ?_
          refine AOps.bsd tok rfl rfl rfl rfl rfl ?_
          refine AOps.run tok 1 _ _ _ _ rfl ?_
          refine AOps.bsd tok rfl rfl rfl rfl rfl ?_
          refine AOps.run tok 4 _ _ _ _ rfl ?_
          refine AOps.nil ?_
          exact AW.ret ⟨⟨_, _, rfl⟩, rfl⟩
        · rw [show decide (0 ≤ p) = false from decide_eq_false h0]
          rw [if_neg h0] at hS
          refine AOps.nil ?_
          refine AW.condF rfl ?_
          refine AW.skip ?_
          refine AW.region ?_
          refine AOps.run tok 1 _ _ _ _ rfl ?_
          rw [wI64 (x := (i : Int) + 1) (by omega) (by omega)]
          refine AOps.run tok 1 _ _ _ _ rfl ?_
          refine AOps.nil ?_
          exact ⟨i + 1, rfl, ⟨hii, hf hS⟩, by omega⟩
    have hii : i = l.drivers.length := by have := of_decide_eq_false h; omega
    rw [hii, Nat.sub_self, fstO] at hE
    subst hE
    refine AW.exit ?_
    -- END OF BODY; what follows the loop (from its exit):
    refine AW.seq ?_
    refine AW.region ?_   -- "ref.go:46"
    refine AOps.run tok 3 _ _ _ _ rfl ?_
    refine AOps.nil ?_
    exact AW.ret ⟨⟨_, _, rfl⟩, rfl⟩
theorem only_fun {n k : Nat} (hk : k < n) : (fun o => ((List.replicate n false).set k true).getD o false) = (fun o : Nat => decide ((o : Int) = (k : Int))) := by
  funext o
  by_cases e : k = o
  · subst e
    rw [getD_set_self (by rw [List.length_replicate]; exact hk), decide_eq_true rfl]
  · rw [getD_set_ne e, repl_no, decide_eq_false (by omega)]
theorem r25_onlyP_ok (l : Lkg) (hl : LkIn l) (b : Nat) (hb : b < l.bodies.length) : Pure Tryz.prog 28 [l.D, dI b] (BsD ((List.replicate l.bodies.length false).set b true)) := by
  have h := (r25_only_ok l hl b hb).pure tok (te := _) rfl
  rw [List.drop_zero, List.take_of_length_le (by rw [List.length_map, List.length_set, List.length_replicate]; exact Nat.le_refl _)] at h
  exact h
set_option maxHeartbeats 1600000 in
theorem r25_pair_ok (l : Lkg) (hl : LkIn l) (kn : List Bool) (hk : kn.length = l.bodies.length) : MutD Tryz.prog 43 4 (kn.map (fun b => dB b)) 0 l.bodies.length [l.D] [] (rgD (parG l kn (drvB l))) := by
  refine MutD.intro (n := 72) tok Tryz.func43 rfl rfl rfl (Nat.le_of_ble_eq_true rfl) (by kernel_rfl) (fun B F0 w0 => ?_)
  have hb2 := hl.b2
  have cf := fun i hi => r25_freeW_ok l hl kn hk i hi
  have cj := fun b => r25_jointW_ok l hl 0 b kn hk
  have co := fun k hk => r25_onlyP_ok l hl k hk
  have c3 : ∀ (b : Int) (k : Nat), k < l.bodies.length → Pure Tryz.prog 58 [l.D, dI 0, dI b, BsD ((List.replicate l.bodies.length false).set k true)] (dI (jtF 0 b (fun o : Nat => decide ((o : Int) = (k : Int))) l.joints)) := fun b k hk => by
    have := r25_joint_ok l hl 0 b ((List.replicate l.bodies.length false).set k true) (by rw [List.length_set, List.length_replicate])
    rw [only_fun hk] at this
    exact this
  generalize hE : parG l kn (drvB l) = E
  unfold parG at hE
  have hE : (prOut (freF kn (drvB l)) l.bodies.length (l.bodies.length - 0) 0).findSome? (fun p => parS l kn p.1 p.2) = E := hE
  generalize hfr : freF kn (drvB l) = fr at hE cf
  generalize hff : (fun p : Nat × Nat => parS l kn p.1 p.2) = f at hE
  have hfv : ∀ i k, f (i, k) = parS l kn i k := fun i k => by rw [← hff]
  refine AW.seq ?_
  refine AW.region ?_   -- "ref.go:53"
  refine AOps.run tok 3 _ _ _ _ rfl ?_
  refine AOps.nil ?_
  refine AW.seq ?_
  refine AW.seq ?_
  refine AW.region ?_   -- "ref.go:54"
  refine AOps.run tok 3 _ _ _ _ rfl ?_
  rw [List.length_map]
  refine AOps.run tok 1 _ _ _ _ rfl ?_
  refine AOps.nil ?_
  refine AW.block ?_   -- block 0
  refine AW.loopS [1, 2, 4, 13, 14] (fun i : Nat => [(1, .wn true 4 (kn.map (fun b => dB b)) 0 l.bodies.length), (2, .bx l.D.flat), (4, .bx [dI 0, .sl 1 [], .sl 1 [], dI 0]), (13, .d (dI l.bodies.length)), (14, .d (dI i))]) (fun i => i ≤ l.bodies.length ∧ (prOut fr l.bodies.length (l.bodies.length - i) i).findSome? f = E) (fun i => l.bodies.length - i) 0 rfl ⟨Nat.zero_le _, hE⟩ (fun i ⟨hi, hE⟩ => ?_)
  · skip
    refine AW.seq ?_
    refine AW.region ?_   -- "ref.go:54"
    refine AOps.run tok 1 _ _ _ _ rfl ?_
    refine AOps.nil ?_
    refine AW.seq ?_
    refine AW.cond rfl (fun h => ?_) (fun h => ?_)
    · have hii : i < l.bodies.length := by have := of_decide_eq_true h; omega
      rw [prOut_step hii] at hE
      have cfi := cf i hii
      have cji := cj i
      change Pure _ _ _ (dI (ancF l kn 0 i)) at cji
      refine AW.skip ?_
      refine AW.seq ?_
      refine AW.block ?_   -- block 1
      refine AW.seq ?_
      refine AW.region ?_   -- "ref.go:54"
      refine AOps.run tok 2 _ _ _ _ rfl ?_
      refine AOps.nil ?_
      refine AW.seq ?_
      refine AW.region ?_   -- "ref.go:55"
      refine AOps.run tok 2 _ _ _ _ rfl ?_
      rw [wI64 (x := (i : Int) + 1) (by omega) (by omega)]
      refine AOps.run tok 1 _ _ _ _ rfl ?_
      refine AOps.nil ?_
      refine AW.block ?_   -- block 2
      refine AW.loopS [1, 2, 4, 13, 14, 6, 7] (fun k : Nat => [(1, .wn true 4 (kn.map (fun b => dB b)) 0 l.bodies.length), (2, .bx l.D.flat), (4, .bx [dI 0, .sl 1 [], .sl 1 [], dI 0]), (13, .d (dI l.bodies.length)), (14, .d (dI i)), (6, .d (dI i)), (7, .d (dI k))]) (fun k => k ≤ l.bodies.length ∧ (prIn fr i (l.bodies.length - k) k ++ prOut fr l.bodies.length (l.bodies.length - (i + 1)) (i + 1)).findSome? f = E) (fun k => l.bodies.length - k) (i + 1) rfl ⟨hii, hE⟩ (fun k ⟨hkn, hE⟩ => ?_)
      · skip
        refine AW.seq ?_
        refine AW.seq ?_
        refine AW.region ?_   -- "ref.go:55"
        refine AOps.run tok 4 _ _ _ _ rfl ?_
        rw [List.length_map]
        refine AOps.run tok 1 _ _ _ _ rfl ?_
        refine AOps.nil ?_
        refine AW.cond rfl (fun h => ?_) (fun h => ?_)
        · have hkk : k < l.bodies.length := by have := of_decide_eq_true h; omega
          rw [prIn_step hkk, List.append_assoc] at hE
          have cfk := cf k hkk
          have cjk := cj k
          change Pure _ _ _ (dI (ancF l kn 0 k)) at cjk
          have hP : f (i, k) = if 0 ≤ ancF l kn 0 i ∧ 0 ≤ ancF l kn 0 k ∧ 0 ≤ jtF 0 i (fun o => decide ((o : Int) = k)) l.joints then some ⟨1, [(i : Int), k], [ancF l kn 0 i, ancF l kn 0 k, jtF 0 i (fun o => decide ((o : Int) = k)) l.joints], 0⟩ else none := hfv i k
          have ck := c3 i k hkk
          have cok := co k hkk
          generalize jtF 0 i (fun o => decide ((o : Int) = k)) l.joints = c at hP ck
          obtain ⟨a, hae⟩ : ∃ a, a = ancF l kn 0 i := ⟨_, rfl⟩
          obtain ⟨b, hbe⟩ : ∃ b, b = ancF l kn 0 k := ⟨_, rfl⟩
          rw [← hae, ← hbe] at hP
          rw [← hae] at cji
          rw [← hbe] at cjk
          refine AW.skip ?_
          refine AW.seq ?_
          refine AW.block ?_   -- block 3
          refine AW.seq ?_
          refine AW.seq ?_
          cases hfi : fr i with
          | false =>
            rw [hfi] at cfi hE
            refine AW.region ?_
            refine AOps.run tok 3 _ _ _ _ rfl ?_
            refine AOps.calls tok rfl rfl rfl rfl cfi rfl ?_
            refine AOps.run tok 8 _ _ _ _ rfl ?_
            refine AOps.nil ?_
            refine AW.condT rfl ?_
            refine AW.exit ?_
            refine AW.region ?_
            refine AOps.run tok 2 _ _ _ _ rfl ?_
            rw [wI64 (x := (k : Int) + 1) (by omega) (by omega)]
            refine AOps.run tok 1 _ _ _ _ rfl ?_
            refine AOps.nil ?_
            exact ⟨k + 1, rfl, ⟨hkk, hE⟩, by omega⟩
          | true =>
            rw [hfi] at cfi hE
            refine AW.region ?_
            refine AOps.run tok 3 _ _ _ _ rfl ?_
            refine AOps.calls tok rfl rfl rfl rfl cfi rfl ?_
            refine AOps.run tok 5 _ _ _ _ rfl ?_
            refine AOps.calls tok rfl rfl rfl rfl cfk rfl ?_
            refine AOps.run tok 2 _ _ _ _ rfl ?_
            cases hfk : fr k with
            | false =>
              rw [hfk] at hE
              refine AOps.nil ?_
              refine AW.condT rfl ?_
              refine AW.exit ?_
              refine AW.region ?_
              refine AOps.run tok 2 _ _ _ _ rfl ?_
              rw [wI64 (x := (k : Int) + 1) (by omega) (by omega)]
              refine AOps.run tok 1 _ _ _ _ rfl ?_
              refine AOps.nil ?_
              exact ⟨k + 1, rfl, ⟨hkk, hE⟩, by omega⟩
            | true =>
              rw [hfk] at hE
              rw [show (if (true && true) = true then [(i, k)] else []) = [(i, k)] from rfl, List.singleton_append, List.findSome?_cons] at hE
              refine AOps.nil ?_
              refine AW.condF rfl ?_
              refine AW.skip ?_
              refine AW.seq ?_
              refine AW.draw hmix 14 (by kernel_rfl) ?_   -- "ref.go:59"
              refine APre.run tok 3 _ _ _ _ rfl ?_
              refine APre.calls tok rfl rfl rfl rfl rfl cji rfl ?_
              refine APre.run tok 3 _ _ _ _ rfl ?_
              refine APre.calls tok rfl rfl rfl rfl rfl cjk rfl ?_
              refine APre.run tok 4 _ _ _ _ rfl ?_
              refine APre.call tok rfl rfl rfl rfl rfl cok ?_
              refine APre.call tok rfl rfl rfl rfl rfl ck ?_
              refine APre.nil ?_
              refine AOps.run tok 3 _ _ _ _ rfl ?_
              refine AOps.nil ?_
              refine AW.cut [1, 2, 4, 13, 14, 6, 7, 8, 9, 10, 61] (fun _ : Unit => [(1, .wn true 4 (kn.map (fun b => dB b)) 0 l.bodies.length), (2, .bx l.D.flat), (4, .bx [dI 0, .sl 1 [], .sl 1 [], dI 0]), (13, .d (dI l.bodies.length)), (14, .d (dI i)), (6, .d (dI i)), (7, .d (dI k)), (8, .d (dI a)), (9, .d (dI b)), (10, .d (dI c)), (61, .d (dB (decide (0 ≤ a ∧ 0 ≤ b ∧ 0 ≤ c))))]) (fun _ => True) ?_ (fun _ _ => ?_)
              · refine AW.region ?_
                refine AOps.run tok 2 _ _ _ _ rfl ?_
                by_cases h1 : 0 ≤ a
                · rw [show decide (0 ≤ a) = true from decide_eq_true h1]
                  refine AOps.run tok 3 _ _ _ _ rfl ?_
                  by_cases h2 : 0 ≤ b
                  · rw [show decide (0 ≤ b) = true from decide_eq_true h2]
                    refine AOps.run tok 4 _ _ _ _ rfl ?_
                    by_cases h3 : 0 ≤ c
                    · rw [show decide (0 ≤ c) = true from decide_eq_true h3]
                      refine AOps.run tok 1 _ _ _ _ rfl ?_
                      refine AOps.nil ?_
                      exact ⟨(), by rw [show decide (0 ≤ a ∧ 0 ≤ b ∧ 0 ≤ c) = true from decide_eq_true ⟨h1, h2, h3⟩]; rfl, trivial⟩
                    · rw [show decide (0 ≤ c) = false from decide_eq_false h3]
                      refine AOps.run tok 1 _ _ _ _ rfl ?_
                      refine AOps.nil ?_
                      exact ⟨(), by rw [show decide (0 ≤ a ∧ 0 ≤ b ∧ 0 ≤ c) = false from decide_eq_false (fun h => h3 h.2.2)]; rfl, trivial⟩
                  · rw [show decide (0 ≤ b) = false from decide_eq_false h2]
                    refine AOps.run tok 5 _ _ _ _ rfl ?_
                    refine AOps.nil ?_
                    exact ⟨(), by rw [show decide (0 ≤ a ∧ 0 ≤ b ∧ 0 ≤ c) = false from decide_eq_false (fun h => h2 h.2.1)]; rfl, trivial⟩
                · rw [show decide (0 ≤ a) = false from decide_eq_false h1]
                  refine AOps.run tok 8 _ _ _ _ rfl ?_
                  refine AOps.nil ?_
                  exact ⟨(), by rw [show decide (0 ≤ a ∧ 0 ≤ b ∧ 0 ≤ c) = false from decide_eq_false (fun h => h1 h.1)]; rfl, trivial⟩
              by_cases habc : 0 ≤ a ∧ 0 ≤ b ∧ 0 ≤ c
              · rw [if_pos habc] at hP
                rw [hP] at hE
                simp only [] at hE
                subst hE
                rw [decide_eq_true habc]
                refine AW.condT rfl ?_
                refine AW.seq ?_
                refine AW.region ?_
                refine AOps.run tok 2 _ _ _ _ rfl ?_
                refine AOps.bsd tok rfl rfl rfl rfl rfl ?_
                refine AOps.run tok 3 _ _ _ _ rfl ?_
                refine AOps.bsd tok rfl rfl rfl rfl rfl ?_
                refine AOps.run tok 3 _ _ _ _ rfl ?_
                refine AOps.nil ?_
                exact AW.ret ⟨⟨_, _, rfl⟩, rfl⟩
              · rw [if_neg habc] at hP
                rw [hP] at hE
                simp only [] at hE
                rw [decide_eq_false habc]
                refine AW.condF rfl ?_
                refine AW.skip ?_
                refine AW.region ?_
                refine AOps.run tok 2 _ _ _ _ rfl ?_
                rw [wI64 (x := (k : Int) + 1) (by omega) (by omega)]
                refine AOps.run tok 1 _ _ _ _ rfl ?_
                refine AOps.nil ?_
                exact ⟨k + 1, rfl, ⟨hkk, hE⟩, by omega⟩
        have hkk : k = l.bodies.length := by have := of_decide_eq_false h; omega
        subst hkk
        rw [Nat.sub_self, prIn, List.nil_append] at hE
        refine AW.exit ?_
        -- END OF BODY; what follows the loop (from its exit):
        refine AW.region ?_   -- "ref.go:54"
        refine AOps.run tok 1 _ _ _ _ rfl ?_
        rw [wI64 (x := (i : Int) + 1) (by omega) (by omega)]
        refine AOps.run tok 1 _ _ _ _ rfl ?_
        refine AOps.nil ?_
        exact ⟨i + 1, rfl, ⟨hii, hE⟩, by omega⟩
    have hii : i = l.bodies.length := by have := of_decide_eq_false h; omega
    subst hii
    rw [Nat.sub_self, prOut] at hE
    have hE : none = E := hE
    subst hE
    refine AW.exit ?_
    -- END OF BODY; what follows the loop (from its exit):
    refine AW.seq ?_
    refine AW.region ?_   -- "ref.go:65"
    refine AOps.run tok 3 _ _ _ _ rfl ?_
    refine AOps.nil ?_
    exact AW.ret ⟨⟨_, _, rfl⟩, rfl⟩
set_option maxHeartbeats 1600000 in
theorem r25_single_ok (l : Lkg) (hl : LkIn l) (kn : List Bool) (hk : kn.length = l.bodies.length) : MutD Tryz.prog 44 4 (kn.map (fun b => dB b)) 0 l.bodies.length [l.D] [] (rgD (sngG l kn (drvB l))) := by
  refine MutD.intro (n := 52) tok Tryz.func44 rfl rfl rfl (Nat.le_of_ble_eq_true rfl) (by kernel_rfl) (fun B F0 w0 => ?_)
  have hb2 := hl.b2
  have cf := fun i hi => r25_freeW_ok l hl kn hk i hi
  have cj := fun kd b => r25_jointW_ok l hl kd b kn hk
  generalize hE : sngG l kn (drvB l) = E
  unfold sngG at hE
  refine AW.seq ?_
  refine AW.region ?_   -- "ref.go:69"
  refine AOps.run tok 3 _ _ _ _ rfl ?_
  refine AOps.nil ?_
  refine AW.seq ?_
  refine AW.seq ?_
  refine AW.region ?_   -- "ref.go:70"
  refine AOps.run tok 3 _ _ _ _ rfl ?_
  rw [List.length_map]
  refine AOps.run tok 1 _ _ _ _ rfl ?_
  refine AOps.nil ?_
  refine AW.block ?_   -- block 0
  refine AW.loopS [1, 2, 4, 12, 13] (fun i : Nat => [(1, .wn true 4 (kn.map (fun b => dB b)) 0 l.bodies.length), (2, .bx l.D.flat), (4, .bx [dI 0, .sl 1 [], .sl 1 [], dI 0]), (12, .d (dI l.bodies.length)), (13, .d (dI i))]) (fun i => i ≤ l.bodies.length ∧ fstO (sngS l kn (drvB l)) (l.bodies.length - i) i = E) (fun i => l.bodies.length - i) 0 rfl ⟨Nat.zero_le _, hE⟩ (fun i ⟨hi, hE⟩ => ?_)
  · skip
    refine AW.seq ?_
    refine AW.region ?_   -- "ref.go:70"
    refine AOps.run tok 1 _ _ _ _ rfl ?_
    refine AOps.nil ?_
    refine AW.seq ?_
    refine AW.cond rfl (fun h => ?_) (fun h => ?_)
    · have hii : i < l.bodies.length := by have := of_decide_eq_true h; omega
      have hS : sngS l kn (drvB l) i = if freF kn (drvB l) i = false then none else if ancF l kn 0 i < 0 ∨ ancF l kn 1 i < 0 then none else some ⟨if (l.joints.getD (ancF l kn 1 i).toNat default).a = i then 2 else 3, [(i : Int)], [ancF l kn 0 i, ancF l kn 1 i], 0⟩ := rfl
      have ht := fun (g : Grp) (e : sngS l kn (drvB l) i = some g) => (fstO_hit hii e).symm.trans hE
      have hf := fun (e : sngS l kn (drvB l) i = none) => (fstO_miss hii e).symm.trans hE
      have cfi := cf i hii
      have c1 := cj 0 i
      have c2 := cj 1 i
      change Pure _ _ _ (dI (ancF l kn 0 i)) at c1
      change Pure _ _ _ (dI (ancF l kn 1 i)) at c2
      have hsl := fun h => jtF_lt (kind := 1) (b := i) (q := fun o => kn.getD o false) (js := l.joints) h
      change (0 ≤ ancF l kn 1 i → (ancF l kn 1 i).toNat < l.joints.length) at hsl
      generalize ancF l kn 0 i = a at c1 hS
      generalize ancF l kn 1 i = b at c2 hS hsl
      refine AW.skip ?_
      refine AW.seq ?_
      refine AW.block ?_   -- block 1
      refine AW.seq ?_
      refine AW.region ?_   -- "ref.go:70"
      refine AOps.run tok 2 _ _ _ _ rfl ?_
      refine AOps.nil ?_
      refine AW.seq ?_
      refine AW.seq ?_
      refine AW.region ?_   -- "ref.go:71"
      refine AOps.run tok 3 _ _ _ _ rfl ?_
      refine AOps.calls tok rfl rfl rfl rfl cfi rfl ?_
      refine AOps.run tok 1 _ _ _ _ rfl ?_
      cases hfi : freF kn (drvB l) i with
      | false =>
        rw [hfi, if_pos rfl] at hS
        refine AOps.nil ?_
        refine AW.condT rfl ?_
        refine AW.exit ?_
        refine AW.region ?_
        refine AOps.run tok 1 _ _ _ _ rfl ?_
        rw [wI64 (x := (i : Int) + 1) (by omega) (by omega)]
        refine AOps.run tok 1 _ _ _ _ rfl ?_
        refine AOps.nil ?_
        exact ⟨i + 1, rfl, ⟨hii, hf hS⟩, by omega⟩
      | true =>
        rw [hfi, if_neg (by simp)] at hS
        refine AOps.nil ?_
        refine AW.condF rfl ?_
        refine AW.skip ?_
        refine AW.seq ?_
        refine AW.draw hmix 8 (by kernel_rfl) ?_   -- "ref.go:74"
        refine APre.run tok 3 _ _ _ _ rfl ?_
        refine APre.calls tok rfl rfl rfl rfl rfl c1 rfl ?_
        refine APre.run tok 3 _ _ _ _ rfl ?_
        refine APre.calls tok rfl rfl rfl rfl rfl c2 rfl ?_
        refine APre.nil ?_
        refine AOps.run tok 2 _ _ _ _ rfl ?_
        refine AOps.nil ?_
        refine AW.seq ?_
        refine AW.cut [1, 2, 4, 12, 13, 6, 7, 8, 34] (fun _ : Unit => [(1, .wn true 4 (kn.map (fun b => dB b)) 0 l.bodies.length), (2, .bx l.D.flat), (4, .bx [dI 0, .sl 1 [], .sl 1 [], dI 0]), (12, .d (dI l.bodies.length)), (13, .d (dI i)), (6, .d (dI i)), (7, .d (dI a)), (8, .d (dI b)), (34, .d (dB (decide (a < 0 ∨ b < 0))))]) (fun _ => True) ?_ (fun _ _ => ?_)
        · refine AW.region ?_
          refine AOps.run tok 2 _ _ _ _ rfl ?_
          by_cases h1 : a < 0
          · rw [show decide (a < 0) = true from decide_eq_true h1]
            refine AOps.run tok 4 _ _ _ _ rfl ?_
            refine AOps.nil ?_
            exact ⟨(), by rw [show decide (a < 0 ∨ b < 0) = true from decide_eq_true (.inl h1)]; rfl, trivial⟩
          · rw [show decide (a < 0) = false from decide_eq_false h1]
            refine AOps.run tok 3 _ _ _ _ rfl ?_
            by_cases h2 : b < 0
            · rw [show decide (b < 0) = true from decide_eq_true h2]
              refine AOps.run tok 1 _ _ _ _ rfl ?_
              refine AOps.nil ?_
              exact ⟨(), by rw [show decide (a < 0 ∨ b < 0) = true from decide_eq_true (.inr h2)]; rfl, trivial⟩
            · rw [show decide (b < 0) = false from decide_eq_false h2]
              refine AOps.run tok 1 _ _ _ _ rfl ?_
              refine AOps.nil ?_
              exact ⟨(), by rw [show decide (a < 0 ∨ b < 0) = false from decide_eq_false (fun h => h.elim h1 h2)]; rfl, trivial⟩
        by_cases hab : a < 0 ∨ b < 0
        · rw [decide_eq_true hab]
          rw [if_pos hab] at hS
          refine AW.condT rfl ?_
          refine AW.exit ?_
          refine AW.region ?_
          refine AOps.run tok 1 _ _ _ _ rfl ?_
          rw [wI64 (x := (i : Int) + 1) (by omega) (by omega)]
          refine AOps.run tok 1 _ _ _ _ rfl ?_
          refine AOps.nil ?_
          exact ⟨i + 1, rfl, ⟨hii, hf hS⟩, by omega⟩
        · rw [decide_eq_false hab]
          rw [if_neg hab] at hS
          rw [← ht _ hS]
          have hb0 : 0 ≤ b := by omega
          have hjx := getJ (l := l.joints) (i := b.toNat) (hsl hb0)
          generalize l.joints.getD b.toNat default = x at hjx
          refine AW.condF rfl ?_
          refine AW.skip ?_
          refine AW.seq ?_
          refine AW.region ?_
          refine AOps.run tok 1 _ _ _ _ rfl ?_
          refine AOps.nil ?_
          refine AW.seq ?_
          refine AW.seq ?_
          refine AW.region ?_   -- "ref.go:79"
          refine AOps.run tok 3 _ _ _ _ rfl ?_
          refine AOps.idx tok x.D rfl rfl rfl rfl hb0 hjx ?_
          refine AOps.run tok 4 _ _ _ _ rfl ?_
          by_cases hxa : x.a = i
          · rw [show (x.a == (i : Int)) = true from decide_eq_true hxa, if_pos hxa]
            refine AOps.nil ?_
            refine AW.condT rfl ?_
            refine AW.region ?_
            refine AOps.run tok 1 _ _ _ _ rfl ?_
            refine AOps.nil ?_
            refine AW.seq ?_
            refine AW.region ?_
            refine AOps.run tok 2 _ _ _ _ rfl ?_
            refine AOps.bsd tok rfl rfl rfl rfl rfl ?_
            refine AOps.run tok 2 _ _ _ _ rfl ?_
            refine AOps.bsd tok rfl rfl rfl rfl rfl ?_
            refine AOps.run tok 3 _ _ _ _ rfl ?_
            refine AOps.nil ?_
            exact AW.ret ⟨⟨_, _, rfl⟩, rfl⟩
          · rw [show (x.a == (i : Int)) = false from decide_eq_false hxa, if_neg hxa]
            refine AOps.nil ?_
            refine AW.condF rfl ?_
            refine AW.skip ?_
            refine AW.seq ?_
            refine AW.region ?_
            refine AOps.run tok 2 _ _ _ _ rfl ?_
            refine AOps.bsd tok rfl rfl rfl rfl rfl ?_
            refine AOps.run tok 2 _ _ _ _ rfl ?_
            refine AOps.bsd tok rfl rfl rfl rfl rfl ?_
            refine AOps.run tok 3 _ _ _ _ rfl ?_
            refine AOps.nil ?_
            exact AW.ret ⟨⟨_, _, rfl⟩, rfl⟩
    have hii : i = l.bodies.length := by have := of_decide_eq_false h; omega
    rw [hii, Nat.sub_self, fstO] at hE
    subst hE
    refine AW.exit ?_
    -- END OF BODY; what follows the loop (from its exit):
    refine AW.seq ?_
    refine AW.region ?_   -- "ref.go:84"
    refine AOps.run tok 3 _ _ _ _ rfl ?_
    refine AOps.nil ?_
    exact AW.ret ⟨⟨_, _, rfl⟩, rfl⟩
end Lift
/- Groups: the reference's Find. -/
namespace Lift
open Go Go.Proofs

section
variable {P : Program} {T : Ty} {B : Nat} {F0 : Nat → Prop} {w0 : Bas} {n : Nat} {σ : St} {all : Array Oper} {o : Oper} {rest : List Oper}
theorem AOps.storeWT (hT : TOk P T) {K : St → Prop} {q : Bool} {k e i lo m : Nat} {xs : List Bool} (hd : o.dst = none) (hg : guardOk all σ o = true) (hx : seF T σ o.op = some (k, .wn q e (xs.map (fun b => dB b)) lo m, xs.map (fun b => dB b), i, 0, dB true)) (hi : i < xs.length)
    (h : AOps P B F0 w0 n all rest K ((k, .wn q e ((xs.set i true).map (fun b => dB b)) lo m) :: σ)) : AOps P B F0 w0 n all (o :: rest) K σ := by
  refine AOps.storewn hT (dB (xs.getD i false)) hd hg hx (getBs hi) rfl ?_
  show AOps P B F0 w0 n all rest K ((k, .wn q e ((xs.map (fun b => dB b)).set i (dB true)) lo m) :: σ)
  rw [List.map_set] at h
  exact h
end
abbrev zG : Grp := ⟨0, [], [], 0⟩
theorem nxt_eq (l : Lkg) (kn dr : List Bool) : nxtG l kn dr = match (match drvG l kn with | some g => some g | none => parG l kn dr) with
    | some g => some g
    | none => sngG l kn dr := by
  unfold nxtG
  cases drvG l kn <;> rfl
set_option maxHeartbeats 1600000 in
theorem r25_Find_ok (l : Lkg) (hl : LkIn l) : Pure Tryz.prog 29 [l.D] (GrpsD (findF l).gs) := by
  refine Pure.intro (n := 57) tok Tryz.func29 rfl rfl rfl (Nat.le_of_ble_eq_true rfl) (by kernel_rfl) (fun B F0 w0 => ?_)
  have hb1 := hl.b1
  have hb2 := hl.b2
  have cd := fun kn hk => r25_driver_ok l hl kn hk
  have cp := fun kn hk => r25_pair_ok l hl kn hk
  have cs := fun kn hk => r25_single_ok l hl kn hk
  generalize hE : (findF l).gs = E
  unfold findF at hE
  refine AW.seq ?_
  refine AW.region ?_   -- "ref.go:88"
  refine AOps.run tok 2 _ _ _ _ rfl ?_
  refine AOps.nil ?_
  refine AW.seq ?_
  refine AW.region ?_   -- "ref.go:89"
  refine AOps.run tok 1 _ _ _ _ rfl ?_
  refine AOps.callo tok rfl rfl rfl rfl (r25_only_ok l hl 0 hb1) (plain_bsl _) ?_
  refine AOps.run tok 1 _ _ _ _ rfl ?_
  refine AOps.nil ?_
  refine AW.seq ?_
  refine AW.region ?_   -- "ref.go:90"
  refine AOps.run tok 1 _ _ _ _ rfl ?_
  refine AOps.nil ?_
  refine AW.seq ?_
  refine AW.seq ?_
  refine AW.region ?_   -- "ref.go:91"
  refine AOps.run tok 3 _ _ _ _ rfl ?_
  rw [List.length_map]
  refine AOps.run tok 1 _ _ _ _ rfl ?_
  refine AOps.nil ?_
  refine AW.block ?_   -- block 0
  refine AW.loopS [1, 3, 4, 13, 14] (fun s : Nat × FSt => [(1, .bx l.D.flat), (3, .wn false 4 (s.2.kn.map (fun b => dB b)) 0 l.bodies.length), (4, .ow 29 (s.2.gs.map Grp.D)), (13, .d (dI l.bodies.length)), (14, .d (dI s.1))]) (fun s => s.1 ≤ l.bodies.length ∧ s.2.kn.length = l.bodies.length ∧ s.2.gs.length ≤ s.1 ∧ (fgo l (drvB l) (l.bodies.length - s.1) s.2).gs = E) (fun s => l.bodies.length - s.1) (0, ⟨(List.replicate l.bodies.length false).set 0 true, List.replicate l.joints.length false, []⟩) rfl ⟨Nat.zero_le _, by simp, Nat.zero_le _, hE⟩ (fun s hs => ?_)
  · obtain ⟨i, s⟩ := s
    obtain ⟨hi, hk, hgl, hE⟩ := hs
    have hi : i ≤ l.bodies.length := hi
    have hk : s.kn.length = l.bodies.length := hk
    have hgl : s.gs.length ≤ i := hgl
    have hE : (fgo l (drvB l) (l.bodies.length - i) s).gs = E := hE
    show AW _ _ _ _ _ _ _ [(1, .bx l.D.flat), (3, .wn false 4 (s.kn.map (fun b => dB b)) 0 l.bodies.length), (4, .ow 29 (s.gs.map Grp.D)), (13, .d (dI l.bodies.length)), (14, .d (dI i))]
    refine AW.seq ?_
    refine AW.region ?_   -- "ref.go:91"
    refine AOps.run tok 1 _ _ _ _ rfl ?_
    refine AOps.nil ?_
    refine AW.seq ?_
    refine AW.cond rfl (fun h => ?_) (fun h => ?_)
    · have hii : i < l.bodies.length := by have := of_decide_eq_true h; omega
      rw [show l.bodies.length - i = (l.bodies.length - (i + 1)) + 1 by omega] at hE
      have cd := cd s.kn hk
      have cp := cp s.kn hk
      have cs := cs s.kn hk
      have hnx := nxt_eq l s.kn (drvB l)
      refine AW.skip ?_
      refine AW.seq ?_
      refine AW.block ?_   -- block 1
      refine AW.cut [1, 3, 4, 13, 14, 5, 6] (fun o : Option Grp => [(1, .bx l.D.flat), (3, .wn false 4 (s.kn.map (fun b => dB b)) 0 l.bodies.length), (4, .ow 29 (s.gs.map Grp.D)), (13, .d (dI l.bodies.length)), (14, .d (dI i)), (5, .bx (o.getD zG).D.flat), (6, .d (dB o.isSome))]) (fun o => o = drvG l s.kn) ?_ (fun o ho => ?_)
      · cases hd : drvG l s.kn with
        | some g =>
          rw [hd] at cd
          refine AW.region ?_
          refine AOps.run tok 2 _ _ _ _ rfl ?_
          refine AOps.calld tok rfl rfl rfl rfl cd hb1 (plain_bsl _) ?_
          refine AOps.run tok 6 _ _ _ _ rfl ?_
          refine AOps.nil ?_
          exact ⟨some g, rfl, rfl⟩
        | none =>
          rw [hd] at cd
          refine AW.region ?_
          refine AOps.run tok 2 _ _ _ _ rfl ?_
          refine AOps.calld tok rfl rfl rfl rfl cd hb1 (plain_bsl _) ?_
          refine AOps.run tok 6 _ _ _ _ rfl ?_
          refine AOps.nil ?_
          exact ⟨none, rfl, rfl⟩
      refine AW.cut [1, 3, 4, 13, 14, 5, 6] (fun o : Option Grp => [(1, .bx l.D.flat), (3, .wn false 4 (s.kn.map (fun b => dB b)) 0 l.bodies.length), (4, .ow 29 (s.gs.map Grp.D)), (13, .d (dI l.bodies.length)), (14, .d (dI i)), (5, .bx (o.getD zG).D.flat), (6, .d (dB o.isSome))]) (fun o => o = match drvG l s.kn with | some g => some g | none => parG l s.kn (drvB l)) ?_ (fun o2 ho2 => ?_)
      · rw [← ho]
        cases o with
        | some g =>
          refine AW.seq ?_
          refine AW.region ?_
          refine AOps.run tok 2 _ _ _ _ rfl ?_
          refine AOps.nil ?_
          refine AW.condF rfl ?_
          refine AW.skip ?_
          exact ⟨some g, rfl, rfl⟩
        | none =>
          refine AW.seq ?_
          refine AW.region ?_
          refine AOps.run tok 2 _ _ _ _ rfl ?_
          refine AOps.nil ?_
          refine AW.condT rfl ?_
          cases hp : parG l s.kn (drvB l) with
          | some g =>
            rw [hp] at cp
            refine AW.region ?_
            refine AOps.run tok 2 _ _ _ _ rfl ?_
            refine AOps.calld tok rfl rfl rfl rfl cp hb1 (plain_bsl _) ?_
            refine AOps.run tok 5 _ _ _ _ rfl ?_
            refine AOps.nil ?_
            exact ⟨some g, rfl, rfl⟩
          | none =>
            rw [hp] at cp
            refine AW.region ?_
            refine AOps.run tok 2 _ _ _ _ rfl ?_
            refine AOps.calld tok rfl rfl rfl rfl cp hb1 (plain_bsl _) ?_
            refine AOps.run tok 5 _ _ _ _ rfl ?_
            refine AOps.nil ?_
            exact ⟨none, rfl, rfl⟩
      rw [← ho2] at hnx
      clear ho ho2
      refine AW.cut [1, 3, 4, 13, 14, 5, 6] (fun o : Option Grp => [(1, .bx l.D.flat), (3, .wn false 4 (s.kn.map (fun b => dB b)) 0 l.bodies.length), (4, .ow 29 (s.gs.map Grp.D)), (13, .d (dI l.bodies.length)), (14, .d (dI i)), (5, .bx (o.getD zG).D.flat), (6, .d (dB o.isSome))]) (fun o => o = nxtG l s.kn (drvB l)) ?_ (fun o3 ho3 => ?_)
      · rw [hnx]
        cases o2 with
        | some g =>
          refine AW.seq ?_
          refine AW.region ?_
          refine AOps.run tok 2 _ _ _ _ rfl ?_
          refine AOps.nil ?_
          refine AW.condF rfl ?_
          refine AW.skip ?_
          exact ⟨some g, rfl, rfl⟩
        | none =>
          refine AW.seq ?_
          refine AW.region ?_
          refine AOps.run tok 2 _ _ _ _ rfl ?_
          refine AOps.nil ?_
          refine AW.condT rfl ?_
          cases hp : sngG l s.kn (drvB l) with
          | some g =>
            rw [hp] at cs
            refine AW.region ?_
            refine AOps.run tok 2 _ _ _ _ rfl ?_
            refine AOps.calld tok rfl rfl rfl rfl cs hb1 (plain_bsl _) ?_
            refine AOps.run tok 5 _ _ _ _ rfl ?_
            refine AOps.nil ?_
            exact ⟨some g, rfl, rfl⟩
          | none =>
            rw [hp] at cs
            refine AW.region ?_
            refine AOps.run tok 2 _ _ _ _ rfl ?_
            refine AOps.calld tok rfl rfl rfl rfl cs hb1 (plain_bsl _) ?_
            refine AOps.run tok 5 _ _ _ _ rfl ?_
            refine AOps.nil ?_
            exact ⟨none, rfl, rfl⟩
      clear hnx
      cases o3 with
      | none =>
        rw [fgo_end ho3.symm] at hE
        subst hE
        refine AW.seq ?_
        refine AW.seq ?_
        refine AW.region ?_
        refine AOps.run tok 2 _ _ _ _ rfl ?_
        refine AOps.nil ?_
        refine AW.condT rfl ?_
        refine AW.exit ?_
        refine AW.seq ?_
        refine AW.region ?_
        refine AOps.run tok 2 _ _ _ _ rfl ?_
        refine AOps.nil ?_
        exact AW.ret rfl
      | some g =>
        have hgi := (nxtG_in hl ho3.symm).1
        have hE : (fgo l (drvB l) (l.bodies.length - (i + 1)) ⟨setTs s.kn g.bs, setTs s.us g.js, s.gs ++ [g]⟩).gs = E := by
          rw [fgo] at hE
          simp only [← ho3] at hE
          exact hE
        have hbl := (nxtG_len ho3.symm).1
        refine AW.seq ?_
        refine AW.seq ?_
        refine AW.region ?_
        refine AOps.run tok 2 _ _ _ _ rfl ?_
        refine AOps.nil ?_
        refine AW.condF rfl ?_
        refine AW.skip ?_
        refine AW.seq ?_
        refine AW.region ?_
        refine AOps.run tok 2 _ _ _ _ rfl ?_
        refine AOps.bsd tok rfl rfl rfl rfl rfl ?_
        refine AOps.appo tok rfl rfl rfl rfl rfl rfl (by show ((s.gs.map Grp.D).length + 1) * 64 ≤ _; rw [List.length_map]; omega) (by show (s.gs.map Grp.D).length + 1 ≤ _; rw [List.length_map]; omega) ?_
        refine AOps.run tok 1 _ _ _ _ rfl ?_
        refine AOps.nil ?_
        refine AW.seq ?_
        refine AW.region ?_
        refine AOps.run tok 3 _ _ _ _ rfl ?_
        rw [List.length_map]
        refine AOps.run tok 1 _ _ _ _ rfl ?_
        refine AOps.nil ?_
        refine AW.block ?_
        refine AW.loopS [1, 3, 4, 13, 14, 5, 45, 46, 47] (fun q : Nat => [(1, .bx l.D.flat), (3, .wn false 4 ((setTs s.kn (g.bs.take q)).map (fun b => dB b)) 0 l.bodies.length), (4, .ow 29 ((s.gs ++ [g]).map Grp.D)), (13, .d (dI l.bodies.length)), (14, .d (dI i)), (5, .bx g.D.flat), (45, .d (IsDG g.bs)), (46, .d (dI g.bs.length)), (47, .d (dI q))]) (fun q => q ≤ g.bs.length) (fun q => g.bs.length - q) 0 (by rw [List.map_append]; rfl) (Nat.zero_le _) (fun q hq => ?_)
        refine AW.seq ?_
        refine AW.region ?_
        refine AOps.run tok 1 _ _ _ _ rfl ?_
        refine AOps.nil ?_
        refine AW.seq ?_
        refine AW.cond rfl (fun h => ?_) (fun h => ?_)
        · have hqq : q < g.bs.length := by have := of_decide_eq_true h; omega
          have hgq := getIs hqq
          obtain ⟨y0, y1⟩ := hgi _ (getMem hqq)
          have hset := setTs_take (l := s.kn) hqq
          have hVl : (setTs s.kn (g.bs.take q)).length = l.bodies.length := by rw [setTs_length, hk]
          generalize g.bs.getD q 0 = y at hgq y0 y1 hset
          generalize setTs s.kn (g.bs.take q) = V at hset hVl
          refine AW.skip ?_
          refine AW.seq ?_
          refine AW.block ?_
          refine AW.seq ?_
          refine AW.region ?_
          refine AOps.idx tok (dI y) rfl rfl rfl rfl (Int.natCast_nonneg q) hgq ?_
          refine AOps.run tok 2 _ _ _ _ rfl ?_
          refine AOps.nil ?_
          refine AW.region ?_
          refine AOps.run tok 2 _ _ _ _ rfl ?_
          refine AOps.idxw tok rfl rfl rfl rfl y0 (by omega) ?_
          rw [Nat.zero_add]
          refine AOps.storeWT tok rfl rfl rfl (by rw [hVl]; omega) ?_
          refine AOps.nil ?_
          rw [hset]
          refine AW.region ?_
          refine AOps.run tok 1 _ _ _ _ rfl ?_
          rw [wI64 (x := (q : Int) + 1) (by omega) (by omega)]
          refine AOps.run tok 1 _ _ _ _ rfl ?_
          refine AOps.nil ?_
          exact ⟨q + 1, rfl, hqq, by omega⟩
        have hqq : q = g.bs.length := by have := of_decide_eq_false h; omega
        subst hqq
        rw [List.take_length]
        refine AW.exit ?_
        refine AW.region ?_
        refine AOps.run tok 1 _ _ _ _ rfl ?_
        rw [wI64 (x := (i : Int) + 1) (by omega) (by omega)]
        refine AOps.run tok 1 _ _ _ _ rfl ?_
        refine AOps.nil ?_
        exact ⟨(i + 1, ⟨setTs s.kn g.bs, setTs s.us g.js, s.gs ++ [g]⟩), rfl, ⟨hii, by show (setTs s.kn g.bs).length = _; rw [setTs_length, hk], by show (s.gs ++ [g]).length ≤ _; rw [List.length_append, List.length_singleton]; omega, hE⟩, by show l.bodies.length - (i + 1) < l.bodies.length - i; omega⟩
    have hii : i = l.bodies.length := by have := of_decide_eq_false h; omega
    subst hii
    rw [Nat.sub_self, fgo] at hE
    subst hE
    refine AW.exit ?_
    -- END OF BODY; what follows the loop (from its exit):
    refine AW.seq ?_
    refine AW.region ?_   -- "ref.go:107"
    refine AOps.run tok 2 _ _ _ _ rfl ?_
    refine AOps.nil ?_
    exact AW.ret rfl
end Lift
