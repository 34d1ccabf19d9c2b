/- Parts of the proof, one behind the other: the logic, the contracts of the functions that the statement reaches. -/
import Derived.Test.YtgednajkanfpaaaGreatD7D
import Derived.Laws.StructEq
import Derived.OpenShut
set_option linter.unusedVariables false
set_option linter.unusedSimpArgs false
namespace Lift
open Go Go.Proofs
abbrev Po := Option Rat × V2
abbrev PsL (ps : List Po) : D := .sl 10 (ps.map (fun p => (PoQ p).D))
theorem PoL_q (ps : List Po) : PoL (ps.map PoQ) = PsL ps := by
  show D.sl 10 _ = D.sl 10 _
  rw [List.map_map]; rfl
def szL (k : Nat) (ps : List Po) : Prop := ∀ i, i < ps.length → szP (ps.getD i (none, (0, 0))) ≤ k
theorem getPs {ps : List Po} {i : Nat} (h : i < ps.length) : (ps.map (fun p => (PoQ p).D))[i]? = some (PoQ (ps.getD i (none, (0, 0)))).D := by simp [h]
theorem getVl {vs : List V2} {i : Nat} (h : i < vs.length) : (vs.map (fun v => (VQ v).D))[i]? = some (VQ (vs.getD i (0, 0))).D := by simp [h]
theorem posOk_q (ps : List Po) : posOk (ps.map PoQ) = true := by
  unfold posOk
  rw [List.all_eq_true]
  intro x hx
  obtain ⟨p, _, rfl⟩ := List.mem_map.1 hx
  exact PoQ_okB p
theorem chkPo_q {ps : List Po} (h2 : 2 ≤ ps.length) (h5 : ps.length ≤ 5) : chkPo (ps.map PoQ) = 0 := by
  unfold chkPo
  rw [List.length_map, if_neg (by omega), if_neg (by omega), posOk_q, if_neg (by simp)]
theorem szL_w {ps : List Po} {k : Nat} (h : szL k ps) : ∀ i, i < (ps.map PoQ).length → ((ps.map PoQ).getD i default).w k := fun i hi => by
  have hi' : i < ps.length := by simpa using hi
  rw [show (ps.map PoQ).getD i default = PoQ (ps.getD i (none, (0, 0))) from by simp [List.getD_eq_getElem?_getD, hi']]
  exact PoQ_w (h i hi')
theorem take_snocD {α : Type} (l : List α) (d : α) {i : Nat} (h : i < l.length) : l.take (i + 1) = l.take i ++ [l.getD i d] := by
  rw [List.take_add_one, List.getD_eq_getElem?_getD, List.getElem?_eq_getElem h]; rfl
theorem threepos_images_ok (ps : List Po) (q : V2) {k : Nat} (hs : szL k ps) (hq : szV q ≤ k) (hl : ps.length ≤ 1000000) (h1 : 1 ≤ k) (hk : k ≤ 10000) : Pure Tryz.prog 155 [PsL ps, (VQ q).D] (.tu [VL (ps.map (fun p => appF p q)), nilE]) := by
  refine Pure.intro (n := 32) tok Tryz.func155 rfl rfl rfl (Nat.le_of_ble_eq_true rfl) (by kernel_rfl) (fun B F0 w0 => ?_)
  refine AW.seq ?_
  refine AW.region ?_
  refine AOps.run tok 3 _ _ _ _ rfl ?_
  refine AOps.nil ?_
  refine AW.seq ?_
  refine AW.region ?_
  refine AOps.run tok 1 _ _ _ _ rfl ?_
  refine AOps.nil ?_
  refine AW.seq ?_
  refine AW.seq ?_
  refine AW.region ?_
  refine AOps.run tok 2 _ _ _ _ rfl ?_
  rw [List.length_map]
  refine AOps.run tok 1 _ _ _ _ rfl ?_
  refine AOps.nil ?_
  refine AW.block ?_
  refine AW.loopS [3, 6, 11, 12, 13] (fun i : Nat => [(3, .bx (VQ q).D.flat), (6, .ow 27 (((ps.take i).map (fun p => appF p q)).map (fun v => (VQ v).D))), (11, .d (PsL ps)), (12, .d (dI ps.length)), (13, .d (dI i))]) (fun i => i ≤ ps.length) (fun i => ps.length - i) 0 rfl (Nat.zero_le _) (fun i hi => ?_)
  · skip
    refine AW.seq ?_
    refine AW.region ?_
    refine AOps.run tok 1 _ _ _ _ rfl ?_
    refine AOps.nil ?_
    refine AW.seq ?_
    refine AW.cond rfl (fun h => ?_) (fun h => ?_)
    · have hii : i < ps.length := by have := of_decide_eq_true h; omega
      have hg := getPs hii
      have ca := pose_Apply_ok (ps.getD i (none, (0, 0))) q (hs i hii) hq h1 (by omega)
      have htk := take_snocD ps (none, (0, 0)) hii
      have hol : (ps.take i).length = i := by rw [List.length_take]; omega
      generalize ps.getD i (none, (0, 0)) = p at hg ca htk
      refine AW.skip ?_
      refine AW.seq ?_
      refine AW.block ?_
      refine AW.seq ?_
      refine AW.region ?_
      refine AOps.idx tok (PoQ p).D rfl rfl rfl rfl (Int.natCast_nonneg i) hg ?_
      refine AOps.run tok 3 _ _ _ _ rfl ?_
      refine AOps.nil ?_
      refine AW.seq ?_
      refine AW.region ?_
      refine AOps.run tok 2 _ _ _ _ rfl ?_
      refine AOps.call tok rfl rfl rfl rfl ca ?_
      refine AOps.run tok 6 _ _ _ _ rfl ?_
      refine AOps.nil ?_
      refine AW.seq ?_
      refine AW.seq ?_
      refine AW.region ?_
      refine AOps.run tok 1 _ _ _ _ rfl ?_
      refine AOps.err tok rfl rfl rfl rfl rfl ?_
      refine AOps.nil ?_
      refine AW.condF rfl ?_
      refine AW.skip ?_
      refine AW.region ?_
      refine AOps.run tok 2 _ _ _ _ rfl ?_
      refine AOps.bs tok rfl rfl rfl rfl ?_
      refine AOps.appo tok rfl rfl rfl rfl rfl rfl (by rw [List.length_map, List.length_map, hol]; show (_ + 1) * 112 ≤ _; omega) (by rw [List.length_map, List.length_map, hol]; show _ + 1 ≤ _; omega) ?_
      refine AOps.run tok 1 _ _ _ _ rfl ?_
      refine AOps.nil ?_
      refine AW.region ?_
      refine AOps.run tok 1 _ _ _ _ rfl ?_
      rw [wI64 (x := (i : Int) + 1) (by omega) (by omega)]
      refine AOps.run tok 1 _ _ _ _ rfl ?_
      refine AOps.nil ?_
      exact ⟨i + 1, by rw [htk, List.map_append, List.map_append]; rfl, hii, by omega⟩
    have hii : i = ps.length := by have := of_decide_eq_false h; omega
    subst hii
    rw [List.take_length]
    refine AW.exit ?_
    refine AW.seq ?_
    refine AW.region ?_
    refine AOps.run tok 3 _ _ _ _ rfl ?_
    refine AOps.nil ?_
    exact AW.ret rfl
def pasB (ps : List Po) (d : V2 × V2 × Rat) : Bool := ps.all fun p => decide (dt (vsub (appF p d.2.1) d.1) (vsub (appF p d.2.1) d.1) = d.2.2)
theorem pas_no {ps : List Po} {d : V2 × V2 × Rat} {i : Nat} (hi : i < ps.length) (h : dt (vsub (appF (ps.getD i (none, (0, 0))) d.2.1) d.1) (vsub (appF (ps.getD i (none, (0, 0))) d.2.1) d.1) ≠ d.2.2) : pasB ps d = false := by
  unfold pasB
  rw [List.all_eq_false]
  exact ⟨ps.getD i (none, (0, 0)), by rw [List.getD_eq_getElem?_getD, List.getElem?_eq_getElem hi]; exact List.getElem_mem hi, by rw [decide_eq_false h]; simp⟩
theorem pas_yes {ps : List Po} {d : V2 × V2 × Rat} (h : ∀ i, i < ps.length → dt (vsub (appF (ps.getD i (none, (0, 0))) d.2.1) d.1) (vsub (appF (ps.getD i (none, (0, 0))) d.2.1) d.1) = d.2.2) : pasB ps d = true := by
  unfold pasB
  rw [List.all_eq_true]
  intro x hx
  obtain ⟨i, hi, rfl⟩ := List.mem_iff_getElem.1 hx
  have := h i hi
  rw [List.getD_eq_getElem?_getD, List.getElem?_eq_getElem hi] at this
  exact decide_eq_true this
def szD (d : V2 × V2 × Rat) : Nat := max (szV d.1) (max (szV d.2.1) (LQ d.2.2))
theorem szD_1 {d : V2 × V2 × Rat} {k : Nat} (h : szD d ≤ k) : szV d.1 ≤ k ∧ szV d.2.1 ≤ k ∧ LQ d.2.2 ≤ k := by unfold szD at h; omega
theorem DyQ_w {d : V2 × V2 × Rat} {k : Nat} (h : szD d ≤ k) : (DyQ d).w k := ⟨VQ_w (szD_1 h).1, VQ_w (szD_1 h).2.1, Qr_w _ (szD_1 h).2.2⟩
theorem cmpNe (a b : Rat) : (cmpQ a b != 0) = !decide (a = b) := by unfold bne; rw [cmpQ0]
theorem threepos_Passes_ok (ps : List Po) (d : V2 × V2 × Rat) {k : Nat} (h : szL k ps) (hd : szD d ≤ k) (h2 : 2 ≤ ps.length) (h5 : ps.length ≤ 5) (h1 : 1 ≤ k) (hk : k ≤ 1000) : Pure Tryz.prog 128 [PsL ps, (DyQ d).D] (.tu [dB (pasB ps d), nilE]) := by
  refine Pure.intro (n := 59) tok Tryz.func128 rfl rfl rfl (Nat.le_of_ble_eq_true rfl) (by kernel_rfl) (fun B F0 w0 => ?_)
  have cP := poles_Check_ok (ps.map PoQ) (by rw [List.length_map]; omega) (szL_w h) (by omega)
  rw [PoL_q, chkPo_q h2 h5] at cP
  obtain ⟨hd1, hd2, hd3⟩ := szD_1 hd
  have v1 := threepos_valid_ok (VQ d.1) (VQ_w hd1) (by omega)
  have v2 := threepos_valid_ok (VQ d.2.1) (VQ_w hd2) (by omega)
  have v3 := fraction_Valid_ok (Qr d.2.2) (Qr_w _ hd3) (by omega)
  rw [VQ_ok] at v1 v2
  rw [Qr_ok] at v3
  have cI := threepos_images_ok ps d.2.1 h hd2 (by omega) h1 (by omega)
  have hsz : ∀ i, i < ps.length → szV (appF (ps.getD i (none, (0, 0))) d.2.1) ≤ 11 * k + 10 := fun i hi => szV_app _ _ (h i hi) hd2 h1
  have hno := fun i hi => pas_no (ps := ps) (d := d) (i := i) hi
  have hyes := pas_yes (ps := ps) (d := d)
  generalize pasB ps d = E at hno hyes ⊢
  obtain ⟨c, m, r⟩ := d
  simp only [] at hd1 hd2 hd3 v1 v2 v3 cI hsz hno hyes
  have cS := fun a (ha : szV a ≤ 11 * k + 10) => threepos_sub_ok a c (k := 11 * k + 10) ha (by omega) (by omega)
  have cQ := fun a (ha : szV a ≤ 11 * k + 10) => threepos_square_ok (vsub a c) (k := 12 * k + 11) (Nat.le_trans (szV_sub a c ha hd1) (by omega)) (by omega)
  have cC := fun a (ha : szV a ≤ 11 * k + 10) => fraction_Cmp_ok (Qr (dt (vsub a c) (vsub a c))) (Qr r) (k := 100 * k + 100) (Qr_w _ (Nat.le_trans (LQ_dt _ _ (szV_sub a c ha hd1) (szV_sub a c ha hd1)).1 (by omega))) (Qr_w _ (by omega)) (by omega)
  simp only [Qr_val] at cC
  refine AW.seq ?_
  refine AW.region ?_
  refine AOps.run tok 3 _ _ _ _ rfl ?_
  refine AOps.nil ?_
  refine AW.seq ?_
  refine AW.seq ?_
  refine AW.region ?_
  refine AOps.run tok 1 _ _ _ _ rfl ?_
  refine AOps.call tok rfl rfl rfl rfl cP ?_
  refine AOps.run tok 1 _ _ _ _ rfl ?_
  refine AOps.nil ?_
  refine AW.seq ?_
  refine AW.region ?_
  refine AOps.run tok 1 _ _ _ _ rfl ?_
  refine AOps.err tok rfl rfl rfl rfl rfl ?_
  refine AOps.nil ?_
  refine AW.condF rfl ?_
  refine AW.skip ?_
  refine AW.seq ?_
  refine AW.seq ?_
  refine AW.region ?_
  refine AOps.run tok 2 _ _ _ _ rfl ?_
  refine AOps.call tok rfl rfl rfl rfl v1 ?_
  refine AOps.run tok 4 _ _ _ _ rfl ?_
  refine AOps.call tok rfl rfl rfl rfl v2 ?_
  refine AOps.run tok 5 _ _ _ _ rfl ?_
  refine AOps.call tok rfl rfl rfl rfl v3 ?_
  refine AOps.run tok 2 _ _ _ _ rfl ?_
  refine AOps.nil ?_
  refine AW.condF rfl ?_
  refine AW.skip ?_
  refine AW.seq ?_
  refine AW.region ?_
  refine AOps.run tok 3 _ _ _ _ rfl ?_
  refine AOps.call tok rfl rfl rfl rfl cI ?_
  refine AOps.run tok 5 _ _ _ _ rfl ?_
  refine AOps.nil ?_
  refine AW.seq ?_
  refine AW.seq ?_
  refine AW.region ?_
  refine AOps.run tok 1 _ _ _ _ rfl ?_
  refine AOps.err tok rfl rfl rfl rfl rfl ?_
  refine AOps.nil ?_
  refine AW.condF rfl ?_
  refine AW.skip ?_
  refine AW.seq ?_
  refine AW.seq ?_
  refine AW.region ?_
  refine AOps.run tok 2 _ _ _ _ rfl ?_
  rw [List.length_map, List.length_map]
  refine AOps.run tok 1 _ _ _ _ rfl ?_
  refine AOps.nil ?_
  refine AW.block ?_
  refine AW.loopS [3, 43, 44, 45] (fun i : Nat => [(3, .bx (DyQ (c, m, r)).D.flat), (43, .d (VL (ps.map (fun p => appF p m)))), (44, .d (dI ps.length)), (45, .d (dI i))]) (fun i => i ≤ ps.length ∧ ∀ j, j < i → dt (vsub (appF (ps.getD j (none, (0, 0))) m) c) (vsub (appF (ps.getD j (none, (0, 0))) m) c) = r) (fun i => ps.length - i) 0 rfl ⟨Nat.zero_le _, fun j hj => by omega⟩ (fun i ⟨hi, hall⟩ => ?_)
  refine AW.seq ?_
  refine AW.region ?_
  refine AOps.run tok 1 _ _ _ _ rfl ?_
  refine AOps.nil ?_
  refine AW.seq ?_
  refine AW.cond rfl (fun h => ?_) (fun h => ?_)
  · have hii : i < ps.length := by have := of_decide_eq_true h; omega
    have hg := getVl (vs := ps.map (fun p => appF p m)) (i := i) (by rw [List.length_map]; exact hii)
    rw [show (ps.map (fun p => appF p m)).getD i (0, 0) = appF (ps.getD i (none, (0, 0))) m from by simp [List.getD_eq_getElem?_getD, hii]] at hg
    have hsi := hsz i hii
    have hno := hno i hii
    obtain ⟨a, hae⟩ : ∃ a, a = appF (ps.getD i (none, (0, 0))) m := ⟨_, rfl⟩
    rw [← hae] at hg hsi hno
    have cS := cS a hsi
    have cQ := cQ a hsi
    have cC := cC a hsi
    refine AW.skip ?_
    refine AW.seq ?_
    refine AW.block ?_
    refine AW.seq ?_
    refine AW.region ?_
    refine AOps.idx tok (VQ a).D rfl rfl rfl rfl (Int.natCast_nonneg i) hg ?_
    refine AOps.run tok 3 _ _ _ _ rfl ?_
    refine AOps.nil ?_
    refine AW.seq ?_
    refine AW.draw hmix 9 (by kernel_rfl) ?_
    refine APre.run tok 3 _ _ _ _ rfl ?_
    refine APre.call tok rfl rfl rfl rfl rfl cS ?_
    refine APre.call tok rfl rfl rfl rfl rfl cQ ?_
    refine APre.run tok 2 _ _ _ _ rfl ?_
    refine APre.call tok rfl rfl rfl rfl rfl cC ?_
    refine APre.run tok 1 _ _ _ _ rfl ?_
    rw [cmpNe]
    refine APre.nil ?_
    refine AOps.nil ?_
    by_cases hr : dt (vsub a c) (vsub a c) = r
    · rw [decide_eq_true hr]
      refine AW.condF rfl ?_
      refine AW.skip ?_
      refine AW.region ?_
      refine AOps.run tok 1 _ _ _ _ rfl ?_
      rw [wI64 (x := (i : Int) + 1) (by omega) (by omega)]
      refine AOps.run tok 1 _ _ _ _ rfl ?_
      refine AOps.nil ?_
      exact ⟨i + 1, rfl, ⟨hii, fun j hj => by
        by_cases e : j = i
        · subst e; rw [← hae]; exact hr
        · exact hall j (by omega)⟩, by omega⟩
    · rw [decide_eq_false hr, hno hr]
      refine AW.condT rfl ?_
      refine AW.seq ?_
      refine AW.region ?_
      refine AOps.run tok 2 _ _ _ _ rfl ?_
      refine AOps.nil ?_
      exact AW.ret rfl
  have hii : i = ps.length := by have := of_decide_eq_false h; omega
  subst hii
  rw [hyes hall]
  refine AW.exit ?_
  refine AW.seq ?_
  refine AW.region ?_
  refine AOps.run tok 2 _ _ _ _ rfl ?_
  refine AOps.nil ?_
  exact AW.ret rfl
end Lift
namespace Lift
open Go Go.Proofs
instance : Inhabited DyD := ⟨DyQ ((0, 0), (0, 0), 0)⟩
def chkD (l : List PoD) (d e : DyD) : Nat := if chkPo l ≠ 0 then chkPo l else if (d.okB && e.okB) = false then 2 else if sgI d.r.val.num ≤ 0 ∨ sgI e.r.val.num ≤ 0 then 3 else if d.m.val = e.m.val ∨ d.c.val = e.c.val then 8 else
  if pasB (l.map PoD.val) d.val = false ∨ pasB (l.map PoD.val) e.val = false then 21 else 0
theorem chkPo_ok {l : List PoD} (h : chkPo l = 0) : 2 ≤ l.length ∧ l.length ≤ 5 ∧ posOk l = true := by
  unfold chkPo at h
  split at h
  · cases h
  · split at h
    · cases h
    · split at h
      · cases h
      · rename_i h3
        refine ⟨by omega, by omega, ?_⟩
        cases hv : posOk l
        · exact absurd hv h3
        · rfl
theorem PoL_canon {l : List PoD} {k : Nat} (hw : ∀ i, i < l.length → (l.getD i default).w k) (h : posOk l = true) : l = (l.map PoD.val).map PoQ := by
  rw [List.map_map]
  refine List.ext_getElem (by simp) fun i h1 h2 => ?_
  have hi := hw i h1
  rw [List.getD_eq_getElem?_getD, List.getElem?_eq_getElem h1] at hi
  unfold posOk at h
  rw [List.all_eq_true] at h
  have := PoD.canon hi (h _ (List.getElem_mem h1))
  simp only [Option.getD_some] at this
  rw [List.getElem_map]
  exact this
theorem szP_val {p : PoD} {k : Nat} (h : p.w k) (h1 : 1 ≤ k) : szP p.val ≤ k := by
  obtain ⟨t, l⟩ := p
  have a1 := LQ_val h.1 h1
  have a2 := LQ_val h.2.1 h1
  have a3 := LQ_val h.2.2 h1
  show max (szT (TD.val t)) (max (LQ l.x.val) (LQ l.y.val)) ≤ k
  have a2 : LQ l.x.val ≤ k := a2
  have a3 : LQ l.y.val ≤ k := a3
  have a4 : szT (TD.val t) ≤ k := by
    unfold TD.val
    split
    · exact h1
    · exact a1
  omega
theorem szD_val {d : DyD} {k : Nat} (h : d.w k) (h1 : 1 ≤ k) : szD d.val ≤ k := by
  have a1 := LQ_val h.1.1 h1
  have a2 := LQ_val h.1.2 h1
  have a3 := LQ_val h.2.1.1 h1
  have a4 := LQ_val h.2.1.2 h1
  have a5 := LQ_val h.2.2 h1
  show max (max (LQ d.c.x.val) (LQ d.c.y.val)) (max (max (LQ d.m.x.val) (LQ d.m.y.val)) (LQ d.r.val)) ≤ k
  omega
theorem szL_val {l : List PoD} {k : Nat} (hw : ∀ i, i < l.length → (l.getD i default).w k) (h1 : 1 ≤ k) : szL k (l.map PoD.val) := fun i hi => by
  have hi' : i < l.length := by simpa using hi
  have := szP_val (hw i hi') h1
  rw [show (l.map PoD.val).getD i (none, (0, 0)) = (l.getD i default).val from by simp [List.getD_eq_getElem?_getD, hi']]
  exact this
theorem getDy {d e : DyD} {i : Nat} (h : i < 2) : ([d, e].map DyD.D)[((i : Int)).toNat]? = some ([d, e].getD i default).D := getM DyD.D (l := [d, e]) h
set_option maxHeartbeats 1600000 in
theorem defects_check_ok (l : List PoD) (d e : DyD) {k : Nat} (hl : l.length ≤ 1000000) (hw : ∀ i, i < l.length → (l.getD i default).w k) (hd : d.w k) (he : e.w k) (h1 : 1 ≤ k) (hk : k ≤ 1000) : Pure Tryz.prog 77 [PoL l, d.D, e.D] (erV (chkD l d e)) := by
  refine Pure.intro (n := 71) tok Tryz.func77 rfl rfl rfl (Nat.le_of_ble_eq_true rfl) (by kernel_rfl) (fun B F0 w0 => ?_)
  have cP := poles_Check_ok l hl hw (by omega)
  have v1 := defects_valid_ok d hd (by omega)
  have v2 := defects_valid_ok e he (by omega)
  have s1 := fraction_Sign_ok d.r hd.2.2 (by omega)
  have s2 := fraction_Sign_ok e.r he.2.2 (by omega)
  generalize hE : chkD l d e = E
  unfold chkD at hE
  refine AW.seq ?_
  refine AW.region ?_
  refine AOps.run tok 3 _ _ _ _ rfl ?_
  refine AOps.nil ?_
  refine AW.seq ?_
  refine AW.seq ?_
  refine AW.region ?_
  refine AOps.run tok 1 _ _ _ _ rfl ?_
  refine AOps.call tok rfl rfl rfl rfl cP ?_
  refine AOps.run tok 1 _ _ _ _ rfl ?_
  refine AOps.nil ?_
  rcases hc : chkPo l with _ | m
  rotate_left
  · rw [hc, if_pos (Nat.succ_ne_zero m)] at hE
    subst hE
    refine AW.seq ?_
    refine AW.region ?_
    refine AOps.run tok 1 _ _ _ _ rfl ?_
    refine AOps.err tok rfl rfl rfl rfl rfl ?_
    refine AOps.nil ?_
    refine AW.condT rfl ?_
    refine AW.seq ?_
    refine AW.region ?_
    refine AOps.run tok 2 _ _ _ _ rfl ?_
    refine AOps.nil ?_
    exact AW.ret rfl
  rw [hc, if_neg (by simp)] at hE
  obtain ⟨hl2, hl5, hpo⟩ := chkPo_ok hc
  refine AW.seq ?_
  refine AW.region ?_
  refine AOps.run tok 1 _ _ _ _ rfl ?_
  refine AOps.err tok rfl rfl rfl rfl rfl ?_
  refine AOps.nil ?_
  refine AW.condF rfl ?_
  refine AW.skip ?_
  refine AW.seq ?_
  refine AW.seq ?_
  refine AW.region ?_
  refine AOps.run tok 1 _ _ _ _ rfl ?_
  refine AOps.call tok rfl rfl rfl rfl v1 ?_
  cases hv1 : d.okB with
  | false =>
    rw [hv1, if_pos (show (false && e.okB) = false from rfl)] at hE
    subst hE
    refine AOps.run tok 6 _ _ _ _ rfl ?_
    refine AOps.nil ?_
    refine AW.condT rfl ?_
    refine AW.seq ?_
    refine AW.region ?_
    refine AOps.run tok 2 _ _ _ _ rfl ?_
    refine AOps.nil ?_
    exact AW.ret rfl
  | true =>
  refine AOps.run tok 3 _ _ _ _ rfl ?_
  refine AOps.call tok rfl rfl rfl rfl v2 ?_
  cases hv2 : e.okB with
  | false =>
    rw [hv1, hv2, if_pos (show (true && false) = false from rfl)] at hE
    subst hE
    refine AOps.run tok 2 _ _ _ _ rfl ?_
    refine AOps.nil ?_
    refine AW.condT rfl ?_
    refine AW.seq ?_
    refine AW.region ?_
    refine AOps.run tok 2 _ _ _ _ rfl ?_
    refine AOps.nil ?_
    exact AW.ret rfl
  | true =>
  rw [hv1, hv2, if_neg (show ¬ (true && true) = false by simp)] at hE
  refine AOps.run tok 2 _ _ _ _ rfl ?_
  refine AOps.nil ?_
  refine AW.condF rfl ?_
  refine AW.skip ?_
  refine AW.seq ?_
  refine AW.seq ?_
  refine AW.region ?_
  refine AOps.run tok 2 _ _ _ _ rfl ?_
  refine AOps.call tok rfl rfl rfl rfl s1 ?_
  refine AOps.run tok 1 _ _ _ _ rfl ?_
  by_cases hs1 : sgI d.r.val.num ≤ 0
  · rw [if_pos (.inl hs1)] at hE
    subst hE
    rw [show decide (sgI d.r.val.num ≤ 0) = true from decide_eq_true hs1]
    refine AOps.run tok 6 _ _ _ _ rfl ?_
    refine AOps.nil ?_
    refine AW.condT rfl ?_
    refine AW.seq ?_
    refine AW.region ?_
    refine AOps.run tok 2 _ _ _ _ rfl ?_
    refine AOps.nil ?_
    exact AW.ret rfl
  rw [show decide (sgI d.r.val.num ≤ 0) = false from decide_eq_false hs1]
  refine AOps.run tok 3 _ _ _ _ rfl ?_
  refine AOps.call tok rfl rfl rfl rfl s2 ?_
  refine AOps.run tok 1 _ _ _ _ rfl ?_
  by_cases hs2 : sgI e.r.val.num ≤ 0
  · rw [if_pos (.inr hs2)] at hE
    subst hE
    rw [show decide (sgI e.r.val.num ≤ 0) = true from decide_eq_true hs2]
    refine AOps.run tok 1 _ _ _ _ rfl ?_
    refine AOps.nil ?_
    refine AW.condT rfl ?_
    refine AW.seq ?_
    refine AW.region ?_
    refine AOps.run tok 2 _ _ _ _ rfl ?_
    refine AOps.nil ?_
    exact AW.ret rfl
  rw [show decide (sgI e.r.val.num ≤ 0) = false from decide_eq_false hs2]
  rw [if_neg (fun h => h.elim hs1 hs2)] at hE
  refine AOps.run tok 1 _ _ _ _ rfl ?_
  refine AOps.nil ?_
  refine AW.condF rfl ?_
  refine AW.skip ?_
  have hcd := DyD.canon hd hv1
  have hce := DyD.canon he hv2
  have zd := szD_val hd h1
  have ze := szD_val he h1
  have hcl := PoL_canon hw hpo
  have zl := szL_val hw h1
  have hlm : (l.map PoD.val).length = l.length := List.length_map _
  have eD : d.D = (DyQ d.val).D := congrArg DyD.D hcd
  have eE : e.D = (DyQ e.val).D := congrArg DyD.D hce
  have eL : PoL l = PsL (l.map PoD.val) := by rw [← PoL_q, ← hcl]
  have m1 := defects_same_ok d.val.2.1 e.val.2.1 (szD_1 zd).2.1 (szD_1 ze).2.1 (by omega)
  have m2 := defects_same_ok d.val.1 e.val.1 (szD_1 zd).1 (szD_1 ze).1 (by omega)
  have p1 := threepos_Passes_ok (l.map PoD.val) d.val zl zd (by omega) (by omega) h1 hk
  have p2 := threepos_Passes_ok (l.map PoD.val) e.val zl ze (by omega) (by omega) h1 hk
  rw [← eL, ← eD] at p1
  rw [← eL, ← eE] at p2
  have fm : (VQ d.val.2.1) = d.m := by conv => rhs; rw [hcd]
  have fc : (VQ d.val.1) = d.c := by conv => rhs; rw [hcd]
  have gm : (VQ e.val.2.1) = e.m := by conv => rhs; rw [hce]
  have gc : (VQ e.val.1) = e.c := by conv => rhs; rw [hce]
  rw [fm, gm] at m1
  rw [fc, gc] at m2
  refine AW.seq ?_
  refine AW.seq ?_
  refine AW.region ?_
  refine AOps.run tok 4 _ _ _ _ rfl ?_
  refine AOps.call tok rfl rfl rfl rfl m1 ?_
  by_cases hq1 : d.m.val = e.m.val
  · rw [if_pos (.inl hq1)] at hE
    subst hE
    rw [show decide (d.val.2.1 = e.val.2.1) = true from decide_eq_true hq1]
    refine AOps.run tok 7 _ _ _ _ rfl ?_
    refine AOps.nil ?_
    refine AW.condT rfl ?_
    refine AW.seq ?_
    refine AW.region ?_
    refine AOps.run tok 2 _ _ _ _ rfl ?_
    refine AOps.nil ?_
    exact AW.ret rfl
  rw [show decide (d.val.2.1 = e.val.2.1) = false from decide_eq_false hq1]
  refine AOps.run tok 5 _ _ _ _ rfl ?_
  refine AOps.call tok rfl rfl rfl rfl m2 ?_
  by_cases hq2 : d.c.val = e.c.val
  · rw [if_pos (.inr hq2)] at hE
    subst hE
    rw [show decide (d.val.1 = e.val.1) = true from decide_eq_true hq2]
    refine AOps.run tok 1 _ _ _ _ rfl ?_
    refine AOps.nil ?_
    refine AW.condT rfl ?_
    refine AW.seq ?_
    refine AW.region ?_
    refine AOps.run tok 2 _ _ _ _ rfl ?_
    refine AOps.nil ?_
    exact AW.ret rfl
  rw [show decide (d.val.1 = e.val.1) = false from decide_eq_false hq2]
  rw [if_neg (fun h => h.elim hq1 hq2)] at hE
  refine AOps.run tok 1 _ _ _ _ rfl ?_
  refine AOps.nil ?_
  refine AW.condF rfl ?_
  refine AW.skip ?_
  refine AW.seq ?_
  refine AW.seq ?_
  refine AW.region ?_
  refine AOps.run tok 2 _ _ _ _ rfl ?_
  refine AOps.bsd tok rfl rfl rfl rfl rfl ?_
  refine AOps.run tok 2 _ _ _ _ rfl ?_
  refine AOps.nil ?_
  refine AW.block ?_
  have pp : ∀ i, i < 2 → Pure Tryz.prog 128 [PoL l, ([d, e].getD i default).D] (.tu [dB (pasB (l.map PoD.val) ([d, e].getD i default).val), nilE]) := fun i hi => by
    match i with
    | 0 => exact p1
    | 1 => exact p2
    | i + 2 => omega
  have hno : ∀ i, i < 2 → pasB (l.map PoD.val) ([d, e].getD i default).val = false → E = 21 := fun i hi hf => by
    match i with
    | 0 => rw [if_pos (.inl hf)] at hE; exact hE.symm
    | 1 => rw [if_pos (.inr hf)] at hE; exact hE.symm
    | i + 2 => omega
  have hyes : (∀ i, i < 2 → pasB (l.map PoD.val) ([d, e].getD i default).val = true) → E = 0 := fun hf => by
    have f0 : pasB (l.map PoD.val) d.val = true := hf 0 (by omega)
    have f1 : pasB (l.map PoD.val) e.val = true := hf 1 (by omega)
    rw [if_neg (by rw [f0, f1]; simp)] at hE
    exact hE.symm
  refine AW.loopS [0, 52, 53, 54] (fun i : Nat => [(0, .d (PoL l)), (52, .d (.sl 15 ([d, e].map DyD.D))), (53, .d (dI 2)), (54, .d (dI i))]) (fun i => i ≤ 2 ∧ ∀ j, j < i → pasB (l.map PoD.val) ([d, e].getD j default).val = true) (fun i => 2 - i) 0 rfl ⟨Nat.zero_le _, fun j hj => by omega⟩ (fun i ⟨hi, hall⟩ => ?_)
  refine AW.seq ?_
  refine AW.region ?_
  refine AOps.run tok 1 _ _ _ _ rfl ?_
  refine AOps.nil ?_
  refine AW.seq ?_
  refine AW.cond rfl (fun h => ?_) (fun h => ?_)
  · have hii : i < 2 := by have := of_decide_eq_true h; omega
    have hg := getDy (d := d) (e := e) hii
    have cp := pp i hii
    have hno := hno i hii
    obtain ⟨x, hx⟩ : ∃ x, x = [d, e].getD i default := ⟨_, rfl⟩
    rw [← hx] at hg cp hno
    refine AW.skip ?_
    refine AW.seq ?_
    refine AW.block ?_
    refine AW.seq ?_
    refine AW.region ?_
    refine AOps.idx tok x.D rfl rfl rfl rfl (Int.natCast_nonneg i) hg ?_
    refine AOps.run tok 3 _ _ _ _ rfl ?_
    refine AOps.nil ?_
    refine AW.seq ?_
    refine AW.region ?_
    refine AOps.run tok 2 _ _ _ _ rfl ?_
    refine AOps.call tok rfl rfl rfl rfl cp ?_
    refine AOps.run tok 5 _ _ _ _ rfl ?_
    refine AOps.nil ?_
    refine AW.seq ?_
    refine AW.seq ?_
    refine AW.region ?_
    refine AOps.run tok 1 _ _ _ _ rfl ?_
    refine AOps.err tok rfl rfl rfl rfl rfl ?_
    refine AOps.nil ?_
    refine AW.condF rfl ?_
    refine AW.skip ?_
    refine AW.seq ?_
    refine AW.region ?_
    refine AOps.run tok 2 _ _ _ _ rfl ?_
    refine AOps.nil ?_
    cases hpx : pasB (l.map PoD.val) x.val with
    | false =>
      rw [hno hpx]
      refine AW.condT rfl ?_
      refine AW.seq ?_
      refine AW.region ?_
      refine AOps.run tok 2 _ _ _ _ rfl ?_
      refine AOps.nil ?_
      exact AW.ret rfl
    | true =>
      refine AW.condF rfl ?_
      refine AW.skip ?_
      refine AW.region ?_
      refine AOps.run tok 1 _ _ _ _ rfl ?_
      rw [wI64 (x := (i : Int) + 1) (by omega) (by omega)]
      refine AOps.run tok 1 _ _ _ _ rfl ?_
      refine AOps.nil ?_
      exact ⟨i + 1, rfl, ⟨hii, fun j hj => by
        by_cases e : j = i
        · subst e; rw [← hx]; exact hpx
        · exact hall j (by omega)⟩, by omega⟩
  have hii : i = 2 := by have := of_decide_eq_false h; omega
  subst hii
  rw [hyes hall]
  refine AW.exit ?_
  refine AW.seq ?_
  refine AW.region ?_
  refine AOps.run tok 1 _ _ _ _ rfl ?_
  refine AOps.nil ?_
  exact AW.ret rfl
end Lift
namespace Lift
open Go Go.Proofs
structure BarR where
  a2 : Rat
  b2 : Rat
  c2 : Rat
  f : V2
  u : List V2
  sg : List Int
abbrev IL (l : List Int) : List D := l.map (fun n => dI n)
abbrev VLs (l : List V2) : List D := l.map (fun v => (VQ v).D)
abbrev barC (a b c : Rat) (f : V2) (x y : D) : List D := [dB (Qr a).g, Wd (Qr a).n, Wd (Qr a).d, dB (Qr b).g, Wd (Qr b).n, Wd (Qr b).d, dB (Qr c).g, Wd (Qr c).n, Wd (Qr c).d, dB (Qr f.1).g, Wd (Qr f.1).n, Wd (Qr f.1).d, dB (Qr f.2).g, Wd (Qr f.2).n, Wd (Qr f.2).d, x, y]
abbrev BarR.D (b : BarR) : D := .ag (barC b.a2 b.b2 b.c2 b.f (.sl 6 (VLs b.u)) (.sl 1 (IL b.sg)))
abbrev barZ : D := .ag [dB false, .sl 1 [], .sl 1 [], dB false, .sl 1 [], .sl 1 [], dB false, .sl 1 [], .sl 1 [], dB false, .sl 1 [], .sl 1 [], dB false, .sl 1 [], .sl 1 [], .sl 6 [], .sl 1 []]
abbrev Dy := V2 × V2 × Rat
def sgnF (d e : Dy) (p : Po) : Int := sgI (crs (vsub (appF p e.2.1) (appF p d.2.1)) (vsub e.1 (appF p d.2.1))).num
def dirF (d : Dy) (p : Po) : V2 := vsub (appF p d.2.1) d.1
def rdB (ps : List Po) (d e : Dy) : BarR := ⟨d.2.2, dt (vsub e.2.1 d.2.1) (vsub e.2.1 d.2.1), e.2.2, vsub e.1 d.1, ps.map (dirF d), ps.map (sgnF d e)⟩
def readD (l : List PoD) (d e : DyD) : D := if chkD l d e = 0 then .tu [(rdB (l.map PoD.val) d.val e.val).D, nilE] else .tu [barZ, erV (chkD l d e)]
theorem chkD_ok {l : List PoD} {d e : DyD} (h : chkD l d e = 0) : (2 ≤ l.length ∧ l.length ≤ 5 ∧ posOk l = true) ∧ d.okB = true ∧ e.okB = true ∧ 0 < sgI d.r.val.num ∧ 0 < sgI e.r.val.num ∧ d.m.val ≠ e.m.val ∧ d.c.val ≠ e.c.val ∧ pasB (l.map PoD.val) d.val = true ∧ pasB (l.map PoD.val) e.val = true := by
  unfold chkD at h
  split at h
  · rename_i h0; exact absurd h h0
  rename_i h0
  have h0 : chkPo l = 0 := by omega
  split at h
  · cases h
  rename_i h1
  have h1 : (d.okB && e.okB) = true := by
    cases hv : (d.okB && e.okB)
    · exact absurd hv h1
    · rfl
  rw [Bool.and_eq_true] at h1
  split at h
  · cases h
  rename_i h2
  split at h
  · cases h
  rename_i h3
  split at h
  · cases h
  rename_i h4
  have hb : ∀ b : Bool, ¬ b = false → b = true := fun b hb => by cases b <;> simp_all
  exact ⟨chkPo_ok h0, h1.1, h1.2, by omega, by omega, fun e => h3 (.inl e), fun e => h3 (.inr e), hb _ (fun e => h4 (.inl e)), hb _ (fun e => h4 (.inr e))⟩
set_option maxHeartbeats 3200000 in
theorem defects_readQ_ok (ps : List Po) (d e : Dy) {k : Nat} (hs : szL k ps) (hd : szD d ≤ k) (he : szD e ≤ k) (h0 : chkD (ps.map PoQ) (DyQ d) (DyQ e) = 0) (h1 : 1 ≤ k) (hk : k ≤ 1000) : Pure Tryz.prog 39 [PsL ps, (DyQ d).D, (DyQ e).D] (.tu [(rdB ps d e).D, nilE]) := by
  refine Pure.intro (n := 95) tok Tryz.func39 rfl rfl rfl (Nat.le_of_ble_eq_true rfl) (by kernel_rfl) (fun B F0 w0 => ?_)
  obtain ⟨⟨hl2, hl5, _⟩, _⟩ := chkD_ok h0
  rw [List.length_map] at hl2 hl5
  have cc := defects_check_ok (ps.map PoQ) (DyQ d) (DyQ e) (by rw [List.length_map]; omega) (szL_w hs) (DyQ_w hd) (DyQ_w he) h1 hk
  rw [h0, PoL_q] at cc
  have hd := szD_1 hd
  have he := szD_1 he
  obtain ⟨dc, dm, dr⟩ := d
  obtain ⟨ec, em, er⟩ := e
  simp only [] at hd he cc
  have z1 := szV_sub em dm he.2.1 hd.2.1
  have z2 := szV_sub ec dc he.1 hd.1
  have c1 := defects_sub_ok em dm he.2.1 hd.2.1 (by omega)
  have c2 := defects_dot_ok (vsub em dm) (vsub em dm) (k := 2 * k + 1) (Nat.le_trans z1 (by omega)) (Nat.le_trans z1 (by omega)) (by omega)
  have c3 := defects_sub_ok ec dc he.1 hd.1 (by omega)
  refine AW.seq ?_
  refine AW.region ?_
  refine AOps.run tok 4 _ _ _ _ rfl ?_
  refine AOps.nil ?_
  refine AW.seq ?_
  refine AW.seq ?_
  refine AW.region ?_
  refine AOps.run tok 3 _ _ _ _ rfl ?_
  refine AOps.call tok rfl rfl rfl rfl cc ?_
  refine AOps.run tok 1 _ _ _ _ rfl ?_
  refine AOps.nil ?_
  refine AW.seq ?_
  refine AW.region ?_
  refine AOps.run tok 1 _ _ _ _ rfl ?_
  refine AOps.err tok rfl rfl rfl rfl rfl ?_
  refine AOps.nil ?_
  refine AW.condF rfl ?_
  refine AW.skip ?_
  refine AW.seq ?_
  refine AW.region ?_
  refine AOps.run tok 4 _ _ _ _ rfl ?_
  refine AOps.call tok rfl rfl rfl rfl c1 ?_
  refine AOps.run tok 2 _ _ _ _ rfl ?_
  refine AOps.nil ?_
  refine AW.seq ?_
  refine AW.draw hmix 14 (by kernel_rfl) ?_
  refine APre.run tok 4 _ _ _ _ rfl ?_
  refine APre.call tok rfl rfl rfl rfl rfl c2 ?_
  refine APre.run tok 6 _ _ _ _ rfl ?_
  refine APre.call tok rfl rfl rfl rfl rfl c3 ?_
  refine APre.bldn tok [dB false, .sl 1 [], .sl 1 [], dB false, .sl 1 [], .sl 1 [], dB false, .sl 1 [], .sl 1 [], dB false, .sl 1 [], .sl 1 [], dB false, .sl 1 [], .sl 1 [], .v nilS, .v nilS] rfl rfl rfl rfl rfl (by kernel_rfl) ?_
  refine APre.run tok 1 _ _ _ _ rfl ?_
  refine APre.nil ?_
  refine AOps.run tok 1 _ _ _ _ rfl ?_
  refine AOps.nil ?_
  generalize hb2 : dt (vsub em dm) (vsub em dm) = b2
  generalize hf : vsub ec dc = f
  refine AZ.aw ?_
  refine AZ.to [0, 4, 5, 6, 10] [(0, .d (PsL ps)), (4, .bx (DyQ (dc, dm, dr)).D.flat), (5, .bx (DyQ (ec, em, er)).D.flat), (6, .bx barZ.flat), (10, .bx (barC dr b2 er f (.v nilS) (.v nilS)))] rfl ?_
  refine AZ.nilRow 27 ?_
  refine AZ.nilRow 3 ?_
  refine AZ.seq ?_
  refine AZ.seq ?_
  refine AZ.reg (fun B1 F1 w1 => ?_)
  refine AOps.run tok 2 _ _ _ _ rfl ?_
  rw [List.length_map]
  refine AOps.run tok 1 _ _ _ _ rfl ?_
  refine AOps.nil ⟨rfl, ?_⟩
  refine AZ.block ?_
  refine AZ.loopS [4, 5, 6, 10, 42, 43, 44] (fun s : Nat × Value × Value => ([(s.2.1, AV.ow 27 (VLs ((ps.take s.1).map (dirF (dc, dm, dr))))), (s.2.2, AV.ow 3 (IL ((ps.take s.1).map (sgnF (dc, dm, dr) (ec, em, er)))))], [(4, .bx (DyQ (dc, dm, dr)).D.flat), (5, .bx (DyQ (ec, em, er)).D.flat), (6, .bx barZ.flat), (10, .bx (barC dr b2 er f (.v s.2.1) (.v s.2.2))), (42, .d (PsL ps)), (43, .d (dI ps.length)), (44, .d (dI s.1))])) (fun s => s.1 ≤ ps.length) (fun s => ps.length - s.1) (0, nilS, nilS) rfl (Nat.zero_le _) (fun s hi => ?_)
  obtain ⟨i, V1, V2⟩ := s
  have hi : i ≤ ps.length := hi
  show AZ _ _ _ _ _ _ _ [(V1, AV.ow 27 (VLs ((ps.take i).map (dirF (dc, dm, dr))))), (V2, AV.ow 3 (IL ((ps.take i).map (sgnF (dc, dm, dr) (ec, em, er)))))] [(4, .bx (DyQ (dc, dm, dr)).D.flat), (5, .bx (DyQ (ec, em, er)).D.flat), (6, .bx barZ.flat), (10, .bx (barC dr b2 er f (.v V1) (.v V2))), (42, .d (PsL ps)), (43, .d (dI ps.length)), (44, .d (dI i))]
  refine AZ.seq ?_
  refine AZ.reg (fun B1 F1 w1 => ?_)
  refine AOps.run tok 1 _ _ _ _ rfl ?_
  refine AOps.nil ⟨rfl, ?_⟩
  refine AZ.seq ?_
  refine AZ.cond rfl (fun h => ?_) (fun h => ?_)
  rotate_left
  · have hii : i = ps.length := by have := of_decide_eq_false h; omega
    subst hii
    rw [List.take_length]
    refine AZ.exit ?_
    refine AZ.frzc tok 10 15 0 rfl rfl rfl rfl ?_
    refine AZ.frzc tok 10 16 1 rfl rfl rfl rfl ?_
    refine AZ.to [6, 10] [(6, .bx barZ.flat), (10, .bx (barC dr b2 er f (.sl 6 (VLs (ps.map (dirF (dc, dm, dr))))) (.sl 1 (IL (ps.map (sgnF (dc, dm, dr) (ec, em, er)))))))] rfl ?_
    refine AZ.seq ?_
    refine AZ.reg (fun B1 F1 w1 => ?_)
    refine AOps.run tok 3 _ _ _ _ rfl ?_
    refine AOps.nil ⟨rfl, ?_⟩
    unfold rdB
    simp only []
    rw [hb2, hf]
    exact AZ.ret rfl
  have hii : i < ps.length := by have := of_decide_eq_true h; omega
  have hg := getPs hii
  have hsz := hs i hii
  have htk := take_snocD ps (none, (0, 0)) hii
  have hol : (ps.take i).length = i := by rw [List.length_take]; omega
  have hd1 : ∀ p, dirF (dc, dm, dr) p = vsub (appF p dm) dc := fun _ => rfl
  have hs1 : ∀ p, sgnF (dc, dm, dr) (ec, em, er) p = sgI (crs (vsub (appF p em) (appF p dm)) (vsub ec (appF p dm))).num := fun _ => rfl
  generalize dirF (dc, dm, dr) = dF at hd1
  generalize sgnF (dc, dm, dr) (ec, em, er) = sF at hs1
  generalize ps.getD i (none, (0, 0)) = p at hg hsz htk
  have hd1 := hd1 p
  have hs1 := hs1 p
  have ca := pose_Apply_ok p dm hsz hd.2.1 h1 (by omega)
  have cb := pose_Apply_ok p em hsz he.2.1 h1 (by omega)
  have za := szV_app p dm hsz hd.2.1 h1
  have zb := szV_app p em hsz he.2.1 h1
  generalize appF p dm = a at hd1 hs1 ca za
  generalize appF p em = b at hs1 cb zb
  have z1 := szV_sub b a zb za
  have z2 := szV_sub ec a he.1 za
  have e1 := defects_sub_ok a dc (k := 11 * k + 10) za (by omega) (by omega)
  have e2 := defects_sub_ok b a (k := 11 * k + 10) zb za (by omega)
  have e3 := defects_sub_ok ec a (k := 11 * k + 10) (by omega) za (by omega)
  have e4 := defects_cross_ok (vsub b a) (vsub ec a) (k := 22 * k + 21) (by omega) (by omega) (by omega)
  have e5 := fraction_Sign_ok (Qr (crs (vsub b a) (vsub ec a))) (k := 100 * k + 100) (Qr_w _ (Nat.le_trans (LQ_dt _ _ z1 z2).2 (by omega))) (by omega)
  rw [Qr_val] at e5
  refine AZ.skip ?_
  refine AZ.seq ?_
  refine AZ.block ?_
  refine AZ.seq ?_
  refine AZ.reg (fun B1 F1 w1 => ?_)
  refine AOps.idx tok (PoQ p).D rfl rfl rfl rfl (Int.natCast_nonneg i) hg ?_
  refine AOps.run tok 3 _ _ _ _ rfl ?_
  refine AOps.nil ⟨rfl, ?_⟩
  refine AZ.seq ?_
  refine AZ.reg (fun B1 F1 w1 => ?_)
  refine AOps.run tok 3 _ _ _ _ rfl ?_
  refine AOps.call tok rfl rfl rfl rfl ca ?_
  refine AOps.run tok 6 _ _ _ _ rfl ?_
  refine AOps.nil ⟨rfl, ?_⟩
  refine AZ.seq ?_
  refine AZ.seq ?_
  refine AZ.reg (fun B1 F1 w1 => ?_)
  refine AOps.run tok 1 _ _ _ _ rfl ?_
  refine AOps.err tok rfl rfl rfl rfl rfl ?_
  refine AOps.nil ⟨rfl, ?_⟩
  refine AZ.condF rfl ?_
  refine AZ.skip ?_
  refine AZ.seq ?_
  refine AZ.reg (fun B1 F1 w1 => ?_)
  refine AOps.run tok 3 _ _ _ _ rfl ?_
  refine AOps.call tok rfl rfl rfl rfl cb ?_
  refine AOps.run tok 6 _ _ _ _ rfl ?_
  refine AOps.nil ⟨rfl, ?_⟩
  refine AZ.seq ?_
  refine AZ.seq ?_
  refine AZ.reg (fun B1 F1 w1 => ?_)
  refine AOps.run tok 1 _ _ _ _ rfl ?_
  refine AOps.err tok rfl rfl rfl rfl rfl ?_
  refine AOps.nil ⟨rfl, ?_⟩
  refine AZ.condF rfl ?_
  refine AZ.skip ?_
  refine AZ.to [4, 5, 6, 10, 13, 15, 42, 43, 44] [(4, .bx (DyQ (dc, dm, dr)).D.flat), (5, .bx (DyQ (ec, em, er)).D.flat), (6, .bx barZ.flat), (10, .bx (barC dr b2 er f (.v V1) (.v V2))), (13, .bx (VQ a).D.flat), (15, .bx (VQ b).D.flat), (42, .d (PsL ps)), (43, .d (dI ps.length)), (44, .d (dI i))] rfl ?_
  refine AZ.seq ?_
  refine AZ.any hmix (ZAny.draw 7 (by kernel_rfl) (fun B1 F1 w1 => ?_))
  refine APre.run tok 5 _ _ _ _ rfl ?_
  refine APre.call tok rfl rfl rfl rfl rfl e1 ?_
  refine APre.bsd tok rfl rfl rfl rfl rfl rfl ?_
  refine APre.nil ⟨rfl, ?_⟩
  refine AZOps.to [71, 76, 4, 5, 6, 10, 13, 15, 42, 43, 44] [(71, .d (.v V1)), (76, .d (.sl 6 [(VQ (vsub a dc)).D])), (4, .bx (DyQ (dc, dm, dr)).D.flat), (5, .bx (DyQ (ec, em, er)).D.flat), (6, .bx barZ.flat), (10, .bx (barC dr b2 er f (.v V1) (.v V2))), (13, .bx (VQ a).D.flat), (15, .bx (VQ b).D.flat), (42, .d (PsL ps)), (43, .d (dI ps.length)), (44, .d (dI i))] rfl ?_
  refine AZOps.adopt 71 0 rfl rfl rfl ?_
  refine AZOps.cut 1 rfl (fun B1 F1 w1 => ?_)
  refine AOps.appo tok rfl rfl rfl rfl rfl rfl (by rw [List.length_map, List.length_map, hol]; show (_ + 1) * 112 ≤ _; omega) (by rw [List.length_map, List.length_map, hol]; show _ + 1 ≤ _; omega) ?_
  refine AOps.nil ⟨rfl, ?_⟩
  refine AZOps.loosen 77 rfl rfl rfl (fun V1' => ?_)
  refine AZOps.to [77, 4, 5, 6, 10, 13, 15, 42, 43, 44] [(77, .d (.v V1')), (4, .bx (DyQ (dc, dm, dr)).D.flat), (5, .bx (DyQ (ec, em, er)).D.flat), (6, .bx barZ.flat), (10, .bx (barC dr b2 er f (.v V1) (.v V2))), (13, .bx (VQ a).D.flat), (15, .bx (VQ b).D.flat), (42, .d (PsL ps)), (43, .d (dI ps.length)), (44, .d (dI i))] rfl ?_
  refine AZOps.cut 2 rfl (fun B1 F1 w1 => ?_)
  refine AOps.run tok 2 _ _ _ _ rfl ?_
  refine AOps.nil ⟨rfl, ?_⟩
  refine AZOps.nil ?_
  refine AZ.swapR 0 2 rfl rfl ?_
  refine AZ.dropR [(V1', AV.ow 27 (VLs ((ps.take (i + 1)).map dF))), (V2, AV.ow 3 (IL ((ps.take i).map sF)))] (fun j r hr => .inl (by
    have hj : j < 2 := (List.getElem?_eq_some_iff.1 hr).1
    rcases j with _ | _ | j
    · rw [htk, show VLs ((ps.take i ++ [p]).map dF) = VLs ((ps.take i).map dF) ++ [(VQ (vsub a dc)).D] by rw [List.map_append]; show List.map _ (_ ++ _) = _; rw [List.map_append, ← hd1]; rfl] at hr
      exact hr
    · exact hr
    · omega)) ?_
  refine AZ.to [4, 5, 6, 10, 13, 15, 42, 43, 44] [(4, .bx (DyQ (dc, dm, dr)).D.flat), (5, .bx (DyQ (ec, em, er)).D.flat), (6, .bx barZ.flat), (10, .bx (barC dr b2 er f (.v V1') (.v V2))), (13, .bx (VQ a).D.flat), (15, .bx (VQ b).D.flat), (42, .d (PsL ps)), (43, .d (dI ps.length)), (44, .d (dI i))] rfl ?_
  refine AZ.any hmix (ZAny.draw 12 (by kernel_rfl) (fun B1 F1 w1 => ?_))
  refine APre.run tok 4 _ _ _ _ rfl ?_
  refine APre.call tok rfl rfl rfl rfl rfl e2 ?_
  refine APre.run tok 3 _ _ _ _ rfl ?_
  refine APre.call tok rfl rfl rfl rfl rfl e3 ?_
  refine APre.call tok rfl rfl rfl rfl rfl e4 ?_
  refine APre.call tok rfl rfl rfl rfl rfl e5 ?_
  refine APre.bsd tok rfl rfl rfl rfl rfl rfl ?_
  refine APre.nil ⟨rfl, ?_⟩
  rw [← hs1]
  refine AZOps.to [80, 90, 4, 5, 6, 10, 42, 43, 44] [(80, .d (.v V2)), (90, .d (.sl 1 [dI (sF p)])), (4, .bx (DyQ (dc, dm, dr)).D.flat), (5, .bx (DyQ (ec, em, er)).D.flat), (6, .bx barZ.flat), (10, .bx (barC dr b2 er f (.v V1') (.v V2))), (42, .d (PsL ps)), (43, .d (dI ps.length)), (44, .d (dI i))] rfl ?_
  refine AZOps.adopt 80 1 rfl rfl rfl ?_
  refine AZOps.cut 1 rfl (fun B1 F1 w1 => ?_)
  refine AOps.appo tok rfl rfl rfl rfl rfl rfl (by rw [List.length_map, List.length_map, hol]; show (_ + 1) * 8 ≤ _; omega) (by rw [List.length_map, List.length_map, hol]; show _ + 1 ≤ _; omega) ?_
  refine AOps.nil ⟨rfl, ?_⟩
  refine AZOps.loosen 91 rfl rfl rfl (fun V2' => ?_)
  refine AZOps.to [91, 4, 5, 6, 10, 42, 43, 44] [(91, .d (.v V2')), (4, .bx (DyQ (dc, dm, dr)).D.flat), (5, .bx (DyQ (ec, em, er)).D.flat), (6, .bx barZ.flat), (10, .bx (barC dr b2 er f (.v V1') (.v V2))), (42, .d (PsL ps)), (43, .d (dI ps.length)), (44, .d (dI i))] rfl ?_
  refine AZOps.cut 2 rfl (fun B1 F1 w1 => ?_)
  refine AOps.run tok 2 _ _ _ _ rfl ?_
  refine AOps.nil ⟨rfl, ?_⟩
  refine AZOps.nil ?_
  refine AZ.swapR 1 2 rfl rfl ?_
  refine AZ.dropR [(V1', AV.ow 27 (VLs ((ps.take (i + 1)).map dF))), (V2', AV.ow 3 (IL ((ps.take (i + 1)).map sF)))] (fun j r hr => .inl (by
    have hj : j < 2 := (List.getElem?_eq_some_iff.1 hr).1
    rcases j with _ | _ | j
    · exact hr
    · rw [show IL ((ps.take (i + 1)).map sF) = IL ((ps.take i).map sF) ++ [dI (sF p)] by rw [htk, List.map_append]; show List.map _ (_ ++ _) = _; rw [List.map_append]; rfl] at hr
      exact hr
    · omega)) ?_
  refine AZ.reg (fun B1 F1 w1 => ?_)
  refine AOps.run tok 1 _ _ _ _ rfl ?_
  rw [wI64 (x := (i : Int) + 1) (by omega) (by omega)]
  refine AOps.run tok 1 _ _ _ _ rfl ?_
  refine AOps.nil ⟨rfl, ?_⟩
  exact ⟨(i + 1, V1', V2'), rfl, hii, by show ps.length - (i + 1) < ps.length - i; omega⟩
end Lift
namespace Lift
open Go Go.Proofs
theorem sgI_num (q : Rat) : sgI q.num = sgQ q := by
  unfold sgI sgQ
  have h0 : q.num = 0 ↔ q = 0 := Rat.num_eq_zero
  have h1 : q.num < 0 ↔ q < 0 := by
    have e1 := @Rat.num_nonneg q
    have e2 := @Rat.not_le 0 q
    rw [← e2, ← e1]
    omega
  by_cases hz : q = 0
  · subst hz; rfl
  · rw [if_neg hz]
    by_cases hl : q < 0
    · rw [if_pos hl, if_pos (h1.2 hl)]
    · rw [if_neg hl, if_neg (fun h => hl (h1.1 h)), if_neg (fun h => hz (h0.1 h))]
theorem defects_read_ok (l : List PoD) (d e : DyD) {k : Nat} (hl : l.length ≤ 1000000) (hw : ∀ i, i < l.length → (l.getD i default).w k) (hd : d.w k) (he : e.w k) (h1 : 1 ≤ k) (hk : k ≤ 1000) : Pure Tryz.prog 39 [PoL l, d.D, e.D] (readD l d e) := by
  unfold readD
  by_cases h0 : chkD l d e = 0
  · rw [if_pos h0]
    obtain ⟨⟨_, _, hp⟩, h2, h3, _⟩ := chkD_ok h0
    have e1 := PoL_canon hw hp
    have e2 := DyD.canon hd h2
    have e3 := DyD.canon he h3
    have := defects_readQ_ok (l.map PoD.val) d.val e.val (szL_val hw h1) (szD_val hd h1) (szD_val he h1) (by rw [← e1, ← e2, ← e3]; exact h0) h1 hk
    rw [← PoL_q, ← e1, ← e2, ← e3] at this
    exact this
  rw [if_neg h0]
  refine Pure.intro (n := 95) tok Tryz.func39 rfl rfl rfl (Nat.le_of_ble_eq_true rfl) (by kernel_rfl) (fun B F0 w0 => ?_)
  have cc := defects_check_ok l d e hl hw hd he h1 hk
  generalize chkD l d e = m at h0 cc
  obtain ⟨m, rfl⟩ : ∃ m', m = m' + 1 := ⟨m - 1, by omega⟩
  refine AW.seq ?_
  refine AW.region ?_
  refine AOps.run tok 4 _ _ _ _ rfl ?_
  refine AOps.nil ?_
  refine AW.seq ?_
  refine AW.seq ?_
  refine AW.region ?_
  refine AOps.run tok 3 _ _ _ _ rfl ?_
  refine AOps.call tok rfl rfl rfl rfl cc ?_
  refine AOps.run tok 1 _ _ _ _ rfl ?_
  refine AOps.nil ?_
  refine AW.seq ?_
  refine AW.region ?_
  refine AOps.run tok 1 _ _ _ _ rfl ?_
  refine AOps.err tok rfl rfl rfl rfl rfl ?_
  refine AOps.nil ?_
  refine AW.condT rfl ?_
  refine AW.seq ?_
  refine AW.region ?_
  refine AOps.run tok 4 _ _ _ _ rfl ?_
  refine AOps.nil ?_
  exact AW.ret rfl
def signsD (l : List PoD) (d e : DyD) : D := if chkD l d e = 0 then .tu [.sl 1 (IL ((l.map PoD.val).map (sgnF d.val e.val))), nilE] else .tu [.sl 1 [], erV (chkD l d e)]
theorem defects_Signs_ok (l : List PoD) (d e : DyD) {k : Nat} (hl : l.length ≤ 1000000) (hw : ∀ i, i < l.length → (l.getD i default).w k) (hd : d.w k) (he : e.w k) (h1 : 1 ≤ k) (hk : k ≤ 1000) : Pure Tryz.prog 12 [PoL l, d.D, e.D] (signsD l d e) := by
  refine Pure.intro (n := 20) tok Tryz.func12 rfl rfl rfl (Nat.le_of_ble_eq_true rfl) (by kernel_rfl) (fun B F0 w0 => ?_)
  have cc := defects_read_ok l d e hl hw hd he h1 hk
  unfold readD at cc
  unfold signsD
  by_cases h0 : chkD l d e = 0
  · rw [if_pos h0] at cc
    rw [if_pos h0]
    rw [show (l.map PoD.val).map (sgnF d.val e.val) = (rdB (l.map PoD.val) d.val e.val).sg from rfl]
    generalize rdB (l.map PoD.val) d.val e.val = b at cc
    refine AW.seq ?_
    refine AW.region ?_
    refine AOps.run tok 4 _ _ _ _ rfl ?_
    refine AOps.nil ?_
    refine AW.seq ?_
    refine AW.region ?_
    refine AOps.run tok 3 _ _ _ _ rfl ?_
    refine AOps.call tok rfl rfl rfl rfl cc ?_
    refine AOps.run tok 6 _ _ _ _ rfl ?_
    refine AOps.nil ?_
    refine AW.seq ?_
    refine AW.region ?_
    refine AOps.run tok 5 _ _ _ _ rfl ?_
    refine AOps.nil ?_
    exact AW.ret rfl
  rw [if_neg h0] at cc
  rw [if_neg h0]
  generalize erV (chkD l d e) = b at cc
  refine AW.seq ?_
  refine AW.region ?_
  refine AOps.run tok 4 _ _ _ _ rfl ?_
  refine AOps.nil ?_
  refine AW.seq ?_
  refine AW.region ?_
  refine AOps.run tok 3 _ _ _ _ rfl ?_
  refine AOps.call tok rfl rfl rfl rfl cc ?_
  refine AOps.run tok 6 _ _ _ _ rfl ?_
  refine AOps.nil ?_
  refine AW.seq ?_
  refine AW.region ?_
  refine AOps.run tok 5 _ _ _ _ rfl ?_
  refine AOps.nil ?_
  exact AW.ret rfl
theorem defects_half_ok (u v : V2) {k : Nat} (hu : szV u ≤ k) (hv : szV v ≤ k) (hk : k ≤ 100000) : Pure Tryz.prog 133 [(VQ u).D, (VQ v).D] (dI (halfF u v)) := by
  refine Pure.intro (n := 23) tok Tryz.func133 rfl rfl rfl (Nat.le_of_ble_eq_true rfl) (by kernel_rfl) (fun B F0 w0 => ?_)
  have z := LQ_dt u v hu hv
  have m1 := defects_cross_ok u v hu hv (by omega)
  have m2 := fraction_Sign_ok (Qr (crs u v)) (k := 4 * k + 1) (Qr_w _ (by omega)) (by omega)
  have m3 := defects_dot_ok u v hu hv (by omega)
  have m4 := fraction_Sign_ok (Qr (dt u v)) (k := 4 * k + 1) (Qr_w _ (by omega)) (by omega)
  rw [Qr_val, sgI_num] at m2 m4
  unfold halfF
  generalize crs u v = c at m1 m2 ⊢
  generalize dt u v = t at m3 m4 ⊢
  generalize sgQ c = s at m2 ⊢
  generalize sgQ t = r at m4 ⊢
  refine AW.seq ?_
  refine AW.region ?_
  refine AOps.run tok 3 _ _ _ _ rfl ?_
  refine AOps.nil ?_
  refine AW.seq ?_
  refine AW.region ?_
  refine AOps.run tok 2 _ _ _ _ rfl ?_
  refine AOps.call tok rfl rfl rfl rfl m1 ?_
  refine AOps.call tok rfl rfl rfl rfl m2 ?_
  refine AOps.run tok 1 _ _ _ _ rfl ?_
  refine AOps.nil ?_
  refine AW.seq ?_
  refine AW.seq ?_
  refine AW.region ?_
  refine AOps.run tok 2 _ _ _ _ rfl ?_
  by_cases hp : 0 < s
  · rw [if_pos (.inl hp), decide_eq_true hp]
    refine AOps.run tok 11 _ _ _ _ rfl ?_
    refine AOps.nil ?_
    refine AW.condT rfl ?_
    refine AW.seq ?_
    refine AW.region ?_
    refine AOps.run tok 1 _ _ _ _ rfl ?_
    refine AOps.nil ?_
    exact AW.ret rfl
  rw [decide_eq_false hp]
  refine AOps.run tok 3 _ _ _ _ rfl ?_
  by_cases hz : s = 0
  · rw [beq_iff_eq.2 hz]
    refine AOps.run tok 3 _ _ _ _ rfl ?_
    refine AOps.call tok rfl rfl rfl rfl m3 ?_
    refine AOps.call tok rfl rfl rfl rfl m4 ?_
    refine AOps.run tok 3 _ _ _ _ rfl ?_
    refine AOps.nil ?_
    by_cases hr : 0 < r
    · rw [if_pos (.inr ⟨hz, hr⟩), decide_eq_true hr]
      refine AW.condT rfl ?_
      refine AW.seq ?_
      refine AW.region ?_
      refine AOps.run tok 1 _ _ _ _ rfl ?_
      refine AOps.nil ?_
      exact AW.ret rfl
    rw [if_neg (fun h => h.elim hp (fun h => hr h.2)), decide_eq_false hr]
    refine AW.condF rfl ?_
    refine AW.skip ?_
    refine AW.seq ?_
    refine AW.region ?_
    refine AOps.run tok 1 _ _ _ _ rfl ?_
    refine AOps.nil ?_
    exact AW.ret rfl
  rw [if_neg (fun h => h.elim hp (fun h => hz h.1)), beq_eq_false_iff_ne.2 hz]
  refine AOps.run tok 8 _ _ _ _ rfl ?_
  refine AOps.nil ?_
  refine AW.condF rfl ?_
  refine AW.skip ?_
  refine AW.seq ?_
  refine AW.region ?_
  refine AOps.run tok 1 _ _ _ _ rfl ?_
  refine AOps.nil ?_
  exact AW.ret rfl
theorem defects_less_ok (u v w : V2) {k : Nat} (hu : szV u ≤ k) (hv : szV v ≤ k) (hw : szV w ≤ k) (hk : k ≤ 100000) : Pure Tryz.prog 88 [(VQ u).D, (VQ v).D, (VQ w).D] (dB (lessF u v w)) := by
  refine Pure.intro (n := 26) tok Tryz.func88 rfl rfl rfl (Nat.le_of_ble_eq_true rfl) (by kernel_rfl) (fun B F0 w0 => ?_)
  have z := LQ_dt v w hv hw
  have m1 := defects_half_ok u v hu hv hk
  have m2 := defects_half_ok u w hu hw hk
  have m3 := defects_cross_ok v w hv hw (by omega)
  have m4 := fraction_Sign_ok (Qr (crs v w)) (k := 4 * k + 1) (Qr_w _ (by omega)) (by omega)
  rw [Qr_val, sgI_num] at m4
  unfold lessF
  generalize halfF u v = a at m1 ⊢
  generalize halfF u w = b at m2 ⊢
  refine AW.seq ?_
  refine AW.region ?_
  refine AOps.run tok 4 _ _ _ _ rfl ?_
  refine AOps.nil ?_
  refine AW.seq ?_
  refine AW.draw hmix 6 (by kernel_rfl) ?_
  refine APre.run tok 2 _ _ _ _ rfl ?_
  refine APre.call tok rfl rfl rfl rfl rfl m1 ?_
  refine APre.run tok 2 _ _ _ _ rfl ?_
  refine APre.call tok rfl rfl rfl rfl rfl m2 ?_
  refine APre.nil ?_
  refine AOps.run tok 2 _ _ _ _ rfl ?_
  refine AOps.nil ?_
  refine AW.seq ?_
  refine AW.seq ?_
  refine AW.region ?_
  refine AOps.run tok 3 _ _ _ _ rfl ?_
  refine AOps.nil ?_
  by_cases hab : a = b
  · rw [if_neg (by simp [hab]), bne_eq_false_iff_eq.2 hab]
    refine AW.condF rfl ?_
    refine AW.skip ?_
    refine AW.seq ?_
    refine AW.region ?_
    refine AOps.run tok 2 _ _ _ _ rfl ?_
    refine AOps.call tok rfl rfl rfl rfl m3 ?_
    refine AOps.call tok rfl rfl rfl rfl m4 ?_
    refine AOps.run tok 2 _ _ _ _ rfl ?_
    refine AOps.nil ?_
    exact AW.ret rfl
  rw [if_pos hab, bne_iff_ne.2 hab]
  refine AW.condT rfl ?_
  refine AW.seq ?_
  refine AW.region ?_
  refine AOps.run tok 4 _ _ _ _ rfl ?_
  refine AOps.nil ?_
  exact AW.ret rfl
theorem asc_no {l : List V2} {i : Nat} (h0 : 1 ≤ i) (hi : i < l.length) (h : lessF (l.getD 0 (0, 0)) (l.getD (i - 1) (0, 0)) (l.getD i (0, 0)) = false) : ascF l = false := by
  cases l with
  | nil => simp at hi
  | cons u r =>
    show ((List.range r.length).all fun i => lessF u ((u :: r).getD i (0, 0)) ((u :: r).getD (i + 1) (0, 0))) = false
    rw [List.all_eq_false]
    have hi : i < r.length + 1 := hi
    refine ⟨i - 1, List.mem_range.2 (by omega), ?_⟩
    rw [show i - 1 + 1 = i by omega]
    have h : lessF u ((u :: r).getD (i - 1) (0, 0)) ((u :: r).getD i (0, 0)) = false := h
    rw [h]; simp
theorem asc_yes {l : List V2} (h : ∀ i, 1 ≤ i → i < l.length → lessF (l.getD 0 (0, 0)) (l.getD (i - 1) (0, 0)) (l.getD i (0, 0)) = true) : ascF l = true := by
  cases l with
  | nil => rfl
  | cons u r =>
    show ((List.range r.length).all fun i => lessF u ((u :: r).getD i (0, 0)) ((u :: r).getD (i + 1) (0, 0))) = true
    rw [List.all_eq_true]
    intro i hi
    have hi := List.mem_range.1 hi
    exact h (i + 1) (by omega) (Nat.succ_lt_succ hi)
theorem defects_ascends_ok (l : List V2) {k : Nat} (hs : ∀ i, i < l.length → szV (l.getD i (0, 0)) ≤ k) (hl : l.length ≤ 1000000) (hk : k ≤ 100000) : Pure Tryz.prog 46 [VL l] (dB (ascF l)) := by
  refine Pure.intro (n := 24) tok Tryz.func46 rfl rfl rfl (Nat.le_of_ble_eq_true rfl) (by kernel_rfl) (fun B F0 w0 => ?_)
  have hno := fun i h0 hi => asc_no (l := l) (i := i) h0 hi
  have hyes := asc_yes (l := l)
  generalize ascF l = E at hno hyes ⊢
  refine AW.seq ?_
  refine AW.region ?_
  refine AOps.run tok 1 _ _ _ _ rfl ?_
  refine AOps.nil ?_
  refine AW.seq ?_
  refine AW.seq ?_
  refine AW.region ?_
  refine AOps.run tok 1 _ _ _ _ rfl ?_
  refine AOps.nil ?_
  refine AW.block ?_
  refine AW.loopS [0, 3] (fun s : Nat => [(0, .d (VL l)), (3, .d (dI s))]) (fun s => 1 ≤ s ∧ ∀ i, 1 ≤ i → i < s → i < l.length → lessF (l.getD 0 (0, 0)) (l.getD (i - 1) (0, 0)) (l.getD i (0, 0)) = true) (fun s => l.length - s) 1 rfl ⟨Nat.le_refl _, fun i h1 h2 => by omega⟩ (fun i hi => ?_)
  · show AW _ _ _ _ _ _ _ [(0, .d (VL l)), (3, .d (dI i))]
    obtain ⟨h1, hi⟩ := hi
    refine AW.seq ?_
    refine AW.seq ?_
    refine AW.region ?_
    refine AOps.run tok 3 _ _ _ _ rfl ?_
    rw [List.length_map]
    refine AOps.run tok 1 _ _ _ _ rfl ?_
    refine AOps.nil ?_
    refine AW.cond rfl (fun h => ?_) (fun h => ?_)
    · have hii : i < l.length := by have := of_decide_eq_true h; omega
      have g0 := getVl (vs := l) (i := 0) (by omega)
      have g1 := getVl (vs := l) (i := i - 1) (by omega)
      have g2 := getVl hii
      have cl := defects_less_ok (l.getD 0 (0, 0)) (l.getD (i - 1) (0, 0)) (l.getD i (0, 0)) (hs 0 (by omega)) (hs (i - 1) (by omega)) (hs i hii) hk
      have hn := hno i h1 hii
      generalize l.getD 0 (0, 0) = u at g0 cl hn hi
      generalize hv : l.getD (i - 1) (0, 0) = v at g1 cl hn
      generalize hw : l.getD i (0, 0) = w at g2 cl hn
      refine AW.skip ?_
      refine AW.seq ?_
      refine AW.block ?_
      refine AW.seq ?_
      refine AW.draw hmix 14 (by kernel_rfl) ?_
      refine APre.run tok 1 _ _ _ _ rfl ?_
      refine APre.idx tok (VQ u).D rfl rfl rfl rfl rfl (by omega) g0 ?_
      refine APre.run tok 4 _ _ _ _ rfl ?_
      rw [wI64 (x := (i : Int) - 1) (by omega) (by omega), show (i : Int) - 1 = ((i - 1 : Nat) : Int) by omega]
      refine APre.idx tok (VQ v).D rfl rfl rfl rfl rfl (Int.natCast_nonneg _) g1 ?_
      refine APre.run tok 3 _ _ _ _ rfl ?_
      refine APre.idx tok (VQ w).D rfl rfl rfl rfl rfl (Int.natCast_nonneg i) g2 ?_
      refine APre.run tok 1 _ _ _ _ rfl ?_
      refine APre.call tok rfl rfl rfl rfl rfl cl ?_
      refine APre.run tok 1 _ _ _ _ rfl ?_
      refine APre.nil ?_
      refine AOps.nil ?_
      refine AW.cond rfl (fun h => ?_) (fun h => ?_)
      · have hf : lessF u v w = false := by cases hx : lessF u v w with
          | false => rfl
          | true => rw [hx] at h; cases h
        rw [hn hf]
        refine AW.seq ?_
        refine AW.region ?_
        refine AOps.run tok 1 _ _ _ _ rfl ?_
        refine AOps.nil ?_
        exact AW.ret rfl
      · have hf : lessF u v w = true := by cases hx : lessF u v w with
          | true => rfl
          | false => rw [hx] at h; cases h
        refine AW.skip ?_
        refine AW.region ?_
        refine AOps.run tok 2 _ _ _ _ rfl ?_
        rw [wI64 (x := (i : Int) + 1) (by omega) (by omega)]
        refine AOps.run tok 1 _ _ _ _ rfl ?_
        refine AOps.nil ?_
        refine ⟨i + 1, rfl, ⟨by omega, fun j hj1 hj2 hj3 => ?_⟩, by omega⟩
        by_cases hj : j < i
        · exact hi j hj1 hj hj3
        · obtain rfl : j = i := by omega
          rw [hv, hw]; exact hf
    rw [hyes (fun j h1 h2 => hi j h1 (by have := of_decide_eq_false h; omega) h2)]
    refine AW.exit ?_
    refine AW.seq ?_
    refine AW.region ?_
    refine AOps.run tok 1 _ _ _ _ rfl ?_
    refine AOps.nil ?_
    exact AW.ret rfl
theorem defects_mirrored_ok (l : List V2) {k : Nat} (hs : ∀ i, i < l.length → szV (l.getD i (0, 0)) ≤ k) (hl : l.length ≤ 1000000) (hk : k ≤ 100000) : Pure Tryz.prog 47 [VL l] (VL (mirF l)) := by
  refine Pure.intro (n := 23) tok Tryz.func47 rfl rfl rfl (Nat.le_of_ble_eq_true rfl) (by kernel_rfl) (fun B F0 w0 => ?_)
  refine AW.seq ?_
  refine AW.region ?_
  refine AOps.run tok 1 _ _ _ _ rfl ?_
  refine AOps.nil ?_
  refine AW.seq ?_
  refine AW.region ?_
  refine AOps.run tok 1 _ _ _ _ rfl ?_
  refine AOps.nil ?_
  refine AW.seq ?_
  refine AW.seq ?_
  refine AW.region ?_
  refine AOps.run tok 2 _ _ _ _ rfl ?_
  rw [List.length_map]
  refine AOps.run tok 1 _ _ _ _ rfl ?_
  refine AOps.nil ?_
  refine AW.block ?_
  refine AW.loopS [3, 6, 7, 8] (fun s : Nat => [(3, .ow 27 (VLs (mirF (l.take s)))), (6, .d (VL l)), (7, .d (dI l.length)), (8, .d (dI s))]) (fun s => s ≤ l.length) (fun s => l.length - s) 0 rfl (Nat.zero_le _) (fun i hi => ?_)
  · have hi : i ≤ l.length := hi
    show AW _ _ _ _ _ _ _ [(3, .ow 27 (VLs (mirF (l.take i)))), (6, .d (VL l)), (7, .d (dI l.length)), (8, .d (dI i))]
    refine AW.seq ?_
    refine AW.region ?_
    refine AOps.run tok 1 _ _ _ _ rfl ?_
    refine AOps.nil ?_
    refine AW.seq ?_
    refine AW.cond rfl (fun h => ?_) (fun h => ?_)
    · have hii : i < l.length := by have := of_decide_eq_true h; omega
      have g0 := getVl hii
      have hz := hs i hii
      have htk := take_snocD l (0, 0) hii
      have hol : (l.take i).length = i := by rw [List.length_take]; omega
      generalize l.getD i (0, 0) = p at g0 hz htk
      have hp := szV_1 hz
      have cn := fraction_Neg_ok (Qr p.2) (k := k) (Qr_w _ hp.2) (by omega)
      rw [Qr_val] at cn
      have hml : (VLs (mirF (l.take i))).length = i := by rw [List.length_map]; show (List.map _ _).length = i; rw [List.length_map, hol]
      refine AW.skip ?_
      refine AW.seq ?_
      refine AW.block ?_
      refine AW.seq ?_
      refine AW.region ?_
      refine AOps.idx tok (VQ p).D rfl rfl rfl rfl (Int.natCast_nonneg i) g0 ?_
      refine AOps.run tok 3 _ _ _ _ rfl ?_
      refine AOps.nil ?_
      refine AW.draw hmix 8 (by kernel_rfl) ?_
      refine APre.run tok 5 _ _ _ _ rfl ?_
      refine APre.call tok rfl rfl rfl rfl rfl cn ?_
      refine APre.run tok 1 _ _ _ _ rfl ?_
      refine APre.bsd tok rfl rfl rfl rfl rfl rfl ?_
      refine APre.nil ?_
      refine AOps.appo tok rfl rfl rfl rfl rfl rfl (by rw [hml]; show (_ + 1) * 112 ≤ _; omega) (by rw [hml]; show _ + 1 ≤ _; omega) ?_
      refine AOps.run tok 1 _ _ _ _ rfl ?_
      refine AOps.nil ?_
      refine AW.region ?_
      refine AOps.run tok 1 _ _ _ _ rfl ?_
      rw [wI64 (x := (i : Int) + 1) (by omega) (by omega)]
      refine AOps.run tok 1 _ _ _ _ rfl ?_
      refine AOps.nil ?_
      exact ⟨i + 1, by rw [htk]; show _ = [(3, AV.ow _ (List.map _ (List.map _ _))), _, _, _]; rw [List.map_append, List.map_append]; rfl, hii, by omega⟩
    have hii : i = l.length := by have := of_decide_eq_false h; omega
    subst hii
    rw [List.take_length]
    refine AW.exit ?_
    refine AW.seq ?_
    refine AW.region ?_
    refine AOps.run tok 2 _ _ _ _ rfl ?_
    refine AOps.nil ?_
    exact AW.ret rfl
end Lift
namespace Lift
open Go Go.Proofs
abbrev NqD (a : NQ) : D := .sl 3 (QsD a)
abbrev TwD (rt : List NQ) : D := .ag [.sl 1 (rt.map NqD)]
theorem shl1I {k : Nat} (hk : k ≤ 40) : IntKind.i64.wrap ((1 : Int) * 2 ^ (min k IntKind.i64.bits)) = ((2 ^ k : Nat) : Int) := by
  have hb : IntKind.i64.bits = 64 := rfl
  have h : 2 ^ k ≤ 2 ^ 40 := Nat.pow_le_pow_right (by decide) hk
  rw [hb, Nat.min_eq_left (by omega), show (1 : Int) * 2 ^ k = ((2 ^ k : Nat) : Int) by push_cast; omega]
  generalize 2 ^ k = m at h
  rw [wI64 (by omega) (by omega)]
theorem tower_level_ok (xs : List D) (r : Int) (hx : xs.length ≤ 1099511627776) (hr : ∀ k : Nat, k ≤ 40 → xs.length ≤ 2 ^ k → (∀ j, j < k → 2 ^ j < xs.length) → r = if 2 ^ k = xs.length then (k : Int) else -1) : Pure Tryz.prog 179 [.sl 3 xs] (dI r) := by
  refine Pure.intro (n := 17) tok Tryz.func179 rfl rfl rfl (Nat.le_of_ble_eq_true rfl) (by kernel_rfl) (fun B F0 w0 => ?_)
  refine AW.seq ?_
  refine AW.region ?_
  refine AOps.run tok 1 _ _ _ _ rfl ?_
  refine AOps.nil ?_
  refine AW.seq ?_
  refine AW.region ?_
  refine AOps.run tok 1 _ _ _ _ rfl ?_
  refine AOps.nil ?_
  refine AW.seq ?_
  refine AW.block ?_
  refine AW.loopS [0, 3] (fun k : Nat => [(0, .d (.sl 3 xs)), (3, .d (dI k))]) (fun k => k ≤ 40 ∧ ∀ j, j < k → 2 ^ j < xs.length) (fun k => 40 - k) 0 rfl ⟨Nat.zero_le _, fun j h => by omega⟩ (fun k hi => ?_)
  · obtain ⟨hk, hi⟩ := hi
    show AW _ _ _ _ _ _ _ [(0, .d (.sl 3 xs)), (3, .d (dI k))]
    have hp : 2 ^ k ≤ 2 ^ 40 := Nat.pow_le_pow_right (by decide) hk
    refine AW.seq ?_
    refine AW.seq ?_
    refine AW.region ?_
    refine AOps.run tok 2 _ _ _ _ rfl ?_
    rw [shl1I hk]
    refine AOps.run tok 3 _ _ _ _ rfl ?_
    refine AOps.nil ?_
    refine AW.cond rfl (fun h => ?_) (fun h => ?_)
    · have h : 2 ^ k < xs.length := by have := of_decide_eq_true h; omega
      have hk4 : k ≠ 40 := fun e => by subst e; omega
      refine AW.skip ?_
      refine AW.block ?_
      refine AW.region ?_
      refine AOps.run tok 2 _ _ _ _ rfl ?_
      rw [wI64 (x := (k : Int) + 1) (by omega) (by omega)]
      refine AOps.run tok 1 _ _ _ _ rfl ?_
      refine AOps.nil ?_
      exact ⟨k + 1, rfl, ⟨by omega, fun j hj => by
        by_cases e : j = k
        · rw [e]; exact h
        · exact hi j (by omega)⟩, by omega⟩
    have h : ¬ 2 ^ k < xs.length := by have := of_decide_eq_false h; omega
    rw [hr k hk (by omega) hi]
    refine AW.exit ?_
    refine AW.seq ?_
    refine AW.seq ?_
    refine AW.region ?_
    refine AOps.run tok 2 _ _ _ _ rfl ?_
    rw [shl1I hk]
    refine AOps.run tok 3 _ _ _ _ rfl ?_
    refine AOps.nil ?_
    by_cases e : 2 ^ k = xs.length
    · rw [if_pos e, e, bne_eq_false_iff_eq.2 rfl]
      refine AW.condF rfl ?_
      refine AW.skip ?_
      refine AW.seq ?_
      refine AW.region ?_
      refine AOps.run tok 2 _ _ _ _ rfl ?_
      refine AOps.nil ?_
      exact AW.ret rfl
    rw [if_neg e, bne_iff_ne.2 (fun h => e (by omega))]
    refine AW.condT rfl ?_
    refine AW.seq ?_
    refine AW.region ?_
    refine AOps.run tok 1 _ _ _ _ rfl ?_
    refine AOps.nil ?_
    exact AW.ret rfl
theorem pow2_40 {i j : Nat} (h : 2 ^ i ≤ 2 ^ j) : i ≤ j := (Nat.pow_le_pow_iff_right (a := 2) (by decide)).1 h
theorem tower_level_pow (xs : List D) {i : Nat} (h : xs.length = 2 ^ i) (hi : i ≤ 40) : Pure Tryz.prog 179 [.sl 3 xs] (dI i) := by
  have hp : 2 ^ i ≤ 2 ^ 40 := Nat.pow_le_pow_right (by decide) hi
  refine tower_level_ok xs i (by omega) (fun k hk h1 h2 => ?_)
  rw [h] at h1
  have h1 := pow2_40 h1
  by_cases e : i < k
  · have := h2 i e; omega
  · have e : i = k := by omega
    rw [if_pos (by rw [h, e]), e]
theorem tower_level_bad (xs : List D) (h : ∀ i, xs.length ≠ 2 ^ i) (hx : xs.length ≤ 1099511627776) : Pure Tryz.prog 179 [.sl 3 xs] (dI (-1)) := by
  refine tower_level_ok xs (-1) hx (fun k hk h1 h2 => ?_)
  rw [if_neg (fun e => h k e.symm)]
theorem zeroF_no {a : NQ} {i : Nat} (hi : i < a.length) (h : a.getD i 0 ≠ 0) : zeroF a = false := by
  unfold zeroF
  rw [List.all_eq_false]
  exact ⟨a.getD i 0, by rw [List.getD_eq_getElem?_getD, List.getElem?_eq_getElem hi]; exact List.getElem_mem hi, by rw [decide_eq_false h]; simp⟩
theorem zeroF_yes {a : NQ} (h : ∀ i, i < a.length → a.getD i 0 = 0) : zeroF a = true := by
  unfold zeroF
  rw [List.all_eq_true]
  intro x hx
  obtain ⟨i, hi, rfl⟩ := List.mem_iff_getElem.1 hx
  have := h i hi
  rw [List.getD_eq_getElem?_getD, List.getElem?_eq_getElem hi] at this
  exact decide_eq_true this
theorem tower_zero_ok (a : NQ) {k : Nat} (hs : szQs k a) (hk : k ≤ 20000000) (hl : a.length ≤ 1000000) : Pure Tryz.prog 190 [NqD a] (dB (zeroF a)) := by
  refine Pure.intro (n := 15) tok Tryz.func190 rfl rfl rfl (Nat.le_of_ble_eq_true rfl) (by kernel_rfl) (fun B F0 w0 => ?_)
  have hno := fun i hi => zeroF_no (a := a) (i := i) hi
  have hyes := zeroF_yes (a := a)
  generalize zeroF a = E at hno hyes ⊢
  refine AW.seq ?_
  refine AW.region ?_
  refine AOps.run tok 1 _ _ _ _ rfl ?_
  refine AOps.nil ?_
  refine AW.seq ?_
  refine AW.seq ?_
  refine AW.region ?_
  refine AOps.run tok 2 _ _ _ _ rfl ?_
  rw [List.length_map]
  refine AOps.run tok 1 _ _ _ _ rfl ?_
  refine AOps.nil ?_
  refine AW.block ?_
  refine AW.loopS [5, 6, 7] (fun i : Nat => [(5, .d (NqD a)), (6, .d (dI a.length)), (7, .d (dI i))]) (fun i => ∀ j, j < i → j < a.length → a.getD j 0 = 0) (fun i => a.length - i) 0 rfl (fun j h => by omega) (fun i hi => ?_)
  · show AW _ _ _ _ _ _ _ [(5, .d (NqD a)), (6, .d (dI a.length)), (7, .d (dI i))]
    refine AW.seq ?_
    refine AW.region ?_
    refine AOps.run tok 1 _ _ _ _ rfl ?_
    refine AOps.nil ?_
    refine AW.seq ?_
    refine AW.cond rfl (fun h => ?_) (fun h => ?_)
    · have hii : i < a.length := by have := of_decide_eq_true h; omega
      have g := getQ hii
      have cs := fraction_Sign_ok (Qr (a.getD i 0)) (Qr_w _ (hs i)) hk
      have hn := hno i hii
      rw [Qr_val] at cs
      have s0 := sgI0 (q := a.getD i 0)
      generalize hq : a.getD i 0 = q at g cs hn s0
      generalize sgI q.num = s at cs s0
      refine AW.skip ?_
      refine AW.seq ?_
      refine AW.block ?_
      refine AW.seq ?_
      refine AW.region ?_
      refine AOps.idx tok (Qr q).D rfl rfl rfl rfl (Int.natCast_nonneg i) g ?_
      refine AOps.run tok 3 _ _ _ _ rfl ?_
      refine AOps.nil ?_
      refine AW.seq ?_
      refine AW.region ?_
      refine AOps.run tok 1 _ _ _ _ rfl ?_
      refine AOps.call tok rfl rfl rfl rfl cs ?_
      refine AOps.run tok 1 _ _ _ _ rfl ?_
      refine AOps.nil ?_
      refine AW.cond rfl (fun h => ?_) (fun h => ?_)
      · have h : s ≠ 0 := bne_iff_ne.1 h
        rw [hn (fun e => h (s0.2 e))]
        refine AW.seq ?_
        refine AW.region ?_
        refine AOps.run tok 1 _ _ _ _ rfl ?_
        refine AOps.nil ?_
        exact AW.ret rfl
      · have h : s = 0 := bne_eq_false_iff_eq.1 h
        refine AW.skip ?_
        refine AW.region ?_
        refine AOps.run tok 1 _ _ _ _ rfl ?_
        rw [wI64 (x := (i : Int) + 1) (by omega) (by omega)]
        refine AOps.run tok 1 _ _ _ _ rfl ?_
        refine AOps.nil ?_
        refine ⟨i + 1, rfl, fun j h1 h2 => ?_, by omega⟩
        by_cases e : j = i
        · rw [e, hq]; exact s0.1 h
        · exact hi j (by omega) h2
    have hii : ¬ i < a.length := by have := of_decide_eq_false h; omega
    rw [hyes (fun j h => hi j (by omega) h)]
    refine AW.exit ?_
    refine AW.seq ?_
    refine AW.region ?_
    refine AOps.run tok 1 _ _ _ _ rfl ?_
    refine AOps.nil ?_
    exact AW.ret rfl
theorem Qr_len (q : Rat) : ((Qr q).g = false ∧ (Qr q).n.length = 0 ∧ (Qr q).d.length = 0) ↔ q = 0 := by
  constructor
  · rintro ⟨_, h, _⟩
    have := RD.val_nil (r := Qr q) (List.length_eq_zero_iff.1 h)
    rw [Qr_val] at this
    exact this
  · intro e; subst e; rw [Qr_zero]; exact ⟨rfl, rfl, rfl⟩
theorem tower_empty_ok (a : NQ) (hl : a.length ≤ 1000000) : Pure Tryz.prog 185 [NqD a] (dB (zeroF a)) := by
  refine Pure.intro (n := 26) tok Tryz.func185 rfl rfl rfl (Nat.le_of_ble_eq_true rfl) (by kernel_rfl) (fun B F0 w0 => ?_)
  have hno := fun i hi => zeroF_no (a := a) (i := i) hi
  have hyes := zeroF_yes (a := a)
  generalize zeroF a = E at hno hyes ⊢
  refine AW.seq ?_
  refine AW.region ?_
  refine AOps.run tok 1 _ _ _ _ rfl ?_
  refine AOps.nil ?_
  refine AW.seq ?_
  refine AW.seq ?_
  refine AW.region ?_
  refine AOps.run tok 2 _ _ _ _ rfl ?_
  rw [List.length_map]
  refine AOps.run tok 1 _ _ _ _ rfl ?_
  refine AOps.nil ?_
  refine AW.block ?_
  refine AW.loopS [5, 6, 7] (fun i : Nat => [(5, .d (NqD a)), (6, .d (dI a.length)), (7, .d (dI i))]) (fun i => ∀ j, j < i → j < a.length → a.getD j 0 = 0) (fun i => a.length - i) 0 rfl (fun j h => by omega) (fun i hi => ?_)
  · show AW _ _ _ _ _ _ _ [(5, .d (NqD a)), (6, .d (dI a.length)), (7, .d (dI i))]
    refine AW.seq ?_
    refine AW.region ?_
    refine AOps.run tok 1 _ _ _ _ rfl ?_
    refine AOps.nil ?_
    refine AW.seq ?_
    refine AW.cond rfl (fun h => ?_) (fun h => ?_)
    · have hii : i < a.length := by have := of_decide_eq_true h; omega
      have g := getQ hii
      have hn := hno i hii
      have s0 := Qr_len (a.getD i 0)
      generalize hq : a.getD i 0 = q at g hn s0
      generalize Qr q = y at g s0
      obtain ⟨yg, yn, yd⟩ := y
      simp only [] at s0
      refine AW.skip ?_
      refine AW.seq ?_
      refine AW.block ?_
      refine AW.seq ?_
      refine AW.region ?_
      refine AOps.idx tok (RD.mk yg yn yd).D rfl rfl rfl rfl (Int.natCast_nonneg i) g ?_
      refine AOps.run tok 3 _ _ _ _ rfl ?_
      refine AOps.nil ?_
      refine AW.seq ?_
      refine AW.region ?_
      refine AOps.run tok 3 _ _ _ _ rfl ?_
      cases yg with
      | true =>
        refine AOps.run tok 11 _ _ _ _ rfl ?_
        refine AOps.nil ?_
        refine AW.condT rfl ?_
        rw [hn (fun e => by have := s0.2 e; cases this.1)]
        refine AW.seq ?_
        refine AW.region ?_
        refine AOps.run tok 1 _ _ _ _ rfl ?_
        refine AOps.nil ?_
        exact AW.ret rfl
      | false =>
      refine AOps.run tok 3 _ _ _ _ rfl ?_
      rw [lenWd]
      refine AOps.run tok 1 _ _ _ _ rfl ?_
      by_cases h1 : (0 : Int) < (yn.length : Int)
      · rw [decide_eq_true h1]
        refine AOps.run tok 7 _ _ _ _ rfl ?_
        refine AOps.nil ?_
        refine AW.condT rfl ?_
        rw [hn (fun e => by have := (s0.2 e).2.1; omega)]
        refine AW.seq ?_
        refine AW.region ?_
        refine AOps.run tok 1 _ _ _ _ rfl ?_
        refine AOps.nil ?_
        exact AW.ret rfl
      rw [decide_eq_false h1]
      refine AOps.run tok 5 _ _ _ _ rfl ?_
      rw [lenWd]
      refine AOps.run tok 1 _ _ _ _ rfl ?_
      by_cases h2 : (0 : Int) < (yd.length : Int)
      · rw [decide_eq_true h2]
        refine AOps.run tok 1 _ _ _ _ rfl ?_
        refine AOps.nil ?_
        refine AW.condT rfl ?_
        rw [hn (fun e => by have := (s0.2 e).2.2; omega)]
        refine AW.seq ?_
        refine AW.region ?_
        refine AOps.run tok 1 _ _ _ _ rfl ?_
        refine AOps.nil ?_
        exact AW.ret rfl
      rw [decide_eq_false h2]
      refine AOps.run tok 1 _ _ _ _ rfl ?_
      refine AOps.nil ?_
      refine AW.condF rfl ?_
      refine AW.skip ?_
      refine AW.region ?_
      refine AOps.run tok 1 _ _ _ _ rfl ?_
      rw [wI64 (x := (i : Int) + 1) (by omega) (by omega)]
      refine AOps.run tok 1 _ _ _ _ rfl ?_
      refine AOps.nil ?_
      refine ⟨i + 1, rfl, fun j h1 h2 => ?_, by omega⟩
      by_cases e : j = i
      · rw [e, hq]; exact s0.1 ⟨rfl, by omega, by omega⟩
      · exact hi j (by omega) h2
    have hii : ¬ i < a.length := by have := of_decide_eq_false h; omega
    rw [hyes (fun j h => hi j (by omega) h)]
    refine AW.exit ?_
    refine AW.seq ?_
    refine AW.region ?_
    refine AOps.run tok 1 _ _ _ _ rfl ?_
    refine AOps.nil ?_
    exact AW.ret rfl
end Lift
namespace Lift
open Go Go.Proofs
section
variable {P : Program} {T : Ty} {B : Nat} {F0 : Nat → Prop} {w0 : Bas} {n : Nat} {σ τ : St} {K : St → Prop} {all : Array Oper} {o : Oper} {d : Nat} {rest : List Oper}
theorem AOps.makeN (hT : TOk P T) (z : Nat) {e : Nat} {te : TI} {m : Int} (hd : o.dst = some d) (hdn : Nat.ble (d + 1) n = true) (hg : guardOk all σ o = true) (hx : mkF T σ.get o.op = some (e, te, m)) (hz : zeroOk te = true) (hzd : zeroD te = .ag [.v (.bool false), .sl 1 [], .sl 1 []]) (hb : te.bytes = 56) (hm : m = z) (h1 : z ≤ 1000000)
    (h : AOps P B F0 w0 n all rest K ((d, .ow e (QsD (List.replicate z 0))) :: σ.kill d)) : AOps P B F0 w0 n all (o :: rest) K σ := by
  subst hm
  refine AOps.make hT hd hdn hg hx hz (by omega) (by rw [hb]; omega) (by omega) ?_
  have hq : (Qr 0).D = .ag [.v (.bool false), .sl 1 [], .sl 1 []] := by rw [Qr_zero]; rfl
  rw [hzd, ← hq, show List.replicate ((z : Int)).toNat (Qr 0).D = QsD (List.replicate z 0) by rw [QsD, List.map_replicate]; rfl]
  exact h
theorem wide_row (a : NQ) (m : Nat) : (QsD a).take (min (QsD a).length (QsD (List.replicate m 0)).length) ++ (QsD (List.replicate m 0)).drop (min (QsD a).length (QsD (List.replicate m 0)).length) = QsD (wideF a m) := by
  rw [List.length_map, List.length_map, List.length_replicate, ← List.map_take, ← List.map_drop, ← List.map_append]
  unfold wideF
  rw [List.drop_replicate]
  congr 2
  · by_cases h : a.length ≤ m
    · rw [Nat.min_eq_left h, List.take_of_length_le (Nat.le_refl _), List.take_of_length_le h]
    · rw [Nat.min_eq_right (by omega)]
  · congr 1; omega
theorem AOps.copyN (hT : TOk P T) {h e m : Nat} {a : NQ} (hd : o.dst = some d) (hdn : Nat.ble (d + 1) n = true) (hg : guardOk all σ o = true) (hx : cpS T σ o.op = some (h, e, QsD (List.replicate m 0), QsD a))
    (hk : ∀ z, AOps P B F0 w0 n all rest K ((d, .d (.v (.int .i64 z))) :: (h, .ow e (QsD (wideF a m))) :: σ)) : AOps P B F0 w0 n all (o :: rest) K σ := by
  refine AOps.copyS hT hd hdn hg hx ?_
  rw [wide_row]
  exact hk _
end
theorem nq_ext {a b : NQ} (h : a.length = b.length) (h2 : ∀ i, i < a.length → a.getD i 0 = b.getD i 0) : a = b := by
  refine List.ext_getElem h (fun i h3 h4 => ?_)
  have := h2 i h3
  rw [List.getD_eq_getElem?_getD, List.getD_eq_getElem?_getD, List.getElem?_eq_getElem h3, List.getElem?_eq_getElem h4] at this
  exact this
theorem gQ_set (r : NQ) (i j : Nat) (q : Rat) : (r.set i q).getD j 0 = if j = i ∧ i < r.length then q else r.getD j 0 := by
  rw [List.getD_eq_getElem?_getD, List.getElem?_set, List.getD_eq_getElem?_getD]
  by_cases e : i = j
  · subst e
    by_cases h : i < r.length
    · rw [if_pos rfl, if_pos h, if_pos ⟨rfl, h⟩]; rfl
    · rw [if_pos rfl, if_neg h, if_neg (fun e => h e.2), List.getElem?_eq_none (by omega)]
  · rw [if_neg e, if_neg (fun h => e h.1.symm)]
def oneRow (r : NQ) (res : D) (R' : List LR) : Prop := ∃ V, res = .v V ∧ R' = [(V, AV.ow 25 (QsD r))]
theorem tower_wide_ok (a : NQ) (n : Nat) (hn : n ≤ 1000000) : CallZ Tryz.prog 189 [NqD a, dI n] [] (oneRow (wideF a n)) := by
  refine CallZ.intro (n := 12) tok Tryz.func189 rfl rfl rfl (Nat.le_of_ble_eq_true rfl) (by kernel_rfl) (fun B F0 w0 => ?_)
  refine AZ.seq ?_
  refine AZ.reg (fun B1 F1 w1 => ?_)
  refine AOps.run tok 1 _ _ _ _ rfl ?_
  refine AOps.nil ⟨rfl, ?_⟩
  refine AZ.seq ?_
  refine AZ.reg (fun B1 F1 w1 => ?_)
  refine AOps.run tok 1 _ _ _ _ rfl ?_
  refine AOps.makeN tok n rfl rfl rfl rfl rfl rfl rfl rfl hn ?_
  refine AOps.run tok 1 _ _ _ _ rfl ?_
  refine AOps.nil ⟨rfl, ?_⟩
  refine AZ.seq ?_
  refine AZ.reg (fun B1 F1 w1 => ?_)
  refine AOps.run tok 2 _ _ _ _ rfl ?_
  refine AOps.copyN tok (a := a) (m := n) rfl rfl rfl rfl (fun z => ?_)
  refine AOps.nil ⟨rfl, ?_⟩
  refine AZ.seq ?_
  refine AZ.reg (fun B1 F1 w1 => ?_)
  refine AOps.run tok 2 _ _ _ _ rfl ?_
  refine AOps.nil ⟨rfl, ?_⟩
  refine AZ.loosen 4 rfl rfl rfl (fun V => AZ.ret ⟨.v V, rfl, V, rfl, rfl⟩)
theorem tower_minus_ok (a : NQ) {k : Nat} (hs : szQs k a) (hk : k ≤ 20000000) (hl : a.length ≤ 1000000) : Pure Tryz.prog 188 [NqD a] (NqD (minusF a)) := by
  refine Pure.intro (n := 23) tok Tryz.func188 rfl rfl rfl (Nat.le_of_ble_eq_true rfl) (by kernel_rfl) (fun B F0 w0 => ?_)
  refine AW.seq ?_
  refine AW.region ?_
  refine AOps.run tok 1 _ _ _ _ rfl ?_
  refine AOps.nil ?_
  refine AW.seq ?_
  refine AW.region ?_
  refine AOps.run tok 2 _ _ _ _ rfl ?_
  rw [List.length_map]
  refine AOps.makeN tok a.length rfl rfl rfl rfl rfl rfl rfl rfl hl ?_
  refine AOps.run tok 1 _ _ _ _ rfl ?_
  refine AOps.nil ?_
  refine AW.seq ?_
  refine AW.seq ?_
  refine AW.region ?_
  refine AOps.run tok 2 _ _ _ _ rfl ?_
  rw [List.length_map]
  refine AOps.run tok 1 _ _ _ _ rfl ?_
  refine AOps.nil ?_
  refine AW.block ?_
  refine AW.loopS [0, 3, 9, 10] (fun s : Nat × NQ => [(0, .d (NqD a)), (3, .ow 25 (QsD s.2)), (9, .d (dI a.length)), (10, .d (dI s.1))]) (fun s => s.2.length = a.length ∧ ∀ j, j < s.1 → j < a.length → s.2.getD j 0 = -a.getD j 0) (fun s => a.length - s.1) (0, List.replicate a.length 0) rfl ⟨List.length_replicate, fun j h => by omega⟩ (fun s hi => ?_)
  · obtain ⟨i, r⟩ := s
    obtain ⟨hrl, hi⟩ := hi
    simp only [] at hrl hi
    show AW _ _ _ _ _ _ _ [(0, .d (NqD a)), (3, .ow 25 (QsD r)), (9, .d (dI a.length)), (10, .d (dI i))]
    refine AW.seq ?_
    refine AW.region ?_
    refine AOps.run tok 1 _ _ _ _ rfl ?_
    refine AOps.nil ?_
    refine AW.seq ?_
    refine AW.cond rfl (fun h => ?_) (fun h => ?_)
    · have hii : i < a.length := by have := of_decide_eq_true h; omega
      have g := getQ hii
      have cn := fraction_Neg_ok (Qr (a.getD i 0)) (Qr_w _ (hs i)) hk
      rw [Qr_val] at cn
      refine AW.skip ?_
      refine AW.seq ?_
      refine AW.block ?_
      refine AW.seq ?_
      refine AW.region ?_
      refine AOps.run tok 2 _ _ _ _ rfl ?_
      refine AOps.nil ?_
      refine AW.region ?_
      refine AOps.run tok 4 _ _ _ _ rfl ?_
      refine AOps.idx tok (Qr (a.getD i 0)).D rfl rfl rfl rfl (Int.natCast_nonneg i) g ?_
      refine AOps.run tok 1 _ _ _ _ rfl ?_
      refine AOps.call tok rfl rfl rfl rfl cn ?_
      refine AOps.idxo tok rfl rfl rfl rfl (Int.natCast_nonneg i) (by rw [List.length_map]; show i < _; omega) ?_
      refine AOps.storeQ tok (-a.getD i 0) rfl rfl rfl (by show i < _; omega) ?_
      refine AOps.nil ?_
      refine AW.region ?_
      refine AOps.run tok 1 _ _ _ _ rfl ?_
      rw [wI64 (x := (i : Int) + 1) (by omega) (by omega)]
      refine AOps.run tok 1 _ _ _ _ rfl ?_
      refine AOps.nil ?_
      refine ⟨(i + 1, r.set i (-a.getD i 0)), rfl, ⟨by rw [List.length_set]; exact hrl, fun j h1 h2 => ?_⟩, by show a.length - (i + 1) < a.length - i; omega⟩
      show (r.set i (-a.getD i 0)).getD j 0 = _
      rw [gQ_set]
      by_cases e : j = i
      · rw [if_pos ⟨e, by omega⟩, e]
      · rw [if_neg (fun h => e h.1)]; exact hi j (by omega) h2
    have hii : ¬ i < a.length := by have := of_decide_eq_false h; omega
    obtain rfl : r = minusF a := nq_ext (by rw [hrl, minusF_len]) (fun j hj => by rw [minusF_get]; exact hi j (by omega) (by omega))
    refine AW.exit ?_
    refine AW.seq ?_
    refine AW.region ?_
    refine AOps.run tok 2 _ _ _ _ rfl ?_
    refine AOps.nil ?_
    exact AW.ret rfl
theorem maxI (a b : Nat) : (if (b : Int) > (a : Int) then (b : Int) else (a : Int)) = ((max a b : Nat) : Int) := by
  split <;> omega
theorem tower_plus_ok (a b : NQ) {k : Nat} (ha : szQs k a) (hb : szQs k b) (hk : k ≤ 20000000) (hl : a.length ≤ 1000000) (hl2 : b.length ≤ 1000000) : Pure Tryz.prog 186 [NqD a, NqD b] (NqD (plusF a b)) := by
  refine Pure.intro (n := 37) tok Tryz.func186 rfl rfl rfl (Nat.le_of_ble_eq_true rfl) (by kernel_rfl) (fun B F0 w0 => ?_)
  obtain ⟨n, hn⟩ : ∃ n, n = max a.length b.length := ⟨_, rfl⟩
  have cw1 := tower_wide_ok a n (by omega)
  have cw2 := tower_wide_ok b n (by omega)
  have l1 := wideF_len a n
  have l2 := wideF_len b n
  have g1 : ∀ i, i < n → (wideF a n).getD i 0 = a.getD i 0 := fun i hi => by rw [wideF_get, if_pos hi]
  have g2 : ∀ i, i < n → (wideF b n).getD i 0 = b.getD i 0 := fun i hi => by rw [wideF_get, if_pos hi]
  have hpl : (plusF a b).length = n := by rw [plusF_len, hn]
  generalize wideF a n = wa at cw1 l1 g1
  generalize wideF b n = wb at cw2 l2 g2
  refine AW.seq ?_
  refine AW.region ?_
  refine AOps.run tok 1 _ _ _ _ rfl ?_
  refine AOps.nil ?_
  refine AW.seq ?_
  refine AW.region ?_
  refine AOps.run tok 4 _ _ _ _ rfl ?_
  rw [List.length_map, List.length_map]
  refine AOps.run tok 2 _ _ _ _ rfl ?_
  rw [maxI, ← hn]
  refine AOps.nil ?_
  refine AW.seq ?_
  refine AZ.aw ?_
  refine AZ.region ?_
  refine AZOps.cut 2 rfl (fun B1 F1 w1 => ?_)
  refine AOps.run tok 2 _ _ _ _ rfl ?_
  refine AOps.nil ⟨rfl, ?_⟩
  refine AZOps.callz tok [] rfl rfl rfl rfl rfl List.nodup_nil rfl cw1 (fun _ _ _ => Nat.zero_le _) (fun res R1 hP => ?_)
  obtain ⟨V1, rfl, rfl⟩ := hP
  refine AZOps.cut 2 rfl (fun B1 F1 w1 => ?_)
  refine AOps.run tok 2 _ _ _ _ rfl ?_
  refine AOps.nil ⟨rfl, ?_⟩
  refine AZOps.callz tok [] rfl rfl rfl rfl rfl List.nodup_nil rfl cw2 (fun _ _ _ => Nat.zero_le _) (fun res R1 hP => ?_)
  obtain ⟨V2, rfl, rfl⟩ := hP
  refine AZOps.cut 2 rfl (fun B1 F1 w1 => ?_)
  refine AOps.run tok 2 _ _ _ _ rfl ?_
  refine AOps.nil ⟨rfl, ?_⟩
  refine AZOps.to [0, 1] [(0, .d (.v V1)), (1, .d (.v V2))] rfl ?_
  refine AZOps.adopt 0 0 (V := V1) (av := .ow 25 (QsD wa)) rfl rfl rfl ?_
  refine AZOps.to [0, 1] [(0, .ow 25 (QsD wa)), (1, .d (.v V2))] rfl ?_
  refine AZOps.adopt 1 1 (V := V2) (av := .ow 25 (QsD wb)) rfl rfl rfl ?_
  refine AZOps.to [0, 1] [(0, .ow 25 (QsD wa)), (1, .ow 25 (QsD wb))] rfl ?_
  refine AZOps.nil ?_
  refine AW.frz tok 1 rfl rfl ?_
  refine AW.seq ?_
  refine AW.seq ?_
  refine AW.region ?_
  refine AOps.run tok 2 _ _ _ _ rfl ?_
  rw [List.length_map, l1]
  refine AOps.run tok 1 _ _ _ _ rfl ?_
  refine AOps.nil ?_
  refine AW.block ?_
  refine AW.loopS [0, 1, 19, 20] (fun s : Nat × NQ => [(0, .ow 25 (QsD s.2)), (1, .d (NqD wb)), (19, .d (dI n)), (20, .d (dI s.1))]) (fun s => s.2.length = n ∧ ∀ j, j < n → s.2.getD j 0 = if j < s.1 then a.getD j 0 + b.getD j 0 else a.getD j 0) (fun s => n - s.1) (0, wa) rfl ⟨l1, fun j h => by rw [if_neg (Nat.not_lt_zero _)]; exact g1 j h⟩ (fun s hi => ?_)
  · obtain ⟨i, r⟩ := s
    obtain ⟨hrl, hi⟩ := hi
    simp only [] at hrl hi
    show AW _ _ _ _ _ _ _ [(0, .ow 25 (QsD r)), (1, .d (NqD wb)), (19, .d (dI n)), (20, .d (dI i))]
    refine AW.seq ?_
    refine AW.region ?_
    refine AOps.run tok 1 _ _ _ _ rfl ?_
    refine AOps.nil ?_
    refine AW.seq ?_
    refine AW.cond rfl (fun h => ?_) (fun h => ?_)
    · have hii : i < n := by have := of_decide_eq_true h; omega
      have e1 := getQ (r := r) (i := i) (by omega)
      have e2 := getQ (r := wb) (i := i) (by omega)
      rw [hi i hii, if_neg (Nat.lt_irrefl _)] at e1
      rw [g2 i hii] at e2
      have ca := fraction_Add_ok (Qr (a.getD i 0)) (Qr (b.getD i 0)) (Qr_w _ (ha i)) (Qr_w _ (hb i)) hk
      rw [Qr_val, Qr_val] at ca
      refine AW.skip ?_
      refine AW.seq ?_
      refine AW.block ?_
      refine AW.seq ?_
      refine AW.region ?_
      refine AOps.run tok 2 _ _ _ _ rfl ?_
      refine AOps.nil ?_
      refine AW.draw hmix 12 (by kernel_rfl) ?_
      refine APre.run tok 4 _ _ _ _ rfl ?_
      refine APre.idxo tok rfl rfl rfl rfl rfl rfl (Int.natCast_nonneg i) (by rw [List.length_map]; show i < _; omega) ?_
      refine APre.loadel tok (Qr (a.getD i 0)).D rfl rfl rfl rfl rfl e1 rfl ?_
      refine APre.run tok 2 _ _ _ _ rfl ?_
      refine APre.idx tok (Qr (b.getD i 0)).D rfl rfl rfl rfl rfl (Int.natCast_nonneg i) e2 ?_
      refine APre.run tok 1 _ _ _ _ rfl ?_
      refine APre.call tok rfl rfl rfl rfl rfl ca ?_
      refine APre.idxo tok rfl rfl rfl rfl rfl rfl (Int.natCast_nonneg i) (by rw [List.length_map]; show i < _; omega) ?_
      refine APre.nil ?_
      refine AOps.storeQ tok (a.getD i 0 + b.getD i 0) rfl rfl rfl (by show i < _; omega) ?_
      refine AOps.nil ?_
      refine AW.region ?_
      refine AOps.run tok 1 _ _ _ _ rfl ?_
      rw [wI64 (x := (i : Int) + 1) (by omega) (by omega)]
      refine AOps.run tok 1 _ _ _ _ rfl ?_
      refine AOps.nil ?_
      refine ⟨(i + 1, r.set i (a.getD i 0 + b.getD i 0)), rfl, ⟨by rw [List.length_set]; exact hrl, fun j h1 => ?_⟩, by show n - (i + 1) < n - i; omega⟩
      show (r.set i (a.getD i 0 + b.getD i 0)).getD j 0 = if j < i + 1 then _ else _
      rw [gQ_set]
      by_cases e : j = i
      · rw [if_pos ⟨e, by omega⟩, e, if_pos (by omega)]
      · rw [if_neg (fun h => e h.1), hi j h1]
        by_cases h2 : j < i
        · rw [if_pos h2, if_pos (by omega)]
        · rw [if_neg h2, if_neg (by omega)]
    have hii : ¬ i < n := by have := of_decide_eq_false h; omega
    obtain rfl : r = plusF a b := nq_ext (by rw [hrl, hpl]) (fun j hj => by rw [plusF_get, hi j (by omega), if_pos (by omega)])
    refine AW.exit ?_
    refine AW.seq ?_
    refine AW.region ?_
    refine AOps.run tok 2 _ _ _ _ rfl ?_
    refine AOps.nil ?_
    exact AW.ret rfl
theorem tower_join_ok (a b : NQ) (n : Nat) (hn : n ≤ 100000) : Pure Tryz.prog 191 [NqD a, NqD b, dI n] (NqD (joinF a b n)) := by
  refine Pure.intro (n := 14) tok Tryz.func191 rfl rfl rfl (Nat.le_of_ble_eq_true rfl) (by kernel_rfl) (fun B F0 w0 => ?_)
  have cw1 := tower_wide_ok a n (by omega)
  have cw2 := tower_wide_ok b n (by omega)
  have l1 := wideF_len a n
  have l2 := wideF_len b n
  unfold joinF
  generalize wideF a n = wa at cw1 l1 ⊢
  generalize wideF b n = wb at cw2 l2 ⊢
  refine AW.seq ?_
  refine AW.region ?_
  refine AOps.run tok 1 _ _ _ _ rfl ?_
  refine AOps.nil ?_
  refine AW.seq ?_
  refine AZ.aw ?_
  refine AZ.region ?_
  refine AZOps.cut 2 rfl (fun B1 F1 w1 => ?_)
  refine AOps.run tok 2 _ _ _ _ rfl ?_
  refine AOps.nil ⟨rfl, ?_⟩
  refine AZOps.callz tok [] rfl rfl rfl rfl rfl List.nodup_nil rfl cw1 (fun _ _ _ => Nat.zero_le _) (fun res R1 hP => ?_)
  obtain ⟨V1, rfl, rfl⟩ := hP
  refine AZOps.cut 2 rfl (fun B1 F1 w1 => ?_)
  refine AOps.run tok 2 _ _ _ _ rfl ?_
  refine AOps.nil ⟨rfl, ?_⟩
  refine AZOps.callz tok [] rfl rfl rfl rfl rfl List.nodup_nil rfl cw2 (fun _ _ _ => Nat.zero_le _) (fun res R1 hP => ?_)
  obtain ⟨V2, rfl, rfl⟩ := hP
  refine AZOps.to [9, 12] [(9, .d (.v V1)), (12, .d (.v V2))] rfl ?_
  refine AZOps.adopt 9 0 (V := V1) (av := .ow 25 (QsD wa)) rfl rfl rfl ?_
  refine AZOps.to [9, 12] [(9, .ow 25 (QsD wa)), (12, .d (.v V2))] rfl ?_
  refine AZOps.adopt 12 1 (V := V2) (av := .ow 25 (QsD wb)) rfl rfl rfl ?_
  refine AZOps.to [9, 12] [(9, .ow 25 (QsD wa)), (12, .ow 25 (QsD wb))] rfl ?_
  refine AZOps.cut 2 rfl (fun B1 F1 w1 => ?_)
  refine AOps.frz tok 12 rfl rfl ?_
  refine AOps.appo tok rfl rfl rfl rfl rfl rfl (by rw [List.length_map, List.length_map, l1, l2]; show (_ + _) * 56 ≤ _; omega) (by rw [List.length_map, List.length_map, l1, l2]; omega) ?_
  refine AOps.run tok 1 _ _ _ _ rfl ?_
  refine AOps.nil ⟨rfl, ?_⟩
  refine AZOps.nil ?_
  rw [show QsD wa ++ QsD wb = QsD (wa ++ wb) from List.map_append.symm]
  exact AW.ret rfl
theorem tower_copied_ok (a : NQ) {k : Nat} (hs : szQs k a) (hk : k ≤ 20000000) (hl : a.length ≤ 1000000) : Pure Tryz.prog 184 [NqD a] (NqD a) := by
  refine Pure.intro (n := 28) tok Tryz.func184 rfl rfl rfl (Nat.le_of_ble_eq_true rfl) (by kernel_rfl) (fun B F0 w0 => ?_)
  refine AW.seq ?_
  refine AW.region ?_
  refine AOps.run tok 1 _ _ _ _ rfl ?_
  refine AOps.nil ?_
  refine AW.seq ?_
  refine AW.region ?_
  refine AOps.run tok 1 _ _ _ _ rfl ?_
  refine AOps.nil ?_
  refine AW.seq ?_
  refine AW.seq ?_
  refine AW.region ?_
  refine AOps.run tok 2 _ _ _ _ rfl ?_
  rw [List.length_map]
  refine AOps.run tok 1 _ _ _ _ rfl ?_
  refine AOps.nil ?_
  refine AW.block ?_
  refine AW.loopS [3, 6, 7, 8] (fun i : Nat => [(3, .ow 25 (QsD (a.take i))), (6, .d (NqD a)), (7, .d (dI a.length)), (8, .d (dI i))]) (fun i => i ≤ a.length) (fun i => a.length - i) 0 rfl (Nat.zero_le _) (fun i hi => ?_)
  · have hi : i ≤ a.length := hi
    show AW _ _ _ _ _ _ _ [(3, .ow 25 (QsD (a.take i))), (6, .d (NqD a)), (7, .d (dI a.length)), (8, .d (dI i))]
    refine AW.seq ?_
    refine AW.region ?_
    refine AOps.run tok 1 _ _ _ _ rfl ?_
    refine AOps.nil ?_
    refine AW.seq ?_
    refine AW.cond rfl (fun h => ?_) (fun h => ?_)
    · have hii : i < a.length := by have := of_decide_eq_true h; omega
      have g := getQ hii
      have hw := Qr_w _ (hs i)
      have htk := take_snocD a 0 hii
      have hol : (a.take i).length = i := by rw [List.length_take]; omega
      generalize a.getD i 0 = q at g hw htk
      have hw1 := hw.2.2.1
      have hw2 := hw.2.2.2
      refine AW.skip ?_
      refine AW.seq ?_
      refine AW.block ?_
      refine AW.seq ?_
      refine AW.region ?_
      refine AOps.idx tok (Qr q).D rfl rfl rfl rfl (Int.natCast_nonneg i) g ?_
      refine AOps.run tok 3 _ _ _ _ rfl ?_
      refine AOps.nil ?_
      refine AW.draw hmix 13 (by kernel_rfl) ?_
      refine APre.run tok 6 _ _ _ _ rfl ?_
      refine APre.app0d tok rfl rfl rfl rfl rfl (by show (((Qr q).n.map wd).length) * 4 ≤ _; rw [lenWd]; omega) ?_
      refine APre.run tok 3 _ _ _ _ rfl ?_
      refine APre.app0d tok rfl rfl rfl rfl rfl (by show (((Qr q).d.map wd).length) * 4 ≤ _; rw [lenWd]; omega) ?_
      refine APre.run tok 1 _ _ _ _ rfl ?_
      refine APre.bsd tok rfl rfl rfl rfl rfl rfl ?_
      refine APre.nil ?_
      refine AOps.appo tok rfl rfl rfl rfl rfl rfl (by rw [List.length_map, hol]; show (_ + 1) * 56 ≤ _; omega) (by rw [List.length_map, hol]; show _ + 1 ≤ _; omega) ?_
      refine AOps.run tok 1 _ _ _ _ rfl ?_
      refine AOps.nil ?_
      refine AW.region ?_
      refine AOps.run tok 1 _ _ _ _ rfl ?_
      rw [wI64 (x := (i : Int) + 1) (by omega) (by omega)]
      refine AOps.run tok 1 _ _ _ _ rfl ?_
      refine AOps.nil ?_
      exact ⟨i + 1, by rw [htk]; show _ = [(3, AV.ow _ (List.map _ _)), _, _, _]; rw [List.map_append]; rfl, hii, by omega⟩
    have hii : i = a.length := by have := of_decide_eq_false h; omega
    subst hii
    rw [List.take_length]
    refine AW.exit ?_
    refine AW.seq ?_
    refine AW.region ?_
    refine AOps.run tok 2 _ _ _ _ rfl ?_
    refine AOps.nil ?_
    exact AW.ret rfl
end Lift
namespace Lift
open Go Go.Proofs
section
variable {P : Program} {T : Ty} {B : Nat} {F0 : Nat → Prop} {w0 : Bas} {n : Nat} {σ σ0 τ : St} {K : St → Prop} {all ops : Array Oper} {o : Oper} {d : Nat} {ds : List Nat} {rest : List Oper}
theorem slc_row (a : NQ) (lo hi : Option Int) : ((QsD a).take (hiN (QsD a).length hi)).drop (loN lo) = QsD ((a.take (hiN a.length hi)).drop (loN lo)) := by
  show List.drop _ (List.take (hiN (List.map _ a).length hi) (List.map _ a)) = List.map _ _
  rw [List.map_drop, List.map_take, List.length_map]
theorem AOps.slcQ (hT : TOk P T) {a : NQ} {lo hi : Option Int} (x : NQ) (hd : o.dst = some d) (hdn : Nat.ble (d + 1) n = true) (hg : guardOk all σ o = true) (hx : slcF T σ.get o.op = some (NqD a, lo, hi)) (g1 : okB lo) (g2 : okB hi) (g3 : loN lo ≤ hiN a.length hi) (g4 : hiN a.length hi ≤ a.length) (hxx : (a.take (hiN a.length hi)).drop (loN lo) = x)
    (h : AOps P B F0 w0 n all rest K ((d, .d (NqD x)) :: σ)) : AOps P B F0 w0 n all (o :: rest) K σ := by
  refine AOps.slc hT hd hdn hg hx g1 g2 (by rw [List.length_map]; exact g3) (by rw [List.length_map]; exact g4) ?_
  rw [slc_row, hxx]
  exact h
theorem APre.slcQ (hT : TOk P T) {a : NQ} {lo hi : Option Int} (x : NQ) (hd : o.dst = some d) (hdn : Nat.ble (d + 1) n = true) (hg : guardOk ops τ o = true) (hs : σ0.get d = none) (hx : slcF T τ.get o.op = some (NqD a, lo, hi)) (g1 : okB lo) (g2 : okB hi) (g3 : loN lo ≤ hiN a.length hi) (g4 : hiN a.length hi ≤ a.length) (hxx : (a.take (hiN a.length hi)).drop (loN lo) = x)
    (h : APre P B F0 w0 n ops ds σ0 rest ((d, .d (NqD x)) :: τ) K) : APre P B F0 w0 n ops ds σ0 (o :: rest) τ K := by
  refine APre.slc hT hd hdn hg hs hx g1 g2 (by rw [List.length_map]; exact g3) (by rw [List.length_map]; exact g4) ?_
  rw [slc_row, hxx]
  exact h
end
theorem divI2 (i : Nat) (h : i ≤ 9223372036854775807) : divV true .i64 (i : Int) 2 = .int .i64 ((i / 2 : Nat) : Int) := by
  have e : ((i : Int).tdiv ((2 : Nat) : Int)) = ((i / 2 : Nat) : Int) := rfl
  show Value.int .i64 (IntKind.i64.wrap ((i : Int).tdiv ((2 : Nat) : Int))) = _
  rw [e, wI64 (by omega) (by omega)]
theorem getRt {rt : List NQ} {i : Nat} (h : i < rt.length) : (rt.map NqD)[i]? = some (NqD (rt.getD i [])) := by simp [h]
theorem LtN.len {l : Nat} {a : NQ} (h : LtN l a) (hl : l ≤ 10) : a.length ≤ 1024 := Nat.le_trans h.le (Nat.pow_le_pow_right (n := 2) (by decide) hl)
def shrF : Nat → NQ → NQ
  | 0, a => if zeroF (a.take 1) = true then [] else a.take 1
  | i + 1, a => if zeroF ((a.take (2 ^ (i + 1))).drop (2 ^ i)) = true then shrF i a else a.take (2 ^ (i + 1))
def shortF (a : NQ) : NQ := if a.length = 0 then [] else shrF a.length.log2 a
theorem shrF_ok : ∀ {i : Nat} {a : NQ} {k : Nat}, 2 ^ i ≤ a.length → szQs k a → LtN i (shrF i a) ∧ szQs k (shrF i a)
  | 0, a, k, h, hs => by
    unfold shrF
    split
    · exact ⟨LtN_nil _, szQs_nil hs.pos⟩
    · exact ⟨.inr ⟨0, Nat.le_refl _, by rw [List.length_take]; have h : 1 ≤ a.length := h; show min 1 _ = 1; omega⟩, hs.take _⟩
  | i + 1, a, k, h, hs => by
    unfold shrF
    have e : 2 ^ (i + 1) = 2 ^ i * 2 := Nat.pow_succ ..
    split
    · have := shrF_ok (i := i) (a := a) (by omega) hs
      exact ⟨this.1.mono (by omega), this.2⟩
    · exact ⟨.inr ⟨i + 1, Nat.le_refl _, by rw [List.length_take]; omega⟩, hs.take _⟩
theorem shortF_ok {l k : Nat} {a : NQ} (h : LtN l a) (hs : szQs k a) : LtN l (shortF a) ∧ szQs k (shortF a) := by
  unfold shortF
  split
  · exact ⟨LtN_nil _, szQs_nil hs.pos⟩
  rename_i h0
  rcases h with e | ⟨i, hi, e⟩
  · exact absurd e h0
  rw [e, Nat.log2_two_pow]
  have := shrF_ok (i := i) (a := a) (by omega) hs
  exact ⟨this.1.mono hi, this.2⟩
theorem tower_Short_ok (a : NQ) {l k : Nat} (ha : LtN l a) (hl : l ≤ 5) (hs : szQs k a) (hk : k ≤ 20000000) : Pure Tryz.prog 178 [NqD a] (NqD (shortF a)) := by
  refine Pure.intro (n := 45) tok Tryz.func178 rfl rfl rfl (Nat.le_of_ble_eq_true rfl) (by kernel_rfl) (fun B F0 w0 => ?_)
  have hl10 := ha.len (by omega)
  rcases ha with h0 | ⟨i, hi, hai⟩
  · obtain rfl : a = [] := List.length_eq_zero_iff.1 h0
    have cl := tower_level_bad (QsD []) (fun i => by have := Nat.two_pow_pos i; show 0 ≠ _; omega) (by decide)
    have cc := tower_copied_ok [] hs hk (by decide)
    refine AW.seq ?_
    refine AW.region ?_
    refine AOps.run tok 1 _ _ _ _ rfl ?_
    refine AOps.nil ?_
    refine AW.seq ?_
    refine AW.seq ?_
    refine AW.region ?_
    refine AOps.run tok 1 _ _ _ _ rfl ?_
    refine AOps.call tok rfl rfl rfl rfl cl ?_
    refine AOps.run tok 1 _ _ _ _ rfl ?_
    refine AOps.nil ?_
    refine AW.seq ?_
    refine AW.region ?_
    refine AOps.run tok 11 _ _ _ _ rfl ?_
    refine AOps.nil ?_
    refine AW.condF rfl ?_
    refine AW.skip ?_
    refine AW.seq ?_
    refine AW.region ?_
    refine AOps.run tok 3 _ _ _ _ rfl ?_
    refine AOps.nil ?_
    refine AW.seq ?_
    refine AW.block ?_
    refine AW.loopS [0, 4] (fun _ : Unit => [(0, .d (NqD [])), (4, .d (dI 0))]) (fun _ => True) (fun _ => 0) () rfl trivial (fun _ _ => ?_)
    refine AW.seq ?_
    refine AW.seq ?_
    refine AW.region ?_
    refine AOps.run tok 10 _ _ _ _ rfl ?_
    refine AOps.nil ?_
    refine AW.condF rfl ?_
    refine AW.exit ?_
    refine AW.seq ?_
    refine AW.seq ?_
    refine AW.region ?_
    refine AOps.run tok 7 _ _ _ _ rfl ?_
    refine AOps.nil ?_
    refine AW.condF rfl ?_
    refine AW.skip ?_
    refine AW.seq ?_
    refine AW.region ?_
    refine AOps.run tok 2 _ _ _ _ rfl ?_
    refine AOps.slcQ tok (a := []) [] rfl rfl rfl rfl trivial (Int.le_refl _) (Nat.le_refl _) (Nat.le_refl _) rfl ?_
    refine AOps.call tok rfl rfl rfl rfl cc ?_
    refine AOps.run tok 1 _ _ _ _ rfl ?_
    refine AOps.nil ?_
    exact AW.ret rfl
  have cl := tower_level_pow (QsD a) (by rw [List.length_map]; exact hai) (by omega)
  have hp := Nat.two_pow_pos i
  have hE : shortF a = shrF i a := by unfold shortF; rw [if_neg (by omega), hai, Nat.log2_two_pow]
  rw [hE]
  refine AW.seq ?_
  refine AW.region ?_
  refine AOps.run tok 1 _ _ _ _ rfl ?_
  refine AOps.nil ?_
  refine AW.seq ?_
  refine AW.seq ?_
  refine AW.region ?_
  refine AOps.run tok 1 _ _ _ _ rfl ?_
  refine AOps.call tok rfl rfl rfl rfl cl ?_
  refine AOps.run tok 1 _ _ _ _ rfl ?_
  refine AOps.nil ?_
  refine AW.seq ?_
  refine AW.region ?_
  refine AOps.run tok 2 _ _ _ _ rfl ?_
  rw [List.length_map]
  refine AOps.run tok 1 _ _ _ _ rfl ?_
  rw [decide_eq_true (show (0 : Int) < (a.length : Int) by omega)]
  refine AOps.run tok 3 _ _ _ _ rfl ?_
  rw [decide_eq_false (show ¬ ((i : Int) < 0) by omega)]
  refine AOps.run tok 3 _ _ _ _ rfl ?_
  rw [decide_eq_false (show ¬ ((5 : Int) < (i : Int)) by omega)]
  refine AOps.run tok 2 _ _ _ _ rfl ?_
  refine AOps.nil ?_
  refine AW.condF rfl ?_
  refine AW.skip ?_
  refine AW.seq ?_
  refine AW.region ?_
  refine AOps.run tok 2 _ _ _ _ rfl ?_
  rw [List.length_map, hai]
  refine AOps.run tok 1 _ _ _ _ rfl ?_
  refine AOps.nil ?_
  refine AW.seq ?_
  refine AW.block ?_
  refine AW.loopS [0, 4] (fun j : Nat => [(0, .d (NqD a)), (4, .d (dI (2 ^ j : Nat)))]) (fun j => j ≤ i ∧ shrF j a = shrF i a) (fun j => j) i rfl ⟨Nat.le_refl _, rfl⟩ (fun j hj => ?_)
  obtain ⟨hj, hjE⟩ := hj
  show AW _ _ _ _ _ _ _ [(0, .d (NqD a)), (4, .d (dI (2 ^ j : Nat)))]
  have hpj : 2 ^ j ≤ 2 ^ i := Nat.pow_le_pow_right (by decide) hj
  have hpp := Nat.two_pow_pos j
  refine AW.seq ?_
  refine AW.seq ?_
  refine AW.region ?_
  refine AOps.run tok 2 _ _ _ _ rfl ?_
  rcases j with _ | j
  · refine AOps.run tok 8 _ _ _ _ rfl ?_
    refine AOps.nil ?_
    refine AW.condF rfl ?_
    refine AW.exit ?_
    refine AW.seq ?_
    refine AW.seq ?_
    refine AW.region ?_
    refine AOps.run tok 4 _ _ _ _ rfl ?_
    refine AOps.slcQ tok (a := a) (a.take 1) rfl rfl rfl rfl trivial (show (0 : Int) ≤ 1 by decide) (Nat.zero_le _) (show 1 ≤ a.length by omega) rfl ?_
    refine AOps.call tok rfl rfl rfl rfl (tower_empty_ok (a.take 1) (by rw [List.length_take]; omega)) ?_
    refine AOps.run tok 1 _ _ _ _ rfl ?_
    refine AOps.nil ?_
    rw [← hjE]
    unfold shrF
    cases hz : zeroF (a.take 1) with
    | true =>
      rw [if_pos rfl]
      refine AW.condT rfl ?_
      refine AW.seq ?_
      refine AW.region ?_
      refine AOps.run tok 1 _ _ _ _ rfl ?_
      refine AOps.nil ?_
      exact AW.ret rfl
    | false =>
      rw [if_neg (by simp)]
      refine AW.condF rfl ?_
      refine AW.skip ?_
      refine AW.seq ?_
      refine AW.region ?_
      refine AOps.run tok 2 _ _ _ _ rfl ?_
      refine AOps.slcQ tok (a := a) (a.take 1) rfl rfl rfl rfl trivial (show (0 : Int) ≤ 1 by decide) (Nat.zero_le _) (show 1 ≤ a.length by omega) rfl ?_
      refine AOps.call tok rfl rfl rfl rfl (tower_copied_ok (a.take 1) (hs.take 1) hk (by rw [List.length_take]; omega)) ?_
      refine AOps.run tok 1 _ _ _ _ rfl ?_
      refine AOps.nil ?_
      exact AW.ret rfl
  have e2 : 2 ^ (j + 1) = 2 ^ j * 2 := Nat.pow_succ ..
  have eh := pow_half j
  rw [decide_eq_true (show (1 : Int) < ((2 ^ (j + 1) : Nat) : Int) by have := Nat.two_pow_pos j; omega)]
  refine AOps.run tok 3 _ _ _ _ rfl ?_
  refine AOps.div tok rfl rfl rfl rfl (by decide) ?_
  rw [divI2 _ (by omega), eh]
  refine AOps.run tok 1 _ _ _ _ rfl ?_
  refine AOps.slcQ tok (a := a) ((a.take (2 ^ (j + 1))).drop (2 ^ j)) rfl rfl rfl rfl (Int.natCast_nonneg _) (Int.natCast_nonneg _) (show 2 ^ j ≤ 2 ^ (j + 1) by omega) (show 2 ^ (j + 1) ≤ a.length by omega) rfl ?_
  refine AOps.call tok rfl rfl rfl rfl (tower_empty_ok _ (by rw [List.length_drop, List.length_take]; omega)) ?_
  refine AOps.run tok 1 _ _ _ _ rfl ?_
  refine AOps.nil ?_
  cases hz : zeroF ((a.take (2 ^ (j + 1))).drop (2 ^ j)) with
  | true =>
    refine AW.condT rfl ?_
    refine AW.skip ?_
    refine AW.block ?_
    refine AW.region ?_
    refine AOps.run tok 1 _ _ _ _ rfl ?_
    refine AOps.div tok rfl rfl rfl rfl (by decide) ?_
    rw [divI2 _ (by omega), eh]
    refine AOps.run tok 1 _ _ _ _ rfl ?_
    refine AOps.nil ?_
    exact ⟨j, rfl, ⟨by omega, by rw [← hjE]; show _ = if zeroF ((a.take (2 ^ (j + 1))).drop (2 ^ j)) = true then _ else _; rw [if_pos hz]⟩, by omega⟩
  | false =>
  refine AW.condF rfl ?_
  refine AW.exit ?_
  refine AW.seq ?_
  refine AW.seq ?_
  refine AW.region ?_
  refine AOps.run tok 2 _ _ _ _ rfl ?_
  rw [beq_eq_false_iff_ne.2 (show ((2 ^ (j + 1) : Nat) : Int) ≠ 1 by have := Nat.two_pow_pos j; omega)]
  refine AOps.run tok 5 _ _ _ _ rfl ?_
  refine AOps.nil ?_
  refine AW.condF rfl ?_
  refine AW.skip ?_
  refine AW.seq ?_
  refine AW.region ?_
  refine AOps.run tok 2 _ _ _ _ rfl ?_
  refine AOps.slcQ tok (a := a) (a.take (2 ^ (j + 1))) rfl rfl rfl rfl trivial (Int.natCast_nonneg _) (Nat.zero_le _) (show 2 ^ (j + 1) ≤ a.length by omega) rfl ?_
  refine AOps.call tok rfl rfl rfl rfl (tower_copied_ok _ (hs.take _) hk (by rw [List.length_take]; omega)) ?_
  refine AOps.run tok 1 _ _ _ _ rfl ?_
  refine AOps.nil ?_
  rw [← hjE]
  unfold shrF
  rw [if_neg (by rw [hz]; simp)]
  exact AW.ret rfl
end Lift
namespace Lift
open Go Go.Proofs
set_option maxHeartbeats 1600000 in
theorem times_walk {l k : Nat} {R : NQ → NQ → NQ} {rt : List NQ} {a b : NQ} (ha : LtN l a) (hb : LtN l b) (hrt : RtOk rt) (hl : l ≤ rt.length) (hl5 : rt.length ≤ 10) (sa : szQs k a) (sb : szQs k b) (sr : szRt k rt) (hk : sT l k ≤ 10000000)
    (hR : ∀ l', l = l' + 1 → ∀ a' b' m, k ≤ m → LtN l' a' → LtN l' b' → szQs m a' → szQs m b' → sT l' m ≤ 10000000 → Pure Tryz.prog 187 [TwD rt, NqD a', NqD b'] (NqD (R a' b')) ∧ LtN l' (R a' b') ∧ szQs (sT l' m) (R a' b')) :
    Pure Tryz.prog 187 [TwD rt, NqD a, NqD b] (NqD (swpF (mulS R rt) a b)) := by
  refine Pure.intro (n := 100) tok Tryz.func187 rfl rfl rfl (Nat.le_of_ble_eq_true rfl) (by kernel_rfl) (fun B F0 w0 => ?_)
  have hla := ha.len (by omega)
  have hlb := hb.len (by omega)
  have hk1 := sa.pos
  have h2 := sT_two l k
  refine AW.seq ?_
  refine AW.region ?_
  refine AOps.run tok 2 _ _ _ _ rfl ?_
  refine AOps.nil ?_
  refine AW.cut [1, 2, 3] (fun s : NQ × NQ => [(1, .d (NqD s.1)), (2, .d (NqD s.2)), (3, .bx [.sl 1 (rt.map NqD)])]) (fun s => mulS R rt s.1 s.2 = swpF (mulS R rt) a b ∧ s.2.length ≤ s.1.length ∧ LtN l s.1 ∧ LtN l s.2 ∧ szQs k s.1 ∧ szQs k s.2) ?_ (fun s hs => ?_)
  · refine AW.seq ?_
    refine AW.region ?_
    refine AOps.run tok 4 _ _ _ _ rfl ?_
    rw [List.length_map, List.length_map]
    refine AOps.run tok 1 _ _ _ _ rfl ?_
    refine AOps.nil ?_
    unfold swpF
    by_cases hab : a.length < b.length
    · rw [decide_eq_true (show (a.length : Int) < (b.length : Int) by omega), if_pos hab]
      refine AW.condT rfl ?_
      refine AW.region ?_
      refine AOps.run tok 4 _ _ _ _ rfl ?_
      refine AOps.nil ?_
      exact ⟨(b, a), rfl, rfl, by show a.length ≤ b.length; omega, hb, ha, sb, sa⟩
    · rw [decide_eq_false (show ¬ (a.length : Int) < (b.length : Int) by omega), if_neg hab]
      refine AW.condF rfl ?_
      refine AW.skip ?_
      exact ⟨(a, b), rfl, rfl, by show b.length ≤ a.length; omega, ha, hb, sa, sb⟩
  · obtain ⟨x, y⟩ := s
    obtain ⟨hE, hab, ha, hb, sa, sb⟩ := hs
    simp only [] at hE hab ha hb sa sb
    show AW _ _ _ _ _ _ _ [(1, .d (NqD x)), (2, .d (NqD y)), (3, .bx [.sl 1 (rt.map NqD)])]
    rw [← hE]
    clear hE
    generalize x = a at *
    generalize y = b at *
    have hla := ha.len (by omega)
    have hlb := hb.len (by omega)
    have cz1 := tower_zero_ok a sa (by omega) (by omega)
    have cz2 := tower_zero_ok b sb (by omega) (by omega)
    unfold mulS
    refine AW.seq ?_
    refine AW.block ?_
    refine AW.seq ?_
    refine AW.region ?_
    refine AOps.run tok 1 _ _ _ _ rfl ?_
    refine AOps.call tok rfl rfl rfl rfl cz1 ?_
    cases hza : zeroF a with
    | true =>
      rw [if_pos (by rfl)]
      refine AOps.run tok 5 _ _ _ _ rfl ?_
      refine AOps.nil ?_
      refine AW.condT rfl ?_
      refine AW.seq ?_
      refine AW.region ?_
      refine AOps.run tok 1 _ _ _ _ rfl ?_
      refine AOps.nil ?_
      exact AW.ret rfl
    | false =>
    refine AOps.run tok 2 _ _ _ _ rfl ?_
    refine AOps.call tok rfl rfl rfl rfl cz2 ?_
    refine AOps.run tok 2 _ _ _ _ rfl ?_
    refine AOps.nil ?_
    cases hzb : zeroF b with
    | true =>
      rw [if_pos (by rfl)]
      refine AW.condT rfl ?_
      refine AW.seq ?_
      refine AW.region ?_
      refine AOps.run tok 1 _ _ _ _ rfl ?_
      refine AOps.nil ?_
      exact AW.ret rfl
    | false =>
    rw [if_neg (by decide)]
    refine AW.condF rfl ?_
    refine AW.seq ?_
    refine AW.region ?_
    refine AOps.run tok 2 _ _ _ _ rfl ?_
    rw [List.length_map]
    refine AOps.run tok 2 _ _ _ _ rfl ?_
    refine AOps.nil ?_
    have hb0 : 0 < b.length := List.length_pos_iff.2 (zeroF_len hzb)
    have ha0 : 0 < a.length := List.length_pos_iff.2 (zeroF_len hza)
    by_cases h1 : a.length = 1
    · rw [if_pos h1, beq_iff_eq.2 (show (a.length : Int) = 1 by omega)]
      have g1 := getQ (r := a) (i := 0) ha0
      have g2 := getQ (r := b) (i := 0) hb0
      have cm := fraction_Mul_ok (Qr (a.getD 0 0)) (Qr (b.getD 0 0)) (k := k) (Qr_w _ (sa 0)) (Qr_w _ (sb 0)) (by omega)
      rw [Qr_val, Qr_val] at cm
      refine AW.condT rfl ?_
      refine AW.seq ?_
      refine AW.draw hmix 8 (by kernel_rfl) ?_
      refine APre.run tok 1 _ _ _ _ rfl ?_
      refine APre.idx tok (Qr (a.getD 0 0)).D rfl rfl rfl rfl rfl (Int.le_refl _) g1 ?_
      refine APre.run tok 2 _ _ _ _ rfl ?_
      refine APre.idx tok (Qr (b.getD 0 0)).D rfl rfl rfl rfl rfl (Int.le_refl _) g2 ?_
      refine APre.run tok 1 _ _ _ _ rfl ?_
      refine APre.call tok rfl rfl rfl rfl rfl cm ?_
      refine APre.bsd tok rfl rfl rfl rfl rfl rfl ?_
      refine APre.nil ?_
      refine AOps.run tok 1 _ _ _ _ rfl ?_
      refine AOps.nil ?_
      exact AW.ret rfl
    rw [if_neg h1, beq_eq_false_iff_ne.2 (show (a.length : Int) ≠ 1 by omega)]
    refine AW.condF rfl ?_
    refine AW.skip ?_
    obtain ⟨i, hi, hla2⟩ : ∃ i, i ≤ l ∧ a.length = 2 ^ i := by
      rcases ha with e | e
      · omega
      · exact e
    have hi0 : i ≠ 0 := fun e => h1 (by rw [hla2, e])
    obtain ⟨j, rfl⟩ : ∃ j, i = j + 1 := ⟨i - 1, by omega⟩
    obtain ⟨l', rfl⟩ : ∃ l', l = l' + 1 := ⟨l - 1, by omega⟩
    have hj : j ≤ l' := by omega
    have hR := fun a' b' m h1 h2 h3 h4 h5 => hR l' rfl a' b' m h1 h2 h3 h4 h5
    obtain ⟨e1, e2, e3⟩ := halves hla2
    have hx : LtN l' (a.take (a.length / 2)) := .inr ⟨j, hj, e1⟩
    have hy : LtN l' (a.drop (a.length / 2)) := .inr ⟨j, hj, e2⟩
    have hs0 := sT_two l' k
    have hs1 := sT_two l' (sT l' k)
    have hk : sT l' (sT l' k) + sT l' k + 1 ≤ 10000000 := hk
    have hlog : a.length.log2 - 1 = j := by rw [hla2, Nat.log2_two_pow]; omega
    obtain ⟨n, hn⟩ : ∃ n, n = a.length / 2 := ⟨_, rfl⟩
    have hn2 : a.length = n + n := by
      have : 2 ^ (j + 1) = 2 ^ j * 2 := Nat.pow_succ ..
      omega
    rw [← hn] at e1 e2 e3 hx hy ⊢
    refine AW.seq ?_
    refine AW.region ?_
    refine AOps.run tok 2 _ _ _ _ rfl ?_
    rw [List.length_map]
    refine AOps.div tok rfl rfl rfl rfl (by decide) ?_
    rw [divI2 _ (by omega), ← hn]
    refine AOps.run tok 1 _ _ _ _ rfl ?_
    refine AOps.nil ?_
    refine AW.seq ?_
    refine AW.draw hmix 7 (by kernel_rfl) ?_
    refine APre.run tok 2 _ _ _ _ rfl ?_
    refine APre.slcQ tok (a := a) (a.take n) rfl rfl rfl rfl rfl trivial (Int.natCast_nonneg n) (Nat.zero_le _) (show n ≤ a.length by omega) rfl ?_
    refine APre.run tok 2 _ _ _ _ rfl ?_
    refine APre.slcQ tok (a := a) (a.drop n) rfl rfl rfl rfl rfl (Int.natCast_nonneg n) trivial (show n ≤ a.length by omega) (Nat.le_refl _) (by show (a.take a.length).drop n = _; rw [List.take_length]) ?_
    refine APre.run tok 1 _ _ _ _ rfl ?_
    refine APre.nil ?_
    refine AOps.run tok 1 _ _ _ _ rfl ?_
    refine AOps.nil ?_
    refine AW.seq ?_
    refine AW.seq ?_
    refine AW.region ?_
    refine AOps.run tok 2 _ _ _ _ rfl ?_
    rw [List.length_map]
    refine AOps.run tok 2 _ _ _ _ rfl ?_
    refine AOps.nil ?_
    by_cases h3 : b.length ≤ n
    · rw [if_pos h3, decide_eq_true (show (b.length : Int) ≤ (n : Int) by omega)]
      have hb' : LtN l' b := by
        rcases hb with e | ⟨i', _, e⟩
        · exact .inl e
        · refine .inr ⟨i', ?_, e⟩
          rw [e3, e] at h3
          have := pow2_40 h3
          omega
      have r1 := hR _ _ k (Nat.le_refl _) hx hb' (sa.take _) sb (by omega)
      have r2 := hR _ _ k (Nat.le_refl _) hy hb' (sa.drop _) sb (by omega)
      have cj := tower_join_ok (R (a.take n) b) (R (a.drop n) b) n (by omega)
      refine AW.condT rfl ?_
      refine AW.seq ?_
      refine AW.draw hmix 10 (by kernel_rfl) ?_
      refine APre.run tok 3 _ _ _ _ rfl ?_
      refine APre.call tok rfl rfl rfl rfl rfl r1.1 ?_
      refine APre.run tok 3 _ _ _ _ rfl ?_
      refine APre.call tok rfl rfl rfl rfl rfl r2.1 ?_
      refine APre.run tok 1 _ _ _ _ rfl ?_
      refine APre.call tok rfl rfl rfl rfl rfl cj ?_
      refine APre.nil ?_
      refine AOps.run tok 1 _ _ _ _ rfl ?_
      refine AOps.nil ?_
      exact AW.ret rfl
    rw [if_neg h3, decide_eq_false (show ¬ (b.length : Int) ≤ (n : Int) by omega)]
    have hlb2 : b.length = 2 ^ (j + 1) := by
      rcases hb with e | ⟨i', _, e⟩
      · omega
      · rw [e] at h3 hab ⊢
        rw [hla2] at hab
        rw [e3] at h3
        have h4 := pow2_40 hab
        have h5 : ¬ i' ≤ j := fun h => h3 (Nat.pow_le_pow_right (by decide) h)
        rw [show i' = j + 1 by omega]
    obtain ⟨f1, f2, f3⟩ := halves hlb2
    rw [show b.length / 2 = n by omega] at f1 f2
    have hu : LtN l' (b.take n) := .inr ⟨j, hj, f1⟩
    have hv : LtN l' (b.drop n) := .inr ⟨j, hj, f2⟩
    have r1 := hR _ _ k (Nat.le_refl _) hx hu (sa.take _) (sb.take _) (by omega)
    have r2 := hR _ _ k (Nat.le_refl _) hy hv (sa.drop _) (sb.drop _) (by omega)
    have r3 := hR _ _ k (Nat.le_refl _) hx hv (sa.take _) (sb.drop _) (by omega)
    have r4 := hR _ _ k (Nat.le_refl _) hy hu (sa.drop _) (sb.take _) (by omega)
    rw [hlog]
    have hd : LtN l' (rt.getD j []) := .inr ⟨j, hj, hrt j (by omega)⟩
    have r5 := hR _ _ (sT l' k) (by omega) r2.2.1 hd r2.2.2 ((sr _).mono (by omega)) (by omega)
    have n1 := r1.2.1.len (by omega)
    have n3 := r3.2.1.len (by omega)
    have n4 := r4.2.1.len (by omega)
    have n5 := r5.2.1.len (by omega)
    have p1 := tower_plus_ok (R (a.take n) (b.take n)) (R (R (a.drop n) (b.drop n)) (rt.getD j [])) (k := sT l' (sT l' k)) (r1.2.2.mono (by omega)) r5.2.2 (by omega) (by omega) (by omega)
    have p2 := tower_plus_ok (R (a.take n) (b.drop n)) (R (a.drop n) (b.take n)) (k := sT l' k) r3.2.2 r4.2.2 (by omega) (by omega) (by omega)
    have cj := tower_join_ok (plusF (R (a.take n) (b.take n)) (R (R (a.drop n) (b.drop n)) (rt.getD j []))) (plusF (R (a.take n) (b.drop n)) (R (a.drop n) (b.take n))) n (by omega)
    have cl := tower_level_pow (QsD a) (by rw [List.length_map]; exact hla2) (by omega)
    refine AW.condF rfl ?_
    refine AW.skip ?_
    refine AW.seq ?_
    refine AW.draw hmix 7 (by kernel_rfl) ?_
    refine APre.run tok 2 _ _ _ _ rfl ?_
    refine APre.slcQ tok (a := b) (b.take n) rfl rfl rfl rfl rfl trivial (Int.natCast_nonneg n) (Nat.zero_le _) (show n ≤ b.length by omega) rfl ?_
    refine APre.run tok 2 _ _ _ _ rfl ?_
    refine APre.slcQ tok (a := b) (b.drop n) rfl rfl rfl rfl rfl (Int.natCast_nonneg n) trivial (show n ≤ b.length by omega) (Nat.le_refl _) (by show (b.take b.length).drop n = _; rw [List.take_length]) ?_
    refine APre.run tok 1 _ _ _ _ rfl ?_
    refine APre.nil ?_
    refine AOps.run tok 1 _ _ _ _ rfl ?_
    refine AOps.nil ?_
    refine AW.seq ?_
    refine AW.draw hmix 7 (by kernel_rfl) ?_
    refine APre.run tok 3 _ _ _ _ rfl ?_
    refine APre.call tok rfl rfl rfl rfl rfl cl ?_
    refine APre.run tok 1 _ _ _ _ rfl ?_
    rw [wI64 (x := ((j + 1 : Nat) : Int) - 1) (by omega) (by omega), show ((j + 1 : Nat) : Int) - 1 = (j : Int) by omega]
    refine APre.idx tok (NqD (rt.getD j [])) rfl rfl rfl rfl rfl (Int.natCast_nonneg j) (getRt (by omega)) ?_
    refine APre.run tok 1 _ _ _ _ rfl ?_
    refine APre.nil ?_
    refine AOps.run tok 1 _ _ _ _ rfl ?_
    refine AOps.nil ?_
    refine AW.seq ?_
    refine AW.draw hmix 12 (by kernel_rfl) ?_
    refine APre.run tok 3 _ _ _ _ rfl ?_
    refine APre.call tok rfl rfl rfl rfl rfl r1.1 ?_
    refine APre.run tok 4 _ _ _ _ rfl ?_
    refine APre.call tok rfl rfl rfl rfl rfl r2.1 ?_
    refine APre.run tok 1 _ _ _ _ rfl ?_
    refine APre.call tok rfl rfl rfl rfl rfl r5.1 ?_
    refine APre.call tok rfl rfl rfl rfl rfl p1 ?_
    refine APre.nil ?_
    refine AOps.run tok 1 _ _ _ _ rfl ?_
    refine AOps.nil ?_
    refine AW.seq ?_
    refine AW.draw hmix 12 (by kernel_rfl) ?_
    refine APre.run tok 4 _ _ _ _ rfl ?_
    refine APre.call tok rfl rfl rfl rfl rfl r3.1 ?_
    refine APre.run tok 3 _ _ _ _ rfl ?_
    refine APre.call tok rfl rfl rfl rfl rfl r4.1 ?_
    refine APre.call tok rfl rfl rfl rfl rfl p2 ?_
    refine APre.run tok 1 _ _ _ _ rfl ?_
    refine APre.call tok rfl rfl rfl rfl rfl cj ?_
    refine APre.nil ?_
    refine AOps.run tok 1 _ _ _ _ rfl ?_
    refine AOps.nil ?_
    exact AW.ret rfl
theorem tower_times_ok : ∀ (l : Nat) {k : Nat} {rt : List NQ} {a b : NQ}, LtN l a → LtN l b → RtOk rt → l ≤ rt.length → rt.length ≤ 10 → szQs k a → szQs k b → szRt k rt → sT l k ≤ 10000000 → Pure Tryz.prog 187 [TwD rt, NqD a, NqD b] (NqD (timesF l rt a b))
  | 0, k, rt, a, b, ha, hb, hrt, hl, hl5, sa, sb, sr, hk => times_walk ha hb hrt hl hl5 sa sb sr hk (fun l' h => by omega)
  | l + 1, k, rt, a, b, ha, hb, hrt, hl, hl5, sa, sb, sr, hk => times_walk ha hb hrt hl hl5 sa sb sr hk (fun l' e a' b' m hm h1 h2 h3 h4 h5 => by
      obtain rfl : l = l' := by omega
      exact ⟨tower_times_ok l h1 h2 hrt (by omega) hl5 h3 h4 (sr.mono hm) h5, times_ok l h1 h2 hrt (by omega) h3 h4 (sr.mono hm)⟩)
end Lift
namespace Lift
open Go Go.Proofs
def normF (l : Nat) (rt : List NQ) (a : NQ) : NQ :=
  plusF (timesF l rt (a.take (a.length / 2)) (a.take (a.length / 2))) (minusF (timesF l rt (timesF l rt (a.drop (a.length / 2)) (a.drop (a.length / 2))) (rt.getD (a.length.log2 - 1) [])))
def sgnS (R : NQ → Int) (N : NQ → NQ) (rt : List NQ) (a : NQ) : Int :=
  if a.length = 0 then 0 else if a.length = 1 then sgQ (a.getD 0 0) else
  if R (rt.getD (a.length.log2 - 1) []) = 0 then R (a.take (a.length / 2)) else
  if R (a.take (a.length / 2)) = R (a.drop (a.length / 2)) ∨ R (a.drop (a.length / 2)) = 0 then R (a.take (a.length / 2)) else
  if R (a.take (a.length / 2)) = 0 then R (a.drop (a.length / 2)) else R (a.take (a.length / 2)) * R (N a)
def signF : Nat → List NQ → NQ → Int
  | 0, rt, a => sgnS (fun _ => 0) (fun a => a) rt (shortF a)
  | l + 1, rt, a => sgnS (signF l rt) (normF l rt) rt (shortF a)
def okS : Nat → Nat → Prop
  | 0, k => k ≤ 10000000
  | l + 1, k => sT (l + 1) k ≤ 10000000 ∧ okS l (sT (l + 1) k)
theorem okS_mono : ∀ {l k m : Nat}, okS l k → m ≤ k → okS l m
  | 0, k, m, h, hm => Nat.le_trans hm h
  | l + 1, k, m, h, hm => ⟨Nat.le_trans (sT_mono hm) h.1, okS_mono h.2 (sT_mono hm)⟩
theorem okS_le : ∀ {l k : Nat}, okS l k → k ≤ 10000000
  | 0, k, h => h
  | l + 1, k, h => by have := sT_two (l + 1) k; have := h.1; omega
theorem okS_down {l k : Nat} (h : okS (l + 1) k) : okS l k := okS_mono h.2 (by have := sT_two (l + 1) k; omega)
def tri (z : Int) : Prop := z = 0 ∨ z = 1 ∨ z = -1
theorem tri_mul {x y : Int} (hx : tri x) (hy : tri y) : tri (x * y) := by
  unfold tri at *
  rcases hx with rfl | rfl | rfl <;> rcases hy with rfl | rfl | rfl <;> decide
theorem sgnS_tri {R : NQ → Int} {N : NQ → NQ} {rt : List NQ} {a : NQ} (hR : ∀ b, tri (R b)) : tri (sgnS R N rt a) := by
  unfold sgnS
  split
  · exact .inl rfl
  split
  · exact sgQ_cases _
  split
  · exact hR _
  split
  · exact hR _
  split
  · exact hR _
  · exact tri_mul (hR _) (hR _)
theorem signF_tri : ∀ (l : Nat) (rt : List NQ) (a : NQ), tri (signF l rt a)
  | 0, rt, a => sgnS_tri (fun _ => .inl rfl)
  | l + 1, rt, a => sgnS_tri (fun b => signF_tri l rt b)
theorem norm_ok {l k j : Nat} {rt : List NQ} {a : NQ} (hj : j ≤ l) (ha : a.length = 2 ^ (j + 1)) (hrt : RtOk rt) (hl : l < rt.length) (sa : szQs k a) (sr : szRt k rt) : LtN l (normF l rt a) ∧ szQs (sT (l + 1) k) (normF l rt a) := by
  obtain ⟨e1, e2, e3⟩ := halves ha
  have hx : LtN l (a.take (a.length / 2)) := .inr ⟨j, hj, e1⟩
  have hy : LtN l (a.drop (a.length / 2)) := .inr ⟨j, hj, e2⟩
  have hlog : a.length.log2 - 1 = j := by rw [ha, Nat.log2_two_pow]; omega
  have hd : LtN l (rt.getD j []) := .inr ⟨j, hj, hrt j (by omega)⟩
  have h0 := sT_two l k
  have h1 := sT_two l (sT l k)
  have r1 := times_ok l hx hx hrt (by omega) (sa.take _) (sa.take _) sr
  have r2 := times_ok l hy hy hrt (by omega) (sa.drop _) (sa.drop _) sr
  have r3 := times_ok l r2.1 hd hrt (by omega) r2.2 ((sr _).mono (by omega)) (sr.mono (by omega))
  unfold normF
  rw [hlog]
  refine ⟨r1.1.plus r3.1.minus, (r1.2.plus r3.2.minus).mono ?_⟩
  show _ ≤ sT l (sT l k) + sT l k + 1
  omega
theorem tower_norm_ok {l k j : Nat} {rt : List NQ} {a : NQ} (hj : j ≤ l) (ha : a.length = 2 ^ (j + 1)) (hrt : RtOk rt) (hl : l < rt.length) (hl5 : rt.length ≤ 10) (sa : szQs k a) (sr : szRt k rt) (hk : sT (l + 1) k ≤ 10000000) :
    Pure Tryz.prog 180 [TwD rt, NqD a] (NqD (normF l rt a)) := by
  refine Pure.intro (n := 36) tok Tryz.func180 rfl rfl rfl (Nat.le_of_ble_eq_true rfl) (by kernel_rfl) (fun B F0 w0 => ?_)
  obtain ⟨e1, e2, e3⟩ := halves ha
  have hx : LtN l (a.take (a.length / 2)) := .inr ⟨j, hj, e1⟩
  have hy : LtN l (a.drop (a.length / 2)) := .inr ⟨j, hj, e2⟩
  have hlog : a.length.log2 - 1 = j := by rw [ha, Nat.log2_two_pow]; omega
  have hd : LtN l (rt.getD j []) := .inr ⟨j, hj, hrt j (by omega)⟩
  have h0 := sT_two l k
  have h1 := sT_two l (sT l k)
  have hk : sT l (sT l k) + sT l k + 1 ≤ 10000000 := hk
  have r1 := times_ok l hx hx hrt (by omega) (sa.take _) (sa.take _) sr
  have r2 := times_ok l hy hy hrt (by omega) (sa.drop _) (sa.drop _) sr
  have r3 := times_ok l r2.1 hd hrt (by omega) r2.2 ((sr _).mono (by omega)) (sr.mono (by omega))
  have c1 := tower_times_ok l hx hx hrt (by omega) hl5 (sa.take _) (sa.take _) sr (by omega)
  have c2 := tower_times_ok l hy hy hrt (by omega) hl5 (sa.drop _) (sa.drop _) sr (by omega)
  have c3 := tower_times_ok l r2.1 hd hrt (by omega) hl5 r2.2 ((sr j).mono (by omega)) (sr.mono (by omega)) (by omega)
  have n1 := r1.1.len (by omega)
  have n3 := r3.1.len (by omega)
  have c4 := tower_minus_ok _ r3.2 (by omega) (by omega)
  have c5 := tower_plus_ok _ _ (k := sT l (sT l k)) (r1.2.mono (by omega)) r3.2.minus (by omega) (by omega) (by rw [minusF_len]; omega)
  have cl := tower_level_pow (QsD a) (by rw [List.length_map]; exact ha) (by omega)
  have hp : 2 ^ (j + 1) ≤ 2 ^ 10 := Nat.pow_le_pow_right (by decide) (by omega)
  unfold normF
  rw [hlog]
  obtain ⟨n, hn⟩ : ∃ n, n = a.length / 2 := ⟨_, rfl⟩
  rw [← hn] at e1 e2 e3 hx hy c1 c2 c3 c4 c5 ⊢
  refine AW.seq ?_
  refine AW.region ?_
  refine AOps.run tok 2 _ _ _ _ rfl ?_
  refine AOps.nil ?_
  refine AW.seq ?_
  refine AW.region ?_
  refine AOps.run tok 2 _ _ _ _ rfl ?_
  rw [List.length_map]
  refine AOps.div tok rfl rfl rfl rfl (by decide) ?_
  rw [divI2 _ (by omega), ← hn]
  refine AOps.run tok 1 _ _ _ _ rfl ?_
  refine AOps.nil ?_
  refine AW.seq ?_
  refine AW.draw hmix 7 (by kernel_rfl) ?_
  refine APre.run tok 2 _ _ _ _ rfl ?_
  refine APre.slcQ tok (a := a) (a.take n) rfl rfl rfl rfl rfl trivial (Int.natCast_nonneg n) (Nat.zero_le _) (show n ≤ a.length by omega) rfl ?_
  refine APre.run tok 2 _ _ _ _ rfl ?_
  refine APre.slcQ tok (a := a) (a.drop n) rfl rfl rfl rfl rfl (Int.natCast_nonneg n) trivial (show n ≤ a.length by omega) (Nat.le_refl _) (by show (a.take a.length).drop n = _; rw [List.take_length]) ?_
  refine APre.run tok 1 _ _ _ _ rfl ?_
  refine APre.nil ?_
  refine AOps.run tok 1 _ _ _ _ rfl ?_
  refine AOps.nil ?_
  refine AW.seq ?_
  refine AW.draw hmix 19 (by kernel_rfl) ?_
  refine APre.run tok 3 _ _ _ _ rfl ?_
  refine APre.call tok rfl rfl rfl rfl rfl c1 ?_
  refine APre.run tok 4 _ _ _ _ rfl ?_
  refine APre.call tok rfl rfl rfl rfl rfl c2 ?_
  refine APre.run tok 3 _ _ _ _ rfl ?_
  refine APre.call tok rfl rfl rfl rfl rfl cl ?_
  refine APre.run tok 1 _ _ _ _ rfl ?_
  rw [wI64 (x := ((j + 1 : Nat) : Int) - 1) (by omega) (by omega), show ((j + 1 : Nat) : Int) - 1 = (j : Int) by omega]
  refine APre.idx tok (NqD (rt.getD j [])) rfl rfl rfl rfl rfl (Int.natCast_nonneg j) (getRt (by omega)) ?_
  refine APre.run tok 1 _ _ _ _ rfl ?_
  refine APre.call tok rfl rfl rfl rfl rfl c3 ?_
  refine APre.call tok rfl rfl rfl rfl rfl c4 ?_
  refine APre.call tok rfl rfl rfl rfl rfl c5 ?_
  refine APre.nil ?_
  refine AOps.run tok 1 _ _ _ _ rfl ?_
  refine AOps.nil ?_
  exact AW.ret rfl
set_option maxHeartbeats 1600000 in
theorem sign_walk {l k : Nat} {R : NQ → Int} {N : NQ → NQ} {rt : List NQ} {a : NQ} (ha : LtN l a) (hl5 : l ≤ 5) (hrt : RtOk rt) (hl : l ≤ rt.length) (hl10 : rt.length ≤ 10) (sa : szQs k a) (sr : szRt k rt) (hok : okS l k)
    (hR : ∀ l', l = l' + 1 → ∀ b m, LtN l' b → szQs m b → k ≤ m → okS l' m → Pure Tryz.prog 161 [TwD rt, NqD b] (dI (R b))) (hT : ∀ b, tri (R b))
    (hN : ∀ l', l = l' + 1 → ∀ b j, j ≤ l' → b.length = 2 ^ (j + 1) → szQs k b → Pure Tryz.prog 180 [TwD rt, NqD b] (NqD (N b)) ∧ LtN l' (N b) ∧ szQs (sT l k) (N b)) :
    Pure Tryz.prog 161 [TwD rt, NqD a] (dI (sgnS R N rt (shortF a))) := by
  refine Pure.intro (n := 64) tok Tryz.func161 rfl rfl rfl (Nat.le_of_ble_eq_true rfl) (by kernel_rfl) (fun B F0 w0 => ?_)
  have hk := okS_le hok
  have cs := tower_Short_ok a ha hl5 sa (by omega)
  obtain ⟨ha, sa⟩ := shortF_ok ha sa
  generalize shortF a = b at cs ha sa ⊢
  have hlb := ha.len (by omega)
  unfold sgnS
  refine AW.seq ?_
  refine AW.region ?_
  refine AOps.run tok 2 _ _ _ _ rfl ?_
  refine AOps.nil ?_
  refine AW.seq ?_
  refine AW.region ?_
  refine AOps.run tok 1 _ _ _ _ rfl ?_
  refine AOps.call tok rfl rfl rfl rfl cs ?_
  refine AOps.run tok 1 _ _ _ _ rfl ?_
  refine AOps.nil ?_
  refine AW.seq ?_
  refine AW.seq ?_
  refine AW.region ?_
  refine AOps.run tok 2 _ _ _ _ rfl ?_
  rw [List.length_map]
  refine AOps.run tok 1 _ _ _ _ rfl ?_
  refine AOps.nil ?_
  by_cases h0 : b.length = 0
  · rw [if_pos h0, h0]
    refine AW.condT rfl ?_
    refine AW.seq ?_
    refine AW.region ?_
    refine AOps.run tok 1 _ _ _ _ rfl ?_
    refine AOps.nil ?_
    exact AW.ret rfl
  rw [if_neg h0, beq_eq_false_iff_ne.2 (show (b.length : Int) ≠ 0 by omega)]
  refine AW.condF rfl ?_
  refine AW.skip ?_
  refine AW.seq ?_
  refine AW.seq ?_
  refine AW.region ?_
  refine AOps.run tok 2 _ _ _ _ rfl ?_
  rw [List.length_map]
  refine AOps.run tok 1 _ _ _ _ rfl ?_
  refine AOps.nil ?_
  by_cases h1 : b.length = 1
  · have g := getQ (r := b) (i := 0) (by omega)
    have cq := fraction_Sign_ok (Qr (b.getD 0 0)) (Qr_w _ (sa 0)) (by omega)
    rw [Qr_val, sgI_num] at cq
    rw [if_pos h1, h1]
    refine AW.condT rfl ?_
    refine AW.seq ?_
    refine AW.region ?_
    refine AOps.run tok 1 _ _ _ _ rfl ?_
    refine AOps.idx tok (Qr (b.getD 0 0)).D rfl rfl rfl rfl (Int.le_refl _) g ?_
    refine AOps.run tok 1 _ _ _ _ rfl ?_
    refine AOps.call tok rfl rfl rfl rfl cq ?_
    refine AOps.run tok 1 _ _ _ _ rfl ?_
    refine AOps.nil ?_
    exact AW.ret rfl
  rw [if_neg h1, beq_eq_false_iff_ne.2 (show (b.length : Int) ≠ 1 by omega)]
  refine AW.condF rfl ?_
  refine AW.skip ?_
  obtain ⟨i, hi, hla2⟩ : ∃ i, i ≤ l ∧ b.length = 2 ^ i := by
    rcases ha with e | e
    · omega
    · exact e
  have hi0 : i ≠ 0 := fun e => h1 (by rw [hla2, e])
  obtain ⟨j, rfl⟩ : ∃ j, i = j + 1 := ⟨i - 1, by omega⟩
  obtain ⟨l', rfl⟩ : ∃ l', l = l' + 1 := ⟨l - 1, by omega⟩
  have hj : j ≤ l' := by omega
  have hR := hR l' rfl
  have hN := hN l' rfl b j hj hla2 sa
  obtain ⟨e1, e2, e3⟩ := halves hla2
  have hx : LtN l' (b.take (b.length / 2)) := .inr ⟨j, hj, e1⟩
  have hy : LtN l' (b.drop (b.length / 2)) := .inr ⟨j, hj, e2⟩
  have hlog : b.length.log2 - 1 = j := by rw [hla2, Nat.log2_two_pow]; omega
  have hd : LtN l' (rt.getD j []) := .inr ⟨j, hj, hrt j (by omega)⟩
  have r1 := hR _ k hx (sa.take _) (Nat.le_refl _) (okS_down hok)
  have r2 := hR _ k hy (sa.drop _) (Nat.le_refl _) (okS_down hok)
  have r3 := hR _ k hd (sr j) (Nat.le_refl _) (okS_down hok)
  have r4 := hR _ _ hN.2.1 hN.2.2 (by have := sT_two (l' + 1) k; omega) hok.2
  have t1 := hT (b.take (b.length / 2))
  have t2 := hT (b.drop (b.length / 2))
  have t4 := tri_mul t1 (hT (N b))
  have cn := hN.1
  have cl := tower_level_pow (QsD b) (by rw [List.length_map]; exact hla2) (by omega)
  rw [hlog]
  obtain ⟨n, hn⟩ : ∃ n, n = b.length / 2 := ⟨_, rfl⟩
  rw [← hn] at e1 e2 e3 hx hy r1 r2 t1 t2 t4 ⊢
  generalize R (b.take n) = x at r1 t1 t4 ⊢
  generalize R (b.drop n) = y at r2 t2 ⊢
  generalize R (rt.getD j []) = z at r3 ⊢
  generalize R (N b) = u at r4 t4 ⊢
  refine AW.seq ?_
  refine AW.region ?_
  refine AOps.run tok 2 _ _ _ _ rfl ?_
  rw [List.length_map]
  refine AOps.div tok rfl rfl rfl rfl (by decide) ?_
  rw [divI2 _ (by omega), ← hn]
  refine AOps.run tok 1 _ _ _ _ rfl ?_
  refine AOps.nil ?_
  refine AW.seq ?_
  refine AW.draw hmix 10 (by kernel_rfl) ?_
  refine APre.run tok 3 _ _ _ _ rfl ?_
  refine APre.slcQ tok (a := b) (b.take n) rfl rfl rfl rfl rfl trivial (Int.natCast_nonneg n) (Nat.zero_le _) (show n ≤ b.length by omega) rfl ?_
  refine APre.call tok rfl rfl rfl rfl rfl r1 ?_
  refine APre.run tok 3 _ _ _ _ rfl ?_
  refine APre.slcQ tok (a := b) (b.drop n) rfl rfl rfl rfl rfl (Int.natCast_nonneg n) trivial (show n ≤ b.length by omega) (Nat.le_refl _) (by show (b.take b.length).drop n = _; rw [List.take_length]) ?_
  refine APre.call tok rfl rfl rfl rfl rfl r2 ?_
  refine APre.nil ?_
  refine AOps.run tok 2 _ _ _ _ rfl ?_
  refine AOps.nil ?_
  refine AW.seq ?_
  refine AW.seq ?_
  refine AW.draw hmix 10 (by kernel_rfl) ?_
  refine APre.run tok 4 _ _ _ _ rfl ?_
  refine APre.call tok rfl rfl rfl rfl rfl cl ?_
  refine APre.run tok 1 _ _ _ _ rfl ?_
  rw [wI64 (x := ((j + 1 : Nat) : Int) - 1) (by omega) (by omega), show ((j + 1 : Nat) : Int) - 1 = (j : Int) by omega]
  refine APre.idx tok (NqD (rt.getD j [])) rfl rfl rfl rfl rfl (Int.natCast_nonneg j) (getRt (by omega)) ?_
  refine APre.run tok 1 _ _ _ _ rfl ?_
  refine APre.call tok rfl rfl rfl rfl rfl r3 ?_
  refine APre.run tok 1 _ _ _ _ rfl ?_
  refine APre.nil ?_
  refine AOps.nil ?_
  by_cases hz : z = 0
  · rw [if_pos hz, beq_iff_eq.2 hz]
    refine AW.condT rfl ?_
    refine AW.seq ?_
    refine AW.region ?_
    refine AOps.run tok 2 _ _ _ _ rfl ?_
    refine AOps.nil ?_
    exact AW.ret rfl
  rw [if_neg hz, beq_eq_false_iff_ne.2 hz]
  refine AW.condF rfl ?_
  refine AW.skip ?_
  refine AW.seq ?_
  refine AW.block ?_
  refine AW.seq ?_
  refine AW.region ?_
  refine AOps.run tok 3 _ _ _ _ rfl ?_
  by_cases hxy : x = y
  · rw [if_pos (.inl hxy), beq_iff_eq.2 hxy]
    refine AOps.run tok 5 _ _ _ _ rfl ?_
    refine AOps.nil ?_
    refine AW.condT rfl ?_
    refine AW.seq ?_
    refine AW.region ?_
    refine AOps.run tok 2 _ _ _ _ rfl ?_
    refine AOps.nil ?_
    exact AW.ret rfl
  rw [beq_eq_false_iff_ne.2 hxy]
  refine AOps.run tok 3 _ _ _ _ rfl ?_
  by_cases hy0 : y = 0
  · rw [if_pos (.inr hy0), beq_iff_eq.2 hy0]
    refine AOps.run tok 2 _ _ _ _ rfl ?_
    refine AOps.nil ?_
    refine AW.condT rfl ?_
    refine AW.seq ?_
    refine AW.region ?_
    refine AOps.run tok 2 _ _ _ _ rfl ?_
    refine AOps.nil ?_
    exact AW.ret rfl
  rw [if_neg (fun h => h.elim hxy hy0), beq_eq_false_iff_ne.2 hy0]
  refine AOps.run tok 2 _ _ _ _ rfl ?_
  refine AOps.nil ?_
  refine AW.condF rfl ?_
  refine AW.seq ?_
  refine AW.region ?_
  refine AOps.run tok 3 _ _ _ _ rfl ?_
  refine AOps.nil ?_
  by_cases hx0 : x = 0
  · rw [if_pos hx0, beq_iff_eq.2 hx0]
    refine AW.condT rfl ?_
    refine AW.seq ?_
    refine AW.region ?_
    refine AOps.run tok 2 _ _ _ _ rfl ?_
    refine AOps.nil ?_
    exact AW.ret rfl
  rw [if_neg hx0, beq_eq_false_iff_ne.2 hx0]
  refine AW.condF rfl ?_
  refine AW.skip ?_
  refine AW.seq ?_
  refine AW.draw hmix 7 (by kernel_rfl) ?_
  refine APre.run tok 4 _ _ _ _ rfl ?_
  refine APre.call tok rfl rfl rfl rfl rfl cn ?_
  refine APre.call tok rfl rfl rfl rfl rfl r4 ?_
  refine APre.run tok 1 _ _ _ _ rfl ?_
  rw [wI64 (x := x * u) (by unfold tri at t4; omega) (by unfold tri at t4; omega)]
  refine APre.nil ?_
  refine AOps.run tok 1 _ _ _ _ rfl ?_
  refine AOps.nil ?_
  exact AW.ret rfl
theorem tower_sign_ok : ∀ (l : Nat) {k : Nat} {rt : List NQ} {a : NQ}, LtN l a → l ≤ 5 → RtOk rt → l ≤ rt.length → rt.length ≤ 10 → szQs k a → szRt k rt → okS l k → Pure Tryz.prog 161 [TwD rt, NqD a] (dI (signF l rt a))
  | 0, k, rt, a, ha, hl5, hrt, hl, hl10, sa, sr, hok => sign_walk ha hl5 hrt hl hl10 sa sr hok (fun l' h => by omega) (fun _ => .inl rfl) (fun l' h => by omega)
  | l + 1, k, rt, a, ha, hl5, hrt, hl, hl10, sa, sr, hok => sign_walk ha hl5 hrt hl hl10 sa sr hok (fun l' e b m h1 h2 h3 h4 => by
      obtain rfl : l = l' := by omega
      exact tower_sign_ok l h1 (by omega) hrt (by omega) hl10 h2 (sr.mono h3) h4) (signF_tri l rt) (fun l' e b j h1 h2 h3 => by
      obtain rfl : l = l' := by omega
      exact ⟨tower_norm_ok h1 h2 hrt (by omega) hl10 h3 sr hok.1, norm_ok h1 h2 hrt (by omega) h3 sr⟩)
end Lift
namespace Lift
open Go Go.Proofs
abbrev NrD (a : List RD) : D := .sl 3 (a.map RD.D)
abbrev TrD (rt : List (List RD)) : D := .ag [.sl 1 (rt.map NrD)]
def numOk (a : List RD) : Bool := a.all RD.okB
def lvB (m n : Nat) : Bool := (List.range (m + 1)).any fun i => decide (n = 2 ^ i)
def numE (m : Nat) (a : List RD) : Nat := if a.length ≠ 0 ∧ lvB m a.length = false then 10 else if numOk a = false then 2 else 0
def nval (a : List RD) : NQ := a.map RD.val
def wN (k : Nat) (a : List RD) : Prop := ∀ i, i < a.length → (a.getD i default).w k
def rtE (rt : List (List RD)) (k : Nat) : Nat := if (rt.getD k []).length ≠ 2 ^ k then 10 else if numE k (rt.getD k []) ≠ 0 then numE k (rt.getD k []) else if signF k ((rt.take k).map nval) (nval (rt.getD k [])) < 0 then 3 else 0
def chkTw (rt : List (List RD)) : Nat := if 5 < rt.length then 4 else fE (rtE rt) (rt.length - 0) 0
def ckE (rt l : List (List RD)) : Nat := if chkTw rt ≠ 0 then chkTw rt else fE (fun i => numE rt.length (l.getD i [])) (l.length - 0) 0
theorem nval_get (a : List RD) (i : Nat) : (nval a).getD i 0 = if i < a.length then (a.getD i default).val else 0 := by
  unfold nval
  rw [List.getD_eq_getElem?_getD, List.getElem?_map, List.getD_eq_getElem?_getD]
  by_cases h : i < a.length
  · rw [if_pos h, List.getElem?_eq_getElem h]; rfl
  · rw [if_neg h, List.getElem?_eq_none (by omega)]; rfl
theorem szQs_val {a : List RD} {k : Nat} (h : wN k a) (h1 : 1 ≤ k) : szQs k (nval a) := fun c => by
  rw [nval_get]
  split
  · rename_i hc; exact LQ_val (h c hc) h1
  · exact LQ0_le h1
theorem nr_canon {a : List RD} {k : Nat} (hw : wN k a) (h : numOk a = true) : NrD a = NqD (nval a) := by
  show D.sl 3 (a.map RD.D) = D.sl 3 (List.map _ (List.map _ a))
  rw [List.map_map]
  congr 1
  refine List.map_congr_left fun x hx => ?_
  obtain ⟨i, hi, rfl⟩ := List.mem_iff_getElem.1 hx
  have hi2 := hw i hi
  rw [List.getD_eq_getElem?_getD, List.getElem?_eq_getElem hi] at hi2
  unfold numOk at h
  rw [List.all_eq_true] at h
  have := RD.canon hi2 (h _ (List.getElem_mem hi))
  simp only [Option.getD_some] at this
  show (a[i]).D = (Qr (a[i]).val).D
  rw [← this]
theorem numOk_no {l : List RD} {i : Nat} (hi : i < l.length) (h : (l.getD i default).okB = false) : numOk l = false := all_no hi h
theorem numOk_yes {l : List RD} (h : ∀ i, i < l.length → (l.getD i default).okB = true) : numOk l = true := all_yes h
theorem lvB_pow (m i : Nat) : lvB m (2 ^ i) = decide (i ≤ m) := by
  unfold lvB
  by_cases h : i ≤ m
  · rw [decide_eq_true h, List.any_eq_true]
    exact ⟨i, List.mem_range.2 (by omega), decide_eq_true rfl⟩
  · rw [decide_eq_false h, List.any_eq_false]
    intro j hj
    have hj := List.mem_range.1 hj
    rw [decide_eq_false]
    · simp
    · intro e
      have h1 := pow2_40 (Nat.le_of_eq e)
      omega
theorem lvB_bad {m n : Nat} (h : ∀ i, n ≠ 2 ^ i) : lvB m n = false := by
  unfold lvB
  rw [List.any_eq_false]
  intro j _
  rw [decide_eq_false (h j)]; simp
theorem lvB_ok {m n : Nat} (h : lvB m n = true) : ∃ i, i ≤ m ∧ n = 2 ^ i := by
  unfold lvB at h
  rw [List.any_eq_true] at h
  obtain ⟨i, h1, h2⟩ := h
  exact ⟨i, by have := List.mem_range.1 h1; omega, of_decide_eq_true h2⟩
theorem numE_ok {m : Nat} {a : List RD} (h : numE m a = 0) : LtN m (nval a) ∧ numOk a = true := by
  unfold numE at h
  split at h
  · cases h
  rename_i h1
  split at h
  · cases h
  rename_i h2
  constructor
  · by_cases h0 : a.length = 0
    · exact .inl (by unfold nval; rw [List.length_map]; exact h0)
    · have h3 : lvB m a.length = true := by
        cases hv : lvB m a.length
        · exact absurd ⟨h0, hv⟩ h1
        · rfl
      obtain ⟨i, h4, h5⟩ := lvB_ok h3
      exact .inr ⟨i, h4, by unfold nval; rw [List.length_map]; exact h5⟩
  · cases hv : numOk a
    · exact absurd hv h2
    · rfl
theorem tower_number_ok (xs : List D) (a : List RD) {k : Nat} (hw : wN k a) (hk : k ≤ 20000000) (hl : a.length ≤ 1000000) (hx : xs.length ≤ 1000000) : Pure Tryz.prog 177 [.ag [.sl 1 xs], NrD a] (erV (numE xs.length a)) := by
  refine Pure.intro (n := 34) tok Tryz.func177 rfl rfl rfl (Nat.le_of_ble_eq_true rfl) (by kernel_rfl) (fun B F0 w0 => ?_)
  have hno := fun i hi => numOk_no (l := a) (i := i) hi
  have hyes := numOk_yes (l := a)
  unfold numE
  generalize numOk a = E at hno hyes ⊢
  refine AW.seq ?_
  refine AW.region ?_
  refine AOps.run tok 2 _ _ _ _ rfl ?_
  refine AOps.nil ?_
  refine AW.cut [1] (fun _ : Unit => [(1, .d (NrD a))]) (fun _ => ¬ (a.length ≠ 0 ∧ lvB xs.length a.length = false)) ?_ (fun _ hs => ?_)
  · refine AW.seq ?_
    refine AW.region ?_
    refine AOps.run tok 2 _ _ _ _ rfl ?_
    rw [List.length_map]
    refine AOps.run tok 1 _ _ _ _ rfl ?_
    refine AOps.nil ?_
    by_cases h0 : a.length = 0
    · rw [h0]
      refine AW.condF rfl ?_
      refine AW.skip ?_
      exact ⟨(), rfl, fun h => h.1 rfl⟩
    rw [decide_eq_true (show (0 : Int) < (a.length : Int) by omega)]
    refine AW.condT rfl ?_
    by_cases hp : ∃ i, a.length = 2 ^ i
    · obtain ⟨i, hp⟩ := hp
      have hi : i ≤ 20 := by
        refine pow2_40 ?_
        rw [← hp]; omega
      have cl := tower_level_pow (a.map RD.D) (by rw [List.length_map]; exact hp) (by omega)
      rw [hp, lvB_pow]
      refine AW.seq ?_
      refine AW.region ?_
      refine AOps.run tok 1 _ _ _ _ rfl ?_
      refine AOps.call tok rfl rfl rfl rfl cl ?_
      refine AOps.run tok 1 _ _ _ _ rfl ?_
      refine AOps.nil ?_
      refine AW.seq ?_
      refine AW.region ?_
      refine AOps.run tok 2 _ _ _ _ rfl ?_
      rw [decide_eq_false (show ¬ ((i : Int) < 0) by omega)]
      refine AOps.run tok 6 _ _ _ _ rfl ?_
      by_cases hm : i ≤ xs.length
      · rw [decide_eq_true hm, decide_eq_false (show ¬ ((xs.length : Int) < (i : Int)) by omega)]
        refine AOps.run tok 1 _ _ _ _ rfl ?_
        refine AOps.nil ?_
        refine AW.condF rfl ?_
        refine AW.skip ?_
        exact ⟨(), rfl, fun h => by cases h.2⟩
      · rw [decide_eq_false hm, decide_eq_true (show (xs.length : Int) < (i : Int) by omega), if_pos ⟨by have := Nat.two_pow_pos i; omega, rfl⟩]
        refine AOps.run tok 1 _ _ _ _ rfl ?_
        refine AOps.nil ?_
        refine AW.condT rfl ?_
        refine AW.seq ?_
        refine AW.region ?_
        refine AOps.run tok 2 _ _ _ _ rfl ?_
        refine AOps.nil ?_
        exact AW.ret rfl
    · have hp : ∀ i, a.length ≠ 2 ^ i := fun i e => hp ⟨i, e⟩
      have cl := tower_level_bad (a.map RD.D) (by rw [List.length_map]; exact hp) (by rw [List.length_map]; omega)
      rw [if_pos ⟨h0, lvB_bad hp⟩]
      refine AW.seq ?_
      refine AW.region ?_
      refine AOps.run tok 1 _ _ _ _ rfl ?_
      refine AOps.call tok rfl rfl rfl rfl cl ?_
      refine AOps.run tok 1 _ _ _ _ rfl ?_
      refine AOps.nil ?_
      refine AW.seq ?_
      refine AW.region ?_
      refine AOps.run tok 9 _ _ _ _ rfl ?_
      refine AOps.nil ?_
      refine AW.condT rfl ?_
      refine AW.seq ?_
      refine AW.region ?_
      refine AOps.run tok 2 _ _ _ _ rfl ?_
      refine AOps.nil ?_
      exact AW.ret rfl
  · rw [if_neg hs]
    show AW _ _ _ _ _ _ _ [(1, .d (NrD a))]
    refine AW.seq ?_
    refine AW.seq ?_
    refine AW.region ?_
    refine AOps.run tok 2 _ _ _ _ rfl ?_
    rw [List.length_map]
    refine AOps.run tok 1 _ _ _ _ rfl ?_
    refine AOps.nil ?_
    refine AW.block ?_
    refine AW.loopS [23, 24, 25] (fun i : Nat => [(23, .d (NrD a)), (24, .d (dI a.length)), (25, .d (dI i))]) (fun i => i ≤ a.length ∧ ∀ j, j < i → (a.getD j default).okB = true) (fun i => a.length - i) 0 rfl ⟨Nat.zero_le _, fun j hj => by omega⟩ (fun i ⟨hi, hall⟩ => ?_)
    refine AW.seq ?_
    refine AW.region ?_
    refine AOps.run tok 1 _ _ _ _ rfl ?_
    refine AOps.nil ?_
    refine AW.seq ?_
    refine AW.cond rfl (fun h => ?_) (fun h => ?_)
    · have hii : i < a.length := by have := of_decide_eq_true h; omega
      have hg := getM RD.D (l := a) (i := i) hii
      have hno := hno i hii
      have cv := fraction_Valid_ok (a.getD i default) (hw i hii) (by omega)
      refine AW.skip ?_
      refine AW.seq ?_
      refine AW.block ?_
      refine AW.seq ?_
      refine AW.region ?_
      refine AOps.idx tok (a.getD i default).D rfl rfl rfl rfl (Int.natCast_nonneg i) hg ?_
      refine AOps.run tok 3 _ _ _ _ rfl ?_
      refine AOps.nil ?_
      refine AW.seq ?_
      refine AW.region ?_
      refine AOps.run tok 1 _ _ _ _ rfl ?_
      refine AOps.call tok rfl rfl rfl rfl cv ?_
      refine AOps.run tok 1 _ _ _ _ rfl ?_
      cases hv : (a.getD i default).okB with
      | false =>
        rw [hno hv, if_pos rfl]
        refine AOps.nil ?_
        refine AW.condT rfl ?_
        refine AW.seq ?_
        refine AW.region ?_
        refine AOps.run tok 2 _ _ _ _ rfl ?_
        refine AOps.nil ?_
        exact AW.ret rfl
      | true =>
        refine AOps.nil ?_
        refine AW.condF rfl ?_
        refine AW.skip ?_
        refine AW.region ?_
        refine AOps.run tok 1 _ _ _ _ rfl ?_
        rw [wI64 (x := (i : Int) + 1) (by omega) (by omega)]
        refine AOps.run tok 1 _ _ _ _ rfl ?_
        refine AOps.nil ?_
        exact ⟨i + 1, rfl, ⟨hii, fun j hj => by
          by_cases e : j = i
          · subst e; exact hv
          · exact hall j (by omega)⟩, by omega⟩
    have hii : i = a.length := by have := of_decide_eq_false h; omega
    subst hii
    rw [hyes hall, if_neg (by simp)]
    refine AW.exit ?_
    refine AW.seq ?_
    refine AW.region ?_
    refine AOps.run tok 1 _ _ _ _ rfl ?_
    refine AOps.nil ?_
    exact AW.ret rfl
end Lift
namespace Lift
open Go Go.Proofs
theorem slc_rows (rt : List (List RD)) (k : Nat) : ((rt.map NrD).take (hiN (rt.map NrD).length (some (k : Int)))).drop (loN none) = (rt.take k).map NrD := by
  show ((rt.map NrD).take k).drop 0 = _
  rw [List.drop_zero, List.map_take]
theorem rows_canon {rt : List (List RD)} {k m : Nat} (hw : ∀ i, i < rt.length → wN m (rt.getD i [])) (hk : k ≤ rt.length) (h : ∀ j, j < k → numOk (rt.getD j []) = true) : (rt.take k).map NrD = ((rt.take k).map nval).map NqD := by
  rw [List.map_map]
  refine List.map_congr_left fun x hx => ?_
  obtain ⟨i, hi, rfl⟩ := List.mem_iff_getElem.1 hx
  rw [List.length_take] at hi
  have e : (rt.take k)[i]'(by rw [List.length_take]; exact hi) = rt.getD i [] := by
    rw [List.getElem_take, List.getD_eq_getElem?_getD, List.getElem?_eq_getElem (by omega)]; rfl
  rw [e]
  exact nr_canon (hw i (by omega)) (h i (by omega))
theorem vals_get {rt : List (List RD)} {k i : Nat} (hi : i < k) : ((rt.take k).map nval).getD i [] = nval (rt.getD i []) := by
  rw [List.getD_eq_getElem?_getD, List.getElem?_map, List.getElem?_take_of_lt hi, List.getD_eq_getElem?_getD]
  cases rt[i]? with
  | none => rfl
  | some x => rfl
theorem vals_over {rt : List (List RD)} {k i : Nat} (hi : k ≤ i) : ((rt.take k).map nval).getD i [] = [] := by
  rw [List.getD_eq_getElem?_getD, List.getElem?_eq_none (by rw [List.length_map, List.length_take]; omega)]; rfl
theorem vals_len {rt : List (List RD)} {k : Nat} (hk : k ≤ rt.length) : ((rt.take k).map nval).length = k := by rw [List.length_map, List.length_take]; omega
theorem vals_sz {rt : List (List RD)} {k m : Nat} (hw : ∀ i, i < rt.length → wN m (rt.getD i [])) (h1 : 1 ≤ m) (hk : k ≤ rt.length) : szRt m ((rt.take k).map nval) := fun i => by
  by_cases h : i < k
  · rw [vals_get h]; exact szQs_val (hw i (by omega)) h1
  · rw [vals_over (by omega)]; exact szQs_nil h1
theorem nval_len (a : List RD) : (nval a).length = a.length := List.length_map ..
theorem rtE_ok {rt : List (List RD)} {k : Nat} (h : rtE rt k = 0) : (rt.getD k []).length = 2 ^ k ∧ numOk (rt.getD k []) = true ∧ ¬ signF k ((rt.take k).map nval) (nval (rt.getD k [])) < 0 := by
  unfold rtE at h
  split at h
  · cases h
  rename_i h1
  split at h
  · rename_i h2; exact absurd h h2
  rename_i h2
  split at h
  · cases h
  rename_i h3
  exact ⟨by omega, (numE_ok (m := k) (by omega)).2, h3⟩
theorem vals_ok {rt : List (List RD)} {k : Nat} (hk : k ≤ rt.length) (h : ∀ j, j < k → rtE rt j = 0) : RtOk ((rt.take k).map nval) := fun j hj => by
  rw [vals_len hk] at hj
  rw [vals_get hj, nval_len]
  exact (rtE_ok (h j hj)).1
theorem okS_lt {l m k : Nat} (h : okS l k) (hm : m ≤ l) : okS m k := by
  induction l with
  | zero => obtain rfl : m = 0 := by omega
            exact h
  | succ l ih =>
    by_cases e : m = l + 1
    · rw [e]; exact h
    · exact ih (okS_down h) (by omega)
theorem tower_Check_ok (rt : List (List RD)) {m : Nat} (hw : ∀ i, i < rt.length → wN m (rt.getD i [])) (h1 : 1 ≤ m) (hl : rt.length ≤ 1000000) (hll : ∀ i, i < rt.length → (rt.getD i []).length ≤ 1000000) (hok : rt.length ≤ 5 → okS rt.length m) : Pure Tryz.prog 176 [TrD rt] (erV (chkTw rt)) := by
  refine Pure.intro (n := 43) tok Tryz.func176 rfl rfl rfl (Nat.le_of_ble_eq_true rfl) (by kernel_rfl) (fun B F0 w0 => ?_)
  unfold chkTw
  obtain ⟨E, hE⟩ : ∃ E, fE (rtE rt) (rt.length - 0) 0 = E := ⟨_, rfl⟩
  rw [hE]
  refine AW.seq ?_
  refine AW.region ?_
  refine AOps.run tok 2 _ _ _ _ rfl ?_
  refine AOps.nil ?_
  refine AW.seq ?_
  refine AW.seq ?_
  refine AW.region ?_
  refine AOps.run tok 3 _ _ _ _ rfl ?_
  rw [List.length_map]
  refine AOps.run tok 1 _ _ _ _ rfl ?_
  refine AOps.nil ?_
  by_cases h5 : 5 < rt.length
  · rw [if_pos h5, decide_eq_true (show (5 : Int) < (rt.length : Int) by omega)]
    refine AW.condT rfl ?_
    refine AW.seq ?_
    refine AW.region ?_
    refine AOps.run tok 2 _ _ _ _ rfl ?_
    refine AOps.nil ?_
    exact AW.ret rfl
  rw [if_neg h5, decide_eq_false (show ¬ (5 : Int) < (rt.length : Int) by omega)]
  have hok := hok (by omega)
  have hm7 := okS_le hok
  refine AW.condF rfl ?_
  refine AW.skip ?_
  refine AW.seq ?_
  refine AW.seq ?_
  refine AW.region ?_
  refine AOps.run tok 3 _ _ _ _ rfl ?_
  rw [List.length_map]
  refine AOps.run tok 1 _ _ _ _ rfl ?_
  refine AOps.nil ?_
  refine AW.block ?_
  refine AW.loopS [1, 13, 14, 15] (fun i : Nat => [(1, .bx [.sl 1 (rt.map NrD)]), (13, .d (.sl 1 (rt.map NrD))), (14, .d (dI rt.length)), (15, .d (dI i))]) (fun i => i ≤ rt.length ∧ fE (rtE rt) (rt.length - i) i = E ∧ ∀ j, j < i → rtE rt j = 0) (fun i => rt.length - i) 0 rfl ⟨Nat.zero_le _, hE, fun j hj => by omega⟩ (fun i ⟨hi, hiE, hall⟩ => ?_)
  refine AW.seq ?_
  refine AW.region ?_
  refine AOps.run tok 1 _ _ _ _ rfl ?_
  refine AOps.nil ?_
  refine AW.seq ?_
  refine AW.cond rfl (fun h => ?_) (fun h => ?_)
  rotate_left
  · have hii : ¬ i < rt.length := by have := of_decide_eq_false h; omega
    rw [fE_end hii] at hiE
    subst hiE
    refine AW.exit ?_
    refine AW.seq ?_
    refine AW.region ?_
    refine AOps.run tok 1 _ _ _ _ rfl ?_
    refine AOps.nil ?_
    exact AW.ret rfl
  have hii : i < rt.length := by have := of_decide_eq_true h; omega
  have hg : (rt.map NrD)[i]? = some (NrD (rt.getD i [])) := by simp [hii]
  have hwi := hw i hii
  have hli := hll i hii
  have hmiss := fun h0 : rtE rt i = 0 => (fE_miss hii h0).symm.trans hiE
  have hhit := fun h0 : rtE rt i ≠ 0 => (fE_hit hii h0).symm.trans hiE
  have hp : 2 ^ i ≤ 2 ^ 5 := Nat.pow_le_pow_right (by decide) (by omega)
  have cn := tower_number_ok ((rt.take i).map NrD) (rt.getD i []) hwi (by omega) hli (by rw [List.length_map, List.length_take]; omega)
  rw [List.length_map, List.length_take, Nat.min_eq_left hi] at cn
  have hrt : rtE rt i = if (rt.getD i []).length ≠ 2 ^ i then 10 else if numE i (rt.getD i []) ≠ 0 then numE i (rt.getD i []) else if signF i ((rt.take i).map nval) (nval (rt.getD i [])) < 0 then 3 else 0 := rfl
  refine AW.skip ?_
  refine AW.seq ?_
  refine AW.block ?_
  refine AW.seq ?_
  refine AW.region ?_
  refine AOps.run tok 1 _ _ _ _ rfl ?_
  refine AOps.idx tok (NrD (rt.getD i [])) rfl rfl rfl rfl (Int.natCast_nonneg i) hg ?_
  refine AOps.run tok 3 _ _ _ _ rfl ?_
  refine AOps.nil ?_
  refine AW.seq ?_
  refine AW.seq ?_
  refine AW.region ?_
  refine AOps.run tok 2 _ _ _ _ rfl ?_
  rw [List.length_map]
  refine AOps.run tok 2 _ _ _ _ rfl ?_
  rw [shl1I (by omega)]
  refine AOps.run tok 1 _ _ _ _ rfl ?_
  refine AOps.nil ?_
  by_cases e1 : (rt.getD i []).length = 2 ^ i
  rotate_left
  · rw [if_pos e1] at hrt
    rw [bne_iff_ne.2 (show (((rt.getD i []).length : Nat) : Int) ≠ ((2 ^ i : Nat) : Int) by omega)]
    have := hhit (by rw [hrt]; decide)
    rw [hrt] at this
    subst this
    refine AW.condT rfl ?_
    refine AW.seq ?_
    refine AW.region ?_
    refine AOps.run tok 2 _ _ _ _ rfl ?_
    refine AOps.nil ?_
    exact AW.ret rfl
  rw [if_neg (fun h => h e1)] at hrt
  rw [e1, bne_eq_false_iff_eq.2 rfl]
  refine AW.condF rfl ?_
  refine AW.skip ?_
  refine AW.seq ?_
  refine AW.region ?_
  refine AOps.run tok 3 _ _ _ _ rfl ?_
  refine AOps.slc tok rfl rfl rfl rfl trivial (Int.natCast_nonneg i) (Nat.zero_le _) (by show i ≤ _; rw [List.length_map]; omega) ?_
  rw [slc_rows]
  refine AOps.run tok 3 _ _ _ _ rfl ?_
  refine AOps.nil ?_
  refine AW.seq ?_
  refine AW.seq ?_
  refine AW.region ?_
  refine AOps.run tok 2 _ _ _ _ rfl ?_
  refine AOps.call tok rfl rfl rfl rfl cn ?_
  refine AOps.run tok 1 _ _ _ _ rfl ?_
  refine AOps.nil ?_
  rcases e2 : numE i (rt.getD i []) with _ | z
  rotate_left
  · rw [e2, if_pos (Nat.succ_ne_zero z)] at hrt
    have := hhit (by rw [hrt]; exact Nat.succ_ne_zero z)
    rw [hrt] at this
    subst this
    refine AW.seq ?_
    refine AW.region ?_
    refine AOps.run tok 1 _ _ _ _ rfl ?_
    refine AOps.err tok rfl rfl rfl rfl rfl ?_
    refine AOps.nil ?_
    refine AW.condT rfl ?_
    refine AW.seq ?_
    refine AW.region ?_
    refine AOps.run tok 2 _ _ _ _ rfl ?_
    refine AOps.nil ?_
    exact AW.ret rfl
  rw [if_neg (by rw [e2]; simp)] at hrt
  obtain ⟨n1, n2⟩ := numE_ok e2
  have cs := tower_sign_ok i (k := m) n1 (by omega) (vals_ok hi hall) (by rw [vals_len hi]; exact Nat.le_refl _) (by rw [vals_len hi]; omega) (szQs_val hwi h1) (vals_sz hw h1 hi) (okS_lt hok hi)
  have tr := signF_tri i ((rt.take i).map nval) (nval (rt.getD i []))
  rw [show TwD ((rt.take i).map nval) = .ag [.sl 1 ((rt.take i).map NrD)] from by rw [rows_canon hw hi (fun j hj => (rtE_ok (hall j hj)).2.1)], ← nr_canon hwi n2] at cs
  generalize signF i ((rt.take i).map nval) (nval (rt.getD i [])) = s at cs hrt tr
  refine AW.seq ?_
  refine AW.region ?_
  refine AOps.run tok 1 _ _ _ _ rfl ?_
  refine AOps.err tok rfl rfl rfl rfl rfl ?_
  refine AOps.nil ?_
  refine AW.condF rfl ?_
  refine AW.skip ?_
  refine AW.seq ?_
  refine AW.region ?_
  refine AOps.run tok 2 _ _ _ _ rfl ?_
  refine AOps.call tok rfl rfl rfl rfl cs ?_
  refine AOps.run tok 1 _ _ _ _ rfl ?_
  refine AOps.nil ?_
  by_cases e3 : s < 0
  · rw [if_pos e3] at hrt
    rw [decide_eq_true e3]
    have := hhit (by rw [hrt]; decide)
    rw [hrt] at this
    subst this
    refine AW.condT rfl ?_
    refine AW.seq ?_
    refine AW.region ?_
    refine AOps.run tok 2 _ _ _ _ rfl ?_
    refine AOps.nil ?_
    exact AW.ret rfl
  rw [if_neg e3] at hrt
  rw [decide_eq_false e3]
  refine AW.condF rfl ?_
  refine AW.skip ?_
  refine AW.region ?_
  refine AOps.run tok 1 _ _ _ _ rfl ?_
  rw [wI64 (x := (i : Int) + 1) (by omega) (by omega)]
  refine AOps.run tok 1 _ _ _ _ rfl ?_
  refine AOps.nil ?_
  exact ⟨i + 1, rfl, ⟨hii, hmiss hrt, fun j hj => by
    by_cases e : j = i
    · rw [e]; exact hrt
    · exact hall j (by omega)⟩, by omega⟩
theorem tower_checks_ok (rt l : List (List RD)) {m : Nat} (hw : ∀ i, i < rt.length → wN m (rt.getD i [])) (h1 : 1 ≤ m) (hl : rt.length ≤ 1000000) (hll : ∀ i, i < rt.length → (rt.getD i []).length ≤ 1000000) (hok : rt.length ≤ 5 → okS rt.length m)
    (hlw : ∀ i, i < l.length → wN m (l.getD i [])) (hl2 : l.length ≤ 1000000) (hl3 : ∀ i, i < l.length → (l.getD i []).length ≤ 1000000) (hm : m ≤ 20000000) : Pure Tryz.prog 160 [TrD rt, .sl 1 (l.map NrD)] (erV (ckE rt l)) := by
  refine Pure.intro (n := 27) tok Tryz.func160 rfl rfl rfl (Nat.le_of_ble_eq_true rfl) (by kernel_rfl) (fun B F0 w0 => ?_)
  have cC := tower_Check_ok rt hw h1 hl hll hok
  unfold ckE
  obtain ⟨E, hE⟩ : ∃ E, fE (fun i => numE rt.length (l.getD i [])) (l.length - 0) 0 = E := ⟨_, rfl⟩
  rw [hE]
  refine AW.seq ?_
  refine AW.region ?_
  refine AOps.run tok 2 _ _ _ _ rfl ?_
  refine AOps.nil ?_
  refine AW.seq ?_
  refine AW.seq ?_
  refine AW.region ?_
  refine AOps.run tok 1 _ _ _ _ rfl ?_
  refine AOps.call tok rfl rfl rfl rfl cC ?_
  refine AOps.run tok 1 _ _ _ _ rfl ?_
  refine AOps.nil ?_
  rcases e2 : chkTw rt with _ | z
  rotate_left
  · rw [if_pos (Nat.succ_ne_zero z)]
    refine AW.seq ?_
    refine AW.region ?_
    refine AOps.run tok 1 _ _ _ _ rfl ?_
    refine AOps.err tok rfl rfl rfl rfl rfl ?_
    refine AOps.nil ?_
    refine AW.condT rfl ?_
    refine AW.seq ?_
    refine AW.region ?_
    refine AOps.run tok 2 _ _ _ _ rfl ?_
    refine AOps.nil ?_
    exact AW.ret rfl
  rw [if_neg (by simp)]
  refine AW.seq ?_
  refine AW.region ?_
  refine AOps.run tok 1 _ _ _ _ rfl ?_
  refine AOps.err tok rfl rfl rfl rfl rfl ?_
  refine AOps.nil ?_
  refine AW.condF rfl ?_
  refine AW.skip ?_
  refine AW.seq ?_
  refine AW.seq ?_
  refine AW.region ?_
  refine AOps.run tok 2 _ _ _ _ rfl ?_
  rw [List.length_map]
  refine AOps.run tok 1 _ _ _ _ rfl ?_
  refine AOps.nil ?_
  refine AW.block ?_
  refine AW.loopS [2, 14, 15, 16] (fun i : Nat => [(2, .bx [.sl 1 (rt.map NrD)]), (14, .d (.sl 1 (l.map NrD))), (15, .d (dI l.length)), (16, .d (dI i))]) (fun i => i ≤ l.length ∧ fE (fun i => numE rt.length (l.getD i [])) (l.length - i) i = E) (fun i => l.length - i) 0 rfl ⟨Nat.zero_le _, hE⟩ (fun i ⟨hi, hiE⟩ => ?_)
  refine AW.seq ?_
  refine AW.region ?_
  refine AOps.run tok 1 _ _ _ _ rfl ?_
  refine AOps.nil ?_
  refine AW.seq ?_
  refine AW.cond rfl (fun h => ?_) (fun h => ?_)
  rotate_left
  · have hii : ¬ i < l.length := by have := of_decide_eq_false h; omega
    rw [fE_end hii] at hiE
    subst hiE
    refine AW.exit ?_
    refine AW.seq ?_
    refine AW.region ?_
    refine AOps.run tok 1 _ _ _ _ rfl ?_
    refine AOps.nil ?_
    exact AW.ret rfl
  have hii : i < l.length := by have := of_decide_eq_true h; omega
  have hg : (l.map NrD)[i]? = some (NrD (l.getD i [])) := by simp [hii]
  have hmiss := fun h0 : numE rt.length (l.getD i []) = 0 => (fE_miss (f := fun i => numE rt.length (l.getD i [])) hii h0).symm.trans hiE
  have hhit := fun h0 : numE rt.length (l.getD i []) ≠ 0 => (fE_hit (f := fun i => numE rt.length (l.getD i [])) hii h0).symm.trans hiE
  have cn := tower_number_ok (rt.map NrD) (l.getD i []) (hlw i hii) hm (hl3 i hii) (by rw [List.length_map]; omega)
  rw [List.length_map] at cn
  refine AW.skip ?_
  refine AW.seq ?_
  refine AW.block ?_
  refine AW.seq ?_
  refine AW.region ?_
  refine AOps.idx tok (NrD (l.getD i [])) rfl rfl rfl rfl (Int.natCast_nonneg i) hg ?_
  refine AOps.run tok 2 _ _ _ _ rfl ?_
  refine AOps.nil ?_
  refine AW.seq ?_
  refine AW.region ?_
  refine AOps.run tok 2 _ _ _ _ rfl ?_
  refine AOps.call tok rfl rfl rfl rfl cn ?_
  refine AOps.run tok 1 _ _ _ _ rfl ?_
  refine AOps.nil ?_
  generalize numE rt.length (l.getD i []) = v at hmiss hhit
  rcases v with _ | z
  rotate_left
  · have := hhit (Nat.succ_ne_zero z)
    subst this
    refine AW.seq ?_
    refine AW.region ?_
    refine AOps.run tok 1 _ _ _ _ rfl ?_
    refine AOps.err tok rfl rfl rfl rfl rfl ?_
    refine AOps.nil ?_
    refine AW.condT rfl ?_
    refine AW.seq ?_
    refine AW.region ?_
    refine AOps.run tok 2 _ _ _ _ rfl ?_
    refine AOps.nil ?_
    exact AW.ret rfl
  refine AW.seq ?_
  refine AW.region ?_
  refine AOps.run tok 1 _ _ _ _ rfl ?_
  refine AOps.err tok rfl rfl rfl rfl rfl ?_
  refine AOps.nil ?_
  refine AW.condF rfl ?_
  refine AW.skip ?_
  refine AW.region ?_
  refine AOps.run tok 1 _ _ _ _ rfl ?_
  rw [wI64 (x := (i : Int) + 1) (by omega) (by omega)]
  refine AOps.run tok 1 _ _ _ _ rfl ?_
  refine AOps.nil ?_
  exact ⟨i + 1, rfl, ⟨hii, hmiss rfl⟩, by omega⟩
theorem chkTw_ok {rt : List (List RD)} (h : chkTw rt = 0) : rt.length ≤ 5 ∧ ∀ j, j < rt.length → rtE rt j = 0 := by
  unfold chkTw at h
  split at h
  · cases h
  rename_i h1
  have key : ∀ (m i : Nat), fE (rtE rt) m i = 0 → ∀ j, i ≤ j → j < i + m → rtE rt j = 0 := by
    intro m
    induction m with
    | zero => intro i _ j h1 h2; omega
    | succ m ih =>
      intro i h j h1 h2
      rw [fE] at h
      split at h
      · rename_i h0
        by_cases e : j = i
        · rw [e]; exact h0
        · exact ih (i + 1) h j (by omega) (by omega)
      · rename_i h0; exact absurd h h0
  exact ⟨by omega, fun j hj => key _ _ h j (Nat.zero_le _) (by omega)⟩
def signD (rt : List (List RD)) (a : List RD) : D := if ckE rt [a] ≠ 0 then .tu [dI 0, erV (ckE rt [a])] else .tu [dI (signF rt.length (rt.map nval) (nval a)), nilE]
theorem ckE_one {rt : List (List RD)} {a : List RD} (h : ckE rt [a] = 0) : chkTw rt = 0 ∧ numE rt.length a = 0 := by
  unfold ckE at h
  split at h
  · rename_i h0; exact absurd h h0
  rename_i h0
  refine ⟨by omega, ?_⟩
  have e : fE (fun i => numE rt.length ([a].getD i [])) ([a].length - 0) 0 = if numE rt.length a = 0 then 0 else numE rt.length a := rfl
  rw [e] at h
  split at h
  · assumption
  · rename_i h1; exact absurd h h1
theorem tower_Sign_ok (rt : List (List RD)) (a : List RD) {m : Nat} (hw : ∀ i, i < rt.length → wN m (rt.getD i [])) (h1 : 1 ≤ m) (hl : rt.length ≤ 1000000) (hll : ∀ i, i < rt.length → (rt.getD i []).length ≤ 1000000) (hok : rt.length ≤ 5 → okS rt.length m)
    (haw : wN m a) (hal : a.length ≤ 1000000) (hm : m ≤ 20000000) : Pure Tryz.prog 134 [TrD rt, NrD a] (signD rt a) := by
  refine Pure.intro (n := 17) tok Tryz.func134 rfl rfl rfl (Nat.le_of_ble_eq_true rfl) (by kernel_rfl) (fun B F0 w0 => ?_)
  have h0 : ∀ i, i < [a].length → i = 0 := fun i hi => by
    have : i < 1 := hi
    omega
  have cc := tower_checks_ok rt [a] hw h1 hl hll hok (fun i hi => by rw [h0 i hi]; exact haw) (show 1 ≤ 1000000 by decide) (fun i hi => by rw [h0 i hi]; exact hal) hm
  unfold signD
  refine AW.seq ?_
  refine AW.region ?_
  refine AOps.run tok 3 _ _ _ _ rfl ?_
  refine AOps.nil ?_
  refine AW.seq ?_
  refine AW.seq ?_
  refine AW.region ?_
  refine AOps.run tok 2 _ _ _ _ rfl ?_
  refine AOps.bsd tok rfl rfl rfl rfl rfl ?_
  refine AOps.call tok rfl rfl rfl rfl cc ?_
  refine AOps.run tok 1 _ _ _ _ rfl ?_
  refine AOps.nil ?_
  rcases e2 : ckE rt [a] with _ | z
  rotate_left
  · rw [if_pos (Nat.succ_ne_zero z)]
    refine AW.seq ?_
    refine AW.region ?_
    refine AOps.run tok 1 _ _ _ _ rfl ?_
    refine AOps.err tok rfl rfl rfl rfl rfl ?_
    refine AOps.nil ?_
    refine AW.condT rfl ?_
    refine AW.seq ?_
    refine AW.region ?_
    refine AOps.run tok 3 _ _ _ _ rfl ?_
    refine AOps.nil ?_
    exact AW.ret rfl
  rw [if_neg (by simp)]
  obtain ⟨k1, k2⟩ := ckE_one e2
  obtain ⟨k3, k4⟩ := chkTw_ok k1
  obtain ⟨n1, n2⟩ := numE_ok k2
  have vo := vals_ok (k := rt.length) (Nat.le_refl _) k4
  have vl := vals_len (rt := rt) (k := rt.length) (Nat.le_refl _)
  have vs := vals_sz (k := rt.length) hw h1 (Nat.le_refl _)
  have vc := rows_canon (k := rt.length) hw (Nat.le_refl _) (fun j hj => (rtE_ok (k4 j hj)).2.1)
  rw [List.take_length] at vo vl vs vc
  have cs := tower_sign_ok rt.length (k := m) n1 k3 vo (by rw [vl]; exact Nat.le_refl _) (by rw [vl]; omega) (szQs_val haw h1) vs (hok k3)
  rw [show TwD (rt.map nval) = .ag [.sl 1 (rt.map NrD)] from by rw [vc], ← nr_canon haw n2] at cs
  refine AW.seq ?_
  refine AW.region ?_
  refine AOps.run tok 1 _ _ _ _ rfl ?_
  refine AOps.err tok rfl rfl rfl rfl rfl ?_
  refine AOps.nil ?_
  refine AW.condF rfl ?_
  refine AW.skip ?_
  refine AW.seq ?_
  refine AW.region ?_
  refine AOps.run tok 2 _ _ _ _ rfl ?_
  refine AOps.call tok rfl rfl rfl rfl cs ?_
  refine AOps.run tok 2 _ _ _ _ rfl ?_
  refine AOps.nil ?_
  exact AW.ret rfl
end Lift
namespace Lift
def surdF (P Y p : Rat) : Int := if sgQ P = sgQ Y ∨ sgQ Y = 0 then sgQ P else if sgQ P = 0 then sgQ Y else sgQ P * sgQ (P * P - Y * Y * p)
theorem zeroF_one (p : Rat) : zeroF [p] = decide (p = 0) := by show (decide (p = 0) && true) = _; rw [Bool.and_true]
theorem shortF_one (p : Rat) : shortF [p] = if p = 0 then [] else [p] := by
  show (if 1 = 0 then [] else shrF (Nat.log2 1) [p]) = _
  rw [if_neg (by decide), show Nat.log2 1 = 0 from rfl]
  show (if zeroF [p] = true then [] else [p]) = _
  rw [zeroF_one]
  by_cases h : p = 0
  · rw [if_pos (decide_eq_true h), if_pos h]
  · rw [if_neg (by rw [decide_eq_false h]; simp), if_neg h]
theorem sgQ_0 : sgQ 0 = 0 := sgQ_zero.2 rfl
theorem sgnS_nil (R : NQ → Int) (N : NQ → NQ) (rt : List NQ) : sgnS R N rt [] = 0 := rfl
theorem sgnS_one (R : NQ → Int) (N : NQ → NQ) (rt : List NQ) (p : Rat) : sgnS R N rt [p] = sgQ p := rfl
theorem sgn_short (R : NQ → Int) (N : NQ → NQ) (rt : List NQ) (p : Rat) : sgnS R N rt (shortF [p]) = sgQ p := by
  rw [shortF_one]
  by_cases h : p = 0
  · rw [if_pos h, sgnS_nil, h, sgQ_0]
  · rw [if_neg h, sgnS_one]
theorem signF0 (rt : List NQ) (p : Rat) : signF 0 rt [p] = sgQ p := sgn_short ..
theorem shortF_two (P Y : Rat) : shortF [P, Y] = if Y = 0 then shortF [P] else [P, Y] := by
  show (if 2 = 0 then [] else shrF (Nat.log2 2) [P, Y]) = _
  rw [if_neg (by decide), show Nat.log2 2 = 1 from rfl]
  show (if zeroF [Y] = true then (if zeroF [P] = true then [] else [P]) else [P, Y]) = _
  have e : shortF [P] = if zeroF [P] = true then [] else [P] := by
    rw [shortF_one, zeroF_one]
    by_cases h : P = 0
    · rw [if_pos h, if_pos (decide_eq_true h)]
    · rw [if_neg h, if_neg (by rw [decide_eq_false h]; simp)]
  rw [e, zeroF_one Y]
  by_cases h : Y = 0
  · rw [if_pos (decide_eq_true h), if_pos h]
  · rw [if_neg (by rw [decide_eq_false h]; simp), if_neg h]
theorem times0 (rt : List NQ) {x y : Rat} (hx : x ≠ 0) (hy : y ≠ 0) : timesF 0 rt [x] [y] = [x * y] := by
  rw [show timesF 0 rt [x] [y] = mulS (fun _ _ => []) rt [x] [y] from rfl]
  unfold mulS
  rw [if_neg (by rw [zeroF_one, zeroF_one, decide_eq_false hx, decide_eq_false hy]; simp), if_pos (show [x].length = 1 from rfl)]
  rfl
theorem signF1 {p P Y : Rat} (hp : 0 < p) : signF 1 [[p]] [P, Y] = surdF P Y p := by
  show sgnS (signF 0 [[p]]) (normF 0 [[p]]) [[p]] (shortF [P, Y]) = _
  rw [shortF_two]
  unfold surdF
  by_cases hY : Y = 0
  · rw [if_pos hY, sgn_short, if_pos (.inr (sgQ_zero.2 hY))]
  rw [if_neg hY]
  have hY0 : sgQ Y ≠ 0 := fun h => hY (sgQ_zero.1 h)
  have hp0 : p ≠ 0 := fun e => by rw [e] at hp; exact absurd hp Rat.lt_irrefl
  have e : sgnS (signF 0 [[p]]) (normF 0 [[p]]) [[p]] [P, Y] = if signF 0 [[p]] [p] = 0 then signF 0 [[p]] [P] else if signF 0 [[p]] [P] = signF 0 [[p]] [Y] ∨ signF 0 [[p]] [Y] = 0 then signF 0 [[p]] [P] else if signF 0 [[p]] [P] = 0 then signF 0 [[p]] [Y] else signF 0 [[p]] [P] * signF 0 [[p]] (normF 0 [[p]] [P, Y]) := by
    unfold sgnS
    rw [show ([P, Y] : NQ).length = 2 from rfl, if_neg (by decide), if_neg (by decide), show Nat.log2 2 - 1 = 0 from rfl]
    rfl
  rw [e, signF0, signF0, signF0, if_neg (fun h => hp0 (sgQ_zero.1 h))]
  by_cases h1 : sgQ P = sgQ Y ∨ sgQ Y = 0
  · rw [if_pos h1, if_pos h1]
  rw [if_neg h1, if_neg h1]
  by_cases h2 : sgQ P = 0
  · rw [if_pos h2, if_pos h2]
  rw [if_neg h2, if_neg h2]
  have hP : P ≠ 0 := fun e => h2 (sgQ_zero.2 e)
  have hn : normF 0 [[p]] [P, Y] = [P * P - Y * Y * p] := by
    unfold normF
    rw [show ([P, Y] : NQ).length = 2 from rfl, show Nat.log2 2 - 1 = 0 from rfl, show ([P, Y] : NQ).take (2 / 2) = [P] from rfl, show ([P, Y] : NQ).drop (2 / 2) = [Y] from rfl, show ([[p]] : List NQ).getD 0 [] = [p] from rfl]
    rw [times0 _ hP hP, times0 _ hY hY, times0 _ (fun h => by rcases Rat.mul_eq_zero.1 h with h | h <;> exact hY h) hp0]
    show [P * P + -(Y * Y * p)] = _
    congr 1
    grind
  rw [hn, signF0]
theorem ck_one {p P Y : Rat} (hp : 0 ≤ p) : ckE [[Qr p]] [[Qr P, Qr Y]] = 0 := by
  have hs : ¬ signF 0 [] [p] < 0 := by
    rw [signF0]
    intro h
    have := sgQ_neg.1 h
    grind
  have e1 : numE 0 [Qr p] = 0 := by
    unfold numE numOk
    rw [if_neg (by show ¬ (1 ≠ 0 ∧ lvB 0 1 = false); decide)]
    show (if ((Qr p).okB && true) = false then 2 else 0) = 0
    rw [Qr_ok]; rfl
  have e2 : rtE [[Qr p]] 0 = 0 := by
    unfold rtE
    rw [if_neg (show ¬ ([[Qr p]].getD 0 []).length ≠ 2 ^ 0 from fun h => h rfl), if_neg (show ¬ numE 0 ([[Qr p]].getD 0 []) ≠ 0 from fun h => h e1), if_neg (show ¬ signF 0 (([[Qr p]].take 0).map nval) (nval ([[Qr p]].getD 0 [])) < 0 by show ¬ signF 0 [] [(Qr p).val] < 0; rw [Qr_val]; exact hs)]
  have e3 : chkTw [[Qr p]] = 0 := by
    unfold chkTw
    rw [if_neg (show ¬ 5 < [[Qr p]].length from (by decide : ¬ 5 < 1))]
    show (if rtE [[Qr p]] 0 = 0 then 0 else rtE [[Qr p]] 0) = 0
    rw [e2]; rfl
  have e4 : numE 1 [Qr P, Qr Y] = 0 := by
    unfold numE numOk
    rw [if_neg (by show ¬ (2 ≠ 0 ∧ lvB 1 2 = false); decide)]
    show (if ((Qr P).okB && ((Qr Y).okB && true)) = false then 2 else 0) = 0
    rw [Qr_ok, Qr_ok]; rfl
  unfold ckE
  rw [if_neg (by rw [e3]; simp)]
  show (if numE 1 [Qr P, Qr Y] = 0 then 0 else numE 1 [Qr P, Qr Y]) = 0
  rw [e4]; rfl
theorem signD_one {p P Y : Rat} (hp : 0 < p) : signD [[Qr p]] [Qr P, Qr Y] = .tu [dI (surdF P Y p), nilE] := by
  unfold signD
  rw [if_neg (by rw [ck_one (by grind)]; simp)]
  show D.tu [dI (signF 1 [[(Qr p).val]] [(Qr P).val, (Qr Y).val]), nilE] = _
  rw [Qr_val, Qr_val, Qr_val, signF1 hp]
end Lift
namespace Lift
open Go Go.Proofs
def szB (k : Nat) (b : BarR) : Prop := LQ b.a2 ≤ k ∧ LQ b.b2 ≤ k ∧ LQ b.c2 ≤ k ∧ szV b.f ≤ k
def discQ (b : BarR) (u : V2) : Rat := ((4 : Int) : Rat) * (b.b2 * b.c2) - ((b.b2 + b.c2) - dt (vsub b.f u) (vsub b.f u)) * ((b.b2 + b.c2) - dt (vsub b.f u) (vsub b.f u))
def posF (b : BarR) (u : V2) : Bool := decide (0 < sgQ (discQ b u))
theorem LQ_four (n : Int) (h : -4 ≤ n ∧ n ≤ 4) : LQ (n : Rat) ≤ 2 := by
  have h1 := LQ_of n
  have h2 : L n ≤ 2 := L_le (by omega)
  omega
set_option maxHeartbeats 800000 in
theorem bars_positive_ok (b : BarR) (u : V2) {k : Nat} (hb : szB k b) (hu : szV u ≤ k) (hk : k ≤ 10000) : Pure Tryz.prog 90 [b.D, (VQ u).D] (dB (posF b u)) := by
  refine Pure.intro (n := 34) tok Tryz.func90 rfl rfl rfl (Nat.le_of_ble_eq_true rfl) (by kernel_rfl) (fun B F0 w0 => ?_)
  obtain ⟨h1, h2, h3, h4⟩ := hb
  unfold posF discQ
  obtain ⟨a2, b2, c2, f, us, sg⟩ := b
  simp only [] at h1 h2 h3 h4 ⊢
  have c1 := defects_sub_ok f u h4 hu (by omega)
  have z1 := szV_sub f u h4 hu
  have c2' := fraction_Add_ok (Qr b2) (Qr c2) (k := k) (Qr_w _ h2) (Qr_w _ h3) (by omega)
  have z2 := LQ_add b2 c2
  generalize vsub f u = w at c1 z1 ⊢
  have c3 := defects_dot_ok w w z1 z1 (by omega)
  have z3 := (LQ_dt w w z1 z1).1
  generalize dt w w = q at c3 z3 ⊢
  have c4 := fraction_Sub_ok (Qr (b2 + c2)) (Qr q) (k := 10 * k + 10) (Qr_w _ (by omega)) (Qr_w _ (by omega)) (by omega)
  have z4 := LQ_sub (b2 + c2) q
  have o4 := fraction_Of_ok 4 (by decide) (by decide)
  have zo := LQ_four 4 (by decide)
  have c5 := fraction_Mul_ok (Qr b2) (Qr c2) (k := k) (Qr_w _ h2) (Qr_w _ h3) (by omega)
  have z5 := LQ_mul b2 c2
  have c6 := fraction_Mul_ok (Qr ((4 : Int) : Rat)) (Qr (b2 * c2)) (k := 2 * k + 2) (Qr_w _ (by omega)) (Qr_w _ (by omega)) (by omega)
  have z6 := LQ_mul ((4 : Int) : Rat) (b2 * c2)
  rw [Qr_val, Qr_val] at c2' c4 c5 c6
  generalize (b2 + c2) - q = x at c4 z4 ⊢
  generalize ((4 : Int) : Rat) * (b2 * c2) = y at c6 z6 ⊢
  have c7 := fraction_Mul_ok (Qr x) (Qr x) (k := 20 * k + 30) (Qr_w _ (by omega)) (Qr_w _ (by omega)) (by omega)
  have z7 := LQ_mul x x
  have c8 := fraction_Cmp_ok (Qr y) (Qr (x * x)) (k := 100 * k + 100) (Qr_w _ (by omega)) (Qr_w _ (by omega)) (by omega)
  simp only [Qr_val] at c7 c8
  rw [← cmpQ_sub, sgI_num] at c8
  refine AW.seq ?_
  refine AW.region ?_
  refine AOps.run tok 3 _ _ _ _ rfl ?_
  refine AOps.nil ?_
  refine AW.seq ?_
  refine AW.region ?_
  refine AOps.run tok 3 _ _ _ _ rfl ?_
  refine AOps.call tok rfl rfl rfl rfl c1 ?_
  refine AOps.run tok 2 _ _ _ _ rfl ?_
  refine AOps.nil ?_
  refine AW.seq ?_
  refine AW.draw hmix 10 (by kernel_rfl) ?_
  refine APre.run tok 4 _ _ _ _ rfl ?_
  refine APre.call tok rfl rfl rfl rfl rfl c2' ?_
  refine APre.run tok 2 _ _ _ _ rfl ?_
  refine APre.call tok rfl rfl rfl rfl rfl c3 ?_
  refine APre.call tok rfl rfl rfl rfl rfl c4 ?_
  refine APre.run tok 1 _ _ _ _ rfl ?_
  refine APre.nil ?_
  refine AOps.run tok 1 _ _ _ _ rfl ?_
  refine AOps.nil ?_
  refine AW.seq ?_
  refine AW.draw hmix 8 (by kernel_rfl) ?_
  refine APre.call tok rfl rfl rfl rfl rfl o4 ?_
  refine APre.run tok 4 _ _ _ _ rfl ?_
  refine APre.call tok rfl rfl rfl rfl rfl c5 ?_
  refine APre.call tok rfl rfl rfl rfl rfl c6 ?_
  refine APre.run tok 1 _ _ _ _ rfl ?_
  refine APre.nil ?_
  refine AOps.run tok 1 _ _ _ _ rfl ?_
  refine AOps.nil ?_
  refine AW.seq ?_
  refine AW.draw hmix 6 (by kernel_rfl) ?_
  refine APre.run tok 3 _ _ _ _ rfl ?_
  refine APre.call tok rfl rfl rfl rfl rfl c7 ?_
  refine APre.call tok rfl rfl rfl rfl rfl c8 ?_
  refine APre.run tok 1 _ _ _ _ rfl ?_
  refine APre.nil ?_
  refine AOps.run tok 1 _ _ _ _ rfl ?_
  refine AOps.nil ?_
  exact AW.ret rfl
def insF (u v w : V2) : Bool := decide (0 ≤ sgQ (crs u w)) && decide (0 ≤ sgQ (crs w v))
theorem defects_inside_ok (u v w : V2) {k : Nat} (hu : szV u ≤ k) (hv : szV v ≤ k) (hw : szV w ≤ k) (hk : k ≤ 10000) : Pure Tryz.prog 92 [(VQ u).D, (VQ v).D, (VQ w).D] (dB (insF u v w)) := by
  refine Pure.intro (n := 19) tok Tryz.func92 rfl rfl rfl (Nat.le_of_ble_eq_true rfl) (by kernel_rfl) (fun B F0 w0 => ?_)
  have z1 := (LQ_dt u w hu hw).2
  have z2 := (LQ_dt w v hw hv).2
  have m1 := defects_cross_ok u w hu hw (by omega)
  have m2 := fraction_Sign_ok (Qr (crs u w)) (k := 4 * k + 1) (Qr_w _ (by omega)) (by omega)
  have m3 := defects_cross_ok w v hw hv (by omega)
  have m4 := fraction_Sign_ok (Qr (crs w v)) (k := 4 * k + 1) (Qr_w _ (by omega)) (by omega)
  rw [Qr_val, sgI_num] at m2 m4
  unfold insF
  generalize sgQ (crs u w) = s at m2 ⊢
  generalize sgQ (crs w v) = t at m4 ⊢
  refine AW.seq ?_
  refine AW.region ?_
  refine AOps.run tok 4 _ _ _ _ rfl ?_
  refine AOps.nil ?_
  refine AW.seq ?_
  refine AW.region ?_
  refine AOps.run tok 2 _ _ _ _ rfl ?_
  refine AOps.call tok rfl rfl rfl rfl m1 ?_
  refine AOps.call tok rfl rfl rfl rfl m2 ?_
  refine AOps.run tok 1 _ _ _ _ rfl ?_
  cases decide (0 ≤ s) with
  | true =>
    refine AOps.run tok 3 _ _ _ _ rfl ?_
    refine AOps.call tok rfl rfl rfl rfl m3 ?_
    refine AOps.call tok rfl rfl rfl rfl m4 ?_
    refine AOps.run tok 3 _ _ _ _ rfl ?_
    refine AOps.nil ?_
    exact AW.ret rfl
  | false =>
    refine AOps.run tok 8 _ _ _ _ rfl ?_
    refine AOps.nil ?_
    exact AW.ret rfl
def prodF (b : BarR) : Rat := b.a2 * dt b.f b.f
def xlF (b : BarR) : Rat := (b.b2 + b.c2) - (b.a2 + dt b.f b.f)
def plainF (b : BarR) : Rat := ((4 : Int) : Rat) * (b.b2 * b.c2) - (xlF b * xlF b + ((4 : Int) : Rat) * prodF b)
def inLF (b : BarR) (s : Int) : Int := surdF (plainF b) (((-4 * s : Int) : Rat) * xlF b) (prodF b)
set_option maxHeartbeats 1600000 in
theorem bars_inLine_ok (b : BarR) (s : Int) {k : Nat} (hs : s = 1 ∨ s = -1) (hb : szB k b) (hp : 0 < prodF b) (hk : k ≤ 1000) : Pure Tryz.prog 93 [b.D, dI s] (.tu [dB (decide (0 < inLF b s)), nilE]) := by
  refine Pure.intro (n := 68) tok Tryz.func93 rfl rfl rfl (Nat.le_of_ble_eq_true rfl) (by kernel_rfl) (fun B F0 w0 => ?_)
  obtain ⟨h1, h2, h3, h4⟩ := hb
  unfold inLF plainF
  have e1 : prodF b = b.a2 * dt b.f b.f := rfl
  have e2 : xlF b = (b.b2 + b.c2) - (b.a2 + dt b.f b.f) := rfl
  generalize prodF b = p at e1 hp ⊢
  generalize xlF b = x at e2 ⊢
  obtain ⟨a2, b2, c2, f, us, sg⟩ := b
  simp only [] at h1 h2 h3 h4 e1 e2 ⊢
  have c1 := defects_dot_ok f f h4 h4 (by omega)
  have z1 := (LQ_dt f f h4 h4).1
  generalize dt f f = q at c1 z1 e1 e2 ⊢
  have d1 := fraction_Mul_ok (Qr a2) (Qr q) (k := 4 * k + 1) (Qr_w _ (by omega)) (Qr_w _ (by omega)) (by omega)
  have y1 := LQ_mul a2 q
  have d2 := fraction_Add_ok (Qr b2) (Qr c2) (k := k) (Qr_w _ h2) (Qr_w _ h3) (by omega)
  have y2 := LQ_add b2 c2
  have d3 := fraction_Add_ok (Qr a2) (Qr q) (k := 4 * k + 1) (Qr_w _ (by omega)) (Qr_w _ (by omega)) (by omega)
  have y3 := LQ_add a2 q
  have d4 := fraction_Sub_ok (Qr (b2 + c2)) (Qr (a2 + q)) (k := 10 * k + 10) (Qr_w _ (by omega)) (Qr_w _ (by omega)) (by omega)
  have y4 := LQ_sub (b2 + c2) (a2 + q)
  rw [Qr_val, Qr_val] at d1 d2 d3 d4
  rw [← e1] at d1 y1
  rw [← e2] at d4 y4
  clear e1 e2
  have o4 := fraction_Of_ok 4 (by decide) (by decide)
  have zo := LQ_four 4 (by decide)
  generalize ((4 : Int) : Rat) = r4 at o4 zo ⊢
  have c5 := fraction_Mul_ok (Qr b2) (Qr c2) (k := k) (Qr_w _ h2) (Qr_w _ h3) (by omega)
  have z5 := LQ_mul b2 c2
  have c6 := fraction_Mul_ok (Qr r4) (Qr (b2 * c2)) (k := 2 * k + 2) (Qr_w _ (by omega)) (Qr_w _ (by omega)) (by omega)
  have z6 := LQ_mul r4 (b2 * c2)
  have c7 := fraction_Mul_ok (Qr x) (Qr x) (k := 20 * k + 30) (Qr_w _ (by omega)) (Qr_w _ (by omega)) (by omega)
  have z7 := LQ_mul x x
  have c8 := fraction_Mul_ok (Qr r4) (Qr p) (k := 20 * k + 30) (Qr_w _ (by omega)) (Qr_w _ (by omega)) (by omega)
  have z8 := LQ_mul r4 p
  have c9 := fraction_Add_ok (Qr (x * x)) (Qr (r4 * p)) (k := 100 * k + 100) (Qr_w _ (by omega)) (Qr_w _ (by omega)) (by omega)
  have z9 := LQ_add (x * x) (r4 * p)
  have c10 := fraction_Sub_ok (Qr (r4 * (b2 * c2))) (Qr (x * x + r4 * p)) (k := 200 * k + 200) (Qr_w _ (by omega)) (Qr_w _ (by omega)) (by omega)
  have z10 := LQ_sub (r4 * (b2 * c2)) (x * x + r4 * p)
  simp only [Qr_val] at c5 c6 c7 c8 c9 c10
  generalize r4 * (b2 * c2) - (x * x + r4 * p) = P at c10 z10 ⊢
  have os := fraction_Of_ok (-4 * s) (by omega) (by omega)
  have zs := LQ_four (-4 * s) (by omega)
  generalize ((-4 * s : Int) : Rat) = rs at os zs ⊢
  have c11 := fraction_Mul_ok (Qr rs) (Qr x) (k := 20 * k + 30) (Qr_w _ (by omega)) (Qr_w _ (by omega)) (by omega)
  have z11 := LQ_mul rs x
  rw [Qr_val, Qr_val] at c11
  generalize rs * x = Y at c11 z11 ⊢
  have w1 : wN (1000 * k + 1000) [Qr p] := fun i hi => by
    have hi : i < 1 := hi
    obtain rfl : i = 0 := by omega
    exact Qr_w p (by omega)
  have w2 : wN (1000 * k + 1000) [Qr P, Qr Y] := fun i hi => by
    have hi : i < 2 := hi
    rcases i with _ | _ | i
    · exact Qr_w P (by omega)
    · exact Qr_w Y (by omega)
    · omega
  have ct := tower_Sign_ok [[Qr p]] [Qr P, Qr Y] (m := 1000 * k + 1000) (fun i hi => by
    have hi : i < 1 := hi
    obtain rfl : i = 0 := by omega
    exact w1) (by omega) (show 1 ≤ 1000000 by decide) (fun i hi => by
    have hi : i < 1 := hi
    obtain rfl : i = 0 := by omega
    show 1 ≤ 1000000; decide) (fun _ => ⟨by show 2 * (2 * _) + 2 * _ + 1 ≤ _; omega, by show 2 * (2 * _) + 2 * _ + 1 ≤ 10000000; omega⟩) w2 (show 2 ≤ 1000000 by decide) (by omega)
  rw [signD_one hp] at ct
  generalize surdF P Y p = z at ct ⊢
  refine AW.seq ?_
  refine AW.region ?_
  refine AOps.run tok 3 _ _ _ _ rfl ?_
  refine AOps.nil ?_
  refine AW.seq ?_
  refine AW.region ?_
  refine AOps.run tok 4 _ _ _ _ rfl ?_
  refine AOps.call tok rfl rfl rfl rfl c1 ?_
  refine AOps.run tok 2 _ _ _ _ rfl ?_
  refine AOps.nil ?_
  refine AW.seq ?_
  refine AW.region ?_
  refine AOps.run tok 3 _ _ _ _ rfl ?_
  refine AOps.call tok rfl rfl rfl rfl d1 ?_
  refine AOps.run tok 2 _ _ _ _ rfl ?_
  refine AOps.nil ?_
  refine AW.seq ?_
  refine AW.draw hmix 11 (by kernel_rfl) ?_
  refine APre.run tok 4 _ _ _ _ rfl ?_
  refine APre.call tok rfl rfl rfl rfl rfl d2 ?_
  refine APre.run tok 3 _ _ _ _ rfl ?_
  refine APre.call tok rfl rfl rfl rfl rfl d3 ?_
  refine APre.call tok rfl rfl rfl rfl rfl d4 ?_
  refine APre.run tok 1 _ _ _ _ rfl ?_
  refine APre.nil ?_
  refine AOps.run tok 1 _ _ _ _ rfl ?_
  refine AOps.nil ?_
  refine AW.seq ?_
  refine AW.region ?_
  refine AOps.call tok rfl rfl rfl rfl o4 ?_
  refine AOps.run tok 2 _ _ _ _ rfl ?_
  refine AOps.nil ?_
  refine AW.seq ?_
  refine AW.draw hmix 16 (by kernel_rfl) ?_
  refine APre.run tok 5 _ _ _ _ rfl ?_
  refine APre.call tok rfl rfl rfl rfl rfl c5 ?_
  refine APre.call tok rfl rfl rfl rfl rfl c6 ?_
  refine APre.run tok 2 _ _ _ _ rfl ?_
  refine APre.call tok rfl rfl rfl rfl rfl c7 ?_
  refine APre.run tok 2 _ _ _ _ rfl ?_
  refine APre.call tok rfl rfl rfl rfl rfl c8 ?_
  refine APre.call tok rfl rfl rfl rfl rfl c9 ?_
  refine APre.call tok rfl rfl rfl rfl rfl c10 ?_
  refine APre.run tok 1 _ _ _ _ rfl ?_
  refine APre.nil ?_
  refine AOps.run tok 1 _ _ _ _ rfl ?_
  refine AOps.nil ?_
  refine AW.seq ?_
  refine AW.draw hmix 7 (by kernel_rfl) ?_
  refine APre.run tok 3 _ _ _ _ rfl ?_
  rw [wI64 (x := -4 * s) (by omega) (by omega)]
  refine APre.call tok rfl rfl rfl rfl rfl os ?_
  refine APre.run tok 1 _ _ _ _ rfl ?_
  refine APre.call tok rfl rfl rfl rfl rfl c11 ?_
  refine APre.bsd tok rfl rfl rfl rfl rfl rfl ?_
  refine APre.nil ?_
  refine AOps.run tok 1 _ _ _ _ rfl ?_
  refine AOps.nil ?_
  refine AW.seq ?_
  refine AW.region ?_
  refine AOps.run tok 1 _ _ _ _ rfl ?_
  refine AOps.bsd tok rfl rfl rfl rfl rfl ?_
  refine AOps.bsd tok rfl rfl rfl rfl rfl ?_
  refine AOps.run tok 2 _ _ _ _ rfl ?_
  refine AOps.call tok rfl rfl rfl rfl ct ?_
  refine AOps.run tok 5 _ _ _ _ rfl ?_
  refine AOps.nil ?_
  refine AW.seq ?_
  refine AW.region ?_
  refine AOps.run tok 5 _ _ _ _ rfl ?_
  refine AOps.nil ?_
  exact AW.ret rfl
def btwU (u v : V2) : Bool := decide (sgQ (crs u v) = 0) && decide (sgQ (dt u v) < 0)
def wayF (b : BarR) (u v : V2) (s : Int) : Bool := !insF u v (if s < 0 then vneg b.f else b.f) || decide (0 < inLF b s)
def btwV (b : BarR) (u v : V2) : Bool := posF b u && (posF b v && (decide (sgQ (crs u v) = 0) || (if sgQ (crs u v) < 0 then wayF b v u 1 && wayF b v u (-1) else wayF b u v 1 && wayF b u v (-1))))
def btwD (b : BarR) (u v : V2) : D := if btwU u v = true then .tu [dB false, erV 15] else .tu [dB (btwV b u v), nilE]
theorem sgV_neg (a : V2) : szV (vneg a) = szV a := by
  show max (LQ (-a.1)) (LQ (-a.2)) = max (LQ a.1) (LQ a.2)
  rw [LQ_neg, LQ_neg]
set_option maxHeartbeats 1600000 in
theorem bars_between_ok (b : BarR) (u v : V2) {k : Nat} (hb : szB k b) (hu : szV u ≤ k) (hv : szV v ≤ k) (hp : 0 < prodF b) (hk : k ≤ 1000) : Pure Tryz.prog 48 [b.D, (VQ u).D, (VQ v).D] (btwD b u v) := by
  refine Pure.intro (n := 75) tok Tryz.func48 rfl rfl rfl (Nat.le_of_ble_eq_true rfl) (by kernel_rfl) (fun B F0 w0 => ?_)
  have z := LQ_dt u v hu hv
  have m1 := defects_cross_ok u v hu hv (by omega)
  have m2 := fraction_Sign_ok (Qr (crs u v)) (k := 4 * k + 1) (Qr_w _ (by omega)) (by omega)
  have m3 := defects_dot_ok u v hu hv (by omega)
  have m4 := fraction_Sign_ok (Qr (dt u v)) (k := 4 * k + 1) (Qr_w _ (by omega)) (by omega)
  rw [Qr_val, sgI_num] at m2 m4
  have p1 := bars_positive_ok b u hb hu (by omega)
  have p2 := bars_positive_ok b v hb hv (by omega)
  have hL := fun s hs => bars_inLine_ok b s hs hb hp hk
  have hI := fun (x y w : V2) hx hy hw => defects_inside_ok x y w (k := k) hx hy hw (by omega)
  have hN := defects_neg_ok b.f hb.2.2.2 (by omega)
  have hnf : szV (vneg b.f) ≤ k := by rw [sgV_neg]; exact hb.2.2.2
  have hf := hb.2.2.2
  have hW : ∀ x y s, wayF b x y s = (!insF x y (if s < 0 then vneg b.f else b.f) || decide (0 < inLF b s)) := fun _ _ _ => rfl
  unfold btwD btwU btwV
  have hbD : b.D = .ag (barC b.a2 b.b2 b.c2 b.f (.sl 6 (VLs b.u)) (.sl 1 (IL b.sg))) := rfl
  generalize wayF b = W at hW ⊢
  generalize crs u v = cc at m1 m2 ⊢
  generalize dt u v = tt at m3 m4 ⊢
  generalize sgQ cc = sc at m2 ⊢
  generalize sgQ tt = st at m4 ⊢
  generalize posF b u = pu at p1 ⊢
  generalize posF b v = pv at p2 ⊢
  generalize inLF b = iL at hL hW
  generalize vneg b.f = nf at hN hnf hW
  obtain ⟨a2, b2, c2, f, us, sg⟩ := b
  simp only [] at hf hN hW
  refine AW.seq ?_
  refine AW.region ?_
  refine AOps.run tok 5 _ _ _ _ rfl ?_
  refine AOps.nil ?_
  refine AW.seq ?_
  refine AW.region ?_
  refine AOps.run tok 2 _ _ _ _ rfl ?_
  refine AOps.call tok rfl rfl rfl rfl m1 ?_
  refine AOps.call tok rfl rfl rfl rfl m2 ?_
  refine AOps.run tok 1 _ _ _ _ rfl ?_
  refine AOps.nil ?_
  refine AW.cut [3, 4, 5, 8] (fun _ : Unit => [(3, .bx (barC a2 b2 c2 f (.sl 6 (VLs us)) (.sl 1 (IL sg)))), (4, .bx (VQ u).D.flat), (5, .bx (VQ v).D.flat), (8, .d (dI sc))]) (fun _ => ¬ (decide (sc = 0) && decide (st < 0)) = true) ?_ (fun _ hU => ?_)
  · refine AW.seq ?_
    refine AW.region ?_
    refine AOps.run tok 2 _ _ _ _ rfl ?_
    by_cases h0 : sc = 0
    rotate_left
    · rw [beq_eq_false_iff_ne.2 h0, decide_eq_false h0]
      refine AOps.run tok 7 _ _ _ _ rfl ?_
      refine AOps.nil ?_
      refine AW.condF rfl ?_
      refine AW.skip ?_
      exact ⟨(), rfl, by simp⟩
    rw [beq_iff_eq.2 h0, decide_eq_true h0]
    refine AOps.run tok 3 _ _ _ _ rfl ?_
    refine AOps.call tok rfl rfl rfl rfl m3 ?_
    refine AOps.call tok rfl rfl rfl rfl m4 ?_
    refine AOps.run tok 2 _ _ _ _ rfl ?_
    refine AOps.nil ?_
    by_cases h1 : st < 0
    · rw [decide_eq_true h1, if_pos (by rfl)]
      refine AW.condT rfl ?_
      refine AW.seq ?_
      refine AW.region ?_
      refine AOps.run tok 3 _ _ _ _ rfl ?_
      refine AOps.nil ?_
      exact AW.ret rfl
    · rw [decide_eq_false h1]
      refine AW.condF rfl ?_
      refine AW.skip ?_
      exact ⟨(), rfl, by simp⟩
  rw [if_neg hU]
  show AW _ _ _ _ _ _ _ [(3, .bx (barC a2 b2 c2 f (.sl 6 (VLs us)) (.sl 1 (IL sg)))), (4, .bx (VQ u).D.flat), (5, .bx (VQ v).D.flat), (8, .d (dI sc))]
  refine AW.seq ?_
  refine AW.seq ?_
  refine AW.region ?_
  refine AOps.run tok 2 _ _ _ _ rfl ?_
  refine AOps.call tok rfl rfl rfl rfl p1 ?_
  refine AOps.run tok 2 _ _ _ _ rfl ?_
  cases pu with
  | false =>
    refine AOps.run tok 5 _ _ _ _ rfl ?_
    refine AOps.nil ?_
    refine AW.condT rfl ?_
    refine AW.seq ?_
    refine AW.region ?_
    refine AOps.run tok 2 _ _ _ _ rfl ?_
    refine AOps.nil ?_
    exact AW.ret rfl
  | true =>
  refine AOps.run tok 2 _ _ _ _ rfl ?_
  refine AOps.call tok rfl rfl rfl rfl p2 ?_
  refine AOps.run tok 2 _ _ _ _ rfl ?_
  refine AOps.nil ?_
  cases pv with
  | false =>
    refine AW.condT rfl ?_
    refine AW.seq ?_
    refine AW.region ?_
    refine AOps.run tok 2 _ _ _ _ rfl ?_
    refine AOps.nil ?_
    exact AW.ret rfl
  | true =>
  refine AW.condF rfl ?_
  refine AW.skip ?_
  refine AW.seq ?_
  refine AW.seq ?_
  refine AW.region ?_
  refine AOps.run tok 2 _ _ _ _ rfl ?_
  refine AOps.nil ?_
  by_cases h0 : sc = 0
  · rw [beq_iff_eq.2 h0, decide_eq_true h0]
    refine AW.condT rfl ?_
    refine AW.seq ?_
    refine AW.region ?_
    refine AOps.run tok 2 _ _ _ _ rfl ?_
    refine AOps.nil ?_
    exact AW.ret rfl
  rw [beq_eq_false_iff_ne.2 h0, decide_eq_false h0]
  refine AW.condF rfl ?_
  refine AW.skip ?_
  rw [show (true && (true && (false || if sc < 0 then W v u 1 && W v u (-1) else W u v 1 && W u v (-1)))) = (if sc < 0 then W v u 1 && W v u (-1) else W u v 1 && W u v (-1)) from rfl]
  obtain ⟨V, hV⟩ : ∃ V, V = (if sc < 0 then W v u 1 && W v u (-1) else W u v 1 && W u v (-1)) := ⟨_, rfl⟩
  rw [← hV]
  refine AW.cut [3, 4, 5] (fun s : V2 × V2 => [(3, .bx (barC a2 b2 c2 f (.sl 6 (VLs us)) (.sl 1 (IL sg)))), (4, .bx (VQ s.1).D.flat), (5, .bx (VQ s.2).D.flat)]) (fun s => V = (W s.1 s.2 1 && W s.1 s.2 (-1)) ∧ szV s.1 ≤ k ∧ szV s.2 ≤ k) ?_ (fun s hs => ?_)
  · refine AW.seq ?_
    refine AW.region ?_
    refine AOps.run tok 2 _ _ _ _ rfl ?_
    refine AOps.nil ?_
    by_cases h1 : sc < 0
    · rw [if_pos h1] at hV
      rw [decide_eq_true h1]
      refine AW.condT rfl ?_
      refine AW.region ?_
      refine AOps.run tok 4 _ _ _ _ rfl ?_
      refine AOps.nil ?_
      exact ⟨(v, u), rfl, hV, hv, hu⟩
    · rw [if_neg h1] at hV
      rw [decide_eq_false h1]
      refine AW.condF rfl ?_
      refine AW.skip ?_
      exact ⟨(u, v), rfl, hV, hu, hv⟩
  clear hV
  obtain ⟨x, y⟩ := s
  obtain ⟨hV, hx, hy⟩ := hs
  simp only [] at hV hx hy
  show AW _ _ _ _ _ _ _ [(3, .bx (barC a2 b2 c2 f (.sl 6 (VLs us)) (.sl 1 (IL sg)))), (4, .bx (VQ x).D.flat), (5, .bx (VQ y).D.flat)]
  have hW := hW x y
  generalize W x y = w2 at hW hV
  refine AW.seq ?_
  refine AW.seq ?_
  refine AW.region ?_
  refine AOps.bsd tok rfl rfl rfl rfl rfl ?_
  refine AOps.run tok 2 _ _ _ _ rfl ?_
  refine AOps.nil ?_
  refine AW.block ?_
  refine AW.loopS [3, 4, 5, 44, 45, 46] (fun i : Nat => [(3, .bx (barC a2 b2 c2 f (.sl 6 (VLs us)) (.sl 1 (IL sg)))), (4, .bx (VQ x).D.flat), (5, .bx (VQ y).D.flat), (44, .d (.sl 1 [dI 1, dI (-1)])), (45, .d (dI 2)), (46, .d (dI i))]) (fun i => i ≤ 2 ∧ (1 ≤ i → w2 1 = true) ∧ (2 ≤ i → w2 (-1) = true)) (fun i => 2 - i) 0 rfl ⟨by omega, fun h => by omega, fun h => by omega⟩ (fun i ⟨hi, i1, i2⟩ => ?_)
  refine AW.seq ?_
  refine AW.region ?_
  refine AOps.run tok 1 _ _ _ _ rfl ?_
  refine AOps.nil ?_
  refine AW.seq ?_
  refine AW.cond rfl (fun h => ?_) (fun h => ?_)
  rotate_left
  · have hii : ¬ i < 2 := by have := of_decide_eq_false h; omega
    rw [i1 (by omega), i2 (by omega)] at hV
    subst hV
    refine AW.exit ?_
    refine AW.seq ?_
    refine AW.region ?_
    refine AOps.run tok 2 _ _ _ _ rfl ?_
    refine AOps.nil ?_
    exact AW.ret rfl
  have hii : i < 2 := by have := of_decide_eq_true h; omega
  obtain ⟨s, hg, hs, hs0, hs1⟩ : ∃ s : Int, ([dI 1, dI (-1)] : List D)[i]? = some (dI s) ∧ (s = 1 ∨ s = -1) ∧ (i = 0 → s = 1) ∧ (i = 1 → s = -1) := by
    rcases i with _ | _ | i
    · exact ⟨1, rfl, .inl rfl, fun _ => rfl, fun h => by omega⟩
    · exact ⟨-1, rfl, .inr rfl, fun h => by omega, fun _ => rfl⟩
    · omega
  have hnext : w2 s = true → (1 ≤ i + 1 → w2 1 = true) ∧ (2 ≤ i + 1 → w2 (-1) = true) := fun h => by
    by_cases e : i = 0
    · rw [hs0 e] at h; exact ⟨fun _ => h, fun h2 => by omega⟩
    · rw [hs1 (by omega)] at h; exact ⟨fun _ => i1 (by omega), fun _ => h⟩
  have hlast : w2 s = false → V = false := fun h => by
    by_cases e : i = 0
    · rw [hs0 e] at h; rw [hV, h]; rfl
    · rw [hs1 (by omega)] at h; rw [hV, h]; cases w2 1 <;> rfl
  have hW := hW s
  refine AW.skip ?_
  refine AW.seq ?_
  refine AW.block ?_
  refine AW.seq ?_
  refine AW.region ?_
  refine AOps.idx tok (dI s) rfl rfl rfl rfl (Int.natCast_nonneg i) hg ?_
  refine AOps.run tok 2 _ _ _ _ rfl ?_
  refine AOps.nil ?_
  refine AW.seq ?_
  refine AW.region ?_
  refine AOps.run tok 4 _ _ _ _ rfl ?_
  refine AOps.nil ?_
  refine AW.cut [3, 4, 5, 10, 11, 44, 45, 46] (fun w : V2 => [(3, .bx (barC a2 b2 c2 f (.sl 6 (VLs us)) (.sl 1 (IL sg)))), (4, .bx (VQ x).D.flat), (5, .bx (VQ y).D.flat), (10, .d (dI s)), (11, .bx (VQ w).D.flat), (44, .d (.sl 1 [dI 1, dI (-1)])), (45, .d (dI 2)), (46, .d (dI i))]) (fun w => w = (if s < 0 then nf else f)) ?_ (fun w hw => ?_)
  · refine AW.seq ?_
    refine AW.region ?_
    refine AOps.run tok 2 _ _ _ _ rfl ?_
    refine AOps.nil ?_
    by_cases h1 : s < 0
    · rw [decide_eq_true h1]
      refine AW.condT rfl ?_
      refine AW.region ?_
      refine AOps.run tok 1 _ _ _ _ rfl ?_
      refine AOps.call tok rfl rfl rfl rfl hN ?_
      refine AOps.run tok 1 _ _ _ _ rfl ?_
      refine AOps.nil ?_
      exact ⟨nf, rfl, by rw [if_pos h1]⟩
    · rw [decide_eq_false h1]
      refine AW.condF rfl ?_
      refine AW.skip ?_
      exact ⟨f, rfl, by rw [if_neg h1]⟩
  rw [← hw] at hW
  have hwz : szV w ≤ k := by rw [hw]; split; exact hnf; exact hf
  have cI := hI x y w hx hy hwz
  have cL := hL s hs
  generalize insF x y w = ins at cI hW
  generalize decide (0 < iL s) = ok at cL hW
  refine AW.seq ?_
  refine AW.seq ?_
  refine AW.region ?_
  refine AOps.run tok 3 _ _ _ _ rfl ?_
  refine AOps.call tok rfl rfl rfl rfl cI ?_
  refine AOps.run tok 1 _ _ _ _ rfl ?_
  refine AOps.nil ?_
  cases ins with
  | false =>
    refine AW.condT rfl ?_
    refine AW.exit ?_
    refine AW.region ?_
    refine AOps.run tok 1 _ _ _ _ rfl ?_
    rw [wI64 (x := (i : Int) + 1) (by omega) (by omega)]
    refine AOps.run tok 1 _ _ _ _ rfl ?_
    refine AOps.nil ?_
    exact ⟨i + 1, rfl, ⟨hii, hnext hW⟩, by omega⟩
  | true =>
  refine AW.condF rfl ?_
  refine AW.skip ?_
  refine AW.seq ?_
  refine AW.region ?_
  refine AOps.run tok 2 _ _ _ _ rfl ?_
  refine AOps.call tok rfl rfl rfl rfl cL ?_
  refine AOps.run tok 5 _ _ _ _ rfl ?_
  refine AOps.nil ?_
  refine AW.seq ?_
  refine AW.region ?_
  refine AOps.run tok 1 _ _ _ _ rfl ?_
  refine AOps.err tok rfl rfl rfl rfl rfl ?_
  refine AOps.run tok 4 _ _ _ _ rfl ?_
  refine AOps.nil ?_
  cases ok with
  | false =>
    rw [hlast hW]
    refine AW.condT rfl ?_
    refine AW.seq ?_
    refine AW.region ?_
    refine AOps.run tok 3 _ _ _ _ rfl ?_
    refine AOps.nil ?_
    exact AW.ret rfl
  | true =>
  refine AW.condF rfl ?_
  refine AW.skip ?_
  refine AW.region ?_
  refine AOps.run tok 1 _ _ _ _ rfl ?_
  rw [wI64 (x := (i : Int) + 1) (by omega) (by omega)]
  refine AOps.run tok 1 _ _ _ _ rfl ?_
  refine AOps.nil ?_
  exact ⟨i + 1, rfl, ⟨hii, hnext hW⟩, by omega⟩
end Lift
namespace Lift
open Go Go.Proofs
theorem dt_pos {f : V2} (h : f ≠ (0, 0)) : 0 < dt f f := by
  have h0 := dt_nn f
  have hne : dt f f ≠ 0 := fun e => h (by
    have e : f.1 * f.1 + f.2 * f.2 = 0 := e
    have := sum0 e
    exact Prod.ext this.1 this.2)
  grind
theorem sgI_pos {q : Rat} (h : 0 < sgI q.num) : 0 < q := by
  rw [sgI_num] at h
  exact sgQ_pos.1 h
theorem vsub_ne {a b : V2} (h : b ≠ a) : vsub a b ≠ (0, 0) := fun e => h (by
  have e1 : a.1 - b.1 = 0 := congrArg Prod.fst e
  have e2 : a.2 - b.2 = 0 := congrArg Prod.snd e
  exact Prod.ext (by grind) (by grind))
structure RdOk (K : Nat) (ps : List Po) (b : BarR) : Prop where
  sz : szB K b
  pp : 0 < prodF b
  su : ∀ i, i < b.u.length → szV (b.u.getD i (0, 0)) ≤ K
  ul : b.u.length = ps.length
  sl : b.sg.length = ps.length
  l2 : 2 ≤ ps.length
  l5 : ps.length ≤ 5
theorem rdB_ok {l : List PoD} {d e : DyD} {k : Nat} (hw : ∀ i, i < l.length → (l.getD i default).w k) (hd : d.w k) (he : e.w k) (h1 : 1 ≤ k) (h0 : chkD l d e = 0) : RdOk (12 * k + 11) (l.map PoD.val) (rdB (l.map PoD.val) d.val e.val) := by
  obtain ⟨⟨hl2, hl5, hp⟩, _, _, r1, r2, _, hc, _, _⟩ := chkD_ok h0
  have sL := szL_val hw h1
  have sd := szD_1 (szD_val hd h1)
  have se := szD_1 (szD_val he h1)
  have hl : (l.map PoD.val).length = l.length := List.length_map ..
  generalize l.map PoD.val = ps at sL hl ⊢
  have hc : d.val.1 ≠ e.val.1 := hc
  have r1 : 0 < d.val.2.2 := sgI_pos r1
  generalize d.val = d at sd hc r1 ⊢
  generalize e.val = e at se hc ⊢
  obtain ⟨dc, dm, dr⟩ := d
  obtain ⟨ec, em, er⟩ := e
  simp only [] at sd se hc r1
  have z1 := szV_sub em dm se.2.1 sd.2.1
  have z2 := szV_sub ec dc se.1 sd.1
  have z3 := (LQ_dt _ _ z1 z1).1
  refine ⟨⟨by show LQ dr ≤ _; omega, by show LQ (dt (vsub em dm) (vsub em dm)) ≤ _; omega, by show LQ er ≤ _; omega, by show szV (vsub ec dc) ≤ _; omega⟩, ?_, fun i hi => ?_, List.length_map .., List.length_map .., by omega, by omega⟩
  · show 0 < dr * dt (vsub ec dc) (vsub ec dc)
    exact Rat.mul_pos r1 (dt_pos (vsub_ne hc))
  · have hi : i < ps.length := by
      have hi : i < (ps.map (dirF (dc, dm, dr))).length := hi
      rwa [List.length_map] at hi
    show szV ((ps.map (dirF (dc, dm, dr))).getD i (0, 0)) ≤ _
    rw [List.getD_eq_getElem?_getD, List.getElem?_map, List.getElem?_eq_getElem hi]
    have hs := sL i hi
    rw [List.getD_eq_getElem?_getD, List.getElem?_eq_getElem hi] at hs
    have ha := szV_app ps[i] dm hs sd.2.1 h1
    have := szV_sub (appF ps[i] dm) dc ha sd.1
    show szV (vsub (appF ps[i] dm) dc) ≤ _
    omega
end Lift
namespace Lift
open Go Go.Proofs
def brB (sg : List Int) (i : Nat) : Bool := decide (sg.getD i 0 = 0) || decide (sg.getD i 0 ≠ sg.getD 0 0)
def ciB (b : BarR) (i : Nat) : Bool := !btwV b (b.u.getD i (0, 0)) (b.u.getD (i + 1) (0, 0))
def unB (b : BarR) (i : Nat) : Bool := btwU (b.u.getD i (0, 0)) (b.u.getD (i + 1) (0, 0))
def anyR (f : Nat → Bool) (n : Nat) : Bool := (List.range n).any f
theorem anyR_succ (f : Nat → Bool) (n : Nat) : anyR f (n + 1) = (anyR f n || f n) := by
  unfold anyR
  rw [List.range_succ, List.any_append]
  simp
theorem anyR_in {f : Nat → Bool} {n i : Nat} (hi : i < n) (h : f i = true) : anyR f n = true := by
  unfold anyR
  rw [List.any_eq_true]
  exact ⟨i, List.mem_range.2 hi, h⟩
abbrev DfD (x y z : Bool) : D := .ag [dB x, dB y, dB z]
def rptD (b : BarR) : D := if anyR (unB b) (b.u.length - 1) = true then .tu [DfD false false false, erV 15] else .tu [DfD (anyR (brB b.sg) b.sg.length) (orderF b.u) (anyR (ciB b) (b.u.length - 1)), nilE]
def reportD (l : List PoD) (d e : DyD) : D := if chkD l d e ≠ 0 then .tu [DfD false false false, erV (chkD l d e)] else rptD (rdB (l.map PoD.val) d.val e.val)
theorem getI {l : List Int} {i : Nat} (h : i < l.length) : (l.map (fun n => dI n))[i]? = some (dI (l.getD i 0)) := by simp [h]
theorem mirF_len (l : List V2) : (mirF l).length = l.length := List.length_map ..
theorem mirF_sz {l : List V2} {k : Nat} (h : ∀ i, i < l.length → szV (l.getD i (0, 0)) ≤ k) : ∀ i, i < (mirF l).length → szV ((mirF l).getD i (0, 0)) ≤ k := fun i hi => by
  rw [mirF_len] at hi
  have := szV_1 (h i hi)
  unfold mirF
  rw [List.getD_eq_getElem?_getD, List.getElem?_map]
  rw [List.getD_eq_getElem?_getD] at this
  rw [List.getElem?_eq_getElem hi] at this ⊢
  show max (LQ (l[i]).1) (LQ (-(l[i]).2)) ≤ k
  rw [LQ_neg]
  have h1 : LQ (l[i]).1 ≤ k := this.1
  have h2 : LQ (l[i]).2 ≤ k := this.2
  omega
set_option maxHeartbeats 3200000 in
theorem defects_Report_ok (l : List PoD) (d e : DyD) {k : Nat} (hl : l.length ≤ 1000000) (hw : ∀ i, i < l.length → (l.getD i default).w k) (hd : d.w k) (he : e.w k) (h1 : 1 ≤ k) (hk : k ≤ 80) : Pure Tryz.prog 17 [PoL l, d.D, e.D] (reportD l d e) := by
  refine Pure.intro (n := 92) tok Tryz.func17 rfl rfl rfl (Nat.le_of_ble_eq_true rfl) (by kernel_rfl) (fun B F0 w0 => ?_)
  have cc := defects_read_ok l d e hl hw hd he h1 (by omega)
  unfold readD at cc
  unfold reportD
  rcases hc : chkD l d e with _ | z
  rotate_left
  · rw [hc, if_neg (Nat.succ_ne_zero z)] at cc
    rw [if_pos (Nat.succ_ne_zero z)]
    refine AW.seq ?_
    refine AW.region ?_
    refine AOps.run tok 4 _ _ _ _ rfl ?_
    refine AOps.nil ?_
    refine AW.seq ?_
    refine AW.region ?_
    refine AOps.run tok 3 _ _ _ _ rfl ?_
    refine AOps.call tok rfl rfl rfl rfl cc ?_
    refine AOps.run tok 6 _ _ _ _ rfl ?_
    refine AOps.nil ?_
    refine AW.seq ?_
    refine AW.seq ?_
    refine AW.region ?_
    refine AOps.run tok 1 _ _ _ _ rfl ?_
    refine AOps.err tok rfl rfl rfl rfl rfl ?_
    refine AOps.nil ?_
    refine AW.condT rfl ?_
    refine AW.seq ?_
    refine AW.region ?_
    refine AOps.run tok 4 _ _ _ _ rfl ?_
    refine AOps.nil ?_
    exact AW.ret rfl
  rw [hc, if_pos rfl] at cc
  rw [if_neg (by simp)]
  have R := rdB_ok hw hd he h1 hc
  generalize rdB (l.map PoD.val) d.val e.val = b at cc R ⊢
  obtain ⟨sb, pp, su, ul, sl, l2, l5⟩ := R
  have cb := fun u v hu hv => bars_between_ok b u v (k := 12 * k + 11) sb hu hv pp (by omega)
  have hsu : b.sg.length = b.u.length := by omega
  have hn2 : 2 ≤ b.u.length := by omega
  have hn5 : b.u.length ≤ 5 := by omega
  have a1 := defects_ascends_ok b.u (k := 12 * k + 11) su (by omega) (by omega)
  have a2 := defects_mirrored_ok b.u (k := 12 * k + 11) su (by omega) (by omega)
  have a3 := defects_ascends_ok (mirF b.u) (k := 12 * k + 11) (mirF_sz su) (by rw [mirF_len]; omega) (by omega)
  unfold rptD orderF
  have hbt : ∀ u v, btwD b u v = if btwU u v = true then .tu [dB false, erV 15] else .tu [dB (btwV b u v), nilE] := fun _ _ => rfl
  have hun : ∀ i, unB b i = btwU (b.u.getD i (0, 0)) (b.u.getD (i + 1) (0, 0)) := fun _ => rfl
  have hci : ∀ i, ciB b i = !btwV b (b.u.getD i (0, 0)) (b.u.getD (i + 1) (0, 0)) := fun _ => rfl
  have hbr : ∀ i, brB b.sg i = (decide (b.sg.getD i 0 = 0) || decide (b.sg.getD i 0 ≠ b.sg.getD 0 0)) := fun _ => rfl
  generalize unB b = un at hun ⊢
  generalize ciB b = ci at hci ⊢
  generalize brB b.sg = br at hbr ⊢
  generalize btwV b = bv at hbt hci
  generalize btwD b = bt at cb hbt
  obtain ⟨q1, q2, q3, f, us, sg⟩ := b
  simp only [] at hsu hn2 hn5 su a1 a2 a3 hun hci hbr
  obtain ⟨n, hn⟩ : ∃ n, n = us.length := ⟨_, rfl⟩
  rw [← hn] at hn2 hn5 ⊢
  rw [hsu, ← hn]
  have gs : ∀ i, i < n → (sg.map (fun n => dI n))[i]? = some (dI (sg.getD i 0)) := fun i hi => getI (by omega)
  have gu : ∀ i, i < n → (us.map (fun v => (VQ v).D))[i]? = some (VQ (us.getD i (0, 0))).D := fun i hi => getVl (by omega)
  refine AW.seq ?_
  refine AW.region ?_
  refine AOps.run tok 4 _ _ _ _ rfl ?_
  refine AOps.nil ?_
  refine AW.seq ?_
  refine AW.region ?_
  refine AOps.run tok 3 _ _ _ _ rfl ?_
  refine AOps.call tok rfl rfl rfl rfl cc ?_
  refine AOps.run tok 6 _ _ _ _ rfl ?_
  refine AOps.nil ?_
  refine AW.seq ?_
  refine AW.seq ?_
  refine AW.region ?_
  refine AOps.run tok 1 _ _ _ _ rfl ?_
  refine AOps.err tok rfl rfl rfl rfl rfl ?_
  refine AOps.nil ?_
  refine AW.condF rfl ?_
  refine AW.skip ?_
  refine AW.cut [6, 8, 10] (fun o : Bool => [(6, .bx [dB false, dB false, dB false]), (8, .bx (barC q1 q2 q3 f (.sl 6 (VLs us)) (.sl 1 (IL sg)))), (10, .bx [dB false, dB o, dB false])]) (fun o => o = (!ascF us && !ascF (mirF us))) ?_ (fun o ho => ?_)
  · refine AW.region ?_
    refine AOps.run tok 2 _ _ _ _ rfl ?_
    refine AOps.call tok rfl rfl rfl rfl a1 ?_
    refine AOps.run tok 2 _ _ _ _ rfl ?_
    cases ascF us with
    | true =>
      refine AOps.run tok 9 _ _ _ _ rfl ?_
      refine AOps.nil ?_
      exact ⟨false, rfl, rfl⟩
    | false =>
    refine AOps.run tok 2 _ _ _ _ rfl ?_
    refine AOps.call tok rfl rfl rfl rfl a2 ?_
    refine AOps.call tok rfl rfl rfl rfl a3 ?_
    refine AOps.run tok 5 _ _ _ _ rfl ?_
    refine AOps.nil ?_
    exact ⟨_, rfl, rfl⟩
  rw [← ho]
  clear ho
  show AW _ _ _ _ _ _ _ [(6, .bx [dB false, dB false, dB false]), (8, .bx (barC q1 q2 q3 f (.sl 6 (VLs us)) (.sl 1 (IL sg)))), (10, .bx [dB false, dB o, dB false])]
  refine AW.seq ?_
  refine AW.seq ?_
  refine AW.region ?_
  refine AOps.run tok 3 _ _ _ _ rfl ?_
  rw [List.length_map, hsu, ← hn]
  refine AOps.run tok 1 _ _ _ _ rfl ?_
  refine AOps.nil ?_
  refine AW.block ?_
  refine AW.loopS [6, 8, 10, 39, 40, 41] (fun i : Nat => [(6, .bx [dB false, dB false, dB false]), (8, .bx (barC q1 q2 q3 f (.sl 6 (VLs us)) (.sl 1 (IL sg)))), (10, .bx [dB (anyR br i), dB o, dB (anyR ci (i - 1))]), (39, .d (.sl 1 (IL sg))), (40, .d (dI n)), (41, .d (dI i))]) (fun i => i ≤ n ∧ anyR un (i - 1) = false) (fun i => n - i) 0 rfl ⟨Nat.zero_le _, rfl⟩ (fun i ⟨hi, hU⟩ => ?_)
  refine AW.seq ?_
  refine AW.region ?_
  refine AOps.run tok 1 _ _ _ _ rfl ?_
  refine AOps.nil ?_
  refine AW.seq ?_
  refine AW.cond rfl (fun h => ?_) (fun h => ?_)
  rotate_left
  · have hii : i = n := by have := of_decide_eq_false h; omega
    rw [hii] at hU ⊢
    rw [if_neg (by rw [hU]; simp)]
    refine AW.exit ?_
    refine AW.seq ?_
    refine AW.region ?_
    refine AOps.run tok 3 _ _ _ _ rfl ?_
    refine AOps.nil ?_
    exact AW.ret rfl
  have hii : i < n := by have := of_decide_eq_true h; omega
  have g0 := gs i hii
  have g00 := gs 0 (by omega)
  have hbi := hbr i
  have hbs := anyR_succ br i
  refine AW.skip ?_
  refine AW.seq ?_
  refine AW.block ?_
  refine AW.seq ?_
  refine AW.region ?_
  refine AOps.run tok 1 _ _ _ _ rfl ?_
  refine AOps.idx tok (dI (sg.getD i 0)) rfl rfl rfl rfl (Int.natCast_nonneg i) g0 ?_
  refine AOps.run tok 3 _ _ _ _ rfl ?_
  refine AOps.nil ?_
  generalize sg.getD i 0 = s at hbi
  generalize sg.getD 0 0 = s0 at hbi g00
  refine AW.cut [6, 8, 10, 11, 12, 39, 40, 41] (fun _ : Unit => [(6, .bx [dB false, dB false, dB false]), (8, .bx (barC q1 q2 q3 f (.sl 6 (VLs us)) (.sl 1 (IL sg)))), (10, .bx [dB (anyR br (i + 1)), dB o, dB (anyR ci (i - 1))]), (11, .d (dI i)), (12, .d (dI s)), (39, .d (.sl 1 (IL sg))), (40, .d (dI n)), (41, .d (dI i))]) (fun _ => True) ?_ (fun _ _ => ?_)
  · rw [hbs, hbi]
    refine AW.region ?_
    refine AOps.run tok 3 _ _ _ _ rfl ?_
    cases anyR br i with
    | true =>
      refine AOps.run tok 13 _ _ _ _ rfl ?_
      refine AOps.nil ?_
      exact ⟨(), rfl, trivial⟩
    | false =>
    refine AOps.run tok 2 _ _ _ _ rfl ?_
    by_cases h0 : s = 0
    · rw [beq_iff_eq.2 h0, decide_eq_true h0]
      refine AOps.run tok 11 _ _ _ _ rfl ?_
      refine AOps.nil ?_
      exact ⟨(), rfl, trivial⟩
    rw [beq_eq_false_iff_ne.2 h0, decide_eq_false h0]
    refine AOps.run tok 5 _ _ _ _ rfl ?_
    refine AOps.idx tok (dI s0) rfl rfl rfl rfl (Int.le_refl _) g00 ?_
    refine AOps.run tok 2 _ _ _ _ rfl ?_
    by_cases h2 : s = s0
    · rw [bne_eq_false_iff_eq.2 h2, decide_eq_false (fun h => h h2)]
      refine AOps.run tok 3 _ _ _ _ rfl ?_
      refine AOps.nil ?_
      exact ⟨(), rfl, trivial⟩
    · rw [bne_iff_ne.2 h2, decide_eq_true h2]
      refine AOps.run tok 3 _ _ _ _ rfl ?_
      refine AOps.nil ?_
      exact ⟨(), rfl, trivial⟩
  show AW _ _ _ _ _ _ _ [(6, .bx [dB false, dB false, dB false]), (8, .bx (barC q1 q2 q3 f (.sl 6 (VLs us)) (.sl 1 (IL sg)))), (10, .bx [dB (anyR br (i + 1)), dB o, dB (anyR ci (i - 1))]), (11, .d (dI i)), (12, .d (dI s)), (39, .d (.sl 1 (IL sg))), (40, .d (dI n)), (41, .d (dI i))]
  refine AW.seq ?_
  refine AW.seq ?_
  refine AW.region ?_
  refine AOps.run tok 2 _ _ _ _ rfl ?_
  refine AOps.nil ?_
  rcases i with _ | j
  · refine AW.condT rfl ?_
    refine AW.exit ?_
    refine AW.region ?_
    refine AOps.run tok 2 _ _ _ _ rfl ?_
    refine AOps.nil ?_
    exact ⟨1, rfl, ⟨by omega, rfl⟩, by omega⟩
  rw [beq_eq_false_iff_ne.2 (show ((j + 1 : Nat) : Int) ≠ 0 by omega)]
  refine AW.condF rfl ?_
  refine AW.skip ?_
  have e1 := gu j (by omega)
  have e2 := gu (j + 1) hii
  have cb := cb _ _ (su j (by omega)) (su (j + 1) (by omega))
  have hbt := hbt (us.getD j (0, 0)) (us.getD (j + 1) (0, 0))
  have hunj := hun j
  have hcij := hci j
  have hcs := anyR_succ ci j
  have hus := anyR_succ un j
  rw [Nat.add_sub_cancel] at hU ⊢
  generalize us.getD j (0, 0) = u at e1 cb hbt hunj hcij
  generalize us.getD (j + 1) (0, 0) = v at e2 cb hbt hunj hcij
  rw [hbt] at cb
  clear hbt
  rw [hcij] at hcs
  rw [hunj] at hus
  generalize bv u v = w at cb hcs
  refine AW.seq ?_
  refine AW.draw hmix 17 (by kernel_rfl) ?_
  refine APre.run tok 4 _ _ _ _ rfl ?_
  refine APre.run tok 1 _ _ _ _ rfl ?_
  rw [wI64 (x := ((j + 1 : Nat) : Int) - 1) (by omega) (by omega), show ((j + 1 : Nat) : Int) - 1 = (j : Int) by omega]
  refine APre.idx tok (VQ u).D rfl rfl rfl rfl rfl (Int.natCast_nonneg j) e1 ?_
  refine APre.run tok 4 _ _ _ _ rfl ?_
  refine APre.idx tok (VQ v).D rfl rfl rfl rfl rfl (Int.natCast_nonneg (j + 1)) e2 ?_
  refine APre.run tok 1 _ _ _ _ rfl ?_
  refine APre.call tok rfl rfl rfl rfl rfl cb ?_
  cases hbu : btwU u v with
  | true =>
    rw [if_pos rfl]
    rw [hbu, Bool.or_true] at hus
    rw [if_pos (anyR_in (i := j) (by omega) (by rw [hunj]; exact hbu))]
    refine APre.run tok 4 _ _ _ _ rfl ?_
    refine APre.nil ?_
    refine AOps.run tok 1 _ _ _ _ rfl ?_
    refine AOps.nil ?_
    refine AW.seq ?_
    refine AW.seq ?_
    refine AW.region ?_
    refine AOps.run tok 1 _ _ _ _ rfl ?_
    refine AOps.err tok rfl rfl rfl rfl rfl ?_
    refine AOps.nil ?_
    refine AW.condT rfl ?_
    refine AW.seq ?_
    refine AW.region ?_
    refine AOps.run tok 4 _ _ _ _ rfl ?_
    refine AOps.nil ?_
    exact AW.ret rfl
  | false =>
  rw [if_neg (by simp)]
  rw [hbu, hU] at hus
  refine APre.run tok 4 _ _ _ _ rfl ?_
  refine APre.nil ?_
  refine AOps.run tok 1 _ _ _ _ rfl ?_
  refine AOps.nil ?_
  refine AW.seq ?_
  refine AW.seq ?_
  refine AW.region ?_
  refine AOps.run tok 1 _ _ _ _ rfl ?_
  refine AOps.err tok rfl rfl rfl rfl rfl ?_
  refine AOps.nil ?_
  refine AW.condF rfl ?_
  refine AW.skip ?_
  refine AW.region ?_
  refine AOps.run tok 3 _ _ _ _ rfl ?_
  cases hca : anyR ci j with
  | true =>
    rw [hca] at hcs
    refine AOps.run tok 5 _ _ _ _ rfl ?_
    refine AOps.nil ?_
    refine AW.region ?_
    refine AOps.run tok 1 _ _ _ _ rfl ?_
    rw [wI64 (x := ((j + 1 : Nat) : Int) + 1) (by omega) (by omega)]
    refine AOps.run tok 1 _ _ _ _ rfl ?_
    refine AOps.nil ?_
    refine ⟨j + 1 + 1, ?_, ⟨hii, hus⟩, by omega⟩
    show _ = ([(6, .bx [dB false, dB false, dB false]), (8, .bx (barC q1 q2 q3 f (.sl 6 (VLs us)) (.sl 1 (IL sg)))), (10, .bx [dB (anyR br (j + 1 + 1)), dB o, dB (anyR ci (j + 1))]), (39, .d (.sl 1 (IL sg))), (40, .d (dI n)), (41, .d (dI (j + 1 + 1 : Nat)))] : St)
    rw [hcs]; rfl
  | false =>
    rw [hca] at hcs
    refine AOps.run tok 5 _ _ _ _ rfl ?_
    refine AOps.nil ?_
    refine AW.region ?_
    refine AOps.run tok 1 _ _ _ _ rfl ?_
    rw [wI64 (x := ((j + 1 : Nat) : Int) + 1) (by omega) (by omega)]
    refine AOps.run tok 1 _ _ _ _ rfl ?_
    refine AOps.nil ?_
    refine ⟨j + 1 + 1, ?_, ⟨hii, hus⟩, by omega⟩
    show _ = ([(6, .bx [dB false, dB false, dB false]), (8, .bx (barC q1 q2 q3 f (.sl 6 (VLs us)) (.sl 1 (IL sg)))), (10, .bx [dB (anyR br (j + 1 + 1)), dB o, dB (anyR ci (j + 1))]), (39, .d (.sl 1 (IL sg))), (40, .d (dI n)), (41, .d (dI (j + 1 + 1 : Nat)))] : St)
    rw [hcs]; rfl
end Lift
namespace Lift
open Go
open Go.RowKit (Below)
section
variable {P : Program} {T : Ty} {B : Nat} {F0 : Nat → Prop} {w0 : Bas} {n d : Nat} {o : Oper} {σ : St} {K : St → Prop} {all : Array Oper} {rest : List Oper} {lk hm : Nat → Option AV}
def isBoolT (P : Program) (t : TypeId) : Bool := match P.underlying t with
  | some .bool => true
  | _ => false
theorem isBoolT_ok {t : TypeId} (h : isBoolT P t = true) : P.underlying t = some .bool := by
  unfold isBoolT at h
  split at h
  · assumption
  · cases h
def bool3B (P : Program) (t : TypeId) : Bool := (match P.underlying t with
  | some (.struct fs) => match fs.toList with
    | [f, g, h] => isBoolT P f.type && (isBoolT P g.type && (isBoolT P h.type && (Nat.beq f.offset 0 && (Nat.beq g.offset 1 && (Nat.beq h.offset 2 && (f.name != "_" && (g.name != "_" && h.name != "_")))))))
    | _ => false
  | _ => false) && (!P.eqGuardType P.depth t && !P.stoodInHeld t)
theorem part_bool {w : World} {t : TypeId} (ht : P.underlying t = some .bool) {cs : Array Value} {i : Nat} {v : Value} (h : cs[i]? = some v) : (part t cs i).run P w = .ok v w := by
  simp [part, isAgg, run_underlying ht, h]
theorem equal3 {w : World} {t : TypeId} (h : bool3B P t = true) (a b c x y z : Bool) : (Op.equalIn 10000 t (.agg #[.bool a, .bool b, .bool c]) (.agg #[.bool x, .bool y, .bool z])).run P w = .ok (a == x && (b == y && c == z)) w := by
  unfold bool3B at h
  rw [Bool.and_eq_true, Bool.and_eq_true, Bool.not_eq_true', Bool.not_eq_true'] at h
  obtain ⟨h1, h2, h3⟩ := h
  split at h1
  rotate_left
  · cases h1
  rename_i fs hfs
  split at h1
  rotate_left
  · cases h1
  rename_i f g h hl
  simp only [Bool.and_eq_true, bne_iff_ne, ne_eq] at h1
  obtain ⟨b1, b2, b3, o1, o2, o3, n1, n2, n3⟩ := h1
  have b1 := isBoolT_ok b1
  have b2 := isBoolT_ok b2
  have b3 := isBoolT_ok b3
  have o1 := Nat.eq_of_beq_eq_true o1
  have o2 := Nat.eq_of_beq_eq_true o2
  have o3 := Nat.eq_of_beq_eq_true o3
  have hF : P.fieldsOf t = fs := by unfold Program.fieldsOf; rw [hfs]
  rw [show (10000 : Nat) = 9999 + 1 from rfl, run_equalIn_struct w 9999 t _ _ (by rw [hF]; exact hfs) h3, hF, hl]
  have p1 : ∀ u v x : Value, (part f.type #[u, v, x] f.offset).run P w = .ok u w := fun u v x => part_bool b1 (by rw [o1]; rfl)
  have p2 : ∀ u v x : Value, (part g.type #[u, v, x] g.offset).run P w = .ok v w := fun u v x => part_bool b2 (by rw [o2]; rfl)
  have p3 : ∀ u v x : Value, (part h.type #[u, v, x] h.offset).run P w = .ok x w := fun u v x => part_bool b3 (by rw [o3]; rfl)
  have q1 := fun u v => equalIn_bool (w := w) b1 9998 (x := u) (y := v)
  have q2 := fun u v => equalIn_bool (w := w) b2 9998 (x := u) (y := v)
  have q3 := fun u v => equalIn_bool (w := w) b3 9998 (x := u) (y := v)
  simp only [Nat.reduceAdd] at q1 q2 q3
  have e : (Op.eqFields 9999 #[.bool a, .bool b, .bool c] #[.bool x, .bool y, .bool z] [f, g, h]).run P w = .ok (if (!(a == x)) = true then false else if (!(b == y)) = true then false else if (!(c == z)) = true then false else true) w := by
    simp only [Op.eqFields, ne_eq, n1, n2, n3, not_false_eq_true, if_true, Sem.run_bind, p1, Result.andThen_ok, q1]
    cases a == x
    · rfl
    simp only [Bool.not_true, Bool.false_eq_true, if_false, Sem.run_bind, p2, Result.andThen_ok, q2]
    cases b == y
    · rfl
    simp only [Bool.not_true, Bool.false_eq_true, if_false, Sem.run_bind, p3, Result.andThen_ok, q3]
    cases c == z <;> rfl
  rw [e]
  cases a == x <;> cases b == y <;> cases c == z <;> rfl
def b3D : D → Option (Bool × Bool × Bool)
  | .ag [.v (.bool a), .v (.bool b), .v (.bool c)] => some (a, b, c)
  | _ => none
def seF3 (T : Ty) (lk : Nat → Option AV) : Op → Option (TypeId × Bool × (Bool × Bool × Bool) × (Bool × Bool × Bool))
  | .binOp op t x y _ => match datF T (ex T lk 0 x), datF T (ex T lk 0 y) with
    | some a, some b => match b3D a, b3D b with
      | some p, some q => match op with
        | .eql => some (t, true, p, q)
        | .neq => some (t, false, p, q)
        | _ => none
      | _, _ => none
    | _, _ => none
  | _ => none
theorem b3D_ok {w : World} {F : Nat → Prop} {a : D} {v : Value} {p : Bool × Bool × Bool} (h : Rd w F a v) (hp : b3D a = some p) : v = .agg #[.bool p.1, .bool p.2.1, .bool p.2.2] := by
  unfold b3D at hp
  split at hp
  · rename_i x y z
    simp at hp
    subst hp
    obtain ⟨vs, rfl, hl⟩ := h.ag_eq
    have e0 := hl.1
    rcases vs with _ | ⟨v0, _ | ⟨v1, _ | ⟨v2, _ | ⟨v3, r⟩⟩⟩⟩ <;> simp at e0
    have r0 := (hl.2 0 _ v0 rfl rfl).2
    have r1 := (hl.2 1 _ v1 rfl rfl).2
    have r2 := (hl.2 2 _ v2 rfl rfl).2
    rw [r0.v_eq.1, r1.v_eq.1, r2.v_eq.1]
  · cases hp
theorem PStep.se3 (hT : TOk P T) {t : TypeId} {q : Bool} {a b : Bool × Bool × Bool} (hd : o.dst = some d) (hn : hm d = none) (hx : seF3 T lk o.op = some (t, q, a, b)) (hB : bool3B P t = true) : PStep P B F0 w0 d o lk hm (.d (.v (.bool ((a == b) == q)))) := by
  refine ⟨hd, hn, fun ac w O hI K Q hK => ?_⟩
  obtain ⟨dst, op, ty, pos, after, guard⟩ := o
  simp only [] at hd hx hI
  cases op <;> simp only [seF3] at hx <;> try (cases hx; done)
  rename_i bop t' u v ty2
  split at hx <;> try (cases hx; done)
  rename_i a1 b1 hu hv
  split at hx <;> try (cases hx; done)
  rename_i p q' hp hq
  have hu := b3D_ok (datF_ex hT hI (fun t ht => by subst ht; simp [Op.operands]) hu) hp
  have hv := b3D_ok (datF_ex hT hI (fun t ht => by subst ht; simp [Op.operands]) hv) hq
  have hm' : P.eqGuardType P.depth t = false := by
    unfold bool3B at hB
    rw [Bool.and_eq_true, Bool.and_eq_true, Bool.not_eq_true', Bool.not_eq_true'] at hB
    exact hB.2.1
  obtain ⟨p1, p2, p3⟩ := p
  obtain ⟨q1, q2, q3⟩ := q'
  simp only [] at hu hv
  have hpq : (p1 == q1 && (p2 == q2 && p3 == q3)) = ((p1, p2, p3) == (q1, q2, q3)) := rfl
  split at hx <;> simp at hx
  · obtain ⟨rfl, rfl, rfl, rfl⟩ := hx
    have hg := run_eqGuard_agg (P := P) (w := w) .eql t' u v #[.bool p1, .bool p2, .bool p3] #[.bool q1, .bool q2, .bool q3] hm'
    refine wp_val (v := .bool (((p1, p2, p3) == (q1, q2, q3)) == true)) (w' := w) ?_ (hK _ w O (Grow.refl hI.lt) (.v rfl))
    simp only [execOp, Sem.run_bind]
    rw [hu, hv, hg, Result.andThen_ok, run_eql_struct, equal3 hB, hpq]
    simp
  · obtain ⟨rfl, rfl, rfl, rfl⟩ := hx
    have hg := run_eqGuard_agg (P := P) (w := w) .neq t' u v #[.bool p1, .bool p2, .bool p3] #[.bool q1, .bool q2, .bool q3] hm'
    refine wp_val (v := .bool (((p1, p2, p3) == (q1, q2, q3)) == false)) (w' := w) ?_ (hK _ w O (Grow.refl hI.lt) (.v rfl))
    simp only [execOp, Sem.run_bind]
    rw [hu, hv, hg, Result.andThen_ok, run_neq_struct, equal3 hB, hpq]
    cases (p1, p2, p3) == (q1, q2, q3) <;> simp
theorem AOps.se3 (hT : TOk P T) {t : TypeId} {q : Bool} {a b : Bool × Bool × Bool} (hd : o.dst = some d) (hdn : Nat.ble (d + 1) n = true) (hg : guardOk all σ o = true) (hx : seF3 T σ.get o.op = some (t, q, a, b)) (hB : bool3B P t = true)
    (h : AOps P B F0 w0 n all rest K ((d, .d (.v (.bool ((a == b) == q)))) :: σ)) : AOps P B F0 w0 n all (o :: rest) K σ := AOps.pure hg hdn (PStep.se3 hT hd (hmx_self σ d) hx hB) h
end
end Lift
namespace Lift
open Go Go.Proofs
theorem ext_getI {a b : List Int} (h : a.length = b.length) (hk : ∀ k, k < a.length → a.getD k 0 = b.getD k 0) : a = b := by
  refine List.ext_getElem h fun i h1 h2 => ?_
  have := hk i h1
  rwa [List.getD_eq_getElem?_getD, List.getElem?_eq_getElem h1, List.getD_eq_getElem?_getD, List.getElem?_eq_getElem h2] at this
abbrev IsD (l : List Int) : D := .sl 1 (IL l)
set_option maxHeartbeats 800000 in
theorem base_Ints_ok (a b : List Int) (ha : a.length ≤ 1000000) : Pure Tryz.prog 15 [IsD a, IsD b] (dB (decide (a = b))) := by
  refine Pure.intro (n := 26) tok Tryz.func15 rfl rfl rfl (Nat.le_of_ble_eq_true rfl) (by kernel_rfl) (fun B F0 w0 => ?_)
  refine AW.seq ?_
  refine AW.region ?_
  refine AOps.run tok 1 _ _ _ _ rfl ?_
  refine AOps.nil ?_
  refine AW.seq ?_
  refine AW.seq ?_
  refine AW.region ?_
  refine AOps.run tok 5 _ _ _ _ rfl ?_
  rw [List.length_map, List.length_map]
  refine AOps.nil ?_
  refine AW.cond rfl (fun h => ?_) (fun h => ?_)
  · have hne : a ≠ b := by rintro rfl; simp at h
    rw [decide_eq_false hne]
    refine AW.seq ?_
    refine AW.region ?_
    refine AOps.run tok 1 _ _ _ _ rfl ?_
    refine AOps.nil ?_
    exact AW.ret rfl
  have hlen : a.length = b.length := by
    have : (a.length : Int) = b.length := by simpa using h
    omega
  refine AW.skip ?_
  refine AW.seq ?_
  refine AW.seq ?_
  refine AW.region ?_
  refine AOps.run tok 1 _ _ _ _ rfl ?_
  refine AOps.nil ?_
  refine AW.block ?_
  refine AW.loopS [0, 1, 5] (fun i : Nat => [(0, .d (IsD a)), (1, .d (IsD b)), (5, .d (dI i))]) (fun i => i ≤ a.length ∧ ∀ k, k < i → a.getD k 0 = b.getD k 0) (fun i => a.length - i) 0 rfl ⟨Nat.zero_le _, fun k hk => by omega⟩ (fun i ⟨hi, hI⟩ => ?_)
  refine AW.seq ?_
  refine AW.seq ?_
  refine AW.region ?_
  refine AOps.run tok 4 _ _ _ _ rfl ?_
  rw [List.length_map]
  refine AOps.nil ?_
  refine AW.cond rfl (fun h => ?_) (fun h => ?_)
  · have hin : i < a.length := by have := of_decide_eq_true h; omega
    refine AW.skip ?_
    refine AW.seq ?_
    refine AW.block ?_
    refine AW.seq ?_
    refine AW.draw hmix 9 (by kernel_rfl) ?_
    refine APre.run tok 2 _ _ _ _ rfl ?_
    refine APre.idx tok (dI (a.getD i 0)) rfl rfl rfl rfl rfl (Int.natCast_nonneg i) (getI hin) ?_
    refine APre.run tok 3 _ _ _ _ rfl ?_
    refine APre.idx tok (dI (b.getD i 0)) rfl rfl rfl rfl rfl (Int.natCast_nonneg i) (getI (by omega)) ?_
    refine APre.run tok 2 _ _ _ _ rfl ?_
    refine APre.nil ?_
    refine AOps.nil ?_
    refine AW.cond rfl (fun h => ?_) (fun h => ?_)
    · have hne : a ≠ b := by rintro rfl; simp at h
      rw [decide_eq_false hne]
      refine AW.seq ?_
      refine AW.region ?_
      refine AOps.run tok 1 _ _ _ _ rfl ?_
      refine AOps.nil ?_
      exact AW.ret rfl
    · have he : a.getD i 0 = b.getD i 0 := by simpa using h
      refine AW.skip ?_
      refine AW.region ?_
      refine AOps.run tok 3 _ _ _ _ rfl ?_
      rw [wI64 (x := (i : Int) + 1) (by omega) (by omega)]
      refine AOps.nil ?_
      refine ⟨i + 1, rfl, ⟨hin, fun k hk => ?_⟩, by omega⟩
      rcases Nat.lt_or_ge k i with e | e
      · exact hI k e
      · rw [show k = i by omega]; exact he
  have hin : ¬ i < a.length := by have := of_decide_eq_false h; omega
  have hab : a = b := ext_getI hlen (fun k hk => hI k (by omega))
  rw [decide_eq_true hab]
  refine AW.exit ?_
  refine AW.seq ?_
  refine AW.region ?_
  refine AOps.run tok 1 _ _ _ _ rfl ?_
  refine AOps.nil ?_
  exact AW.ret rfl
theorem law50_of_ok (x y : Int) (hx : -100 ≤ x ∧ x ≤ 100) (hy : -100 ≤ y ∧ y ≤ 100) : Pure Tryz.prog 76 [dI x, dI y] (VQ ((x : Rat), (y : Rat))).D := by
  refine Pure.intro (n := 10) tok Tryz.func76 rfl rfl rfl (Nat.le_of_ble_eq_true rfl) (by kernel_rfl) (fun B F0 w0 => ?_)
  have c1 := r02_Of_ok x (by omega) (by omega)
  have c2 := r02_Of_ok y (by omega) (by omega)
  refine AW.seq ?_
  refine AW.region ?_
  refine AOps.run tok 1 _ _ _ _ rfl ?_
  refine AOps.nil ?_
  refine AW.seq ?_
  refine AW.region ?_
  refine AOps.run tok 1 _ _ _ _ rfl ?_
  refine AOps.call tok rfl rfl rfl rfl c1 ?_
  refine AOps.run tok 1 _ _ _ _ rfl ?_
  refine AOps.call tok rfl rfl rfl rfl c2 ?_
  refine AOps.run tok 2 _ _ _ _ rfl ?_
  refine AOps.nil ?_
  exact AW.ret rfl
def shR (m : Nat) (r : RD) : Bool := decide (r.n.length ≤ m) && decide (r.d.length ≤ m)
def briefB (d : DyD) : Bool := d.rs.all (shR 6)
theorem all_noS {l : List RD} {m i : Nat} (hi : i < l.length) (h : shR m (l.getD i default) = false) : l.all (shR m) = false := by
  rw [List.all_eq_false]
  exact ⟨l.getD i default, by rw [List.getD_eq_getElem?_getD, List.getElem?_eq_getElem hi]; exact List.getElem_mem hi, by rw [h]; simp⟩
theorem all_yesS {l : List RD} {m : Nat} (h : ∀ i, i < l.length → shR m (l.getD i default) = true) : l.all (shR m) = true := by
  rw [List.all_eq_true]
  intro x hx
  obtain ⟨i, hi, rfl⟩ := List.mem_iff_getElem.1 hx
  have := h i hi
  rwa [List.getD_eq_getElem?_getD, List.getElem?_eq_getElem hi] at this
set_option maxHeartbeats 800000 in
theorem law50_brief_ok (d : DyD) : Pure Tryz.prog 38 [d.D] (dB (briefB d)) := by
  refine Pure.intro (n := 36) tok Tryz.func38 rfl rfl rfl (Nat.le_of_ble_eq_true rfl) (by kernel_rfl) (fun B F0 w0 => ?_)
  unfold briefB
  have hno := fun i hi => all_noS (l := d.rs) (m := 6) (i := i) hi
  have hyes := all_yesS (l := d.rs) (m := 6)
  have hr : d.rs.map RD.D = [d.c.x.D, d.c.y.D, d.m.x.D, d.m.y.D, d.r.D] := rfl
  have hrl : d.rs.length = 5 := rfl
  have hg0 := fun i hi => getM RD.D (l := d.rs) (i := i) hi
  generalize d.rs.all (shR 6) = E at hno hyes ⊢
  generalize d.rs = L at hno hyes hr hrl hg0
  obtain ⟨⟨x, y⟩, ⟨mx, my⟩, r⟩ := d
  rw [hr] at hg0
  refine AW.seq ?_
  refine AW.region ?_
  refine AOps.run tok 2 _ _ _ _ rfl ?_
  refine AOps.nil ?_
  refine AW.seq ?_
  refine AW.seq ?_
  refine AW.region ?_
  refine AOps.run tok 14 _ _ _ _ rfl ?_
  refine AOps.bsd tok rfl rfl rfl rfl rfl ?_
  refine AOps.run tok 2 _ _ _ _ rfl ?_
  refine AOps.nil ?_
  refine AW.block ?_
  refine AW.loopS [19, 20, 21] (fun i : Nat => [(19, .d (.sl 3 [x.D, y.D, mx.D, my.D, r.D])), (20, .d (dI 5)), (21, .d (dI i))]) (fun i => i ≤ 5 ∧ ∀ j, j < i → shR 6 (L.getD j default) = true) (fun i => 5 - i) 0 rfl ⟨Nat.zero_le _, fun j h => by omega⟩ (fun i ⟨hi, hI⟩ => ?_)
  refine AW.seq ?_
  refine AW.region ?_
  refine AOps.run tok 1 _ _ _ _ rfl ?_
  refine AOps.nil ?_
  refine AW.seq ?_
  refine AW.cond rfl (fun h => ?_) (fun h => ?_)
  rotate_left
  · have hii : i = 5 := by have := of_decide_eq_false h; omega
    subst hii
    rw [hyes (fun j hj => hI j (by omega))]
    refine AW.exit ?_
    refine AW.seq ?_
    refine AW.region ?_
    refine AOps.run tok 1 _ _ _ _ rfl ?_
    refine AOps.nil ?_
    exact AW.ret rfl
  have hii : i < 5 := by have := of_decide_eq_true h; omega
  have hg := hg0 i (by omega)
  have hno := hno i (by omega)
  have hsh : shR 6 (L.getD i default) = (decide ((L.getD i default).n.length ≤ 6) && decide ((L.getD i default).d.length ≤ 6)) := rfl
  obtain ⟨q, hq⟩ : ∃ q, q = L.getD i default := ⟨_, rfl⟩
  rw [← hq] at hg hno hsh
  obtain ⟨qg, qn, qd⟩ := q
  simp only [] at hsh
  refine AW.skip ?_
  refine AW.seq ?_
  refine AW.block ?_
  refine AW.seq ?_
  refine AW.region ?_
  refine AOps.idx tok (RD.mk qg qn qd).D rfl rfl rfl rfl (Int.natCast_nonneg i) hg ?_
  refine AOps.run tok 3 _ _ _ _ rfl ?_
  refine AOps.nil ?_
  refine AW.seq ?_
  refine AW.region ?_
  refine AOps.run tok 3 _ _ _ _ rfl ?_
  rw [lenWd]
  refine AOps.run tok 2 _ _ _ _ rfl ?_
  by_cases h1 : qn.length ≤ 6
  rotate_left
  · rw [decide_eq_true (show (6 : Int) < (qn.length : Int) by omega)]
    rw [decide_eq_false h1] at hsh
    rw [hno hsh]
    refine AOps.run tok 5 _ _ _ _ rfl ?_
    refine AOps.nil ?_
    refine AW.condT rfl ?_
    refine AW.seq ?_
    refine AW.region ?_
    refine AOps.run tok 1 _ _ _ _ rfl ?_
    refine AOps.nil ?_
    exact AW.ret rfl
  rw [decide_eq_false (show ¬ (6 : Int) < (qn.length : Int) by omega)]
  refine AOps.run tok 3 _ _ _ _ rfl ?_
  rw [lenWd]
  refine AOps.run tok 1 _ _ _ _ rfl ?_
  by_cases h2 : qd.length ≤ 6
  rotate_left
  · rw [decide_eq_true (show (6 : Int) < (qd.length : Int) by omega)]
    rw [decide_eq_false h2, Bool.and_false] at hsh
    rw [hno hsh]
    refine AOps.run tok 1 _ _ _ _ rfl ?_
    refine AOps.nil ?_
    refine AW.condT rfl ?_
    refine AW.seq ?_
    refine AW.region ?_
    refine AOps.run tok 1 _ _ _ _ rfl ?_
    refine AOps.nil ?_
    exact AW.ret rfl
  rw [decide_eq_false (show ¬ (6 : Int) < (qd.length : Int) by omega)]
  refine AOps.run tok 1 _ _ _ _ rfl ?_
  refine AOps.nil ?_
  refine AW.condF rfl ?_
  refine AW.skip ?_
  refine AW.region ?_
  refine AOps.run tok 1 _ _ _ _ rfl ?_
  rw [wI64 (x := (i : Int) + 1) (by omega) (by omega)]
  refine AOps.run tok 1 _ _ _ _ rfl ?_
  refine AOps.nil ?_
  refine ⟨i + 1, rfl, ⟨hii, fun j hj => ?_⟩, by omega⟩
  by_cases e : j = i
  · rw [e, ← hq]; show (decide (qn.length ≤ 6) && decide (qd.length ≤ 6)) = true; rw [decide_eq_true h1, decide_eq_true h2]; rfl
  · exact hI j (by omega)
end Lift
namespace Lift
open Go Go.Proofs
def PoD.rs (p : PoD) : List RD := [p.t.t, p.l.x, p.l.y]
def shP (p : PoD) : Bool := p.rs.all (shR 2)
def short17 (l : List PoD) : Bool := l.all shP
theorem short17_no {l : List PoD} {i : Nat} (hi : i < l.length) (h : shP (l.getD i default) = false) : short17 l = false := by
  unfold short17
  rw [List.all_eq_false]
  exact ⟨l.getD i default, by rw [List.getD_eq_getElem?_getD, List.getElem?_eq_getElem hi]; exact List.getElem_mem hi, by rw [h]; simp⟩
theorem short17_yes {l : List PoD} (h : ∀ i, i < l.length → shP (l.getD i default) = true) : short17 l = true := by
  unfold short17
  rw [List.all_eq_true]
  intro x hx
  obtain ⟨i, hi, rfl⟩ := List.mem_iff_getElem.1 hx
  have := h i hi
  rwa [List.getD_eq_getElem?_getD, List.getElem?_eq_getElem hi] at this
set_option maxHeartbeats 1600000 in
theorem r17_Short_ok (l : List PoD) (hl : l.length ≤ 4611686018427387904) : Pure Tryz.prog 33 [PoL l] (dB (short17 l)) := by
  refine Pure.intro (n := 40) tok Tryz.func33 rfl rfl rfl (Nat.le_of_ble_eq_true rfl) (by kernel_rfl) (fun B F0 w0 => ?_)
  have hno := fun i hi => short17_no (l := l) (i := i) hi
  have hyes := short17_yes (l := l)
  generalize short17 l = E at hno hyes ⊢
  refine AW.seq ?_
  refine AW.region ?_
  refine AOps.run tok 1 _ _ _ _ rfl ?_
  refine AOps.nil ?_
  refine AW.seq ?_
  refine AW.seq ?_
  refine AW.region ?_
  refine AOps.run tok 2 _ _ _ _ rfl ?_
  rw [List.length_map]
  refine AOps.run tok 1 _ _ _ _ rfl ?_
  refine AOps.nil ?_
  refine AW.block ?_
  refine AW.loopS [7, 8, 9] (fun i : Nat => [(7, .d (PoL l)), (8, .d (dI l.length)), (9, .d (dI i))]) (fun i => i ≤ l.length ∧ ∀ j, j < i → shP (l.getD j default) = true) (fun i => l.length - i) 0 rfl ⟨Nat.zero_le _, fun j h => by omega⟩ (fun i ⟨hi, hI⟩ => ?_)
  refine AW.seq ?_
  refine AW.region ?_
  refine AOps.run tok 1 _ _ _ _ rfl ?_
  refine AOps.nil ?_
  refine AW.seq ?_
  refine AW.cond rfl (fun h => ?_) (fun h => ?_)
  rotate_left
  · have hii : ¬ i < l.length := by have := of_decide_eq_false h; omega
    rw [hyes (fun j hj => hI j (by omega))]
    refine AW.exit ?_
    refine AW.seq ?_
    refine AW.region ?_
    refine AOps.run tok 1 _ _ _ _ rfl ?_
    refine AOps.nil ?_
    exact AW.ret rfl
  have hii : i < l.length := by have := of_decide_eq_true h; omega
  have hg := getM PoD.D (l := l) (i := i) hii
  have hnoi := hno i hii
  have hsP : shP (l.getD i default) = (l.getD i default).rs.all (shR 2) := rfl
  have hrs : ∀ p : PoD, p.rs.map RD.D = [p.t.t.D, p.l.x.D, p.l.y.D] := fun _ => rfl
  have hrl : ∀ p : PoD, p.rs.length = 3 := fun _ => rfl
  have hg0 := fun j hj => getM RD.D (l := (l.getD i default).rs) (i := j) hj
  have hn2 := fun j hj => all_noS (l := (l.getD i default).rs) (m := 2) (i := j) hj
  have hy2 := all_yesS (l := (l.getD i default).rs) (m := 2)
  rw [hrs] at hg0
  have hrl := hrl (l.getD i default)
  obtain ⟨p, hp⟩ : ∃ p, p = l.getD i default := ⟨_, rfl⟩
  rw [← hp] at hg hnoi hsP hg0 hn2 hy2 hrl
  rw [hsP] at hnoi
  generalize p.rs.all (shR 2) = e at hnoi hsP hn2 hy2
  generalize p.rs = L at hg0 hn2 hy2 hrl
  obtain ⟨⟨t, hf⟩, ⟨x, y⟩⟩ := p
  refine AW.skip ?_
  refine AW.seq ?_
  refine AW.block ?_
  refine AW.seq ?_
  refine AW.region ?_
  refine AOps.idx tok (PoD.mk ⟨t, hf⟩ ⟨x, y⟩).D rfl rfl rfl rfl (Int.natCast_nonneg i) hg ?_
  refine AOps.run tok 3 _ _ _ _ rfl ?_
  refine AOps.nil ?_
  refine AW.seq ?_
  refine AW.region ?_
  refine AOps.run tok 9 _ _ _ _ rfl ?_
  refine AOps.bsd tok rfl rfl rfl rfl rfl ?_
  refine AOps.run tok 2 _ _ _ _ rfl ?_
  refine AOps.nil ?_
  refine AW.block ?_
  refine AW.loopS [7, 8, 9, 22, 23, 24] (fun j : Nat => [(7, .d (PoL l)), (8, .d (dI l.length)), (9, .d (dI i)), (22, .d (.sl 3 [t.D, x.D, y.D])), (23, .d (dI 3)), (24, .d (dI j))]) (fun j => j ≤ 3 ∧ ∀ m, m < j → shR 2 (L.getD m default) = true) (fun j => 3 - j) 0 rfl ⟨Nat.zero_le _, fun m h => by omega⟩ (fun j ⟨hj, hJ⟩ => ?_)
  refine AW.seq ?_
  refine AW.region ?_
  refine AOps.run tok 1 _ _ _ _ rfl ?_
  refine AOps.nil ?_
  refine AW.seq ?_
  refine AW.cond rfl (fun h2 => ?_) (fun h2 => ?_)
  rotate_left
  · have hjj : j = 3 := by have := of_decide_eq_false h2; omega
    subst hjj
    have he := hy2 (fun m hm => hJ m (by omega))
    refine AW.exit ?_
    refine AW.region ?_
    refine AOps.run tok 1 _ _ _ _ rfl ?_
    rw [wI64 (x := (i : Int) + 1) (by omega) (by omega)]
    refine AOps.run tok 1 _ _ _ _ rfl ?_
    refine AOps.nil ?_
    refine ⟨i + 1, rfl, ⟨hii, fun m hm => ?_⟩, by omega⟩
    by_cases e1 : m = i
    · rw [e1, ← hp, hsP, he]
    · exact hI m (by omega)
  have hjj : j < 3 := by have := of_decide_eq_true h2; omega
  have hg2 := hg0 j (by omega)
  have hn2 := hn2 j (by omega)
  have hsh : shR 2 (L.getD j default) = (decide ((L.getD j default).n.length ≤ 2) && decide ((L.getD j default).d.length ≤ 2)) := rfl
  obtain ⟨q, hq⟩ : ∃ q, q = L.getD j default := ⟨_, rfl⟩
  rw [← hq] at hg2 hn2 hsh
  obtain ⟨qg, qn, qd⟩ := q
  simp only [] at hsh
  refine AW.skip ?_
  refine AW.seq ?_
  refine AW.block ?_
  refine AW.seq ?_
  refine AW.region ?_
  refine AOps.idx tok (RD.mk qg qn qd).D rfl rfl rfl rfl (Int.natCast_nonneg j) hg2 ?_
  refine AOps.run tok 3 _ _ _ _ rfl ?_
  refine AOps.nil ?_
  refine AW.seq ?_
  refine AW.region ?_
  refine AOps.run tok 3 _ _ _ _ rfl ?_
  rw [lenWd]
  refine AOps.run tok 2 _ _ _ _ rfl ?_
  by_cases h1 : qn.length ≤ 2
  rotate_left
  · rw [decide_eq_true (show (2 : Int) < (qn.length : Int) by omega)]
    rw [decide_eq_false h1] at hsh
    rw [hnoi (hn2 hsh)]
    refine AOps.run tok 5 _ _ _ _ rfl ?_
    refine AOps.nil ?_
    refine AW.condT rfl ?_
    refine AW.seq ?_
    refine AW.region ?_
    refine AOps.run tok 1 _ _ _ _ rfl ?_
    refine AOps.nil ?_
    exact AW.ret rfl
  rw [decide_eq_false (show ¬ (2 : Int) < (qn.length : Int) by omega)]
  refine AOps.run tok 3 _ _ _ _ rfl ?_
  rw [lenWd]
  refine AOps.run tok 1 _ _ _ _ rfl ?_
  by_cases h3 : qd.length ≤ 2
  rotate_left
  · rw [decide_eq_true (show (2 : Int) < (qd.length : Int) by omega)]
    rw [decide_eq_false h3, Bool.and_false] at hsh
    rw [hnoi (hn2 hsh)]
    refine AOps.run tok 1 _ _ _ _ rfl ?_
    refine AOps.nil ?_
    refine AW.condT rfl ?_
    refine AW.seq ?_
    refine AW.region ?_
    refine AOps.run tok 1 _ _ _ _ rfl ?_
    refine AOps.nil ?_
    exact AW.ret rfl
  rw [decide_eq_false (show ¬ (2 : Int) < (qd.length : Int) by omega)]
  refine AOps.run tok 1 _ _ _ _ rfl ?_
  refine AOps.nil ?_
  refine AW.condF rfl ?_
  refine AW.skip ?_
  refine AW.region ?_
  refine AOps.run tok 1 _ _ _ _ rfl ?_
  rw [wI64 (x := (j : Int) + 1) (by omega) (by omega)]
  refine AOps.run tok 1 _ _ _ _ rfl ?_
  refine AOps.nil ?_
  refine ⟨j + 1, rfl, ⟨hjj, fun m hm => ?_⟩, by omega⟩
  by_cases e1 : m = j
  · rw [e1, ← hq]; show (decide (qn.length ≤ 2) && decide (qd.length ≤ 2)) = true; rw [decide_eq_true h1, decide_eq_true h3]; rfl
  · exact hJ m (by omega)
end Lift
namespace Lift
open Go Go.Proofs
def exL : List PoD := [PoQ (some 0, (0, 0)), PoQ (some 0, (((1 : Int) : Rat), ((1 : Int) : Rat))), PoQ (some 0, (((2 : Int) : Rat), ((0 : Int) : Rat)))]
def exA : DyD := DyQ ((((1 : Int) : Rat), ((0 : Int) : Rat)), (0, 0), ((1 : Int) : Rat))
def exB : DyD := DyQ ((((5 : Int) : Rat), ((0 : Int) : Rat)), (((4 : Int) : Rat), ((0 : Int) : Rat)), ((1 : Int) : Rat))
theorem ex_chk : chkD exL exA exB = 0 := by decide +kernel
theorem ex_sg : (exL.map PoD.val).map (sgnF exA.val exB.val) = [0, -1, 0] := by decide +kernel
theorem ex_un : anyR (unB (rdB (exL.map PoD.val) exA.val exB.val)) ((rdB (exL.map PoD.val) exA.val exB.val).u.length - 1) = false := by decide +kernel
theorem ex_br : anyR (brB (rdB (exL.map PoD.val) exA.val exB.val).sg) (rdB (exL.map PoD.val) exA.val exB.val).sg.length = true := by decide +kernel
theorem ex_or : orderF (rdB (exL.map PoD.val) exA.val exB.val).u = false := by decide +kernel
theorem ex_ci : anyR (ciB (rdB (exL.map PoD.val) exA.val exB.val)) ((rdB (exL.map PoD.val) exA.val exB.val).u.length - 1) = true := by decide +kernel
theorem exL_D : PoL exL = .sl 10 [.ag [dB false, .sl 1 [], .sl 1 [], dB false, dB false, .sl 1 [], .sl 1 [], dB false, .sl 1 [], .sl 1 []], .ag [dB false, .sl 1 [], .sl 1 [], dB false, dB (Qr ((1 : Int) : Rat)).g, Wd (Qr ((1 : Int) : Rat)).n, Wd (Qr ((1 : Int) : Rat)).d, dB (Qr ((1 : Int) : Rat)).g, Wd (Qr ((1 : Int) : Rat)).n, Wd (Qr ((1 : Int) : Rat)).d], .ag [dB false, .sl 1 [], .sl 1 [], dB false, dB (Qr ((2 : Int) : Rat)).g, Wd (Qr ((2 : Int) : Rat)).n, Wd (Qr ((2 : Int) : Rat)).d, dB (Qr ((0 : Int) : Rat)).g, Wd (Qr ((0 : Int) : Rat)).n, Wd (Qr ((0 : Int) : Rat)).d]] := by
  show D.sl 10 [.ag [dB (Qr 0).g, Wd (Qr 0).n, Wd (Qr 0).d, dB false, dB (Qr 0).g, Wd (Qr 0).n, Wd (Qr 0).d, dB (Qr 0).g, Wd (Qr 0).n, Wd (Qr 0).d], .ag [dB (Qr 0).g, Wd (Qr 0).n, Wd (Qr 0).d, dB false, dB (Qr ((1 : Int) : Rat)).g, Wd (Qr ((1 : Int) : Rat)).n, Wd (Qr ((1 : Int) : Rat)).d, dB (Qr ((1 : Int) : Rat)).g, Wd (Qr ((1 : Int) : Rat)).n, Wd (Qr ((1 : Int) : Rat)).d], .ag [dB (Qr 0).g, Wd (Qr 0).n, Wd (Qr 0).d, dB false, dB (Qr ((2 : Int) : Rat)).g, Wd (Qr ((2 : Int) : Rat)).n, Wd (Qr ((2 : Int) : Rat)).d, dB (Qr ((0 : Int) : Rat)).g, Wd (Qr ((0 : Int) : Rat)).n, Wd (Qr ((0 : Int) : Rat)).d]] = _
  rw [Qr_zero]; rfl
theorem exA_D : exA.D = .ag [dB (Qr ((1 : Int) : Rat)).g, Wd (Qr ((1 : Int) : Rat)).n, Wd (Qr ((1 : Int) : Rat)).d, dB (Qr ((0 : Int) : Rat)).g, Wd (Qr ((0 : Int) : Rat)).n, Wd (Qr ((0 : Int) : Rat)).d, dB false, .sl 1 [], .sl 1 [], dB false, .sl 1 [], .sl 1 [], dB (Qr ((1 : Int) : Rat)).g, Wd (Qr ((1 : Int) : Rat)).n, Wd (Qr ((1 : Int) : Rat)).d] := by
  show D.ag [dB (Qr ((1 : Int) : Rat)).g, Wd (Qr ((1 : Int) : Rat)).n, Wd (Qr ((1 : Int) : Rat)).d, dB (Qr ((0 : Int) : Rat)).g, Wd (Qr ((0 : Int) : Rat)).n, Wd (Qr ((0 : Int) : Rat)).d, dB (Qr 0).g, Wd (Qr 0).n, Wd (Qr 0).d, dB (Qr 0).g, Wd (Qr 0).n, Wd (Qr 0).d, dB (Qr ((1 : Int) : Rat)).g, Wd (Qr ((1 : Int) : Rat)).n, Wd (Qr ((1 : Int) : Rat)).d] = _
  rw [Qr_zero]; rfl
abbrev ExD : D := .tu [PoL exL, exA.D, exB.D]
theorem law50_Example_ok : Pure Tryz.prog 37 [] ExD := by
  refine Pure.intro (n := 18) tok Tryz.func37 rfl rfl rfl (Nat.le_of_ble_eq_true rfl) (by kernel_rfl) (fun B F0 w0 => ?_)
  have o1 := r02_Of_ok 1 (by decide) (by decide)
  have c1 := law50_of_ok 1 1 (by decide) (by decide)
  have c2 := law50_of_ok 2 0 (by decide) (by decide)
  have c3 := law50_of_ok 1 0 (by decide) (by decide)
  have c4 := law50_of_ok 5 0 (by decide) (by decide)
  have c5 := law50_of_ok 4 0 (by decide) (by decide)
  refine AW.seq ?_
  refine AW.region ?_
  refine AOps.run tok 3 _ _ _ _ rfl ?_
  refine AOps.nil ?_
  refine AW.seq ?_
  refine AW.region ?_
  refine AOps.call tok rfl rfl rfl rfl o1 ?_
  refine AOps.run tok 2 _ _ _ _ rfl ?_
  refine AOps.nil ?_
  refine AW.seq ?_
  refine AW.draw3 tok hmix [(11, true), (2, false), (1, true)] 14 [1, 2] (by kernel_rfl) ⟨rfl, ?_⟩
  refine APre.run tok 1 _ _ _ _ rfl ?_
  refine APre.call tok rfl rfl rfl rfl rfl c1 ?_
  refine APre.run tok 1 _ _ _ _ rfl ?_
  refine APre.call tok rfl rfl rfl rfl rfl c2 ?_
  refine APre.run tok 1 _ _ _ _ rfl ?_
  refine APre.bsd tok rfl rfl rfl rfl rfl rfl ?_
  refine APre.call tok rfl rfl rfl rfl rfl c3 ?_
  refine APre.run tok 2 _ _ _ _ rfl ?_
  refine APre.call tok rfl rfl rfl rfl rfl c4 ?_
  refine APre.call tok rfl rfl rfl rfl rfl c5 ?_
  refine APre.nil ⟨rfl, ?_⟩
  refine APre.run tok 2 _ _ _ _ rfl ?_
  refine APre.nil ⟨rfl, ?_⟩
  refine APre.run tok 1 _ _ _ _ rfl ?_
  refine APre.nil ⟨_, StL.cons (.bx rfl) (StL.cons (.bx rfl) (StL.nil)), ?_⟩
  refine AOps.nil ?_
  unfold ExD
  rw [exL_D, exA_D]
  exact AW.ret rfl
end Lift
namespace Lift
open Go Go.Proofs
theorem LQ_i (n : Int) (h : -100 ≤ n ∧ n ≤ 100) : LQ (n : Rat) ≤ 2 := by
  have h1 := LQ_of n
  have h2 : L n ≤ 2 := L_le (by omega)
  omega
theorem exL_w : ∀ i, i < exL.length → (exL.getD i default).w 2 := fun i hi => by
  have z : LQ 0 ≤ 2 := by rw [LQ_zero]; decide
  have i0 := LQ_i 0 (by decide)
  have i1 := LQ_i 1 (by decide)
  have i2 := LQ_i 2 (by decide)
  have hi : i < 3 := hi
  rcases i with _ | _ | _ | i
  · exact ⟨Qr_w _ z, Qr_w _ z, Qr_w _ z⟩
  · exact ⟨Qr_w _ z, Qr_w _ i1, Qr_w _ i1⟩
  · exact ⟨Qr_w _ z, Qr_w _ i2, Qr_w _ i0⟩
  · omega
theorem exA_w : exA.w 2 := by
  have z : LQ 0 ≤ 2 := by rw [LQ_zero]; decide
  exact ⟨⟨Qr_w _ (LQ_i 1 (by decide)), Qr_w _ (LQ_i 0 (by decide))⟩, ⟨Qr_w _ z, Qr_w _ z⟩, Qr_w _ (LQ_i 1 (by decide))⟩
theorem exB_w : exB.w 2 := ⟨⟨Qr_w _ (LQ_i 5 (by decide)), Qr_w _ (LQ_i 0 (by decide))⟩, ⟨Qr_w _ (LQ_i 4 (by decide)), Qr_w _ (LQ_i 0 (by decide))⟩, Qr_w _ (LQ_i 1 (by decide))⟩
theorem ex_Signs : signsD exL exA exB = .tu [IsD [0, -1, 0], nilE] := by
  unfold signsD
  rw [if_pos ex_chk, ex_sg]
theorem ex_Report : reportD exL exA exB = .tu [DfD true false true, nilE] := by
  unfold reportD rptD
  rw [if_neg (by rw [ex_chk]; simp), ex_un, ex_br, ex_or, ex_ci, if_neg (by simp)]
theorem law50_awake_ok : Pure Tryz.prog 10 [] (dB true) := by
  refine Pure.intro (n := 43) tok Tryz.func10 rfl rfl rfl (Nat.le_of_ble_eq_true rfl) (by kernel_rfl) (fun B F0 w0 => ?_)
  have cE := law50_Example_ok
  have cS := defects_Signs_ok exL exA exB (k := 2) (show 3 ≤ 1000000 by decide) exL_w exA_w exB_w (by decide) (by decide)
  have cR := defects_Report_ok exL exA exB (k := 2) (show 3 ≤ 1000000 by decide) exL_w exA_w exB_w (by decide) (by decide)
  rw [ex_Signs] at cS
  rw [ex_Report] at cR
  have cI := base_Ints_ok [0, -1, 0] [0, -1, 0] (show 3 ≤ 1000000 by decide)
  rw [decide_eq_true rfl] at cI
  unfold ExD at cE
  generalize exL = l at cE cS cR
  generalize exA = d at cE cS cR
  generalize exB = e at cE cS cR
  refine AW.seq ?_
  refine AW.region ?_
  refine AOps.run tok 1 _ _ _ _ rfl ?_
  refine AOps.nil ?_
  refine AW.seq ?_
  refine AW.region ?_
  refine AOps.call tok rfl rfl rfl rfl cE ?_
  refine AOps.run tok 9 _ _ _ _ rfl ?_
  refine AOps.nil ?_
  refine AW.seq ?_
  refine AW.region ?_
  refine AOps.run tok 3 _ _ _ _ rfl ?_
  refine AOps.call tok rfl rfl rfl rfl cS ?_
  refine AOps.run tok 5 _ _ _ _ rfl ?_
  refine AOps.nil ?_
  refine AW.seq ?_
  refine AW.region ?_
  refine AOps.run tok 3 _ _ _ _ rfl ?_
  refine AOps.call tok rfl rfl rfl rfl cR ?_
  refine AOps.run tok 6 _ _ _ _ rfl ?_
  refine AOps.nil ?_
  refine AW.seq ?_
  refine AW.region ?_
  refine AOps.run tok 1 _ _ _ _ rfl ?_
  refine AOps.err tok rfl rfl rfl rfl rfl ?_
  refine AOps.run tok 2 _ _ _ _ rfl ?_
  refine AOps.err tok rfl rfl rfl rfl rfl ?_
  refine AOps.run tok 3 _ _ _ _ rfl ?_
  refine AOps.bsd tok rfl rfl rfl rfl rfl ?_
  refine AOps.call tok rfl rfl rfl rfl cI ?_
  refine AOps.run tok 4 _ _ _ _ rfl ?_
  refine AOps.se3 tok rfl rfl rfl rfl (by kernel_rfl) ?_
  refine AOps.run tok 2 _ _ _ _ rfl ?_
  refine AOps.nil ?_
  exact AW.ret rfl
abbrev FourD (d e : DyD) : D := .ag (d.D.flat ++ e.D.flat)
def shortB (l : List PoD) (d e : DyD) : Bool := decide (l.length ≤ 20) && (short17 l && (briefB d && briefB e))
theorem law50_short_ok (l : List PoD) (d e : DyD) (hl : l.length ≤ 4611686018427387904) : Pure Tryz.prog 11 [PoL l, FourD d e] (dB (shortB l d e)) := by
  refine Pure.intro (n := 22) tok Tryz.func11 rfl rfl rfl (Nat.le_of_ble_eq_true rfl) (by kernel_rfl) (fun B F0 w0 => ?_)
  have c1 := r17_Short_ok l hl
  have c2 := law50_brief_ok d
  have c3 := law50_brief_ok e
  unfold shortB
  generalize short17 l = s at c1 ⊢
  generalize briefB d = b1 at c2 ⊢
  generalize briefB e = b2 at c3 ⊢
  refine AW.seq ?_
  refine AW.region ?_
  refine AOps.run tok 2 _ _ _ _ rfl ?_
  refine AOps.nil ?_
  refine AW.seq ?_
  refine AW.region ?_
  refine AOps.run tok 2 _ _ _ _ rfl ?_
  rw [List.length_map]
  refine AOps.run tok 2 _ _ _ _ rfl ?_
  by_cases h : l.length ≤ 20
  rotate_left
  · rw [decide_eq_false h, decide_eq_false (show ¬ (l.length : Int) ≤ 20 by omega)]
    refine AOps.run tok 14 _ _ _ _ rfl ?_
    refine AOps.nil ?_
    exact AW.ret rfl
  rw [decide_eq_true h, decide_eq_true (show (l.length : Int) ≤ 20 by omega)]
  refine AOps.run tok 1 _ _ _ _ rfl ?_
  refine AOps.call tok rfl rfl rfl rfl c1 ?_
  refine AOps.run tok 2 _ _ _ _ rfl ?_
  cases s with
  | false =>
    refine AOps.run tok 10 _ _ _ _ rfl ?_
    refine AOps.nil ?_
    exact AW.ret rfl
  | true =>
  refine AOps.run tok 2 _ _ _ _ rfl ?_
  refine AOps.call tok rfl rfl rfl rfl c2 ?_
  refine AOps.run tok 2 _ _ _ _ rfl ?_
  cases b1 with
  | false =>
    refine AOps.run tok 5 _ _ _ _ rfl ?_
    refine AOps.nil ?_
    exact AW.ret rfl
  | true =>
  refine AOps.run tok 2 _ _ _ _ rfl ?_
  refine AOps.call tok rfl rfl rfl rfl c3 ?_
  refine AOps.run tok 2 _ _ _ _ rfl ?_
  refine AOps.nil ?_
  exact AW.ret rfl
end Lift
namespace Lift
open Go Go.Proofs
def barF (a : V2) : V2 := (a.1, -a.2)
end Lift
namespace Lift
open Go Go.Proofs
end Lift
namespace Lift
open Go Go.Proofs
end Lift
namespace Lift
open Go Go.Proofs
def ok50 (l : List PoD) (d e : DyD) : Prop := l.length ≤ 4611686018427387904 ∧ (∀ i, i < l.length → (l.getD i default).w 35184372087808) ∧ d.w 35184372087808 ∧ e.w 35184372087808
theorem shR_w {r : RD} {K m k : Nat} (h : r.w K) (hs : shR m r = true) (hk : m ≤ k) : r.w k := by
  unfold shR at hs
  rw [Bool.and_eq_true, decide_eq_true_iff, decide_eq_true_iff] at hs
  exact ⟨h.1, h.2.1, by omega, by omega⟩
theorem rs_get {l : List RD} {m : Nat} (h : l.all (shR m) = true) {r : RD} (hr : r ∈ l) : shR m r = true := by
  rw [List.all_eq_true] at h
  exact h r hr
theorem brief_w {d : DyD} {K : Nat} (h : d.w K) (hb : briefB d = true) : d.w 6 := by
  have h1 := rs_get hb (r := d.c.x) (by show _ ∈ [d.c.x, d.c.y, d.m.x, d.m.y, d.r]; simp)
  have h2 := rs_get hb (r := d.c.y) (by show _ ∈ [d.c.x, d.c.y, d.m.x, d.m.y, d.r]; simp)
  have h3 := rs_get hb (r := d.m.x) (by show _ ∈ [d.c.x, d.c.y, d.m.x, d.m.y, d.r]; simp)
  have h4 := rs_get hb (r := d.m.y) (by show _ ∈ [d.c.x, d.c.y, d.m.x, d.m.y, d.r]; simp)
  have h5 := rs_get hb (r := d.r) (by show _ ∈ [d.c.x, d.c.y, d.m.x, d.m.y, d.r]; simp)
  exact ⟨⟨shR_w h.1.1 h1 (Nat.le_refl _), shR_w h.1.2 h2 (Nat.le_refl _)⟩, ⟨shR_w h.2.1.1 h3 (Nat.le_refl _), shR_w h.2.1.2 h4 (Nat.le_refl _)⟩, shR_w h.2.2 h5 (Nat.le_refl _)⟩
theorem shP_w {p : PoD} {K : Nat} (h : p.w K) (hb : shP p = true) : p.w 6 := by
  have h1 := rs_get hb (r := p.t.t) (by show _ ∈ [p.t.t, p.l.x, p.l.y]; simp)
  have h2 := rs_get hb (r := p.l.x) (by show _ ∈ [p.t.t, p.l.x, p.l.y]; simp)
  have h3 := rs_get hb (r := p.l.y) (by show _ ∈ [p.t.t, p.l.x, p.l.y]; simp)
  exact ⟨shR_w h.1 h1 (by decide), shR_w h.2.1 h2 (by decide), shR_w h.2.2 h3 (by decide)⟩
theorem short_w {l : List PoD} {d e : DyD} (h : ok50 l d e) (hs : shortB l d e = true) : l.length ≤ 20 ∧ (∀ i, i < l.length → (l.getD i default).w 6) ∧ d.w 6 ∧ e.w 6 := by
  unfold shortB at hs
  rw [Bool.and_eq_true, Bool.and_eq_true, Bool.and_eq_true, decide_eq_true_iff] at hs
  obtain ⟨h1, h2, h3, h4⟩ := hs
  refine ⟨h1, fun i hi => ?_, brief_w h.2.2.1 h3, brief_w h.2.2.2 h4⟩
  refine shP_w (h.2.1 i hi) ?_
  unfold short17 at h2
  rw [List.all_eq_true] at h2
  refine h2 _ ?_
  rw [List.getD_eq_getElem?_getD, List.getElem?_eq_getElem hi]
  exact List.getElem_mem hi
end Lift
namespace Lift
open Go Go.Proofs
theorem u_turn4 : RT Tryz.prog 50 TD (fun a => a.D.flat) (fun a => a.t.w 35184372087808) := by
  have h := RT.struct (P := Tryz.prog) (t := 50) (m := 4) Tryz.underlying50 (by kernel_rfl) (RTF.cons (by kernel_rfl) u_rat4 (RTF.cons (by kernel_rfl) u_bool RTF.nil)) (fun v => rfl)
  exact h.map (fun v => ⟨v.1, v.2.1⟩) (fun v h => rfl) (fun v h => h.1) (fun v => ⟨by kernel_rfl, fun d hd => by
    simp only [D.flat, List.mem_cons, List.mem_nil_iff, or_false] at hd
    rcases hd with rfl | rfl | rfl | rfl <;> rfl⟩)
theorem u_place4 : RT Tryz.prog 27 PD (fun a => a.D.flat) (fun a => a.w 35184372087808) := by
  have h := RT.struct (P := Tryz.prog) (t := 27) (m := 6) Tryz.underlying27 (by kernel_rfl) (RTF.cons (by kernel_rfl) u_rat4 (RTF.cons (by kernel_rfl) u_rat4 RTF.nil)) (fun v => rfl)
  exact h.map (fun v => ⟨v.1, v.2.1⟩) (fun v h => rfl) (fun v h => ⟨h.1, h.2.1⟩) (fun v => ⟨by kernel_rfl, fun d hd => by
    simp only [D.flat, List.mem_cons, List.mem_nil_iff, or_false] at hd
    rcases hd with rfl | rfl | rfl | rfl | rfl | rfl <;> rfl⟩)
theorem u_pose4 : RT Tryz.prog 52 PoD (fun a => a.D.flat) (fun a => a.w 35184372087808) := by
  have h := RT.struct (P := Tryz.prog) (t := 52) (m := 10) Tryz.underlying52 (by kernel_rfl) (RTF.cons (by kernel_rfl) u_turn4 (RTF.cons (by kernel_rfl) u_place4 RTF.nil)) (fun v => rfl)
  exact h.map (fun v => ⟨v.1, v.2.1⟩) (fun v h => rfl) (fun v h => ⟨h.1, h.2.1⟩) (fun v => ⟨by kernel_rfl, fun d hd => by
    simp only [D.flat, List.mem_cons, List.mem_nil_iff, or_false] at hd
    rcases hd with rfl | rfl | rfl | rfl | rfl | rfl | rfl | rfl | rfl | rfl <;> rfl⟩)
theorem u_dyad4 : RT Tryz.prog 29 DyD (fun a => a.D.flat) (fun a => a.w 35184372087808) := by
  have h := RT.struct (P := Tryz.prog) (t := 29) (m := 15) Tryz.underlying29 (by kernel_rfl) (RTF.cons (by kernel_rfl) u_place4 (RTF.cons (by kernel_rfl) u_place4 (RTF.cons (by kernel_rfl) u_rat4 RTF.nil))) (fun v => rfl)
  exact h.map (fun v => ⟨v.1, v.2.1, v.2.2.1⟩) (fun v h => rfl) (fun v h => ⟨h.1, h.2.1, h.2.2.1⟩) (fun v => ⟨by kernel_rfl, fun d hd => by
    simp only [D.flat, List.mem_cons, List.mem_nil_iff, or_false] at hd
    rcases hd with rfl | rfl | rfl | rfl | rfl | rfl | rfl | rfl | rfl | rfl | rfl | rfl | rfl | rfl | rfl <;> rfl⟩)
theorem u_four4 : RT Tryz.prog 31 (DyD × DyD) (fun a => (FourD a.1 a.2).flat) (fun a => a.1.w 35184372087808 ∧ a.2.w 35184372087808) := by
  have h := RT.struct (P := Tryz.prog) (t := 31) (m := 30) Tryz.underlying31 (by kernel_rfl) (RTF.cons (by kernel_rfl) u_dyad4 (RTF.cons (by kernel_rfl) u_dyad4 RTF.nil)) (fun v => rfl)
  exact h.map (fun v => (v.1, v.2.1)) (fun v h => rfl) (fun v h => ⟨h.1, h.2.1⟩) (fun v => ⟨by kernel_rfl, fun d hd => by
    simp only [D.flat, List.cons_append, List.nil_append, List.mem_cons, List.mem_nil_iff, or_false] at hd
    rcases hd with rfl | rfl | rfl | rfl | rfl | rfl | rfl | rfl | rfl | rfl | rfl | rfl | rfl | rfl | rfl | rfl | rfl | rfl | rfl | rfl | rfl | rfl | rfl | rfl | rfl | rfl | rfl | rfl | rfl | rfl <;> rfl⟩)
def ok50F (x : DyD × DyD) : Prop := x.1.w 35184372087808 ∧ x.2.w 35184372087808
end Lift
namespace Lift
open Go
open Go.RowKit (Below)
section
variable {P : Program}
theorem RT.arr2 {t e : TypeId} {s : Nat} {α : Type} {ca : α → List D} {oa : α → Prop} (ht : P.underlying t = some (.array 2 e)) (hm : P.cellsOf t = s + s) (hs : P.cellsOf e = s) (h : RT P e α ca oa) : RT P t (α × α) (fun v => ca v.1 ++ ca v.2) (fun v => oa v.1 ∧ oa v.2) := by
  refine ⟨fun v => ⟨by rw [List.length_append, (h.1 v.1).1, (h.1 v.2).1, hs, hm], fun d hd => ?_⟩, fun H enc w fuel cs x hx hw => ?_⟩
  · rcases List.mem_append.1 hd with hd | hd
    · exact (h.1 v.1).2 d hd
    · exact (h.1 v.2).2 d hd
  obtain ⟨xs, m, _, rfl, hl, hxl, hf⟩ := DataW.trod_array ht hx
  match xs, hxl with
  | [x1, x2], _ =>
    have f0 := hf 0 (by decide)
    have f1 := hf 1 (by decide)
    rw [hs] at f0 f1
    rw [Nat.zero_mul, List.drop_zero] at f0
    rw [Nat.one_mul] at f1
    unfold Wt at hw
    rw [DataW.weights, ht] at hw
    obtain ⟨a, ha, hra⟩ := h.2 H enc w m _ x1 f0 (fun n hn => hw n (mem_weightsAll hn (by simp)))
    obtain ⟨b, hb, hrb⟩ := h.2 H enc w m _ x2 f1 (fun n hn => hw n (mem_weightsAll hn (by simp)))
    refine ⟨(a, b), ⟨ha, hb⟩, ?_⟩
    have := hra.append hrb
    rw [List.take_of_length_le (l := cs.drop s) (by rw [List.length_drop, hl, hm]; omega), List.take_append_drop] at this
    exact this
theorem RA.arr {t e : TypeId} {k : Nat} {α : Type} {cells : α → List D} {ok : α → Prop} (ht : P.underlying t = some (.array k e)) (h : RT P t α cells ok) : RA P t α (fun a => .ag (cells a)) ok := by
  intro H enc w v d ps r b0 ⟨fuel, hd⟩ hw hv
  unfold Value.okWide at hv
  rw [ht] at hv
  obtain ⟨cs, rfl, _, _⟩ := hv
  obtain ⟨a, ha, hl, hr⟩ := h.2 H enc w fuel _ _ hd hw
  refine ⟨a, ha, ?_⟩
  have := Rd.ag (w := w) (F := fun b => b < w.heap.size) (l := cells a) (vs := cs.toList) (by simpa [Value.cells] using hl) (fun d hd => (h.1 a).2 d hd) (fun i d u h1 h2 => (hr i d u h1 (by simpa [Value.cells] using h2)).2)
  simpa using this
end
end Lift
namespace Lift
open Go Go.Proofs
end Lift
namespace Lift
end Lift
namespace Lift
open Go Go.Proofs
def poG (ps : List Po) (i : Nat) : Po := ps.getD i (none, (0, 0))
end Lift
namespace Lift
open Go Go.Proofs
theorem pas_dir {ps : List Po} {d : Dy} (h : pasB ps d = true) {i : Nat} (hi : i < ps.length) : dt (dirF d (poG ps i)) (dirF d (poG ps i)) = d.2.2 := by
  unfold pasB at h
  rw [List.all_eq_true] at h
  have := h (poG ps i) (by unfold poG; rw [List.getD_eq_getElem?_getD, List.getElem?_eq_getElem hi]; exact List.getElem_mem hi)
  exact of_decide_eq_true this
theorem u_get (ps : List Po) (d e : Dy) {i : Nat} (hi : i < ps.length) : (rdB ps d e).u.getD i (0, 0) = dirF d (poG ps i) := by
  show (ps.map (dirF d)).getD i (0, 0) = dirF d (ps.getD i (none, (0, 0)))
  rw [List.getD_eq_getElem?_getD, List.getElem?_map, List.getD_eq_getElem?_getD, List.getElem?_eq_getElem hi]; rfl
structure Good (ps : List Po) (d e : Dy) : Prop where
  pd : pasB ps d = true
  pe : pasB ps e = true
  ap : 0 < d.2.2
  fp : 0 < dt (vsub e.1 d.1) (vsub e.1 d.1)
  l2 : 2 ≤ ps.length
  l5 : ps.length ≤ 5
theorem chk_good {l : List PoD} {d e : DyD} (h0 : chkD l d e = 0) : Good (l.map PoD.val) d.val e.val := by
  obtain ⟨⟨hl2, hl5, hp⟩, _, _, r1, r2, _, hc, h1, h2⟩ := chkD_ok h0
  exact ⟨h1, h2, sgI_pos r1, dt_pos (vsub_ne hc), by rw [List.length_map]; exact hl2, by rw [List.length_map]; exact hl5⟩
end Lift
namespace Lift
open Go Go.Proofs
end Lift
namespace Lift
open Go Go.Proofs
end Lift
namespace Lift
structure Turned (u v r : V2) : Prop where
  nz : 0 < dt v v
  s1 : sgQ r.1 = sgQ (dt u v)
  s2 : sgQ r.2 = sgQ (crs u v)
theorem Turned.bar {u v r : V2} (h : Turned u v r) : Turned (barF u) (barF v) (barF r) := ⟨by
    have : dt (barF v) (barF v) = dt v v := by unfold dt barF; grind
    rw [this]; exact h.nz, by
    have : dt (barF u) (barF v) = dt u v := by unfold dt barF; grind
    rw [this]; exact h.s1, by
    have : crs (barF u) (barF v) = -crs u v := by unfold crs barF; grind
    rw [this, sgQ_negate, ← h.s2]
    show sgQ (-r.2) = _
    rw [sgQ_negate]⟩
end Lift
namespace Lift
open Go Go.Proofs
theorem u_len (ps : List Po) (d e : Dy) : (rdB ps d e).u.length = ps.length := List.length_map ..
end Lift
namespace Lift
def NzV (l : List V2) : Prop := ∀ i, i < l.length → 0 < dt (l.getD i (0, 0)) (l.getD i (0, 0))
theorem Good.nz {ps : List Po} {d e : Dy} (g : Good ps d e) : NzV (rdB ps d e).u := fun i hi => by
  rw [u_len] at hi
  rw [u_get _ _ _ hi, pas_dir g.pd hi]
  exact g.ap
end Lift
namespace Lift
open Go Go.Proofs
end Lift
namespace Lift
open Go Go.Proofs
end Lift
namespace Lift
open Go Go.Proofs
end Lift
namespace Lift
end Lift
namespace Lift
open Go Go.Proofs
end Lift
namespace Lift
end Lift
namespace Lift
open Go
open Go.RowKit (Below)
section
variable {P : Program} {T : Ty} {B : Nat} {F0 : Nat → Prop} {w0 : Bas} {n : Nat} {σ τ σ0 : St} {ops all : Array Oper} {l rest : List Oper} {o : Oper} {d : Nat} {lk hm : Nat → Option AV} {K : St → Prop} {ds : List Nat}
theorem TIok.kind9 {t : Nat} {i : TI} {info : TypeInfo} {d : TypeDesc} {z : Value} (h : TIok P t i info d z) (hk : Nat.beq i.kind 9 = true) : ∃ n, P.underlying t = some (.array n i.elem) ∧ i.fields = [(n, P.cellsOf i.elem, true)] := by
  have hk := Nat.eq_of_beq_eq_true hk
  have hd := h.desc
  have hu := h.und
  cases d <;> simp [descOk, hk] at hd
  rename_i n e
  obtain ⟨⟨_, h1⟩, h2⟩ := hd
  exact ⟨n, by rw [h1]; exact hu, by rw [h1, h2]⟩
def ixaF (T : Ty) (lk hm : Nat → Option AV) : Op → Option (Int × AV)
  | .indexAddr t x i => match T.get t, scal (datF T (ex T lk 0 i)) with
    | some ti, some (.int _ iv) => match Nat.beq ti.kind 9, ti.fields, T.get ti.elem with
      | true, (m, s, _) :: _, some _ => match Nat.ble (iv.toNat + 1) m with
        | true => match addrF hm (iv.toNat * s) (ex T lk 0 x) with
          | some r => some (iv, r)
          | none => none
        | false => none
      | _, _, _ => none
    | _, _ => none
  | _ => none
theorem PStep.ixa (hT : TOk P T) {iv : Int} {r : AV} (hd : o.dst = some d) (hn : hm d = none) (hx : ixaF T lk hm o.op = some (iv, r)) (h0 : 0 ≤ iv) : PStep P B F0 w0 d o lk hm r := by
  refine ⟨hd, hn, fun a w O hI K Q hK => ?_⟩
  obtain ⟨dst, op, ty, pos, after, guard⟩ := o
  simp only [] at hd hx hI
  cases op <;> simp only [ixaF] at hx <;> try (cases hx; done)
  rename_i t x i
  split at hx <;> try (cases hx; done)
  rename_i ti k iv' hti hi
  split at hx <;> try (cases hx; done)
  rename_i m s g fr te hk hf hte
  split at hx <;> try (cases hx; done)
  rename_i hle
  split at hx <;> simp at hx
  rename_i r' ha
  obtain ⟨rfl, rfl⟩ := hx
  have hle := Nat.le_of_ble_eq_true hle
  obtain ⟨info, dd, z, hok⟩ := hT t ti hti
  obtain ⟨info', dd', z', hok'⟩ := hT _ te hte
  obtain ⟨m', hu, hfl⟩ := hok.kind9 hk
  rw [hf] at hfl
  simp only [List.cons.injEq, Prod.mk.injEq] at hfl
  obtain ⟨⟨rfl, rfl, _⟩, _⟩ := hfl
  have hiv := (scal_ex hT hI (fun t ht => by subst ht; simp [Op.operands]) hi).1
  cases hxe : ex T lk 0 x with
  | none => rw [hxe] at ha; simp [addrF] at ha
  | some b =>
    rw [hxe] at ha
    have hr := (ex_sound hI (fun t ht => by subst ht; simp [Op.operands]) hxe d).1
    obtain ⟨b, o', hv, hr'⟩ := addrF_sound hr ha
    have h1 : 0 ≤ iv' ∧ iv' < (m : Int) := by omega
    refine wp_val (v := .pointer (some ⟨b, o' + iv'.toNat * P.cellsOf ti.elem, none⟩)) (w' := w) ?_ (hK _ w O (Grow.refl hI.lt) hr')
    simp [execOp, Instr.indexAt, hv, hiv, asIntOf, run_underlying hu, Instr.sureAddr, h1, Go.sizeOf, typeInfo, hok'.hinfo, hok'.size, hok'.cellsOf, Addr.add_lit]
theorem AOps.ixa (hT : TOk P T) {iv : Int} {r : AV} (hd : o.dst = some d) (hdn : Nat.ble (d + 1) n = true) (hg : guardOk all σ o = true) (hx : ixaF T σ.get (hmx σ d) o.op = some (iv, r)) (h0 : 0 ≤ iv) (hh : r.home = false)
    (h : AOps P B F0 w0 n all rest K ((d, r) :: σ)) : AOps P B F0 w0 n all (o :: rest) K σ := AOps.pure hg hdn (PStep.ixa hT hd (hmx_self σ d) hx h0) (by rw [St.put, hh]; exact h)
def slaF (T : Ty) (lk : Nat → Option AV) : Op → Option (Nat × Nat × List D)
  | .slice t x none none none => match T.get t, ex T lk 0 x with
    | some ti, some (.d (.pr cs)) => match Nat.beq ti.kind 9, ti.fields, T.get ti.elem with
      | true, (m, s, _) :: _, some _ => some (m, s, cs)
      | _, _, _ => none
    | _, _ => none
  | _ => none
theorem PStep.sla (hT : TOk P T) {m s : Nat} {cs xs : List D} (hd : o.dst = some d) (hn : hm d = none) (hx : slaF T lk o.op = some (m, s, cs)) (hm' : m ≤ maxLen) (hl : xs.length = m) (hu : ∀ x, x ∈ xs → x.flat.length = s) (hc : flatAll xs = cs) : PStep P B F0 w0 d o lk hm (.d (.sl s xs)) := by
  refine ⟨hd, hn, fun a w O hI K Q hK => ?_⟩
  obtain ⟨dst, op, ty, pos, after, guard⟩ := o
  simp only [] at hd hx hI
  cases op <;> simp only [slaF] at hx <;> try (cases hx; done)
  rename_i t x lo hi mx
  cases lo <;> try (simp at hx; done)
  cases hi <;> try (simp at hx; done)
  cases mx <;> try (simp at hx; done)
  simp only [] at hx
  split at hx <;> try (cases hx; done)
  rename_i ti cs' hti he
  split at hx <;> simp at hx
  rename_i m1 s1 g fr te hk hf hte
  obtain ⟨rfl, rfl, rfl⟩ := hx
  obtain ⟨info, dd, z, hok⟩ := hT t ti hti
  obtain ⟨info', dd', z', hok'⟩ := hT _ te hte
  obtain ⟨m', hun, hfl⟩ := hok.kind9 hk
  rw [hf] at hfl
  simp only [List.cons.injEq, Prod.mk.injEq] at hfl
  obtain ⟨⟨rfl, rfl, _⟩, _⟩ := hfl
  have hr := (ex_sound hI (fun t ht => by subst ht; simp [Op.operands]) he d).1
  obtain ⟨b, arr, e, fz, hv, hF, hb, hel⟩ := Rd.pr_eq hr
  refine wp_val (v := .slice (some ⟨b, 0, none⟩) m1 m1) (w' := w) ?_ (hK _ w O (Grow.refl hI.lt) ?_)
  · simp [execOp, Instr.sliceAt, Instr.sliceBounds, hv, run_underlying hun, Instr.sureAddr, Go.sizeOf, typeInfo, hok'.hinfo, Addr.add_lit]
  · have := Rd.sl_mk (w := w) (F := Free O (FW B F0 w)) (s := P.cellsOf ti.elem) (l := xs) (off := 0) (cap := m1) hF hb (by omega) hm' hu (fun j y hj => by
      rw [hc] at hj
      rw [Nat.zero_add]
      exact hel j y hj)
    rw [hl] at this
    exact this
theorem AOps.sla (hT : TOk P T) {m s : Nat} {cs : List D} (xs : List D) (hd : o.dst = some d) (hdn : Nat.ble (d + 1) n = true) (hg : guardOk all σ o = true) (hx : slaF T σ.get o.op = some (m, s, cs)) (hm' : m ≤ maxLen) (hl : xs.length = m) (hu : ∀ x, x ∈ xs → x.flat.length = s) (hc : flatAll xs = cs)
    (h : AOps P B F0 w0 n all rest K ((d, .d (.sl s xs)) :: σ)) : AOps P B F0 w0 n all (o :: rest) K σ := AOps.pure hg hdn (PStep.sla hT hd (hmx_self σ d) hx hm' hl hu hc) h
theorem APre.sla (hT : TOk P T) {m s : Nat} {cs : List D} (xs : List D) (hd : o.dst = some d) (hdn : Nat.ble (d + 1) n = true) (hg : guardOk ops τ o = true) (hs : σ0.get d = none) (hx : slaF T τ.get o.op = some (m, s, cs)) (hm' : m ≤ maxLen) (hl : xs.length = m) (hu : ∀ x, x ∈ xs → x.flat.length = s) (hc : flatAll xs = cs)
    (h : APre P B F0 w0 n ops ds σ0 rest ((d, .d (.sl s xs)) :: τ) K) : APre P B F0 w0 n ops ds σ0 (o :: rest) τ K := APre.pure hd hdn rfl hg (PStep.sla hT hd hs hx hm' hl hu hc) h
end
end Lift
namespace Lift
open Go Go.Proofs
abbrev KD (a b : Int) : D := .ag [.v (.int .u8 a), .v (.int .u8 b)]
end Lift
namespace Lift
open Go Go.Proofs
end Lift
namespace Lift
open Go Go.Proofs
abbrev TwoD (p q : PoD) : D := .ag (p.D.flat ++ q.D.flat)
theorem two_flat (p q : PoD) : ∀ x, x ∈ [p.D, q.D] → x.flat.length = 10 := fun x hx => by
  rcases List.mem_cons.1 hx with rfl | hx
  · rfl
  · rcases List.mem_cons.1 hx with rfl | hx
    · rfl
    · cases hx
theorem two_branch (s0 s1 : Int) : anyR (brB [s0, s1]) 2 = (decide (s0 ≠ s1) || decide (s0 = 0)) := by
  rw [anyR_succ, anyR_succ]
  show ((false || (decide (s0 = 0) || decide (s0 ≠ s0))) || (decide (s1 = 0) || decide (s1 ≠ s0))) = _
  by_cases h : s0 = s1
  · subst h; by_cases h0 : s0 = 0 <;> simp [h0]
  · by_cases h0 : s0 = 0 <;> by_cases h1 : s1 = 0 <;> simp [h, h0, h1] <;> omega
theorem two_report {p q : Po} {d e : Dy} (g : Good [p, q] d e) : rptD (rdB [p, q] d e) = if btwU (dirF d p) (dirF d q) = true then .tu [DfD false false false, erV 15] else .tu [DfD (decide (sgnF d e p ≠ sgnF d e q) || decide (sgnF d e p = 0)) (decide (appF p d.2.1 = appF q d.2.1)) (ciB (rdB [p, q] d e) 0), nilE] := by
  have pu : dt (dirF d p) (dirF d p) = d.2.2 := pas_dir g.pd (i := 0) (show 0 < 2 by decide)
  have pv : dt (dirF d q) (dirF d q) = d.2.2 := pas_dir g.pd (i := 1) (show 1 < 2 by decide)
  have a1 : anyR (unB (rdB [p, q] d e)) 1 = btwU (dirF d p) (dirF d q) := by
    rw [anyR_succ]
    show (false || btwU (dirF d p) (dirF d q)) = _
    rw [Bool.false_or]
  have a2 : anyR (ciB (rdB [p, q] d e)) 1 = ciB (rdB [p, q] d e) 0 := by
    rw [anyR_succ]
    show (false || ciB (rdB [p, q] d e) 0) = _
    rw [Bool.false_or]
  have a3 : orderF [dirF d p, dirF d q] = decide (appF p d.2.1 = appF q d.2.1) := by
    rw [order_two (by rw [pu]; exact g.ap) (by rw [pu, pv])]
    refine decide_eq_decide.2 ⟨fun h => ?_, fun h => by unfold dirF; rw [h]⟩
    have h1 : (appF p d.2.1).1 - d.1.1 = (appF q d.2.1).1 - d.1.1 := congrArg Prod.fst h
    have h2 : (appF p d.2.1).2 - d.1.2 = (appF q d.2.1).2 - d.1.2 := congrArg Prod.snd h
    exact Prod.ext (by grind) (by grind)
  have a4 := two_branch (sgnF d e p) (sgnF d e q)
  show (if anyR (unB (rdB [p, q] d e)) 1 = true then D.tu [DfD false false false, erV 15] else .tu [DfD (anyR (brB [sgnF d e p, sgnF d e q]) 2) (orderF [dirF d p, dirF d q]) (anyR (ciB (rdB [p, q] d e)) 1), nilE]) = _
  rw [a1, a2, a3, a4]
set_option maxHeartbeats 3200000 in
theorem law50_Two_ok (p q : PoD) (d e : DyD) (h : ok50 [p, q] d e) : Pure Tryz.prog 6 [TwoD p q, FourD d e] (dB true) := by
  refine Pure.intro (n := 127) tok Tryz.func6 rfl rfl rfl (Nat.le_of_ble_eq_true rfl) (by kernel_rfl) (fun B F0 w0 => ?_)
  have cA := law50_awake_ok
  have cS := law50_short_ok [p, q] d e h.1
  refine AW.seq ?_
  refine AW.region ?_
  refine AOps.run tok 3 _ _ _ _ rfl ?_
  refine AOps.frzb 2 rfl ?_
  refine AOps.nil ?_
  refine AW.seq ?_
  refine AW.seq ?_
  refine AW.draw hmix 8 (by kernel_rfl) ?_
  refine APre.call tok rfl rfl rfl rfl rfl cA ?_
  refine APre.run tok 2 _ _ _ _ rfl ?_
  refine APre.sla tok [p.D, q.D] rfl rfl rfl rfl rfl (by decide) rfl (two_flat p q) rfl ?_
  refine APre.run tok 1 _ _ _ _ rfl ?_
  refine APre.call tok rfl rfl rfl rfl rfl cS ?_
  refine APre.run tok 2 _ _ _ _ rfl ?_
  refine APre.nil ?_
  refine AOps.nil ?_
  cases hs : shortB [p, q] d e with
  | false =>
    refine AW.condT rfl ?_
    refine AW.seq ?_
    refine AW.region ?_
    refine AOps.call tok rfl rfl rfl rfl cA ?_
    refine AOps.run tok 1 _ _ _ _ rfl ?_
    refine AOps.nil ?_
    exact AW.ret rfl
  | true =>
  obtain ⟨hl, hw, hd, he⟩ := short_w h hs
  refine AW.condF rfl ?_
  refine AW.skip ?_
  have c1 := defects_Signs_ok [p, q] d e (show 2 ≤ 1000000 by decide) hw hd he (by decide) (by decide)
  have c2 := defects_Report_ok [p, q] d e (show 2 ≤ 1000000 by decide) hw hd he (by decide) (by decide)
  unfold signsD at c1
  unfold reportD at c2
  by_cases hc : chkD [p, q] d e = 0
  rotate_left
  · rw [if_neg hc] at c1
    rw [if_pos hc] at c2
    obtain ⟨m, hm⟩ : ∃ m, chkD [p, q] d e = m + 1 := ⟨chkD [p, q] d e - 1, by omega⟩
    rw [hm] at c1 c2
    have cN := base_Num_ok (m + 1)
    refine AW.seq ?_
    refine AW.draw hmix 10 (by kernel_rfl) ?_
    refine APre.sla tok [p.D, q.D] rfl rfl rfl rfl rfl (by decide) rfl (two_flat p q) rfl ?_
    refine APre.run tok 4 _ _ _ _ rfl ?_
    refine APre.call tok rfl rfl rfl rfl rfl c1 ?_
    refine APre.run tok 4 _ _ _ _ rfl ?_
    refine APre.nil ?_
    refine AOps.run tok 1 _ _ _ _ rfl ?_
    refine AOps.nil ?_
    refine AW.seq ?_
    refine AW.draw3 tok hmix [(8, true), (1, false), (1, true)] 10 [7] (by kernel_rfl) ⟨rfl, ?_⟩
    refine APre.sla tok [p.D, q.D] rfl rfl rfl rfl rfl (by decide) rfl (two_flat p q) rfl ?_
    refine APre.run tok 4 _ _ _ _ rfl ?_
    refine APre.call tok rfl rfl rfl rfl rfl c2 ?_
    refine APre.run tok 2 _ _ _ _ rfl ?_
    refine APre.nil ⟨rfl, ?_⟩
    refine APre.run tok 1 _ _ _ _ rfl ?_
    refine APre.nil ⟨rfl, ?_⟩
    refine APre.run tok 1 _ _ _ _ rfl ?_
    refine APre.nil ⟨_, StL.cons (.bx rfl) StL.nil, ?_⟩
    refine AOps.run tok 1 _ _ _ _ rfl ?_
    refine AOps.nil ?_
    refine AW.seq ?_
    refine AW.seq ?_
    refine AW.region ?_
    refine AOps.run tok 1 _ _ _ _ rfl ?_
    refine AOps.err tok rfl rfl rfl rfl rfl ?_
    refine AOps.nil ?_
    refine AW.condT rfl ?_
    refine AW.seq ?_
    refine AW.region ?_
    refine AOps.run tok 6 _ _ _ _ rfl ?_
    refine AOps.se3 tok rfl rfl rfl rfl (by kernel_rfl) ?_
    refine AOps.run tok 3 _ _ _ _ rfl ?_
    refine AOps.call tok rfl rfl rfl rfl cN ?_
    refine AOps.run tok 1 _ _ _ _ rfl ?_
    refine AOps.call tok rfl rfl rfl rfl cN ?_
    refine AOps.run tok 1 _ _ _ _ rfl ?_
    rw [beq_iff_eq.2 rfl]
    refine AOps.run tok 2 _ _ _ _ rfl ?_
    refine AOps.nil ?_
    exact AW.ret rfl
  have G := chk_good hc
  obtain ⟨⟨_, _, hpo⟩, hdo, heo, _⟩ := chkD_ok hc
  have hp2 : p.w 6 := hw 0 (show 0 < 2 by decide)
  have hq2 : q.w 6 := hw 1 (show 1 < 2 by decide)
  have hpo2 : p.okB = true ∧ q.okB = true := by
    unfold posOk at hpo
    simpa using hpo
  have zp := szP_val hp2 (by decide)
  have zq := szP_val hq2 (by decide)
  have zd := szD_val hd (by decide)
  have ep := PoD.canon hp2 hpo2.1
  have eq := PoD.canon hq2 hpo2.2
  have ed := DyD.canon hd hdo
  have ee := DyD.canon he heo
  have hv : [p, q].map PoD.val = [p.val, q.val] := rfl
  rw [hv] at G c1 c2
  have T := two_report G
  rw [if_pos hc] at c1
  rw [if_neg (by rw [hc]; simp), T] at c2
  have hS : IL ([p.val, q.val].map (sgnF d.val e.val)) = [dI (sgnF d.val e.val p.val), dI (sgnF d.val e.val q.val)] := rfl
  rw [hS] at c1
  clear hS T hc hs cS hpo hp2 hq2 hpo2 hv G hl hw hd he hdo heo h
  generalize ciB (rdB [p.val, q.val] d.val e.val) 0 = z at c2
  generalize btwU (dirF d.val p.val) (dirF d.val q.val) = bu at c2
  generalize sgnF d.val e.val p.val = s0 at c1 c2
  generalize sgnF d.val e.val q.val = s1 at c1 c2
  have zd' := szD_1 zd
  have a1 := pose_Apply_ok p.val d.val.2.1 (k := 6) zp zd'.2.1 (by decide) (by decide)
  have a2 := pose_Apply_ok q.val d.val.2.1 (k := 6) zq zd'.2.1 (by decide) (by decide)
  have y1 := szV_1 (szV_app p.val d.val.2.1 (k := 6) zp zd'.2.1 (by decide))
  have y2 := szV_1 (szV_app q.val d.val.2.1 (k := 6) zq zd'.2.1 (by decide))
  have em : (VQ d.val.2.1) = d.m := (congrArg DyD.m ed).symm
  rw [← ep, em] at a1
  rw [← eq, em] at a2
  generalize appF p.val d.val.2.1 = A at a1 y1 c2
  generalize appF q.val d.val.2.1 = B1 at a2 y2 c2
  have x1 := fraction_Cmp_ok (Qr A.1) (Qr B1.1) (k := 76) (Qr_w _ (by omega)) (Qr_w _ (by omega)) (by decide)
  have x2 := fraction_Cmp_ok (Qr A.2) (Qr B1.2) (k := 76) (Qr_w _ (by omega)) (Qr_w _ (by omega)) (by decide)
  rw [Qr_val, Qr_val] at x1 x2
  refine AW.seq ?_
  refine AW.draw hmix 10 (by kernel_rfl) ?_
  refine APre.sla tok [p.D, q.D] rfl rfl rfl rfl rfl (by decide) rfl (two_flat p q) rfl ?_
  refine APre.run tok 4 _ _ _ _ rfl ?_
  refine APre.call tok rfl rfl rfl rfl rfl c1 ?_
  refine APre.run tok 4 _ _ _ _ rfl ?_
  refine APre.nil ?_
  refine AOps.run tok 1 _ _ _ _ rfl ?_
  refine AOps.nil ?_
  refine AW.seq ?_
  refine AW.draw3 tok hmix [(8, true), (1, false), (1, true)] 10 [7] (by kernel_rfl) ⟨rfl, ?_⟩
  refine APre.sla tok [p.D, q.D] rfl rfl rfl rfl rfl (by decide) rfl (two_flat p q) rfl ?_
  refine APre.run tok 4 _ _ _ _ rfl ?_
  cases bu with
  | true =>
    rw [if_pos rfl] at c2
    refine APre.call tok rfl rfl rfl rfl rfl c2 ?_
    refine APre.run tok 2 _ _ _ _ rfl ?_
    refine APre.nil ⟨rfl, ?_⟩
    refine APre.run tok 1 _ _ _ _ rfl ?_
    refine APre.nil ⟨rfl, ?_⟩
    refine APre.run tok 1 _ _ _ _ rfl ?_
    refine APre.nil ⟨_, StL.cons (.bx rfl) StL.nil, ?_⟩
    refine AOps.run tok 1 _ _ _ _ rfl ?_
    refine AOps.nil ?_
    refine AW.seq ?_
    refine AW.seq ?_
    refine AW.region ?_
    refine AOps.run tok 1 _ _ _ _ rfl ?_
    refine AOps.err tok rfl rfl rfl rfl rfl ?_
    refine AOps.nil ?_
    refine AW.condF rfl ?_
    refine AW.skip ?_
    refine AW.seq ?_
    refine AW.seq ?_
    refine AW.region ?_
    refine AOps.run tok 1 _ _ _ _ rfl ?_
    refine AOps.err tok rfl rfl rfl rfl rfl ?_
    refine AOps.nil ?_
    refine AW.condT rfl ?_
    refine AW.seq ?_
    refine AW.region ?_
    refine AOps.run tok 1 _ _ _ _ rfl ?_
    refine AOps.call tok rfl rfl rfl rfl (base_Is_ok 15 15) ?_
    rw [decide_eq_true (rfl : 15 = 15)]
    refine AOps.run tok 1 _ _ _ _ rfl ?_
    refine AOps.nil ?_
    exact AW.ret rfl
  | false =>
  rw [if_neg (by simp)] at c2
  refine APre.call tok rfl rfl rfl rfl rfl c2 ?_
  refine APre.run tok 2 _ _ _ _ rfl ?_
  refine APre.nil ⟨rfl, ?_⟩
  refine APre.run tok 1 _ _ _ _ rfl ?_
  refine APre.nil ⟨rfl, ?_⟩
  refine APre.run tok 1 _ _ _ _ rfl ?_
  refine APre.nil ⟨_, StL.cons (.bx rfl) StL.nil, ?_⟩
  refine AOps.run tok 1 _ _ _ _ rfl ?_
  refine AOps.nil ?_
  refine AW.seq ?_
  refine AW.seq ?_
  refine AW.region ?_
  refine AOps.run tok 1 _ _ _ _ rfl ?_
  refine AOps.err tok rfl rfl rfl rfl rfl ?_
  refine AOps.nil ?_
  refine AW.condF rfl ?_
  refine AW.skip ?_
  refine AW.seq ?_
  refine AW.seq ?_
  refine AW.region ?_
  refine AOps.run tok 1 _ _ _ _ rfl ?_
  refine AOps.err tok rfl rfl rfl rfl rfl ?_
  refine AOps.nil ?_
  refine AW.condF rfl ?_
  refine AW.skip ?_
  refine AW.seq ?_
  refine AW.seq ?_
  refine AW.region ?_
  refine AOps.run tok 3 _ _ _ _ rfl ?_
  refine AOps.nil ?_
  refine AW.condF rfl ?_
  refine AW.skip ?_
  refine AW.seq ?_
  refine AW.region ?_
  refine AOps.ixa tok rfl rfl rfl rfl (Int.le_refl _) rfl ?_
  refine AOps.run tok 4 _ _ _ _ rfl ?_
  refine AOps.call tok rfl rfl rfl rfl a1 ?_
  refine AOps.run tok 6 _ _ _ _ rfl ?_
  refine AOps.nil ?_
  refine AW.seq ?_
  refine AW.region ?_
  refine AOps.ixa tok rfl rfl rfl rfl (by decide) rfl ?_
  refine AOps.run tok 4 _ _ _ _ rfl ?_
  refine AOps.call tok rfl rfl rfl rfl a2 ?_
  refine AOps.run tok 6 _ _ _ _ rfl ?_
  refine AOps.nil ?_
  have hAB : decide (A = B1) = (decide (A.1 = B1.1) && decide (A.2 = B1.2)) := by
    by_cases h1 : A.1 = B1.1
    · by_cases h2 : A.2 = B1.2
      · rw [decide_eq_true (Prod.ext h1 h2), decide_eq_true h1, decide_eq_true h2]; rfl
      · rw [decide_eq_false (fun h => h2 (by rw [h])), decide_eq_false h2, Bool.and_false]
    · rw [decide_eq_false (fun h => h1 (by rw [h])), decide_eq_false h1, Bool.false_and]
  refine AW.cut [5, 7, 10, 12, 13] (fun _ : Unit => [(5, .d (.sl 1 [dI s0, dI s1])), (7, .bx [dB (decide (s0 ≠ s1) || decide (s0 = 0)), dB (decide (A = B1)), dB z]), (10, .d nilE), (12, .d nilE), (13, .d (dB (decide (A = B1))))]) (fun _ => True) ?_ (fun _ _ => ?_)
  · rw [hAB]
    refine AW.region ?_
    refine AOps.run tok 4 _ _ _ _ rfl ?_
    refine AOps.call tok rfl rfl rfl rfl x1 ?_
    refine AOps.run tok 1 _ _ _ _ rfl ?_
    by_cases h1 : A.1 = B1.1
    · rw [cmpQ0, decide_eq_true h1]
      refine AOps.run tok 5 _ _ _ _ rfl ?_
      refine AOps.call tok rfl rfl rfl rfl x2 ?_
      refine AOps.run tok 1 _ _ _ _ rfl ?_
      by_cases h2 : A.2 = B1.2
      · rw [cmpQ0, decide_eq_true h2]
        refine AOps.run tok 2 _ _ _ _ rfl ?_
        refine AOps.nil ?_
        exact ⟨(), rfl, trivial⟩
      · rw [cmpQ0, decide_eq_false h2]
        refine AOps.run tok 2 _ _ _ _ rfl ?_
        refine AOps.nil ?_
        exact ⟨(), rfl, trivial⟩
    · rw [cmpQ0, decide_eq_false h1]
      refine AOps.run tok 9 _ _ _ _ rfl ?_
      refine AOps.nil ?_
      exact ⟨(), rfl, trivial⟩
  show AW _ _ _ _ _ _ _ [(5, .d (.sl 1 [dI s0, dI s1])), (7, .bx [dB (decide (s0 ≠ s1) || decide (s0 = 0)), dB (decide (A = B1)), dB z]), (10, .d nilE), (12, .d nilE), (13, .d (dB (decide (A = B1))))]
  generalize decide (A = B1) = y
  refine AW.seq ?_
  refine AW.draw hmix 30 (by kernel_rfl) ?_
  refine APre.run tok 1 _ _ _ _ rfl ?_
  refine APre.err tok rfl rfl rfl rfl rfl rfl ?_
  refine APre.run tok 2 _ _ _ _ rfl ?_
  refine APre.err tok rfl rfl rfl rfl rfl rfl ?_
  refine APre.run tok 5 _ _ _ _ rfl ?_
  refine APre.idx tok (dI s0) rfl rfl rfl rfl rfl (Int.le_refl _) rfl ?_
  refine APre.run tok 2 _ _ _ _ rfl ?_
  refine APre.idx tok (dI s1) rfl rfl rfl rfl rfl (by decide) rfl ?_
  refine APre.run tok 2 _ _ _ _ rfl ?_
  by_cases h1 : s0 = s1
  · rw [bne_eq_false_iff_eq.2 h1, decide_eq_false (fun h => h h1)]
    refine APre.run tok 2 _ _ _ _ rfl ?_
    refine APre.idx tok (dI s0) rfl rfl rfl rfl rfl (Int.le_refl _) rfl ?_
    refine APre.run tok 2 _ _ _ _ rfl ?_
    by_cases h0 : s0 = 0
    · rw [beq_iff_eq.2 h0, decide_eq_true h0]
      refine APre.run tok 1 _ _ _ _ rfl ?_
      refine APre.be tok rfl rfl rfl rfl rfl ?_
      refine APre.run tok 5 _ _ _ _ rfl ?_
      refine APre.be tok rfl rfl rfl rfl rfl ?_
      rw [show ((y == y) == true) = true by cases y <;> rfl]
      refine APre.run tok 1 _ _ _ _ rfl ?_
      refine APre.nil ?_
      refine AOps.run tok 1 _ _ _ _ rfl ?_
      refine AOps.nil ?_
      exact AW.ret rfl
    · rw [beq_eq_false_iff_ne.2 h0, decide_eq_false h0]
      refine APre.run tok 1 _ _ _ _ rfl ?_
      refine APre.be tok rfl rfl rfl rfl rfl ?_
      refine APre.run tok 5 _ _ _ _ rfl ?_
      refine APre.be tok rfl rfl rfl rfl rfl ?_
      rw [show ((y == y) == true) = true by cases y <;> rfl]
      refine APre.run tok 1 _ _ _ _ rfl ?_
      refine APre.nil ?_
      refine AOps.run tok 1 _ _ _ _ rfl ?_
      refine AOps.nil ?_
      exact AW.ret rfl
  · rw [bne_iff_ne.2 h1, decide_eq_true h1]
    refine APre.run tok 6 _ _ _ _ rfl ?_
    refine APre.be tok rfl rfl rfl rfl rfl ?_
    refine APre.run tok 5 _ _ _ _ rfl ?_
    refine APre.be tok rfl rfl rfl rfl rfl ?_
    rw [show ((y == y) == true) = true by cases y <;> rfl]
    refine APre.run tok 1 _ _ _ _ rfl ?_
    refine APre.nil ?_
    refine AOps.run tok 1 _ _ _ _ rfl ?_
    refine AOps.nil ?_
    exact AW.ret rfl
end Lift
namespace Lift
open Go Go.Proofs
def ok50T (x : PoD × PoD) : Prop := x.1.w 35184372087808 ∧ x.2.w 35184372087808
theorem u_two : RT Tryz.prog 53 (PoD × PoD) (fun x => x.1.D.flat ++ x.2.D.flat) (fun x => ok50T x) :=
  RT.arr2 (s := 10) Tryz.underlying53 (by kernel_rfl) (by kernel_rfl) u_pose4
theorem ok50_two {x : PoD × PoD} {y : DyD × DyD} (h1 : ok50T x) (h2 : ok50F y) : ok50 [x.1, x.2] y.1 y.2 := ⟨show 2 ≤ 4611686018427387904 by decide, fun i hi => by
  have hi : i < 2 := hi
  match i, hi with
  | 0, _ => exact h1.1
  | 1, _ => exact h1.2, h2.1, h2.2⟩
end Lift
