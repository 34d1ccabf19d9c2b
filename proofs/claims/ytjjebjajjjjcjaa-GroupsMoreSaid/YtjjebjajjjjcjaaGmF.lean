/- Parts of the proof, one behind the other: the logic, the contracts of the functions that the statement reaches. -/
import Derived.Test.YtjjebjajjjjcjaaGmE
set_option linter.unusedVariables false
set_option linter.unusedSimpArgs false
/- Groups: the statement GroupsMore. -/
namespace Lift
open Go Go.Proofs

def spX (l : Lkg) : D := if (anyN (findF l).kn || anyN (findF l).us) = true then .sl 4 [] else GrpsD (findF l).gs
def spE : Bool → D
  | true => er 7
  | false => nilE
theorem split_sp {l : Lkg} (h : chk l = 0) : splitD l = .tu [spX l, spE (anyN (findF l).kn || anyN (findF l).us)] := by
  unfold splitD spX
  rw [if_pos h]
  cases (anyN (findF l).kn || anyN (findF l).us) <;> rfl
abbrev furB : Body := ⟨⟨#[102, 117, 114, 116, 104, 101, 114, 95, 111, 110, 101]⟩, [plcM ⟨#[122]⟩ 0 0]⟩
abbrev furJ (n : Nat) : Joint := ⟨⟨#[102, 117, 114, 116, 104, 101, 114, 95, 111, 110, 101]⟩, 0, (n : Int), 0, 0, 0, 0⟩
abbrev furD (n : Nat) : Driver := ⟨⟨#[102, 117, 114, 116, 104, 101, 114, 95, 111, 110, 101]⟩, (n : Int)⟩
abbrev agaJ (x : Joint) : Joint := ⟨⟨#[97, 103, 97, 105, 110, 95, 97, 110, 100, 95, 97, 103, 97, 105, 110]⟩, x.kind, x.a, x.pt, x.b, x.on, x.to⟩
theorem getD_okA {α : Type} [Inhabited α] {p : α → Prop} {l : List α} {x : α} (h : ∀ i, p (l.getD i default)) (hx : p x) : ∀ i, p ((l ++ [x]).getD i default) := fun i => by
  rcases Nat.lt_or_ge i l.length with hi | hi
  · rw [List.getD_eq_getElem?_getD, List.getElem?_append_left hi, ← List.getD_eq_getElem?_getD]; exact h i
  · rw [List.getD_eq_getElem?_getD, List.getElem?_append_right hi]
    rcases Nat.eq_zero_or_pos (i - l.length) with e | e
    · rw [e]; exact hx
    · have h0 := h l.length
      rw [List.getD_eq_getElem?_getD, List.getElem?_eq_none (Nat.le_refl _)] at h0
      rw [List.getElem?_eq_none (by simp; omega)]
      exact h0
theorem furB_ok : furB.ok 4 := by
  have hw : (Qr ((0 : Int) : Rat)).w 2 := Qr_w _ (LQ_small 0 (by omega))
  have hw4 : (Qr ((0 : Int) : Rat)).w 4 := hw.mono (by decide)
  have hdM : (default : Mark).ok 4 := ⟨by decide, ⟨W32.nil, W32.nil, by decide, by decide⟩, ⟨W32.nil, W32.nil, by decide, by decide⟩⟩
  refine ⟨by show 11 ≤ big; decide, by show 1 ≤ big; decide, fun i => ?_⟩
  match i with
  | 0 => exact ⟨by show 1 ≤ big; decide, hw4, hw4⟩
  | i + 1 => exact hdM
theorem more_ok {l : Lkg} (h : l.ok 4) (h8 : l.bodies.length < 8) : Lkg.ok 4 { l with bodies := l.bodies ++ [furB] } :=
  ⟨h.nm, by show (l.bodies ++ [furB]).length ≤ big; rw [List.length_append, List.length_singleton]; unfold big; omega, h.nj, h.nd, getD_okA (p := fun b : Body => b.ok 4) h.b furB_ok, h.j, h.d⟩
theorem more_ok2 {l : Lkg} (h : l.ok 4) (h16 : l.joints.length < 16) (x : Joint) : Lkg.ok 4 { l with joints := l.joints ++ [agaJ x] } :=
  ⟨h.nm, h.nb, by show (l.joints ++ [agaJ x]).length ≤ big; rw [List.length_append, List.length_singleton]; unfold big; omega, h.nd, h.b, getD_okA (p := fun j : Joint => j.nm.size ≤ big) h.j (by show 15 ≤ big; decide), h.d⟩
theorem more_ok3 {l : Lkg} (h : l.ok 4) (h8 : l.bodies.length < 8) (h16 : l.joints.length < 16) (h2 : l.drivers.length < 2) : Lkg.ok 4 ⟨l.nm, l.bodies ++ [furB], l.joints ++ [furJ l.bodies.length], l.drivers ++ [furD l.bodies.length]⟩ :=
  ⟨h.nm, by show (l.bodies ++ [furB]).length ≤ big; rw [List.length_append, List.length_singleton]; unfold big; omega, by show (l.joints ++ [furJ l.bodies.length]).length ≤ big; rw [List.length_append, List.length_singleton]; unfold big; omega, by show (l.drivers ++ [furD l.bodies.length]).length ≤ big; rw [List.length_append, List.length_singleton]; unfold big; omega, getD_okA (p := fun b : Body => b.ok 4) h.b furB_ok, getD_okA (p := fun j : Joint => j.nm.size ≤ big) h.j (by show 11 ≤ big; decide), getD_okA (p := fun d : Driver => d.nm.size ≤ big) h.d (by show 11 ≤ big; decide)⟩
theorem more_drn (l : Lkg) : Drn l ⟨l.nm, l.bodies ++ [furB], l.joints ++ [furJ l.bodies.length], l.drivers ++ [furD l.bodies.length]⟩ :=
  ⟨by show (l.bodies ++ [furB]).length = _; rw [List.length_append]; rfl, ⟨_, rfl, rfl, rfl, rfl⟩, ⟨_, rfl, rfl⟩⟩
set_option maxHeartbeats 6400000 in
theorem law25_More_ok (l : Lkg) (hl : l.ok big) : Pure Try.prog 4 [l.D] (dB true) := by
  refine Pure.intro (n := 145) tok Try.func4 rfl rfl rfl (Nat.le_of_ble_eq_true rfl) (by kernel_rfl) (fun B F0 w0 => ?_)
  have cL := law25_Light_ok l hl (Nat.le_refl _)
  refine AW.seq ?_
  refine AW.region ?_
  refine AOps.run tok 2 _ _ _ _ rfl ?_
  refine AOps.nil ?_
  refine AW.seq ?_
  refine AW.seq ?_
  cases hL : lightB l with
  | false =>
    rw [hL] at cL
    refine AW.region ?_
    refine AOps.call tok rfl rfl rfl rfl law25_awake_ok ?_
    refine AOps.run tok 3 _ _ _ _ rfl ?_
    refine AOps.call tok rfl rfl rfl rfl cL ?_
    refine AOps.run tok 19 _ _ _ _ rfl ?_
    refine AOps.nil ?_
    refine AW.condT rfl ?_
    refine AW.seq ?_
    refine AW.region ?_
    refine AOps.call tok rfl rfl rfl rfl law25_awake_ok ?_
    refine AOps.run tok 1 _ _ _ _ rfl ?_
    refine AOps.nil ?_
    exact AW.ret rfl
  | true =>
    rw [hL] at cL
    have hs := hl.light hL
    have cC := model_Check_ok l hs (by decide)
    have cS := groups_Split_ok l hs (by decide)
    rcases hC : chk l with _ | k
    rotate_left
    · rw [hC] at cC
      refine AW.region ?_
      refine AOps.call tok rfl rfl rfl rfl law25_awake_ok ?_
      refine AOps.run tok 3 _ _ _ _ rfl ?_
      refine AOps.call tok rfl rfl rfl rfl cL ?_
      refine AOps.run tok 4 _ _ _ _ rfl ?_
      refine AOps.call tok rfl rfl rfl rfl cC ?_
      refine AOps.err tok rfl rfl rfl rfl rfl ?_
      refine AOps.run tok 13 _ _ _ _ rfl ?_
      refine AOps.nil ?_
      refine AW.condT rfl ?_
      refine AW.seq ?_
      refine AW.region ?_
      refine AOps.call tok rfl rfl rfl rfl law25_awake_ok ?_
      refine AOps.run tok 1 _ _ _ _ rfl ?_
      refine AOps.nil ?_
      exact AW.ret rfl
    rw [hC] at cC
    rw [split_sp hC] at cS
    obtain ⟨hLk, hb8, hj16, hd2⟩ := chk_in hC
    have hb1 := hLk.b1
    refine AW.region ?_
    refine AOps.call tok rfl rfl rfl rfl law25_awake_ok ?_
    refine AOps.run tok 3 _ _ _ _ rfl ?_
    refine AOps.call tok rfl rfl rfl rfl cL ?_
    refine AOps.run tok 4 _ _ _ _ rfl ?_
    refine AOps.call tok rfl rfl rfl rfl cC ?_
    refine AOps.err tok rfl rfl rfl rfl rfl ?_
    refine AOps.run tok 5 _ _ _ _ rfl ?_
    rw [List.length_map]
    refine AOps.run tok 1 _ _ _ _ rfl ?_
    by_cases h8 : 8 ≤ l.bodies.length
    · rw [show decide ((8 : Int) ≤ (l.bodies.length : Int)) = true from decide_eq_true (by omega)]
      refine AOps.run tok 7 _ _ _ _ rfl ?_
      refine AOps.nil ?_
      refine AW.condT rfl ?_
      refine AW.seq ?_
      refine AW.region ?_
      refine AOps.call tok rfl rfl rfl rfl law25_awake_ok ?_
      refine AOps.run tok 1 _ _ _ _ rfl ?_
      refine AOps.nil ?_
      exact AW.ret rfl
    rw [show decide ((8 : Int) ≤ (l.bodies.length : Int)) = false from decide_eq_false (by omega)]
    refine AOps.run tok 5 _ _ _ _ rfl ?_
    rw [List.length_map]
    refine AOps.run tok 1 _ _ _ _ rfl ?_
    by_cases h16 : 16 ≤ l.joints.length
    · rw [show decide ((16 : Int) ≤ (l.joints.length : Int)) = true from decide_eq_true (by omega)]
      refine AOps.run tok 1 _ _ _ _ rfl ?_
      refine AOps.nil ?_
      refine AW.condT rfl ?_
      refine AW.seq ?_
      refine AW.region ?_
      refine AOps.call tok rfl rfl rfl rfl law25_awake_ok ?_
      refine AOps.run tok 1 _ _ _ _ rfl ?_
      refine AOps.nil ?_
      exact AW.ret rfl
    rw [show decide ((16 : Int) ≤ (l.joints.length : Int)) = false from decide_eq_false (by omega)]
    refine AOps.run tok 1 _ _ _ _ rfl ?_
    refine AOps.nil ?_
    refine AW.condF rfl ?_
    refine AW.skip ?_
    have hm := more_ok hs (by omega)
    have cCm := model_Check_ok _ hm (by decide)
    have cSm := groups_Split_ok _ hm (by decide)
    have hmb := more_body hLk furB
    have hmd := more_driven hLk (more_drn l)
    generalize hE : (anyN (findF l).kn || anyN (findF l).us) = E at cS hmd
    generalize spX l = X at cS
    refine AW.seq ?_
    refine AW.region ?_
    refine AOps.run tok 1 _ _ _ _ rfl ?_
    refine AOps.call tok rfl rfl rfl rfl cS ?_
    refine AOps.run tok 5 _ _ _ _ rfl ?_
    refine AOps.nil ?_
    refine AW.seq ?_
    refine AW.region ?_
    refine AOps.run tok 3 _ _ _ _ rfl ?_
    refine AOps.nil ?_
    refine AW.cut [1, 4, 5] (fun _ : Unit => [(1, .bx [dS l.nm, BodiesD l.bodies, JointsD l.joints, DriversD l.drivers]), (4, .d (spE E)), (5, .bx [dS l.nm, BodiesD (l.bodies ++ [furB]), JointsD l.joints, DriversD l.drivers])]) (fun _ => True) ?_ (fun _ _ => ?_)
    · refine AW.region ?_
      refine AOps.run tok 3 _ _ _ _ rfl ?_
      refine AOps.app0 tok rfl rfl rfl rfl (by show (l.bodies.map Body.D).length * 40 ≤ _; rw [List.length_map]; omega) ?_
      refine AOps.call tok rfl rfl rfl rfl (law25_place_ok ⟨#[122]⟩ 0 0 (by omega) (by omega)) ?_
      refine AOps.bsd tok rfl rfl rfl rfl rfl ?_
      refine AOps.run tok 1 _ _ _ _ rfl ?_
      refine AOps.bsd tok rfl rfl rfl rfl rfl ?_
      refine AOps.appo tok rfl rfl rfl rfl rfl rfl (by show ((l.bodies.map Body.D).length + 1) * 40 ≤ _; rw [List.length_map]; omega) (by show (l.bodies.map Body.D).length + 1 ≤ _; rw [List.length_map]; omega) ?_
      refine AOps.frz tok 53 rfl rfl ?_
      refine AOps.run tok 2 _ _ _ _ rfl ?_
      refine AOps.nil ?_
      exact ⟨(), by rw [show BodiesD (l.bodies ++ [furB]) = .sl 2 (l.bodies.map Body.D ++ [furB.D]) by show D.sl 2 _ = _; rw [List.map_append]; rfl]; rfl, trivial⟩
    refine AW.seq ?_
    refine AW.seq ?_
    refine AW.region ?_
    refine AOps.run tok 1 _ _ _ _ rfl ?_
    refine AOps.call tok rfl rfl rfl rfl cCm ?_
    rcases hM : chk { l with bodies := l.bodies ++ [furB] } with _ | k
    rotate_left
    · refine AOps.err tok rfl rfl rfl rfl rfl ?_
      refine AOps.nil ?_
      refine AW.condT rfl ?_
      refine AW.seq ?_
      refine AW.region ?_
      refine AOps.run tok 1 _ _ _ _ rfl ?_
      refine AOps.nil ?_
      exact AW.ret rfl
    refine AOps.err tok rfl rfl rfl rfl rfl ?_
    refine AOps.nil ?_
    refine AW.condF rfl ?_
    refine AW.skip ?_
    have hsm : splitD { l with bodies := l.bodies ++ [furB] } = .tu [spX { l with bodies := l.bodies ++ [furB] }, er 7] := by rw [split_sp hM, hmb]; rfl
    rw [hsm] at cSm
    generalize spX { l with bodies := l.bodies ++ [furB] } = Xm at cSm
    refine AW.seq ?_
    refine AW.seq ?_
    refine AW.region ?_
    refine AOps.run tok 1 _ _ _ _ rfl ?_
    refine AOps.call tok rfl rfl rfl rfl cSm ?_
    refine AOps.run tok 5 _ _ _ _ rfl ?_
    refine AOps.nil ?_
    refine AW.seq ?_
    refine AW.region ?_
    refine AOps.run tok 1 _ _ _ _ rfl ?_
    refine AOps.call tok rfl rfl rfl rfl (base_Is_ok 7 7) ?_
    refine AOps.run tok 1 _ _ _ _ rfl ?_
    refine AOps.nil ?_
    refine AW.condF rfl ?_
    refine AW.skip ?_
    refine AW.cut [1, 4, 5] (fun _ : Unit => [(1, .bx [dS l.nm, BodiesD l.bodies, JointsD l.joints, DriversD l.drivers]), (4, .d (spE E)), (5, .bx [dS l.nm, BodiesD (l.bodies ++ [furB]), JointsD l.joints, DriversD l.drivers])]) (fun _ => True) ?_ (fun _ _ => ?_)
    · refine AW.seq ?_
      refine AW.region ?_
      refine AOps.run tok 3 _ _ _ _ rfl ?_
      rw [List.length_map]
      refine AOps.run tok 1 _ _ _ _ rfl ?_
      by_cases hj0 : 0 < l.joints.length
      rotate_left
      · rw [show decide ((0 : Int) < (l.joints.length : Int)) = false from decide_eq_false (by omega)]
        refine AOps.nil ?_
        refine AW.condF rfl ?_
        refine AW.skip ?_
        exact ⟨(), rfl, trivial⟩
      rw [show decide ((0 : Int) < (l.joints.length : Int)) = true from decide_eq_true (by omega)]
      refine AOps.nil ?_
      refine AW.condT rfl ?_
      have hjx := getJ hj0
      have hmj := fun j => more_joint (l := l) hj0 j
      generalize l.joints.getD 0 default = x at hjx hmj
      have hn := more_ok2 hs (by omega) x
      have cCn := model_Check_ok _ hn (by decide)
      have cSn := groups_Split_ok _ hn (by decide)
      have hmj := hmj (agaJ x) ⟨rfl, rfl, rfl⟩
      refine AW.seq ?_
      refine AW.region ?_
      refine AOps.run tok 3 _ _ _ _ rfl ?_
      refine AOps.nil ?_
      refine AW.seq ?_
      refine AW.region ?_
      refine AOps.run tok 2 _ _ _ _ rfl ?_
      refine AOps.idx tok x.D rfl rfl rfl rfl (Int.le_refl 0) hjx ?_
      refine AOps.run tok 3 _ _ _ _ rfl ?_
      refine AOps.nil ?_
      refine AW.seq ?_
      refine AW.region ?_
      refine AOps.run tok 2 _ _ _ _ rfl ?_
      refine AOps.nil ?_
      refine AW.cut [1, 4, 5, 8] (fun _ : Unit => [(1, .bx [dS l.nm, BodiesD l.bodies, JointsD l.joints, DriversD l.drivers]), (4, .d (spE E)), (5, .bx [dS l.nm, BodiesD (l.bodies ++ [furB]), JointsD l.joints, DriversD l.drivers]), (8, .bx [dS l.nm, BodiesD l.bodies, JointsD (l.joints ++ [agaJ x]), DriversD l.drivers])]) (fun _ => True) ?_ (fun _ _ => ?_)
      · refine AZ.aw ?_
        refine AZ.any hmix (ZH.any (β := [(1, [dS l.nm, BodiesD l.bodies, JointsD l.joints, DriversD l.drivers])]) ?_)
        refine ZH.fd tok 1 rfl rfl (by kernel_rfl) (by kernel_rfl) (by kernel_rfl) rfl (fun _ _ _ h => h) (fun _ => rfl) ⟨rfl, trivial⟩ (fun B1 F1 w1 => ?_)
        refine AOps.run tok 1 _ _ _ _ rfl ?_
        refine AOps.nil ⟨rfl, ?_⟩
        refine ZH.meet 0 #[true, true, true, true, true, true, true, true, true] (fun V => []) (fun V => [(1, .bx [dS l.nm, BodiesD l.bodies, JointsD l.joints, DriversD l.drivers]), (4, .d (spE E)), (5, .bx [dS l.nm, BodiesD (l.bodies ++ [furB]), JointsD l.joints, DriversD l.drivers]), (8, .bx [dS l.nm, BodiesD l.bodies, .sl 7 (l.joints.map Joint.D ++ [(agaJ x).D]), DriversD l.drivers]), (9, .bx (agaJ x).D.flat)]) (fun V => ?_) (fun N5_1_2 => ?_)
        · refine ZH.done (by kernel_rfl) ⟨rfl, trivial⟩ ?_
          exact ⟨(), by rw [show JointsD (l.joints ++ [agaJ x]) = .sl 7 (l.joints.map Joint.D ++ [(agaJ x).D]) by show D.sl 7 _ = _; rw [List.map_append]; rfl]; rfl, trivial⟩
        refine ZH.meet 1 #[true, true, true, true, true, true, true, true, false] (fun V => []) (fun V => [(1, .bx [dS l.nm, BodiesD l.bodies, JointsD l.joints, DriversD l.drivers]), (4, .d (spE E)), (5, .bx [dS l.nm, BodiesD (l.bodies ++ [furB]), JointsD l.joints, DriversD l.drivers]), (8, .bx [dS l.nm, BodiesD l.bodies, JointsD l.joints, DriversD l.drivers]), (9, .bx (agaJ x).D.flat), (82, .d (.sl 7 (l.joints.map Joint.D ++ [(agaJ x).D]))), (83, .pt 8 2)]) (fun V => ?_) (fun N4_1_2 => ?_)
        · refine ZH.all 8 (by kernel_rfl) rfl rfl (fun _ => rfl) ⟨rfl, trivial⟩ ?_
          refine one_step (fun B1 F1 w1 => ?_)
          refine AOps.run tok 1 _ _ _ _ rfl ?_
          refine AOps.nil ⟨rfl, ?_⟩
          refine ZH.to [1, 4, 5, 8, 9] [(1, .bx [dS l.nm, BodiesD l.bodies, JointsD l.joints, DriversD l.drivers]), (4, .d (spE E)), (5, .bx [dS l.nm, BodiesD (l.bodies ++ [furB]), JointsD l.joints, DriversD l.drivers]), (8, .bx [dS l.nm, BodiesD l.bodies, .sl 7 (l.joints.map Joint.D ++ [(agaJ x).D]), DriversD l.drivers]), (9, .bx (agaJ x).D.flat)] rfl ⟨rfl, trivial⟩ ?_
          exact ZH.ls _ (by kernel_rfl) (N5_1_2 V)
        refine ZH.meet 2 #[true, true, true, true, true, true, true, false, false] (fun V => []) (fun V => [(1, .bx [dS l.nm, BodiesD l.bodies, JointsD l.joints, DriversD l.drivers]), (4, .d (spE E)), (5, .bx [dS l.nm, BodiesD (l.bodies ++ [furB]), JointsD l.joints, DriversD l.drivers]), (8, .bx [dS l.nm, BodiesD l.bodies, JointsD l.joints, DriversD l.drivers]), (9, .bx (agaJ x).D.flat), (82, .d (.sl 7 (l.joints.map Joint.D ++ [(agaJ x).D])))]) (fun V => ?_) (fun N3_1_2 => ?_)
        · refine ZH.all 7 (by kernel_rfl) rfl rfl (fun _ => rfl) ⟨rfl, trivial⟩ ?_
          refine one_step (fun B1 F1 w1 => ?_)
          refine AOps.run tok 1 _ _ _ _ rfl ?_
          refine AOps.nil ⟨rfl, ?_⟩
          refine ZH.to [1, 4, 5, 8, 9, 82, 83] [(1, .bx [dS l.nm, BodiesD l.bodies, JointsD l.joints, DriversD l.drivers]), (4, .d (spE E)), (5, .bx [dS l.nm, BodiesD (l.bodies ++ [furB]), JointsD l.joints, DriversD l.drivers]), (8, .bx [dS l.nm, BodiesD l.bodies, JointsD l.joints, DriversD l.drivers]), (9, .bx (agaJ x).D.flat), (82, .d (.sl 7 (l.joints.map Joint.D ++ [(agaJ x).D]))), (83, .pt 8 2)] rfl ⟨rfl, trivial⟩ ?_
          exact ZH.ls _ (by kernel_rfl) (N4_1_2 V)
        refine ZH.meet 3 #[true, true, true, true, true, true, false, false, false] (fun V => []) (fun V => [(1, .bx [dS l.nm, BodiesD l.bodies, JointsD l.joints, DriversD l.drivers]), (4, .d (spE E)), (5, .bx [dS l.nm, BodiesD (l.bodies ++ [furB]), JointsD l.joints, DriversD l.drivers]), (8, .bx [dS l.nm, BodiesD l.bodies, JointsD l.joints, DriversD l.drivers]), (9, .bx (agaJ x).D.flat), (79, .ow 36 (l.joints.map Joint.D)), (81, .d (.sl 7 [(agaJ x).D]))]) (fun V => ?_) (fun N2_1_2 => ?_)
        · refine ZH.all 6 (by kernel_rfl) rfl rfl (fun _ => rfl) ⟨rfl, trivial⟩ ?_
          refine one_step (fun B1 F1 w1 => ?_)
          refine AOps.appo tok rfl rfl rfl rfl rfl rfl (by show ((l.joints.map Joint.D).length + 1) * 64 ≤ _; rw [List.length_map]; omega) (by show (l.joints.map Joint.D).length + 1 ≤ _; rw [List.length_map]; omega) ?_
          refine AOps.frz tok 82 rfl rfl ?_
          refine AOps.nil ⟨rfl, ?_⟩
          refine ZH.to [1, 4, 5, 8, 9, 82] [(1, .bx [dS l.nm, BodiesD l.bodies, JointsD l.joints, DriversD l.drivers]), (4, .d (spE E)), (5, .bx [dS l.nm, BodiesD (l.bodies ++ [furB]), JointsD l.joints, DriversD l.drivers]), (8, .bx [dS l.nm, BodiesD l.bodies, JointsD l.joints, DriversD l.drivers]), (9, .bx (agaJ x).D.flat), (82, .d (.sl 7 (l.joints.map Joint.D ++ [(agaJ x).D])))] rfl ⟨rfl, trivial⟩ ?_
          exact ZH.ls _ (by kernel_rfl) (N3_1_2 V)
        refine ZH.meet 4 #[true, true, true, false, true, true, false, false, false] (fun V => []) (fun V => [(1, .bx [dS l.nm, BodiesD l.bodies, JointsD l.joints, DriversD l.drivers]), (4, .d (spE E)), (5, .bx [dS l.nm, BodiesD (l.bodies ++ [furB]), JointsD l.joints, DriversD l.drivers]), (8, .bx [dS l.nm, BodiesD l.bodies, JointsD l.joints, DriversD l.drivers]), (9, .bx (agaJ x).D.flat), (78, .d (JointsD l.joints)), (76, .e0 36), (81, .d (.sl 7 [(agaJ x).D]))]) (fun V => ?_) (fun N1_1_2 => ?_)
        · refine ZH.all 3 (by kernel_rfl) rfl rfl (fun _ => rfl) ⟨rfl, trivial⟩ ?_
          refine one_step (fun B1 F1 w1 => ?_)
          refine AOps.app0 tok rfl rfl rfl rfl (by show (l.joints.map Joint.D).length * 64 ≤ _; rw [List.length_map]; omega) ?_
          refine AOps.nil ⟨rfl, ?_⟩
          refine ZH.to [1, 4, 5, 8, 9, 79, 81] [(1, .bx [dS l.nm, BodiesD l.bodies, JointsD l.joints, DriversD l.drivers]), (4, .d (spE E)), (5, .bx [dS l.nm, BodiesD (l.bodies ++ [furB]), JointsD l.joints, DriversD l.drivers]), (8, .bx [dS l.nm, BodiesD l.bodies, JointsD l.joints, DriversD l.drivers]), (9, .bx (agaJ x).D.flat), (79, .ow 36 (l.joints.map Joint.D)), (81, .d (.sl 7 [(agaJ x).D]))] rfl ⟨rfl, trivial⟩ ?_
          exact ZH.ls _ (by kernel_rfl) (N2_1_2 V)
        refine ZH.meet 4 #[true, true, true, true, true, false, false, false, false] (fun V => []) (fun V => [(1, .bx [dS l.nm, BodiesD l.bodies, JointsD l.joints, DriversD l.drivers]), (4, .d (spE E)), (5, .bx [dS l.nm, BodiesD (l.bodies ++ [furB]), JointsD l.joints, DriversD l.drivers]), (8, .bx [dS l.nm, BodiesD l.bodies, JointsD l.joints, DriversD l.drivers]), (9, .bx (agaJ x).D.flat), (79, .ow 36 (l.joints.map Joint.D)), (80, .d (agaJ x).D)]) (fun V => ?_) (fun N2_1_1 => ?_)
        · refine ZH.all 5 (by kernel_rfl) rfl rfl (fun _ => rfl) ⟨rfl, trivial⟩ ?_
          refine one_step (fun B1 F1 w1 => ?_)
          refine AOps.bsd tok rfl rfl rfl rfl rfl ?_
          refine AOps.nil ⟨rfl, ?_⟩
          refine ZH.to [1, 4, 5, 8, 9, 79, 81] [(1, .bx [dS l.nm, BodiesD l.bodies, JointsD l.joints, DriversD l.drivers]), (4, .d (spE E)), (5, .bx [dS l.nm, BodiesD (l.bodies ++ [furB]), JointsD l.joints, DriversD l.drivers]), (8, .bx [dS l.nm, BodiesD l.bodies, JointsD l.joints, DriversD l.drivers]), (9, .bx (agaJ x).D.flat), (79, .ow 36 (l.joints.map Joint.D)), (81, .d (.sl 7 [(agaJ x).D]))] rfl ⟨rfl, trivial⟩ ?_
          exact ZH.ls _ (by kernel_rfl) (N2_1_2 V)
        refine ZH.meet 5 #[true, true, false, false, true, true, false, false, false] (fun V => []) (fun V => [(1, .bx [dS l.nm, BodiesD l.bodies, JointsD l.joints, DriversD l.drivers]), (4, .d (spE E)), (5, .bx [dS l.nm, BodiesD (l.bodies ++ [furB]), JointsD l.joints, DriversD l.drivers]), (8, .bx [dS l.nm, BodiesD l.bodies, JointsD l.joints, DriversD l.drivers]), (9, .bx (agaJ x).D.flat), (77, .pt 1 2), (76, .e0 36), (81, .d (.sl 7 [(agaJ x).D]))]) (fun V => ?_) (fun N0_1_2 => ?_)
        · refine ZH.all 2 (by kernel_rfl) rfl rfl (fun _ => rfl) ⟨rfl, trivial⟩ ?_
          refine one_step (fun B1 F1 w1 => ?_)
          refine AOps.run tok 1 _ _ _ _ rfl ?_
          refine AOps.nil ⟨rfl, ?_⟩
          refine ZH.to [1, 4, 5, 8, 9, 78, 76, 81] [(1, .bx [dS l.nm, BodiesD l.bodies, JointsD l.joints, DriversD l.drivers]), (4, .d (spE E)), (5, .bx [dS l.nm, BodiesD (l.bodies ++ [furB]), JointsD l.joints, DriversD l.drivers]), (8, .bx [dS l.nm, BodiesD l.bodies, JointsD l.joints, DriversD l.drivers]), (9, .bx (agaJ x).D.flat), (78, .d (JointsD l.joints)), (76, .e0 36), (81, .d (.sl 7 [(agaJ x).D]))] rfl ⟨rfl, trivial⟩ ?_
          exact ZH.ls _ (by kernel_rfl) (N1_1_2 V)
        refine ZH.meet 5 #[false, true, true, false, true, true, false, false, false] (fun V => []) (fun V => [(1, .bx [dS l.nm, BodiesD l.bodies, JointsD l.joints, DriversD l.drivers]), (4, .d (spE E)), (5, .bx [dS l.nm, BodiesD (l.bodies ++ [furB]), JointsD l.joints, DriversD l.drivers]), (8, .bx [dS l.nm, BodiesD l.bodies, JointsD l.joints, DriversD l.drivers]), (9, .bx (agaJ x).D.flat), (78, .d (JointsD l.joints)), (81, .d (.sl 7 [(agaJ x).D]))]) (fun V => ?_) (fun N1_0_2 => ?_)
        · refine ZH.all 0 (by kernel_rfl) rfl rfl (fun _ => rfl) ⟨rfl, trivial⟩ ?_
          refine one_step (fun B1 F1 w1 => ?_)
          refine AOps.run tok 1 _ _ _ _ rfl ?_
          refine AOps.nil ⟨rfl, ?_⟩
          refine ZH.to [1, 4, 5, 8, 9, 78, 76, 81] [(1, .bx [dS l.nm, BodiesD l.bodies, JointsD l.joints, DriversD l.drivers]), (4, .d (spE E)), (5, .bx [dS l.nm, BodiesD (l.bodies ++ [furB]), JointsD l.joints, DriversD l.drivers]), (8, .bx [dS l.nm, BodiesD l.bodies, JointsD l.joints, DriversD l.drivers]), (9, .bx (agaJ x).D.flat), (78, .d (JointsD l.joints)), (76, .e0 36), (81, .d (.sl 7 [(agaJ x).D]))] rfl ⟨rfl, trivial⟩ ?_
          exact ZH.ls _ (by kernel_rfl) (N1_1_2 V)
        refine ZH.meet 5 #[true, true, true, false, true, false, false, false, false] (fun V => []) (fun V => [(1, .bx [dS l.nm, BodiesD l.bodies, JointsD l.joints, DriversD l.drivers]), (4, .d (spE E)), (5, .bx [dS l.nm, BodiesD (l.bodies ++ [furB]), JointsD l.joints, DriversD l.drivers]), (8, .bx [dS l.nm, BodiesD l.bodies, JointsD l.joints, DriversD l.drivers]), (9, .bx (agaJ x).D.flat), (78, .d (JointsD l.joints)), (76, .e0 36), (80, .d (agaJ x).D)]) (fun V => ?_) (fun N1_1_1 => ?_)
        · refine ZH.two 3 5 (by kernel_rfl) rfl rfl rfl rfl (fun _ => rfl) (fun _ => rfl) ⟨rfl, trivial⟩ ?_ ?_
          · refine one_step (fun B1 F1 w1 => ?_)
            refine AOps.app0 tok rfl rfl rfl rfl (by show (l.joints.map Joint.D).length * 64 ≤ _; rw [List.length_map]; omega) ?_
            refine AOps.nil ⟨rfl, ?_⟩
            refine ZH.to [1, 4, 5, 8, 9, 79, 80] [(1, .bx [dS l.nm, BodiesD l.bodies, JointsD l.joints, DriversD l.drivers]), (4, .d (spE E)), (5, .bx [dS l.nm, BodiesD (l.bodies ++ [furB]), JointsD l.joints, DriversD l.drivers]), (8, .bx [dS l.nm, BodiesD l.bodies, JointsD l.joints, DriversD l.drivers]), (9, .bx (agaJ x).D.flat), (79, .ow 36 (l.joints.map Joint.D)), (80, .d (agaJ x).D)] rfl ⟨rfl, trivial⟩ ?_
            exact ZH.ls _ (by kernel_rfl) (N2_1_1 V)
          · refine one_step (fun B1 F1 w1 => ?_)
            refine AOps.bsd tok rfl rfl rfl rfl rfl ?_
            refine AOps.nil ⟨rfl, ?_⟩
            refine ZH.to [1, 4, 5, 8, 9, 78, 76, 81] [(1, .bx [dS l.nm, BodiesD l.bodies, JointsD l.joints, DriversD l.drivers]), (4, .d (spE E)), (5, .bx [dS l.nm, BodiesD (l.bodies ++ [furB]), JointsD l.joints, DriversD l.drivers]), (8, .bx [dS l.nm, BodiesD l.bodies, JointsD l.joints, DriversD l.drivers]), (9, .bx (agaJ x).D.flat), (78, .d (JointsD l.joints)), (76, .e0 36), (81, .d (.sl 7 [(agaJ x).D]))] rfl ⟨rfl, trivial⟩ ?_
            exact ZH.ls _ (by kernel_rfl) (N1_1_2 V)
        refine ZH.meet 5 #[true, true, true, true, false, false, false, false, false] (fun V => []) (fun V => [(1, .bx [dS l.nm, BodiesD l.bodies, JointsD l.joints, DriversD l.drivers]), (4, .d (spE E)), (5, .bx [dS l.nm, BodiesD (l.bodies ++ [furB]), JointsD l.joints, DriversD l.drivers]), (8, .bx [dS l.nm, BodiesD l.bodies, JointsD l.joints, DriversD l.drivers]), (9, .bx (agaJ x).D.flat), (79, .ow 36 (l.joints.map Joint.D))]) (fun V => ?_) (fun N2_1_0 => ?_)
        · refine ZH.all 4 (by kernel_rfl) rfl rfl (fun _ => rfl) ⟨rfl, trivial⟩ ?_
          refine one_step (fun B1 F1 w1 => ?_)
          refine AOps.run tok 1 _ _ _ _ rfl ?_
          refine AOps.nil ⟨rfl, ?_⟩
          refine ZH.to [1, 4, 5, 8, 9, 79, 80] [(1, .bx [dS l.nm, BodiesD l.bodies, JointsD l.joints, DriversD l.drivers]), (4, .d (spE E)), (5, .bx [dS l.nm, BodiesD (l.bodies ++ [furB]), JointsD l.joints, DriversD l.drivers]), (8, .bx [dS l.nm, BodiesD l.bodies, JointsD l.joints, DriversD l.drivers]), (9, .bx (agaJ x).D.flat), (79, .ow 36 (l.joints.map Joint.D)), (80, .d (agaJ x).D)] rfl ⟨rfl, trivial⟩ ?_
          exact ZH.ls _ (by kernel_rfl) (N2_1_1 V)
        refine ZH.meet 6 #[false, true, false, false, true, true, false, false, false] (fun V => []) (fun V => [(1, .bx [dS l.nm, BodiesD l.bodies, JointsD l.joints, DriversD l.drivers]), (4, .d (spE E)), (5, .bx [dS l.nm, BodiesD (l.bodies ++ [furB]), JointsD l.joints, DriversD l.drivers]), (8, .bx [dS l.nm, BodiesD l.bodies, JointsD l.joints, DriversD l.drivers]), (9, .bx (agaJ x).D.flat), (77, .pt 1 2), (81, .d (.sl 7 [(agaJ x).D]))]) (fun V => ?_) (fun N0_0_2 => ?_)
        · refine ZH.two 0 2 (by kernel_rfl) rfl rfl rfl rfl (fun _ => rfl) (fun _ => rfl) ⟨rfl, trivial⟩ ?_ ?_
          · refine one_step (fun B1 F1 w1 => ?_)
            refine AOps.run tok 1 _ _ _ _ rfl ?_
            refine AOps.nil ⟨rfl, ?_⟩
            refine ZH.to [1, 4, 5, 8, 9, 77, 76, 81] [(1, .bx [dS l.nm, BodiesD l.bodies, JointsD l.joints, DriversD l.drivers]), (4, .d (spE E)), (5, .bx [dS l.nm, BodiesD (l.bodies ++ [furB]), JointsD l.joints, DriversD l.drivers]), (8, .bx [dS l.nm, BodiesD l.bodies, JointsD l.joints, DriversD l.drivers]), (9, .bx (agaJ x).D.flat), (77, .pt 1 2), (76, .e0 36), (81, .d (.sl 7 [(agaJ x).D]))] rfl ⟨rfl, trivial⟩ ?_
            exact ZH.ls _ (by kernel_rfl) (N0_1_2 V)
          · refine one_step (fun B1 F1 w1 => ?_)
            refine AOps.run tok 1 _ _ _ _ rfl ?_
            refine AOps.nil ⟨rfl, ?_⟩
            refine ZH.to [1, 4, 5, 8, 9, 78, 81] [(1, .bx [dS l.nm, BodiesD l.bodies, JointsD l.joints, DriversD l.drivers]), (4, .d (spE E)), (5, .bx [dS l.nm, BodiesD (l.bodies ++ [furB]), JointsD l.joints, DriversD l.drivers]), (8, .bx [dS l.nm, BodiesD l.bodies, JointsD l.joints, DriversD l.drivers]), (9, .bx (agaJ x).D.flat), (78, .d (JointsD l.joints)), (81, .d (.sl 7 [(agaJ x).D]))] rfl ⟨rfl, trivial⟩ ?_
            exact ZH.ls _ (by kernel_rfl) (N1_0_2 V)
        refine ZH.meet 6 #[true, true, false, false, true, false, false, false, false] (fun V => []) (fun V => [(1, .bx [dS l.nm, BodiesD l.bodies, JointsD l.joints, DriversD l.drivers]), (4, .d (spE E)), (5, .bx [dS l.nm, BodiesD (l.bodies ++ [furB]), JointsD l.joints, DriversD l.drivers]), (8, .bx [dS l.nm, BodiesD l.bodies, JointsD l.joints, DriversD l.drivers]), (9, .bx (agaJ x).D.flat), (77, .pt 1 2), (76, .e0 36), (80, .d (agaJ x).D)]) (fun V => ?_) (fun N0_1_1 => ?_)
        · refine ZH.two 2 5 (by kernel_rfl) rfl rfl rfl rfl (fun _ => rfl) (fun _ => rfl) ⟨rfl, trivial⟩ ?_ ?_
          · refine one_step (fun B1 F1 w1 => ?_)
            refine AOps.run tok 1 _ _ _ _ rfl ?_
            refine AOps.nil ⟨rfl, ?_⟩
            refine ZH.to [1, 4, 5, 8, 9, 78, 76, 80] [(1, .bx [dS l.nm, BodiesD l.bodies, JointsD l.joints, DriversD l.drivers]), (4, .d (spE E)), (5, .bx [dS l.nm, BodiesD (l.bodies ++ [furB]), JointsD l.joints, DriversD l.drivers]), (8, .bx [dS l.nm, BodiesD l.bodies, JointsD l.joints, DriversD l.drivers]), (9, .bx (agaJ x).D.flat), (78, .d (JointsD l.joints)), (76, .e0 36), (80, .d (agaJ x).D)] rfl ⟨rfl, trivial⟩ ?_
            exact ZH.ls _ (by kernel_rfl) (N1_1_1 V)
          · refine one_step (fun B1 F1 w1 => ?_)
            refine AOps.bsd tok rfl rfl rfl rfl rfl ?_
            refine AOps.nil ⟨rfl, ?_⟩
            refine ZH.to [1, 4, 5, 8, 9, 77, 76, 81] [(1, .bx [dS l.nm, BodiesD l.bodies, JointsD l.joints, DriversD l.drivers]), (4, .d (spE E)), (5, .bx [dS l.nm, BodiesD (l.bodies ++ [furB]), JointsD l.joints, DriversD l.drivers]), (8, .bx [dS l.nm, BodiesD l.bodies, JointsD l.joints, DriversD l.drivers]), (9, .bx (agaJ x).D.flat), (77, .pt 1 2), (76, .e0 36), (81, .d (.sl 7 [(agaJ x).D]))] rfl ⟨rfl, trivial⟩ ?_
            exact ZH.ls _ (by kernel_rfl) (N0_1_2 V)
        refine ZH.meet 6 #[false, true, true, false, true, false, false, false, false] (fun V => []) (fun V => [(1, .bx [dS l.nm, BodiesD l.bodies, JointsD l.joints, DriversD l.drivers]), (4, .d (spE E)), (5, .bx [dS l.nm, BodiesD (l.bodies ++ [furB]), JointsD l.joints, DriversD l.drivers]), (8, .bx [dS l.nm, BodiesD l.bodies, JointsD l.joints, DriversD l.drivers]), (9, .bx (agaJ x).D.flat), (78, .d (JointsD l.joints)), (80, .d (agaJ x).D)]) (fun V => ?_) (fun N1_0_1 => ?_)
        · refine ZH.two 0 5 (by kernel_rfl) rfl rfl rfl rfl (fun _ => rfl) (fun _ => rfl) ⟨rfl, trivial⟩ ?_ ?_
          · refine one_step (fun B1 F1 w1 => ?_)
            refine AOps.run tok 1 _ _ _ _ rfl ?_
            refine AOps.nil ⟨rfl, ?_⟩
            refine ZH.to [1, 4, 5, 8, 9, 78, 76, 80] [(1, .bx [dS l.nm, BodiesD l.bodies, JointsD l.joints, DriversD l.drivers]), (4, .d (spE E)), (5, .bx [dS l.nm, BodiesD (l.bodies ++ [furB]), JointsD l.joints, DriversD l.drivers]), (8, .bx [dS l.nm, BodiesD l.bodies, JointsD l.joints, DriversD l.drivers]), (9, .bx (agaJ x).D.flat), (78, .d (JointsD l.joints)), (76, .e0 36), (80, .d (agaJ x).D)] rfl ⟨rfl, trivial⟩ ?_
            exact ZH.ls _ (by kernel_rfl) (N1_1_1 V)
          · refine one_step (fun B1 F1 w1 => ?_)
            refine AOps.bsd tok rfl rfl rfl rfl rfl ?_
            refine AOps.nil ⟨rfl, ?_⟩
            refine ZH.to [1, 4, 5, 8, 9, 78, 81] [(1, .bx [dS l.nm, BodiesD l.bodies, JointsD l.joints, DriversD l.drivers]), (4, .d (spE E)), (5, .bx [dS l.nm, BodiesD (l.bodies ++ [furB]), JointsD l.joints, DriversD l.drivers]), (8, .bx [dS l.nm, BodiesD l.bodies, JointsD l.joints, DriversD l.drivers]), (9, .bx (agaJ x).D.flat), (78, .d (JointsD l.joints)), (81, .d (.sl 7 [(agaJ x).D]))] rfl ⟨rfl, trivial⟩ ?_
            exact ZH.ls _ (by kernel_rfl) (N1_0_2 V)
        refine ZH.meet 6 #[true, true, true, false, false, false, false, false, false] (fun V => []) (fun V => [(1, .bx [dS l.nm, BodiesD l.bodies, JointsD l.joints, DriversD l.drivers]), (4, .d (spE E)), (5, .bx [dS l.nm, BodiesD (l.bodies ++ [furB]), JointsD l.joints, DriversD l.drivers]), (8, .bx [dS l.nm, BodiesD l.bodies, JointsD l.joints, DriversD l.drivers]), (9, .bx (agaJ x).D.flat), (78, .d (JointsD l.joints)), (76, .e0 36)]) (fun V => ?_) (fun N1_1_0 => ?_)
        · refine ZH.two 3 4 (by kernel_rfl) rfl rfl rfl rfl (fun _ => rfl) (fun _ => rfl) ⟨rfl, trivial⟩ ?_ ?_
          · refine one_step (fun B1 F1 w1 => ?_)
            refine AOps.app0 tok rfl rfl rfl rfl (by show (l.joints.map Joint.D).length * 64 ≤ _; rw [List.length_map]; omega) ?_
            refine AOps.nil ⟨rfl, ?_⟩
            refine ZH.to [1, 4, 5, 8, 9, 79] [(1, .bx [dS l.nm, BodiesD l.bodies, JointsD l.joints, DriversD l.drivers]), (4, .d (spE E)), (5, .bx [dS l.nm, BodiesD (l.bodies ++ [furB]), JointsD l.joints, DriversD l.drivers]), (8, .bx [dS l.nm, BodiesD l.bodies, JointsD l.joints, DriversD l.drivers]), (9, .bx (agaJ x).D.flat), (79, .ow 36 (l.joints.map Joint.D))] rfl ⟨rfl, trivial⟩ ?_
            exact ZH.ls _ (by kernel_rfl) (N2_1_0 V)
          · refine one_step (fun B1 F1 w1 => ?_)
            refine AOps.run tok 1 _ _ _ _ rfl ?_
            refine AOps.nil ⟨rfl, ?_⟩
            refine ZH.to [1, 4, 5, 8, 9, 78, 76, 80] [(1, .bx [dS l.nm, BodiesD l.bodies, JointsD l.joints, DriversD l.drivers]), (4, .d (spE E)), (5, .bx [dS l.nm, BodiesD (l.bodies ++ [furB]), JointsD l.joints, DriversD l.drivers]), (8, .bx [dS l.nm, BodiesD l.bodies, JointsD l.joints, DriversD l.drivers]), (9, .bx (agaJ x).D.flat), (78, .d (JointsD l.joints)), (76, .e0 36), (80, .d (agaJ x).D)] rfl ⟨rfl, trivial⟩ ?_
            exact ZH.ls _ (by kernel_rfl) (N1_1_1 V)
        refine ZH.meet 7 #[false, true, false, false, true, false, false, false, false] (fun V => []) (fun V => [(1, .bx [dS l.nm, BodiesD l.bodies, JointsD l.joints, DriversD l.drivers]), (4, .d (spE E)), (5, .bx [dS l.nm, BodiesD (l.bodies ++ [furB]), JointsD l.joints, DriversD l.drivers]), (8, .bx [dS l.nm, BodiesD l.bodies, JointsD l.joints, DriversD l.drivers]), (9, .bx (agaJ x).D.flat), (77, .pt 1 2), (80, .d (agaJ x).D)]) (fun V => ?_) (fun N0_0_1 => ?_)
        · refine ZH.three 0 2 5 (by kernel_rfl) rfl rfl rfl rfl rfl rfl (fun _ => rfl) (fun _ => rfl) (fun _ => rfl) ⟨rfl, trivial⟩ ?_ ?_ ?_
          · refine one_step (fun B1 F1 w1 => ?_)
            refine AOps.run tok 1 _ _ _ _ rfl ?_
            refine AOps.nil ⟨rfl, ?_⟩
            refine ZH.to [1, 4, 5, 8, 9, 77, 76, 80] [(1, .bx [dS l.nm, BodiesD l.bodies, JointsD l.joints, DriversD l.drivers]), (4, .d (spE E)), (5, .bx [dS l.nm, BodiesD (l.bodies ++ [furB]), JointsD l.joints, DriversD l.drivers]), (8, .bx [dS l.nm, BodiesD l.bodies, JointsD l.joints, DriversD l.drivers]), (9, .bx (agaJ x).D.flat), (77, .pt 1 2), (76, .e0 36), (80, .d (agaJ x).D)] rfl ⟨rfl, trivial⟩ ?_
            exact ZH.ls _ (by kernel_rfl) (N0_1_1 V)
          · refine one_step (fun B1 F1 w1 => ?_)
            refine AOps.run tok 1 _ _ _ _ rfl ?_
            refine AOps.nil ⟨rfl, ?_⟩
            refine ZH.to [1, 4, 5, 8, 9, 78, 80] [(1, .bx [dS l.nm, BodiesD l.bodies, JointsD l.joints, DriversD l.drivers]), (4, .d (spE E)), (5, .bx [dS l.nm, BodiesD (l.bodies ++ [furB]), JointsD l.joints, DriversD l.drivers]), (8, .bx [dS l.nm, BodiesD l.bodies, JointsD l.joints, DriversD l.drivers]), (9, .bx (agaJ x).D.flat), (78, .d (JointsD l.joints)), (80, .d (agaJ x).D)] rfl ⟨rfl, trivial⟩ ?_
            exact ZH.ls _ (by kernel_rfl) (N1_0_1 V)
          · refine one_step (fun B1 F1 w1 => ?_)
            refine AOps.bsd tok rfl rfl rfl rfl rfl ?_
            refine AOps.nil ⟨rfl, ?_⟩
            refine ZH.to [1, 4, 5, 8, 9, 77, 81] [(1, .bx [dS l.nm, BodiesD l.bodies, JointsD l.joints, DriversD l.drivers]), (4, .d (spE E)), (5, .bx [dS l.nm, BodiesD (l.bodies ++ [furB]), JointsD l.joints, DriversD l.drivers]), (8, .bx [dS l.nm, BodiesD l.bodies, JointsD l.joints, DriversD l.drivers]), (9, .bx (agaJ x).D.flat), (77, .pt 1 2), (81, .d (.sl 7 [(agaJ x).D]))] rfl ⟨rfl, trivial⟩ ?_
            exact ZH.ls _ (by kernel_rfl) (N0_0_2 V)
        refine ZH.meet 7 #[true, true, false, false, false, false, false, false, false] (fun V => []) (fun V => [(1, .bx [dS l.nm, BodiesD l.bodies, JointsD l.joints, DriversD l.drivers]), (4, .d (spE E)), (5, .bx [dS l.nm, BodiesD (l.bodies ++ [furB]), JointsD l.joints, DriversD l.drivers]), (8, .bx [dS l.nm, BodiesD l.bodies, JointsD l.joints, DriversD l.drivers]), (9, .bx (agaJ x).D.flat), (77, .pt 1 2), (76, .e0 36)]) (fun V => ?_) (fun N0_1_0 => ?_)
        · refine ZH.two 2 4 (by kernel_rfl) rfl rfl rfl rfl (fun _ => rfl) (fun _ => rfl) ⟨rfl, trivial⟩ ?_ ?_
          · refine one_step (fun B1 F1 w1 => ?_)
            refine AOps.run tok 1 _ _ _ _ rfl ?_
            refine AOps.nil ⟨rfl, ?_⟩
            refine ZH.to [1, 4, 5, 8, 9, 78, 76] [(1, .bx [dS l.nm, BodiesD l.bodies, JointsD l.joints, DriversD l.drivers]), (4, .d (spE E)), (5, .bx [dS l.nm, BodiesD (l.bodies ++ [furB]), JointsD l.joints, DriversD l.drivers]), (8, .bx [dS l.nm, BodiesD l.bodies, JointsD l.joints, DriversD l.drivers]), (9, .bx (agaJ x).D.flat), (78, .d (JointsD l.joints)), (76, .e0 36)] rfl ⟨rfl, trivial⟩ ?_
            exact ZH.ls _ (by kernel_rfl) (N1_1_0 V)
          · refine one_step (fun B1 F1 w1 => ?_)
            refine AOps.run tok 1 _ _ _ _ rfl ?_
            refine AOps.nil ⟨rfl, ?_⟩
            refine ZH.to [1, 4, 5, 8, 9, 77, 76, 80] [(1, .bx [dS l.nm, BodiesD l.bodies, JointsD l.joints, DriversD l.drivers]), (4, .d (spE E)), (5, .bx [dS l.nm, BodiesD (l.bodies ++ [furB]), JointsD l.joints, DriversD l.drivers]), (8, .bx [dS l.nm, BodiesD l.bodies, JointsD l.joints, DriversD l.drivers]), (9, .bx (agaJ x).D.flat), (77, .pt 1 2), (76, .e0 36), (80, .d (agaJ x).D)] rfl ⟨rfl, trivial⟩ ?_
            exact ZH.ls _ (by kernel_rfl) (N0_1_1 V)
        refine ZH.meet 7 #[false, true, true, false, false, false, false, false, false] (fun V => []) (fun V => [(1, .bx [dS l.nm, BodiesD l.bodies, JointsD l.joints, DriversD l.drivers]), (4, .d (spE E)), (5, .bx [dS l.nm, BodiesD (l.bodies ++ [furB]), JointsD l.joints, DriversD l.drivers]), (8, .bx [dS l.nm, BodiesD l.bodies, JointsD l.joints, DriversD l.drivers]), (9, .bx (agaJ x).D.flat), (78, .d (JointsD l.joints))]) (fun V => ?_) (fun N1_0_0 => ?_)
        · refine ZH.two 0 4 (by kernel_rfl) rfl rfl rfl rfl (fun _ => rfl) (fun _ => rfl) ⟨rfl, trivial⟩ ?_ ?_
          · refine one_step (fun B1 F1 w1 => ?_)
            refine AOps.run tok 1 _ _ _ _ rfl ?_
            refine AOps.nil ⟨rfl, ?_⟩
            refine ZH.to [1, 4, 5, 8, 9, 78, 76] [(1, .bx [dS l.nm, BodiesD l.bodies, JointsD l.joints, DriversD l.drivers]), (4, .d (spE E)), (5, .bx [dS l.nm, BodiesD (l.bodies ++ [furB]), JointsD l.joints, DriversD l.drivers]), (8, .bx [dS l.nm, BodiesD l.bodies, JointsD l.joints, DriversD l.drivers]), (9, .bx (agaJ x).D.flat), (78, .d (JointsD l.joints)), (76, .e0 36)] rfl ⟨rfl, trivial⟩ ?_
            exact ZH.ls _ (by kernel_rfl) (N1_1_0 V)
          · refine one_step (fun B1 F1 w1 => ?_)
            refine AOps.run tok 1 _ _ _ _ rfl ?_
            refine AOps.nil ⟨rfl, ?_⟩
            refine ZH.to [1, 4, 5, 8, 9, 78, 80] [(1, .bx [dS l.nm, BodiesD l.bodies, JointsD l.joints, DriversD l.drivers]), (4, .d (spE E)), (5, .bx [dS l.nm, BodiesD (l.bodies ++ [furB]), JointsD l.joints, DriversD l.drivers]), (8, .bx [dS l.nm, BodiesD l.bodies, JointsD l.joints, DriversD l.drivers]), (9, .bx (agaJ x).D.flat), (78, .d (JointsD l.joints)), (80, .d (agaJ x).D)] rfl ⟨rfl, trivial⟩ ?_
            exact ZH.ls _ (by kernel_rfl) (N1_0_1 V)
        refine ZH.meet 8 #[false, true, false, false, false, false, false, false, false] (fun V => []) (fun V => [(1, .bx [dS l.nm, BodiesD l.bodies, JointsD l.joints, DriversD l.drivers]), (4, .d (spE E)), (5, .bx [dS l.nm, BodiesD (l.bodies ++ [furB]), JointsD l.joints, DriversD l.drivers]), (8, .bx [dS l.nm, BodiesD l.bodies, JointsD l.joints, DriversD l.drivers]), (9, .bx (agaJ x).D.flat), (77, .pt 1 2)]) (fun V => ?_) (fun N0_0_0 => ?_)
        · refine ZH.three 0 2 4 (by kernel_rfl) rfl rfl rfl rfl rfl rfl (fun _ => rfl) (fun _ => rfl) (fun _ => rfl) ⟨rfl, trivial⟩ ?_ ?_ ?_
          · refine one_step (fun B1 F1 w1 => ?_)
            refine AOps.run tok 1 _ _ _ _ rfl ?_
            refine AOps.nil ⟨rfl, ?_⟩
            refine ZH.to [1, 4, 5, 8, 9, 77, 76] [(1, .bx [dS l.nm, BodiesD l.bodies, JointsD l.joints, DriversD l.drivers]), (4, .d (spE E)), (5, .bx [dS l.nm, BodiesD (l.bodies ++ [furB]), JointsD l.joints, DriversD l.drivers]), (8, .bx [dS l.nm, BodiesD l.bodies, JointsD l.joints, DriversD l.drivers]), (9, .bx (agaJ x).D.flat), (77, .pt 1 2), (76, .e0 36)] rfl ⟨rfl, trivial⟩ ?_
            exact ZH.ls _ (by kernel_rfl) (N0_1_0 V)
          · refine one_step (fun B1 F1 w1 => ?_)
            refine AOps.run tok 1 _ _ _ _ rfl ?_
            refine AOps.nil ⟨rfl, ?_⟩
            refine ZH.to [1, 4, 5, 8, 9, 78] [(1, .bx [dS l.nm, BodiesD l.bodies, JointsD l.joints, DriversD l.drivers]), (4, .d (spE E)), (5, .bx [dS l.nm, BodiesD (l.bodies ++ [furB]), JointsD l.joints, DriversD l.drivers]), (8, .bx [dS l.nm, BodiesD l.bodies, JointsD l.joints, DriversD l.drivers]), (9, .bx (agaJ x).D.flat), (78, .d (JointsD l.joints))] rfl ⟨rfl, trivial⟩ ?_
            exact ZH.ls _ (by kernel_rfl) (N1_0_0 V)
          · refine one_step (fun B1 F1 w1 => ?_)
            refine AOps.run tok 1 _ _ _ _ rfl ?_
            refine AOps.nil ⟨rfl, ?_⟩
            refine ZH.to [1, 4, 5, 8, 9, 77, 80] [(1, .bx [dS l.nm, BodiesD l.bodies, JointsD l.joints, DriversD l.drivers]), (4, .d (spE E)), (5, .bx [dS l.nm, BodiesD (l.bodies ++ [furB]), JointsD l.joints, DriversD l.drivers]), (8, .bx [dS l.nm, BodiesD l.bodies, JointsD l.joints, DriversD l.drivers]), (9, .bx (agaJ x).D.flat), (77, .pt 1 2), (80, .d (agaJ x).D)] rfl ⟨rfl, trivial⟩ ?_
            exact ZH.ls _ (by kernel_rfl) (N0_0_1 V)
        refine ZH.to [1, 4, 5, 8, 9, 77] [(1, .bx [dS l.nm, BodiesD l.bodies, JointsD l.joints, DriversD l.drivers]), (4, .d (spE E)), (5, .bx [dS l.nm, BodiesD (l.bodies ++ [furB]), JointsD l.joints, DriversD l.drivers]), (8, .bx [dS l.nm, BodiesD l.bodies, JointsD l.joints, DriversD l.drivers]), (9, .bx (agaJ x).D.flat), (77, .pt 1 2)] rfl ⟨rfl, trivial⟩ ?_
        exact ZH.ls _ (by kernel_rfl) (N0_0_0 nilS)
      rcases hN : chk { l with joints := l.joints ++ [agaJ x] } with _ | k
      rotate_left
      · rw [show splitD { l with joints := l.joints ++ [agaJ x] } = .tu [.sl 4 [], erV (k + 1)] by unfold splitD; rw [hN, if_neg (Nat.succ_ne_zero k)]] at cSn
        rw [hN] at cCn
        refine AW.seq ?_
        refine AW.region ?_
        refine AOps.run tok 1 _ _ _ _ rfl ?_
        refine AOps.call tok rfl rfl rfl rfl cSn ?_
        refine AOps.run tok 5 _ _ _ _ rfl ?_
        refine AOps.nil ?_
        refine AW.seq ?_
        refine AW.region ?_
        refine AOps.run tok 1 _ _ _ _ rfl ?_
        refine AOps.call tok rfl rfl rfl rfl cCn ?_
        refine AOps.err tok rfl rfl rfl rfl rfl ?_
        refine AOps.run tok 5 _ _ _ _ rfl ?_
        refine AOps.nil ?_
        refine AW.condF rfl ?_
        refine AW.skip ?_
        exact ⟨(), rfl, trivial⟩
      rw [split_sp hN, hmj, Bool.or_true] at cSn
      rw [hN] at cCn
      generalize spX { l with joints := l.joints ++ [agaJ x] } = Xn at cSn
      refine AW.seq ?_
      refine AW.region ?_
      refine AOps.run tok 1 _ _ _ _ rfl ?_
      refine AOps.call tok rfl rfl rfl rfl cSn ?_
      refine AOps.run tok 5 _ _ _ _ rfl ?_
      refine AOps.nil ?_
      refine AW.seq ?_
      refine AW.region ?_
      refine AOps.run tok 1 _ _ _ _ rfl ?_
      refine AOps.call tok rfl rfl rfl rfl cCn ?_
      refine AOps.err tok rfl rfl rfl rfl rfl ?_
      refine AOps.run tok 2 _ _ _ _ rfl ?_
      refine AOps.call tok rfl rfl rfl rfl (base_Is_ok 7 7) ?_
      refine AOps.run tok 2 _ _ _ _ rfl ?_
      refine AOps.nil ?_
      refine AW.condF rfl ?_
      refine AW.skip ?_
      exact ⟨(), rfl, trivial⟩
    refine AW.seq ?_
    refine AW.seq ?_
    refine AW.region ?_
    refine AOps.run tok 3 _ _ _ _ rfl ?_
    rw [List.length_map]
    refine AOps.run tok 1 _ _ _ _ rfl ?_
    by_cases hd0 : 2 ≤ l.drivers.length
    · rw [show decide ((2 : Int) ≤ (l.drivers.length : Int)) = true from decide_eq_true (by omega)]
      refine AOps.run tok 9 _ _ _ _ rfl ?_
      refine AOps.nil ?_
      refine AW.condT rfl ?_
      refine AW.seq ?_
      refine AW.region ?_
      refine AOps.run tok 1 _ _ _ _ rfl ?_
      refine AOps.nil ?_
      exact AW.ret rfl
    rw [show decide ((2 : Int) ≤ (l.drivers.length : Int)) = false from decide_eq_false (by omega)]
    refine AOps.run tok 3 _ _ _ _ rfl ?_
    refine AOps.idx tok (l.bodies.getD 0 default).D rfl rfl rfl rfl (Int.le_refl 0) (getM Body.D hb1) ?_
    refine AOps.run tok 3 _ _ _ _ rfl ?_
    rw [List.length_map]
    refine AOps.run tok 1 _ _ _ _ rfl ?_
    by_cases hp0 : (l.bodies.getD 0 default).pts.length = 0
    · rw [show (((l.bodies.getD 0 default).pts.length : Int) == 0) = true from decide_eq_true (by omega)]
      refine AOps.run tok 1 _ _ _ _ rfl ?_
      refine AOps.nil ?_
      refine AW.condT rfl ?_
      refine AW.seq ?_
      refine AW.region ?_
      refine AOps.run tok 1 _ _ _ _ rfl ?_
      refine AOps.nil ?_
      exact AW.ret rfl
    rw [show (((l.bodies.getD 0 default).pts.length : Int) == 0) = false from decide_eq_false (by omega)]
    refine AOps.run tok 1 _ _ _ _ rfl ?_
    refine AOps.nil ?_
    refine AW.condF rfl ?_
    refine AW.skip ?_
    have h3 := more_ok3 hs (by omega) (by omega) (by omega)
    have cC3 := model_Check_ok _ h3 (by decide)
    have cS3 := groups_Split_ok _ h3 (by decide)
    refine AW.cut [1, 4, 5] (fun _ : Unit => [(1, .bx [dS l.nm, BodiesD l.bodies, JointsD l.joints, DriversD l.drivers]), (4, .d (spE E)), (5, .bx [dS l.nm, BodiesD (l.bodies ++ [furB]), JointsD (l.joints ++ [furJ l.bodies.length]), DriversD l.drivers])]) (fun _ => True) ?_ (fun _ _ => ?_)
    · refine AZ.aw ?_
      refine AZ.any hmix (ZH.any (β := [(1, [dS l.nm, BodiesD l.bodies, JointsD l.joints, DriversD l.drivers])]) ?_)
      refine ZH.fd tok 1 rfl rfl (by kernel_rfl) (by kernel_rfl) (by kernel_rfl) rfl (fun _ _ _ h => h) (fun _ => rfl) ⟨rfl, trivial⟩ (fun B1 F1 w1 => ?_)
      refine AOps.run tok 1 _ _ _ _ rfl ?_
      refine AOps.nil ⟨rfl, ?_⟩
      refine ZH.fd tok 4 rfl rfl (by kernel_rfl) (by kernel_rfl) (by kernel_rfl) rfl (fun _ _ _ h => h) (fun _ => rfl) ⟨rfl, trivial⟩ (fun B1 F1 w1 => ?_)
      refine AOps.run tok 1 _ _ _ _ rfl ?_
      refine AOps.nil ⟨rfl, ?_⟩
      refine ZH.meet 0 #[true, true, true, true, true, true, true, true, true, true, true, true] (fun V => []) (fun V => [(1, .bx [dS l.nm, BodiesD l.bodies, JointsD l.joints, DriversD l.drivers]), (4, .d (spE E)), (5, .bx [dS l.nm, BodiesD (l.bodies ++ [furB]), .sl 7 (l.joints.map Joint.D ++ [(furJ l.bodies.length).D]), DriversD l.drivers])]) (fun V => ?_) (fun N5_1_4 => ?_)
      · refine ZH.done (by kernel_rfl) ⟨rfl, trivial⟩ ?_
        exact ⟨(), by rw [show JointsD (l.joints ++ [furJ l.bodies.length]) = .sl 7 (l.joints.map Joint.D ++ [(furJ l.bodies.length).D]) by show D.sl 7 _ = _; rw [List.map_append]; rfl]; rfl, trivial⟩
      refine ZH.meet 1 #[true, true, true, true, true, true, true, true, true, true, true, false] (fun V => []) (fun V => [(1, .bx [dS l.nm, BodiesD l.bodies, JointsD l.joints, DriversD l.drivers]), (4, .d (spE E)), (5, .bx [dS l.nm, BodiesD (l.bodies ++ [furB]), JointsD l.joints, DriversD l.drivers]), (119, .d (.sl 7 (l.joints.map Joint.D ++ [(furJ l.bodies.length).D]))), (120, .pt 5 2)]) (fun V => ?_) (fun N4_1_4 => ?_)
      · refine ZH.all 11 (by kernel_rfl) rfl rfl (fun _ => rfl) ⟨rfl, trivial⟩ ?_
        refine one_step (fun B1 F1 w1 => ?_)
        refine AOps.run tok 1 _ _ _ _ rfl ?_
        refine AOps.nil ⟨rfl, ?_⟩
        refine ZH.to [1, 4, 5] [(1, .bx [dS l.nm, BodiesD l.bodies, JointsD l.joints, DriversD l.drivers]), (4, .d (spE E)), (5, .bx [dS l.nm, BodiesD (l.bodies ++ [furB]), .sl 7 (l.joints.map Joint.D ++ [(furJ l.bodies.length).D]), DriversD l.drivers])] rfl ⟨rfl, trivial⟩ ?_
        exact ZH.ls _ (by kernel_rfl) (N5_1_4 V)
      refine ZH.meet 2 #[true, true, true, true, true, true, true, true, true, true, false, false] (fun V => []) (fun V => [(1, .bx [dS l.nm, BodiesD l.bodies, JointsD l.joints, DriversD l.drivers]), (4, .d (spE E)), (5, .bx [dS l.nm, BodiesD (l.bodies ++ [furB]), JointsD l.joints, DriversD l.drivers]), (119, .d (.sl 7 (l.joints.map Joint.D ++ [(furJ l.bodies.length).D])))]) (fun V => ?_) (fun N3_1_4 => ?_)
      · refine ZH.all 10 (by kernel_rfl) rfl rfl (fun _ => rfl) ⟨rfl, trivial⟩ ?_
        refine one_step (fun B1 F1 w1 => ?_)
        refine AOps.run tok 1 _ _ _ _ rfl ?_
        refine AOps.nil ⟨rfl, ?_⟩
        refine ZH.to [1, 4, 5, 119, 120] [(1, .bx [dS l.nm, BodiesD l.bodies, JointsD l.joints, DriversD l.drivers]), (4, .d (spE E)), (5, .bx [dS l.nm, BodiesD (l.bodies ++ [furB]), JointsD l.joints, DriversD l.drivers]), (119, .d (.sl 7 (l.joints.map Joint.D ++ [(furJ l.bodies.length).D]))), (120, .pt 5 2)] rfl ⟨rfl, trivial⟩ ?_
        exact ZH.ls _ (by kernel_rfl) (N4_1_4 V)
      refine ZH.meet 3 #[true, true, true, true, true, true, true, true, true, false, false, false] (fun V => []) (fun V => [(1, .bx [dS l.nm, BodiesD l.bodies, JointsD l.joints, DriversD l.drivers]), (4, .d (spE E)), (5, .bx [dS l.nm, BodiesD (l.bodies ++ [furB]), JointsD l.joints, DriversD l.drivers]), (113, .ow 36 (l.joints.map Joint.D)), (118, .d (.sl 7 [(furJ l.bodies.length).D]))]) (fun V => ?_) (fun N2_1_4 => ?_)
      · refine ZH.all 9 (by kernel_rfl) rfl rfl (fun _ => rfl) ⟨rfl, trivial⟩ ?_
        refine one_step (fun B1 F1 w1 => ?_)
        refine AOps.appo tok rfl rfl rfl rfl rfl rfl (by show ((l.joints.map Joint.D).length + 1) * 64 ≤ _; rw [List.length_map]; omega) (by show (l.joints.map Joint.D).length + 1 ≤ _; rw [List.length_map]; omega) ?_
        refine AOps.frz tok 119 rfl rfl ?_
        refine AOps.nil ⟨rfl, ?_⟩
        refine ZH.to [1, 4, 5, 119] [(1, .bx [dS l.nm, BodiesD l.bodies, JointsD l.joints, DriversD l.drivers]), (4, .d (spE E)), (5, .bx [dS l.nm, BodiesD (l.bodies ++ [furB]), JointsD l.joints, DriversD l.drivers]), (119, .d (.sl 7 (l.joints.map Joint.D ++ [(furJ l.bodies.length).D])))] rfl ⟨rfl, trivial⟩ ?_
        exact ZH.ls _ (by kernel_rfl) (N3_1_4 V)
      refine ZH.meet 4 #[true, true, true, false, true, true, true, true, true, false, false, false] (fun V => []) (fun V => [(1, .bx [dS l.nm, BodiesD l.bodies, JointsD l.joints, DriversD l.drivers]), (4, .d (spE E)), (5, .bx [dS l.nm, BodiesD (l.bodies ++ [furB]), JointsD l.joints, DriversD l.drivers]), (112, .d (JointsD l.joints)), (110, .e0 36), (118, .d (.sl 7 [(furJ l.bodies.length).D]))]) (fun V => ?_) (fun N1_1_4 => ?_)
      · refine ZH.all 3 (by kernel_rfl) rfl rfl (fun _ => rfl) ⟨rfl, trivial⟩ ?_
        refine one_step (fun B1 F1 w1 => ?_)
        refine AOps.app0 tok rfl rfl rfl rfl (by show (l.joints.map Joint.D).length * 64 ≤ _; rw [List.length_map]; omega) ?_
        refine AOps.nil ⟨rfl, ?_⟩
        refine ZH.to [1, 4, 5, 113, 118] [(1, .bx [dS l.nm, BodiesD l.bodies, JointsD l.joints, DriversD l.drivers]), (4, .d (spE E)), (5, .bx [dS l.nm, BodiesD (l.bodies ++ [furB]), JointsD l.joints, DriversD l.drivers]), (113, .ow 36 (l.joints.map Joint.D)), (118, .d (.sl 7 [(furJ l.bodies.length).D]))] rfl ⟨rfl, trivial⟩ ?_
        exact ZH.ls _ (by kernel_rfl) (N2_1_4 V)
      refine ZH.meet 4 #[true, true, true, true, true, true, true, true, false, false, false, false] (fun V => []) (fun V => [(1, .bx [dS l.nm, BodiesD l.bodies, JointsD l.joints, DriversD l.drivers]), (4, .d (spE E)), (5, .bx [dS l.nm, BodiesD (l.bodies ++ [furB]), JointsD l.joints, DriversD l.drivers]), (113, .ow 36 (l.joints.map Joint.D)), (117, .d (furJ l.bodies.length).D)]) (fun V => ?_) (fun N2_1_3 => ?_)
      · refine ZH.all 8 (by kernel_rfl) rfl rfl (fun _ => rfl) ⟨rfl, trivial⟩ ?_
        refine one_step (fun B1 F1 w1 => ?_)
        refine AOps.bsd tok rfl rfl rfl rfl rfl ?_
        refine AOps.nil ⟨rfl, ?_⟩
        refine ZH.to [1, 4, 5, 113, 118] [(1, .bx [dS l.nm, BodiesD l.bodies, JointsD l.joints, DriversD l.drivers]), (4, .d (spE E)), (5, .bx [dS l.nm, BodiesD (l.bodies ++ [furB]), JointsD l.joints, DriversD l.drivers]), (113, .ow 36 (l.joints.map Joint.D)), (118, .d (.sl 7 [(furJ l.bodies.length).D]))] rfl ⟨rfl, trivial⟩ ?_
        exact ZH.ls _ (by kernel_rfl) (N2_1_4 V)
      refine ZH.meet 5 #[true, true, false, false, true, true, true, true, true, false, false, false] (fun V => []) (fun V => [(1, .bx [dS l.nm, BodiesD l.bodies, JointsD l.joints, DriversD l.drivers]), (4, .d (spE E)), (5, .bx [dS l.nm, BodiesD (l.bodies ++ [furB]), JointsD l.joints, DriversD l.drivers]), (111, .pt 1 2), (110, .e0 36), (118, .d (.sl 7 [(furJ l.bodies.length).D]))]) (fun V => ?_) (fun N0_1_4 => ?_)
      · refine ZH.all 2 (by kernel_rfl) rfl rfl (fun _ => rfl) ⟨rfl, trivial⟩ ?_
        refine one_step (fun B1 F1 w1 => ?_)
        refine AOps.run tok 1 _ _ _ _ rfl ?_
        refine AOps.nil ⟨rfl, ?_⟩
        refine ZH.to [1, 4, 5, 112, 110, 118] [(1, .bx [dS l.nm, BodiesD l.bodies, JointsD l.joints, DriversD l.drivers]), (4, .d (spE E)), (5, .bx [dS l.nm, BodiesD (l.bodies ++ [furB]), JointsD l.joints, DriversD l.drivers]), (112, .d (JointsD l.joints)), (110, .e0 36), (118, .d (.sl 7 [(furJ l.bodies.length).D]))] rfl ⟨rfl, trivial⟩ ?_
        exact ZH.ls _ (by kernel_rfl) (N1_1_4 V)
      refine ZH.meet 5 #[false, true, true, false, true, true, true, true, true, false, false, false] (fun V => []) (fun V => [(1, .bx [dS l.nm, BodiesD l.bodies, JointsD l.joints, DriversD l.drivers]), (4, .d (spE E)), (5, .bx [dS l.nm, BodiesD (l.bodies ++ [furB]), JointsD l.joints, DriversD l.drivers]), (112, .d (JointsD l.joints)), (118, .d (.sl 7 [(furJ l.bodies.length).D]))]) (fun V => ?_) (fun N1_0_4 => ?_)
      · refine ZH.all 0 (by kernel_rfl) rfl rfl (fun _ => rfl) ⟨rfl, trivial⟩ ?_
        refine one_step (fun B1 F1 w1 => ?_)
        refine AOps.run tok 1 _ _ _ _ rfl ?_
        refine AOps.nil ⟨rfl, ?_⟩
        refine ZH.to [1, 4, 5, 112, 110, 118] [(1, .bx [dS l.nm, BodiesD l.bodies, JointsD l.joints, DriversD l.drivers]), (4, .d (spE E)), (5, .bx [dS l.nm, BodiesD (l.bodies ++ [furB]), JointsD l.joints, DriversD l.drivers]), (112, .d (JointsD l.joints)), (110, .e0 36), (118, .d (.sl 7 [(furJ l.bodies.length).D]))] rfl ⟨rfl, trivial⟩ ?_
        exact ZH.ls _ (by kernel_rfl) (N1_1_4 V)
      refine ZH.meet 5 #[true, true, true, false, true, true, true, true, false, false, false, false] (fun V => []) (fun V => [(1, .bx [dS l.nm, BodiesD l.bodies, JointsD l.joints, DriversD l.drivers]), (4, .d (spE E)), (5, .bx [dS l.nm, BodiesD (l.bodies ++ [furB]), JointsD l.joints, DriversD l.drivers]), (112, .d (JointsD l.joints)), (110, .e0 36), (117, .d (furJ l.bodies.length).D)]) (fun V => ?_) (fun N1_1_3 => ?_)
      · refine ZH.two 3 8 (by kernel_rfl) rfl rfl rfl rfl (fun _ => rfl) (fun _ => rfl) ⟨rfl, trivial⟩ ?_ ?_
        · refine one_step (fun B1 F1 w1 => ?_)
          refine AOps.app0 tok rfl rfl rfl rfl (by show (l.joints.map Joint.D).length * 64 ≤ _; rw [List.length_map]; omega) ?_
          refine AOps.nil ⟨rfl, ?_⟩
          refine ZH.to [1, 4, 5, 113, 117] [(1, .bx [dS l.nm, BodiesD l.bodies, JointsD l.joints, DriversD l.drivers]), (4, .d (spE E)), (5, .bx [dS l.nm, BodiesD (l.bodies ++ [furB]), JointsD l.joints, DriversD l.drivers]), (113, .ow 36 (l.joints.map Joint.D)), (117, .d (furJ l.bodies.length).D)] rfl ⟨rfl, trivial⟩ ?_
          exact ZH.ls _ (by kernel_rfl) (N2_1_3 V)
        · refine one_step (fun B1 F1 w1 => ?_)
          refine AOps.bsd tok rfl rfl rfl rfl rfl ?_
          refine AOps.nil ⟨rfl, ?_⟩
          refine ZH.to [1, 4, 5, 112, 110, 118] [(1, .bx [dS l.nm, BodiesD l.bodies, JointsD l.joints, DriversD l.drivers]), (4, .d (spE E)), (5, .bx [dS l.nm, BodiesD (l.bodies ++ [furB]), JointsD l.joints, DriversD l.drivers]), (112, .d (JointsD l.joints)), (110, .e0 36), (118, .d (.sl 7 [(furJ l.bodies.length).D]))] rfl ⟨rfl, trivial⟩ ?_
          exact ZH.ls _ (by kernel_rfl) (N1_1_4 V)
      refine ZH.meet 5 #[true, true, true, true, true, true, true, false, false, false, false, false] (fun V => []) (fun V => [(1, .bx [dS l.nm, BodiesD l.bodies, JointsD l.joints, DriversD l.drivers]), (4, .d (spE E)), (5, .bx [dS l.nm, BodiesD (l.bodies ++ [furB]), JointsD l.joints, DriversD l.drivers]), (113, .ow 36 (l.joints.map Joint.D)), (116, .d (dI l.bodies.length))]) (fun V => ?_) (fun N2_1_2 => ?_)
      · refine ZH.all 7 (by kernel_rfl) rfl rfl (fun _ => rfl) ⟨rfl, trivial⟩ ?_
        refine one_step (fun B1 F1 w1 => ?_)
        refine AOps.run tok 1 _ _ _ _ rfl ?_
        refine AOps.nil ⟨rfl, ?_⟩
        refine ZH.to [1, 4, 5, 113, 117] [(1, .bx [dS l.nm, BodiesD l.bodies, JointsD l.joints, DriversD l.drivers]), (4, .d (spE E)), (5, .bx [dS l.nm, BodiesD (l.bodies ++ [furB]), JointsD l.joints, DriversD l.drivers]), (113, .ow 36 (l.joints.map Joint.D)), (117, .d (furJ l.bodies.length).D)] rfl ⟨rfl, trivial⟩ ?_
        exact ZH.ls _ (by kernel_rfl) (N2_1_3 V)
      refine ZH.meet 6 #[false, true, false, false, true, true, true, true, true, false, false, false] (fun V => []) (fun V => [(1, .bx [dS l.nm, BodiesD l.bodies, JointsD l.joints, DriversD l.drivers]), (4, .d (spE E)), (5, .bx [dS l.nm, BodiesD (l.bodies ++ [furB]), JointsD l.joints, DriversD l.drivers]), (111, .pt 1 2), (118, .d (.sl 7 [(furJ l.bodies.length).D]))]) (fun V => ?_) (fun N0_0_4 => ?_)
      · refine ZH.two 0 2 (by kernel_rfl) rfl rfl rfl rfl (fun _ => rfl) (fun _ => rfl) ⟨rfl, trivial⟩ ?_ ?_
        · refine one_step (fun B1 F1 w1 => ?_)
          refine AOps.run tok 1 _ _ _ _ rfl ?_
          refine AOps.nil ⟨rfl, ?_⟩
          refine ZH.to [1, 4, 5, 111, 110, 118] [(1, .bx [dS l.nm, BodiesD l.bodies, JointsD l.joints, DriversD l.drivers]), (4, .d (spE E)), (5, .bx [dS l.nm, BodiesD (l.bodies ++ [furB]), JointsD l.joints, DriversD l.drivers]), (111, .pt 1 2), (110, .e0 36), (118, .d (.sl 7 [(furJ l.bodies.length).D]))] rfl ⟨rfl, trivial⟩ ?_
          exact ZH.ls _ (by kernel_rfl) (N0_1_4 V)
        · refine one_step (fun B1 F1 w1 => ?_)
          refine AOps.run tok 1 _ _ _ _ rfl ?_
          refine AOps.nil ⟨rfl, ?_⟩
          refine ZH.to [1, 4, 5, 112, 118] [(1, .bx [dS l.nm, BodiesD l.bodies, JointsD l.joints, DriversD l.drivers]), (4, .d (spE E)), (5, .bx [dS l.nm, BodiesD (l.bodies ++ [furB]), JointsD l.joints, DriversD l.drivers]), (112, .d (JointsD l.joints)), (118, .d (.sl 7 [(furJ l.bodies.length).D]))] rfl ⟨rfl, trivial⟩ ?_
          exact ZH.ls _ (by kernel_rfl) (N1_0_4 V)
      refine ZH.meet 6 #[true, true, false, false, true, true, true, true, false, false, false, false] (fun V => []) (fun V => [(1, .bx [dS l.nm, BodiesD l.bodies, JointsD l.joints, DriversD l.drivers]), (4, .d (spE E)), (5, .bx [dS l.nm, BodiesD (l.bodies ++ [furB]), JointsD l.joints, DriversD l.drivers]), (111, .pt 1 2), (110, .e0 36), (117, .d (furJ l.bodies.length).D)]) (fun V => ?_) (fun N0_1_3 => ?_)
      · refine ZH.two 2 8 (by kernel_rfl) rfl rfl rfl rfl (fun _ => rfl) (fun _ => rfl) ⟨rfl, trivial⟩ ?_ ?_
        · refine one_step (fun B1 F1 w1 => ?_)
          refine AOps.run tok 1 _ _ _ _ rfl ?_
          refine AOps.nil ⟨rfl, ?_⟩
          refine ZH.to [1, 4, 5, 112, 110, 117] [(1, .bx [dS l.nm, BodiesD l.bodies, JointsD l.joints, DriversD l.drivers]), (4, .d (spE E)), (5, .bx [dS l.nm, BodiesD (l.bodies ++ [furB]), JointsD l.joints, DriversD l.drivers]), (112, .d (JointsD l.joints)), (110, .e0 36), (117, .d (furJ l.bodies.length).D)] rfl ⟨rfl, trivial⟩ ?_
          exact ZH.ls _ (by kernel_rfl) (N1_1_3 V)
        · refine one_step (fun B1 F1 w1 => ?_)
          refine AOps.bsd tok rfl rfl rfl rfl rfl ?_
          refine AOps.nil ⟨rfl, ?_⟩
          refine ZH.to [1, 4, 5, 111, 110, 118] [(1, .bx [dS l.nm, BodiesD l.bodies, JointsD l.joints, DriversD l.drivers]), (4, .d (spE E)), (5, .bx [dS l.nm, BodiesD (l.bodies ++ [furB]), JointsD l.joints, DriversD l.drivers]), (111, .pt 1 2), (110, .e0 36), (118, .d (.sl 7 [(furJ l.bodies.length).D]))] rfl ⟨rfl, trivial⟩ ?_
          exact ZH.ls _ (by kernel_rfl) (N0_1_4 V)
      refine ZH.meet 6 #[false, true, true, false, true, true, true, true, false, false, false, false] (fun V => []) (fun V => [(1, .bx [dS l.nm, BodiesD l.bodies, JointsD l.joints, DriversD l.drivers]), (4, .d (spE E)), (5, .bx [dS l.nm, BodiesD (l.bodies ++ [furB]), JointsD l.joints, DriversD l.drivers]), (112, .d (JointsD l.joints)), (117, .d (furJ l.bodies.length).D)]) (fun V => ?_) (fun N1_0_3 => ?_)
      · refine ZH.two 0 8 (by kernel_rfl) rfl rfl rfl rfl (fun _ => rfl) (fun _ => rfl) ⟨rfl, trivial⟩ ?_ ?_
        · refine one_step (fun B1 F1 w1 => ?_)
          refine AOps.run tok 1 _ _ _ _ rfl ?_
          refine AOps.nil ⟨rfl, ?_⟩
          refine ZH.to [1, 4, 5, 112, 110, 117] [(1, .bx [dS l.nm, BodiesD l.bodies, JointsD l.joints, DriversD l.drivers]), (4, .d (spE E)), (5, .bx [dS l.nm, BodiesD (l.bodies ++ [furB]), JointsD l.joints, DriversD l.drivers]), (112, .d (JointsD l.joints)), (110, .e0 36), (117, .d (furJ l.bodies.length).D)] rfl ⟨rfl, trivial⟩ ?_
          exact ZH.ls _ (by kernel_rfl) (N1_1_3 V)
        · refine one_step (fun B1 F1 w1 => ?_)
          refine AOps.bsd tok rfl rfl rfl rfl rfl ?_
          refine AOps.nil ⟨rfl, ?_⟩
          refine ZH.to [1, 4, 5, 112, 118] [(1, .bx [dS l.nm, BodiesD l.bodies, JointsD l.joints, DriversD l.drivers]), (4, .d (spE E)), (5, .bx [dS l.nm, BodiesD (l.bodies ++ [furB]), JointsD l.joints, DriversD l.drivers]), (112, .d (JointsD l.joints)), (118, .d (.sl 7 [(furJ l.bodies.length).D]))] rfl ⟨rfl, trivial⟩ ?_
          exact ZH.ls _ (by kernel_rfl) (N1_0_4 V)
      refine ZH.meet 6 #[true, true, true, false, true, true, true, false, false, false, false, false] (fun V => []) (fun V => [(1, .bx [dS l.nm, BodiesD l.bodies, JointsD l.joints, DriversD l.drivers]), (4, .d (spE E)), (5, .bx [dS l.nm, BodiesD (l.bodies ++ [furB]), JointsD l.joints, DriversD l.drivers]), (112, .d (JointsD l.joints)), (110, .e0 36), (116, .d (dI l.bodies.length))]) (fun V => ?_) (fun N1_1_2 => ?_)
      · refine ZH.two 3 7 (by kernel_rfl) rfl rfl rfl rfl (fun _ => rfl) (fun _ => rfl) ⟨rfl, trivial⟩ ?_ ?_
        · refine one_step (fun B1 F1 w1 => ?_)
          refine AOps.app0 tok rfl rfl rfl rfl (by show (l.joints.map Joint.D).length * 64 ≤ _; rw [List.length_map]; omega) ?_
          refine AOps.nil ⟨rfl, ?_⟩
          refine ZH.to [1, 4, 5, 113, 116] [(1, .bx [dS l.nm, BodiesD l.bodies, JointsD l.joints, DriversD l.drivers]), (4, .d (spE E)), (5, .bx [dS l.nm, BodiesD (l.bodies ++ [furB]), JointsD l.joints, DriversD l.drivers]), (113, .ow 36 (l.joints.map Joint.D)), (116, .d (dI l.bodies.length))] rfl ⟨rfl, trivial⟩ ?_
          exact ZH.ls _ (by kernel_rfl) (N2_1_2 V)
        · refine one_step (fun B1 F1 w1 => ?_)
          refine AOps.run tok 1 _ _ _ _ rfl ?_
          refine AOps.nil ⟨rfl, ?_⟩
          refine ZH.to [1, 4, 5, 112, 110, 117] [(1, .bx [dS l.nm, BodiesD l.bodies, JointsD l.joints, DriversD l.drivers]), (4, .d (spE E)), (5, .bx [dS l.nm, BodiesD (l.bodies ++ [furB]), JointsD l.joints, DriversD l.drivers]), (112, .d (JointsD l.joints)), (110, .e0 36), (117, .d (furJ l.bodies.length).D)] rfl ⟨rfl, trivial⟩ ?_
          exact ZH.ls _ (by kernel_rfl) (N1_1_3 V)
      refine ZH.meet 6 #[true, true, true, true, true, true, false, false, false, false, false, false] (fun V => []) (fun V => [(1, .bx [dS l.nm, BodiesD l.bodies, JointsD l.joints, DriversD l.drivers]), (4, .d (spE E)), (5, .bx [dS l.nm, BodiesD (l.bodies ++ [furB]), JointsD l.joints, DriversD l.drivers]), (113, .ow 36 (l.joints.map Joint.D)), (115, .d (BodiesD l.bodies))]) (fun V => ?_) (fun N2_1_1 => ?_)
      · refine ZH.all 6 (by kernel_rfl) rfl rfl (fun _ => rfl) ⟨rfl, trivial⟩ ?_
        refine one_step (fun B1 F1 w1 => ?_)
        refine AOps.run tok 1 _ _ _ _ rfl ?_
        rw [List.length_map]
        refine AOps.nil ⟨rfl, ?_⟩
        refine ZH.to [1, 4, 5, 113, 116] [(1, .bx [dS l.nm, BodiesD l.bodies, JointsD l.joints, DriversD l.drivers]), (4, .d (spE E)), (5, .bx [dS l.nm, BodiesD (l.bodies ++ [furB]), JointsD l.joints, DriversD l.drivers]), (113, .ow 36 (l.joints.map Joint.D)), (116, .d (dI l.bodies.length))] rfl ⟨rfl, trivial⟩ ?_
        exact ZH.ls _ (by kernel_rfl) (N2_1_2 V)
      refine ZH.meet 7 #[false, true, false, false, true, true, true, true, false, false, false, false] (fun V => []) (fun V => [(1, .bx [dS l.nm, BodiesD l.bodies, JointsD l.joints, DriversD l.drivers]), (4, .d (spE E)), (5, .bx [dS l.nm, BodiesD (l.bodies ++ [furB]), JointsD l.joints, DriversD l.drivers]), (111, .pt 1 2), (117, .d (furJ l.bodies.length).D)]) (fun V => ?_) (fun N0_0_3 => ?_)
      · refine ZH.three 0 2 8 (by kernel_rfl) rfl rfl rfl rfl rfl rfl (fun _ => rfl) (fun _ => rfl) (fun _ => rfl) ⟨rfl, trivial⟩ ?_ ?_ ?_
        · refine one_step (fun B1 F1 w1 => ?_)
          refine AOps.run tok 1 _ _ _ _ rfl ?_
          refine AOps.nil ⟨rfl, ?_⟩
          refine ZH.to [1, 4, 5, 111, 110, 117] [(1, .bx [dS l.nm, BodiesD l.bodies, JointsD l.joints, DriversD l.drivers]), (4, .d (spE E)), (5, .bx [dS l.nm, BodiesD (l.bodies ++ [furB]), JointsD l.joints, DriversD l.drivers]), (111, .pt 1 2), (110, .e0 36), (117, .d (furJ l.bodies.length).D)] rfl ⟨rfl, trivial⟩ ?_
          exact ZH.ls _ (by kernel_rfl) (N0_1_3 V)
        · refine one_step (fun B1 F1 w1 => ?_)
          refine AOps.run tok 1 _ _ _ _ rfl ?_
          refine AOps.nil ⟨rfl, ?_⟩
          refine ZH.to [1, 4, 5, 112, 117] [(1, .bx [dS l.nm, BodiesD l.bodies, JointsD l.joints, DriversD l.drivers]), (4, .d (spE E)), (5, .bx [dS l.nm, BodiesD (l.bodies ++ [furB]), JointsD l.joints, DriversD l.drivers]), (112, .d (JointsD l.joints)), (117, .d (furJ l.bodies.length).D)] rfl ⟨rfl, trivial⟩ ?_
          exact ZH.ls _ (by kernel_rfl) (N1_0_3 V)
        · refine one_step (fun B1 F1 w1 => ?_)
          refine AOps.bsd tok rfl rfl rfl rfl rfl ?_
          refine AOps.nil ⟨rfl, ?_⟩
          refine ZH.to [1, 4, 5, 111, 118] [(1, .bx [dS l.nm, BodiesD l.bodies, JointsD l.joints, DriversD l.drivers]), (4, .d (spE E)), (5, .bx [dS l.nm, BodiesD (l.bodies ++ [furB]), JointsD l.joints, DriversD l.drivers]), (111, .pt 1 2), (118, .d (.sl 7 [(furJ l.bodies.length).D]))] rfl ⟨rfl, trivial⟩ ?_
          exact ZH.ls _ (by kernel_rfl) (N0_0_4 V)
      refine ZH.meet 7 #[true, true, false, false, true, true, true, false, false, false, false, false] (fun V => []) (fun V => [(1, .bx [dS l.nm, BodiesD l.bodies, JointsD l.joints, DriversD l.drivers]), (4, .d (spE E)), (5, .bx [dS l.nm, BodiesD (l.bodies ++ [furB]), JointsD l.joints, DriversD l.drivers]), (111, .pt 1 2), (110, .e0 36), (116, .d (dI l.bodies.length))]) (fun V => ?_) (fun N0_1_2 => ?_)
      · refine ZH.two 2 7 (by kernel_rfl) rfl rfl rfl rfl (fun _ => rfl) (fun _ => rfl) ⟨rfl, trivial⟩ ?_ ?_
        · refine one_step (fun B1 F1 w1 => ?_)
          refine AOps.run tok 1 _ _ _ _ rfl ?_
          refine AOps.nil ⟨rfl, ?_⟩
          refine ZH.to [1, 4, 5, 112, 110, 116] [(1, .bx [dS l.nm, BodiesD l.bodies, JointsD l.joints, DriversD l.drivers]), (4, .d (spE E)), (5, .bx [dS l.nm, BodiesD (l.bodies ++ [furB]), JointsD l.joints, DriversD l.drivers]), (112, .d (JointsD l.joints)), (110, .e0 36), (116, .d (dI l.bodies.length))] rfl ⟨rfl, trivial⟩ ?_
          exact ZH.ls _ (by kernel_rfl) (N1_1_2 V)
        · refine one_step (fun B1 F1 w1 => ?_)
          refine AOps.run tok 1 _ _ _ _ rfl ?_
          refine AOps.nil ⟨rfl, ?_⟩
          refine ZH.to [1, 4, 5, 111, 110, 117] [(1, .bx [dS l.nm, BodiesD l.bodies, JointsD l.joints, DriversD l.drivers]), (4, .d (spE E)), (5, .bx [dS l.nm, BodiesD (l.bodies ++ [furB]), JointsD l.joints, DriversD l.drivers]), (111, .pt 1 2), (110, .e0 36), (117, .d (furJ l.bodies.length).D)] rfl ⟨rfl, trivial⟩ ?_
          exact ZH.ls _ (by kernel_rfl) (N0_1_3 V)
      refine ZH.meet 7 #[false, true, true, false, true, true, true, false, false, false, false, false] (fun V => []) (fun V => [(1, .bx [dS l.nm, BodiesD l.bodies, JointsD l.joints, DriversD l.drivers]), (4, .d (spE E)), (5, .bx [dS l.nm, BodiesD (l.bodies ++ [furB]), JointsD l.joints, DriversD l.drivers]), (112, .d (JointsD l.joints)), (116, .d (dI l.bodies.length))]) (fun V => ?_) (fun N1_0_2 => ?_)
      · refine ZH.two 0 7 (by kernel_rfl) rfl rfl rfl rfl (fun _ => rfl) (fun _ => rfl) ⟨rfl, trivial⟩ ?_ ?_
        · refine one_step (fun B1 F1 w1 => ?_)
          refine AOps.run tok 1 _ _ _ _ rfl ?_
          refine AOps.nil ⟨rfl, ?_⟩
          refine ZH.to [1, 4, 5, 112, 110, 116] [(1, .bx [dS l.nm, BodiesD l.bodies, JointsD l.joints, DriversD l.drivers]), (4, .d (spE E)), (5, .bx [dS l.nm, BodiesD (l.bodies ++ [furB]), JointsD l.joints, DriversD l.drivers]), (112, .d (JointsD l.joints)), (110, .e0 36), (116, .d (dI l.bodies.length))] rfl ⟨rfl, trivial⟩ ?_
          exact ZH.ls _ (by kernel_rfl) (N1_1_2 V)
        · refine one_step (fun B1 F1 w1 => ?_)
          refine AOps.run tok 1 _ _ _ _ rfl ?_
          refine AOps.nil ⟨rfl, ?_⟩
          refine ZH.to [1, 4, 5, 112, 117] [(1, .bx [dS l.nm, BodiesD l.bodies, JointsD l.joints, DriversD l.drivers]), (4, .d (spE E)), (5, .bx [dS l.nm, BodiesD (l.bodies ++ [furB]), JointsD l.joints, DriversD l.drivers]), (112, .d (JointsD l.joints)), (117, .d (furJ l.bodies.length).D)] rfl ⟨rfl, trivial⟩ ?_
          exact ZH.ls _ (by kernel_rfl) (N1_0_3 V)
      refine ZH.meet 7 #[true, true, true, false, true, true, false, false, false, false, false, false] (fun V => []) (fun V => [(1, .bx [dS l.nm, BodiesD l.bodies, JointsD l.joints, DriversD l.drivers]), (4, .d (spE E)), (5, .bx [dS l.nm, BodiesD (l.bodies ++ [furB]), JointsD l.joints, DriversD l.drivers]), (112, .d (JointsD l.joints)), (110, .e0 36), (115, .d (BodiesD l.bodies))]) (fun V => ?_) (fun N1_1_1 => ?_)
      · refine ZH.two 3 6 (by kernel_rfl) rfl rfl rfl rfl (fun _ => rfl) (fun _ => rfl) ⟨rfl, trivial⟩ ?_ ?_
        · refine one_step (fun B1 F1 w1 => ?_)
          refine AOps.app0 tok rfl rfl rfl rfl (by show (l.joints.map Joint.D).length * 64 ≤ _; rw [List.length_map]; omega) ?_
          refine AOps.nil ⟨rfl, ?_⟩
          refine ZH.to [1, 4, 5, 113, 115] [(1, .bx [dS l.nm, BodiesD l.bodies, JointsD l.joints, DriversD l.drivers]), (4, .d (spE E)), (5, .bx [dS l.nm, BodiesD (l.bodies ++ [furB]), JointsD l.joints, DriversD l.drivers]), (113, .ow 36 (l.joints.map Joint.D)), (115, .d (BodiesD l.bodies))] rfl ⟨rfl, trivial⟩ ?_
          exact ZH.ls _ (by kernel_rfl) (N2_1_1 V)
        · refine one_step (fun B1 F1 w1 => ?_)
          refine AOps.run tok 1 _ _ _ _ rfl ?_
          rw [List.length_map]
          refine AOps.nil ⟨rfl, ?_⟩
          refine ZH.to [1, 4, 5, 112, 110, 116] [(1, .bx [dS l.nm, BodiesD l.bodies, JointsD l.joints, DriversD l.drivers]), (4, .d (spE E)), (5, .bx [dS l.nm, BodiesD (l.bodies ++ [furB]), JointsD l.joints, DriversD l.drivers]), (112, .d (JointsD l.joints)), (110, .e0 36), (116, .d (dI l.bodies.length))] rfl ⟨rfl, trivial⟩ ?_
          exact ZH.ls _ (by kernel_rfl) (N1_1_2 V)
      refine ZH.meet 7 #[true, true, true, true, true, false, false, false, false, false, false, false] (fun V => []) (fun V => [(1, .bx [dS l.nm, BodiesD l.bodies, JointsD l.joints, DriversD l.drivers]), (4, .d (spE E)), (5, .bx [dS l.nm, BodiesD (l.bodies ++ [furB]), JointsD l.joints, DriversD l.drivers]), (113, .ow 36 (l.joints.map Joint.D)), (114, .pt 1 1)]) (fun V => ?_) (fun N2_1_0 => ?_)
      · refine ZH.all 5 (by kernel_rfl) rfl rfl (fun _ => rfl) ⟨rfl, trivial⟩ ?_
        refine one_step (fun B1 F1 w1 => ?_)
        refine AOps.run tok 1 _ _ _ _ rfl ?_
        refine AOps.nil ⟨rfl, ?_⟩
        refine ZH.to [1, 4, 5, 113, 115] [(1, .bx [dS l.nm, BodiesD l.bodies, JointsD l.joints, DriversD l.drivers]), (4, .d (spE E)), (5, .bx [dS l.nm, BodiesD (l.bodies ++ [furB]), JointsD l.joints, DriversD l.drivers]), (113, .ow 36 (l.joints.map Joint.D)), (115, .d (BodiesD l.bodies))] rfl ⟨rfl, trivial⟩ ?_
        exact ZH.ls _ (by kernel_rfl) (N2_1_1 V)
      refine ZH.meet 8 #[false, true, false, false, true, true, true, false, false, false, false, false] (fun V => []) (fun V => [(1, .bx [dS l.nm, BodiesD l.bodies, JointsD l.joints, DriversD l.drivers]), (4, .d (spE E)), (5, .bx [dS l.nm, BodiesD (l.bodies ++ [furB]), JointsD l.joints, DriversD l.drivers]), (111, .pt 1 2), (116, .d (dI l.bodies.length))]) (fun V => ?_) (fun N0_0_2 => ?_)
      · refine ZH.three 0 2 7 (by kernel_rfl) rfl rfl rfl rfl rfl rfl (fun _ => rfl) (fun _ => rfl) (fun _ => rfl) ⟨rfl, trivial⟩ ?_ ?_ ?_
        · refine one_step (fun B1 F1 w1 => ?_)
          refine AOps.run tok 1 _ _ _ _ rfl ?_
          refine AOps.nil ⟨rfl, ?_⟩
          refine ZH.to [1, 4, 5, 111, 110, 116] [(1, .bx [dS l.nm, BodiesD l.bodies, JointsD l.joints, DriversD l.drivers]), (4, .d (spE E)), (5, .bx [dS l.nm, BodiesD (l.bodies ++ [furB]), JointsD l.joints, DriversD l.drivers]), (111, .pt 1 2), (110, .e0 36), (116, .d (dI l.bodies.length))] rfl ⟨rfl, trivial⟩ ?_
          exact ZH.ls _ (by kernel_rfl) (N0_1_2 V)
        · refine one_step (fun B1 F1 w1 => ?_)
          refine AOps.run tok 1 _ _ _ _ rfl ?_
          refine AOps.nil ⟨rfl, ?_⟩
          refine ZH.to [1, 4, 5, 112, 116] [(1, .bx [dS l.nm, BodiesD l.bodies, JointsD l.joints, DriversD l.drivers]), (4, .d (spE E)), (5, .bx [dS l.nm, BodiesD (l.bodies ++ [furB]), JointsD l.joints, DriversD l.drivers]), (112, .d (JointsD l.joints)), (116, .d (dI l.bodies.length))] rfl ⟨rfl, trivial⟩ ?_
          exact ZH.ls _ (by kernel_rfl) (N1_0_2 V)
        · refine one_step (fun B1 F1 w1 => ?_)
          refine AOps.run tok 1 _ _ _ _ rfl ?_
          refine AOps.nil ⟨rfl, ?_⟩
          refine ZH.to [1, 4, 5, 111, 117] [(1, .bx [dS l.nm, BodiesD l.bodies, JointsD l.joints, DriversD l.drivers]), (4, .d (spE E)), (5, .bx [dS l.nm, BodiesD (l.bodies ++ [furB]), JointsD l.joints, DriversD l.drivers]), (111, .pt 1 2), (117, .d (furJ l.bodies.length).D)] rfl ⟨rfl, trivial⟩ ?_
          exact ZH.ls _ (by kernel_rfl) (N0_0_3 V)
      refine ZH.meet 8 #[true, true, false, false, true, true, false, false, false, false, false, false] (fun V => []) (fun V => [(1, .bx [dS l.nm, BodiesD l.bodies, JointsD l.joints, DriversD l.drivers]), (4, .d (spE E)), (5, .bx [dS l.nm, BodiesD (l.bodies ++ [furB]), JointsD l.joints, DriversD l.drivers]), (111, .pt 1 2), (110, .e0 36), (115, .d (BodiesD l.bodies))]) (fun V => ?_) (fun N0_1_1 => ?_)
      · refine ZH.two 2 6 (by kernel_rfl) rfl rfl rfl rfl (fun _ => rfl) (fun _ => rfl) ⟨rfl, trivial⟩ ?_ ?_
        · refine one_step (fun B1 F1 w1 => ?_)
          refine AOps.run tok 1 _ _ _ _ rfl ?_
          refine AOps.nil ⟨rfl, ?_⟩
          refine ZH.to [1, 4, 5, 112, 110, 115] [(1, .bx [dS l.nm, BodiesD l.bodies, JointsD l.joints, DriversD l.drivers]), (4, .d (spE E)), (5, .bx [dS l.nm, BodiesD (l.bodies ++ [furB]), JointsD l.joints, DriversD l.drivers]), (112, .d (JointsD l.joints)), (110, .e0 36), (115, .d (BodiesD l.bodies))] rfl ⟨rfl, trivial⟩ ?_
          exact ZH.ls _ (by kernel_rfl) (N1_1_1 V)
        · refine one_step (fun B1 F1 w1 => ?_)
          refine AOps.run tok 1 _ _ _ _ rfl ?_
          rw [List.length_map]
          refine AOps.nil ⟨rfl, ?_⟩
          refine ZH.to [1, 4, 5, 111, 110, 116] [(1, .bx [dS l.nm, BodiesD l.bodies, JointsD l.joints, DriversD l.drivers]), (4, .d (spE E)), (5, .bx [dS l.nm, BodiesD (l.bodies ++ [furB]), JointsD l.joints, DriversD l.drivers]), (111, .pt 1 2), (110, .e0 36), (116, .d (dI l.bodies.length))] rfl ⟨rfl, trivial⟩ ?_
          exact ZH.ls _ (by kernel_rfl) (N0_1_2 V)
      refine ZH.meet 8 #[false, true, true, false, true, true, false, false, false, false, false, false] (fun V => []) (fun V => [(1, .bx [dS l.nm, BodiesD l.bodies, JointsD l.joints, DriversD l.drivers]), (4, .d (spE E)), (5, .bx [dS l.nm, BodiesD (l.bodies ++ [furB]), JointsD l.joints, DriversD l.drivers]), (112, .d (JointsD l.joints)), (115, .d (BodiesD l.bodies))]) (fun V => ?_) (fun N1_0_1 => ?_)
      · refine ZH.two 0 6 (by kernel_rfl) rfl rfl rfl rfl (fun _ => rfl) (fun _ => rfl) ⟨rfl, trivial⟩ ?_ ?_
        · refine one_step (fun B1 F1 w1 => ?_)
          refine AOps.run tok 1 _ _ _ _ rfl ?_
          refine AOps.nil ⟨rfl, ?_⟩
          refine ZH.to [1, 4, 5, 112, 110, 115] [(1, .bx [dS l.nm, BodiesD l.bodies, JointsD l.joints, DriversD l.drivers]), (4, .d (spE E)), (5, .bx [dS l.nm, BodiesD (l.bodies ++ [furB]), JointsD l.joints, DriversD l.drivers]), (112, .d (JointsD l.joints)), (110, .e0 36), (115, .d (BodiesD l.bodies))] rfl ⟨rfl, trivial⟩ ?_
          exact ZH.ls _ (by kernel_rfl) (N1_1_1 V)
        · refine one_step (fun B1 F1 w1 => ?_)
          refine AOps.run tok 1 _ _ _ _ rfl ?_
          rw [List.length_map]
          refine AOps.nil ⟨rfl, ?_⟩
          refine ZH.to [1, 4, 5, 112, 116] [(1, .bx [dS l.nm, BodiesD l.bodies, JointsD l.joints, DriversD l.drivers]), (4, .d (spE E)), (5, .bx [dS l.nm, BodiesD (l.bodies ++ [furB]), JointsD l.joints, DriversD l.drivers]), (112, .d (JointsD l.joints)), (116, .d (dI l.bodies.length))] rfl ⟨rfl, trivial⟩ ?_
          exact ZH.ls _ (by kernel_rfl) (N1_0_2 V)
      refine ZH.meet 8 #[true, true, true, false, true, false, false, false, false, false, false, false] (fun V => []) (fun V => [(1, .bx [dS l.nm, BodiesD l.bodies, JointsD l.joints, DriversD l.drivers]), (4, .d (spE E)), (5, .bx [dS l.nm, BodiesD (l.bodies ++ [furB]), JointsD l.joints, DriversD l.drivers]), (112, .d (JointsD l.joints)), (110, .e0 36), (114, .pt 1 1)]) (fun V => ?_) (fun N1_1_0 => ?_)
      · refine ZH.two 3 5 (by kernel_rfl) rfl rfl rfl rfl (fun _ => rfl) (fun _ => rfl) ⟨rfl, trivial⟩ ?_ ?_
        · refine one_step (fun B1 F1 w1 => ?_)
          refine AOps.app0 tok rfl rfl rfl rfl (by show (l.joints.map Joint.D).length * 64 ≤ _; rw [List.length_map]; omega) ?_
          refine AOps.nil ⟨rfl, ?_⟩
          refine ZH.to [1, 4, 5, 113, 114] [(1, .bx [dS l.nm, BodiesD l.bodies, JointsD l.joints, DriversD l.drivers]), (4, .d (spE E)), (5, .bx [dS l.nm, BodiesD (l.bodies ++ [furB]), JointsD l.joints, DriversD l.drivers]), (113, .ow 36 (l.joints.map Joint.D)), (114, .pt 1 1)] rfl ⟨rfl, trivial⟩ ?_
          exact ZH.ls _ (by kernel_rfl) (N2_1_0 V)
        · refine one_step (fun B1 F1 w1 => ?_)
          refine AOps.run tok 1 _ _ _ _ rfl ?_
          refine AOps.nil ⟨rfl, ?_⟩
          refine ZH.to [1, 4, 5, 112, 110, 115] [(1, .bx [dS l.nm, BodiesD l.bodies, JointsD l.joints, DriversD l.drivers]), (4, .d (spE E)), (5, .bx [dS l.nm, BodiesD (l.bodies ++ [furB]), JointsD l.joints, DriversD l.drivers]), (112, .d (JointsD l.joints)), (110, .e0 36), (115, .d (BodiesD l.bodies))] rfl ⟨rfl, trivial⟩ ?_
          exact ZH.ls _ (by kernel_rfl) (N1_1_1 V)
      refine ZH.meet 9 #[false, true, false, false, true, true, false, false, false, false, false, false] (fun V => []) (fun V => [(1, .bx [dS l.nm, BodiesD l.bodies, JointsD l.joints, DriversD l.drivers]), (4, .d (spE E)), (5, .bx [dS l.nm, BodiesD (l.bodies ++ [furB]), JointsD l.joints, DriversD l.drivers]), (111, .pt 1 2), (115, .d (BodiesD l.bodies))]) (fun V => ?_) (fun N0_0_1 => ?_)
      · refine ZH.three 0 2 6 (by kernel_rfl) rfl rfl rfl rfl rfl rfl (fun _ => rfl) (fun _ => rfl) (fun _ => rfl) ⟨rfl, trivial⟩ ?_ ?_ ?_
        · refine one_step (fun B1 F1 w1 => ?_)
          refine AOps.run tok 1 _ _ _ _ rfl ?_
          refine AOps.nil ⟨rfl, ?_⟩
          refine ZH.to [1, 4, 5, 111, 110, 115] [(1, .bx [dS l.nm, BodiesD l.bodies, JointsD l.joints, DriversD l.drivers]), (4, .d (spE E)), (5, .bx [dS l.nm, BodiesD (l.bodies ++ [furB]), JointsD l.joints, DriversD l.drivers]), (111, .pt 1 2), (110, .e0 36), (115, .d (BodiesD l.bodies))] rfl ⟨rfl, trivial⟩ ?_
          exact ZH.ls _ (by kernel_rfl) (N0_1_1 V)
        · refine one_step (fun B1 F1 w1 => ?_)
          refine AOps.run tok 1 _ _ _ _ rfl ?_
          refine AOps.nil ⟨rfl, ?_⟩
          refine ZH.to [1, 4, 5, 112, 115] [(1, .bx [dS l.nm, BodiesD l.bodies, JointsD l.joints, DriversD l.drivers]), (4, .d (spE E)), (5, .bx [dS l.nm, BodiesD (l.bodies ++ [furB]), JointsD l.joints, DriversD l.drivers]), (112, .d (JointsD l.joints)), (115, .d (BodiesD l.bodies))] rfl ⟨rfl, trivial⟩ ?_
          exact ZH.ls _ (by kernel_rfl) (N1_0_1 V)
        · refine one_step (fun B1 F1 w1 => ?_)
          refine AOps.run tok 1 _ _ _ _ rfl ?_
          rw [List.length_map]
          refine AOps.nil ⟨rfl, ?_⟩
          refine ZH.to [1, 4, 5, 111, 116] [(1, .bx [dS l.nm, BodiesD l.bodies, JointsD l.joints, DriversD l.drivers]), (4, .d (spE E)), (5, .bx [dS l.nm, BodiesD (l.bodies ++ [furB]), JointsD l.joints, DriversD l.drivers]), (111, .pt 1 2), (116, .d (dI l.bodies.length))] rfl ⟨rfl, trivial⟩ ?_
          exact ZH.ls _ (by kernel_rfl) (N0_0_2 V)
      refine ZH.meet 9 #[true, true, false, false, true, false, false, false, false, false, false, false] (fun V => []) (fun V => [(1, .bx [dS l.nm, BodiesD l.bodies, JointsD l.joints, DriversD l.drivers]), (4, .d (spE E)), (5, .bx [dS l.nm, BodiesD (l.bodies ++ [furB]), JointsD l.joints, DriversD l.drivers]), (111, .pt 1 2), (110, .e0 36), (114, .pt 1 1)]) (fun V => ?_) (fun N0_1_0 => ?_)
      · refine ZH.two 2 5 (by kernel_rfl) rfl rfl rfl rfl (fun _ => rfl) (fun _ => rfl) ⟨rfl, trivial⟩ ?_ ?_
        · refine one_step (fun B1 F1 w1 => ?_)
          refine AOps.run tok 1 _ _ _ _ rfl ?_
          refine AOps.nil ⟨rfl, ?_⟩
          refine ZH.to [1, 4, 5, 112, 110, 114] [(1, .bx [dS l.nm, BodiesD l.bodies, JointsD l.joints, DriversD l.drivers]), (4, .d (spE E)), (5, .bx [dS l.nm, BodiesD (l.bodies ++ [furB]), JointsD l.joints, DriversD l.drivers]), (112, .d (JointsD l.joints)), (110, .e0 36), (114, .pt 1 1)] rfl ⟨rfl, trivial⟩ ?_
          exact ZH.ls _ (by kernel_rfl) (N1_1_0 V)
        · refine one_step (fun B1 F1 w1 => ?_)
          refine AOps.run tok 1 _ _ _ _ rfl ?_
          refine AOps.nil ⟨rfl, ?_⟩
          refine ZH.to [1, 4, 5, 111, 110, 115] [(1, .bx [dS l.nm, BodiesD l.bodies, JointsD l.joints, DriversD l.drivers]), (4, .d (spE E)), (5, .bx [dS l.nm, BodiesD (l.bodies ++ [furB]), JointsD l.joints, DriversD l.drivers]), (111, .pt 1 2), (110, .e0 36), (115, .d (BodiesD l.bodies))] rfl ⟨rfl, trivial⟩ ?_
          exact ZH.ls _ (by kernel_rfl) (N0_1_1 V)
      refine ZH.meet 9 #[false, true, true, false, true, false, false, false, false, false, false, false] (fun V => []) (fun V => [(1, .bx [dS l.nm, BodiesD l.bodies, JointsD l.joints, DriversD l.drivers]), (4, .d (spE E)), (5, .bx [dS l.nm, BodiesD (l.bodies ++ [furB]), JointsD l.joints, DriversD l.drivers]), (112, .d (JointsD l.joints)), (114, .pt 1 1)]) (fun V => ?_) (fun N1_0_0 => ?_)
      · refine ZH.two 0 5 (by kernel_rfl) rfl rfl rfl rfl (fun _ => rfl) (fun _ => rfl) ⟨rfl, trivial⟩ ?_ ?_
        · refine one_step (fun B1 F1 w1 => ?_)
          refine AOps.run tok 1 _ _ _ _ rfl ?_
          refine AOps.nil ⟨rfl, ?_⟩
          refine ZH.to [1, 4, 5, 112, 110, 114] [(1, .bx [dS l.nm, BodiesD l.bodies, JointsD l.joints, DriversD l.drivers]), (4, .d (spE E)), (5, .bx [dS l.nm, BodiesD (l.bodies ++ [furB]), JointsD l.joints, DriversD l.drivers]), (112, .d (JointsD l.joints)), (110, .e0 36), (114, .pt 1 1)] rfl ⟨rfl, trivial⟩ ?_
          exact ZH.ls _ (by kernel_rfl) (N1_1_0 V)
        · refine one_step (fun B1 F1 w1 => ?_)
          refine AOps.run tok 1 _ _ _ _ rfl ?_
          refine AOps.nil ⟨rfl, ?_⟩
          refine ZH.to [1, 4, 5, 112, 115] [(1, .bx [dS l.nm, BodiesD l.bodies, JointsD l.joints, DriversD l.drivers]), (4, .d (spE E)), (5, .bx [dS l.nm, BodiesD (l.bodies ++ [furB]), JointsD l.joints, DriversD l.drivers]), (112, .d (JointsD l.joints)), (115, .d (BodiesD l.bodies))] rfl ⟨rfl, trivial⟩ ?_
          exact ZH.ls _ (by kernel_rfl) (N1_0_1 V)
      refine ZH.meet 10 #[false, true, false, false, true, false, false, false, false, false, false, false] (fun V => []) (fun V => [(1, .bx [dS l.nm, BodiesD l.bodies, JointsD l.joints, DriversD l.drivers]), (4, .d (spE E)), (5, .bx [dS l.nm, BodiesD (l.bodies ++ [furB]), JointsD l.joints, DriversD l.drivers]), (111, .pt 1 2), (114, .pt 1 1)]) (fun V => ?_) (fun N0_0_0 => ?_)
      · refine ZH.three 0 2 5 (by kernel_rfl) rfl rfl rfl rfl rfl rfl (fun _ => rfl) (fun _ => rfl) (fun _ => rfl) ⟨rfl, trivial⟩ ?_ ?_ ?_
        · refine one_step (fun B1 F1 w1 => ?_)
          refine AOps.run tok 1 _ _ _ _ rfl ?_
          refine AOps.nil ⟨rfl, ?_⟩
          refine ZH.to [1, 4, 5, 111, 110, 114] [(1, .bx [dS l.nm, BodiesD l.bodies, JointsD l.joints, DriversD l.drivers]), (4, .d (spE E)), (5, .bx [dS l.nm, BodiesD (l.bodies ++ [furB]), JointsD l.joints, DriversD l.drivers]), (111, .pt 1 2), (110, .e0 36), (114, .pt 1 1)] rfl ⟨rfl, trivial⟩ ?_
          exact ZH.ls _ (by kernel_rfl) (N0_1_0 V)
        · refine one_step (fun B1 F1 w1 => ?_)
          refine AOps.run tok 1 _ _ _ _ rfl ?_
          refine AOps.nil ⟨rfl, ?_⟩
          refine ZH.to [1, 4, 5, 112, 114] [(1, .bx [dS l.nm, BodiesD l.bodies, JointsD l.joints, DriversD l.drivers]), (4, .d (spE E)), (5, .bx [dS l.nm, BodiesD (l.bodies ++ [furB]), JointsD l.joints, DriversD l.drivers]), (112, .d (JointsD l.joints)), (114, .pt 1 1)] rfl ⟨rfl, trivial⟩ ?_
          exact ZH.ls _ (by kernel_rfl) (N1_0_0 V)
        · refine one_step (fun B1 F1 w1 => ?_)
          refine AOps.run tok 1 _ _ _ _ rfl ?_
          refine AOps.nil ⟨rfl, ?_⟩
          refine ZH.to [1, 4, 5, 111, 115] [(1, .bx [dS l.nm, BodiesD l.bodies, JointsD l.joints, DriversD l.drivers]), (4, .d (spE E)), (5, .bx [dS l.nm, BodiesD (l.bodies ++ [furB]), JointsD l.joints, DriversD l.drivers]), (111, .pt 1 2), (115, .d (BodiesD l.bodies))] rfl ⟨rfl, trivial⟩ ?_
          exact ZH.ls _ (by kernel_rfl) (N0_0_1 V)
      refine ZH.to [1, 4, 5, 111, 114] [(1, .bx [dS l.nm, BodiesD l.bodies, JointsD l.joints, DriversD l.drivers]), (4, .d (spE E)), (5, .bx [dS l.nm, BodiesD (l.bodies ++ [furB]), JointsD l.joints, DriversD l.drivers]), (111, .pt 1 2), (114, .pt 1 1)] rfl ⟨rfl, trivial⟩ ?_
      exact ZH.ls _ (by kernel_rfl) (N0_0_0 nilS)
    refine AW.cut [1, 4, 5] (fun _ : Unit => [(1, .bx [dS l.nm, BodiesD l.bodies, JointsD l.joints, DriversD l.drivers]), (4, .d (spE E)), (5, .bx [dS l.nm, BodiesD (l.bodies ++ [furB]), JointsD (l.joints ++ [furJ l.bodies.length]), DriversD (l.drivers ++ [furD l.bodies.length])])]) (fun _ => True) ?_ (fun _ _ => ?_)
    · refine AZ.aw ?_
      refine AZ.any hmix (ZH.any (β := [(1, [dS l.nm, BodiesD l.bodies, JointsD l.joints, DriversD l.drivers])]) ?_)
      refine ZH.fd tok 1 rfl rfl (by kernel_rfl) (by kernel_rfl) (by kernel_rfl) rfl (fun _ _ _ h => h) (fun _ => rfl) ⟨rfl, trivial⟩ (fun B1 F1 w1 => ?_)
      refine AOps.run tok 1 _ _ _ _ rfl ?_
      refine AOps.nil ⟨rfl, ?_⟩
      refine ZH.fd tok 4 rfl rfl (by kernel_rfl) (by kernel_rfl) (by kernel_rfl) rfl (fun _ _ _ h => h) (fun _ => rfl) ⟨rfl, trivial⟩ (fun B1 F1 w1 => ?_)
      refine AOps.run tok 1 _ _ _ _ rfl ?_
      refine AOps.nil ⟨rfl, ?_⟩
      refine ZH.meet 0 #[true, true, true, true, true, true, true, true, true, true, true, true] (fun V => []) (fun V => [(1, .bx [dS l.nm, BodiesD l.bodies, JointsD l.joints, DriversD l.drivers]), (4, .d (spE E)), (5, .bx [dS l.nm, BodiesD (l.bodies ++ [furB]), JointsD (l.joints ++ [furJ l.bodies.length]), .sl 2 (l.drivers.map Driver.D ++ [(furD l.bodies.length).D])])]) (fun V => ?_) (fun N5_1_4 => ?_)
      · refine ZH.done (by kernel_rfl) ⟨rfl, trivial⟩ ?_
        exact ⟨(), by rw [show DriversD (l.drivers ++ [furD l.bodies.length]) = .sl 2 (l.drivers.map Driver.D ++ [(furD l.bodies.length).D]) by show D.sl 2 _ = _; rw [List.map_append]; rfl]; rfl, trivial⟩
      refine ZH.meet 1 #[true, true, true, true, true, true, true, true, true, true, true, false] (fun V => []) (fun V => [(1, .bx [dS l.nm, BodiesD l.bodies, JointsD l.joints, DriversD l.drivers]), (4, .d (spE E)), (5, .bx [dS l.nm, BodiesD (l.bodies ++ [furB]), JointsD (l.joints ++ [furJ l.bodies.length]), DriversD l.drivers]), (130, .d (.sl 2 (l.drivers.map Driver.D ++ [(furD l.bodies.length).D]))), (131, .pt 5 3)]) (fun V => ?_) (fun N4_1_4 => ?_)
      · refine ZH.all 11 (by kernel_rfl) rfl rfl (fun _ => rfl) ⟨rfl, trivial⟩ ?_
        refine one_step (fun B1 F1 w1 => ?_)
        refine AOps.run tok 1 _ _ _ _ rfl ?_
        refine AOps.nil ⟨rfl, ?_⟩
        refine ZH.to [1, 4, 5] [(1, .bx [dS l.nm, BodiesD l.bodies, JointsD l.joints, DriversD l.drivers]), (4, .d (spE E)), (5, .bx [dS l.nm, BodiesD (l.bodies ++ [furB]), JointsD (l.joints ++ [furJ l.bodies.length]), .sl 2 (l.drivers.map Driver.D ++ [(furD l.bodies.length).D])])] rfl ⟨rfl, trivial⟩ ?_
        exact ZH.ls _ (by kernel_rfl) (N5_1_4 V)
      refine ZH.meet 2 #[true, true, true, true, true, true, true, true, true, true, false, false] (fun V => []) (fun V => [(1, .bx [dS l.nm, BodiesD l.bodies, JointsD l.joints, DriversD l.drivers]), (4, .d (spE E)), (5, .bx [dS l.nm, BodiesD (l.bodies ++ [furB]), JointsD (l.joints ++ [furJ l.bodies.length]), DriversD l.drivers]), (130, .d (.sl 2 (l.drivers.map Driver.D ++ [(furD l.bodies.length).D])))]) (fun V => ?_) (fun N3_1_4 => ?_)
      · refine ZH.all 10 (by kernel_rfl) rfl rfl (fun _ => rfl) ⟨rfl, trivial⟩ ?_
        refine one_step (fun B1 F1 w1 => ?_)
        refine AOps.run tok 1 _ _ _ _ rfl ?_
        refine AOps.nil ⟨rfl, ?_⟩
        refine ZH.to [1, 4, 5, 130, 131] [(1, .bx [dS l.nm, BodiesD l.bodies, JointsD l.joints, DriversD l.drivers]), (4, .d (spE E)), (5, .bx [dS l.nm, BodiesD (l.bodies ++ [furB]), JointsD (l.joints ++ [furJ l.bodies.length]), DriversD l.drivers]), (130, .d (.sl 2 (l.drivers.map Driver.D ++ [(furD l.bodies.length).D]))), (131, .pt 5 3)] rfl ⟨rfl, trivial⟩ ?_
        exact ZH.ls _ (by kernel_rfl) (N4_1_4 V)
      refine ZH.meet 3 #[true, true, true, true, true, true, true, true, true, false, false, false] (fun V => []) (fun V => [(1, .bx [dS l.nm, BodiesD l.bodies, JointsD l.joints, DriversD l.drivers]), (4, .d (spE E)), (5, .bx [dS l.nm, BodiesD (l.bodies ++ [furB]), JointsD (l.joints ++ [furJ l.bodies.length]), DriversD l.drivers]), (124, .ow 49 (l.drivers.map Driver.D)), (129, .d (.sl 2 [(furD l.bodies.length).D]))]) (fun V => ?_) (fun N2_1_4 => ?_)
      · refine ZH.all 9 (by kernel_rfl) rfl rfl (fun _ => rfl) ⟨rfl, trivial⟩ ?_
        refine one_step (fun B1 F1 w1 => ?_)
        refine AOps.appo tok rfl rfl rfl rfl rfl rfl (by show ((l.drivers.map Driver.D).length + 1) * 24 ≤ _; rw [List.length_map]; omega) (by show (l.drivers.map Driver.D).length + 1 ≤ _; rw [List.length_map]; omega) ?_
        refine AOps.frz tok 130 rfl rfl ?_
        refine AOps.nil ⟨rfl, ?_⟩
        refine ZH.to [1, 4, 5, 130] [(1, .bx [dS l.nm, BodiesD l.bodies, JointsD l.joints, DriversD l.drivers]), (4, .d (spE E)), (5, .bx [dS l.nm, BodiesD (l.bodies ++ [furB]), JointsD (l.joints ++ [furJ l.bodies.length]), DriversD l.drivers]), (130, .d (.sl 2 (l.drivers.map Driver.D ++ [(furD l.bodies.length).D])))] rfl ⟨rfl, trivial⟩ ?_
        exact ZH.ls _ (by kernel_rfl) (N3_1_4 V)
      refine ZH.meet 4 #[true, true, true, false, true, true, true, true, true, false, false, false] (fun V => []) (fun V => [(1, .bx [dS l.nm, BodiesD l.bodies, JointsD l.joints, DriversD l.drivers]), (4, .d (spE E)), (5, .bx [dS l.nm, BodiesD (l.bodies ++ [furB]), JointsD (l.joints ++ [furJ l.bodies.length]), DriversD l.drivers]), (123, .d (DriversD l.drivers)), (121, .e0 49), (129, .d (.sl 2 [(furD l.bodies.length).D]))]) (fun V => ?_) (fun N1_1_4 => ?_)
      · refine ZH.all 3 (by kernel_rfl) rfl rfl (fun _ => rfl) ⟨rfl, trivial⟩ ?_
        refine one_step (fun B1 F1 w1 => ?_)
        refine AOps.app0 tok rfl rfl rfl rfl (by show (l.drivers.map Driver.D).length * 24 ≤ _; rw [List.length_map]; omega) ?_
        refine AOps.nil ⟨rfl, ?_⟩
        refine ZH.to [1, 4, 5, 124, 129] [(1, .bx [dS l.nm, BodiesD l.bodies, JointsD l.joints, DriversD l.drivers]), (4, .d (spE E)), (5, .bx [dS l.nm, BodiesD (l.bodies ++ [furB]), JointsD (l.joints ++ [furJ l.bodies.length]), DriversD l.drivers]), (124, .ow 49 (l.drivers.map Driver.D)), (129, .d (.sl 2 [(furD l.bodies.length).D]))] rfl ⟨rfl, trivial⟩ ?_
        exact ZH.ls _ (by kernel_rfl) (N2_1_4 V)
      refine ZH.meet 4 #[true, true, true, true, true, true, true, true, false, false, false, false] (fun V => []) (fun V => [(1, .bx [dS l.nm, BodiesD l.bodies, JointsD l.joints, DriversD l.drivers]), (4, .d (spE E)), (5, .bx [dS l.nm, BodiesD (l.bodies ++ [furB]), JointsD (l.joints ++ [furJ l.bodies.length]), DriversD l.drivers]), (124, .ow 49 (l.drivers.map Driver.D)), (128, .d (furD l.bodies.length).D)]) (fun V => ?_) (fun N2_1_3 => ?_)
      · refine ZH.all 8 (by kernel_rfl) rfl rfl (fun _ => rfl) ⟨rfl, trivial⟩ ?_
        refine one_step (fun B1 F1 w1 => ?_)
        refine AOps.bsd tok rfl rfl rfl rfl rfl ?_
        refine AOps.nil ⟨rfl, ?_⟩
        refine ZH.to [1, 4, 5, 124, 129] [(1, .bx [dS l.nm, BodiesD l.bodies, JointsD l.joints, DriversD l.drivers]), (4, .d (spE E)), (5, .bx [dS l.nm, BodiesD (l.bodies ++ [furB]), JointsD (l.joints ++ [furJ l.bodies.length]), DriversD l.drivers]), (124, .ow 49 (l.drivers.map Driver.D)), (129, .d (.sl 2 [(furD l.bodies.length).D]))] rfl ⟨rfl, trivial⟩ ?_
        exact ZH.ls _ (by kernel_rfl) (N2_1_4 V)
      refine ZH.meet 5 #[true, true, false, false, true, true, true, true, true, false, false, false] (fun V => []) (fun V => [(1, .bx [dS l.nm, BodiesD l.bodies, JointsD l.joints, DriversD l.drivers]), (4, .d (spE E)), (5, .bx [dS l.nm, BodiesD (l.bodies ++ [furB]), JointsD (l.joints ++ [furJ l.bodies.length]), DriversD l.drivers]), (122, .pt 1 3), (121, .e0 49), (129, .d (.sl 2 [(furD l.bodies.length).D]))]) (fun V => ?_) (fun N0_1_4 => ?_)
      · refine ZH.all 2 (by kernel_rfl) rfl rfl (fun _ => rfl) ⟨rfl, trivial⟩ ?_
        refine one_step (fun B1 F1 w1 => ?_)
        refine AOps.run tok 1 _ _ _ _ rfl ?_
        refine AOps.nil ⟨rfl, ?_⟩
        refine ZH.to [1, 4, 5, 123, 121, 129] [(1, .bx [dS l.nm, BodiesD l.bodies, JointsD l.joints, DriversD l.drivers]), (4, .d (spE E)), (5, .bx [dS l.nm, BodiesD (l.bodies ++ [furB]), JointsD (l.joints ++ [furJ l.bodies.length]), DriversD l.drivers]), (123, .d (DriversD l.drivers)), (121, .e0 49), (129, .d (.sl 2 [(furD l.bodies.length).D]))] rfl ⟨rfl, trivial⟩ ?_
        exact ZH.ls _ (by kernel_rfl) (N1_1_4 V)
      refine ZH.meet 5 #[false, true, true, false, true, true, true, true, true, false, false, false] (fun V => []) (fun V => [(1, .bx [dS l.nm, BodiesD l.bodies, JointsD l.joints, DriversD l.drivers]), (4, .d (spE E)), (5, .bx [dS l.nm, BodiesD (l.bodies ++ [furB]), JointsD (l.joints ++ [furJ l.bodies.length]), DriversD l.drivers]), (123, .d (DriversD l.drivers)), (129, .d (.sl 2 [(furD l.bodies.length).D]))]) (fun V => ?_) (fun N1_0_4 => ?_)
      · refine ZH.all 0 (by kernel_rfl) rfl rfl (fun _ => rfl) ⟨rfl, trivial⟩ ?_
        refine one_step (fun B1 F1 w1 => ?_)
        refine AOps.run tok 1 _ _ _ _ rfl ?_
        refine AOps.nil ⟨rfl, ?_⟩
        refine ZH.to [1, 4, 5, 123, 121, 129] [(1, .bx [dS l.nm, BodiesD l.bodies, JointsD l.joints, DriversD l.drivers]), (4, .d (spE E)), (5, .bx [dS l.nm, BodiesD (l.bodies ++ [furB]), JointsD (l.joints ++ [furJ l.bodies.length]), DriversD l.drivers]), (123, .d (DriversD l.drivers)), (121, .e0 49), (129, .d (.sl 2 [(furD l.bodies.length).D]))] rfl ⟨rfl, trivial⟩ ?_
        exact ZH.ls _ (by kernel_rfl) (N1_1_4 V)
      refine ZH.meet 5 #[true, true, true, false, true, true, true, true, false, false, false, false] (fun V => []) (fun V => [(1, .bx [dS l.nm, BodiesD l.bodies, JointsD l.joints, DriversD l.drivers]), (4, .d (spE E)), (5, .bx [dS l.nm, BodiesD (l.bodies ++ [furB]), JointsD (l.joints ++ [furJ l.bodies.length]), DriversD l.drivers]), (123, .d (DriversD l.drivers)), (121, .e0 49), (128, .d (furD l.bodies.length).D)]) (fun V => ?_) (fun N1_1_3 => ?_)
      · refine ZH.two 3 8 (by kernel_rfl) rfl rfl rfl rfl (fun _ => rfl) (fun _ => rfl) ⟨rfl, trivial⟩ ?_ ?_
        · refine one_step (fun B1 F1 w1 => ?_)
          refine AOps.app0 tok rfl rfl rfl rfl (by show (l.drivers.map Driver.D).length * 24 ≤ _; rw [List.length_map]; omega) ?_
          refine AOps.nil ⟨rfl, ?_⟩
          refine ZH.to [1, 4, 5, 124, 128] [(1, .bx [dS l.nm, BodiesD l.bodies, JointsD l.joints, DriversD l.drivers]), (4, .d (spE E)), (5, .bx [dS l.nm, BodiesD (l.bodies ++ [furB]), JointsD (l.joints ++ [furJ l.bodies.length]), DriversD l.drivers]), (124, .ow 49 (l.drivers.map Driver.D)), (128, .d (furD l.bodies.length).D)] rfl ⟨rfl, trivial⟩ ?_
          exact ZH.ls _ (by kernel_rfl) (N2_1_3 V)
        · refine one_step (fun B1 F1 w1 => ?_)
          refine AOps.bsd tok rfl rfl rfl rfl rfl ?_
          refine AOps.nil ⟨rfl, ?_⟩
          refine ZH.to [1, 4, 5, 123, 121, 129] [(1, .bx [dS l.nm, BodiesD l.bodies, JointsD l.joints, DriversD l.drivers]), (4, .d (spE E)), (5, .bx [dS l.nm, BodiesD (l.bodies ++ [furB]), JointsD (l.joints ++ [furJ l.bodies.length]), DriversD l.drivers]), (123, .d (DriversD l.drivers)), (121, .e0 49), (129, .d (.sl 2 [(furD l.bodies.length).D]))] rfl ⟨rfl, trivial⟩ ?_
          exact ZH.ls _ (by kernel_rfl) (N1_1_4 V)
      refine ZH.meet 5 #[true, true, true, true, true, true, true, false, false, false, false, false] (fun V => []) (fun V => [(1, .bx [dS l.nm, BodiesD l.bodies, JointsD l.joints, DriversD l.drivers]), (4, .d (spE E)), (5, .bx [dS l.nm, BodiesD (l.bodies ++ [furB]), JointsD (l.joints ++ [furJ l.bodies.length]), DriversD l.drivers]), (124, .ow 49 (l.drivers.map Driver.D)), (127, .d (dI l.bodies.length))]) (fun V => ?_) (fun N2_1_2 => ?_)
      · refine ZH.all 7 (by kernel_rfl) rfl rfl (fun _ => rfl) ⟨rfl, trivial⟩ ?_
        refine one_step (fun B1 F1 w1 => ?_)
        refine AOps.run tok 1 _ _ _ _ rfl ?_
        refine AOps.nil ⟨rfl, ?_⟩
        refine ZH.to [1, 4, 5, 124, 128] [(1, .bx [dS l.nm, BodiesD l.bodies, JointsD l.joints, DriversD l.drivers]), (4, .d (spE E)), (5, .bx [dS l.nm, BodiesD (l.bodies ++ [furB]), JointsD (l.joints ++ [furJ l.bodies.length]), DriversD l.drivers]), (124, .ow 49 (l.drivers.map Driver.D)), (128, .d (furD l.bodies.length).D)] rfl ⟨rfl, trivial⟩ ?_
        exact ZH.ls _ (by kernel_rfl) (N2_1_3 V)
      refine ZH.meet 6 #[false, true, false, false, true, true, true, true, true, false, false, false] (fun V => []) (fun V => [(1, .bx [dS l.nm, BodiesD l.bodies, JointsD l.joints, DriversD l.drivers]), (4, .d (spE E)), (5, .bx [dS l.nm, BodiesD (l.bodies ++ [furB]), JointsD (l.joints ++ [furJ l.bodies.length]), DriversD l.drivers]), (122, .pt 1 3), (129, .d (.sl 2 [(furD l.bodies.length).D]))]) (fun V => ?_) (fun N0_0_4 => ?_)
      · refine ZH.two 0 2 (by kernel_rfl) rfl rfl rfl rfl (fun _ => rfl) (fun _ => rfl) ⟨rfl, trivial⟩ ?_ ?_
        · refine one_step (fun B1 F1 w1 => ?_)
          refine AOps.run tok 1 _ _ _ _ rfl ?_
          refine AOps.nil ⟨rfl, ?_⟩
          refine ZH.to [1, 4, 5, 122, 121, 129] [(1, .bx [dS l.nm, BodiesD l.bodies, JointsD l.joints, DriversD l.drivers]), (4, .d (spE E)), (5, .bx [dS l.nm, BodiesD (l.bodies ++ [furB]), JointsD (l.joints ++ [furJ l.bodies.length]), DriversD l.drivers]), (122, .pt 1 3), (121, .e0 49), (129, .d (.sl 2 [(furD l.bodies.length).D]))] rfl ⟨rfl, trivial⟩ ?_
          exact ZH.ls _ (by kernel_rfl) (N0_1_4 V)
        · refine one_step (fun B1 F1 w1 => ?_)
          refine AOps.run tok 1 _ _ _ _ rfl ?_
          refine AOps.nil ⟨rfl, ?_⟩
          refine ZH.to [1, 4, 5, 123, 129] [(1, .bx [dS l.nm, BodiesD l.bodies, JointsD l.joints, DriversD l.drivers]), (4, .d (spE E)), (5, .bx [dS l.nm, BodiesD (l.bodies ++ [furB]), JointsD (l.joints ++ [furJ l.bodies.length]), DriversD l.drivers]), (123, .d (DriversD l.drivers)), (129, .d (.sl 2 [(furD l.bodies.length).D]))] rfl ⟨rfl, trivial⟩ ?_
          exact ZH.ls _ (by kernel_rfl) (N1_0_4 V)
      refine ZH.meet 6 #[true, true, false, false, true, true, true, true, false, false, false, false] (fun V => []) (fun V => [(1, .bx [dS l.nm, BodiesD l.bodies, JointsD l.joints, DriversD l.drivers]), (4, .d (spE E)), (5, .bx [dS l.nm, BodiesD (l.bodies ++ [furB]), JointsD (l.joints ++ [furJ l.bodies.length]), DriversD l.drivers]), (122, .pt 1 3), (121, .e0 49), (128, .d (furD l.bodies.length).D)]) (fun V => ?_) (fun N0_1_3 => ?_)
      · refine ZH.two 2 8 (by kernel_rfl) rfl rfl rfl rfl (fun _ => rfl) (fun _ => rfl) ⟨rfl, trivial⟩ ?_ ?_
        · refine one_step (fun B1 F1 w1 => ?_)
          refine AOps.run tok 1 _ _ _ _ rfl ?_
          refine AOps.nil ⟨rfl, ?_⟩
          refine ZH.to [1, 4, 5, 123, 121, 128] [(1, .bx [dS l.nm, BodiesD l.bodies, JointsD l.joints, DriversD l.drivers]), (4, .d (spE E)), (5, .bx [dS l.nm, BodiesD (l.bodies ++ [furB]), JointsD (l.joints ++ [furJ l.bodies.length]), DriversD l.drivers]), (123, .d (DriversD l.drivers)), (121, .e0 49), (128, .d (furD l.bodies.length).D)] rfl ⟨rfl, trivial⟩ ?_
          exact ZH.ls _ (by kernel_rfl) (N1_1_3 V)
        · refine one_step (fun B1 F1 w1 => ?_)
          refine AOps.bsd tok rfl rfl rfl rfl rfl ?_
          refine AOps.nil ⟨rfl, ?_⟩
          refine ZH.to [1, 4, 5, 122, 121, 129] [(1, .bx [dS l.nm, BodiesD l.bodies, JointsD l.joints, DriversD l.drivers]), (4, .d (spE E)), (5, .bx [dS l.nm, BodiesD (l.bodies ++ [furB]), JointsD (l.joints ++ [furJ l.bodies.length]), DriversD l.drivers]), (122, .pt 1 3), (121, .e0 49), (129, .d (.sl 2 [(furD l.bodies.length).D]))] rfl ⟨rfl, trivial⟩ ?_
          exact ZH.ls _ (by kernel_rfl) (N0_1_4 V)
      refine ZH.meet 6 #[false, true, true, false, true, true, true, true, false, false, false, false] (fun V => []) (fun V => [(1, .bx [dS l.nm, BodiesD l.bodies, JointsD l.joints, DriversD l.drivers]), (4, .d (spE E)), (5, .bx [dS l.nm, BodiesD (l.bodies ++ [furB]), JointsD (l.joints ++ [furJ l.bodies.length]), DriversD l.drivers]), (123, .d (DriversD l.drivers)), (128, .d (furD l.bodies.length).D)]) (fun V => ?_) (fun N1_0_3 => ?_)
      · refine ZH.two 0 8 (by kernel_rfl) rfl rfl rfl rfl (fun _ => rfl) (fun _ => rfl) ⟨rfl, trivial⟩ ?_ ?_
        · refine one_step (fun B1 F1 w1 => ?_)
          refine AOps.run tok 1 _ _ _ _ rfl ?_
          refine AOps.nil ⟨rfl, ?_⟩
          refine ZH.to [1, 4, 5, 123, 121, 128] [(1, .bx [dS l.nm, BodiesD l.bodies, JointsD l.joints, DriversD l.drivers]), (4, .d (spE E)), (5, .bx [dS l.nm, BodiesD (l.bodies ++ [furB]), JointsD (l.joints ++ [furJ l.bodies.length]), DriversD l.drivers]), (123, .d (DriversD l.drivers)), (121, .e0 49), (128, .d (furD l.bodies.length).D)] rfl ⟨rfl, trivial⟩ ?_
          exact ZH.ls _ (by kernel_rfl) (N1_1_3 V)
        · refine one_step (fun B1 F1 w1 => ?_)
          refine AOps.bsd tok rfl rfl rfl rfl rfl ?_
          refine AOps.nil ⟨rfl, ?_⟩
          refine ZH.to [1, 4, 5, 123, 129] [(1, .bx [dS l.nm, BodiesD l.bodies, JointsD l.joints, DriversD l.drivers]), (4, .d (spE E)), (5, .bx [dS l.nm, BodiesD (l.bodies ++ [furB]), JointsD (l.joints ++ [furJ l.bodies.length]), DriversD l.drivers]), (123, .d (DriversD l.drivers)), (129, .d (.sl 2 [(furD l.bodies.length).D]))] rfl ⟨rfl, trivial⟩ ?_
          exact ZH.ls _ (by kernel_rfl) (N1_0_4 V)
      refine ZH.meet 6 #[true, true, true, false, true, true, true, false, false, false, false, false] (fun V => []) (fun V => [(1, .bx [dS l.nm, BodiesD l.bodies, JointsD l.joints, DriversD l.drivers]), (4, .d (spE E)), (5, .bx [dS l.nm, BodiesD (l.bodies ++ [furB]), JointsD (l.joints ++ [furJ l.bodies.length]), DriversD l.drivers]), (123, .d (DriversD l.drivers)), (121, .e0 49), (127, .d (dI l.bodies.length))]) (fun V => ?_) (fun N1_1_2 => ?_)
      · refine ZH.two 3 7 (by kernel_rfl) rfl rfl rfl rfl (fun _ => rfl) (fun _ => rfl) ⟨rfl, trivial⟩ ?_ ?_
        · refine one_step (fun B1 F1 w1 => ?_)
          refine AOps.app0 tok rfl rfl rfl rfl (by show (l.drivers.map Driver.D).length * 24 ≤ _; rw [List.length_map]; omega) ?_
          refine AOps.nil ⟨rfl, ?_⟩
          refine ZH.to [1, 4, 5, 124, 127] [(1, .bx [dS l.nm, BodiesD l.bodies, JointsD l.joints, DriversD l.drivers]), (4, .d (spE E)), (5, .bx [dS l.nm, BodiesD (l.bodies ++ [furB]), JointsD (l.joints ++ [furJ l.bodies.length]), DriversD l.drivers]), (124, .ow 49 (l.drivers.map Driver.D)), (127, .d (dI l.bodies.length))] rfl ⟨rfl, trivial⟩ ?_
          exact ZH.ls _ (by kernel_rfl) (N2_1_2 V)
        · refine one_step (fun B1 F1 w1 => ?_)
          refine AOps.run tok 1 _ _ _ _ rfl ?_
          refine AOps.nil ⟨rfl, ?_⟩
          refine ZH.to [1, 4, 5, 123, 121, 128] [(1, .bx [dS l.nm, BodiesD l.bodies, JointsD l.joints, DriversD l.drivers]), (4, .d (spE E)), (5, .bx [dS l.nm, BodiesD (l.bodies ++ [furB]), JointsD (l.joints ++ [furJ l.bodies.length]), DriversD l.drivers]), (123, .d (DriversD l.drivers)), (121, .e0 49), (128, .d (furD l.bodies.length).D)] rfl ⟨rfl, trivial⟩ ?_
          exact ZH.ls _ (by kernel_rfl) (N1_1_3 V)
      refine ZH.meet 6 #[true, true, true, true, true, true, false, false, false, false, false, false] (fun V => []) (fun V => [(1, .bx [dS l.nm, BodiesD l.bodies, JointsD l.joints, DriversD l.drivers]), (4, .d (spE E)), (5, .bx [dS l.nm, BodiesD (l.bodies ++ [furB]), JointsD (l.joints ++ [furJ l.bodies.length]), DriversD l.drivers]), (124, .ow 49 (l.drivers.map Driver.D)), (126, .d (BodiesD l.bodies))]) (fun V => ?_) (fun N2_1_1 => ?_)
      · refine ZH.all 6 (by kernel_rfl) rfl rfl (fun _ => rfl) ⟨rfl, trivial⟩ ?_
        refine one_step (fun B1 F1 w1 => ?_)
        refine AOps.run tok 1 _ _ _ _ rfl ?_
        rw [List.length_map]
        refine AOps.nil ⟨rfl, ?_⟩
        refine ZH.to [1, 4, 5, 124, 127] [(1, .bx [dS l.nm, BodiesD l.bodies, JointsD l.joints, DriversD l.drivers]), (4, .d (spE E)), (5, .bx [dS l.nm, BodiesD (l.bodies ++ [furB]), JointsD (l.joints ++ [furJ l.bodies.length]), DriversD l.drivers]), (124, .ow 49 (l.drivers.map Driver.D)), (127, .d (dI l.bodies.length))] rfl ⟨rfl, trivial⟩ ?_
        exact ZH.ls _ (by kernel_rfl) (N2_1_2 V)
      refine ZH.meet 7 #[false, true, false, false, true, true, true, true, false, false, false, false] (fun V => []) (fun V => [(1, .bx [dS l.nm, BodiesD l.bodies, JointsD l.joints, DriversD l.drivers]), (4, .d (spE E)), (5, .bx [dS l.nm, BodiesD (l.bodies ++ [furB]), JointsD (l.joints ++ [furJ l.bodies.length]), DriversD l.drivers]), (122, .pt 1 3), (128, .d (furD l.bodies.length).D)]) (fun V => ?_) (fun N0_0_3 => ?_)
      · refine ZH.three 0 2 8 (by kernel_rfl) rfl rfl rfl rfl rfl rfl (fun _ => rfl) (fun _ => rfl) (fun _ => rfl) ⟨rfl, trivial⟩ ?_ ?_ ?_
        · refine one_step (fun B1 F1 w1 => ?_)
          refine AOps.run tok 1 _ _ _ _ rfl ?_
          refine AOps.nil ⟨rfl, ?_⟩
          refine ZH.to [1, 4, 5, 122, 121, 128] [(1, .bx [dS l.nm, BodiesD l.bodies, JointsD l.joints, DriversD l.drivers]), (4, .d (spE E)), (5, .bx [dS l.nm, BodiesD (l.bodies ++ [furB]), JointsD (l.joints ++ [furJ l.bodies.length]), DriversD l.drivers]), (122, .pt 1 3), (121, .e0 49), (128, .d (furD l.bodies.length).D)] rfl ⟨rfl, trivial⟩ ?_
          exact ZH.ls _ (by kernel_rfl) (N0_1_3 V)
        · refine one_step (fun B1 F1 w1 => ?_)
          refine AOps.run tok 1 _ _ _ _ rfl ?_
          refine AOps.nil ⟨rfl, ?_⟩
          refine ZH.to [1, 4, 5, 123, 128] [(1, .bx [dS l.nm, BodiesD l.bodies, JointsD l.joints, DriversD l.drivers]), (4, .d (spE E)), (5, .bx [dS l.nm, BodiesD (l.bodies ++ [furB]), JointsD (l.joints ++ [furJ l.bodies.length]), DriversD l.drivers]), (123, .d (DriversD l.drivers)), (128, .d (furD l.bodies.length).D)] rfl ⟨rfl, trivial⟩ ?_
          exact ZH.ls _ (by kernel_rfl) (N1_0_3 V)
        · refine one_step (fun B1 F1 w1 => ?_)
          refine AOps.bsd tok rfl rfl rfl rfl rfl ?_
          refine AOps.nil ⟨rfl, ?_⟩
          refine ZH.to [1, 4, 5, 122, 129] [(1, .bx [dS l.nm, BodiesD l.bodies, JointsD l.joints, DriversD l.drivers]), (4, .d (spE E)), (5, .bx [dS l.nm, BodiesD (l.bodies ++ [furB]), JointsD (l.joints ++ [furJ l.bodies.length]), DriversD l.drivers]), (122, .pt 1 3), (129, .d (.sl 2 [(furD l.bodies.length).D]))] rfl ⟨rfl, trivial⟩ ?_
          exact ZH.ls _ (by kernel_rfl) (N0_0_4 V)
      refine ZH.meet 7 #[true, true, false, false, true, true, true, false, false, false, false, false] (fun V => []) (fun V => [(1, .bx [dS l.nm, BodiesD l.bodies, JointsD l.joints, DriversD l.drivers]), (4, .d (spE E)), (5, .bx [dS l.nm, BodiesD (l.bodies ++ [furB]), JointsD (l.joints ++ [furJ l.bodies.length]), DriversD l.drivers]), (122, .pt 1 3), (121, .e0 49), (127, .d (dI l.bodies.length))]) (fun V => ?_) (fun N0_1_2 => ?_)
      · refine ZH.two 2 7 (by kernel_rfl) rfl rfl rfl rfl (fun _ => rfl) (fun _ => rfl) ⟨rfl, trivial⟩ ?_ ?_
        · refine one_step (fun B1 F1 w1 => ?_)
          refine AOps.run tok 1 _ _ _ _ rfl ?_
          refine AOps.nil ⟨rfl, ?_⟩
          refine ZH.to [1, 4, 5, 123, 121, 127] [(1, .bx [dS l.nm, BodiesD l.bodies, JointsD l.joints, DriversD l.drivers]), (4, .d (spE E)), (5, .bx [dS l.nm, BodiesD (l.bodies ++ [furB]), JointsD (l.joints ++ [furJ l.bodies.length]), DriversD l.drivers]), (123, .d (DriversD l.drivers)), (121, .e0 49), (127, .d (dI l.bodies.length))] rfl ⟨rfl, trivial⟩ ?_
          exact ZH.ls _ (by kernel_rfl) (N1_1_2 V)
        · refine one_step (fun B1 F1 w1 => ?_)
          refine AOps.run tok 1 _ _ _ _ rfl ?_
          refine AOps.nil ⟨rfl, ?_⟩
          refine ZH.to [1, 4, 5, 122, 121, 128] [(1, .bx [dS l.nm, BodiesD l.bodies, JointsD l.joints, DriversD l.drivers]), (4, .d (spE E)), (5, .bx [dS l.nm, BodiesD (l.bodies ++ [furB]), JointsD (l.joints ++ [furJ l.bodies.length]), DriversD l.drivers]), (122, .pt 1 3), (121, .e0 49), (128, .d (furD l.bodies.length).D)] rfl ⟨rfl, trivial⟩ ?_
          exact ZH.ls _ (by kernel_rfl) (N0_1_3 V)
      refine ZH.meet 7 #[false, true, true, false, true, true, true, false, false, false, false, false] (fun V => []) (fun V => [(1, .bx [dS l.nm, BodiesD l.bodies, JointsD l.joints, DriversD l.drivers]), (4, .d (spE E)), (5, .bx [dS l.nm, BodiesD (l.bodies ++ [furB]), JointsD (l.joints ++ [furJ l.bodies.length]), DriversD l.drivers]), (123, .d (DriversD l.drivers)), (127, .d (dI l.bodies.length))]) (fun V => ?_) (fun N1_0_2 => ?_)
      · refine ZH.two 0 7 (by kernel_rfl) rfl rfl rfl rfl (fun _ => rfl) (fun _ => rfl) ⟨rfl, trivial⟩ ?_ ?_
        · refine one_step (fun B1 F1 w1 => ?_)
          refine AOps.run tok 1 _ _ _ _ rfl ?_
          refine AOps.nil ⟨rfl, ?_⟩
          refine ZH.to [1, 4, 5, 123, 121, 127] [(1, .bx [dS l.nm, BodiesD l.bodies, JointsD l.joints, DriversD l.drivers]), (4, .d (spE E)), (5, .bx [dS l.nm, BodiesD (l.bodies ++ [furB]), JointsD (l.joints ++ [furJ l.bodies.length]), DriversD l.drivers]), (123, .d (DriversD l.drivers)), (121, .e0 49), (127, .d (dI l.bodies.length))] rfl ⟨rfl, trivial⟩ ?_
          exact ZH.ls _ (by kernel_rfl) (N1_1_2 V)
        · refine one_step (fun B1 F1 w1 => ?_)
          refine AOps.run tok 1 _ _ _ _ rfl ?_
          refine AOps.nil ⟨rfl, ?_⟩
          refine ZH.to [1, 4, 5, 123, 128] [(1, .bx [dS l.nm, BodiesD l.bodies, JointsD l.joints, DriversD l.drivers]), (4, .d (spE E)), (5, .bx [dS l.nm, BodiesD (l.bodies ++ [furB]), JointsD (l.joints ++ [furJ l.bodies.length]), DriversD l.drivers]), (123, .d (DriversD l.drivers)), (128, .d (furD l.bodies.length).D)] rfl ⟨rfl, trivial⟩ ?_
          exact ZH.ls _ (by kernel_rfl) (N1_0_3 V)
      refine ZH.meet 7 #[true, true, true, false, true, true, false, false, false, false, false, false] (fun V => []) (fun V => [(1, .bx [dS l.nm, BodiesD l.bodies, JointsD l.joints, DriversD l.drivers]), (4, .d (spE E)), (5, .bx [dS l.nm, BodiesD (l.bodies ++ [furB]), JointsD (l.joints ++ [furJ l.bodies.length]), DriversD l.drivers]), (123, .d (DriversD l.drivers)), (121, .e0 49), (126, .d (BodiesD l.bodies))]) (fun V => ?_) (fun N1_1_1 => ?_)
      · refine ZH.two 3 6 (by kernel_rfl) rfl rfl rfl rfl (fun _ => rfl) (fun _ => rfl) ⟨rfl, trivial⟩ ?_ ?_
        · refine one_step (fun B1 F1 w1 => ?_)
          refine AOps.app0 tok rfl rfl rfl rfl (by show (l.drivers.map Driver.D).length * 24 ≤ _; rw [List.length_map]; omega) ?_
          refine AOps.nil ⟨rfl, ?_⟩
          refine ZH.to [1, 4, 5, 124, 126] [(1, .bx [dS l.nm, BodiesD l.bodies, JointsD l.joints, DriversD l.drivers]), (4, .d (spE E)), (5, .bx [dS l.nm, BodiesD (l.bodies ++ [furB]), JointsD (l.joints ++ [furJ l.bodies.length]), DriversD l.drivers]), (124, .ow 49 (l.drivers.map Driver.D)), (126, .d (BodiesD l.bodies))] rfl ⟨rfl, trivial⟩ ?_
          exact ZH.ls _ (by kernel_rfl) (N2_1_1 V)
        · refine one_step (fun B1 F1 w1 => ?_)
          refine AOps.run tok 1 _ _ _ _ rfl ?_
          rw [List.length_map]
          refine AOps.nil ⟨rfl, ?_⟩
          refine ZH.to [1, 4, 5, 123, 121, 127] [(1, .bx [dS l.nm, BodiesD l.bodies, JointsD l.joints, DriversD l.drivers]), (4, .d (spE E)), (5, .bx [dS l.nm, BodiesD (l.bodies ++ [furB]), JointsD (l.joints ++ [furJ l.bodies.length]), DriversD l.drivers]), (123, .d (DriversD l.drivers)), (121, .e0 49), (127, .d (dI l.bodies.length))] rfl ⟨rfl, trivial⟩ ?_
          exact ZH.ls _ (by kernel_rfl) (N1_1_2 V)
      refine ZH.meet 7 #[true, true, true, true, true, false, false, false, false, false, false, false] (fun V => []) (fun V => [(1, .bx [dS l.nm, BodiesD l.bodies, JointsD l.joints, DriversD l.drivers]), (4, .d (spE E)), (5, .bx [dS l.nm, BodiesD (l.bodies ++ [furB]), JointsD (l.joints ++ [furJ l.bodies.length]), DriversD l.drivers]), (124, .ow 49 (l.drivers.map Driver.D)), (125, .pt 1 1)]) (fun V => ?_) (fun N2_1_0 => ?_)
      · refine ZH.all 5 (by kernel_rfl) rfl rfl (fun _ => rfl) ⟨rfl, trivial⟩ ?_
        refine one_step (fun B1 F1 w1 => ?_)
        refine AOps.run tok 1 _ _ _ _ rfl ?_
        refine AOps.nil ⟨rfl, ?_⟩
        refine ZH.to [1, 4, 5, 124, 126] [(1, .bx [dS l.nm, BodiesD l.bodies, JointsD l.joints, DriversD l.drivers]), (4, .d (spE E)), (5, .bx [dS l.nm, BodiesD (l.bodies ++ [furB]), JointsD (l.joints ++ [furJ l.bodies.length]), DriversD l.drivers]), (124, .ow 49 (l.drivers.map Driver.D)), (126, .d (BodiesD l.bodies))] rfl ⟨rfl, trivial⟩ ?_
        exact ZH.ls _ (by kernel_rfl) (N2_1_1 V)
      refine ZH.meet 8 #[false, true, false, false, true, true, true, false, false, false, false, false] (fun V => []) (fun V => [(1, .bx [dS l.nm, BodiesD l.bodies, JointsD l.joints, DriversD l.drivers]), (4, .d (spE E)), (5, .bx [dS l.nm, BodiesD (l.bodies ++ [furB]), JointsD (l.joints ++ [furJ l.bodies.length]), DriversD l.drivers]), (122, .pt 1 3), (127, .d (dI l.bodies.length))]) (fun V => ?_) (fun N0_0_2 => ?_)
      · refine ZH.three 0 2 7 (by kernel_rfl) rfl rfl rfl rfl rfl rfl (fun _ => rfl) (fun _ => rfl) (fun _ => rfl) ⟨rfl, trivial⟩ ?_ ?_ ?_
        · refine one_step (fun B1 F1 w1 => ?_)
          refine AOps.run tok 1 _ _ _ _ rfl ?_
          refine AOps.nil ⟨rfl, ?_⟩
          refine ZH.to [1, 4, 5, 122, 121, 127] [(1, .bx [dS l.nm, BodiesD l.bodies, JointsD l.joints, DriversD l.drivers]), (4, .d (spE E)), (5, .bx [dS l.nm, BodiesD (l.bodies ++ [furB]), JointsD (l.joints ++ [furJ l.bodies.length]), DriversD l.drivers]), (122, .pt 1 3), (121, .e0 49), (127, .d (dI l.bodies.length))] rfl ⟨rfl, trivial⟩ ?_
          exact ZH.ls _ (by kernel_rfl) (N0_1_2 V)
        · refine one_step (fun B1 F1 w1 => ?_)
          refine AOps.run tok 1 _ _ _ _ rfl ?_
          refine AOps.nil ⟨rfl, ?_⟩
          refine ZH.to [1, 4, 5, 123, 127] [(1, .bx [dS l.nm, BodiesD l.bodies, JointsD l.joints, DriversD l.drivers]), (4, .d (spE E)), (5, .bx [dS l.nm, BodiesD (l.bodies ++ [furB]), JointsD (l.joints ++ [furJ l.bodies.length]), DriversD l.drivers]), (123, .d (DriversD l.drivers)), (127, .d (dI l.bodies.length))] rfl ⟨rfl, trivial⟩ ?_
          exact ZH.ls _ (by kernel_rfl) (N1_0_2 V)
        · refine one_step (fun B1 F1 w1 => ?_)
          refine AOps.run tok 1 _ _ _ _ rfl ?_
          refine AOps.nil ⟨rfl, ?_⟩
          refine ZH.to [1, 4, 5, 122, 128] [(1, .bx [dS l.nm, BodiesD l.bodies, JointsD l.joints, DriversD l.drivers]), (4, .d (spE E)), (5, .bx [dS l.nm, BodiesD (l.bodies ++ [furB]), JointsD (l.joints ++ [furJ l.bodies.length]), DriversD l.drivers]), (122, .pt 1 3), (128, .d (furD l.bodies.length).D)] rfl ⟨rfl, trivial⟩ ?_
          exact ZH.ls _ (by kernel_rfl) (N0_0_3 V)
      refine ZH.meet 8 #[true, true, false, false, true, true, false, false, false, false, false, false] (fun V => []) (fun V => [(1, .bx [dS l.nm, BodiesD l.bodies, JointsD l.joints, DriversD l.drivers]), (4, .d (spE E)), (5, .bx [dS l.nm, BodiesD (l.bodies ++ [furB]), JointsD (l.joints ++ [furJ l.bodies.length]), DriversD l.drivers]), (122, .pt 1 3), (121, .e0 49), (126, .d (BodiesD l.bodies))]) (fun V => ?_) (fun N0_1_1 => ?_)
      · refine ZH.two 2 6 (by kernel_rfl) rfl rfl rfl rfl (fun _ => rfl) (fun _ => rfl) ⟨rfl, trivial⟩ ?_ ?_
        · refine one_step (fun B1 F1 w1 => ?_)
          refine AOps.run tok 1 _ _ _ _ rfl ?_
          refine AOps.nil ⟨rfl, ?_⟩
          refine ZH.to [1, 4, 5, 123, 121, 126] [(1, .bx [dS l.nm, BodiesD l.bodies, JointsD l.joints, DriversD l.drivers]), (4, .d (spE E)), (5, .bx [dS l.nm, BodiesD (l.bodies ++ [furB]), JointsD (l.joints ++ [furJ l.bodies.length]), DriversD l.drivers]), (123, .d (DriversD l.drivers)), (121, .e0 49), (126, .d (BodiesD l.bodies))] rfl ⟨rfl, trivial⟩ ?_
          exact ZH.ls _ (by kernel_rfl) (N1_1_1 V)
        · refine one_step (fun B1 F1 w1 => ?_)
          refine AOps.run tok 1 _ _ _ _ rfl ?_
          rw [List.length_map]
          refine AOps.nil ⟨rfl, ?_⟩
          refine ZH.to [1, 4, 5, 122, 121, 127] [(1, .bx [dS l.nm, BodiesD l.bodies, JointsD l.joints, DriversD l.drivers]), (4, .d (spE E)), (5, .bx [dS l.nm, BodiesD (l.bodies ++ [furB]), JointsD (l.joints ++ [furJ l.bodies.length]), DriversD l.drivers]), (122, .pt 1 3), (121, .e0 49), (127, .d (dI l.bodies.length))] rfl ⟨rfl, trivial⟩ ?_
          exact ZH.ls _ (by kernel_rfl) (N0_1_2 V)
      refine ZH.meet 8 #[false, true, true, false, true, true, false, false, false, false, false, false] (fun V => []) (fun V => [(1, .bx [dS l.nm, BodiesD l.bodies, JointsD l.joints, DriversD l.drivers]), (4, .d (spE E)), (5, .bx [dS l.nm, BodiesD (l.bodies ++ [furB]), JointsD (l.joints ++ [furJ l.bodies.length]), DriversD l.drivers]), (123, .d (DriversD l.drivers)), (126, .d (BodiesD l.bodies))]) (fun V => ?_) (fun N1_0_1 => ?_)
      · refine ZH.two 0 6 (by kernel_rfl) rfl rfl rfl rfl (fun _ => rfl) (fun _ => rfl) ⟨rfl, trivial⟩ ?_ ?_
        · refine one_step (fun B1 F1 w1 => ?_)
          refine AOps.run tok 1 _ _ _ _ rfl ?_
          refine AOps.nil ⟨rfl, ?_⟩
          refine ZH.to [1, 4, 5, 123, 121, 126] [(1, .bx [dS l.nm, BodiesD l.bodies, JointsD l.joints, DriversD l.drivers]), (4, .d (spE E)), (5, .bx [dS l.nm, BodiesD (l.bodies ++ [furB]), JointsD (l.joints ++ [furJ l.bodies.length]), DriversD l.drivers]), (123, .d (DriversD l.drivers)), (121, .e0 49), (126, .d (BodiesD l.bodies))] rfl ⟨rfl, trivial⟩ ?_
          exact ZH.ls _ (by kernel_rfl) (N1_1_1 V)
        · refine one_step (fun B1 F1 w1 => ?_)
          refine AOps.run tok 1 _ _ _ _ rfl ?_
          rw [List.length_map]
          refine AOps.nil ⟨rfl, ?_⟩
          refine ZH.to [1, 4, 5, 123, 127] [(1, .bx [dS l.nm, BodiesD l.bodies, JointsD l.joints, DriversD l.drivers]), (4, .d (spE E)), (5, .bx [dS l.nm, BodiesD (l.bodies ++ [furB]), JointsD (l.joints ++ [furJ l.bodies.length]), DriversD l.drivers]), (123, .d (DriversD l.drivers)), (127, .d (dI l.bodies.length))] rfl ⟨rfl, trivial⟩ ?_
          exact ZH.ls _ (by kernel_rfl) (N1_0_2 V)
      refine ZH.meet 8 #[true, true, true, false, true, false, false, false, false, false, false, false] (fun V => []) (fun V => [(1, .bx [dS l.nm, BodiesD l.bodies, JointsD l.joints, DriversD l.drivers]), (4, .d (spE E)), (5, .bx [dS l.nm, BodiesD (l.bodies ++ [furB]), JointsD (l.joints ++ [furJ l.bodies.length]), DriversD l.drivers]), (123, .d (DriversD l.drivers)), (121, .e0 49), (125, .pt 1 1)]) (fun V => ?_) (fun N1_1_0 => ?_)
      · refine ZH.two 3 5 (by kernel_rfl) rfl rfl rfl rfl (fun _ => rfl) (fun _ => rfl) ⟨rfl, trivial⟩ ?_ ?_
        · refine one_step (fun B1 F1 w1 => ?_)
          refine AOps.app0 tok rfl rfl rfl rfl (by show (l.drivers.map Driver.D).length * 24 ≤ _; rw [List.length_map]; omega) ?_
          refine AOps.nil ⟨rfl, ?_⟩
          refine ZH.to [1, 4, 5, 124, 125] [(1, .bx [dS l.nm, BodiesD l.bodies, JointsD l.joints, DriversD l.drivers]), (4, .d (spE E)), (5, .bx [dS l.nm, BodiesD (l.bodies ++ [furB]), JointsD (l.joints ++ [furJ l.bodies.length]), DriversD l.drivers]), (124, .ow 49 (l.drivers.map Driver.D)), (125, .pt 1 1)] rfl ⟨rfl, trivial⟩ ?_
          exact ZH.ls _ (by kernel_rfl) (N2_1_0 V)
        · refine one_step (fun B1 F1 w1 => ?_)
          refine AOps.run tok 1 _ _ _ _ rfl ?_
          refine AOps.nil ⟨rfl, ?_⟩
          refine ZH.to [1, 4, 5, 123, 121, 126] [(1, .bx [dS l.nm, BodiesD l.bodies, JointsD l.joints, DriversD l.drivers]), (4, .d (spE E)), (5, .bx [dS l.nm, BodiesD (l.bodies ++ [furB]), JointsD (l.joints ++ [furJ l.bodies.length]), DriversD l.drivers]), (123, .d (DriversD l.drivers)), (121, .e0 49), (126, .d (BodiesD l.bodies))] rfl ⟨rfl, trivial⟩ ?_
          exact ZH.ls _ (by kernel_rfl) (N1_1_1 V)
      refine ZH.meet 9 #[false, true, false, false, true, true, false, false, false, false, false, false] (fun V => []) (fun V => [(1, .bx [dS l.nm, BodiesD l.bodies, JointsD l.joints, DriversD l.drivers]), (4, .d (spE E)), (5, .bx [dS l.nm, BodiesD (l.bodies ++ [furB]), JointsD (l.joints ++ [furJ l.bodies.length]), DriversD l.drivers]), (122, .pt 1 3), (126, .d (BodiesD l.bodies))]) (fun V => ?_) (fun N0_0_1 => ?_)
      · refine ZH.three 0 2 6 (by kernel_rfl) rfl rfl rfl rfl rfl rfl (fun _ => rfl) (fun _ => rfl) (fun _ => rfl) ⟨rfl, trivial⟩ ?_ ?_ ?_
        · refine one_step (fun B1 F1 w1 => ?_)
          refine AOps.run tok 1 _ _ _ _ rfl ?_
          refine AOps.nil ⟨rfl, ?_⟩
          refine ZH.to [1, 4, 5, 122, 121, 126] [(1, .bx [dS l.nm, BodiesD l.bodies, JointsD l.joints, DriversD l.drivers]), (4, .d (spE E)), (5, .bx [dS l.nm, BodiesD (l.bodies ++ [furB]), JointsD (l.joints ++ [furJ l.bodies.length]), DriversD l.drivers]), (122, .pt 1 3), (121, .e0 49), (126, .d (BodiesD l.bodies))] rfl ⟨rfl, trivial⟩ ?_
          exact ZH.ls _ (by kernel_rfl) (N0_1_1 V)
        · refine one_step (fun B1 F1 w1 => ?_)
          refine AOps.run tok 1 _ _ _ _ rfl ?_
          refine AOps.nil ⟨rfl, ?_⟩
          refine ZH.to [1, 4, 5, 123, 126] [(1, .bx [dS l.nm, BodiesD l.bodies, JointsD l.joints, DriversD l.drivers]), (4, .d (spE E)), (5, .bx [dS l.nm, BodiesD (l.bodies ++ [furB]), JointsD (l.joints ++ [furJ l.bodies.length]), DriversD l.drivers]), (123, .d (DriversD l.drivers)), (126, .d (BodiesD l.bodies))] rfl ⟨rfl, trivial⟩ ?_
          exact ZH.ls _ (by kernel_rfl) (N1_0_1 V)
        · refine one_step (fun B1 F1 w1 => ?_)
          refine AOps.run tok 1 _ _ _ _ rfl ?_
          rw [List.length_map]
          refine AOps.nil ⟨rfl, ?_⟩
          refine ZH.to [1, 4, 5, 122, 127] [(1, .bx [dS l.nm, BodiesD l.bodies, JointsD l.joints, DriversD l.drivers]), (4, .d (spE E)), (5, .bx [dS l.nm, BodiesD (l.bodies ++ [furB]), JointsD (l.joints ++ [furJ l.bodies.length]), DriversD l.drivers]), (122, .pt 1 3), (127, .d (dI l.bodies.length))] rfl ⟨rfl, trivial⟩ ?_
          exact ZH.ls _ (by kernel_rfl) (N0_0_2 V)
      refine ZH.meet 9 #[true, true, false, false, true, false, false, false, false, false, false, false] (fun V => []) (fun V => [(1, .bx [dS l.nm, BodiesD l.bodies, JointsD l.joints, DriversD l.drivers]), (4, .d (spE E)), (5, .bx [dS l.nm, BodiesD (l.bodies ++ [furB]), JointsD (l.joints ++ [furJ l.bodies.length]), DriversD l.drivers]), (122, .pt 1 3), (121, .e0 49), (125, .pt 1 1)]) (fun V => ?_) (fun N0_1_0 => ?_)
      · refine ZH.two 2 5 (by kernel_rfl) rfl rfl rfl rfl (fun _ => rfl) (fun _ => rfl) ⟨rfl, trivial⟩ ?_ ?_
        · refine one_step (fun B1 F1 w1 => ?_)
          refine AOps.run tok 1 _ _ _ _ rfl ?_
          refine AOps.nil ⟨rfl, ?_⟩
          refine ZH.to [1, 4, 5, 123, 121, 125] [(1, .bx [dS l.nm, BodiesD l.bodies, JointsD l.joints, DriversD l.drivers]), (4, .d (spE E)), (5, .bx [dS l.nm, BodiesD (l.bodies ++ [furB]), JointsD (l.joints ++ [furJ l.bodies.length]), DriversD l.drivers]), (123, .d (DriversD l.drivers)), (121, .e0 49), (125, .pt 1 1)] rfl ⟨rfl, trivial⟩ ?_
          exact ZH.ls _ (by kernel_rfl) (N1_1_0 V)
        · refine one_step (fun B1 F1 w1 => ?_)
          refine AOps.run tok 1 _ _ _ _ rfl ?_
          refine AOps.nil ⟨rfl, ?_⟩
          refine ZH.to [1, 4, 5, 122, 121, 126] [(1, .bx [dS l.nm, BodiesD l.bodies, JointsD l.joints, DriversD l.drivers]), (4, .d (spE E)), (5, .bx [dS l.nm, BodiesD (l.bodies ++ [furB]), JointsD (l.joints ++ [furJ l.bodies.length]), DriversD l.drivers]), (122, .pt 1 3), (121, .e0 49), (126, .d (BodiesD l.bodies))] rfl ⟨rfl, trivial⟩ ?_
          exact ZH.ls _ (by kernel_rfl) (N0_1_1 V)
      refine ZH.meet 9 #[false, true, true, false, true, false, false, false, false, false, false, false] (fun V => []) (fun V => [(1, .bx [dS l.nm, BodiesD l.bodies, JointsD l.joints, DriversD l.drivers]), (4, .d (spE E)), (5, .bx [dS l.nm, BodiesD (l.bodies ++ [furB]), JointsD (l.joints ++ [furJ l.bodies.length]), DriversD l.drivers]), (123, .d (DriversD l.drivers)), (125, .pt 1 1)]) (fun V => ?_) (fun N1_0_0 => ?_)
      · refine ZH.two 0 5 (by kernel_rfl) rfl rfl rfl rfl (fun _ => rfl) (fun _ => rfl) ⟨rfl, trivial⟩ ?_ ?_
        · refine one_step (fun B1 F1 w1 => ?_)
          refine AOps.run tok 1 _ _ _ _ rfl ?_
          refine AOps.nil ⟨rfl, ?_⟩
          refine ZH.to [1, 4, 5, 123, 121, 125] [(1, .bx [dS l.nm, BodiesD l.bodies, JointsD l.joints, DriversD l.drivers]), (4, .d (spE E)), (5, .bx [dS l.nm, BodiesD (l.bodies ++ [furB]), JointsD (l.joints ++ [furJ l.bodies.length]), DriversD l.drivers]), (123, .d (DriversD l.drivers)), (121, .e0 49), (125, .pt 1 1)] rfl ⟨rfl, trivial⟩ ?_
          exact ZH.ls _ (by kernel_rfl) (N1_1_0 V)
        · refine one_step (fun B1 F1 w1 => ?_)
          refine AOps.run tok 1 _ _ _ _ rfl ?_
          refine AOps.nil ⟨rfl, ?_⟩
          refine ZH.to [1, 4, 5, 123, 126] [(1, .bx [dS l.nm, BodiesD l.bodies, JointsD l.joints, DriversD l.drivers]), (4, .d (spE E)), (5, .bx [dS l.nm, BodiesD (l.bodies ++ [furB]), JointsD (l.joints ++ [furJ l.bodies.length]), DriversD l.drivers]), (123, .d (DriversD l.drivers)), (126, .d (BodiesD l.bodies))] rfl ⟨rfl, trivial⟩ ?_
          exact ZH.ls _ (by kernel_rfl) (N1_0_1 V)
      refine ZH.meet 10 #[false, true, false, false, true, false, false, false, false, false, false, false] (fun V => []) (fun V => [(1, .bx [dS l.nm, BodiesD l.bodies, JointsD l.joints, DriversD l.drivers]), (4, .d (spE E)), (5, .bx [dS l.nm, BodiesD (l.bodies ++ [furB]), JointsD (l.joints ++ [furJ l.bodies.length]), DriversD l.drivers]), (122, .pt 1 3), (125, .pt 1 1)]) (fun V => ?_) (fun N0_0_0 => ?_)
      · refine ZH.three 0 2 5 (by kernel_rfl) rfl rfl rfl rfl rfl rfl (fun _ => rfl) (fun _ => rfl) (fun _ => rfl) ⟨rfl, trivial⟩ ?_ ?_ ?_
        · refine one_step (fun B1 F1 w1 => ?_)
          refine AOps.run tok 1 _ _ _ _ rfl ?_
          refine AOps.nil ⟨rfl, ?_⟩
          refine ZH.to [1, 4, 5, 122, 121, 125] [(1, .bx [dS l.nm, BodiesD l.bodies, JointsD l.joints, DriversD l.drivers]), (4, .d (spE E)), (5, .bx [dS l.nm, BodiesD (l.bodies ++ [furB]), JointsD (l.joints ++ [furJ l.bodies.length]), DriversD l.drivers]), (122, .pt 1 3), (121, .e0 49), (125, .pt 1 1)] rfl ⟨rfl, trivial⟩ ?_
          exact ZH.ls _ (by kernel_rfl) (N0_1_0 V)
        · refine one_step (fun B1 F1 w1 => ?_)
          refine AOps.run tok 1 _ _ _ _ rfl ?_
          refine AOps.nil ⟨rfl, ?_⟩
          refine ZH.to [1, 4, 5, 123, 125] [(1, .bx [dS l.nm, BodiesD l.bodies, JointsD l.joints, DriversD l.drivers]), (4, .d (spE E)), (5, .bx [dS l.nm, BodiesD (l.bodies ++ [furB]), JointsD (l.joints ++ [furJ l.bodies.length]), DriversD l.drivers]), (123, .d (DriversD l.drivers)), (125, .pt 1 1)] rfl ⟨rfl, trivial⟩ ?_
          exact ZH.ls _ (by kernel_rfl) (N1_0_0 V)
        · refine one_step (fun B1 F1 w1 => ?_)
          refine AOps.run tok 1 _ _ _ _ rfl ?_
          refine AOps.nil ⟨rfl, ?_⟩
          refine ZH.to [1, 4, 5, 122, 126] [(1, .bx [dS l.nm, BodiesD l.bodies, JointsD l.joints, DriversD l.drivers]), (4, .d (spE E)), (5, .bx [dS l.nm, BodiesD (l.bodies ++ [furB]), JointsD (l.joints ++ [furJ l.bodies.length]), DriversD l.drivers]), (122, .pt 1 3), (126, .d (BodiesD l.bodies))] rfl ⟨rfl, trivial⟩ ?_
          exact ZH.ls _ (by kernel_rfl) (N0_0_1 V)
      refine ZH.to [1, 4, 5, 122, 125] [(1, .bx [dS l.nm, BodiesD l.bodies, JointsD l.joints, DriversD l.drivers]), (4, .d (spE E)), (5, .bx [dS l.nm, BodiesD (l.bodies ++ [furB]), JointsD (l.joints ++ [furJ l.bodies.length]), DriversD l.drivers]), (122, .pt 1 3), (125, .pt 1 1)] rfl ⟨rfl, trivial⟩ ?_
      exact ZH.ls _ (by kernel_rfl) (N0_0_0 nilS)
    refine AW.seq ?_
    refine AW.seq ?_
    refine AW.region ?_
    refine AOps.run tok 1 _ _ _ _ rfl ?_
    refine AOps.call tok rfl rfl rfl rfl cC3 ?_
    rcases h3c : chk ⟨l.nm, l.bodies ++ [furB], l.joints ++ [furJ l.bodies.length], l.drivers ++ [furD l.bodies.length]⟩ with _ | k
    rotate_left
    · refine AOps.err tok rfl rfl rfl rfl rfl ?_
      refine AOps.nil ?_
      refine AW.condT rfl ?_
      refine AW.seq ?_
      refine AW.region ?_
      refine AOps.run tok 1 _ _ _ _ rfl ?_
      refine AOps.nil ?_
      exact AW.ret rfl
    refine AOps.err tok rfl rfl rfl rfl rfl ?_
    refine AOps.nil ?_
    refine AW.condF rfl ?_
    refine AW.skip ?_
    rw [split_sp h3c, hmd] at cS3
    generalize spX ⟨l.nm, l.bodies ++ [furB], l.joints ++ [furJ l.bodies.length], l.drivers ++ [furD l.bodies.length]⟩ = X3 at cS3
    refine AW.seq ?_
    refine AW.region ?_
    refine AOps.run tok 1 _ _ _ _ rfl ?_
    refine AOps.call tok rfl rfl rfl rfl cS3 ?_
    refine AOps.run tok 5 _ _ _ _ rfl ?_
    refine AOps.nil ?_
    refine AW.seq ?_
    cases E with
    | true =>
      refine AW.draw hmix 5 (by kernel_rfl) ?_
      refine APre.run tok 1 _ _ _ _ rfl ?_
      refine APre.err tok rfl rfl rfl rfl rfl rfl ?_
      refine APre.run tok 1 _ _ _ _ rfl ?_
      refine APre.err tok rfl rfl rfl rfl rfl rfl ?_
      refine APre.be tok rfl rfl rfl rfl rfl ?_
      refine APre.nil ?_
      refine AOps.run tok 1 _ _ _ _ rfl ?_
      refine AOps.nil ?_
      exact AW.ret rfl
    | false =>
      refine AW.draw hmix 5 (by kernel_rfl) ?_
      refine APre.run tok 1 _ _ _ _ rfl ?_
      refine APre.err tok rfl rfl rfl rfl rfl rfl ?_
      refine APre.run tok 1 _ _ _ _ rfl ?_
      refine APre.err tok rfl rfl rfl rfl rfl rfl ?_
      refine APre.be tok rfl rfl rfl rfl rfl ?_
      refine APre.nil ?_
      refine AOps.run tok 1 _ _ _ _ rfl ?_
      refine AOps.nil ?_
      exact AW.ret rfl
end Lift
