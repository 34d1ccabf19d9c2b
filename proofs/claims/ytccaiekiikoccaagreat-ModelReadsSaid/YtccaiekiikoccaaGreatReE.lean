/- Parts of the proof, one behind the other: the logic, the contracts of the functions that the statement reaches. -/
import Derived.Test.YtccaiekiikoccaaGreatReD
set_option linter.unusedVariables false
set_option linter.unusedSimpArgs false
/- The example is what the statements say of it. -/
namespace Lift
open Go Go.Proofs
open Go.RowKit (Below)

/-- The example, its joint's cells changed to those of another joint. -/
theorem crank_cells {w : World} {F F' : Nat → Prop} {b cap : Nat} {cs : Array Value} {e : TypeId} {j : Joint} {vs : List Value} (hheap : w.heap[b]? = some (.cells cs e (0, 0))) (h1 : 1 ≤ cap) (h2 : cap ≤ maxLen)
    (hc : ∀ (i : Nat) (d : D), j.D.flat[i]? = some d → d.isCell = true ∧ ∃ u, cs[i]? = some u ∧ Rd w F' d u) (hF : ∀ c, F c → F' c) (hb : F' b)
    (hr : RdL w F [dS ⟨#[109]⟩, BodiesD crankB, .v (.slice (some ⟨b, 0, none⟩) 1 cap), DriversD crankD] vs) : RdL w F' [dS ⟨#[109]⟩, BodiesD crankB, JointsD [j], DriversD crankD] vs := by
  refine ⟨hr.1, fun i d u hd hu => ?_⟩
  match i, hd with
  | 0, hd => cases hd; exact ⟨rfl, ((hr.2 0 _ u rfl hu).2).mono hF (fun _ _ => rfl)⟩
  | 1, hd => cases hd; exact ⟨rfl, ((hr.2 1 _ u rfl hu).2).mono hF (fun _ _ => rfl)⟩
  | 2, hd =>
    cases hd
    have hv := (Rd.v_eq (hr.2 2 _ u rfl hu).2).1
    subst hv
    refine ⟨rfl, Rd.sl_mk (l := [j.D]) (off := 0) hb hheap h1 h2 (fun x hx => ?_) (fun i d hd => ?_)⟩
    · simp at hx; subst hx; rfl
    · obtain ⟨g1, u, g2, g3⟩ := hc i d (by simpa [flatAll] using hd)
      exact ⟨g1, u, by simpa using g2, g3⟩
  | 3, hd => cases hd; exact ⟨rfl, ((hr.2 3 _ u rfl hu).2).mono hF (fun _ _ => rfl)⟩
theorem crank_read {w : World} {F F' : Nat → Prop} {b cap : Nat} {cs : Array Value} {e : TypeId} {j : Joint} {v : Value} (hheap : w.heap[b]? = some (.cells cs e (0, 0))) (h1 : 1 ≤ cap) (h2 : cap ≤ maxLen)
    (hc : ∀ (i : Nat) (d : D), j.D.flat[i]? = some d → d.isCell = true ∧ ∃ u, cs[i]? = some u ∧ Rd w F' d u) (hF : ∀ c, F c → F' c) (hb : F' b)
    (hr : Rd w F (.ag [dS ⟨#[109]⟩, BodiesD crankB, .v (.slice (some ⟨b, 0, none⟩) 1 cap), DriversD crankD]) v) : Rd w F' (.ag [dS ⟨#[109]⟩, BodiesD crankB, JointsD [j], DriversD crankD]) v := by
  obtain ⟨vs, rfl, hl⟩ := hr.ag_eq
  have h := crank_cells hheap h1 h2 hc hF hb hl
  exact .ag h.1 (fun d hd => by
    simp only [List.mem_cons, List.mem_nil_iff, or_false] at hd
    rcases hd with rfl | rfl | rfl | rfl <;> rfl) (fun i d u hd hu => (h.2 i d u hd hu).2)

theorem crank_call : CallOk Tryz.prog 23 := ⟨_, Tryz.func23, by kernel_rfl, rfl⟩
theorem Crank_ok : Pure Tryz.prog 23 [] (crankL 0).D := by
  refine ⟨crank_call, fun w F vs hF hl _ => ?_⟩
  obtain rfl : vs = [] := List.length_eq_zero_iff.1 hl
  refine (Crank_raw w).mono fun e w' ⟨v, he, hb, b, cap, cs, g1, g2, g3, g4, g5, g6, g7⟩ => ⟨v, he, hb, ?_⟩
  refine crank_read g5 g3 g4 (fun i d hd => ?_) (fun c hc => .inr hc.2) (.inr ⟨g1, g2⟩) g7
  obtain ⟨k1, u, k2, k3⟩ := g6 i d hd
  exact ⟨k1, u, k2, k3.mono (fun c hc => .inr hc.2) (fun _ _ => rfl)⟩

/-! What is wrong with the example: nothing; with its joint at one body: that. -/
theorem rz_ok : rz.okB = true := by decide
theorem n_m : nameB ⟨#[109]⟩ = true := by decide +kernel
theorem n_frame : nameB ⟨#[102, 114, 97, 109, 101]⟩ = true := by decide +kernel
theorem n_crank : nameB ⟨#[99, 114, 97, 110, 107]⟩ = true := by decide +kernel
theorem n_O : nameB ⟨#[79]⟩ = true := by decide +kernel
theorem n_C : nameB ⟨#[67]⟩ = true := by decide +kernel
theorem n_A : nameB ⟨#[65]⟩ = true := by decide +kernel
theorem n_j : nameB ⟨#[106]⟩ = true := by decide +kernel
theorem n_d : nameB ⟨#[100]⟩ = true := by decide +kernel
theorem crank_bodies : bodiesE crankB = 0 := by
  have h4 : q4.okB = true := Qr_ok _
  have h1 : q1.okB = true := Qr_ok _
  have p1 : ptsE [⟨⟨#[79]⟩, rz, rz⟩, ⟨⟨#[67]⟩, q4, rz⟩] = 0 := by
    have e0 : ptE [⟨⟨#[79]⟩, rz, rz⟩, ⟨⟨#[67]⟩, q4, rz⟩] 0 = 0 := by
      show (if nameB ⟨#[79]⟩ = false then 5 else if dupM _ 0 = true then 6 else if rz.okB = true ∧ rz.okB = true then 0 else 3) = 0
      rw [n_O, if_neg (by decide), if_neg (by intro h; cases h), if_pos ⟨rz_ok, rz_ok⟩]
    have e1 : ptE [⟨⟨#[79]⟩, rz, rz⟩, ⟨⟨#[67]⟩, q4, rz⟩] 1 = 0 := by
      show (if nameB ⟨#[67]⟩ = false then 5 else if (decide ((⟨#[79]⟩ : ByteArray) = ⟨#[67]⟩) || false) = true then 6 else if q4.okB = true ∧ rz.okB = true then 0 else 3) = 0
      rw [n_C, if_neg (by decide), if_neg (by decide), if_pos ⟨h4, rz_ok⟩]
    show (if 8 < 2 then 4 else fE _ 2 0) = 0
    rw [if_neg (by decide), fE, if_pos e0, fE, if_pos e1, fE]
  have p2 : ptsE [⟨⟨#[79]⟩, rz, rz⟩, ⟨⟨#[65]⟩, q1, rz⟩] = 0 := by
    have e0 : ptE [⟨⟨#[79]⟩, rz, rz⟩, ⟨⟨#[65]⟩, q1, rz⟩] 0 = 0 := by
      show (if nameB ⟨#[79]⟩ = false then 5 else if dupM _ 0 = true then 6 else if rz.okB = true ∧ rz.okB = true then 0 else 3) = 0
      rw [n_O, if_neg (by decide), if_neg (by intro h; cases h), if_pos ⟨rz_ok, rz_ok⟩]
    have e1 : ptE [⟨⟨#[79]⟩, rz, rz⟩, ⟨⟨#[65]⟩, q1, rz⟩] 1 = 0 := by
      show (if nameB ⟨#[65]⟩ = false then 5 else if (decide ((⟨#[79]⟩ : ByteArray) = ⟨#[65]⟩) || false) = true then 6 else if q1.okB = true ∧ rz.okB = true then 0 else 3) = 0
      rw [n_A, if_neg (by decide), if_neg (by decide), if_pos ⟨h1, rz_ok⟩]
    show (if 8 < 2 then 4 else fE _ 2 0) = 0
    rw [if_neg (by decide), fE, if_pos e0, fE, if_pos e1, fE]
  have b0 : bodyE crankB 0 = 0 := by
    show (if nameB ⟨#[102, 114, 97, 109, 101]⟩ = false then 5 else if dupB _ 0 = true then 6 else ptsE [⟨⟨#[79]⟩, rz, rz⟩, ⟨⟨#[67]⟩, q4, rz⟩]) = 0
    rw [n_frame, if_neg (by decide), if_neg (by intro h; cases h), p1]
  have b1 : bodyE crankB 1 = 0 := by
    show (if nameB ⟨#[99, 114, 97, 110, 107]⟩ = false then 5 else if (decide ((⟨#[102, 114, 97, 109, 101]⟩ : ByteArray) = ⟨#[99, 114, 97, 110, 107]⟩) || false) = true then 6 else ptsE [⟨⟨#[79]⟩, rz, rz⟩, ⟨⟨#[65]⟩, q1, rz⟩]) = 0
    rw [n_crank, if_neg (by decide), if_neg (by decide), p2]
  show fE _ 2 0 = 0
  rw [fE, if_pos b0, fE, if_pos b1, fE]
theorem crank_j0 : jE crankB (crankJ 0) = 0 := by decide +kernel
theorem crank_j1 : jE crankB (crankJ 1) = 13 := by decide +kernel
theorem crank_joints0 : jointsE crankB [crankJ 0] = 0 := by
  have e0 : jointE crankB [crankJ 0] 0 = 0 := by
    show (if nameB ⟨#[106]⟩ = false then 5 else if dupJ _ 0 = true then 6 else jE crankB (crankJ 0)) = 0
    rw [n_j, if_neg (by decide), if_neg (by intro h; cases h), crank_j0]
  show (if 16 < 1 then 4 else fE _ 1 0) = 0
  rw [if_neg (by decide), fE, if_pos e0, fE]
theorem crank_joints1 : jointsE crankB [crankJ 1] = 13 := by
  have e0 : jointE crankB [crankJ 1] 0 = 13 := by
    show (if nameB ⟨#[106]⟩ = false then 5 else if dupJ _ 0 = true then 6 else jE crankB (crankJ 1)) = 13
    rw [n_j, if_neg (by decide), if_neg (by intro h; cases h), crank_j1]
  show (if 16 < 1 then 4 else fE _ 1 0) = 13
  rw [if_neg (by decide), fE, if_neg (by rw [e0]; decide), e0]
theorem crank_drivers : driversE 2 crankD = 0 := by
  have e0 : driverE 2 crankD 0 = 0 := by
    show (if nameB ⟨#[100]⟩ = false then 5 else if dupD _ 0 = true then 6 else if inB 1 2 = false then 9 else if (1 : Int) = 0 then 7 else if dupT _ 0 = true then 6 else 0) = 0
    rw [n_d, if_neg (by decide), if_neg (by intro h; cases h), if_neg (by decide), if_neg (by decide), if_neg (by intro h; cases h)]
  show (if 2 < 1 then 4 else fE _ 1 0) = 0
  rw [if_neg (by decide), fE, if_pos e0, fE]
theorem chk_crank0 : chk (crankL 0) = 0 := by
  show (if nameB ⟨#[109]⟩ = false then 5 else if crankB = [] then 10 else if 8 < 2 then 4 else if bodiesE crankB ≠ 0 then bodiesE crankB else if jointsE crankB [crankJ 0] ≠ 0 then jointsE crankB [crankJ 0] else driversE 2 crankD) = 0
  rw [n_m, if_neg (by decide), if_neg (by intro h; cases h), if_neg (by decide), crank_bodies, if_neg (by decide), crank_joints0, if_neg (by decide), crank_drivers]
theorem chk_crank1 : chk (crankL 1) = 13 := by
  show (if nameB ⟨#[109]⟩ = false then 5 else if crankB = [] then 10 else if 8 < 2 then 4 else if bodiesE crankB ≠ 0 then bodiesE crankB else if jointsE crankB [crankJ 1] ≠ 0 then jointsE crankB [crankJ 1] else driversE 2 crankD) = 13
  rw [n_m, if_neg (by decide), if_neg (by intro h; cases h), if_neg (by decide), crank_bodies, if_neg (by decide), crank_joints1, if_pos (by decide)]
theorem crank_point : modelPointD (crankL 0) ⟨#[99, 114, 97, 110, 107, 46, 65]⟩ = .tu [dI 1, dI 1, nilE] := by
  rw [modelPointD, chk_crank0, if_pos rfl]
  have : pointI crankB ⟨#[99, 114, 97, 110, 107, 46, 65]⟩ = some (1, 1, ()) := by decide +kernel
  show pointD crankB _ = _
  rw [pointD, this]
  rfl
theorem crank_sq : sqV crankB 0 0 1 = ((16 : Int) : Rat) := by
  show ((rz.val - q4.val) * (rz.val - q4.val) + (rz.val - rz.val) * (rz.val - rz.val)) = _
  rw [RD.val_nil (r := rz) rfl, Qr_val]
  decide +kernel
theorem crank_square : modelSquareD (crankL 0) 0 0 1 = .tu [(Qr ((16 : Int) : Rat)).D, nilE] := by
  rw [modelSquareD, chk_crank0, if_pos rfl]
  show (if sqOk crankB 0 0 1 = true then D.tu [(Qr (sqV crankB 0 0 1)).D, nilE] else _) = _
  rw [if_pos (by rfl), crank_sq]
theorem crank_ok (b : Int) : (crankL b).ok 2 := by
  have hz : rz.w 2 := ⟨W32.nil, W32.nil, by decide, by decide⟩
  have h4 : q4.w 2 := Qr_w _ (by have := LQ_of 4; have := L_of 4 (by decide); omega)
  have h1 : q1.w 2 := Qr_w _ (by have := LQ_of 1; have := L_of 1 (by decide); omega)
  have hdM : (default : Mark).ok 2 := ⟨by decide, ⟨W32.nil, W32.nil, by decide, by decide⟩, ⟨W32.nil, W32.nil, by decide, by decide⟩⟩
  have hdB : (default : Body).ok 2 := ⟨by decide, by decide, fun i => by rw [show (default : Body).pts.getD i default = default from by cases i <;> rfl]; exact hdM⟩
  have two : ∀ (nm : ByteArray) (p q : Mark), nm.size ≤ big → p.ok 2 → q.ok 2 → (⟨nm, [p, q]⟩ : Body).ok 2 := fun nm p q hn hp hq => ⟨hn, (by show 2 ≤ big; decide), fun i => by
    match i with
    | 0 => exact hp
    | 1 => exact hq
    | i + 2 => exact hdM⟩
  refine ⟨(by show 1 ≤ big; decide), (by show 2 ≤ big; decide), (by show 1 ≤ big; decide), (by show 1 ≤ big; decide), fun i => ?_, fun i => ?_, fun i => ?_⟩
  · match i with
    | 0 => exact two _ _ _ (by decide) ⟨by decide, hz, hz⟩ ⟨by decide, h4, hz⟩
    | 1 => exact two _ _ _ (by decide) ⟨by decide, hz, hz⟩ ⟨by decide, h1, hz⟩
    | i + 2 => exact hdB
  · match i with
    | 0 => show 1 ≤ big; decide
    | i + 1 => show (default : ByteArray).size ≤ big; decide
  · match i with
    | 0 => show 1 ≤ big; decide
    | i + 1 => show (default : ByteArray).size ≤ big; decide

def awakeQ (e : Exit) (σ : St) : Prop := e = .ret ∧ σ.get 0 = some (.d (dB true))
set_option maxHeartbeats 3200000 in
theorem law_awake_ok : Pure Tryz.prog 6 [] (dB true) := by
  refine Pure.intro (n := 52) tok Tryz.func6 rfl rfl rfl (Nat.le_of_ble_eq_true rfl) (by kernel_rfl) (fun B F0 w0 => ?_)
  have cP := model_Point_ok (crankL 0) ⟨#[99, 114, 97, 110, 107, 46, 65]⟩ (crank_ok 0) (by decide)
  rw [crank_point] at cP
  have cS := model_Square_ok (crankL 0) 0 0 1 (crank_ok 0) (by decide)
  rw [crank_square] at cS
  have cC := model_Check_ok (crankL 0) (crank_ok 0) (by decide)
  rw [chk_crank0] at cC
  have cD := model_Check_ok (crankL 1) (crank_ok 1) (by decide)
  rw [chk_crank1] at cD
  have h16 : (Qr ((16 : Int) : Rat)).w 2 := Qr_w _ (by have := LQ_of 16; have := L_of 16 (by decide); omega)
  have cR := base_Rat_ok (Qr ((16 : Int) : Rat)) (Qr ((16 : Int) : Rat)) h16 (by decide)
  rw [eqR_self] at cR
  have cI := base_Is_ok 13 13
  have cO := r02_Of_ok 16 (by decide) (by decide)
  generalize Qr ((16 : Int) : Rat) = q16 at *
  refine AW.seq ?_
  refine AW.region ?_   -- "law.go:27"
  refine AOps.run tok 1 _ _ _ _ rfl ?_
  refine AOps.nil ?_
  refine AW.seq ?_
  refine AW.region ?_   -- "law.go:28"
  refine AOps.call tok rfl rfl rfl rfl Crank_ok ?_
  refine AOps.call tok rfl rfl rfl rfl cP ?_
  refine AOps.run tok 7 _ _ _ _ rfl ?_
  refine AOps.nil ?_
  refine AW.seq ?_
  refine AW.region ?_   -- "law.go:29"
  refine AOps.call tok rfl rfl rfl rfl Crank_ok ?_
  refine AOps.call tok rfl rfl rfl rfl cS ?_
  refine AOps.run tok 6 _ _ _ _ rfl ?_
  refine AOps.nil ?_
  refine AW.norm [1, 2, 3, 4, 5] [(1, .d (dI 1)), (2, .d (dI 1)), (3, .d nilE), (4, .bx [dB q16.g, Wd q16.n, Wd q16.d]), (5, .d nilE)] rfl ?_
  refine AW.mono (Q := awakeQ) ?_ (fun e σ h => by
    obtain ⟨rfl, h⟩ := h
    have h1 : resAll tys σ [ResultVar.tmp 0] = some [dB true] := by simp only [resAll, resOne, ex, h]; rfl
    show resD tys σ (Tryz.f6).results.toList = _
    unfold resD
    rw [show (Tryz.f6).results.toList = [ResultVar.tmp 0] from rfl, h1])
  intro a w hR
  obtain ⟨O, hOr, hO⟩ := hR.own
  obtain ⟨x1, t1, r1⟩ := hO 1 _ rfl
  obtain ⟨x2, t2, r2⟩ := hO 2 _ rfl
  obtain ⟨x3, t3, r3⟩ := hO 3 _ rfl
  obtain ⟨x5, t5, r5⟩ := hO 5 _ rfl
  obtain ⟨x4, t4, b4, c4, e4, rfl, hO4, hh4, r4⟩ := hO 4 _ rfl
  have hb4 := hOr b4 4 hO4
  have hb42 : b4 < w.heap.size := hb4.2
  -- the example is made
  refine wp_seq (wp_region_list ?_)
  unfold wpList
  rw [if_pos (by rfl)]
  refine .inl ?_
  unfold Oper.wp
  rw [exec_call crank_call, Array.map_empty]
  show Calls _ _ _ w _
  refine Calls.mono (Crank_raw w) (fun e w' hcr => ?_)
  obtain ⟨v, he, hbel, b, cap, cs, g1, g2, g3, g4, g5, g6, g7⟩ := hcr
  subst he
  have hsz : w.heap.size ≤ w'.heap.size := hbel.size
  have hBw : B ≤ w.heap.size := hR.base
  let F1 : Nat → Prop := fun c => Free O (FW B F0 w) c ∨ c = b4 ∨ (c ≠ b ∧ w.heap.size ≤ c ∧ c < w'.heap.size)
  have hF1 : ∀ c, F1 c → c < w'.heap.size ∧ c ≠ b := fun c hc => by
    rcases hc with hc | rfl | hc
    · have := (FW.step hR.f0 hR.base (Nat.le_refl _) c hc.2).1
      exact ⟨by omega, by omega⟩
    · exact ⟨by omega, by omega⟩
    · exact ⟨hc.2.2, hc.1⟩
  have fr : ∀ c, Free O (FW B F0 w) c → Free (fun _ => none) (FW w'.heap.size F1 w') c := fun c hc => ⟨rfl, .inl (.inl hc)⟩
  have old : ∀ c, Free O (FW B F0 w) c → w'.heap[c]? = w.heap[c]? := fun c hc => hbel.block c (FW.step hR.f0 hR.base (Nat.le_refl _) c hc.2).1
  have hR1 : Rel Tryz.prog w'.heap.size F1 ⟨w', fun _ => False⟩ 52 [(1, .d (dI 1)), (2, .d (dI 1)), (3, .d nilE), (4, .rf [dB q16.g, Wd q16.n, Wd q16.d]), (5, .d nilE), (18, .d (.ag [dS ⟨#[109]⟩, BodiesD crankB, .v (.slice (some ⟨b, 0, none⟩) 1 cap), DriversD crankD]))] (a.put (some 18) v) w' := by
    refine ⟨.refl _ _ _, Nat.le_refl _, ⟨fun c hc => (hF1 c hc).1, fun c hc => hc.elim⟩, by simp [Act.put, hR.defers], by simp [Act.put, hR.size], fun _ => none, (fun c t hc => by cases hc), AllP.get ⟨?_, ?_, ?_, ?_, ?_, ?_, trivial⟩⟩
    · exact ⟨_, (put_get (by decide)).trans t1, Rd.mono r1 fr old⟩
    · exact ⟨_, (put_get (by decide)).trans t2, Rd.mono r2 fr old⟩
    · exact ⟨_, (put_get (by decide)).trans t3, Rd.mono r3 fr old⟩
    · refine ⟨_, (put_get (by decide)).trans t4, b4, 0, c4, e4, (0, 0), rfl, ⟨rfl, .inl (.inr (.inl rfl))⟩, (hbel.block b4 hb42).trans hh4, fun i d hd => ?_⟩
      obtain ⟨k1, u, k2, k3⟩ := r4.get hd
      exact ⟨k1, u, by simpa using k2, Rd.mono k3 fr old⟩
    · exact ⟨_, (put_get (by decide)).trans t5, Rd.mono r5 fr old⟩
    · exact ⟨_, put_get_same (by rw [hR.size]; decide), Rd.mono g7 (fun c hc => ⟨rfl, .inl (.inr (.inr hc))⟩) (fun _ _ => rfl)⟩
  refine AOps.part (σ := [(1, .d (dI 1)), (2, .d (dI 1)), (3, .d nilE), (4, .rf [dB q16.g, Wd q16.n, Wd q16.d]), (5, .d nilE), (18, .d (.ag [dS ⟨#[109]⟩, BodiesD crankB, .v (.slice (some ⟨b, 0, none⟩) 1 cap), DriversD crankD]))]) [1, 2, 3, 4, 5, 6]
    [(1, .d (dI 1)), (2, .d (dI 1)), (3, .d nilE), (4, .rf [dB q16.g, Wd q16.n, Wd q16.d]), (5, .d nilE), (6, .bx [dS ⟨#[109]⟩, BodiesD crankB, .v (.slice (some ⟨b, 0, none⟩) 1 cap), DriversD crankD])] [_, _] [] hR1 ?_ (fun a1 wa hRa => ?_)
  · refine AOps.run tok 2 _ _ _ _ rfl ?_
    exact AOps.nil rfl
  show Code.wp _ (.seq _ _) _ a1 wa
  refine wp_seq (wp_region_list ?_)
  refine AOps.part [1, 2, 3, 4, 5, 6, 20]
    [(1, .d (dI 1)), (2, .d (dI 1)), (3, .d nilE), (4, .rf [dB q16.g, Wd q16.n, Wd q16.d]), (5, .d nilE), (6, .bx [dS ⟨#[109]⟩, BodiesD crankB, .v (.slice (some ⟨b, 0, none⟩) 1 cap), DriversD crankD]), (20, .d (.v (.slice (some ⟨b, 0, none⟩) 1 cap)))] [_, _] [_, _, _] hRa ?_ (fun a2 w2 hR2 => ?_)
  · refine AOps.run tok 2 _ _ _ _ rfl ?_
    exact AOps.nil rfl
  -- the joint's slice becomes one that is written
  have hsz2 : w'.heap.size ≤ w2.heap.size := hR2.below.size
  have hheap2 : w2.heap[b]? = some (.cells cs 64 (0, 0)) := (hR2.below.block b g2 (fun h => h)).trans g5
  obtain ⟨O2, hOr2, hO2⟩ := hR2.own
  obtain ⟨y1, s1, q1'⟩ := hO2 1 _ rfl
  obtain ⟨y2, s2, q2'⟩ := hO2 2 _ rfl
  obtain ⟨y3, s3, q3'⟩ := hO2 3 _ rfl
  obtain ⟨y4, s4, d4, o4, k4, f4, z4, rfl, hF4, hk4, q4'⟩ := hO2 4 _ rfl
  obtain ⟨y5, s5, q5'⟩ := hO2 5 _ rfl
  obtain ⟨y6, s6, b6, c6, e6, rfl, hO6, hh6, q6'⟩ := hO2 6 _ rfl
  obtain ⟨y20, s20, q20⟩ := hO2 20 _ rfl
  have q20 := (Rd.v_eq q20).1
  subst q20
  have hb6 := hOr2 b6 6 hO6
  have hb61 : w'.heap.size ≤ b6 := by
    rcases hb6.1 with h | h
    · exact h
    · exact h.elim
  have hb62 : b6 < w2.heap.size := hb6.2
  have nb : ∀ c, FW w'.heap.size F1 w2 c → c ≠ b ∧ c < w2.heap.size := fun c hc => by
    rcases hc with hc | ⟨h1, h2⟩
    · have := hF1 c hc
      exact ⟨this.2, by omega⟩
    · exact ⟨fun e => by omega, h2⟩
  let F2 : Nat → Prop := fun c => FW w'.heap.size F1 w2 c ∨ c = b
  let O3 : Nat → Option Nat := fun c => if c = b then some 20 else none
  have fr2 : ∀ c, Free O2 (FW w'.heap.size F1 w2) c → Free O3 (FW w2.heap.size F2 w2) c := fun c hc => ⟨by simp only [O3]; rw [if_neg (nb c hc.2).1], .inl (.inl hc.2)⟩
  have hR3 : Rel Tryz.prog w2.heap.size F2 ⟨w2, fun c => c = b⟩ 52 [(1, .d (dI 1)), (2, .d (dI 1)), (3, .d nilE), (4, .rf [dB q16.g, Wd q16.n, Wd q16.d]), (5, .d nilE), (6, .rf [dS ⟨#[109]⟩, BodiesD crankB, .v (.slice (some ⟨b, 0, none⟩) 1 cap), DriversD crankD]), (20, .wn true 64 [(crankJ 0).D] 0 1)] a2 w2 := by
    refine ⟨.refl _ _ _, Nat.le_refl _, ⟨fun c hc => ?_, fun c hc => .inr hc⟩, hR2.defers, hR2.size, O3, fun c t hc => ?_, AllP.get ⟨?_, ?_, ?_, ?_, ?_, ?_, ?_, trivial⟩⟩
    · rcases hc with hc | rfl
      · exact (nb c hc).2
      · omega
    · simp only [O3] at hc
      split at hc
      · rename_i e; exact ⟨.inr e, by omega⟩
      · cases hc
    · exact ⟨_, s1, Rd.mono q1' fr2 (fun _ _ => rfl)⟩
    · exact ⟨_, s2, Rd.mono q2' fr2 (fun _ _ => rfl)⟩
    · exact ⟨_, s3, Rd.mono q3' fr2 (fun _ _ => rfl)⟩
    · refine ⟨_, s4, d4, o4, k4, f4, z4, rfl, fr2 _ hF4, hk4, fun i d hd => ?_⟩
      obtain ⟨k1, u, k2, k3⟩ := q4' i d hd
      exact ⟨k1, u, k2, Rd.mono k3 fr2 (fun _ _ => rfl)⟩
    · exact ⟨_, s5, Rd.mono q5' fr2 (fun _ _ => rfl)⟩
    · refine ⟨_, s6, b6, 0, c6, e6, (0, 0), rfl, ⟨by simp only [O3]; rw [if_neg (by omega)], .inl (.inl (.inr ⟨hb61, hb62⟩))⟩, hh6, fun i d hd => ?_⟩
      obtain ⟨k1, u, k2, k3⟩ := q6'.get hd
      exact ⟨k1, u, by simpa using k2, Rd.mono k3 fr2 (fun _ _ => rfl)⟩
    · refine ⟨_, s20, .inr ⟨b, 0, cap, cs, fun _ => rfl, rfl, .inr (by omega), by simp [O3], hheap2, Nat.le_refl _, g3, g4, fun x hx => ?_, fun i d hd => ?_⟩⟩
      · simp only [List.mem_cons, List.mem_nil_iff, or_false] at hx
        subst hx
        kernel_rfl
      · obtain ⟨k1, u, k2, k3⟩ := g6 i d (by simpa [flatAll] using hd)
        refine ⟨k1, u, k2, Rd.mono k3 (fun c hc => ⟨by simp only [O3]; rw [if_neg hc.1], .inl (.inl (.inl (.inr (.inr hc))))⟩) (fun c hc => hR2.below.block c hc.2.2 (fun h => h))⟩
  refine AOps.part (σ := [(1, .d (dI 1)), (2, .d (dI 1)), (3, .d nilE), (4, .rf [dB q16.g, Wd q16.n, Wd q16.d]), (5, .d nilE), (6, .rf [dS ⟨#[109]⟩, BodiesD crankB, .v (.slice (some ⟨b, 0, none⟩) 1 cap), DriversD crankD]), (20, .wn true 64 [(crankJ 0).D] 0 1)]) [1, 2, 3, 4, 5, 6, 20]
    [(1, .d (dI 1)), (2, .d (dI 1)), (3, .d nilE), (4, .rf [dB q16.g, Wd q16.n, Wd q16.d]), (5, .d nilE), (6, .rf [dS ⟨#[109]⟩, BodiesD crankB, .v (.slice (some ⟨b, 0, none⟩) 1 cap), DriversD crankD]), (20, .wn true 64 [(crankJ 1).D] 0 1)] [_, _, _] [] hR3 ?_ (fun a3 w3 hR4 => ?_)
  · refine AOps.idxw tok rfl rfl rfl rfl (Int.le_refl 0) (by decide) ?_
    refine AOps.run tok 1 _ _ _ _ rfl ?_
    refine AOps.storewn tok (crankJ 0).D rfl rfl rfl rfl rfl ?_
    exact AOps.nil rfl
  -- the slice is data again
  show Code.wp _ (.seq _ _) _ a3 w3
  have hsz3 : w2.heap.size ≤ w3.heap.size := hR4.below.size
  obtain ⟨O4, hOr4, hO4'⟩ := hR4.own
  obtain ⟨z1, u1, p1⟩ := hO4' 1 _ rfl
  obtain ⟨z2, u2, p2⟩ := hO4' 2 _ rfl
  obtain ⟨z3, u3, p3⟩ := hO4' 3 _ rfl
  obtain ⟨z4, u4, d4', o4', k4', f4', y4', rfl, hF4', hk4', p4⟩ := hO4' 4 _ rfl
  obtain ⟨z5, u5, p5⟩ := hO4' 5 _ rfl
  obtain ⟨z6, u6, d6, o6, k6, f6, y6', rfl, hF6, hk6, p6⟩ := hO4' 6 _ rfl
  obtain ⟨z20, u20, p20⟩ := hO4' 20 _ rfl
  rcases p20 with ⟨h, _⟩ | ⟨bb, ob, capb, csb, hX, _, _, hOb, hheapb, _, hcb1, hcb2, _, hcellb⟩
  · cases h
  obtain rfl : bb = b := hX rfl
  let F3 : Nat → Prop := FW w2.heap.size F2 w3
  have fr3 : ∀ c, Free O4 (FW w2.heap.size F2 w3) c → Free (fun _ => none) (FW w3.heap.size F3 w3) c := fun c hc => ⟨rfl, .inl hc.2⟩
  have hR5 : Rel Tryz.prog w3.heap.size F3 ⟨w3, fun _ => False⟩ 52 [(1, .d (dI 1)), (2, .d (dI 1)), (3, .d nilE), (4, .rf [dB q16.g, Wd q16.n, Wd q16.d]), (5, .d nilE), (6, .rf [dS ⟨#[109]⟩, BodiesD crankB, JointsD [crankJ 1], DriversD crankD])] a3 w3 := by
    refine ⟨.refl _ _ _, Nat.le_refl _, ⟨fun c hc => (FW.step hR4.f0 hR4.base (Nat.le_refl _) c hc).1, fun c hc => hc.elim⟩, hR4.defers, hR4.size, fun _ => none, (fun c t hc => by cases hc), AllP.get ⟨?_, ?_, ?_, ?_, ?_, ?_, trivial⟩⟩
    · exact ⟨_, u1, Rd.mono p1 fr3 (fun _ _ => rfl)⟩
    · exact ⟨_, u2, Rd.mono p2 fr3 (fun _ _ => rfl)⟩
    · exact ⟨_, u3, Rd.mono p3 fr3 (fun _ _ => rfl)⟩
    · refine ⟨_, u4, d4', o4', k4', f4', y4', rfl, fr3 _ hF4', hk4', fun i d hd => ?_⟩
      obtain ⟨k1, u, k2, k3⟩ := p4 i d hd
      exact ⟨k1, u, k2, Rd.mono k3 fr3 (fun _ _ => rfl)⟩
    · exact ⟨_, u5, Rd.mono p5 fr3 (fun _ _ => rfl)⟩
    · refine ⟨_, u6, d6, o6, k6, f6, y6', rfl, fr3 _ hF6, hk6, fun i d hd => ?_⟩
      match i, hd with
      | 0, hd => cases hd; obtain ⟨k1, u, k2, k3⟩ := p6 0 _ rfl; exact ⟨rfl, u, k2, Rd.mono k3 fr3 (fun _ _ => rfl)⟩
      | 1, hd => cases hd; obtain ⟨k1, u, k2, k3⟩ := p6 1 _ rfl; exact ⟨rfl, u, k2, Rd.mono k3 fr3 (fun _ _ => rfl)⟩
      | 2, hd =>
        cases hd
        obtain ⟨k1, u, k2, k3⟩ := p6 2 _ rfl
        have hv := (Rd.v_eq k3).1
        subst hv
        refine ⟨rfl, _, k2, Rd.sl_mk (l := [(crankJ 1).D]) (off := 0) (F := Free (fun _ => none) (FW w3.heap.size F3 w3)) ⟨rfl, .inl (.inl (.inr rfl))⟩ hheapb g3 g4 (fun x hx => ?_) (fun i d hd => ?_)⟩
        · simp at hx; subst hx; rfl
        · obtain ⟨m1, u, m2, m3⟩ := hcellb i d hd
          exact ⟨m1, u, by simpa using m2, Rd.mono m3 fr3 (fun _ _ => rfl)⟩
      | 3, hd => cases hd; obtain ⟨k1, u, k2, k3⟩ := p6 3 _ rfl; exact ⟨rfl, u, k2, Rd.mono k3 fr3 (fun _ _ => rfl)⟩
  have hA : ∀ c, AW Tryz.prog w3.heap.size F3 ⟨w3, fun _ => False⟩ 52 c awakeQ [(1, .d (dI 1)), (2, .d (dI 1)), (3, .d nilE), (4, .rf [dB q16.g, Wd q16.n, Wd q16.d]), (5, .d nilE), (6, .rf [dS ⟨#[109]⟩, BodiesD crankB, JointsD [crankJ 1], DriversD crankD])] →
      c.wp Tryz.prog (fun e a' w' => ∃ σ', awakeQ e σ' ∧ Rel Tryz.prog w3.heap.size F3 ⟨w3, fun _ => False⟩ 52 σ' a' w') a3 w3 := fun c h => h a3 w3 hR5
  refine wp_mono (hA _ ?_) fun e a' w4 hq => ?_
  · refine AW.seq ?_
    refine AW.draw hmix 29 (by kernel_rfl) ?_   -- "law.go:32"   -- GUARDS
    refine APre.run tok 1 _ _ _ _ rfl ?_
    refine APre.err tok rfl rfl rfl rfl rfl rfl ?_
    refine APre.run tok 2 _ _ _ _ rfl ?_
    refine APre.err tok rfl rfl rfl rfl rfl rfl ?_   -- guarded
    refine APre.run tok 2 _ _ _ _ rfl ?_
    refine APre.call tok rfl rfl rfl rfl rfl Crank_ok ?_   -- guarded
    refine APre.call tok rfl rfl rfl rfl rfl cC ?_   -- guarded
    refine APre.err tok rfl rfl rfl rfl rfl rfl ?_   -- guarded
    refine APre.run tok 11 _ _ _ _ rfl ?_
    refine APre.call tok rfl rfl rfl rfl rfl cO ?_   -- guarded
    refine APre.call tok rfl rfl rfl rfl rfl cR ?_   -- guarded
    refine APre.run tok 3 _ _ _ _ rfl ?_
    refine APre.call tok rfl rfl rfl rfl rfl cD ?_   -- guarded
    refine APre.call tok rfl rfl rfl rfl rfl cI ?_   -- guarded
    refine APre.run tok 1 _ _ _ _ rfl ?_
    refine APre.nil ?_
    refine AOps.run tok 1 _ _ _ _ rfl ?_
    refine AOps.nil ?_
    exact AW.ret ⟨rfl, rfl⟩
  obtain ⟨σ', ⟨he, h0⟩, hR'⟩ := hq
  refine ⟨[(0, .d (dB true))], ⟨he, rfl⟩, ?_⟩
  have hk := hR'.keep [0]
  rw [show σ'.keep [0] = [(0, .d (dB true))] by simp only [St.keep, h0]] at hk
  have m1 : BelY B w0 w0.w w' := hR.below.trans (.of hbel hR.base)
  have m2 : BelY B w0 w0.w w2 := m1.back (w1 := ⟨w', fun _ => False⟩) (by omega) (fun _ h => h.elim) hR2.below
  have m3 : BelY B w0 w0.w w3 := m2.back (w1 := ⟨w2, fun c => c = bb⟩) (by omega) (fun c hc => .inl (by have hc : c = bb := hc; omega)) hR4.below
  refine Rel.back (w1 := ⟨w3, fun _ => False⟩) m3 hR.f0 (by omega) (fun c hc => ?_) (fun c hc => hc.elim) (AllP.get ⟨rfl, trivial⟩) hk
  rcases hc with (((hc | rfl | hc) | hc) | rfl) | hc
  · rcases hc.2 with h | h
    · exact .inl h
    · exact .inr ⟨h.1, by show _ < w3.heap.size; omega⟩
  · rcases hb4.fw hR.f0 with h | h
    · exact .inl h
    · exact .inr ⟨h.1, by show _ < w3.heap.size; omega⟩
  · exact .inr ⟨by omega, by show _ < w3.heap.size; omega⟩
  · exact .inr ⟨by omega, by show _ < w3.heap.size; omega⟩
  · exact .inr ⟨by omega, by show _ < w3.heap.size; omega⟩
  · exact .inr ⟨by omega, hc.2⟩
end Lift
/- The statement ModelReads: what its function answers. -/
namespace Lift
open Go Go.Proofs

theorem square_both (l : Lkg) (b p q : Int) {K : Nat} (hl : l.ok K) (hK : K ≤ 100000) : ∃ (r : RD) (n : Nat), r.w 1000000 ∧ (if sqOk l.bodies b p q = true then .tu [(Qr (sqV l.bodies b p q)).D, nilE] else .tu [ratZ, er 9] : D) = .tu [r.D, erV n] ∧ refSquareD l b p q = .tu [r.D, dI n] := by
  unfold refSquareD
  split
  · refine ⟨Qr (sqV l.bodies b p q), 0, Qwl _ ?_, rfl, rfl⟩
    have okb := hl.b b.toNat
    have okp := okb.2.2 p.toNat
    have okq := okb.2.2 q.toNat
    unfold sqV
    obtain ⟨P, hP⟩ : ∃ x, x = (l.bodies.getD b.toNat default).pts.getD p.toNat default := ⟨_, rfl⟩
    obtain ⟨Q, hQ⟩ : ∃ x, x = (l.bodies.getD b.toNat default).pts.getD q.toNat default := ⟨_, rfl⟩
    rw [← hP] at okp
    rw [← hQ] at okq
    rw [← hP, ← hQ]
    have l1 := LQ_val ((okp.2.1).mono (Nat.le_max_left K 1)) (Nat.le_max_right K 1)
    have l2 := LQ_val ((okp.2.2).mono (Nat.le_max_left K 1)) (Nat.le_max_right K 1)
    have l3 := LQ_val ((okq.2.1).mono (Nat.le_max_left K 1)) (Nat.le_max_right K 1)
    have l4 := LQ_val ((okq.2.2).mono (Nat.le_max_left K 1)) (Nat.le_max_right K 1)
    have s1 := LQ_sub P.x.val Q.x.val
    have s2 := LQ_sub P.y.val Q.y.val
    have m1 := LQ_mul (P.x.val - Q.x.val) (P.x.val - Q.x.val)
    have m2 := LQ_mul (P.y.val - Q.y.val) (P.y.val - Q.y.val)
    have a1 := LQ_add ((P.x.val - Q.x.val) * (P.x.val - Q.x.val)) ((P.y.val - Q.y.val) * (P.y.val - Q.y.val))
    unfold sqQ
    omega
  · exact ⟨⟨false, [], []⟩, 9, ⟨W32.nil, W32.nil, Nat.zero_le _, Nat.zero_le _⟩, rfl, rfl⟩
theorem joints_both (l : Lkg) (b : Int) (h : l.joints.length ≤ 16) : ∃ (r : List Int) (n : Nat), r.length ≤ 16 ∧ (if inB b l.bodies.length = true then .tu [IsD (jtsV l.joints b), nilE] else .tu [IsD [], er 9] : D) = .tu [IsD r, erV n] ∧ refJointsD l b = .tu [IsD r, dI n] := by
  unfold refJointsD
  split
  · exact ⟨jtsV l.joints b, 0, Nat.le_trans (jtsP_len _ _ _) h, rfl, rfl⟩
  · exact ⟨[], 9, Nat.zero_le _, rfl, rfl⟩
theorem driver_both (l : Lkg) (b : Int) : ∃ (r : Int) (n : Nat), (if inB b l.bodies.length = true then .tu [dI (drvV l.drivers b), nilE] else .tu [dI 0, er 9] : D) = .tu [dI r, erV n] ∧ refDriverD l b = .tu [dI r, dI n] := by
  unfold refDriverD
  split
  · exact ⟨drvV l.drivers b, 0, rfl, rfl⟩
  · exact ⟨0, 9, rfl, rfl⟩
abbrev askD (b p q : Int) : D := .ag [dI b, dI p, dI q]

set_option maxHeartbeats 1600000 in
theorem law_Reads_ok (l : Lkg) (b p q : Int) (hl : l.ok big) : Pure Tryz.prog 5 [l.D, askD b p q] (dB true) := by
  refine Pure.intro (n := 140) tok Tryz.func5 rfl rfl rfl (Nat.le_of_ble_eq_true rfl) (by kernel_rfl) (fun B F0 w0 => ?_)
  have cL := law_large_ok l hl (Nat.le_refl _)
  refine AW.seq ?_
  refine AW.region ?_   -- "law.go:81"
  refine AOps.run tok 3 _ _ _ _ rfl ?_
  refine AOps.nil ?_
  refine AW.seq ?_
  rcases hL : largeB l with _ | _
  rotate_left
  · rw [hL] at cL
    refine AW.seq ?_
    refine AW.region ?_
    refine AOps.call tok rfl rfl rfl rfl law_awake_ok ?_
    refine AOps.run tok 3 _ _ _ _ rfl ?_
    refine AOps.call tok rfl rfl rfl rfl cL ?_
    refine AOps.run tok 1 _ _ _ _ rfl ?_
    refine AOps.nil ?_
    refine AW.condT rfl ?_
    refine AW.seq ?_
    refine AW.region ?_
    refine AOps.call tok rfl rfl rfl rfl law_awake_ok ?_
    refine AOps.run tok 1 _ _ _ _ rfl ?_
    refine AOps.nil ?_
    exact AW.ret rfl
  rw [hL] at cL
  have hs := hl.small hL
  refine AW.seq ?_
  refine AW.region ?_
  refine AOps.call tok rfl rfl rfl rfl law_awake_ok ?_
  refine AOps.run tok 3 _ _ _ _ rfl ?_
  refine AOps.call tok rfl rfl rfl rfl cL ?_
  refine AOps.run tok 1 _ _ _ _ rfl ?_
  refine AOps.nil ?_
  refine AW.condF rfl ?_
  · have cS := model_Square_ok l b p q hs (by decide)
    have cJ := model_Joints_ok l b hs (by decide)
    have cD := model_Driver_ok l b hs (by decide)
    have cR := r19_Check_ok l hs (by decide)
    unfold modelSquareD at cS
    unfold modelJointsD at cJ
    unfold modelDriverD at cD
    rcases Decidable.em (chk l = 0) with hE | hE
    rotate_left
    · rw [if_neg hE] at cS cJ cD
      refine AW.skip ?_
      refine AW.seq ?_
      refine AW.region ?_
      refine AOps.run tok 7 _ _ _ _ rfl ?_
      refine AOps.call tok rfl rfl rfl rfl cS ?_
      refine AOps.run tok 6 _ _ _ _ rfl ?_
      refine AOps.nil ?_
      refine AW.seq ?_
      refine AW.region ?_
      refine AOps.run tok 3 _ _ _ _ rfl ?_
      refine AOps.call tok rfl rfl rfl rfl cJ ?_
      refine AOps.run tok 5 _ _ _ _ rfl ?_
      refine AOps.nil ?_
      refine AW.seq ?_
      refine AW.region ?_
      refine AOps.run tok 3 _ _ _ _ rfl ?_
      refine AOps.call tok rfl rfl rfl rfl cD ?_
      refine AOps.run tok 5 _ _ _ _ rfl ?_
      refine AOps.nil ?_
      refine AW.seq ?_
      refine AW.seq ?_
      refine AW.region ?_
      refine AOps.run tok 1 _ _ _ _ rfl ?_
      refine AOps.call tok rfl rfl rfl rfl cR ?_
      refine AOps.run tok 1 _ _ _ _ rfl ?_
      refine AOps.nil ?_
      refine AW.seq ?_
      refine AW.region ?_
      refine AOps.run tok 2 _ _ _ _ rfl ?_
      refine AOps.nil ?_
      refine AW.cond rfl (fun h => ?_) (fun h => absurd (show ((chk l : Nat) : Int) = 0 by simpa using h) (by omega))
      refine AW.seq ?_
      refine AW.region ?_
      refine AOps.run tok 2 _ _ _ _ rfl ?_
      have cQ := base_Rat_ok ⟨false, [], []⟩ ⟨false, [], []⟩ (k := 1) ⟨W32.nil, W32.nil, Nat.zero_le _, Nat.zero_le _⟩ (by decide)
      rw [show eqR ⟨false, [], []⟩ ⟨false, [], []⟩ = true by decide] at cQ
      refine AOps.call tok rfl rfl rfl rfl cQ ?_
      refine AOps.run tok 11 _ _ _ _ rfl ?_
      refine AOps.call tok rfl rfl rfl rfl (base_Num_ok (chk l)) ?_
      refine AOps.run tok 2 _ _ _ _ rfl ?_
      rw [beq_self_eq_true]
      refine AOps.run tok 3 _ _ _ _ rfl ?_
      refine AOps.call tok rfl rfl rfl rfl (base_Num_ok (chk l)) ?_
      refine AOps.run tok 2 _ _ _ _ rfl ?_
      rw [beq_self_eq_true]
      refine AOps.run tok 3 _ _ _ _ rfl ?_
      refine AOps.call tok rfl rfl rfl rfl (base_Num_ok (chk l)) ?_
      refine AOps.run tok 2 _ _ _ _ rfl ?_
      rw [beq_self_eq_true]
      refine AOps.run tok 2 _ _ _ _ rfl ?_
      refine AOps.nil ?_
      exact AW.ret rfl
    rw [if_pos hE] at cS cJ cD
    rw [hE] at cR
    have h16 := chk_js hE
    have cS' := r19_Square_ok l b p q hs (by decide)
    have cJ' := r19_Joints_ok l b (by omega)
    have cD' := r19_Driver_ok l b hs
    obtain ⟨sr, sn, sw, h1, h2⟩ := square_both l b p q hs (by decide)
    rw [h1] at cS
    rw [h2] at cS'
    obtain ⟨jr, jn, jl, h1, h2⟩ := joints_both l b h16
    rw [h1] at cJ
    rw [h2] at cJ'
    obtain ⟨dr, dn, h1, h2⟩ := driver_both l b
    rw [h1] at cD
    rw [h2] at cD'
    have cQ := base_Rat_ok sr sr sw (by decide)
    rw [show eqR sr sr = true by unfold eqR; simp] at cQ
    have cI := base_Ints_ok jr jr (by unfold big; omega)
    rw [show decide (jr = jr) = true by simp] at cI
    refine AW.skip ?_
    refine AW.seq ?_
    refine AW.region ?_   -- "law.go:85"
    refine AOps.run tok 7 _ _ _ _ rfl ?_
    refine AOps.call tok rfl rfl rfl rfl cS ?_
    refine AOps.run tok 6 _ _ _ _ rfl ?_
    refine AOps.nil ?_
    refine AW.seq ?_
    refine AW.region ?_   -- "law.go:86"
    refine AOps.run tok 3 _ _ _ _ rfl ?_
    refine AOps.call tok rfl rfl rfl rfl cJ ?_
    refine AOps.run tok 5 _ _ _ _ rfl ?_
    refine AOps.nil ?_
    refine AW.seq ?_
    refine AW.region ?_   -- "law.go:87"
    refine AOps.run tok 3 _ _ _ _ rfl ?_
    refine AOps.call tok rfl rfl rfl rfl cD ?_
    refine AOps.run tok 5 _ _ _ _ rfl ?_
    refine AOps.nil ?_
    refine AW.seq ?_
    refine AW.seq ?_
    refine AW.region ?_   -- "law.go:88"
    refine AOps.run tok 1 _ _ _ _ rfl ?_
    refine AOps.call tok rfl rfl rfl rfl cR ?_
    refine AOps.run tok 1 _ _ _ _ rfl ?_
    refine AOps.nil ?_
    refine AW.seq ?_
    refine AW.region ?_   -- "law.go:88"
    refine AOps.run tok 2 _ _ _ _ rfl ?_
    refine AOps.nil ?_
    refine AW.condF rfl ?_
    · skip
      refine AW.skip ?_
      refine AW.seq ?_
      refine AW.region ?_   -- "law.go:91"
      refine AOps.run tok 7 _ _ _ _ rfl ?_
      refine AOps.call tok rfl rfl rfl rfl cS' ?_
      refine AOps.run tok 6 _ _ _ _ rfl ?_
      refine AOps.nil ?_
      refine AW.seq ?_
      refine AW.region ?_   -- "law.go:92"
      refine AOps.run tok 3 _ _ _ _ rfl ?_
      refine AOps.call tok rfl rfl rfl rfl cJ' ?_
      refine AOps.run tok 5 _ _ _ _ rfl ?_
      refine AOps.nil ?_
      refine AW.seq ?_
      refine AW.region ?_   -- "law.go:93"
      refine AOps.run tok 3 _ _ _ _ rfl ?_
      refine AOps.call tok rfl rfl rfl rfl cD' ?_
      refine AOps.run tok 5 _ _ _ _ rfl ?_
      refine AOps.nil ?_
      refine AW.seq ?_
      refine AW.region ?_   -- "law.go:94"   -- GUARDS
      refine AOps.run tok 1 _ _ _ _ rfl ?_
      refine AOps.call tok rfl rfl rfl rfl (base_Num_ok sn) ?_
      refine AOps.run tok 2 _ _ _ _ rfl ?_
      rw [beq_self_eq_true]
      refine AOps.run tok 3 _ _ _ _ rfl ?_
      refine AOps.call tok rfl rfl rfl rfl cQ ?_
      refine AOps.run tok 3 _ _ _ _ rfl ?_
      refine AOps.call tok rfl rfl rfl rfl (base_Num_ok jn) ?_
      refine AOps.run tok 2 _ _ _ _ rfl ?_
      rw [beq_self_eq_true]
      refine AOps.run tok 4 _ _ _ _ rfl ?_
      refine AOps.call tok rfl rfl rfl rfl cI ?_
      refine AOps.run tok 3 _ _ _ _ rfl ?_
      refine AOps.call tok rfl rfl rfl rfl (base_Num_ok dn) ?_
      refine AOps.run tok 2 _ _ _ _ rfl ?_
      rw [beq_self_eq_true]
      refine AOps.run tok 5 _ _ _ _ rfl ?_
      rw [beq_self_eq_true]
      refine AOps.run tok 2 _ _ _ _ rfl ?_
      refine AOps.nil ?_
      exact AW.ret rfl
end Lift
