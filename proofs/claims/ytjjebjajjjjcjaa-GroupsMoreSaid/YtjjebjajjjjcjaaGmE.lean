/- Parts of the proof, one behind the other: the logic, the contracts of the functions that the statement reaches. -/
import Derived.Test.YtjjebjajjjjcjaaGmD
set_option linter.unusedVariables false
set_option linter.unusedSimpArgs false
/- The model's checks: numbers, bodies. -/
namespace Lift
open Go Go.Proofs

theorem model_in_ok (i : Int) (n : Nat) : Pure Try.prog 29 [dI i, dI n] (dB (inB i n)) := by
  refine Pure.intro (n := 12) tok Try.func29 rfl rfl rfl (Nat.le_of_ble_eq_true rfl) (by kernel_rfl) (fun B F0 w0 => ?_)
  refine AW.seq ?_
  refine AW.region ?_   -- "model.go:42"
  refine AOps.run tok 1 _ _ _ _ rfl ?_
  refine AOps.nil ?_
  refine AW.seq ?_
  refine AW.region ?_   -- "model.go:42"   -- GUARDS
  refine AOps.run tok 2 _ _ _ _ rfl ?_
  refine AOps.split (t := 6) rfl (fun h => ?_) (fun h => ?_)
  · have h1 := of_decide_eq_true h
    refine AOps.run tok 6 _ _ _ _ rfl ?_
    refine AOps.nil ?_
    rw [show inB i n = decide (i < n) by unfold inB; rw [decide_eq_decide]; omega]
    exact AW.ret rfl
  · have h1 := of_decide_eq_false h
    refine AOps.run tok 6 _ _ _ _ rfl ?_
    refine AOps.nil ?_
    rw [show inB i n = false by unfold inB; rw [decide_eq_false_iff_not]; omega]
    exact AW.ret rfl

set_option maxHeartbeats 1600000 in
theorem model_bodies_ok (bs : List Body) {K : Nat} (hn : bs.length ≤ big) (hb : ∀ i, (bs.getD i default).ok K) (hK : K ≤ 50000000) : Pure Try.prog 16 [BodiesD bs] (erV (bodiesE bs)) := by
  refine Pure.intro (n := 85) tok Try.func16 rfl rfl rfl (Nat.le_of_ble_eq_true rfl) (by kernel_rfl) (fun B F0 w0 => ?_)
  unfold big at hn
  refine AW.seq ?_
  refine AW.region ?_   -- "model.go:11"
  refine AOps.run tok 1 _ _ _ _ rfl ?_
  refine AOps.nil ?_
  refine AW.seq ?_
  refine AW.seq ?_
  refine AW.region ?_   -- "model.go:12"
  refine AOps.run tok 3 _ _ _ _ rfl ?_
  rw [List.length_map]
  refine AOps.nil ?_
  refine AW.block ?_   -- block 0
  refine AW.loopS [0, 11, 12, 13] (fun i : Nat => [(0, .d (BodiesD bs)), (11, .d (BodiesD bs)), (12, .d (dI bs.length)), (13, .d (dI i))])
    (fun i => i ≤ bs.length ∧ bodiesE bs = fE (bodyE bs) (bs.length - i) i) (fun i => bs.length - i) 0 rfl ⟨Nat.zero_le _, rfl⟩ (fun i ⟨hi, hE⟩ => ?_)
  refine AW.seq ?_
  refine AW.region ?_   -- "model.go:12"
  refine AOps.run tok 1 _ _ _ _ rfl ?_
  refine AOps.nil ?_
  refine AW.seq ?_
  refine AW.cond rfl (fun h => ?_) (fun h => ?_)
  · have hin : i < bs.length := by have := of_decide_eq_true h; omega
    obtain ⟨bok1, bok2, bok3⟩ := hb i
    have hbE : bodyE bs i ≠ 0 → bodiesE bs = bodyE bs i := fun h0 => hE.trans (fE_hit hin h0)
    have hbM : bodyE bs i = 0 → bodiesE bs = fE (bodyE bs) (bs.length - (i + 1)) (i + 1) := fun h0 => hE.trans (fE_miss hin h0)
    obtain ⟨b, hbe⟩ : ∃ b, b = bs.getD i default := ⟨_, rfl⟩
    rw [← hbe] at bok1 bok2 bok3
    unfold big at bok1 bok2
    have hdup : dupB bs i = anyF (fun k => decide ((bs.getD k default).nm = b.nm)) i 0 := by rw [hbe]; rfl
    have hbd : bodyE bs i = if nameB b.nm = false then 5 else if dupB bs i = true then 6 else ptsE b.pts := by rw [hbe]; rfl
    refine AW.skip ?_
    refine AW.seq ?_
    refine AW.block ?_   -- block 1
    refine AW.seq ?_
    refine AW.region ?_   -- "model.go:12"
    refine AOps.run tok 1 _ _ _ _ rfl ?_
    refine AOps.idx tok b.D rfl rfl rfl rfl (Int.natCast_nonneg i) (by rw [hbe]; exact getM Body.D hin) ?_
    refine AOps.run tok 4 _ _ _ _ rfl ?_
    refine AOps.nil ?_
    refine AW.seq ?_
    refine AW.seq ?_
    refine AW.region ?_   -- "model.go:13"
    refine AOps.run tok 2 _ _ _ _ rfl ?_
    refine AOps.call tok rfl rfl rfl rfl (token_Name_ok b.nm bok1) ?_
    refine AOps.run tok 1 _ _ _ _ rfl ?_
    refine AOps.nil ?_
    refine AW.cond rfl (fun h => ?_) (fun h => ?_)
    · have hnm : nameB b.nm = false := by simpa using h
      have h5 : bodyE bs i = 5 := by rw [hbd, hnm]; rfl
      rw [show bodiesE bs = 5 by rw [hbE (by omega), h5]]
      refine AW.seq ?_
      refine AW.region ?_   -- "model.go:14"
      refine AOps.run tok 2 _ _ _ _ rfl ?_
      refine AOps.nil ?_
      exact AW.ret rfl
    · have hnm : nameB b.nm = true := by simpa using h
      rw [hnm, if_neg (by decide)] at hbd
      refine AW.skip ?_
      refine AW.seq ?_
      refine AW.seq ?_
      refine AW.region ?_   -- "model.go:16"
      refine AOps.run tok 2 _ _ _ _ rfl ?_
      refine AOps.slc tok rfl rfl rfl rfl trivial (Int.natCast_nonneg i) (Nat.zero_le _) (by show i ≤ _; rw [List.length_map]; omega) ?_
      refine AOps.run tok 2 _ _ _ _ rfl ?_
      rw [slcLen (by rw [List.length_map]; omega)]
      refine AOps.nil ?_
      refine AW.block ?_   -- block 2
      refine AW.loopS [0, 3, 4, 11, 12, 13, 25, 26, 27] (fun k : Nat => [(0, .d (BodiesD bs)), (3, .d (dI i)), (4, .bx [dS b.nm, PtsD b.pts]), (11, .d (BodiesD bs)), (12, .d (dI bs.length)), (13, .d (dI i)), (25, .d (.sl 2 ((bs.map Body.D).take i))), (26, .d (dI i)), (27, .d (dI k))])
        (fun k => k ≤ i ∧ dupB bs i = anyF (fun k => decide ((bs.getD k default).nm = b.nm)) (i - k) k) (fun k => i - k) 0 rfl ⟨Nat.zero_le _, hdup⟩ (fun k ⟨hk, hD⟩ => ?_)
      refine AW.seq ?_
      refine AW.region ?_   -- "model.go:16"
      refine AOps.run tok 1 _ _ _ _ rfl ?_
      refine AOps.nil ?_
      refine AW.seq ?_
      refine AW.cond rfl (fun h => ?_) (fun h => ?_)
      · have hki : k < i := by have := of_decide_eq_true h; omega
        refine AW.skip ?_
        refine AW.seq ?_
        refine AW.block ?_   -- block 3
        refine AW.seq ?_
        refine AW.region ?_   -- "model.go:16"
        refine AOps.idx tok (bs.getD k default).D rfl rfl rfl rfl (Int.natCast_nonneg k) (getT Body.D (by omega) hki) ?_
        refine AOps.run tok 3 _ _ _ _ rfl ?_
        refine AOps.nil ?_
        refine AW.seq ?_
        refine AW.region ?_   -- "model.go:17"
        refine AOps.run tok 5 _ _ _ _ rfl ?_
        rw [str_eq]
        refine AOps.nil ?_
        refine AW.cond rfl (fun h => ?_) (fun h => ?_)
        · have h6 : bodyE bs i = 6 := by rw [hbd, hD.trans (anyF_hit hki h)]; rfl
          rw [show bodiesE bs = 6 by rw [hbE (by omega), h6]]
          refine AW.seq ?_
          refine AW.region ?_   -- "model.go:18"
          refine AOps.run tok 2 _ _ _ _ rfl ?_
          refine AOps.nil ?_
          exact AW.ret rfl
        · refine AW.skip ?_
          refine AW.region ?_   -- "model.go:16"
          refine AOps.run tok 2 _ _ _ _ rfl ?_
          rw [wI64 (x := (k : Int) + 1) (by omega) (by omega)]
          refine AOps.nil ?_
          exact ⟨k + 1, rfl, ⟨hki, hD.trans (anyF_miss hki h)⟩, by omega⟩
      · have hki : ¬ k < i := by have := of_decide_eq_false h; omega
        rw [hD.trans (anyF_end hki), if_neg (by decide)] at hbd
        refine AW.exit ?_
        refine AW.seq ?_
        refine AW.seq ?_
        refine AW.region ?_   -- "model.go:21"
        refine AOps.run tok 4 _ _ _ _ rfl ?_
        rw [List.length_map]
        refine AOps.nil ?_
        refine AW.cond rfl (fun h => ?_) (fun h => ?_)
        · have h8 : 8 < b.pts.length := by have := of_decide_eq_true h; omega
          have h4 : bodyE bs i = 4 := by rw [hbd, ptsE, if_pos h8]
          rw [show bodiesE bs = 4 by rw [hbE (by omega), h4]]
          refine AW.seq ?_
          refine AW.region ?_   -- "model.go:22"
          refine AOps.run tok 2 _ _ _ _ rfl ?_
          refine AOps.nil ?_
          exact AW.ret rfl
        · have h8 : ¬ 8 < b.pts.length := by have := of_decide_eq_false h; omega
          rw [ptsE, if_neg h8] at hbd
          refine AW.skip ?_
          refine AW.seq ?_
          refine AW.region ?_   -- "model.go:24"
          refine AOps.run tok 4 _ _ _ _ rfl ?_
          rw [List.length_map]
          refine AOps.nil ?_
          refine AW.block ?_   -- block 4
          refine AW.loopS [0, 4, 11, 12, 13, 44, 45, 46] (fun p : Nat => [(0, .d (BodiesD bs)), (4, .bx [dS b.nm, PtsD b.pts]), (11, .d (BodiesD bs)), (12, .d (dI bs.length)), (13, .d (dI i)), (44, .d (PtsD b.pts)), (45, .d (dI b.pts.length)), (46, .d (dI p))])
            (fun p => p ≤ b.pts.length ∧ bodyE bs i = fE (ptE b.pts) (b.pts.length - p) p) (fun p => b.pts.length - p) 0 rfl ⟨Nat.zero_le _, hbd⟩ (fun p ⟨hp, hP⟩ => ?_)
          refine AW.seq ?_
          refine AW.region ?_   -- "model.go:24"
          refine AOps.run tok 1 _ _ _ _ rfl ?_
          refine AOps.nil ?_
          refine AW.seq ?_
          refine AW.cond rfl (fun h => ?_) (fun h => ?_)
          · have hpn : p < b.pts.length := by have := of_decide_eq_true h; omega
            obtain ⟨mok1, mok2, mok3⟩ := bok3 p
            have hpE : ptE b.pts p ≠ 0 → bodiesE bs = ptE b.pts p := fun h0 => by
              have := hP.trans (fE_hit hpn h0)
              rw [hbE (by omega), this]
            have hpM : ptE b.pts p = 0 → bodyE bs i = fE (ptE b.pts) (b.pts.length - (p + 1)) (p + 1) := fun h0 => hP.trans (fE_miss hpn h0)
            obtain ⟨m, hm⟩ : ∃ m, m = b.pts.getD p default := ⟨_, rfl⟩
            rw [← hm] at mok1 mok2 mok3
            unfold big at mok1
            have hdup2 : dupM b.pts p = anyF (fun k => decide ((b.pts.getD k default).nm = m.nm)) p 0 := by rw [hm]; rfl
            have hpd : ptE b.pts p = if nameB m.nm = false then 5 else if dupM b.pts p = true then 6 else if m.x.okB = true ∧ m.y.okB = true then 0 else 3 := by rw [hm]; rfl
            refine AW.skip ?_
            refine AW.seq ?_
            refine AW.block ?_   -- block 5
            refine AW.seq ?_
            refine AW.region ?_   -- "model.go:24"
            refine AOps.run tok 1 _ _ _ _ rfl ?_
            refine AOps.idx tok m.D rfl rfl rfl rfl (Int.natCast_nonneg p) (by rw [hm]; exact getM Mark.D hpn) ?_
            refine AOps.run tok 4 _ _ _ _ rfl ?_
            refine AOps.nil ?_
            refine AW.seq ?_
            refine AW.seq ?_
            refine AW.region ?_   -- "model.go:25"
            refine AOps.run tok 2 _ _ _ _ rfl ?_
            refine AOps.call tok rfl rfl rfl rfl (token_Name_ok m.nm mok1) ?_
            refine AOps.run tok 1 _ _ _ _ rfl ?_
            refine AOps.nil ?_
            refine AW.cond rfl (fun h => ?_) (fun h => ?_)
            · have hnm2 : nameB m.nm = false := by simpa using h
              have h5 : ptE b.pts p = 5 := by rw [hpd, hnm2]; rfl
              rw [show bodiesE bs = 5 by rw [hpE (by omega), h5]]
              refine AW.seq ?_
              refine AW.region ?_   -- "model.go:26"
              refine AOps.run tok 2 _ _ _ _ rfl ?_
              refine AOps.nil ?_
              exact AW.ret rfl
            · have hnm2 : nameB m.nm = true := by simpa using h
              rw [hnm2, if_neg (by decide)] at hpd
              refine AW.skip ?_
              refine AW.seq ?_
              refine AW.seq ?_
              refine AW.region ?_   -- "model.go:28"
              refine AOps.run tok 3 _ _ _ _ rfl ?_
              refine AOps.slc tok rfl rfl rfl rfl trivial (Int.natCast_nonneg p) (Nat.zero_le _) (by show p ≤ _; rw [List.length_map]; omega) ?_
              refine AOps.run tok 2 _ _ _ _ rfl ?_
              rw [slcLen (by rw [List.length_map]; omega)]
              refine AOps.nil ?_
              refine AW.block ?_   -- block 6
              refine AW.loopS [0, 4, 8, 11, 12, 13, 44, 45, 46, 59, 60, 61] (fun k : Nat => [(0, .d (BodiesD bs)), (4, .bx [dS b.nm, PtsD b.pts]), (8, .bx [dS m.nm, dB m.x.g, Wd m.x.n, Wd m.x.d, dB m.y.g, Wd m.y.n, Wd m.y.d]), (11, .d (BodiesD bs)), (12, .d (dI bs.length)), (13, .d (dI i)), (44, .d (PtsD b.pts)), (45, .d (dI b.pts.length)), (46, .d (dI p)), (59, .d (.sl 7 ((b.pts.map Mark.D).take p))), (60, .d (dI p)), (61, .d (dI k))])
                (fun k => k ≤ p ∧ dupM b.pts p = anyF (fun k => decide ((b.pts.getD k default).nm = m.nm)) (p - k) k) (fun k => p - k) 0 rfl ⟨Nat.zero_le _, hdup2⟩ (fun k ⟨hk, hD2⟩ => ?_)
              refine AW.seq ?_
              refine AW.region ?_   -- "model.go:28"
              refine AOps.run tok 1 _ _ _ _ rfl ?_
              refine AOps.nil ?_
              refine AW.seq ?_
              refine AW.cond rfl (fun h => ?_) (fun h => ?_)
              · have hkp : k < p := by have := of_decide_eq_true h; omega
                refine AW.skip ?_
                refine AW.seq ?_
                refine AW.block ?_   -- block 7
                refine AW.seq ?_
                refine AW.region ?_   -- "model.go:28"
                refine AOps.idx tok (b.pts.getD k default).D rfl rfl rfl rfl (Int.natCast_nonneg k) (getT Mark.D (by omega) hkp) ?_
                refine AOps.run tok 3 _ _ _ _ rfl ?_
                refine AOps.nil ?_
                refine AW.seq ?_
                refine AW.region ?_   -- "model.go:29"
                refine AOps.run tok 5 _ _ _ _ rfl ?_
                rw [str_eq]
                refine AOps.nil ?_
                refine AW.cond rfl (fun h => ?_) (fun h => ?_)
                · have h6 : ptE b.pts p = 6 := by rw [hpd, hD2.trans (anyF_hit hkp h)]; rfl
                  rw [show bodiesE bs = 6 by rw [hpE (by omega), h6]]
                  refine AW.seq ?_
                  refine AW.region ?_   -- "model.go:30"
                  refine AOps.run tok 2 _ _ _ _ rfl ?_
                  refine AOps.nil ?_
                  exact AW.ret rfl
                · refine AW.skip ?_
                  refine AW.region ?_   -- "model.go:28"
                  refine AOps.run tok 2 _ _ _ _ rfl ?_
                  rw [wI64 (x := (k : Int) + 1) (by omega) (by omega)]
                  refine AOps.nil ?_
                  exact ⟨k + 1, rfl, ⟨hkp, hD2.trans (anyF_miss hkp h)⟩, by omega⟩
              · have hkp : ¬ k < p := by have := of_decide_eq_false h; omega
                rw [hD2.trans (anyF_end hkp), if_neg (by decide)] at hpd
                refine AW.exit ?_
                refine AW.cut [0, 4, 11, 12, 13, 44, 45, 46, 81] (fun _ : Unit => [(0, .d (BodiesD bs)), (4, .bx [dS b.nm, PtsD b.pts]), (11, .d (BodiesD bs)), (12, .d (dI bs.length)), (13, .d (dI i)), (44, .d (PtsD b.pts)), (45, .d (dI b.pts.length)), (46, .d (dI p)), (81, .d (dB (!decide (m.x.okB = true ∧ m.y.okB = true))))]) (fun _ => True) ?_ (fun _ _ => ?_)
                · refine AW.region ?_   -- "model.go:33"   -- GUARDS
                  refine AOps.run tok 2 _ _ _ _ rfl ?_
                  refine AOps.call tok rfl rfl rfl rfl (fraction_Valid_ok m.x mok2 hK) ?_
                  refine AOps.split (t := 74) rfl (fun h => ?_) (fun h => ?_)
                  · refine AOps.run tok 4 _ _ _ _ rfl ?_
                    refine AOps.call tok rfl rfl rfl rfl (fraction_Valid_ok m.y mok3 hK) ?_   -- guarded
                    refine AOps.run tok 2 _ _ _ _ rfl ?_
                    refine AOps.nil ?_
                    exact ⟨(), by rw [show decide (m.x.okB = true ∧ m.y.okB = true) = m.y.okB by simp [h]]; rfl, trivial⟩
                  · refine AOps.run tok 7 _ _ _ _ rfl ?_
                    refine AOps.nil ?_
                    exact ⟨(), by rw [show decide (m.x.okB = true ∧ m.y.okB = true) = false by simp [h]]; rfl, trivial⟩
                refine AW.cond rfl (fun h => ?_) (fun h => ?_)
                · have hno : ¬ (m.x.okB = true ∧ m.y.okB = true) := fun e => by rw [decide_eq_true e] at h; cases h
                  have h3 : ptE b.pts p = 3 := by rw [hpd, if_neg hno]
                  rw [show bodiesE bs = 3 by rw [hpE (by omega), h3]]
                  refine AW.seq ?_
                  refine AW.region ?_   -- "model.go:34"
                  refine AOps.run tok 2 _ _ _ _ rfl ?_
                  refine AOps.nil ?_
                  exact AW.ret rfl
                · have hyes : m.x.okB = true ∧ m.y.okB = true := by simpa using h
                  rw [if_pos hyes] at hpd
                  refine AW.skip ?_
                  refine AW.region ?_   -- "model.go:24"
                  refine AOps.run tok 2 _ _ _ _ rfl ?_
                  rw [wI64 (x := (p : Int) + 1) (by omega) (by omega)]
                  refine AOps.nil ?_
                  exact ⟨p + 1, rfl, ⟨hpn, hpM hpd⟩, by omega⟩
          · have hpn : ¬ p < b.pts.length := by have := of_decide_eq_false h; omega
            have h0 : bodyE bs i = 0 := hP.trans (fE_end hpn)
            refine AW.exit ?_
            refine AW.region ?_   -- "model.go:12"
            refine AOps.run tok 2 _ _ _ _ rfl ?_
            rw [wI64 (x := (i : Int) + 1) (by omega) (by omega)]
            refine AOps.nil ?_
            exact ⟨i + 1, rfl, ⟨hin, hbM h0⟩, by omega⟩
  · have hin : ¬ i < bs.length := by have := of_decide_eq_false h; omega
    rw [hE, fE_end hin]
    refine AW.exit ?_
    refine AW.seq ?_
    refine AW.region ?_   -- "model.go:38"
    refine AOps.run tok 1 _ _ _ _ rfl ?_
    refine AOps.nil ?_
    exact AW.ret rfl
end Lift
/- The model's check of a joint. -/
namespace Lift
open Go Go.Proofs

theorem cmpQ_zero (a b : Rat) : (cmpQ a b == 0) = decide (a = b) := by
  unfold cmpQ
  by_cases h : a < b
  · rw [if_pos h]
    have hne : a ≠ b := fun e => by rw [e] at h; exact absurd h Rat.lt_irrefl
    rw [decide_eq_false hne]; rfl
  · rw [if_neg h]
    by_cases he : a = b
    · rw [if_pos he, decide_eq_true he]; rfl
    · rw [if_neg he, decide_eq_false he]; rfl
theorem not_t {b : Bool} (h : (!b) = true) : b = false := by cases b <;> simp_all
theorem inB_t {i : Int} {n : Nat} (h : inB i n = true) : 0 ≤ i ∧ i.toNat < n := by
  have := of_decide_eq_true h; omega

set_option maxHeartbeats 1600000 in
theorem model_joint_ok (l : Lkg) (j : Joint) {K : Nat} (hl : l.ok K) (hK : K ≤ 20000000) : Pure Try.prog 28 [l.D, j.D] (erV (jE l.bodies j)) := by
  refine Pure.intro (n := 107) tok Try.func28 rfl rfl rfl (Nat.le_of_ble_eq_true rfl) (by kernel_rfl) (fun B F0 w0 => ?_)
  obtain ⟨ln, bs, js, ds⟩ := l
  have hb := hl.b
  simp only [] at hb ⊢
  obtain ⟨nm, kind, a, pt, b, on, to⟩ := j
  have hj : jE bs ⟨nm, kind, a, pt, b, on, to⟩ = if kind ≠ 0 ∧ kind ≠ 1 then 7 else if (inB a bs.length && inB b bs.length) = false then 9 else if a = b then 13 else
    if (inB pt (bs.getD a.toNat default).pts.length && inB on (bs.getD b.toNat default).pts.length) = false then 9 else
    if kind = 0 then (if to = 0 then 0 else 2) else if inB to (bs.getD b.toNat default).pts.length = false then 9 else
    if sameM ((bs.getD b.toNat default).pts.getD on.toNat default) ((bs.getD b.toNat default).pts.getD to.toNat default) = true then 8 else 0 := rfl
  generalize jE bs ⟨nm, kind, a, pt, b, on, to⟩ = E at *
  refine AW.seq ?_
  refine AW.region ?_   -- "model.go:45"
  refine AOps.run tok 3 _ _ _ _ rfl ?_
  refine AOps.nil ?_
  refine AW.seq ?_
  refine AW.cut [2, 3, 15] (fun _ : Unit => [(2, .bx [dS ln, BodiesD bs, JointsD js, DriversD ds]), (3, .bx [dS nm, dI kind, dI a, dI pt, dI b, dI on, dI to]), (15, .d (dB (decide (kind ≠ 0 ∧ kind ≠ 1))))]) (fun _ => True) ?_ (fun _ _ => ?_)
  · refine AW.region ?_   -- "model.go:46"   -- GUARDS
    refine AOps.run tok 3 _ _ _ _ rfl ?_
    refine AOps.split (t := 10) rfl (fun h => ?_) (fun h => ?_)
    · have h1 : kind ≠ 0 := by simpa using h
      refine AOps.run tok 5 _ _ _ _ rfl ?_
      refine AOps.nil ?_
      exact ⟨(), by rw [show decide (kind ≠ 0 ∧ kind ≠ 1) = (kind != 1) by rw [Bool.eq_iff_iff]; simp [h1]]; rfl, trivial⟩
    · have h1 : kind = 0 := by simpa using h
      refine AOps.run tok 5 _ _ _ _ rfl ?_
      refine AOps.nil ?_
      exact ⟨(), by rw [show decide (kind ≠ 0 ∧ kind ≠ 1) = false by simp [h1]]; rfl, trivial⟩
  refine AW.cond rfl (fun h => ?_) (fun h => ?_)
  · rw [if_pos (of_decide_eq_true h)] at hj
    rw [hj]
    refine AW.seq ?_
    refine AW.region ?_   -- "model.go:47"
    refine AOps.run tok 2 _ _ _ _ rfl ?_
    refine AOps.nil ?_
    exact AW.ret rfl
  rw [if_neg (of_decide_eq_false h)] at hj
  refine AW.skip ?_
  refine AW.seq ?_
  refine AW.cut [2, 3, 32] (fun _ : Unit => [(2, .bx [dS ln, BodiesD bs, JointsD js, DriversD ds]), (3, .bx [dS nm, dI kind, dI a, dI pt, dI b, dI on, dI to]), (32, .d (dB (!(inB a bs.length && inB b bs.length))))]) (fun _ => True) ?_ (fun _ _ => ?_)
  · refine AW.region ?_   -- "model.go:49"   -- GUARDS
    refine AOps.run tok 5 _ _ _ _ rfl ?_
    rw [List.length_map]
    refine AOps.call tok rfl rfl rfl rfl (model_in_ok a bs.length) ?_
    refine AOps.split (t := 22) rfl (fun h => ?_) (fun h => ?_)
    · refine AOps.run tok 7 _ _ _ _ rfl ?_
      rw [List.length_map]
      refine AOps.call tok rfl rfl rfl rfl (model_in_ok b bs.length) ?_   -- guarded
      refine AOps.run tok 2 _ _ _ _ rfl ?_
      refine AOps.nil ?_
      exact ⟨(), by rw [h]; rfl, trivial⟩
    · refine AOps.run tok 10 _ _ _ _ rfl ?_
      refine AOps.nil ?_
      exact ⟨(), by rw [h]; rfl, trivial⟩
  refine AW.cond rfl (fun h => ?_) (fun h => ?_)
  · rw [if_pos (not_t h)] at hj
    rw [hj]
    refine AW.seq ?_
    refine AW.region ?_   -- "model.go:50"
    refine AOps.run tok 2 _ _ _ _ rfl ?_
    refine AOps.nil ?_
    exact AW.ret rfl
  have hab : inB a bs.length = true ∧ inB b bs.length = true := by simpa using h
  rw [if_neg (by simp [hab])] at hj
  obtain ⟨ha0, ha1⟩ := inB_t hab.1
  obtain ⟨hb0, hb1⟩ := inB_t hab.2
  obtain ⟨Bb, hBb⟩ : ∃ x, x = bs.getD b.toNat default := ⟨_, rfl⟩
  obtain ⟨Ba, hBa⟩ : ∃ x, x = bs.getD a.toNat default := ⟨_, rfl⟩
  have okb := hb b.toNat
  rw [← hBb] at hj okb
  rw [← hBa] at hj
  refine AW.skip ?_
  refine AW.seq ?_
  refine AW.seq ?_
  refine AW.region ?_   -- "model.go:52"
  refine AOps.run tok 5 _ _ _ _ rfl ?_
  refine AOps.nil ?_
  refine AW.cond rfl (fun h => ?_) (fun h => ?_)
  · rw [if_pos (by simpa using h)] at hj
    rw [hj]
    refine AW.seq ?_
    refine AW.region ?_   -- "model.go:53"
    refine AOps.run tok 2 _ _ _ _ rfl ?_
    refine AOps.nil ?_
    exact AW.ret rfl
  rw [if_neg (by simpa using h)] at hj
  refine AW.skip ?_
  refine AW.seq ?_
  refine AW.region ?_   -- "model.go:55"
  refine AOps.run tok 4 _ _ _ _ rfl ?_
  refine AOps.idx tok Bb.D rfl rfl rfl rfl hb0 (by rw [hBb]; exact getM Body.D hb1) ?_
  refine AOps.run tok 3 _ _ _ _ rfl ?_
  refine AOps.nil ?_
  refine AW.seq ?_
  refine AW.cut [2, 3, 5, 66] (fun _ : Unit => [(2, .bx [dS ln, BodiesD bs, JointsD js, DriversD ds]), (3, .bx [dS nm, dI kind, dI a, dI pt, dI b, dI on, dI to]), (5, .d (PtsD Bb.pts)), (66, .d (dB (!(inB pt Ba.pts.length && inB on Bb.pts.length))))]) (fun _ => True) ?_ (fun _ _ => ?_)
  · have c1 := model_in_ok pt Ba.pts.length
    cases hq : inB pt Ba.pts.length with
    | true =>
      rw [hq] at c1
      refine AW.draw hmix 20 (by kernel_rfl) ?_   -- "model.go:56"   -- GUARDS
      refine APre.run tok 6 _ _ _ _ rfl ?_
      refine APre.idx tok Ba.D rfl rfl rfl rfl rfl ha0 (by rw [hBa]; exact getM Body.D ha1) ?_
      refine APre.run tok 3 _ _ _ _ rfl ?_
      rw [List.length_map]
      refine APre.call tok rfl rfl rfl rfl rfl c1 ?_
      refine APre.run tok 6 _ _ _ _ rfl ?_
      rw [List.length_map]
      refine APre.call tok rfl rfl rfl rfl rfl (model_in_ok on Bb.pts.length) ?_   -- guarded
      refine APre.run tok 2 _ _ _ _ rfl ?_
      refine APre.nil ?_
      refine AOps.nil ?_
      exact ⟨(), rfl, trivial⟩
    | false =>
      rw [hq] at c1
      refine AW.draw hmix 20 (by kernel_rfl) ?_   -- "model.go:56"   -- GUARDS
      refine APre.run tok 6 _ _ _ _ rfl ?_
      refine APre.idx tok Ba.D rfl rfl rfl rfl rfl ha0 (by rw [hBa]; exact getM Body.D ha1) ?_
      refine APre.run tok 3 _ _ _ _ rfl ?_
      rw [List.length_map]
      refine APre.call tok rfl rfl rfl rfl rfl c1 ?_
      refine APre.run tok 9 _ _ _ _ rfl ?_
      refine APre.nil ?_
      refine AOps.nil ?_
      exact ⟨(), rfl, trivial⟩
  refine AW.cond rfl (fun h => ?_) (fun h => ?_)
  · rw [if_pos (not_t h)] at hj
    rw [hj]
    refine AW.seq ?_
    refine AW.region ?_   -- "model.go:57"
    refine AOps.run tok 2 _ _ _ _ rfl ?_
    refine AOps.nil ?_
    exact AW.ret rfl
  have hpo : inB pt Ba.pts.length = true ∧ inB on Bb.pts.length = true := by simpa using h
  rw [if_neg (by simp [hpo])] at hj
  obtain ⟨ho0, ho1⟩ := inB_t hpo.2
  refine AW.skip ?_
  refine AW.seq ?_
  refine AW.seq ?_
  refine AW.region ?_   -- "model.go:59"
  refine AOps.run tok 3 _ _ _ _ rfl ?_
  refine AOps.nil ?_
  refine AW.cond rfl (fun h => ?_) (fun h => ?_)
  · rw [if_pos (by simpa using h)] at hj
    refine AW.seq ?_
    refine AW.seq ?_
    refine AW.region ?_   -- "model.go:60"
    refine AOps.run tok 3 _ _ _ _ rfl ?_
    refine AOps.nil ?_
    refine AW.cond rfl (fun h => ?_) (fun h => ?_)
    · rw [if_neg (by simpa using h)] at hj
      rw [hj]
      refine AW.seq ?_
      refine AW.region ?_   -- "model.go:61"
      refine AOps.run tok 2 _ _ _ _ rfl ?_
      refine AOps.nil ?_
      exact AW.ret rfl
    · rw [if_pos (by simpa using h)] at hj
      rw [hj]
      refine AW.skip ?_
      refine AW.seq ?_
      refine AW.region ?_   -- "model.go:63"
      refine AOps.run tok 1 _ _ _ _ rfl ?_
      refine AOps.nil ?_
      exact AW.ret rfl
  rw [if_neg (by simpa using h)] at hj
  refine AW.skip ?_
  refine AW.seq ?_
  refine AW.seq ?_
  refine AW.region ?_   -- "model.go:65"
  refine AOps.run tok 4 _ _ _ _ rfl ?_
  rw [List.length_map]
  refine AOps.call tok rfl rfl rfl rfl (model_in_ok to Bb.pts.length) ?_
  refine AOps.run tok 1 _ _ _ _ rfl ?_
  refine AOps.nil ?_
  refine AW.cond rfl (fun h => ?_) (fun h => ?_)
  · rw [if_pos (by simpa using h)] at hj
    rw [hj]
    refine AW.seq ?_
    refine AW.region ?_   -- "model.go:66"
    refine AOps.run tok 2 _ _ _ _ rfl ?_
    refine AOps.nil ?_
    exact AW.ret rfl
  have hto : inB to Bb.pts.length = true := by simpa using h
  rw [if_neg (by simp [hto])] at hj
  obtain ⟨ht0, ht1⟩ := inB_t hto
  obtain ⟨p, hp⟩ : ∃ x, x = Bb.pts.getD on.toNat default := ⟨_, rfl⟩
  obtain ⟨q, hq⟩ : ∃ x, x = Bb.pts.getD to.toNat default := ⟨_, rfl⟩
  have okp := okb.2.2 on.toNat
  have okq := okb.2.2 to.toNat
  rw [← hp] at hj okp
  rw [← hq] at hj okq
  refine AW.skip ?_
  refine AW.seq ?_
  refine AW.draw3 tok hmix [(5, true), (5, false), (2, true)] 12 [6, 7] (by kernel_rfl) ⟨rfl, ?_⟩   -- "model.go:68"
  refine APre.run tok 3 _ _ _ _ rfl ?_
  refine APre.idx tok p.D rfl rfl rfl rfl rfl ho0 (by rw [hp]; exact getM Mark.D ho1) ?_
  refine APre.run tok 1 _ _ _ _ rfl ?_
  refine APre.nil ⟨rfl, ?_⟩
  refine APre.run tok 3 _ _ _ _ rfl ?_
  refine APre.idx tok q.D rfl rfl rfl rfl rfl ht0 (by rw [hq]; exact getM Mark.D ht1) ?_
  refine APre.run tok 1 _ _ _ _ rfl ?_
  refine APre.nil ⟨rfl, ?_⟩
  refine APre.run tok 2 _ _ _ _ rfl ?_
  refine APre.nil ⟨_, StL.cons (.bx rfl) (StL.cons (.bx rfl) (StL.nil)), ?_⟩
  refine AOps.nil ?_
  refine AW.seq ?_
  refine AW.cut [105] (fun _ : Unit => [(105, .d (dB (sameM p q)))]) (fun _ => True) ?_ (fun _ _ => ?_)
  · refine AW.region ?_   -- "model.go:69"   -- GUARDS
    refine AOps.run tok 4 _ _ _ _ rfl ?_
    refine AOps.call tok rfl rfl rfl rfl (fraction_Cmp_ok p.x q.x okp.2.1 okq.2.1 hK) ?_
    refine AOps.run tok 1 _ _ _ _ rfl ?_
    rw [cmpQ_zero]
    refine AOps.split (t := 97) rfl (fun h => ?_) (fun h => ?_)
    · have h1 := of_decide_eq_true h
      refine AOps.run tok 5 _ _ _ _ rfl ?_
      refine AOps.call tok rfl rfl rfl rfl (fraction_Cmp_ok p.y q.y okp.2.2 okq.2.2 hK) ?_   -- guarded
      refine AOps.run tok 2 _ _ _ _ rfl ?_
      rw [cmpQ_zero]
      refine AOps.nil ?_
      exact ⟨(), by rw [show sameM p q = decide (p.y.val = q.y.val) by unfold sameM; simp [h1]]; rfl, trivial⟩
    · have h1 := of_decide_eq_false h
      refine AOps.run tok 8 _ _ _ _ rfl ?_
      refine AOps.nil ?_
      exact ⟨(), by rw [show sameM p q = false by unfold sameM; simp [h1]]; rfl, trivial⟩
  refine AW.cond rfl (fun h => ?_) (fun h => ?_)
  · rw [if_pos h] at hj
    rw [hj]
    refine AW.seq ?_
    refine AW.region ?_   -- "model.go:70"
    refine AOps.run tok 2 _ _ _ _ rfl ?_
    refine AOps.nil ?_
    exact AW.ret rfl
  · rw [if_neg (by rw [h]; decide)] at hj
    rw [hj]
    refine AW.skip ?_
    refine AW.seq ?_
    refine AW.region ?_   -- "model.go:72"
    refine AOps.run tok 1 _ _ _ _ rfl ?_
    refine AOps.nil ?_
    exact AW.ret rfl
end Lift
/- The model's checks: joints, drivers, the whole. -/
namespace Lift
open Go Go.Proofs

set_option maxHeartbeats 1600000 in
theorem model_joints_ok (l : Lkg) {K : Nat} (hl : l.ok K) (hK : K ≤ 20000000) : Pure Try.prog 17 [l.D] (erV (jointsE l.bodies l.joints)) := by
  refine Pure.intro (n := 49) tok Try.func17 rfl rfl rfl (Nat.le_of_ble_eq_true rfl) (by kernel_rfl) (fun B F0 w0 => ?_)
  have hjoint := fun j => model_joint_ok l j hl hK
  obtain ⟨ln, bs, js, ds⟩ := l
  have hj := hl.j
  have hn := hl.nj
  simp only [] at hj hn hjoint ⊢
  show AW _ _ _ _ _ _ _ (initSt 0 [D.ag [dS ln, BodiesD bs, JointsD js, DriversD ds]])
  unfold big at hn
  refine AW.seq ?_
  refine AW.region ?_   -- "model.go:76"
  refine AOps.run tok 2 _ _ _ _ rfl ?_
  refine AOps.nil ?_
  refine AW.seq ?_
  refine AW.seq ?_
  refine AW.region ?_   -- "model.go:77"
  refine AOps.run tok 4 _ _ _ _ rfl ?_
  rw [List.length_map]
  refine AOps.nil ?_
  refine AW.cond rfl (fun h => ?_) (fun h => ?_)
  · have h16 : 16 < js.length := by have := of_decide_eq_true h; omega
    rw [jointsE, if_pos h16]
    refine AW.seq ?_
    refine AW.region ?_   -- "model.go:78"
    refine AOps.run tok 2 _ _ _ _ rfl ?_
    refine AOps.nil ?_
    exact AW.ret rfl
  have h16 : ¬ 16 < js.length := by have := of_decide_eq_false h; omega
  rw [jointsE, if_neg h16]
  refine AW.skip ?_
  refine AW.seq ?_
  refine AW.seq ?_
  refine AW.region ?_   -- "model.go:80"
  refine AOps.run tok 4 _ _ _ _ rfl ?_
  rw [List.length_map]
  refine AOps.nil ?_
  refine AW.block ?_   -- block 0
  refine AW.loopS [1, 14, 15, 16] (fun i : Nat => [(1, .bx [dS ln, BodiesD bs, JointsD js, DriversD ds]), (14, .d (JointsD js)), (15, .d (dI js.length)), (16, .d (dI i))])
    (fun i => i ≤ js.length ∧ fE (jointE bs js) js.length 0 = fE (jointE bs js) (js.length - i) i) (fun i => js.length - i) 0 rfl ⟨Nat.zero_le _, rfl⟩ (fun i ⟨hi, hE⟩ => ?_)
  refine AW.seq ?_
  refine AW.region ?_   -- "model.go:80"
  refine AOps.run tok 1 _ _ _ _ rfl ?_
  refine AOps.nil ?_
  refine AW.seq ?_
  refine AW.cond rfl (fun h => ?_) (fun h => ?_)
  · have hin : i < js.length := by have := of_decide_eq_true h; omega
    have jok := hj i
    have hbE : jointE bs js i ≠ 0 → fE (jointE bs js) js.length 0 = jointE bs js i := fun h0 => hE.trans (fE_hit hin h0)
    have hbM : jointE bs js i = 0 → fE (jointE bs js) js.length 0 = fE (jointE bs js) (js.length - (i + 1)) (i + 1) := fun h0 => hE.trans (fE_miss hin h0)
    generalize fE (jointE bs js) js.length 0 = E at *
    obtain ⟨j, hje⟩ : ∃ j, j = js.getD i default := ⟨_, rfl⟩
    rw [← hje] at jok
    unfold big at jok
    have hdup : dupJ js i = anyF (fun k => decide ((js.getD k default).nm = j.nm)) i 0 := by rw [hje]; rfl
    have hbd : jointE bs js i = if nameB j.nm = false then 5 else if dupJ js i = true then 6 else jE bs j := by rw [hje]; rfl
    refine AW.skip ?_
    refine AW.seq ?_
    refine AW.block ?_   -- block 1
    refine AW.seq ?_
    refine AW.region ?_   -- "model.go:80"
    refine AOps.run tok 1 _ _ _ _ rfl ?_
    refine AOps.idx tok j.D rfl rfl rfl rfl (Int.natCast_nonneg i) (by rw [hje]; exact getM Joint.D hin) ?_
    refine AOps.run tok 4 _ _ _ _ rfl ?_
    refine AOps.nil ?_
    refine AW.seq ?_
    refine AW.seq ?_
    refine AW.region ?_   -- "model.go:81"
    refine AOps.run tok 2 _ _ _ _ rfl ?_
    refine AOps.call tok rfl rfl rfl rfl (token_Name_ok j.nm jok) ?_
    refine AOps.run tok 1 _ _ _ _ rfl ?_
    refine AOps.nil ?_
    refine AW.cond rfl (fun h => ?_) (fun h => ?_)
    · have hnm : nameB j.nm = false := not_t h
      have h5 : jointE bs js i = 5 := by rw [hbd, hnm]; rfl
      rw [show E = 5 by rw [hbE (by omega), h5]]
      refine AW.seq ?_
      refine AW.region ?_   -- "model.go:82"
      refine AOps.run tok 2 _ _ _ _ rfl ?_
      refine AOps.nil ?_
      exact AW.ret rfl
    have hnm : nameB j.nm = true := by simpa using h
    rw [hnm, if_neg (by decide)] at hbd
    refine AW.skip ?_
    refine AW.seq ?_
    refine AW.seq ?_
    refine AW.region ?_   -- "model.go:84"
    refine AOps.run tok 3 _ _ _ _ rfl ?_
    refine AOps.slc tok rfl rfl rfl rfl trivial (Int.natCast_nonneg i) (Nat.zero_le _) (by show i ≤ _; rw [List.length_map]; omega) ?_
    refine AOps.run tok 2 _ _ _ _ rfl ?_
    rw [slcLen (by rw [List.length_map]; omega)]
    refine AOps.nil ?_
    refine AW.block ?_   -- block 2
    refine AW.loopS [1, 4, 14, 15, 16, 29, 30, 31] (fun k : Nat => [(1, .bx [dS ln, BodiesD bs, JointsD js, DriversD ds]), (4, .bx [dS j.nm, dI j.kind, dI j.a, dI j.pt, dI j.b, dI j.on, dI j.to]), (14, .d (JointsD js)), (15, .d (dI js.length)), (16, .d (dI i)), (29, .d (.sl 7 ((js.map Joint.D).take i))), (30, .d (dI i)), (31, .d (dI k))])
      (fun k => k ≤ i ∧ dupJ js i = anyF (fun k => decide ((js.getD k default).nm = j.nm)) (i - k) k) (fun k => i - k) 0 rfl ⟨Nat.zero_le _, hdup⟩ (fun k ⟨hk, hD⟩ => ?_)
    refine AW.seq ?_
    refine AW.region ?_   -- "model.go:84"
    refine AOps.run tok 1 _ _ _ _ rfl ?_
    refine AOps.nil ?_
    refine AW.seq ?_
    refine AW.cond rfl (fun h => ?_) (fun h => ?_)
    · have hki : k < i := by have := of_decide_eq_true h; omega
      refine AW.skip ?_
      refine AW.seq ?_
      refine AW.block ?_   -- block 3
      refine AW.seq ?_
      refine AW.region ?_   -- "model.go:84"
      refine AOps.idx tok (js.getD k default).D rfl rfl rfl rfl (Int.natCast_nonneg k) (getT Joint.D (by omega) hki) ?_
      refine AOps.run tok 3 _ _ _ _ rfl ?_
      refine AOps.nil ?_
      refine AW.seq ?_
      refine AW.region ?_   -- "model.go:85"
      refine AOps.run tok 5 _ _ _ _ rfl ?_
      rw [str_eq]
      refine AOps.nil ?_
      refine AW.cond rfl (fun h => ?_) (fun h => ?_)
      · have h6 : jointE bs js i = 6 := by rw [hbd, hD.trans (anyF_hit hki h)]; rfl
        rw [show E = 6 by rw [hbE (by omega), h6]]
        refine AW.seq ?_
        refine AW.region ?_   -- "model.go:86"
        refine AOps.run tok 2 _ _ _ _ rfl ?_
        refine AOps.nil ?_
        exact AW.ret rfl
      · refine AW.skip ?_
        refine AW.region ?_   -- "model.go:84"
        refine AOps.run tok 2 _ _ _ _ rfl ?_
        rw [wI64 (x := (k : Int) + 1) (by omega) (by omega)]
        refine AOps.nil ?_
        exact ⟨k + 1, rfl, ⟨hki, hD.trans (anyF_miss hki h)⟩, by omega⟩
    · have hki : ¬ k < i := by have := of_decide_eq_false h; omega
      rw [hD.trans (anyF_end hki), if_neg (by decide)] at hbd
      refine AW.exit ?_
      have c := hjoint j
      cases he : jE bs j with
      | zero =>
        rw [he] at hbd c
        refine AW.seq ?_
        refine AW.region ?_   -- "model.go:89"
        refine AOps.run tok 2 _ _ _ _ rfl ?_
        refine AOps.call tok rfl rfl rfl rfl c ?_
        refine AOps.run tok 1 _ _ _ _ rfl ?_
        refine AOps.nil ?_
        refine AW.seq ?_
        refine AW.region ?_   -- "model.go:89"
        refine AOps.run tok 1 _ _ _ _ rfl ?_
        refine AOps.err tok rfl rfl rfl rfl rfl ?_
        refine AOps.nil ?_
        refine AW.condF rfl ?_
        refine AW.skip ?_
        refine AW.region ?_   -- "model.go:80"
        refine AOps.run tok 2 _ _ _ _ rfl ?_
        rw [wI64 (x := (i : Int) + 1) (by omega) (by omega)]
        refine AOps.nil ?_
        exact ⟨i + 1, rfl, ⟨hin, hbM hbd⟩, by omega⟩
      | succ m =>
        rw [he] at hbd c
        rw [show E = m + 1 by rw [hbE (by omega), hbd]]
        refine AW.seq ?_
        refine AW.region ?_   -- "model.go:89"
        refine AOps.run tok 2 _ _ _ _ rfl ?_
        refine AOps.call tok rfl rfl rfl rfl c ?_
        refine AOps.run tok 1 _ _ _ _ rfl ?_
        refine AOps.nil ?_
        refine AW.seq ?_
        refine AW.region ?_   -- "model.go:89"
        refine AOps.run tok 1 _ _ _ _ rfl ?_
        refine AOps.err tok rfl rfl rfl rfl rfl ?_
        refine AOps.nil ?_
        refine AW.condT rfl ?_
        refine AW.seq ?_
        refine AW.region ?_   -- "model.go:90"
        refine AOps.run tok 2 _ _ _ _ rfl ?_
        refine AOps.nil ?_
        exact AW.ret rfl
  · have hin : ¬ i < js.length := by have := of_decide_eq_false h; omega
    rw [hE, fE_end hin]
    refine AW.exit ?_
    refine AW.seq ?_
    refine AW.region ?_   -- "model.go:93"
    refine AOps.run tok 1 _ _ _ _ rfl ?_
    refine AOps.nil ?_
    exact AW.ret rfl

set_option maxHeartbeats 1600000 in
theorem model_drivers_ok (l : Lkg) {K : Nat} (hl : l.ok K) : Pure Try.prog 18 [l.D] (erV (driversE l.bodies.length l.drivers)) := by
  refine Pure.intro (n := 72) tok Try.func18 rfl rfl rfl (Nat.le_of_ble_eq_true rfl) (by kernel_rfl) (fun B F0 w0 => ?_)
  obtain ⟨ln, bs, js, ds⟩ := l
  have hd := hl.d
  have hn := hl.nd
  simp only [] at hd hn ⊢
  show AW _ _ _ _ _ _ _ (initSt 0 [D.ag [dS ln, BodiesD bs, JointsD js, DriversD ds]])
  unfold big at hn
  refine AW.seq ?_
  refine AW.region ?_   -- "model.go:97"
  refine AOps.run tok 2 _ _ _ _ rfl ?_
  refine AOps.nil ?_
  refine AW.seq ?_
  refine AW.seq ?_
  refine AW.region ?_   -- "model.go:98"
  refine AOps.run tok 4 _ _ _ _ rfl ?_
  rw [List.length_map]
  refine AOps.nil ?_
  refine AW.cond rfl (fun h => ?_) (fun h => ?_)
  · have h2 : 2 < ds.length := by have := of_decide_eq_true h; omega
    rw [driversE, if_pos h2]
    refine AW.seq ?_
    refine AW.region ?_   -- "model.go:99"
    refine AOps.run tok 2 _ _ _ _ rfl ?_
    refine AOps.nil ?_
    exact AW.ret rfl
  have h2 : ¬ 2 < ds.length := by have := of_decide_eq_false h; omega
  rw [driversE, if_neg h2]
  refine AW.skip ?_
  refine AW.seq ?_
  refine AW.seq ?_
  refine AW.region ?_   -- "model.go:101"
  refine AOps.run tok 4 _ _ _ _ rfl ?_
  rw [List.length_map]
  refine AOps.nil ?_
  refine AW.block ?_   -- block 0
  refine AW.loopS [1, 15, 16, 17] (fun i : Nat => [(1, .bx [dS ln, BodiesD bs, JointsD js, DriversD ds]), (15, .d (DriversD ds)), (16, .d (dI ds.length)), (17, .d (dI i))])
    (fun i => i ≤ ds.length ∧ fE (driverE bs.length ds) ds.length 0 = fE (driverE bs.length ds) (ds.length - i) i) (fun i => ds.length - i) 0 rfl ⟨Nat.zero_le _, rfl⟩ (fun i ⟨hi, hE⟩ => ?_)
  refine AW.seq ?_
  refine AW.region ?_   -- "model.go:101"
  refine AOps.run tok 1 _ _ _ _ rfl ?_
  refine AOps.nil ?_
  refine AW.seq ?_
  refine AW.cond rfl (fun h => ?_) (fun h => ?_)
  · have hin : i < ds.length := by have := of_decide_eq_true h; omega
    have dok := hd i
    have hbE : driverE bs.length ds i ≠ 0 → fE (driverE bs.length ds) ds.length 0 = driverE bs.length ds i := fun h0 => hE.trans (fE_hit hin h0)
    have hbM : driverE bs.length ds i = 0 → fE (driverE bs.length ds) ds.length 0 = fE (driverE bs.length ds) (ds.length - (i + 1)) (i + 1) := fun h0 => hE.trans (fE_miss hin h0)
    generalize fE (driverE bs.length ds) ds.length 0 = E at *
    obtain ⟨d, hde⟩ : ∃ d, d = ds.getD i default := ⟨_, rfl⟩
    rw [← hde] at dok
    unfold big at dok
    have hdup : dupD ds i = anyF (fun k => decide ((ds.getD k default).nm = d.nm)) i 0 := by rw [hde]; rfl
    have hdup2 : dupT ds i = anyF (fun k => decide ((ds.getD k default).body = d.body)) i 0 := by rw [hde]; rfl
    have hbd : driverE bs.length ds i = if nameB d.nm = false then 5 else if dupD ds i = true then 6 else if inB d.body bs.length = false then 9 else if d.body = 0 then 7 else if dupT ds i = true then 6 else 0 := by rw [hde]; rfl
    refine AW.skip ?_
    refine AW.seq ?_
    refine AW.block ?_   -- block 1
    refine AW.seq ?_
    refine AW.region ?_   -- "model.go:101"
    refine AOps.run tok 1 _ _ _ _ rfl ?_
    refine AOps.idx tok d.D rfl rfl rfl rfl (Int.natCast_nonneg i) (by rw [hde]; exact getM Driver.D hin) ?_
    refine AOps.run tok 4 _ _ _ _ rfl ?_
    refine AOps.nil ?_
    refine AW.seq ?_
    refine AW.seq ?_
    refine AW.region ?_   -- "model.go:102"
    refine AOps.run tok 2 _ _ _ _ rfl ?_
    refine AOps.call tok rfl rfl rfl rfl (token_Name_ok d.nm dok) ?_
    refine AOps.run tok 1 _ _ _ _ rfl ?_
    refine AOps.nil ?_
    refine AW.cond rfl (fun h => ?_) (fun h => ?_)
    · have hnm : nameB d.nm = false := not_t h
      have h5 : driverE bs.length ds i = 5 := by rw [hbd, hnm]; rfl
      rw [show E = 5 by rw [hbE (by omega), h5]]
      refine AW.seq ?_
      refine AW.region ?_   -- "model.go:103"
      refine AOps.run tok 2 _ _ _ _ rfl ?_
      refine AOps.nil ?_
      exact AW.ret rfl
    have hnm : nameB d.nm = true := by simpa using h
    rw [hnm, if_neg (by decide)] at hbd
    refine AW.skip ?_
    refine AW.seq ?_
    refine AW.seq ?_
    refine AW.region ?_   -- "model.go:105"
    refine AOps.run tok 3 _ _ _ _ rfl ?_
    refine AOps.slc tok rfl rfl rfl rfl trivial (Int.natCast_nonneg i) (Nat.zero_le _) (by show i ≤ _; rw [List.length_map]; omega) ?_
    refine AOps.run tok 2 _ _ _ _ rfl ?_
    rw [slcLen (by rw [List.length_map]; omega)]
    refine AOps.nil ?_
    refine AW.block ?_   -- block 2
    refine AW.loopS [1, 3, 4, 15, 16, 17, 30, 31, 32] (fun k : Nat => [(1, .bx [dS ln, BodiesD bs, JointsD js, DriversD ds]), (3, .d (dI i)), (4, .bx [dS d.nm, dI d.body]), (15, .d (DriversD ds)), (16, .d (dI ds.length)), (17, .d (dI i)), (30, .d (.sl 2 ((ds.map Driver.D).take i))), (31, .d (dI i)), (32, .d (dI k))])
      (fun k => k ≤ i ∧ dupD ds i = anyF (fun k => decide ((ds.getD k default).nm = d.nm)) (i - k) k) (fun k => i - k) 0 rfl ⟨Nat.zero_le _, hdup⟩ (fun k ⟨hk, hD⟩ => ?_)
    refine AW.seq ?_
    refine AW.region ?_   -- "model.go:105"
    refine AOps.run tok 1 _ _ _ _ rfl ?_
    refine AOps.nil ?_
    refine AW.seq ?_
    refine AW.cond rfl (fun h => ?_) (fun h => ?_)
    · have hki : k < i := by have := of_decide_eq_true h; omega
      refine AW.skip ?_
      refine AW.seq ?_
      refine AW.block ?_   -- block 3
      refine AW.seq ?_
      refine AW.region ?_   -- "model.go:105"
      refine AOps.idx tok (ds.getD k default).D rfl rfl rfl rfl (Int.natCast_nonneg k) (getT Driver.D (by omega) hki) ?_
      refine AOps.run tok 3 _ _ _ _ rfl ?_
      refine AOps.nil ?_
      refine AW.seq ?_
      refine AW.region ?_   -- "model.go:106"
      refine AOps.run tok 5 _ _ _ _ rfl ?_
      rw [str_eq]
      refine AOps.nil ?_
      refine AW.cond rfl (fun h => ?_) (fun h => ?_)
      · have h6 : driverE bs.length ds i = 6 := by rw [hbd, hD.trans (anyF_hit hki h)]; rfl
        rw [show E = 6 by rw [hbE (by omega), h6]]
        refine AW.seq ?_
        refine AW.region ?_   -- "model.go:107"
        refine AOps.run tok 2 _ _ _ _ rfl ?_
        refine AOps.nil ?_
        exact AW.ret rfl
      · refine AW.skip ?_
        refine AW.region ?_   -- "model.go:105"
        refine AOps.run tok 2 _ _ _ _ rfl ?_
        rw [wI64 (x := (k : Int) + 1) (by omega) (by omega)]
        refine AOps.nil ?_
        exact ⟨k + 1, rfl, ⟨hki, hD.trans (anyF_miss hki h)⟩, by omega⟩
    · have hki : ¬ k < i := by have := of_decide_eq_false h; omega
      rw [hD.trans (anyF_end hki), if_neg (by decide)] at hbd
      refine AW.exit ?_
      refine AW.seq ?_
      refine AW.seq ?_
      refine AW.region ?_   -- "model.go:110"
      refine AOps.run tok 5 _ _ _ _ rfl ?_
      rw [List.length_map]
      refine AOps.call tok rfl rfl rfl rfl (model_in_ok d.body bs.length) ?_
      refine AOps.run tok 1 _ _ _ _ rfl ?_
      refine AOps.nil ?_
      refine AW.cond rfl (fun h => ?_) (fun h => ?_)
      · rw [if_pos (not_t h)] at hbd
        rw [show E = 9 by rw [hbE (by omega), hbd]]
        refine AW.seq ?_
        refine AW.region ?_   -- "model.go:111"
        refine AOps.run tok 2 _ _ _ _ rfl ?_
        refine AOps.nil ?_
        exact AW.ret rfl
      have hinb : inB d.body bs.length = true := by simpa using h
      rw [if_neg (by simp [hinb])] at hbd
      refine AW.skip ?_
      refine AW.seq ?_
      refine AW.seq ?_
      refine AW.region ?_   -- "model.go:113"
      refine AOps.run tok 3 _ _ _ _ rfl ?_
      refine AOps.nil ?_
      refine AW.cond rfl (fun h => ?_) (fun h => ?_)
      · rw [if_pos (by simpa using h)] at hbd
        rw [show E = 7 by rw [hbE (by omega), hbd]]
        refine AW.seq ?_
        refine AW.region ?_   -- "model.go:114"
        refine AOps.run tok 2 _ _ _ _ rfl ?_
        refine AOps.nil ?_
        exact AW.ret rfl
      rw [if_neg (by simpa using h)] at hbd
      refine AW.skip ?_
      refine AW.seq ?_
      refine AW.region ?_   -- "model.go:116"
      refine AOps.run tok 3 _ _ _ _ rfl ?_
      refine AOps.slc tok rfl rfl rfl rfl trivial (Int.natCast_nonneg i) (Nat.zero_le _) (by show i ≤ _; rw [List.length_map]; omega) ?_
      refine AOps.run tok 2 _ _ _ _ rfl ?_
      rw [slcLen (by rw [List.length_map]; omega)]
      refine AOps.nil ?_
      refine AW.block ?_   -- block 4
      refine AW.loopS [1, 4, 15, 16, 17, 58, 59, 60] (fun k : Nat => [(1, .bx [dS ln, BodiesD bs, JointsD js, DriversD ds]), (4, .bx [dS d.nm, dI d.body]), (15, .d (DriversD ds)), (16, .d (dI ds.length)), (17, .d (dI i)), (58, .d (.sl 2 ((ds.map Driver.D).take i))), (59, .d (dI i)), (60, .d (dI k))])
        (fun k => k ≤ i ∧ dupT ds i = anyF (fun k => decide ((ds.getD k default).body = d.body)) (i - k) k) (fun k => i - k) 0 rfl ⟨Nat.zero_le _, hdup2⟩ (fun k ⟨hk, hD⟩ => ?_)
      refine AW.seq ?_
      refine AW.region ?_   -- "model.go:116"
      refine AOps.run tok 1 _ _ _ _ rfl ?_
      refine AOps.nil ?_
      refine AW.seq ?_
      refine AW.cond rfl (fun h => ?_) (fun h => ?_)
      · have hki : k < i := by have := of_decide_eq_true h; omega
        refine AW.skip ?_
        refine AW.seq ?_
        refine AW.block ?_   -- block 5
        refine AW.seq ?_
        refine AW.region ?_   -- "model.go:116"
        refine AOps.idx tok (ds.getD k default).D rfl rfl rfl rfl (Int.natCast_nonneg k) (getT Driver.D (by omega) hki) ?_
        refine AOps.run tok 3 _ _ _ _ rfl ?_
        refine AOps.nil ?_
        refine AW.seq ?_
        refine AW.region ?_   -- "model.go:117"
        refine AOps.run tok 5 _ _ _ _ rfl ?_
        refine AOps.nil ?_
        refine AW.cond rfl (fun h => ?_) (fun h => ?_)
        · have h' : decide ((ds.getD k default).body = d.body) = true := by simpa using h
          rw [hD.trans (anyF_hit hki h')] at hbd
          rw [show E = 6 by rw [hbE (by rw [hbd]; decide), hbd]; rfl]
          refine AW.seq ?_
          refine AW.region ?_   -- "model.go:118"
          refine AOps.run tok 2 _ _ _ _ rfl ?_
          refine AOps.nil ?_
          exact AW.ret rfl
        · have h' : decide ((ds.getD k default).body = d.body) = false := by simpa using h
          refine AW.skip ?_
          refine AW.region ?_   -- "model.go:116"
          refine AOps.run tok 2 _ _ _ _ rfl ?_
          rw [wI64 (x := (k : Int) + 1) (by omega) (by omega)]
          refine AOps.nil ?_
          exact ⟨k + 1, rfl, ⟨hki, hD.trans (anyF_miss hki h')⟩, by omega⟩
      · have hki : ¬ k < i := by have := of_decide_eq_false h; omega
        rw [hD.trans (anyF_end hki), if_neg (by decide)] at hbd
        refine AW.exit ?_
        refine AW.region ?_   -- "model.go:101"
        refine AOps.run tok 2 _ _ _ _ rfl ?_
        rw [wI64 (x := (i : Int) + 1) (by omega) (by omega)]
        refine AOps.nil ?_
        exact ⟨i + 1, rfl, ⟨hin, hbM hbd⟩, by omega⟩
  · have hin : ¬ i < ds.length := by have := of_decide_eq_false h; omega
    rw [hE, fE_end hin]
    refine AW.exit ?_
    refine AW.seq ?_
    refine AW.region ?_   -- "model.go:122"
    refine AOps.run tok 1 _ _ _ _ rfl ?_
    refine AOps.nil ?_
    exact AW.ret rfl

set_option maxHeartbeats 1600000 in
theorem model_Check_ok (l : Lkg) {K : Nat} (hl : l.ok K) (hK : K ≤ 20000000) : Pure Try.prog 8 [l.D] (erV (chk l)) := by
  refine Pure.intro (n := 33) tok Try.func8 rfl rfl rfl (Nat.le_of_ble_eq_true rfl) (by kernel_rfl) (fun B F0 w0 => ?_)
  have c1 := model_bodies_ok l.bodies hl.nb hl.b (by omega)
  have c2 := model_joints_ok l hl hK
  have c3 := model_drivers_ok l hl
  have hcd : chk l = if nameB l.nm = false then 5 else if l.bodies = [] then 10 else if 8 < l.bodies.length then 4 else
    if bodiesE l.bodies ≠ 0 then bodiesE l.bodies else if jointsE l.bodies l.joints ≠ 0 then jointsE l.bodies l.joints else driversE l.bodies.length l.drivers := rfl
  generalize chk l = E at *
  obtain ⟨ln, bs, js, ds⟩ := l
  have hnm := hl.nm
  have hnb := hl.nb
  simp only [] at hcd c1 c2 c3 hnm hnb ⊢
  show AW _ _ _ _ _ _ _ (initSt 0 [D.ag [dS ln, BodiesD bs, JointsD js, DriversD ds]])
  unfold big at hnm hnb
  refine AW.seq ?_
  refine AW.region ?_   -- "model.go:126"
  refine AOps.run tok 2 _ _ _ _ rfl ?_
  refine AOps.nil ?_
  refine AW.seq ?_
  refine AW.seq ?_
  refine AW.region ?_   -- "model.go:127"
  refine AOps.run tok 2 _ _ _ _ rfl ?_
  refine AOps.call tok rfl rfl rfl rfl (token_Name_ok ln hnm) ?_
  refine AOps.run tok 1 _ _ _ _ rfl ?_
  refine AOps.nil ?_
  refine AW.cond rfl (fun h => ?_) (fun h => ?_)
  · rw [if_pos (not_t h)] at hcd
    rw [hcd]
    refine AW.seq ?_
    refine AW.region ?_   -- "model.go:128"
    refine AOps.run tok 2 _ _ _ _ rfl ?_
    refine AOps.nil ?_
    exact AW.ret rfl
  rw [if_neg (by simpa using h)] at hcd
  refine AW.skip ?_
  refine AW.seq ?_
  refine AW.seq ?_
  refine AW.region ?_   -- "model.go:130"
  refine AOps.run tok 4 _ _ _ _ rfl ?_
  rw [List.length_map]
  refine AOps.nil ?_
  refine AW.cond rfl (fun h => ?_) (fun h => ?_)
  · have h0 : bs = [] := List.length_eq_zero_iff.1 (by have : (bs.length : Int) = 0 := by simpa using h
                                                       omega)
    rw [if_pos h0] at hcd
    rw [hcd]
    refine AW.seq ?_
    refine AW.region ?_   -- "model.go:131"
    refine AOps.run tok 2 _ _ _ _ rfl ?_
    refine AOps.nil ?_
    exact AW.ret rfl
  have h0 : bs ≠ [] := by rintro rfl; simp at h
  rw [if_neg h0] at hcd
  refine AW.skip ?_
  refine AW.seq ?_
  refine AW.seq ?_
  refine AW.region ?_   -- "model.go:133"
  refine AOps.run tok 4 _ _ _ _ rfl ?_
  rw [List.length_map]
  refine AOps.nil ?_
  refine AW.cond rfl (fun h => ?_) (fun h => ?_)
  · have h8 : 8 < bs.length := by have := of_decide_eq_true h; omega
    rw [if_pos h8] at hcd
    rw [hcd]
    refine AW.seq ?_
    refine AW.region ?_   -- "model.go:134"
    refine AOps.run tok 2 _ _ _ _ rfl ?_
    refine AOps.nil ?_
    exact AW.ret rfl
  have h8 : ¬ 8 < bs.length := by have := of_decide_eq_false h; omega
  rw [if_neg h8] at hcd
  refine AW.skip ?_
  cases he : bodiesE bs with
  | succ m =>
    rw [he] at hcd c1
    rw [show E = m + 1 by rw [hcd, if_pos (by omega)]]
    refine AW.seq ?_
    refine AW.seq ?_
    refine AW.region ?_   -- "model.go:136"
    refine AOps.run tok 2 _ _ _ _ rfl ?_
    refine AOps.call tok rfl rfl rfl rfl c1 ?_
    refine AOps.run tok 1 _ _ _ _ rfl ?_
    refine AOps.nil ?_
    refine AW.seq ?_
    refine AW.region ?_   -- "model.go:136"
    refine AOps.run tok 1 _ _ _ _ rfl ?_
    refine AOps.err tok rfl rfl rfl rfl rfl ?_
    refine AOps.nil ?_
    refine AW.condT rfl ?_
    refine AW.seq ?_
    refine AW.region ?_   -- "model.go:137"
    refine AOps.run tok 2 _ _ _ _ rfl ?_
    refine AOps.nil ?_
    exact AW.ret rfl
  | zero =>
    rw [he] at hcd c1
    rw [if_neg (by omega)] at hcd
    refine AW.seq ?_
    refine AW.seq ?_
    refine AW.region ?_   -- "model.go:136"
    refine AOps.run tok 2 _ _ _ _ rfl ?_
    refine AOps.call tok rfl rfl rfl rfl c1 ?_
    refine AOps.run tok 1 _ _ _ _ rfl ?_
    refine AOps.nil ?_
    refine AW.seq ?_
    refine AW.region ?_   -- "model.go:136"
    refine AOps.run tok 1 _ _ _ _ rfl ?_
    refine AOps.err tok rfl rfl rfl rfl rfl ?_
    refine AOps.nil ?_
    refine AW.condF rfl ?_
    refine AW.skip ?_
    cases he2 : jointsE bs js with
    | succ m =>
      rw [he2] at hcd c2
      rw [show E = m + 1 by rw [hcd, if_pos (by omega)]]
      refine AW.seq ?_
      refine AW.seq ?_
      refine AW.region ?_   -- "model.go:139"
      refine AOps.run tok 1 _ _ _ _ rfl ?_
      refine AOps.call tok rfl rfl rfl rfl c2 ?_
      refine AOps.run tok 1 _ _ _ _ rfl ?_
      refine AOps.nil ?_
      refine AW.seq ?_
      refine AW.region ?_   -- "model.go:139"
      refine AOps.run tok 1 _ _ _ _ rfl ?_
      refine AOps.err tok rfl rfl rfl rfl rfl ?_
      refine AOps.nil ?_
      refine AW.condT rfl ?_
      refine AW.seq ?_
      refine AW.region ?_   -- "model.go:140"
      refine AOps.run tok 2 _ _ _ _ rfl ?_
      refine AOps.nil ?_
      exact AW.ret rfl
    | zero =>
      rw [he2] at hcd c2
      rw [if_neg (by omega)] at hcd
      rw [hcd]
      refine AW.seq ?_
      refine AW.seq ?_
      refine AW.region ?_   -- "model.go:139"
      refine AOps.run tok 1 _ _ _ _ rfl ?_
      refine AOps.call tok rfl rfl rfl rfl c2 ?_
      refine AOps.run tok 1 _ _ _ _ rfl ?_
      refine AOps.nil ?_
      refine AW.seq ?_
      refine AW.region ?_   -- "model.go:139"
      refine AOps.run tok 1 _ _ _ _ rfl ?_
      refine AOps.err tok rfl rfl rfl rfl rfl ?_
      refine AOps.nil ?_
      refine AW.condF rfl ?_
      refine AW.skip ?_
      refine AW.seq ?_
      refine AW.region ?_   -- "model.go:142"
      refine AOps.run tok 1 _ _ _ _ rfl ?_
      refine AOps.call tok rfl rfl rfl rfl c3 ?_
      refine AOps.run tok 1 _ _ _ _ rfl ?_
      refine AOps.nil ?_
      exact AW.ret rfl
end Lift
/- Groups: what the next group says; all groups of a linkage. -/
namespace Lift
open Go Go.Proofs

/-- A group's numbers are of the linkage, and one of its bodies is new. -/
def GrIn (l : Lkg) (kn : List Bool) (g : Grp) : Prop :=
  (∀ b, b ∈ g.bs → 0 ≤ b ∧ b < l.bodies.length) ∧ (∀ j, j ∈ g.js → 0 ≤ j ∧ j < l.joints.length) ∧ ∃ b, b ∈ g.bs ∧ kn.getD b.toNat false = false
theorem fstO_some {α : Type} {g : Nat → Option α} {a : α} : ∀ {m i : Nat}, fstO g m i = some a → ∃ k, i ≤ k ∧ k < i + m ∧ g k = some a
  | 0, i, h => by simp [fstO] at h
  | m + 1, i, h => by
    unfold fstO at h
    split at h
    · rename_i b hb
      exact ⟨i, Nat.le_refl _, by omega, by rw [hb]; exact h⟩
    · obtain ⟨k, h1, h2, h3⟩ := fstO_some h
      exact ⟨k, by omega, by omega, h3⟩
theorem jtF_in {kind b : Int} {q : Nat → Bool} {js : List Joint} (h : 0 ≤ jtF kind b q js) : jtF kind b q js < js.length := by
  have := jtF_lt h
  omega
theorem freF_no {kn dr : List Bool} {i : Nat} (h : freF kn dr i = true) : kn.getD i false = false := by
  unfold freF at h
  rw [Bool.and_eq_true] at h
  exact notT h.1
theorem drvG_in {l : Lkg} (hl : LkIn l) {kn : List Bool} {g : Grp} (h : drvG l kn = some g) : GrIn l kn g := by
  obtain ⟨k, _, h2, h3⟩ := fstO_some h
  unfold drvS at h3
  split at h3
  · cases h3
  · rename_i hk
    split at h3
    · rename_i ha
      cases h3
      have hd := hl.d k (by omega)
      refine ⟨fun b hb => ?_, fun j hj => ?_, (l.drivers.getD k default).body, List.Mem.head _, ?_⟩
      · cases List.mem_singleton.1 hb
        exact hd
      · cases List.mem_singleton.1 hj
        exact ⟨ha, jtF_in ha⟩
      · cases hv : kn.getD (l.drivers.getD k default).body.toNat false
        · rfl
        · exact absurd hv hk
    · cases h3
theorem sngG_in {l : Lkg} {kn dr : List Bool} {g : Grp} (h : sngG l kn dr = some g) : GrIn l kn g := by
  obtain ⟨k, _, h2, h3⟩ := fstO_some h
  unfold sngS at h3
  split at h3
  · cases h3
  · rename_i hk
    split at h3
    · cases h3
    · rename_i ha
      cases h3
      have ha1 : 0 ≤ ancF l kn 0 k := by omega
      have ha2 : 0 ≤ ancF l kn 1 k := by omega
      refine ⟨fun b hb => ?_, fun j hj => ?_, (k : Int), List.Mem.head _, ?_⟩
      · cases List.mem_singleton.1 hb
        omega
      · rcases List.mem_cons.1 hj with rfl | hj
        · exact ⟨ha1, jtF_in ha1⟩
        · cases List.mem_singleton.1 hj
          exact ⟨ha2, jtF_in ha2⟩
      · exact freF_no (dr := dr) (by cases hv : freF kn dr k <;> simp_all)
theorem prIn_mem {fr : Nat → Bool} {i : Nat} {p : Nat × Nat} : ∀ {m j : Nat}, p ∈ prIn fr i m j → p.1 = i ∧ j ≤ p.2 ∧ p.2 < j + m ∧ fr p.1 = true ∧ fr p.2 = true
  | 0, j, h => by simp [prIn] at h
  | m + 1, j, h => by
    unfold prIn at h
    rcases List.mem_append.1 h with h | h
    · split at h
      · rename_i hf
        cases List.mem_singleton.1 h
        rw [Bool.and_eq_true] at hf
        exact ⟨rfl, Nat.le_refl _, by omega, hf.1, hf.2⟩
      · cases h
    · obtain ⟨h1, h2, h3, h4⟩ := prIn_mem h
      exact ⟨h1, by omega, by omega, h4⟩
theorem prOut_mem {fr : Nat → Bool} {n : Nat} {p : Nat × Nat} : ∀ {m i : Nat}, p ∈ prOut fr n m i → p.1 < i + m ∧ p.2 < max n (p.1 + 1) ∧ fr p.1 = true ∧ fr p.2 = true
  | 0, i, h => by simp [prOut] at h
  | m + 1, i, h => by
    unfold prOut at h
    rcases List.mem_append.1 h with h | h
    · obtain ⟨h1, h2, h3, h4⟩ := prIn_mem h
      exact ⟨by omega, by omega, h4⟩
    · obtain ⟨h1, h2, h4⟩ := prOut_mem h
      exact ⟨by omega, h2, h4⟩
theorem prsF_mem {fr : Nat → Bool} {n : Nat} {p : Nat × Nat} (h : p ∈ prsF fr n) : p.1 < n ∧ p.2 < n ∧ fr p.1 = true ∧ fr p.2 = true := by
  obtain ⟨h1, h2, h4⟩ := prOut_mem h
  exact ⟨by omega, by omega, h4⟩
theorem parG_in {l : Lkg} {kn dr : List Bool} {g : Grp} (h : parG l kn dr = some g) : GrIn l kn g := by
  obtain ⟨p, hp, h3⟩ := List.exists_of_findSome?_eq_some h
  obtain ⟨h1, h2, h4, h5⟩ := prsF_mem hp
  unfold parS at h3
  split at h3
  · rename_i ha
    cases h3
    refine ⟨fun b hb => ?_, fun j hj => ?_, (p.1 : Int), List.Mem.head _, freF_no h4⟩
    · rcases List.mem_cons.1 hb with rfl | hb
      · omega
      · cases List.mem_singleton.1 hb
        omega
    · rcases List.mem_cons.1 hj with rfl | hj
      · exact ⟨ha.1, jtF_in ha.1⟩
      · rcases List.mem_cons.1 hj with rfl | hj
        · exact ⟨ha.2.1, jtF_in ha.2.1⟩
        · cases List.mem_singleton.1 hj
          exact ⟨ha.2.2, jtF_in ha.2.2⟩
  · cases h3
theorem nxtG_in {l : Lkg} (hl : LkIn l) {kn dr : List Bool} {g : Grp} (h : nxtG l kn dr = some g) : GrIn l kn g := by
  unfold nxtG at h
  split at h
  · cases h
    exact drvG_in hl (by assumption)
  · split at h
    · cases h
      exact parG_in (by assumption)
    · exact sngG_in h
theorem nxtG_len {l : Lkg} {kn dr : List Bool} {g : Grp} (h : nxtG l kn dr = some g) : g.bs.length ≤ 2 ∧ g.js.length ≤ 3 := by
  unfold nxtG at h
  split at h
  · cases h
    obtain ⟨k, _, _, h3⟩ := fstO_some (by assumption : drvG l kn = some g)
    unfold drvS at h3
    split at h3
    · cases h3
    · split at h3
      · cases h3; exact ⟨by show 1 ≤ 2; omega, by show 1 ≤ 3; omega⟩
      · cases h3
  · split at h
    · cases h
      obtain ⟨p, _, h3⟩ := List.exists_of_findSome?_eq_some (by assumption : parG l kn dr = some g)
      unfold parS at h3
      split at h3
      · cases h3; exact ⟨Nat.le_refl 2, Nat.le_refl 3⟩
      · cases h3
    · obtain ⟨k, _, _, h3⟩ := fstO_some h
      unfold sngS at h3
      split at h3
      · cases h3
      · split at h3
        · cases h3
        · cases h3; exact ⟨by show 1 ≤ 2; omega, by show 2 ≤ 3; omega⟩
/-- The numbers' places set. -/
def setTs (l : List Bool) (is : List Int) : List Bool := is.foldl (fun l i => l.set i.toNat true) l
theorem setTs_length (is : List Int) : ∀ l : List Bool, (setTs l is).length = l.length := by
  induction is with
  | nil => intro l; rfl
  | cons i is ih => intro l; show (setTs (l.set i.toNat true) is).length = _; rw [ih, List.length_set]
theorem setTs_take {l : List Bool} {is : List Int} {i : Nat} (h : i < is.length) : (setTs l (is.take i)).set (is.getD i 0).toNat true = setTs l (is.take (i + 1)) := by
  rw [List.take_add_one, List.getElem?_eq_getElem h]
  unfold setTs
  rw [List.foldl_append]
  simp [List.getD_eq_getElem?_getD, List.getElem?_eq_getElem h]
/-- How many are false. -/
def cF : List Bool → Nat
  | [] => 0
  | true :: l => cF l
  | false :: l => cF l + 1
theorem cF_set : ∀ (l : List Bool) (i : Nat), cF (l.set i true) ≤ cF l
  | [], _ => Nat.le_refl _
  | true :: l, 0 => Nat.le_refl _
  | false :: l, 0 => Nat.le_succ _
  | true :: l, i + 1 => cF_set l i
  | false :: l, i + 1 => Nat.succ_le_succ (cF_set l i)
theorem cF_set_lt : ∀ (l : List Bool) (i : Nat), i < l.length → l.getD i false = false → cF (l.set i true) < cF l
  | [], _, h, _ => by simp at h
  | true :: l, 0, _, h => by simp at h
  | false :: l, 0, _, _ => Nat.lt_succ_self _
  | true :: l, i + 1, h, h2 => cF_set_lt l i (by simpa using h) (by simpa using h2)
  | false :: l, i + 1, h, h2 => Nat.succ_lt_succ (cF_set_lt l i (by simpa using h) (by simpa using h2))
theorem setTs_cF (is : List Int) : ∀ l : List Bool, cF (setTs l is) ≤ cF l := by
  induction is with
  | nil => intro l; exact Nat.le_refl _
  | cons i is ih => intro l; exact Nat.le_trans (ih _) (cF_set _ _)
theorem setTs_cF_lt {is : List Int} : ∀ {l : List Bool} {b : Int}, b ∈ is → b.toNat < l.length → l.getD b.toNat false = false → cF (setTs l is) < cF l := by
  induction is with
  | nil => intro l b h; cases h
  | cons i is ih =>
    intro l b h hb hf
    show cF (setTs (l.set i.toNat true) is) < _
    by_cases he : i.toNat = b.toNat
    · rw [he]
      exact Nat.lt_of_le_of_lt (setTs_cF _ _) (cF_set_lt _ _ hb hf)
    · rcases List.mem_cons.1 h with rfl | h
      · exact absurd rfl he
      · refine Nat.lt_of_lt_of_le (ih h (by rw [List.length_set]; exact hb) ?_) (cF_set _ _)
        rw [List.getD_eq_getElem?_getD, List.getElem?_set_ne he, ← List.getD_eq_getElem?_getD]
        exact hf
theorem cF_le : ∀ l : List Bool, cF l ≤ l.length
  | [] => Nat.le_refl _
  | true :: l => Nat.le_succ_of_le (cF_le l)
  | false :: l => Nat.succ_le_succ (cF_le l)
/-- What find has found. -/
structure FSt where
  kn : List Bool
  us : List Bool
  gs : List Grp
/-- The search from a state on, of at most m steps. -/
def fgo (l : Lkg) (dr : List Bool) : Nat → FSt → FSt
  | 0, s => s
  | m + 1, s => match nxtG l s.kn dr with
    | some g => fgo l dr m ⟨setTs s.kn g.bs, setTs s.us g.js, s.gs ++ [g]⟩
    | none => s
theorem fgo_end {l : Lkg} {dr : List Bool} {s : FSt} (h : nxtG l s.kn dr = none) (m : Nat) : fgo l dr m s = s := by
  cases m with
  | zero => rfl
  | succ m => unfold fgo; rw [h]
theorem fgo_step {l : Lkg} (hl : LkIn l) {dr : List Bool} {s : FSt} {g : Grp} (hk : s.kn.length = l.bodies.length) (h : nxtG l s.kn dr = some g) : cF (setTs s.kn g.bs) < cF s.kn := by
  obtain ⟨h1, _, b, h3, h4⟩ := nxtG_in hl h
  have := h1 b h3
  exact setTs_cF_lt h3 (by omega) h4
/-- More steps than false marks change nothing. -/
theorem fgo_more {l : Lkg} (hl : LkIn l) {dr : List Bool} : ∀ (m m' : Nat) (s : FSt), s.kn.length = l.bodies.length → cF s.kn ≤ m → cF s.kn ≤ m' → fgo l dr m s = fgo l dr m' s := by
  intro m
  induction m with
  | zero =>
    intro m' s hk h1 h2
    cases hg : nxtG l s.kn dr with
    | none => rw [fgo_end hg, fgo_end hg]
    | some g => have := fgo_step hl hk hg; omega
  | succ m ih =>
    intro m' s hk h1 h2
    cases hg : nxtG l s.kn dr with
    | none => rw [fgo_end hg, fgo_end hg]
    | some g =>
      have hlt := fgo_step hl hk hg
      cases m' with
      | zero => omega
      | succ m' =>
        unfold fgo
        rw [hg]
        exact ih m' _ (by rw [setTs_length]; exact hk) (by show cF (setTs _ _) ≤ _; omega) (by show cF (setTs _ _) ≤ _; omega)
/-- The bodies of drivers. -/
def drvB (l : Lkg) : List Bool := setTs (List.replicate l.bodies.length false) (l.drivers.map Driver.body)
/-- All that find finds. -/
def findF (l : Lkg) : FSt := fgo l (drvB l) l.bodies.length ⟨(List.replicate l.bodies.length false).set 0 true, List.replicate l.joints.length false, []⟩
end Lift
/- Groups: all groups of a linkage, one after the other: find. -/
namespace Lift
open Go Go.Proofs
open Go.RowKit (Below)

section
variable {P : Program} {T : Ty} {B : Nat} {F0 : Nat → Prop} {w0 : Bas} {n : Nat} {σ : St} {R : List LR} {ops all : Array Oper} {l rest : List Oper} {o : Oper} {d : Nat} {x : Code} {a : Act} {w : World} {Q : Exit → List LR → St → Prop}
/-- A move may be taken first. -/
theorem ZAny.earlyM (i : Nat) {oi : Oper} (hB : earlyP ops i = true) (hoi : ops[i]? = some oi) (hm : isMove oi.op = true) (hpan : ∀ c R σ, Q (.panic c) R σ → False) (hout : ∀ R σ, Q .outgrown R σ → False) (h : ZAny P B F0 w0 n (earlier i ops) Q R σ) : ZAny P B F0 w0 n ops Q R σ := by
  intro a w hR
  obtain ⟨v, hv⟩ := move_run hm a
  have hA := h a w hR
  rw [earlier_size] at hA
  refine wpAny_earlyP i hB (fun c a w hq => ?_) (fun hq => ?_) hoi hv hA
  · obtain ⟨R, σ, h, _⟩ := hq; exact hpan c R σ h
  · obtain ⟨a, w, R, σ, h, _⟩ := hq; exact hout R σ h
/-- A slot that points to a box that becomes data. -/
theorem Rel.frzP {s t : Nat} {cs : List D} (hR : Rel P B F0 w0 n σ a w) (ht : σ.get t = some (.bx cs)) (hs : σ.get s = some (.pt t 0)) : Rel P B F0 w0 n ((s, .d (.pr cs)) :: (t, .d (.pr cs)) :: σ.kill t) a w := by
  obtain ⟨O1, _, hO1⟩ := hR.own
  obtain ⟨v, hv, b, es, e, rfl, _⟩ := hO1 t _ ht
  obtain ⟨u, hu, hur⟩ := hO1 s _ hs
  obtain ⟨b', hb', rfl⟩ := hur cs ht
  have hb2 : a.tmps[t]? = some (Value.pointer (some ⟨b', 0, none⟩)) := hb'
  rw [hv] at hb2
  cases hb2
  have hR2 := hR.frzB ht
  obtain ⟨O, hOr, hO⟩ := hR2.own
  have hget : ∀ j x, x.home = true → St.get ((s, AV.d (.pr cs)) :: (t, AV.d (.pr cs)) :: σ.kill t) j = some x → St.get ((t, AV.d (.pr cs)) :: σ.kill t) j = some x := fun j x hx hg => by
    rw [St.get_cons] at hg
    split at hg
    · simp at hg; subst hg; simp [AV.home] at hx
    · exact hg
  refine ⟨hR2.below, hR2.base, hR2.f0, hR2.defers, hR2.size, O, hOr, fun k av hk => ?_⟩
  rw [St.get_cons] at hk
  split at hk
  · rename_i e
    subst e
    cases hk
    obtain ⟨v, hv', hr⟩ := hO t (.d (.pr cs)) (by rw [St.get_cons, if_pos rfl])
    rw [hv] at hv'
    cases hv'
    exact ⟨_, hu, hr⟩
  · obtain ⟨v, hv, hr⟩ := hO k av hk
    exact ⟨v, hv, hr.move (fun c hc => ⟨hc, rfl⟩) (fun _ c hc => ⟨hc, rfl⟩) (fun j hj z hz hg => ⟨hget j z hz hg, rfl⟩)⟩
theorem AOps.frzp {K : St → Prop} (s t : Nat) {cs : List D} (ht : σ.get t = some (.bx cs)) (hs : σ.get s = some (.pt t 0)) (h : AOps P B F0 w0 n all l K ((s, .d (.pr cs)) :: (t, .d (.pr cs)) :: σ.kill t)) : AOps P B F0 w0 n all l K σ := fun a w hR => h a w (hR.frzP ht hs)
def asgF (T : Ty) (lk : Nat → Option AV) (ty : Nat) : Op → Option AV
  | .assign x => match ex T lk ty x with
    | some (.pt h off) => some (.pt h off)
    | _ => none
  | _ => none
theorem PStep.asgp (hT : TOk P T) {lk hm : Nat → Option AV} {av : AV} (hd : o.dst = some d) (hn : hm d = none) (hx : asgF T lk o.type o.op = some av) : PStep P B F0 w0 d o lk hm av := by
  refine ⟨hd, hn, fun a w O hI K Q hK => ?_⟩
  obtain ⟨dst, op, ty, pos, after, guard⟩ := o
  simp only [] at hd hx hI
  cases op <;> simp only [asgF] at hx <;> try (cases hx; done)
  rename_i x
  split at hx <;> try (cases hx; done)
  rename_i h off he
  simp at hx
  subst hx
  have hr := (ex_sound hI (fun t ht => by subst ht; simp [Op.operands]) he d).1
  have hrun : (execOp a.eval { dst := dst, op := .assign x, type := ty, pos := pos, after := after, guard := guard }).run P w = .ok (.value (a.eval x)) w := by
    simp [execOp]
  exact wp_val hrun (hK _ w O (Grow.refl hI.lt) hr)
/-- A pointer to a box is handed on. -/
theorem AOps.asgp (hT : TOk P T) {K : St → Prop} {h off : Nat} (hd : o.dst = some d) (hdn : Nat.ble (d + 1) n = true) (hg : guardOk all σ o = true) (hx : asgF T σ.get o.type o.op = some (.pt h off))
    (h : AOps P B F0 w0 n all rest K ((d, .pt h off) :: σ)) : AOps P B F0 w0 n all (o :: rest) K σ := AOps.pure hg hdn (PStep.asgp hT hd (hmx_self σ d) hx) h
theorem APre.nchp (hT : TOk P T) {K : St → Prop} {τ σ0 : St} {ds : List Nat} {k off : Nat} (hd : o.dst = some d) (hdn : Nat.ble (d + 1) n = true) (hg : guardOk ops τ o = true) (hs : σ0.get d = none) (hr : refsOk ds (.pt k off) = true) (hx : nchkF T τ.get σ0.get o.op = some (.pt k off))
    (h : APre P B F0 w0 n ops ds σ0 rest ((d, .pt k off) :: τ) K) : APre P B F0 w0 n ops ds σ0 (o :: rest) τ K := APre.pure hd hdn hr hg (PStep.nchk hT hd hs hx) h
theorem AOps.storeT (hT : TOk P T) {K : St → Prop} {k e i : Nat} {xs : List Bool} (hd : o.dst = none) (hg : guardOk all σ o = true) (hx : seF T σ o.op = some (k, .ow e (xs.map (fun b => dB b)), xs.map (fun b => dB b), i, 0, dB true)) (hi : i < xs.length)
    (h : AOps P B F0 w0 n all rest K ((k, .ow e ((xs.set i true).map (fun b => dB b))) :: σ)) : AOps P B F0 w0 n all (o :: rest) K σ := by
  refine AOps.storeel hT (dB (xs.getD i false)) hd hg hx (getBs hi) rfl ?_
  show AOps P B F0 w0 n all rest K ((k, .ow e ((xs.map (fun b => dB b)).set i (dB true))) :: σ)
  rw [List.map_set] at h
  exact h
end
theorem fE_zeroG {f : Nat → Nat} : ∀ {m i : Nat}, fE f m i = 0 → ∀ k, i ≤ k → k < i + m → f k = 0
  | 0, i, _, k, h1, h2 => by omega
  | m + 1, i, h, k, h1, h2 => by
    rw [fE] at h
    split at h
    · rename_i h0
      rcases Nat.eq_or_lt_of_le h1 with e | e
      · subst e; exact h0
      · exact fE_zeroG h k (by omega) (by omega)
    · rename_i h0
      exact absurd h h0
theorem inB_iff {i : Int} {n : Nat} (h : inB i n = true) : 0 ≤ i ∧ i < n := of_decide_eq_true h
/-- What a linkage without errors is. -/
theorem chk_in {l : Lkg} (h : chk l = 0) : LkIn l ∧ l.bodies.length ≤ 8 ∧ l.joints.length ≤ 16 ∧ l.drivers.length ≤ 2 := by
  unfold chk at h
  split at h
  · cases h
  split at h
  · cases h
  rename_i h2
  split at h
  · cases h
  rename_i h3
  split at h
  · rename_i h4; exact absurd h h4
  split at h
  · rename_i h5; exact absurd h h5
  rename_i h5
  have h5 : jointsE l.bodies l.joints = 0 := Decidable.not_not.1 h5
  unfold jointsE at h5
  split at h5
  · cases h5
  rename_i h6
  unfold driversE at h
  split at h
  · cases h
  rename_i h7
  have hb : 0 < l.bodies.length := List.length_pos_iff.2 h2
  refine ⟨⟨hb, by omega, by omega, by omega, fun i hi => ?_, fun i hi => ?_⟩, by omega, by omega, by omega⟩
  · have := fE_zeroG h5 i (Nat.zero_le _) (by omega)
    unfold jointE at this
    split at this
    · cases this
    split at this
    · cases this
    unfold jE at this
    split at this
    · cases this
    split at this
    · cases this
    rename_i h8
    have h8 : (inB (l.joints.getD i default).a l.bodies.length && inB (l.joints.getD i default).b l.bodies.length) = true := by
      cases hv : (inB (l.joints.getD i default).a l.bodies.length && inB (l.joints.getD i default).b l.bodies.length)
      · exact absurd hv h8
      · rfl
    rw [Bool.and_eq_true] at h8
    have e1 := inB_iff h8.1
    have e2 := inB_iff h8.2
    exact ⟨e1.1, e1.2, e2.1, e2.2⟩
  · have := fE_zeroG h i (Nat.zero_le _) (by omega)
    unfold driverE at this
    split at this
    · cases this
    split at this
    · cases this
    split at this
    · cases this
    rename_i h8
    exact inB_iff (by
      cases hv : inB (l.drivers.getD i default).body l.bodies.length
      · exact absurd hv h8
      · rfl)
abbrev GrpsD (gs : List Grp) : D := .sl 4 (gs.map Grp.D)
def findD (l : Lkg) : D := if chk l = 0 then .tu [.pr (FinC l (findF l).kn (drvB l) (findF l).us (GrpsD (findF l).gs)), nilE] else .tu [.v (.pointer none), erV (chk l)]
abbrev FinV (l : Lkg) (V1 V2 V3 V7 : Value) : List D := [dS l.nm, BodiesD l.bodies, JointsD l.joints, DriversD l.drivers, .v V1, .v V2, .v V3, .v V7]
abbrev bRow (V : Value) (l : List Bool) : LR := (V, .ow 4 (l.map (fun b => dB b)))
abbrev gRow (V : Value) (gs : List Grp) : LR := (V, .ow 53 (gs.map Grp.D))
abbrev iRow (V : Value) (l : List Int) : LR := (V, .ow 3 (IsL l))
theorem plain_isl (l : List Int) : plainL (IsL l) = true := by
  unfold plainL
  rw [List.all_eq_true]
  intro d hd
  unfold flatAll at hd
  obtain ⟨x, hx, hd⟩ := List.mem_flatMap.1 hd
  obtain ⟨z, _, rfl⟩ := List.mem_map.1 hx
  cases List.mem_singleton.1 hd
  rfl
theorem grp_back {o : Option Grp} (res : D) (R1 : List LR) (h : grpPost o res R1) : BackOk res R1 := by
  cases o with
  | none =>
    obtain ⟨rfl, rfl⟩ := h
    exact ⟨rfl, fun r hr => by cases hr⟩
  | some g =>
    obtain ⟨Vb, Vj, rfl, rfl⟩ := h
    refine ⟨rfl, fun r hr => ?_⟩
    rcases List.mem_cons.1 hr with rfl | hr
    · exact ⟨_, _, rfl, plain_isl _⟩
    · cases List.mem_singleton.1 hr
      exact ⟨_, _, rfl, plain_isl _⟩
theorem getIs {l : List Int} {i : Nat} (h : i < l.length) : (l.map (fun n => dI n))[i]? = some (dI (l.getD i 0)) := by simp [h]
theorem getMem {l : List Int} {i : Nat} (h : i < l.length) : l.getD i 0 ∈ l := by
  rw [List.getD_eq_getElem?_getD, List.getElem?_eq_getElem h]
  exact List.getElem_mem h
/-- A round's state: what is known, what is used, the groups, the next group. -/
structure FL where
  kn : List Bool
  us : List Bool
  gs : List Grp
  o : Option Grp
  V7 : Value
  Vb : Value
  Vj : Value
def flR (l : Lkg) (V1 V2 V3 : Value) (s : FL) : List LR := match s.o with
  | some g => [bRow V1 s.kn, bRow V2 (drvB l), bRow V3 s.us, gRow s.V7 s.gs, iRow s.Vb g.bs, iRow s.Vj g.js]
  | none => [bRow V1 s.kn, bRow V2 (drvB l), bRow V3 s.us, gRow s.V7 s.gs]
def flB (s : FL) : List D := match s.o with
  | some g => [dI g.kind, .v s.Vb, .v s.Vj, dI g.dr]
  | none => [dI 0, .v nilS, .v nilS, dI 0]
def flS (l : Lkg) (V1 V2 V3 : Value) (s : FL) : St := [(5, .pt 33 0), (8, .bx (flB s)), (9, .d (dB s.o.isSome)), (33, .bx (FinV l V1 V2 V3 s.V7))]
structure FInv (l : Lkg) (s : FL) : Prop where
  k : s.kn.length = l.bodies.length
  u : s.us.length = l.joints.length
  g : s.gs.length + cF s.kn ≤ l.bodies.length
  o : s.o = nxtG l s.kn (drvB l)
  f : fgo l (drvB l) (cF s.kn) ⟨s.kn, s.us, s.gs⟩ = findF l
theorem FInv.step {l : Lkg} (hl : LkIn l) {s : FL} {g : Grp} (h : FInv l s) (hg : s.o = some g) (V7 Vb Vj : Value) : FInv l ⟨setTs s.kn g.bs, setTs s.us g.js, s.gs ++ [g], nxtG l (setTs s.kn g.bs) (drvB l), V7, Vb, Vj⟩ ∧ cF (setTs s.kn g.bs) < cF s.kn := by
  have hn := h.o.symm.trans hg
  have hlt := fgo_step hl (s := ⟨s.kn, s.us, s.gs⟩) h.k hn
  have hlt : cF (setTs s.kn g.bs) < cF s.kn := hlt
  have h3 := h.g
  refine ⟨⟨by rw [setTs_length]; exact h.k, by rw [setTs_length]; exact h.u, by show (s.gs ++ [g]).length + cF (setTs s.kn g.bs) ≤ _; rw [List.length_append]; show s.gs.length + 1 + _ ≤ _; omega, rfl, ?_⟩, hlt⟩
  rw [← h.f]
  obtain ⟨m, hm⟩ : ∃ m, cF s.kn = m + 1 := ⟨cF s.kn - 1, by omega⟩
  rw [hm]
  show _ = fgo l (drvB l) (m + 1) ⟨s.kn, s.us, s.gs⟩
  rw [fgo]
  simp only [hn]
  exact fgo_more hl _ _ _ (by show (setTs s.kn g.bs).length = _; rw [setTs_length]; exact h.k) (Nat.le_refl _) (by show cF (setTs s.kn g.bs) ≤ m; omega)
theorem fin_th (l : Lkg) (V1 V2 V3 V7 : Value) (kn dr us : List Bool) (R' : List LR) : Th tys (bRow V1 kn :: bRow V2 dr :: bRow V3 us :: R') (FinV l V1 V2 V3 V7) (FinC l kn dr us (.v V7)) := by
  have h0 : Th tys (bRow V1 kn :: bRow V2 dr :: bRow V3 us :: R') (FinV l V1 V2 V3 V7) (FinV l V1 V2 V3 V7) := Th.refl
  have h1 := h0.set 4 0 (V := V1) (e := 4) (xs := kn.map (fun b => dB b)) rfl rfl rfl
  have h2 := h1.set 5 1 (V := V2) (e := 4) (xs := dr.map (fun b => dB b)) rfl rfl rfl
  have h3 := h2.set 6 2 (V := V3) (e := 4) (xs := us.map (fun b => dB b)) rfl rfl rfl
  exact h3
theorem grp_res {l : Lkg} {V1 V2 V3 V7 : Value} {kn us : List Bool} {gs : List Grp} {res : D} {R1 : List LR} (h : grpPost (nxtG l kn (drvB l)) res R1) : ∃ (k d : Int) (a b : Value), res = .tu [.ag [dI k, .v a, .v b, dI d], dB (nxtG l kn (drvB l)).isSome] ∧
    (bRow V1 kn :: bRow V2 (drvB l) :: bRow V3 us :: gRow V7 gs :: R1, [(5, AV.pt 33 0), (8, .bx [dI k, .v a, .v b, dI d]), (9, .d (dB (nxtG l kn (drvB l)).isSome)), (33, .bx (FinV l V1 V2 V3 V7))]) = (flR l V1 V2 V3 ⟨kn, us, gs, nxtG l kn (drvB l), V7, a, b⟩, flS l V1 V2 V3 ⟨kn, us, gs, nxtG l kn (drvB l), V7, a, b⟩) := by
  cases hn : nxtG l kn (drvB l) with
  | none => rw [hn] at h; obtain ⟨rfl, rfl⟩ := h; exact ⟨0, 0, nilS, nilS, rfl, rfl⟩
  | some g => rw [hn] at h; obtain ⟨Vb, Vj, rfl, rfl⟩ := h; exact ⟨g.kind, g.dr, Vb, Vj, rfl, rfl⟩
set_option maxHeartbeats 3200000 in
theorem groups_find_ok (l : Lkg) {K : Nat} (hl : l.ok K) (hK : K ≤ 20000000) : Pure Try.prog 19 [l.D] (findD l) := by
  refine Pure.intro (n := 105) tok Try.func19 rfl rfl rfl (Nat.le_of_ble_eq_true rfl) (by kernel_rfl) (fun B F0 w0 => ?_)
  have c := model_Check_ok l hl hK
  have hin := fun h => chk_in (l := l) h
  unfold findD
  generalize chk l = E at c hin ⊢
  refine AW.seq ?_
  refine AW.region ?_
  refine AOps.run tok 3 _ _ _ _ rfl ?_
  refine AOps.nil ?_
  refine AW.seq ?_
  refine AW.seq ?_
  refine AW.region ?_
  refine AOps.run tok 1 _ _ _ _ rfl ?_
  refine AOps.call tok rfl rfl rfl rfl c ?_
  refine AOps.run tok 1 _ _ _ _ rfl ?_
  refine AOps.nil ?_
  refine AW.seq ?_
  refine AW.region ?_
  refine AOps.run tok 1 _ _ _ _ rfl ?_
  rcases E with _ | m
  rotate_left
  · refine AOps.err tok rfl rfl rfl rfl rfl ?_
    refine AOps.nil ?_
    refine AW.condT rfl ?_
    refine AW.seq ?_
    refine AW.region ?_
    refine AOps.run tok 3 _ _ _ _ rfl ?_
    refine AOps.nil ?_
    rw [if_neg (Nat.succ_ne_zero m)]
    exact AW.ret rfl
  refine AOps.err tok rfl rfl rfl rfl rfl ?_
  refine AOps.nil ?_
  refine AW.condF rfl ?_
  refine AW.skip ?_
  rw [if_pos rfl]
  obtain ⟨hL, hb8, hj16, hd2⟩ := hin rfl
  have hnx : ∀ (kn us : List Bool) (g : D), kn.length = l.bodies.length → CallZ Try.prog 30 [.pr (FinC l kn (drvB l) us g)] [] (grpPost (nxtG l kn (drvB l))) := fun kn us g hk => fin_next_ok l hL kn (drvB l) us g hk (by unfold drvB; rw [setTs_length, List.length_replicate])
  refine AZ.aw ?_
  refine AZ.seq ?_
  refine AZ.any hmix (ZAny.draw 13 (by kernel_rfl) (fun B1 F1 w1 => ?_))
  refine APre.run tok 4 _ _ _ _ rfl ?_
  rw [List.length_map]
  refine APre.make tok rfl rfl rfl rfl rfl rfl (Int.natCast_nonneg _) (by show (1 : Int) * _ ≤ _; omega) (by omega) ?_
  refine APre.run tok 3 _ _ _ _ rfl ?_
  rw [List.length_map]
  refine APre.make tok rfl rfl rfl rfl rfl rfl (Int.natCast_nonneg _) (by show (1 : Int) * _ ≤ _; omega) (by omega) ?_
  refine APre.run tok 3 _ _ _ _ rfl ?_
  rw [List.length_map]
  refine APre.make tok rfl rfl rfl rfl rfl rfl (Int.natCast_nonneg _) (by show (1 : Int) * _ ≤ _; omega) (by omega) ?_
  refine APre.nil ⟨rfl, ?_⟩
  refine AZOps.loosen 23 rfl rfl rfl (fun V1 => ?_)
  refine AZOps.loosen 27 rfl rfl rfl (fun V2 => ?_)
  refine AZOps.loosen 31 rfl rfl rfl (fun V3 => ?_)
  refine AZOps.cut 3 rfl (fun B1 F1 w1 => ?_)
  refine AOps.bldn tok [.v (.string ByteArray.empty), .v nilS, .v nilS, .v nilS, .v nilS, .v nilS, .v nilS, .v nilS] rfl rfl rfl rfl (by kernel_rfl) ?_
  refine AOps.run tok 1 _ _ _ _ rfl ?_
  refine AOps.asgp tok rfl rfl rfl rfl ?_
  refine AOps.nil ⟨rfl, ?_⟩
  refine AZOps.nil ?_
  refine AZ.to [1, 5, 33] [(1, .bx l.D.flat), (5, .pt 33 0), (33, .bx (FinV l V1 V2 V3 nilS))] rfl ?_
  refine AZ.nilRow 53 ?_
  refine AZ.convR (R' := [bRow V1 (List.replicate l.bodies.length false), bRow V2 (List.replicate l.bodies.length false), bRow V3 (List.replicate l.joints.length false), gRow nilS []]) (by simp only [bRow, gRow, List.map_replicate, Int.toNat_natCast]; rfl) ?_
  have hb1 := hL.b1
  refine AZ.seq ?_
  refine AZ.region ?_
  refine AZOps.cut 4 rfl (fun B1 F1 w1 => ?_)
  refine AOps.run tok 1 _ _ _ _ rfl ?_
  refine AOps.nchk tok rfl rfl rfl rfl rfl ?_
  refine AOps.run tok 2 _ _ _ _ rfl ?_
  refine AOps.nil ⟨rfl, ?_⟩
  refine AZOps.adopt 37 0 rfl rfl rfl ?_
  refine AZOps.cut 2 rfl (fun B1 F1 w1 => ?_)
  refine AOps.idxo tok rfl rfl rfl rfl (Int.le_refl 0) (by rw [List.length_map, List.length_replicate]; exact hb1) ?_
  refine AOps.storeT tok rfl rfl rfl (by rw [List.length_replicate]; exact hb1) ?_
  refine AOps.nil ⟨rfl, ?_⟩
  refine AZOps.back 37 0 rfl rfl rfl (List.Mem.head _) rfl ?_
  refine AZOps.nil ?_
  obtain ⟨kn0, hk0⟩ : ∃ k, k = (List.replicate l.bodies.length false).set 0 true := ⟨_, rfl⟩
  refine AZ.convR (R' := [bRow V1 kn0, bRow V2 (List.replicate l.bodies.length false), bRow V3 (List.replicate l.joints.length false), gRow nilS []]) (by rw [hk0]; rfl) ?_
  refine AZ.to [1, 5, 33] [(1, .bx l.D.flat), (5, .pt 33 0), (33, .bx (FinV l V1 V2 V3 nilS))] rfl ?_
  refine AZ.seq ?_
  refine AZ.seq ?_
  refine AZ.reg (fun B1 F1 w1 => ?_)
  refine AOps.run tok 3 _ _ _ _ rfl ?_
  rw [List.length_map]
  refine AOps.run tok 1 _ _ _ _ rfl ?_
  refine AOps.nil ⟨rfl, ?_⟩
  refine AZ.block ?_
  refine AZ.loopS [5, 33, 40, 41, 42] (fun i : Nat => ([bRow V1 kn0, bRow V2 (setTs (List.replicate l.bodies.length false) ((l.drivers.map Driver.body).take i)), bRow V3 (List.replicate l.joints.length false), gRow nilS []], [(5, .pt 33 0), (33, .bx (FinV l V1 V2 V3 nilS)), (40, .d (DriversD l.drivers)), (41, .d (dI l.drivers.length)), (42, .d (dI i))])) (fun i => i ≤ l.drivers.length) (fun i => l.drivers.length - i) 0 rfl (Nat.zero_le _) (fun i hi => ?_)
  refine AZ.seq ?_
  refine AZ.reg (fun B1 F1 w1 => ?_)
  refine AOps.run tok 1 _ _ _ _ rfl ?_
  refine AOps.nil ⟨rfl, ?_⟩
  refine AZ.seq ?_
  refine AZ.cond rfl (fun h => ?_) (fun h => ?_)
  · have hin : i < l.drivers.length := by have := of_decide_eq_true h; omega
    have hdi := hL.d i hin
    have hid := getDr hin
    have hts := setTs_take (l := List.replicate l.bodies.length false) (is := l.drivers.map Driver.body) (i := i) (by rw [List.length_map]; exact hin)
    have hgd : (l.drivers.map Driver.body).getD i 0 = (l.drivers.getD i default).body := by simp [List.getD_eq_getElem?_getD, hin]
    rw [hgd] at hts
    generalize l.drivers.getD i default = x at hdi hid hts
    refine AZ.skip ?_
    refine AZ.seq ?_
    refine AZ.block ?_
    refine AZ.seq ?_
    refine AZ.reg (fun B1 F1 w1 => ?_)
    refine AOps.idx tok x.D rfl rfl rfl rfl (Int.natCast_nonneg i) hid ?_
    refine AOps.run tok 3 _ _ _ _ rfl ?_
    refine AOps.nil ⟨rfl, ?_⟩
    refine AZ.any hmix (ZAny.draw 6 (by kernel_rfl) (fun B1 F1 w1 => ?_))
    refine APre.run tok 1 _ _ _ _ rfl ?_
    refine APre.nchp tok rfl rfl rfl rfl rfl rfl ?_
    refine APre.run tok 4 _ _ _ _ rfl ?_
    refine APre.nil ⟨rfl, ?_⟩
    refine AZOps.adopt 49 1 rfl rfl rfl ?_
    refine AZOps.cut 2 rfl (fun B1 F1 w1 => ?_)
    refine AOps.idxo tok rfl rfl rfl rfl hdi.1 (by rw [List.length_map, setTs_length, List.length_replicate]; omega) ?_
    refine AOps.storeT tok rfl rfl rfl (by rw [setTs_length, List.length_replicate]; omega) ?_
    refine AOps.nil ⟨rfl, ?_⟩
    refine AZOps.back 49 1 rfl rfl rfl (List.Mem.head _) rfl ?_
    refine AZOps.nil ?_
    refine AZ.reg (fun B1 F1 w1 => ?_)
    refine AOps.run tok 1 _ _ _ _ rfl ?_
    rw [wI64 (x := (i : Int) + 1) (by omega) (by omega)]
    refine AOps.run tok 1 _ _ _ _ rfl ?_
    refine AOps.nil ⟨rfl, ?_⟩
    exact ⟨i + 1, by rw [← hts]; rfl, hin, by omega⟩
  have hid : i = l.drivers.length := by have := of_decide_eq_false h; omega
  subst hid
  refine AZ.exit ?_
  refine AZ.convR (R' := [bRow V1 kn0, bRow V2 (drvB l), bRow V3 (List.replicate l.joints.length false), gRow nilS []]) (by unfold drvB; rw [List.take_of_length_le (by rw [List.length_map]; exact Nat.le_refl _)]) ?_
  refine AZ.to [5, 33] [(5, .pt 33 0), (33, .bx (FinV l V1 V2 V3 nilS))] rfl ?_
  have hkl0 : kn0.length = l.bodies.length := by rw [hk0, List.length_set, List.length_replicate]
  refine AZ.seq ?_
  refine AZ.seq ?_
  refine AZ.region ?_
  refine AZOps.cut 1 rfl (fun B1 F1 w1 => ?_)
  refine AOps.run tok 1 _ _ _ _ rfl ?_
  refine AOps.nil ⟨rfl, ?_⟩
  refine AZOps.callb tok rfl rfl rfl ⟨_, rfl⟩ rfl rfl (fin_th l V1 V2 V3 nilS kn0 (drvB l) (List.replicate l.joints.length false) _) rfl (hnx kn0 _ (.v nilS) hkl0) grp_back (fun res R1 hP => ?_)
  have hI0 : ∀ Vb Vj, FInv l ⟨kn0, List.replicate l.joints.length false, [], nxtG l kn0 (drvB l), nilS, Vb, Vj⟩ := fun Vb Vj => ⟨hkl0, List.length_replicate, by
    show 0 + cF kn0 ≤ _
    have := cF_le kn0
    omega, rfl, by
    unfold findF
    rw [← hk0]
    have := cF_le kn0
    exact fgo_more hL _ _ _ hkl0 (Nat.le_refl _) (by show cF kn0 ≤ _; omega)⟩
  obtain ⟨k0, d0, Vb0, Vj0, rfl, hR0⟩ := grp_res (V1 := V1) (V2 := V2) (V3 := V3) (V7 := nilS) (us := List.replicate l.joints.length false) (gs := []) hP
  refine AZOps.cut 6 rfl (fun B1 F1 w1 => ?_)
  refine AOps.run tok 6 _ _ _ _ rfl ?_
  refine AOps.nil ⟨rfl, ?_⟩
  refine AZOps.nil ?_
  refine AZ.block ?_
  refine AZ.loopS [5, 8, 9, 33] (fun s : FL => (flR l V1 V2 V3 s, flS l V1 V2 V3 s)) (FInv l) (fun s => cF s.kn) _ hR0 (hI0 Vb0 Vj0) (fun s hI => ?_)
  obtain ⟨kn, us, gs, o, V7, Vb, Vj⟩ := s
  have hkl : kn.length = l.bodies.length := hI.k
  have hul : us.length = l.joints.length := hI.u
  have hgl : gs.length + cF kn ≤ l.bodies.length := hI.g
  have hno : o = nxtG l kn (drvB l) := hI.o
  refine AZ.seq ?_
  refine AZ.seq ?_
  rcases o with _ | g
  · show AZ _ _ _ _ _ _ _ [bRow V1 kn, bRow V2 (drvB l), bRow V3 us, gRow V7 gs] [(5, .pt 33 0), (8, .bx [dI 0, .v nilS, .v nilS, dI 0]), (9, .d (dB false)), (33, .bx (FinV l V1 V2 V3 V7))]
    refine AZ.reg (fun B1 F1 w1 => ?_)
    refine AOps.run tok 1 _ _ _ _ rfl ?_
    refine AOps.nil ⟨rfl, ?_⟩
    refine AZ.condF rfl ?_
    refine AZ.exit ?_
    refine AZ.frzc tok 33 4 0 rfl rfl rfl rfl ?_
    refine AZ.frzc tok 33 5 1 rfl rfl rfl rfl ?_
    refine AZ.frzc tok 33 6 2 rfl rfl rfl rfl ?_
    refine AZ.frzc tok 33 7 3 rfl rfl rfl rfl ?_
    refine AZ.to [5, 33] [(5, .pt 33 0), (33, .bx (FinC l kn (drvB l) us (GrpsD gs)))] rfl ?_
    refine AZ.seq ?_
    refine AZ.reg (fun B1 F1 w1 => ?_)
    refine AOps.frzp 5 33 rfl rfl ?_
    refine AOps.run tok 3 _ _ _ _ rfl ?_
    refine AOps.nil ⟨rfl, ?_⟩
    have hF := hI.f
    rw [fgo_end hno.symm] at hF
    rw [← hF]
    exact AZ.ret rfl
  have hbnd := nxtG_in hL hno.symm
  obtain ⟨hln1, hln2⟩ := nxtG_len hno.symm
  have hlt := fgo_step hL (s := ⟨kn, us, gs⟩) hkl hno.symm
  have hlt : cF (setTs kn g.bs) < cF kn := hlt
  show AZ _ _ _ _ _ _ _ [bRow V1 kn, bRow V2 (drvB l), bRow V3 us, gRow V7 gs, iRow Vb g.bs, iRow Vj g.js] [(5, .pt 33 0), (8, .bx [dI g.kind, .v Vb, .v Vj, dI g.dr]), (9, .d (dB true)), (33, .bx (FinV l V1 V2 V3 V7))]
  refine AZ.reg (fun B1 F1 w1 => ?_)
  refine AOps.run tok 1 _ _ _ _ rfl ?_
  refine AOps.nil ⟨rfl, ?_⟩
  refine AZ.condT rfl ?_
  refine AZ.skip ?_
  refine AZ.frzc tok 8 1 4 rfl rfl rfl rfl ?_
  refine AZ.frzc tok 8 2 5 rfl rfl rfl rfl ?_
  refine AZ.dropR [bRow V1 kn, bRow V2 (drvB l), bRow V3 us, gRow V7 gs] (fun i r hr => .inl (by
    have hi : i < 4 := (List.getElem?_eq_some_iff.1 hr).1
    rcases i with _ | _ | _ | _ | i
    · exact hr
    · exact hr
    · exact hr
    · exact hr
    · omega)) ?_
  refine AZ.to [5, 8, 33] [(5, .pt 33 0), (8, .bx [dI g.kind, IsDG g.bs, IsDG g.js, dI g.dr]), (33, .bx (FinV l V1 V2 V3 V7))] rfl ?_
  refine AZ.seq ?_
  refine AZ.block ?_
  refine AZ.seq ?_
  refine AZ.seq ?_
  refine AZ.reg (fun B1 F1 w1 => ?_)
  refine AOps.run tok 3 _ _ _ _ rfl ?_
  rw [List.length_map]
  refine AOps.run tok 1 _ _ _ _ rfl ?_
  refine AOps.nil ⟨rfl, ?_⟩
  refine AZ.block ?_
  refine AZ.loopS [5, 8, 33, 66, 67, 68] (fun i : Nat => ([bRow V1 (setTs kn (g.bs.take i)), bRow V2 (drvB l), bRow V3 us, gRow V7 gs], [(5, .pt 33 0), (8, .bx [dI g.kind, IsDG g.bs, IsDG g.js, dI g.dr]), (33, .bx (FinV l V1 V2 V3 V7)), (66, .d (IsDG g.bs)), (67, .d (dI g.bs.length)), (68, .d (dI i))])) (fun i => i ≤ g.bs.length) (fun i => g.bs.length - i) 0 rfl (Nat.zero_le _) (fun i hi => ?_)
  refine AZ.seq ?_
  refine AZ.reg (fun B1 F1 w1 => ?_)
  refine AOps.run tok 1 _ _ _ _ rfl ?_
  refine AOps.nil ⟨rfl, ?_⟩
  refine AZ.seq ?_
  refine AZ.cond rfl (fun h => ?_) (fun h => ?_)
  · have hin : i < g.bs.length := by have := of_decide_eq_true h; omega
    have hbi := hbnd.1 _ (getMem hin)
    have hts := setTs_take (l := kn) hin
    refine AZ.skip ?_
    refine AZ.seq ?_
    refine AZ.block ?_
    refine AZ.seq ?_
    refine AZ.reg (fun B1 F1 w1 => ?_)
    refine AOps.idx tok (dI (g.bs.getD i 0)) rfl rfl rfl rfl (Int.natCast_nonneg i) (getIs hin) ?_
    refine AOps.run tok 2 _ _ _ _ rfl ?_
    refine AOps.nil ⟨rfl, ?_⟩
    refine AZ.region ?_
    refine AZOps.cut 5 rfl (fun B1 F1 w1 => ?_)
    refine AOps.run tok 1 _ _ _ _ rfl ?_
    refine AOps.nchk tok rfl rfl rfl rfl rfl ?_
    refine AOps.run tok 3 _ _ _ _ rfl ?_
    refine AOps.nil ⟨rfl, ?_⟩
    refine AZOps.adopt 75 0 rfl rfl rfl ?_
    refine AZOps.cut 2 rfl (fun B1 F1 w1 => ?_)
    refine AOps.idxo tok rfl rfl rfl rfl hbi.1 (by rw [List.length_map, setTs_length]; omega) ?_
    refine AOps.storeT tok rfl rfl rfl (by rw [setTs_length]; omega) ?_
    refine AOps.nil ⟨rfl, ?_⟩
    refine AZOps.back 75 0 rfl rfl rfl (List.Mem.head _) rfl ?_
    refine AZOps.nil ?_
    refine AZ.reg (fun B1 F1 w1 => ?_)
    refine AOps.run tok 1 _ _ _ _ rfl ?_
    rw [wI64 (x := (i : Int) + 1) (by omega) (by omega)]
    refine AOps.run tok 1 _ _ _ _ rfl ?_
    refine AOps.nil ⟨rfl, ?_⟩
    exact ⟨i + 1, by rw [← hts]; rfl, hin, by omega⟩
  have hid : i = g.bs.length := by have := of_decide_eq_false h; omega
  subst hid
  refine AZ.exit ?_
  rw [List.take_of_length_le (Nat.le_refl _)]
  refine AZ.to [5, 8, 33] [(5, .pt 33 0), (8, .bx [dI g.kind, IsDG g.bs, IsDG g.js, dI g.dr]), (33, .bx (FinV l V1 V2 V3 V7))] rfl ?_
  refine AZ.seq ?_
  refine AZ.seq ?_
  refine AZ.reg (fun B1 F1 w1 => ?_)
  refine AOps.run tok 3 _ _ _ _ rfl ?_
  rw [List.length_map]
  refine AOps.run tok 1 _ _ _ _ rfl ?_
  refine AOps.nil ⟨rfl, ?_⟩
  refine AZ.block ?_
  refine AZ.loopS [5, 8, 33, 80, 81, 82] (fun i : Nat => ([bRow V1 (setTs kn g.bs), bRow V2 (drvB l), bRow V3 (setTs us (g.js.take i)), gRow V7 gs], [(5, .pt 33 0), (8, .bx [dI g.kind, IsDG g.bs, IsDG g.js, dI g.dr]), (33, .bx (FinV l V1 V2 V3 V7)), (80, .d (IsDG g.js)), (81, .d (dI g.js.length)), (82, .d (dI i))])) (fun i => i ≤ g.js.length) (fun i => g.js.length - i) 0 rfl (Nat.zero_le _) (fun i hi => ?_)
  refine AZ.seq ?_
  refine AZ.reg (fun B1 F1 w1 => ?_)
  refine AOps.run tok 1 _ _ _ _ rfl ?_
  refine AOps.nil ⟨rfl, ?_⟩
  refine AZ.seq ?_
  refine AZ.cond rfl (fun h => ?_) (fun h => ?_)
  · have hin : i < g.js.length := by have := of_decide_eq_true h; omega
    have hbi := hbnd.2.1 _ (getMem hin)
    have hts := setTs_take (l := us) hin
    refine AZ.skip ?_
    refine AZ.seq ?_
    refine AZ.block ?_
    refine AZ.seq ?_
    refine AZ.reg (fun B1 F1 w1 => ?_)
    refine AOps.idx tok (dI (g.js.getD i 0)) rfl rfl rfl rfl (Int.natCast_nonneg i) (getIs hin) ?_
    refine AOps.run tok 2 _ _ _ _ rfl ?_
    refine AOps.nil ⟨rfl, ?_⟩
    refine AZ.region ?_
    refine AZOps.cut 5 rfl (fun B1 F1 w1 => ?_)
    refine AOps.run tok 1 _ _ _ _ rfl ?_
    refine AOps.nchk tok rfl rfl rfl rfl rfl ?_
    refine AOps.run tok 3 _ _ _ _ rfl ?_
    refine AOps.nil ⟨rfl, ?_⟩
    refine AZOps.adopt 89 2 rfl rfl rfl ?_
    refine AZOps.cut 2 rfl (fun B1 F1 w1 => ?_)
    refine AOps.idxo tok rfl rfl rfl rfl hbi.1 (by rw [List.length_map, setTs_length]; omega) ?_
    refine AOps.storeT tok rfl rfl rfl (by rw [setTs_length]; omega) ?_
    refine AOps.nil ⟨rfl, ?_⟩
    refine AZOps.back 89 2 rfl rfl rfl (List.Mem.head _) rfl ?_
    refine AZOps.nil ?_
    refine AZ.reg (fun B1 F1 w1 => ?_)
    refine AOps.run tok 1 _ _ _ _ rfl ?_
    rw [wI64 (x := (i : Int) + 1) (by omega) (by omega)]
    refine AOps.run tok 1 _ _ _ _ rfl ?_
    refine AOps.nil ⟨rfl, ?_⟩
    exact ⟨i + 1, by rw [← hts]; rfl, hin, by omega⟩
  have hid : i = g.js.length := by have := of_decide_eq_false h; omega
  subst hid
  refine AZ.exit ?_
  rw [List.take_of_length_le (Nat.le_refl _)]
  refine AZ.to [5, 8, 33] [(5, .pt 33 0), (8, .bx [dI g.kind, IsDG g.bs, IsDG g.js, dI g.dr]), (33, .bx (FinV l V1 V2 V3 V7))] rfl ?_
  refine AZ.any hmix (ZAny.earlyM 0 (by kernel_rfl) rfl rfl (fun _ _ _ h => h) (fun _ _ h => h) (ZAny.draw 7 (by kernel_rfl) (fun B1 F1 w1 => ?_)))
  refine APre.run tok 2 _ _ _ _ rfl ?_
  refine APre.nchp tok rfl rfl rfl rfl rfl rfl ?_
  refine APre.run tok 3 _ _ _ _ rfl ?_
  refine APre.bsd tok rfl rfl rfl rfl rfl rfl ?_
  refine APre.nil ⟨rfl, ?_⟩
  refine AZOps.adopt 97 3 rfl rfl rfl ?_
  refine AZOps.cut 1 rfl (fun B1 F1 w1 => ?_)
  refine AOps.appo tok rfl rfl rfl rfl rfl rfl (by show ((gs.map Grp.D).length + 1) * 64 ≤ _; rw [List.length_map]; omega) (by show (gs.map Grp.D).length + 1 ≤ _; rw [List.length_map]; omega) ?_
  refine AOps.nil ⟨rfl, ?_⟩
  refine AZOps.loosen 100 rfl rfl rfl (fun V7' => ?_)
  refine AZOps.cut 3 rfl (fun B1 F1 w1 => ?_)
  refine AOps.nchk tok rfl rfl rfl rfl rfl ?_
  refine AOps.run tok 2 _ _ _ _ rfl ?_
  refine AOps.nil ⟨rfl, ?_⟩
  refine AZOps.nil ?_
  refine AZ.swapR 3 4 rfl rfl ?_
  refine AZ.dropR [bRow V1 (setTs kn g.bs), bRow V2 (drvB l), bRow V3 (setTs us g.js), gRow V7' (gs ++ [g])] (fun i r hr => .inl (by
    have hi : i < 4 := (List.getElem?_eq_some_iff.1 hr).1
    rcases i with _ | _ | _ | _ | i
    · exact hr
    · exact hr
    · exact hr
    · rw [show gRow V7' (gs ++ [g]) = (V7', AV.ow 53 (gs.map Grp.D ++ [g.D])) by unfold gRow; rw [List.map_append]; rfl] at hr
      exact hr
    · omega)) ?_
  refine AZ.to [5, 8, 33] [(5, .pt 33 0), (8, .bx [dI g.kind, IsDG g.bs, IsDG g.js, dI g.dr]), (33, .bx (FinV l V1 V2 V3 V7'))] rfl ?_
  refine AZ.seq ?_
  refine AZ.seq ?_
  refine AZ.reg (fun B1 F1 w1 => ?_)
  refine AOps.run tok 1 _ _ _ _ rfl ?_
  refine AOps.nil ⟨rfl, ?_⟩
  refine AZ.reg (fun B1 F1 w1 => ?_)
  refine AOps.run tok 2 _ _ _ _ rfl ?_
  refine AOps.nil ⟨rfl, ?_⟩
  refine AZ.to [5, 8, 33] [(5, .pt 33 0), (8, .bx [dI g.kind, IsDG g.bs, IsDG g.js, dI g.dr]), (33, .bx (FinV l V1 V2 V3 V7'))] rfl ?_
  have hkl' : (setTs kn g.bs).length = l.bodies.length := by rw [setTs_length]; exact hkl
  refine AZ.region ?_
  refine AZOps.cut 1 rfl (fun B1 F1 w1 => ?_)
  refine AOps.run tok 1 _ _ _ _ rfl ?_
  refine AOps.nil ⟨rfl, ?_⟩
  refine AZOps.callb tok rfl rfl rfl ⟨_, rfl⟩ rfl rfl (fin_th l V1 V2 V3 V7' (setTs kn g.bs) (drvB l) (setTs us g.js) _) rfl (hnx _ _ (.v V7') hkl') grp_back (fun res R1 hP => ?_)
  obtain ⟨k0, d0, Vb0, Vj0, rfl, hR0⟩ := grp_res (V1 := V1) (V2 := V2) (V3 := V3) (V7 := V7') (us := setTs us g.js) (gs := gs ++ [g]) hP
  refine AZOps.cut 5 rfl (fun B1 F1 w1 => ?_)
  refine AOps.run tok 5 _ _ _ _ rfl ?_
  refine AOps.nil ⟨rfl, ?_⟩
  refine AZOps.nil ?_
  have hst := FInv.step hL hI rfl V7' Vb0 Vj0
  exact ⟨_, hR0, hst.1, hst.2⟩
end Lift
/- Groups: a bool in a list; what is missing; Rest. -/
namespace Lift
open Go Go.Proofs

theorem eqTT {b : Bool} (h : (b == true) = true) : b = true := by cases b <;> simp_all
theorem eqTF {b : Bool} (h : (b == true) = false) : b = false := by cases b <;> simp_all
theorem slices_IndexB_ok (bs : List Bool) (hl : bs.length ≤ 1000) (x : Bool) : Pure Try.prog 31 [BsD bs, dB x] (dI (fIx (fun i => x == bs.getD i false) bs.length 0)) := by
  refine Pure.intro (n := 19) tok Try.func31 rfl rfl rfl (Nat.le_of_ble_eq_true rfl) (by kernel_rfl) (fun B F0 w0 => ?_)
  generalize hE : fIx (fun i => x == bs.getD i false) bs.length 0 = E
  refine AW.seq ?_
  refine AW.region ?_   -- "slices.go:96"
  refine AOps.run tok 1 _ _ _ _ rfl ?_
  refine AOps.nil ?_
  refine AW.seq ?_
  refine AW.seq ?_
  refine AW.region ?_   -- "slices.go:97"
  refine AOps.run tok 3 _ _ _ _ rfl ?_
  rw [List.length_map]
  refine AOps.nil ?_
  refine AW.block ?_   -- block 0
  refine AW.loopS [0, 1, 7, 8] (fun i : Nat => [(0, .d (BsD bs)), (1, .d (dB x)), (7, .d (dI bs.length)), (8, .d (dI i))]) (fun i => i ≤ bs.length ∧ fIx (fun i => x == bs.getD i false) (bs.length - i) i = E) (fun i => bs.length - i) 0 rfl ⟨Nat.zero_le _, hE⟩ (fun i hi => ?_)
  obtain ⟨hi, hE⟩ := hi
  · skip
    refine AW.seq ?_
    refine AW.region ?_   -- "slices.go:97"
    refine AOps.run tok 1 _ _ _ _ rfl ?_
    refine AOps.nil ?_
    refine AW.seq ?_
    refine AW.cond rfl (fun h => ?_) (fun h => ?_)
    · have hin : i < bs.length := by have := of_decide_eq_true h; omega
      have hhit := fIx_hit (g := fun i => x == bs.getD i false) hin
      have hmiss := fIx_miss (g := fun i => x == bs.getD i false) hin
      refine AW.skip ?_
      refine AW.seq ?_
      refine AW.block ?_   -- block 1
      refine AW.seq ?_
      refine AW.region ?_   -- "slices.go:97"
      refine AOps.run tok 2 _ _ _ _ rfl ?_
      refine AOps.nil ?_
      refine AW.seq ?_
      refine AW.region ?_   -- "slices.go:98"
      refine AOps.run tok 3 _ _ _ _ rfl ?_
      refine AOps.idx tok (dB (bs.getD i false)) rfl rfl rfl rfl (Int.natCast_nonneg i) (getBs hin) ?_
      refine AOps.run tok 1 _ _ _ _ rfl ?_
      refine AOps.be tok rfl rfl rfl rfl ?_
      refine AOps.nil ?_
      refine AW.cond rfl (fun h => ?_) (fun h => ?_)
      · rw [← hE, hhit (eqTT h)]
        refine AW.seq ?_
        refine AW.region ?_   -- "slices.go:99"
        refine AOps.run tok 2 _ _ _ _ rfl ?_
        refine AOps.nil ?_
        exact AW.ret rfl
      · skip
        refine AW.skip ?_
        refine AW.region ?_   -- "slices.go:97"
        refine AOps.run tok 1 _ _ _ _ rfl ?_
        rw [wI64 (x := (i : Int) + 1) (by omega) (by omega)]
        refine AOps.run tok 1 _ _ _ _ rfl ?_
        refine AOps.nil ?_
        exact ⟨i + 1, rfl, ⟨hin, by rw [← hmiss (eqTF h)]; exact hE⟩, by omega⟩
    have hin : ¬ i < bs.length := by have := of_decide_eq_false h; omega
    rw [← hE, fIx_end hin]
    refine AW.exit ?_
      -- exit 0
    -- END OF BODY; what follows the loop (from its exit):
    refine AW.seq ?_
    refine AW.region ?_   -- "slices.go:102"
    refine AOps.run tok 1 _ _ _ _ rfl ?_
    refine AOps.nil ?_
    exact AW.ret rfl
/-- Whether one of them is false. -/
def anyN (bs : List Bool) : Bool := decide (0 ≤ fIx (fun i => false == bs.getD i false) bs.length 0)
theorem slices_ContainsB_ok (bs : List Bool) (hl : bs.length ≤ 1000) : Pure Try.prog 20 [BsD bs, dB false] (dB (anyN bs)) := by
  refine Pure.intro (n := 9) tok Try.func20 rfl rfl rfl (Nat.le_of_ble_eq_true rfl) (by kernel_rfl) (fun B F0 w0 => ?_)
  refine AW.seq ?_
  refine AW.region ?_   -- "slices.go:117"
  refine AOps.run tok 1 _ _ _ _ rfl ?_
  refine AOps.nil ?_
  refine AW.seq ?_
  refine AW.region ?_   -- "slices.go:118"
  refine AOps.run tok 2 _ _ _ _ rfl ?_
  refine AOps.call tok rfl rfl rfl rfl (slices_IndexB_ok bs hl false) ?_
  refine AOps.run tok 2 _ _ _ _ rfl ?_
  refine AOps.nil ?_
  exact AW.ret rfl
theorem fgo_len {l : Lkg} {dr : List Bool} : ∀ (m : Nat) (s : FSt), (fgo l dr m s).kn.length = s.kn.length ∧ (fgo l dr m s).us.length = s.us.length
  | 0, s => ⟨rfl, rfl⟩
  | m + 1, s => by
    unfold fgo
    split
    · have := fgo_len (l := l) (dr := dr) m ⟨setTs s.kn (by assumption : Grp).bs, setTs s.us (by assumption : Grp).js, s.gs ++ [(by assumption : Grp)]⟩
      rw [this.1, this.2]
      exact ⟨setTs_length _ _, setTs_length _ _⟩
    · exact ⟨rfl, rfl⟩
theorem findF_len (l : Lkg) : (findF l).kn.length = l.bodies.length ∧ (findF l).us.length = l.joints.length := by
  have := fgo_len (l := l) (dr := drvB l) l.bodies.length ⟨(List.replicate l.bodies.length false).set 0 true, List.replicate l.joints.length false, []⟩
  unfold findF
  rw [this.1, this.2]
  simp
end Lift
/- Groups: Split and Order. -/
namespace Lift
open Go Go.Proofs

def splitD (l : Lkg) : D := if chk l = 0 then (if (anyN (findF l).kn || anyN (findF l).us) = true then .tu [.sl 4 [], er 7] else .tu [GrpsD (findF l).gs, nilE]) else .tu [.sl 4 [], erV (chk l)]
theorem groups_Split_ok (l : Lkg) {K : Nat} (hl : l.ok K) (hK : K ≤ 20000000) : Pure Try.prog 9 [l.D] (splitD l) := by
  refine Pure.intro (n := 31) tok Try.func9 rfl rfl rfl (Nat.le_of_ble_eq_true rfl) (by kernel_rfl) (fun B F0 w0 => ?_)
  have c := groups_find_ok l hl hK
  have hin := fun h => chk_in (l := l) h
  unfold findD at c
  unfold splitD
  have hfl := findF_len l
  generalize findF l = s at c hfl ⊢
  generalize chk l = E at c hin ⊢
  rcases E with _ | m
  rotate_left
  · rw [if_neg (Nat.succ_ne_zero m)] at c ⊢
    refine AW.seq ?_
    refine AW.region ?_
    refine AOps.run tok 3 _ _ _ _ rfl ?_
    refine AOps.nil ?_
    refine AW.seq ?_
    refine AW.region ?_
    refine AOps.run tok 1 _ _ _ _ rfl ?_
    refine AOps.call tok rfl rfl rfl rfl c ?_
    refine AOps.run tok 5 _ _ _ _ rfl ?_
    refine AOps.nil ?_
    refine AW.seq ?_
    refine AW.seq ?_
    refine AW.region ?_
    refine AOps.run tok 1 _ _ _ _ rfl ?_
    refine AOps.err tok rfl rfl rfl rfl rfl ?_
    refine AOps.nil ?_
    refine AW.condT rfl ?_
    refine AW.seq ?_
    refine AW.region ?_
    refine AOps.run tok 3 _ _ _ _ rfl ?_
    refine AOps.nil ?_
    exact AW.ret rfl
  rw [if_pos rfl] at c ⊢
  obtain ⟨_, hb8, hj16, _⟩ := hin rfl
  have c1 := slices_ContainsB_ok s.kn (by omega)
  have c2 := slices_ContainsB_ok s.us (by omega)
  generalize anyN s.kn = b1 at c1 ⊢
  generalize anyN s.us = b2 at c2 ⊢
  refine AW.seq ?_
  refine AW.region ?_
  refine AOps.run tok 3 _ _ _ _ rfl ?_
  refine AOps.nil ?_
  refine AW.seq ?_
  refine AW.region ?_
  refine AOps.run tok 1 _ _ _ _ rfl ?_
  refine AOps.call tok rfl rfl rfl rfl c ?_
  refine AOps.run tok 5 _ _ _ _ rfl ?_
  refine AOps.nil ?_
  refine AW.seq ?_
  refine AW.seq ?_
  refine AW.region ?_
  refine AOps.run tok 1 _ _ _ _ rfl ?_
  refine AOps.err tok rfl rfl rfl rfl rfl ?_
  refine AOps.nil ?_
  refine AW.condF rfl ?_
  refine AW.skip ?_
  refine AW.seq ?_
  refine AW.seq ?_
  refine AW.region ?_
  refine AOps.run tok 1 _ _ _ _ rfl ?_
  refine AOps.nchk tok rfl rfl rfl rfl rfl ?_
  refine AOps.run tok 2 _ _ _ _ rfl ?_
  refine AOps.call tok rfl rfl rfl rfl c1 ?_
  refine AOps.run tok 1 _ _ _ _ rfl ?_
  cases b1
  rotate_left
  · refine AOps.run tok 6 _ _ _ _ rfl ?_
    refine AOps.nil ?_
    refine AW.condT rfl ?_
    refine AW.seq ?_
    refine AW.region ?_
    refine AOps.run tok 3 _ _ _ _ rfl ?_
    refine AOps.nil ?_
    exact AW.ret rfl
  refine AOps.run tok 1 _ _ _ _ rfl ?_
  refine AOps.nchk tok rfl rfl rfl rfl rfl ?_
  refine AOps.run tok 2 _ _ _ _ rfl ?_
  refine AOps.call tok rfl rfl rfl rfl c2 ?_
  refine AOps.run tok 1 _ _ _ _ rfl ?_
  refine AOps.nil ?_
  cases b2
  rotate_left
  · refine AW.condT rfl ?_
    refine AW.seq ?_
    refine AW.region ?_
    refine AOps.run tok 3 _ _ _ _ rfl ?_
    refine AOps.nil ?_
    exact AW.ret rfl
  refine AW.condF rfl ?_
  refine AW.skip ?_
  refine AW.seq ?_
  refine AW.region ?_
  refine AOps.run tok 1 _ _ _ _ rfl ?_
  refine AOps.nchk tok rfl rfl rfl rfl rfl ?_
  refine AOps.run tok 4 _ _ _ _ rfl ?_
  refine AOps.nil ?_
  exact AW.ret rfl
theorem getG {gs : List Grp} {i : Nat} (h : i < gs.length) : (gs.map Grp.D)[i]? = some (gs.getD i default).D := by simp [h]
end Lift
/- Groups: sums over what is marked; what the least joint is. -/
namespace Lift
open Go Go.Proofs

/-- The sum of f over the places that are true. -/
def wS (f : Nat → Nat) : List Bool → Nat → Nat
  | [], _ => 0
  | b :: l, i => (if b = true then f i else 0) + wS f l (i + 1)
theorem wS_set (f : Nat → Nat) : ∀ (l : List Bool) (k i : Nat), k < l.length → l.getD k false = false → wS f (l.set k true) i = wS f l i + f (i + k)
  | [], k, i, h, _ => by simp at h
  | b :: l, 0, i, _, h => by
    have hb : b = false := by simpa using h
    subst hb
    simp [wS]
    omega
  | b :: l, k + 1, i, h, h2 => by
    have := wS_set f l k (i + 1) (by simpa using h) (by simpa using h2)
    simp only [List.set_cons_succ, wS]
    rw [this, show i + 1 + k = i + (k + 1) by omega]
    omega
theorem wS_rep (f : Nat → Nat) : ∀ (n i : Nat), wS f (List.replicate n false) i = 0
  | 0, _ => rfl
  | n + 1, i => by
    show (if false = true then f i else 0) + wS f (List.replicate n false) (i + 1) = 0
    rw [wS_rep f n (i + 1)]
    rfl
/-- The least joint of a kind of a body with a body that passes. -/
theorem jtF_spec {kind b : Int} {q : Nat → Bool} {js : List Joint} (h : 0 ≤ jtF kind b q js) : gjP kind b q (js.getD (jtF kind b q js).toNat default) = true :=
  (fIx_lt (show 0 ≤ fIx (fun i => gjP kind b q (js.getD i default)) js.length 0 from h)).2.2
theorem gjP_spec {kind b : Int} {q : Nat → Bool} {j : Joint} (h : gjP kind b q j = true) : j.kind = kind ∧ 0 ≤ othF j b ∧ q (othF j b).toNat = true := by
  unfold gjP at h
  simp only [Bool.and_eq_true, decide_eq_true_eq] at h
  obtain ⟨h1, h2, h3⟩ := h
  exact ⟨h1, h2, h3⟩
/-- A joint that has another body has this one. -/
theorem othF_mem {j : Joint} {b : Int} (h : 0 ≤ othF j b) : b = j.a ∧ othF j b = j.b ∨ b = j.b ∧ othF j b = j.a := by
  unfold othF at h ⊢
  split
  · rename_i e; exact .inl ⟨e, rfl⟩
  · rename_i e
    rw [if_neg e] at h
    split
    · rename_i e2; exact .inr ⟨e2, rfl⟩
    · rename_i e2
      rw [if_neg e2] at h
      omega
end Lift
/- Groups: what each new group adds: three for each new body. -/
namespace Lift
open Go Go.Proofs

def wJ (l : Lkg) (j : Nat) : Nat := if (l.joints.getD j default).kind = 1 then 1 else 2
def fD (l : Lkg) (i : Nat) : Nat := if (drvB l).getD i false = true then 1 else 0
/-- Used joints have known bodies; what is used is three for each known body but the frame. -/
structure CInv (l : Lkg) (kn us : List Bool) : Prop where
  k : kn.length = l.bodies.length
  u : us.length = l.joints.length
  e : ∀ j, j < l.joints.length → us.getD j false = true → kn.getD (l.joints.getD j default).a.toNat false = true ∧ kn.getD (l.joints.getD j default).b.toNat false = true
  c : wS (wJ l) us 0 + wS (fD l) kn 0 + 3 = wS (fun _ => 3) kn 0
theorem getD_set_self {l : List Bool} {i : Nat} (h : i < l.length) : (l.set i true).getD i false = true := by
  rw [List.getD_eq_getElem?_getD, List.getElem?_set_self h]; rfl
theorem getD_set_ne {l : List Bool} {i j : Nat} (h : i ≠ j) : (l.set i true).getD j false = l.getD j false := by
  rw [List.getD_eq_getElem?_getD, List.getElem?_set_ne h, ← List.getD_eq_getElem?_getD]
theorem getD_set_mono {l : List Bool} {i j : Nat} (h : l.getD j false = true) : (l.set i true).getD j false = true := by
  by_cases e : i = j
  · subst e
    refine getD_set_self ?_
    rcases Nat.lt_or_ge i l.length with h1 | h1
    · exact h1
    · rw [List.getD_eq_getElem?_getD, List.getElem?_eq_none h1] at h; cases h
  · rw [getD_set_ne e]; exact h
/-- A joint of an unknown body is not used. -/
theorem CInv.unused {l : Lkg} {kn us : List Bool} (h : CInv l kn us) {j : Nat} {b : Int} (hj : j < l.joints.length) (hb : kn.getD b.toNat false = false) (ho : 0 ≤ othF (l.joints.getD j default) b) : us.getD j false = false := by
  cases hu : us.getD j false
  · rfl
  · obtain ⟨e1, e2⟩ := h.e j hj hu
    rcases othF_mem ho with ⟨rfl, _⟩ | ⟨rfl, _⟩
    · rw [hb] at e1; cases e1
    · rw [hb] at e2; cases e2
/-- One joint more is used, of a body that is known and another one that is. -/
theorem CInv.ends {l : Lkg} {j : Nat} {b : Int} {kn : List Bool} (ho : 0 ≤ othF (l.joints.getD j default) b) (hb : kn.getD b.toNat false = true) (hq : kn.getD (othF (l.joints.getD j default) b).toNat false = true) :
    kn.getD (l.joints.getD j default).a.toNat false = true ∧ kn.getD (l.joints.getD j default).b.toNat false = true := by
  rcases othF_mem ho with ⟨rfl, e⟩ | ⟨rfl, e⟩
  · rw [e] at hq; exact ⟨hb, hq⟩
  · rw [e] at hq; exact ⟨hq, hb⟩
theorem setTs_mono {is : List Int} : ∀ {l : List Bool} {j : Nat}, l.getD j false = true → (setTs l is).getD j false = true := by
  induction is with
  | nil => intro l j h; exact h
  | cons i is ih => intro l j h; exact ih (getD_set_mono h)
theorem setTs_mem {is : List Int} : ∀ {l : List Bool} {x : Int}, x ∈ is → x.toNat < l.length → (setTs l is).getD x.toNat false = true := by
  induction is with
  | nil => intro l x h; cases h
  | cons i is ih =>
    intro l x h hx
    rcases List.mem_cons.1 h with rfl | h
    · show (setTs (l.set x.toNat true) is).getD _ false = true
      exact setTs_mono (getD_set_self hx)
    · exact ih h (by rw [List.length_set]; exact hx)
theorem CInv.drv {l : Lkg} (hL : LkIn l) {kn us : List Bool} (h : CInv l kn us) {g : Grp} (hg : drvG l kn = some g) : CInv l (setTs kn g.bs) (setTs us g.js) := by
  obtain ⟨k, _, hk, h3⟩ := fstO_some hg
  unfold drvS at h3
  split at h3
  · cases h3
  rename_i hx
  split at h3
  rotate_left
  · cases h3
  rename_i ha
  have hd := hL.d k (by omega)
  have hmem : (l.drivers.getD k default).body ∈ l.drivers.map Driver.body := List.mem_map.2 ⟨_, by
    rw [List.getD_eq_getElem?_getD, List.getElem?_eq_getElem (by omega)]
    exact List.getElem_mem _, rfl⟩
  generalize (l.drivers.getD k default).body = x at *
  have hp := jtF_lt ha
  obtain ⟨q1, q2, q3⟩ := gjP_spec (jtF_spec ha)
  generalize hpe : jtF 0 x (fun o => kn.getD o false) l.joints = p at *
  have hpa : ancF l kn 0 x = p := hpe
  rw [hpa] at h3
  cases h3
  have hx : kn.getD x.toNat false = false := by
    cases hv : kn.getD x.toNat false
    · rfl
    · exact absurd hv hx
  have hu := h.unused hp hx q2
  have hxl : x.toNat < kn.length := by rw [h.k]; omega
  have hpl : p.toNat < us.length := by rw [h.u]; exact hp
  refine ⟨by rw [setTs_length]; exact h.k, by rw [setTs_length]; exact h.u, fun j hj hj2 => ?_, ?_⟩
  · show (kn.set x.toNat true).getD _ false = true ∧ (kn.set x.toNat true).getD _ false = true
    by_cases e : p.toNat = j
    · subst e
      exact CInv.ends q2 (getD_set_self hxl) (getD_set_mono q3)
    · have hj2 : (us.set p.toNat true).getD j false = true := hj2
      rw [getD_set_ne e] at hj2
      obtain ⟨e1, e2⟩ := h.e j hj hj2
      exact ⟨getD_set_mono e1, getD_set_mono e2⟩
  · show wS (wJ l) (us.set p.toNat true) 0 + wS (fD l) (kn.set x.toNat true) 0 + 3 = wS (fun _ => 3) (kn.set x.toNat true) 0
    rw [wS_set _ _ _ _ hpl hu, wS_set _ _ _ _ hxl hx, wS_set _ _ _ _ hxl hx, Nat.zero_add, Nat.zero_add]
    have e1 : wJ l p.toNat = 2 := by unfold wJ; rw [q1]; rfl
    have e2 : fD l x.toNat = 1 := by
      unfold fD drvB
      rw [setTs_mem hmem (by rw [List.length_replicate]; omega)]
      rfl
    have := h.c
    omega
theorem freF_dr {kn dr : List Bool} {i : Nat} (h : freF kn dr i = true) : dr.getD i false = false := by
  unfold freF at h
  rw [Bool.and_eq_true] at h
  exact notT h.2
theorem CInv.sng {l : Lkg} {kn us : List Bool} (h : CInv l kn us) {g : Grp} (hg : sngG l kn (drvB l) = some g) : CInv l (setTs kn g.bs) (setTs us g.js) := by
  obtain ⟨i, _, hi, h3⟩ := fstO_some hg
  unfold sngS at h3
  split at h3
  · cases h3
  rename_i hf
  have hf : freF kn (drvB l) i = true := by
    cases hv : freF kn (drvB l) i
    · exact absurd hv hf
    · rfl
  split at h3
  · cases h3
  rename_i ha
  have ha1 : 0 ≤ ancF l kn 0 i := by omega
  have ha2 : 0 ≤ ancF l kn 1 i := by omega
  have hp := jtF_lt ha1
  have hp2 := jtF_lt ha2
  obtain ⟨q1, q2, q3⟩ := gjP_spec (jtF_spec ha1)
  obtain ⟨r1, r2, r3⟩ := gjP_spec (jtF_spec ha2)
  change (ancF l kn 0 i).toNat < _ at hp
  change (ancF l kn 1 i).toNat < _ at hp2
  change (l.joints.getD (ancF l kn 0 i).toNat default).kind = 0 at q1
  change 0 ≤ othF (l.joints.getD (ancF l kn 0 i).toNat default) i at q2
  change kn.getD (othF (l.joints.getD (ancF l kn 0 i).toNat default) i).toNat false = true at q3
  change (l.joints.getD (ancF l kn 1 i).toNat default).kind = 1 at r1
  change 0 ≤ othF (l.joints.getD (ancF l kn 1 i).toNat default) i at r2
  change kn.getD (othF (l.joints.getD (ancF l kn 1 i).toNat default) i).toNat false = true at r3
  generalize ancF l kn 0 i = p at *
  generalize ancF l kn 1 i = s at *
  cases h3
  have hx : kn.getD ((i : Int)).toNat false = false := freF_no hf
  have hu := h.unused hp hx q2
  have hu2 := h.unused hp2 hx r2
  have hxl : i < kn.length := by rw [h.k]; omega
  have hpl : p.toNat < us.length := by rw [h.u]; exact hp
  have hsl : s.toNat < us.length := by rw [h.u]; exact hp2
  have hne : p.toNat ≠ s.toNat := fun e => by rw [e, r1] at q1; cases q1
  have hxl' : ((i : Int)).toNat < kn.length := hxl
  refine ⟨by rw [setTs_length]; exact h.k, by rw [setTs_length]; exact h.u, fun j hj hj2 => ?_, ?_⟩
  · show (kn.set ((i : Int)).toNat true).getD _ false = true ∧ (kn.set ((i : Int)).toNat true).getD _ false = true
    by_cases e : p.toNat = j
    · subst e
      exact CInv.ends q2 (getD_set_self hxl') (getD_set_mono q3)
    by_cases e2 : s.toNat = j
    · subst e2
      exact CInv.ends r2 (getD_set_self hxl') (getD_set_mono r3)
    · have hj2 : ((us.set p.toNat true).set s.toNat true).getD j false = true := hj2
      rw [getD_set_ne e2, getD_set_ne e] at hj2
      obtain ⟨e1, e2⟩ := h.e j hj hj2
      exact ⟨getD_set_mono e1, getD_set_mono e2⟩
  · show wS (wJ l) ((us.set p.toNat true).set s.toNat true) 0 + wS (fD l) (kn.set ((i : Int)).toNat true) 0 + 3 = wS (fun _ => 3) (kn.set ((i : Int)).toNat true) 0
    rw [wS_set _ (us.set p.toNat true) s.toNat 0 (by rw [List.length_set]; exact hsl) (by rw [getD_set_ne hne]; exact hu2), wS_set _ us p.toNat 0 hpl hu, wS_set _ _ _ _ hxl' hx, wS_set _ _ _ _ hxl' hx, Nat.zero_add, Nat.zero_add, Nat.zero_add]
    have e1 : wJ l p.toNat = 2 := by unfold wJ; rw [q1]; rfl
    have e3 : wJ l s.toNat = 1 := by unfold wJ; rw [r1]; rfl
    have e2 : fD l ((i : Int)).toNat = 0 := by
      unfold fD
      rw [show (drvB l).getD ((i : Int)).toNat false = false from freF_dr hf]
      rfl
    have := h.c
    omega
theorem prIn_lt {fr : Nat → Bool} {n : Nat} {p : Nat × Nat} : ∀ {m i : Nat}, p ∈ prOut fr n m i → p.1 < p.2
  | 0, i, h => by simp [prOut] at h
  | m + 1, i, h => by
    unfold prOut at h
    rcases List.mem_append.1 h with h | h
    · obtain ⟨h1, h2, _⟩ := prIn_mem h
      omega
    · exact prIn_lt h
theorem CInv.par {l : Lkg} {kn us : List Bool} (h : CInv l kn us) {g : Grp} (hg : parG l kn (drvB l) = some g) : CInv l (setTs kn g.bs) (setTs us g.js) := by
  obtain ⟨pr, hpr, h3⟩ := List.exists_of_findSome?_eq_some hg
  obtain ⟨hi, hj, hf, hf2⟩ := prsF_mem hpr
  have hij := prIn_lt hpr
  obtain ⟨i, k⟩ := pr
  simp only [] at hi hj hf hf2 hij h3
  unfold parS at h3
  split at h3
  rotate_left
  · cases h3
  rename_i ha
  obtain ⟨ha1, ha2, ha3⟩ := ha
  have hp := jtF_lt ha1
  have hp2 := jtF_lt ha2
  have hp3 := jtF_lt ha3
  obtain ⟨q1, q2, q3⟩ := gjP_spec (jtF_spec ha1)
  obtain ⟨r1, r2, r3⟩ := gjP_spec (jtF_spec ha2)
  obtain ⟨s1, s2, s3⟩ := gjP_spec (jtF_spec ha3)
  change (ancF l kn 0 i).toNat < _ at hp
  change (ancF l kn 0 k).toNat < _ at hp2
  change (l.joints.getD (ancF l kn 0 i).toNat default).kind = 0 at q1
  change 0 ≤ othF (l.joints.getD (ancF l kn 0 i).toNat default) i at q2
  change kn.getD (othF (l.joints.getD (ancF l kn 0 i).toNat default) i).toNat false = true at q3
  change (l.joints.getD (ancF l kn 0 k).toNat default).kind = 0 at r1
  change 0 ≤ othF (l.joints.getD (ancF l kn 0 k).toNat default) k at r2
  change kn.getD (othF (l.joints.getD (ancF l kn 0 k).toNat default) k).toNat false = true at r3
  generalize ancF l kn 0 i = p at *
  generalize ancF l kn 0 k = s at *
  generalize jtF 0 i (fun o => decide ((o : Int) = k)) l.joints = c at *
  cases h3
  have hx : kn.getD ((i : Int)).toNat false = false := freF_no hf
  have hy : kn.getD ((k : Int)).toNat false = false := freF_no hf2
  have hs3 : othF (l.joints.getD c.toNat default) i = k := by
    have := of_decide_eq_true s3
    omega
  have hxl : ((i : Int)).toNat < kn.length := by rw [h.k]; exact hi
  have hyl : ((k : Int)).toNat < kn.length := by rw [h.k]; exact hj
  have hik : ((i : Int)).toNat ≠ ((k : Int)).toNat := by omega
  have hu := h.unused hp hx q2
  have hu2 := h.unused hp2 hy r2
  have hu3 := h.unused hp3 hx s2
  -- the three joints differ
  have hpc : p.toNat ≠ c.toNat := fun e => by
    rw [e, hs3, hy] at q3; cases q3
  have hsc : s.toNat ≠ c.toNat := fun e => by
    rw [e] at r2 r3
    rcases othF_mem s2 with ⟨e1, e2⟩ | ⟨e1, e2⟩
    · rcases othF_mem r2 with ⟨f1, f2⟩ | ⟨f1, f2⟩
      · rw [← f1] at e1; omega
      · rw [f2, ← e1, hx] at r3; cases r3
    · rcases othF_mem r2 with ⟨f1, f2⟩ | ⟨f1, f2⟩
      · rw [f2, ← e1, hx] at r3; cases r3
      · rw [← f1] at e1; omega
  have hps : p.toNat ≠ s.toNat := fun e => by
    rw [e] at q2 q3
    rcases othF_mem q2 with ⟨e1, e2⟩ | ⟨e1, e2⟩
    · rcases othF_mem r2 with ⟨f1, f2⟩ | ⟨f1, f2⟩
      · rw [← f1] at e1; omega
      · rw [e2, ← f1, hy] at q3; cases q3
    · rcases othF_mem r2 with ⟨f1, f2⟩ | ⟨f1, f2⟩
      · rw [e2, ← f1, hy] at q3; cases q3
      · rw [← f1] at e1; omega
  have hpl : p.toNat < us.length := by rw [h.u]; exact hp
  have hsl : s.toNat < us.length := by rw [h.u]; exact hp2
  have hcl : c.toNat < us.length := by rw [h.u]; exact hp3
  have hky : ((kn.set ((i : Int)).toNat true).set ((k : Int)).toNat true).getD ((k : Int)).toNat false = true := getD_set_self (by rw [List.length_set]; exact hyl)
  have hkx : ((kn.set ((i : Int)).toNat true).set ((k : Int)).toNat true).getD ((i : Int)).toNat false = true := getD_set_mono (getD_set_self hxl)
  refine ⟨by rw [setTs_length]; exact h.k, by rw [setTs_length]; exact h.u, fun j hj hj2 => ?_, ?_⟩
  · show ((kn.set ((i : Int)).toNat true).set ((k : Int)).toNat true).getD _ false = true ∧ ((kn.set ((i : Int)).toNat true).set ((k : Int)).toNat true).getD _ false = true
    by_cases e : p.toNat = j
    · subst e
      exact CInv.ends q2 hkx (getD_set_mono (getD_set_mono q3))
    by_cases e2 : s.toNat = j
    · subst e2
      exact CInv.ends r2 hky (getD_set_mono (getD_set_mono r3))
    by_cases e3 : c.toNat = j
    · subst e3
      exact CInv.ends s2 hkx (by rw [hs3]; exact hky)
    · have hj2 : (((us.set p.toNat true).set s.toNat true).set c.toNat true).getD j false = true := hj2
      rw [getD_set_ne e3, getD_set_ne e2, getD_set_ne e] at hj2
      obtain ⟨e1, e2⟩ := h.e j hj hj2
      exact ⟨getD_set_mono (getD_set_mono e1), getD_set_mono (getD_set_mono e2)⟩
  · show wS (wJ l) (((us.set p.toNat true).set s.toNat true).set c.toNat true) 0 + wS (fD l) ((kn.set ((i : Int)).toNat true).set ((k : Int)).toNat true) 0 + 3 = wS (fun _ => 3) ((kn.set ((i : Int)).toNat true).set ((k : Int)).toNat true) 0
    rw [wS_set _ ((us.set p.toNat true).set s.toNat true) c.toNat 0 (by rw [List.length_set, List.length_set]; exact hcl) (by rw [getD_set_ne hsc, getD_set_ne hpc]; exact hu3),
      wS_set _ (us.set p.toNat true) s.toNat 0 (by rw [List.length_set]; exact hsl) (by rw [getD_set_ne hps]; exact hu2), wS_set _ us p.toNat 0 hpl hu,
      wS_set _ (kn.set ((i : Int)).toNat true) ((k : Int)).toNat 0 (by rw [List.length_set]; exact hyl) (by rw [getD_set_ne hik]; exact hy), wS_set _ kn _ 0 hxl hx,
      wS_set _ (kn.set ((i : Int)).toNat true) ((k : Int)).toNat 0 (by rw [List.length_set]; exact hyl) (by rw [getD_set_ne hik]; exact hy), wS_set _ kn _ 0 hxl hx]
    simp only [Nat.zero_add]
    have e1 : wJ l p.toNat = 2 := by unfold wJ; rw [q1]; rfl
    have e2 : wJ l s.toNat = 2 := by unfold wJ; rw [r1]; rfl
    have e3 : wJ l c.toNat = 2 := by unfold wJ; rw [s1]; rfl
    have e4 : fD l ((i : Int)).toNat = 0 := by
      unfold fD
      rw [show (drvB l).getD ((i : Int)).toNat false = false from freF_dr hf]
      rfl
    have e5 : fD l ((k : Int)).toNat = 0 := by
      unfold fD
      rw [show (drvB l).getD ((k : Int)).toNat false = false from freF_dr hf2]
      rfl
    have := h.c
    omega
theorem CInv.nxt {l : Lkg} (hL : LkIn l) {kn us : List Bool} (h : CInv l kn us) {g : Grp} (hg : nxtG l kn (drvB l) = some g) : CInv l (setTs kn g.bs) (setTs us g.js) := by
  unfold nxtG at hg
  split at hg
  · cases hg
    exact h.drv hL (by assumption)
  · split at hg
    · cases hg
      exact h.par (by assumption)
    · exact h.sng hg
theorem CInv.go {l : Lkg} (hL : LkIn l) : ∀ (m : Nat) (s : FSt), CInv l s.kn s.us → CInv l (fgo l (drvB l) m s).kn (fgo l (drvB l) m s).us
  | 0, s, h => h
  | m + 1, s, h => by
    cases hn : nxtG l s.kn (drvB l) with
    | none => rw [fgo_end hn]; exact h
    | some g0 =>
      have e : fgo l (drvB l) (m + 1) s = fgo l (drvB l) m ⟨setTs s.kn g0.bs, setTs s.us g0.js, s.gs ++ [g0]⟩ := by rw [fgo]; simp only [hn]
      rw [e]
      exact CInv.go hL m ⟨setTs s.kn g0.bs, setTs s.us g0.js, s.gs ++ [g0]⟩ (h.nxt hL hn)
theorem CInv.find {l : Lkg} (hL : LkIn l) (h0 : fD l 0 = 0) : CInv l (findF l).kn (findF l).us := by
  have hb := hL.b1
  unfold findF
  refine CInv.go hL _ _ ⟨by simp, by simp, fun j hj hu => ?_, ?_⟩
  · have hu : (List.replicate l.joints.length false).getD j false = true := hu
    rw [List.getD_eq_getElem?_getD, List.getElem?_replicate] at hu
    split at hu <;> cases hu
  · show wS (wJ l) (List.replicate l.joints.length false) 0 + wS (fD l) ((List.replicate l.bodies.length false).set 0 true) 0 + 3 = wS (fun _ => 3) ((List.replicate l.bodies.length false).set 0 true) 0
    have hz : (List.replicate l.bodies.length false).getD 0 false = false := by
      rw [List.getD_eq_getElem?_getD, List.getElem?_replicate]
      split <;> rfl
    rw [wS_set _ _ _ _ (by simpa using hb) hz, wS_set _ _ _ _ (by simpa using hb) hz, wS_rep, wS_rep, wS_rep, Nat.zero_add, h0]
end Lift
/- Groups: a number in a list; Anchors. -/
namespace Lift
open Go Go.Proofs

/-- Whether x is among them. -/
def hasI (bs : List Int) (x : Int) : Bool := decide (0 ≤ fIx (fun i => decide (x = bs.getD i 0)) bs.length 0)
/-- The bodies that hold a group, from its joint i on (m joints). -/
def ancL (l : Lkg) (g : Grp) : Nat → Nat → List Int → Option (List Int)
  | 0, _, out => some out
  | m + 1, i, out => if inB (g.js.getD i 0) l.joints.length = false then none
    else ancL l g m (i + 1) (out ++ [if (hasI g.bs (l.joints.getD (g.js.getD i 0).toNat default).a && hasI g.bs (l.joints.getD (g.js.getD i 0).toNat default).b) = true then -1 else if hasI g.bs (l.joints.getD (g.js.getD i 0).toNat default).a = true then (l.joints.getD (g.js.getD i 0).toNat default).b else (l.joints.getD (g.js.getD i 0).toNat default).a])
end Lift
/- Groups: each group that is found is as it should be. -/
namespace Lift
open Go Go.Proofs

theorem fIx_neg {g : Nat → Bool} : ∀ {m i : Nat}, fIx g m i < 0 → ∀ k, i ≤ k → k < i + m → g k = false
  | 0, i, _, k, h1, h2 => by omega
  | m + 1, i, h, k, h1, h2 => by
    unfold fIx at h
    split at h
    · omega
    · rename_i hg
      by_cases e : k = i
      · subst e
        cases hv : g k
        · rfl
        · exact absurd hv hg
      · exact fIx_neg h k (by omega) (by omega)
theorem hasI_mem {bs : List Int} {x : Int} (h : x ∈ bs) : hasI bs x = true := by
  unfold hasI
  refine decide_eq_true ?_
  rcases Int.lt_or_le (fIx (fun i => decide (x = bs.getD i 0)) bs.length 0) 0 with hn | hp
  · obtain ⟨i, hi, e⟩ := List.mem_iff_getElem.1 h
    have := fIx_neg hn i (Nat.zero_le _) (by omega)
    rw [List.getD_eq_getElem?_getD, List.getElem?_eq_getElem hi] at this
    simp only [Option.getD_some, e, decide_true] at this
    cases this
  · exact hp
theorem hasI_no {bs : List Int} {x : Int} (h : x ∉ bs) : hasI bs x = false := by
  unfold hasI
  refine decide_eq_false fun h0 => h ?_
  obtain ⟨h1, h2, h3⟩ := fIx_lt h0
  have h3 := of_decide_eq_true h3
  rw [h3, List.getD_eq_getElem?_getD, List.getElem?_eq_getElem (by omega)]
  exact List.getElem_mem _
/-- The body that holds a group at a joint. -/
def atF (bs : List Int) (j : Joint) : Int := if (hasI bs j.a && hasI bs j.b) = true then -1 else if hasI bs j.a = true then j.b else j.a
theorem atF_out {bs : List Int} {j : Joint} {b : Int} (hb : b ∈ bs) (ho : 0 ≤ othF j b) (hn : othF j b ∉ bs) : atF bs j = othF j b := by
  unfold atF
  rcases othF_mem ho with ⟨e1, e2⟩ | ⟨e1, e2⟩
  · rw [e2] at hn
    rw [← e1, hasI_mem hb, hasI_no hn, e2]
    rfl
  · rw [e2] at hn
    rw [hasI_no hn, e2]
    rfl
theorem atF_in {bs : List Int} {j : Joint} {b : Int} (hb : b ∈ bs) (ho : 0 ≤ othF j b) (hn : othF j b ∈ bs) : atF bs j = -1 := by
  unfold atF
  rcases othF_mem ho with ⟨e1, e2⟩ | ⟨e1, e2⟩
  · rw [e2] at hn
    rw [← e1, hasI_mem hb, hasI_mem hn]
    rfl
  · rw [e2] at hn
    rw [← e1, hasI_mem hb, hasI_mem hn]
    rfl
structure GStep (l : Lkg) (kn us : List Bool) (g : Grp) (A : List Int) : Prop where
  kd : 0 ≤ g.kind ∧ g.kind ≤ 3
  nb : (g.bs.length : Int) = [1, 2, 1, 1].getD g.kind.toNat 0
  nj : (g.js.length : Int) = [1, 3, 2, 2].getD g.kind.toNat 0
  an : ancL l g g.js.length 0 [] = some A
  al : A.length = g.js.length
  j : ∀ i, i < g.js.length → 0 ≤ g.js.getD i 0 ∧ (g.js.getD i 0).toNat < l.joints.length ∧ (setTs us (g.js.take i)).getD (g.js.getD i 0).toNat false = false
  a1 : ∀ i, i < g.js.length → g.kind = 1 → i = 2 → A.getD i 0 = -1
  a2 : ∀ i, i < g.js.length → ¬ (g.kind = 1 ∧ i = 2) → 0 ≤ A.getD i 0 ∧ (A.getD i 0).toNat < l.bodies.length ∧ kn.getD (A.getD i 0).toNat false = true
  s : ∀ i, i < g.js.length → ((l.joints.getD (g.js.getD i 0).toNat default).kind = 1 ↔ 2 ≤ g.kind ∧ i = 1)
  b : ∀ i, i < g.bs.length → 0 ≤ g.bs.getD i 0 ∧ (g.bs.getD i 0).toNat < l.bodies.length ∧ (setTs kn (g.bs.take i)).getD (g.bs.getD i 0).toNat false = false
  d : g.kind = 0 → 0 ≤ g.dr ∧ g.dr < l.drivers.length ∧ (l.drivers.getD g.dr.toNat default).body = g.bs.getD 0 0
theorem othF_kn {l : Lkg} (hL : LkIn l) {p : Nat} (hp : p < l.joints.length) {b : Int} {kn : List Bool} (ho : 0 ≤ othF (l.joints.getD p default) b) (hk : kn.getD (othF (l.joints.getD p default) b).toNat false = true) {bs : List Int} (hb : b ∈ bs) (hn : ∀ x, x ∈ bs → kn.getD x.toNat false = false) :
    atF bs (l.joints.getD p default) = othF (l.joints.getD p default) b ∧ 0 ≤ atF bs (l.joints.getD p default) ∧ (atF bs (l.joints.getD p default)).toNat < l.bodies.length ∧ kn.getD (atF bs (l.joints.getD p default)).toNat false = true := by
  have e := atF_out hb ho (fun h => by have := hn _ h; rw [hk] at this; cases this)
  rw [e]
  refine ⟨rfl, ho, ?_, hk⟩
  have := hL.j p hp
  rcases othF_mem ho with ⟨e1, e2⟩ | ⟨e1, e2⟩ <;> omega
theorem inB_of {x : Int} {n : Nat} (h0 : 0 ≤ x) (h : x.toNat < n) : inB x n = true := by
  unfold inB
  simp only [Bool.and_eq_true, decide_eq_true_eq]
  omega
theorem GStep.drv {l : Lkg} (hL : LkIn l) {kn us : List Bool} (h : CInv l kn us) {g : Grp} (hg : drvG l kn = some g) : ∃ A, GStep l kn us g A := by
  obtain ⟨k, _, hk, h3⟩ := fstO_some hg
  unfold drvS at h3
  split at h3
  · cases h3
  rename_i hx
  split at h3
  rotate_left
  · cases h3
  rename_i ha
  have hd := hL.d k (by omega)
  generalize hxe : (l.drivers.getD k default).body = x at *
  have hp := jtF_lt ha
  obtain ⟨q1, q2, q3⟩ := gjP_spec (jtF_spec ha)
  generalize hpe : jtF 0 x (fun o => kn.getD o false) l.joints = p at *
  have hpa : ancF l kn 0 x = p := hpe
  rw [hpa] at h3 ha
  cases h3
  have hx : kn.getD x.toNat false = false := by
    cases hv : kn.getD x.toNat false
    · rfl
    · exact absurd hv hx
  have hu := h.unused hp hx q2
  obtain ⟨o1, o2, o3, o4⟩ := othF_kn hL hp q2 q3 (List.mem_singleton.2 rfl) (fun y hy => by rw [List.mem_singleton.1 hy]; exact hx)
  refine ⟨[atF [x] (l.joints.getD p.toNat default)], ⟨(by show (0 : Int) ≤ 0 ∧ (0 : Int) ≤ 3; decide), rfl, rfl, ?_, rfl, fun i hi => ?_, fun i hi h1 => (by cases h1), fun i hi _ => ?_, fun i hi => ?_, fun i hi => ?_, fun _ => ⟨Int.natCast_nonneg k, by show (k : Int) < _; omega, hxe⟩⟩⟩
  · show (if inB p l.joints.length = false then none else _) = _
    rw [inB_of ha hp]; rfl
  · have : i = 0 := by have : i < 1 := hi; omega
    subst this
    exact ⟨ha, hp, hu⟩
  · have : i = 0 := by have : i < 1 := hi; omega
    subst this
    exact ⟨o2, o3, o4⟩
  · have : i = 0 := by have : i < 1 := hi; omega
    subst this
    show (l.joints.getD p.toNat default).kind = 1 ↔ _
    rw [q1]
    exact ⟨fun e => absurd e (by decide), fun e => absurd e.2 (by decide)⟩
  · have : i = 0 := by have : i < 1 := hi; omega
    subst this
    exact ⟨hd.1, by show x.toNat < _; omega, hx⟩
theorem GStep.sng {l : Lkg} (hL : LkIn l) {kn us : List Bool} (h : CInv l kn us) {g : Grp} (hg : sngG l kn (drvB l) = some g) : ∃ A, GStep l kn us g A := by
  obtain ⟨i, _, hi, h3⟩ := fstO_some hg
  unfold sngS at h3
  split at h3
  · cases h3
  rename_i hf
  have hf : freF kn (drvB l) i = true := by
    cases hv : freF kn (drvB l) i
    · exact absurd hv hf
    · rfl
  split at h3
  · cases h3
  rename_i ha
  have ha1 : 0 ≤ ancF l kn 0 i := by omega
  have ha2 : 0 ≤ ancF l kn 1 i := by omega
  have hp := jtF_lt ha1
  have hp2 := jtF_lt ha2
  obtain ⟨q1, q2, q3⟩ := gjP_spec (jtF_spec ha1)
  obtain ⟨r1, r2, r3⟩ := gjP_spec (jtF_spec ha2)
  change (ancF l kn 0 i).toNat < _ at hp
  change (ancF l kn 1 i).toNat < _ at hp2
  change (l.joints.getD (ancF l kn 0 i).toNat default).kind = 0 at q1
  change 0 ≤ othF (l.joints.getD (ancF l kn 0 i).toNat default) i at q2
  change kn.getD (othF (l.joints.getD (ancF l kn 0 i).toNat default) i).toNat false = true at q3
  change (l.joints.getD (ancF l kn 1 i).toNat default).kind = 1 at r1
  change 0 ≤ othF (l.joints.getD (ancF l kn 1 i).toNat default) i at r2
  change kn.getD (othF (l.joints.getD (ancF l kn 1 i).toNat default) i).toNat false = true at r3
  generalize ancF l kn 0 i = p at *
  generalize ancF l kn 1 i = s at *
  have hkd : ∃ kd : Int, (kd = 2 ∨ kd = 3) ∧ g = ⟨kd, [(i : Int)], [p, s], 0⟩ := by
    cases h3
    split
    · exact ⟨2, .inl rfl, rfl⟩
    · exact ⟨3, .inr rfl, rfl⟩
  obtain ⟨kd, hkd, rfl⟩ := hkd
  have hx : kn.getD ((i : Int)).toNat false = false := freF_no hf
  have hu := h.unused hp hx q2
  have hu2 := h.unused hp2 hx r2
  have hne : p.toNat ≠ s.toNat := fun e => by rw [e, r1] at q1; cases q1
  obtain ⟨o1, o2, o3, o4⟩ := othF_kn hL hp q2 q3 (List.mem_singleton.2 rfl) (fun y hy => by rw [List.mem_singleton.1 hy]; exact hx)
  obtain ⟨t1, t2, t3, t4⟩ := othF_kn hL hp2 r2 r3 (List.mem_singleton.2 rfl) (fun y hy => by rw [List.mem_singleton.1 hy]; exact hx)
  refine ⟨[atF [(i : Int)] (l.joints.getD p.toNat default), atF [(i : Int)] (l.joints.getD s.toNat default)], ⟨(by show 0 ≤ kd ∧ kd ≤ 3; omega), ?_, ?_, ?_, rfl, fun m hm => ?_, fun m hm (h1 : kd = 1) => (by omega), fun m hm _ => ?_, fun m hm => ?_, fun m hm => ?_, fun (h1 : kd = 0) => by omega⟩⟩
  · show (1 : Int) = [1, 2, 1, 1].getD kd.toNat 0
    rcases hkd with rfl | rfl <;> rfl
  · show (2 : Int) = [1, 3, 2, 2].getD kd.toNat 0
    rcases hkd with rfl | rfl <;> rfl
  · show (if inB p l.joints.length = false then none else if inB s l.joints.length = false then none else _) = _
    rw [inB_of ha1 hp, inB_of ha2 hp2]; rfl
  · have : m = 0 ∨ m = 1 := by have : m < 2 := hm; omega
    rcases this with rfl | rfl
    · exact ⟨ha1, hp, hu⟩
    · exact ⟨ha2, hp2, by show (us.set p.toNat true).getD s.toNat false = false; rw [getD_set_ne hne]; exact hu2⟩
  · have : m = 0 ∨ m = 1 := by have : m < 2 := hm; omega
    rcases this with rfl | rfl
    · exact ⟨o2, o3, o4⟩
    · exact ⟨t2, t3, t4⟩
  · have : m = 0 ∨ m = 1 := by have : m < 2 := hm; omega
    rcases this with rfl | rfl
    · show (l.joints.getD p.toNat default).kind = 1 ↔ 2 ≤ kd ∧ 0 = 1
      rw [q1]; omega
    · show (l.joints.getD s.toNat default).kind = 1 ↔ 2 ≤ kd ∧ 1 = 1
      rw [r1]; omega
  · have : m = 0 := by have : m < 1 := hm; omega
    subst this
    exact ⟨Int.natCast_nonneg i, by show ((i : Int)).toNat < _; omega, hx⟩
theorem GStep.par {l : Lkg} (hL : LkIn l) {kn us : List Bool} (h : CInv l kn us) {g : Grp} (hg : parG l kn (drvB l) = some g) : ∃ A, GStep l kn us g A := by
  obtain ⟨pr, hpr, h3⟩ := List.exists_of_findSome?_eq_some hg
  obtain ⟨hi, hj, hf, hf2⟩ := prsF_mem hpr
  have hij := prIn_lt hpr
  obtain ⟨i, k⟩ := pr
  simp only [] at hi hj hf hf2 hij h3
  unfold parS at h3
  split at h3
  rotate_left
  · cases h3
  rename_i ha
  obtain ⟨ha1, ha2, ha3⟩ := ha
  have hp := jtF_lt ha1
  have hp2 := jtF_lt ha2
  have hp3 := jtF_lt ha3
  obtain ⟨q1, q2, q3⟩ := gjP_spec (jtF_spec ha1)
  obtain ⟨r1, r2, r3⟩ := gjP_spec (jtF_spec ha2)
  obtain ⟨s1, s2, s3⟩ := gjP_spec (jtF_spec ha3)
  change (ancF l kn 0 i).toNat < _ at hp
  change (ancF l kn 0 k).toNat < _ at hp2
  change (l.joints.getD (ancF l kn 0 i).toNat default).kind = 0 at q1
  change 0 ≤ othF (l.joints.getD (ancF l kn 0 i).toNat default) i at q2
  change kn.getD (othF (l.joints.getD (ancF l kn 0 i).toNat default) i).toNat false = true at q3
  change (l.joints.getD (ancF l kn 0 k).toNat default).kind = 0 at r1
  change 0 ≤ othF (l.joints.getD (ancF l kn 0 k).toNat default) k at r2
  change kn.getD (othF (l.joints.getD (ancF l kn 0 k).toNat default) k).toNat false = true at r3
  generalize ancF l kn 0 i = p at *
  generalize ancF l kn 0 k = s at *
  generalize jtF 0 i (fun o => decide ((o : Int) = k)) l.joints = c at *
  cases h3
  have hx : kn.getD ((i : Int)).toNat false = false := freF_no hf
  have hy : kn.getD ((k : Int)).toNat false = false := freF_no hf2
  have hs3 : othF (l.joints.getD c.toNat default) i = k := by
    have := of_decide_eq_true s3
    omega
  have hik : ((i : Int)).toNat ≠ ((k : Int)).toNat := by omega
  have hu := h.unused hp hx q2
  have hu2 := h.unused hp2 hy r2
  have hu3 := h.unused hp3 hx s2
  have hpc : p.toNat ≠ c.toNat := fun e => by
    rw [e, hs3, hy] at q3; cases q3
  have hsc : s.toNat ≠ c.toNat := fun e => by
    rw [e] at r2 r3
    rcases othF_mem s2 with ⟨e1, e2⟩ | ⟨e1, e2⟩
    · rcases othF_mem r2 with ⟨f1, f2⟩ | ⟨f1, f2⟩
      · rw [← f1] at e1; omega
      · rw [f2, ← e1, hx] at r3; cases r3
    · rcases othF_mem r2 with ⟨f1, f2⟩ | ⟨f1, f2⟩
      · rw [f2, ← e1, hx] at r3; cases r3
      · rw [← f1] at e1; omega
  have hps : p.toNat ≠ s.toNat := fun e => by
    rw [e] at q2 q3
    rcases othF_mem q2 with ⟨e1, e2⟩ | ⟨e1, e2⟩
    · rcases othF_mem r2 with ⟨f1, f2⟩ | ⟨f1, f2⟩
      · rw [← f1] at e1; omega
      · rw [e2, ← f1, hy] at q3; cases q3
    · rcases othF_mem r2 with ⟨f1, f2⟩ | ⟨f1, f2⟩
      · rw [e2, ← f1, hy] at q3; cases q3
      · rw [← f1] at e1; omega
  have hno : ∀ x, x ∈ [(i : Int), (k : Int)] → kn.getD x.toNat false = false := fun x hx0 => by
    rcases List.mem_cons.1 hx0 with rfl | hx0
    · exact hx
    · rw [List.mem_singleton.1 hx0]; exact hy
  have hmi : (i : Int) ∈ [(i : Int), (k : Int)] := List.mem_cons_self
  have hmk : (k : Int) ∈ [(i : Int), (k : Int)] := List.mem_cons_of_mem _ (List.mem_singleton.2 rfl)
  obtain ⟨o1, o2, o3, o4⟩ := othF_kn hL hp q2 q3 hmi hno
  obtain ⟨t1, t2, t3, t4⟩ := othF_kn hL hp2 r2 r3 hmk hno
  have hin : atF [(i : Int), (k : Int)] (l.joints.getD c.toNat default) = -1 := atF_in hmi s2 (by rw [hs3]; exact hmk)
  refine ⟨[atF [(i : Int), (k : Int)] (l.joints.getD p.toNat default), atF [(i : Int), (k : Int)] (l.joints.getD s.toNat default), atF [(i : Int), (k : Int)] (l.joints.getD c.toNat default)], ⟨(by show (0 : Int) ≤ 1 ∧ (1 : Int) ≤ 3; decide), rfl, rfl, ?_, rfl, fun m hm => ?_, fun m hm _ e => (by subst e; exact hin), fun m hm hne => ?_, fun m hm => ?_, fun m hm => ?_, fun h1 => by cases h1⟩⟩
  · show (if inB p l.joints.length = false then none else if inB s l.joints.length = false then none else if inB c l.joints.length = false then none else _) = _
    rw [inB_of ha1 hp, inB_of ha2 hp2, inB_of ha3 hp3]; rfl
  · have : m = 0 ∨ m = 1 ∨ m = 2 := by have : m < 3 := hm; omega
    rcases this with rfl | rfl | rfl
    · exact ⟨ha1, hp, hu⟩
    · exact ⟨ha2, hp2, by show (us.set p.toNat true).getD s.toNat false = false; rw [getD_set_ne hps]; exact hu2⟩
    · exact ⟨ha3, hp3, by show ((us.set p.toNat true).set s.toNat true).getD c.toNat false = false; rw [getD_set_ne hsc, getD_set_ne hpc]; exact hu3⟩
  · have : m = 0 ∨ m = 1 ∨ m = 2 := by have : m < 3 := hm; omega
    rcases this with rfl | rfl | rfl
    · exact ⟨o2, o3, o4⟩
    · exact ⟨t2, t3, t4⟩
    · exact absurd ⟨rfl, rfl⟩ hne
  · have : m = 0 ∨ m = 1 ∨ m = 2 := by have : m < 3 := hm; omega
    rcases this with rfl | rfl | rfl
    · show (l.joints.getD p.toNat default).kind = 1 ↔ (2 : Int) ≤ 1 ∧ 0 = 1
      rw [q1]; omega
    · show (l.joints.getD s.toNat default).kind = 1 ↔ (2 : Int) ≤ 1 ∧ 1 = 1
      rw [r1]; omega
    · show (l.joints.getD c.toNat default).kind = 1 ↔ (2 : Int) ≤ 1 ∧ 2 = 1
      rw [s1]; omega
  · have : m = 0 ∨ m = 1 := by have : m < 2 := hm; omega
    rcases this with rfl | rfl
    · exact ⟨Int.natCast_nonneg i, by show ((i : Int)).toNat < _; omega, hx⟩
    · exact ⟨Int.natCast_nonneg k, by show ((k : Int)).toNat < _; omega, by show (kn.set ((i : Int)).toNat true).getD ((k : Int)).toNat false = false; rw [getD_set_ne hik]; exact hy⟩
theorem GStep.nxt {l : Lkg} (hL : LkIn l) {kn us : List Bool} (h : CInv l kn us) {g : Grp} (hg : nxtG l kn (drvB l) = some g) : ∃ A, GStep l kn us g A := by
  unfold nxtG at hg
  split at hg
  · cases hg
    exact GStep.drv hL h (by assumption)
  · split at hg
    · cases hg
      exact GStep.par hL h (by assumption)
    · exact GStep.sng hL h hg
/-- What is known, and what is used, ahead of each group. -/
def knA (l : Lkg) (gs : List Grp) : Nat → List Bool
  | 0 => (List.replicate l.bodies.length false).set 0 true
  | i + 1 => setTs (knA l gs i) (gs.getD i default).bs
def usA (l : Lkg) (gs : List Grp) : Nat → List Bool
  | 0 => List.replicate l.joints.length false
  | i + 1 => setTs (usA l gs i) (gs.getD i default).js
theorem getD_appG {gs : List Grp} {g : Grp} {i : Nat} (h : i < gs.length) : (gs ++ [g]).getD i default = gs.getD i default := by
  rw [List.getD_eq_getElem?_getD, List.getElem?_append_left h, ← List.getD_eq_getElem?_getD]
theorem getD_appGL {gs : List Grp} {g : Grp} : (gs ++ [g]).getD gs.length default = g := by
  rw [List.getD_eq_getElem?_getD, List.getElem?_append_right (Nat.le_refl _), Nat.sub_self]; rfl
theorem knA_app (l : Lkg) (gs : List Grp) (g : Grp) : ∀ i, i ≤ gs.length → knA l (gs ++ [g]) i = knA l gs i
  | 0, _ => rfl
  | i + 1, h => by rw [knA, knA, knA_app l gs g i (by omega), getD_appG (by omega)]
theorem usA_app (l : Lkg) (gs : List Grp) (g : Grp) : ∀ i, i ≤ gs.length → usA l (gs ++ [g]) i = usA l gs i
  | 0, _ => rfl
  | i + 1, h => by rw [usA, usA, usA_app l gs g i (by omega), getD_appG (by omega)]
structure FOk (l : Lkg) (s : FSt) : Prop where
  g : ∀ i, i < s.gs.length → ∃ A, GStep l (knA l s.gs i) (usA l s.gs i) (s.gs.getD i default) A
  k : knA l s.gs s.gs.length = s.kn
  u : usA l s.gs s.gs.length = s.us
  c : CInv l s.kn s.us
theorem FOk.go {l : Lkg} (hL : LkIn l) : ∀ (m : Nat) (s : FSt), FOk l s → FOk l (fgo l (drvB l) m s)
  | 0, s, h => h
  | m + 1, s, h => by
    cases hn : nxtG l s.kn (drvB l) with
    | none => rw [fgo_end hn]; exact h
    | some g0 =>
      have e : fgo l (drvB l) (m + 1) s = fgo l (drvB l) m ⟨setTs s.kn g0.bs, setTs s.us g0.js, s.gs ++ [g0]⟩ := by rw [fgo]; simp only [hn]
      rw [e]
      refine FOk.go hL m ⟨setTs s.kn g0.bs, setTs s.us g0.js, s.gs ++ [g0]⟩ ⟨fun i hi => ?_, ?_, ?_, h.c.nxt hL hn⟩
      · have hi : i < s.gs.length + 1 := by simpa using hi
        show ∃ A, GStep l (knA l (s.gs ++ [g0]) i) (usA l (s.gs ++ [g0]) i) ((s.gs ++ [g0]).getD i default) A
        rw [knA_app _ _ _ _ (by omega), usA_app _ _ _ _ (by omega)]
        by_cases e : i = s.gs.length
        · subst e
          rw [getD_appGL, h.k, h.u]
          exact GStep.nxt hL h.c hn
        · rw [getD_appG (by omega)]
          exact h.g i (by omega)
      · show knA l (s.gs ++ [g0]) (s.gs ++ [g0]).length = setTs s.kn g0.bs
        rw [List.length_append, List.length_singleton, knA, knA_app _ _ _ _ (Nat.le_refl _), getD_appGL, h.k]
      · show usA l (s.gs ++ [g0]) (s.gs ++ [g0]).length = setTs s.us g0.js
        rw [List.length_append, List.length_singleton, usA, usA_app _ _ _ _ (Nat.le_refl _), getD_appGL, h.u]
/-- All groups that are found are as they should be. -/
theorem FOk.find {l : Lkg} (hL : LkIn l) (h0 : fD l 0 = 0) : FOk l (findF l) := by
  have hb := hL.b1
  unfold findF
  refine FOk.go hL _ _ ⟨fun i hi => (by cases hi), rfl, rfl, ?_⟩
  have hz : (List.replicate l.bodies.length false).getD 0 false = false := by
    rw [List.getD_eq_getElem?_getD, List.getElem?_replicate]
    split <;> rfl
  refine ⟨by simp, by simp, fun j hj hu => ?_, ?_⟩
  · have hu : (List.replicate l.joints.length false).getD j false = true := hu
    rw [List.getD_eq_getElem?_getD, List.getElem?_replicate] at hu
    split at hu <;> cases hu
  · show wS (wJ l) (List.replicate l.joints.length false) 0 + wS (fD l) ((List.replicate l.bodies.length false).set 0 true) 0 + 3 = wS (fun _ => 3) ((List.replicate l.bodies.length false).set 0 true) 0
    rw [wS_set _ _ _ _ (by simpa using hb) hz, wS_set _ _ _ _ (by simpa using hb) hz, wS_rep, wS_rep, wS_rep, Nat.zero_add, h0]
end Lift
/- Groups: all marks are true. -/
namespace Lift
open Go Go.Proofs

theorem anyN_all {l : List Bool} (h : anyN l = false) : l = List.replicate l.length true := by
  refine List.ext_getElem (by simp) fun i h1 h2 => ?_
  rw [List.getElem_replicate]
  have hneg : ¬ 0 ≤ fIx (fun i => false == l.getD i false) l.length 0 := of_decide_eq_false h
  cases hv : l[i]
  · exfalso
    apply hneg
    have key : ∀ (m j : Nat), j ≤ i → i < j + m → 0 ≤ fIx (fun i => false == l.getD i false) m j := by
      intro m
      induction m with
      | zero => intro j a b; omega
      | succ m ih =>
        intro j a b
        unfold fIx
        split
        · exact Int.natCast_nonneg j
        · rename_i hg
          rcases Nat.eq_or_lt_of_le a with e | e
          · subst e
            exfalso
            apply hg
            rw [List.getD_eq_getElem?_getD, List.getElem?_eq_getElem h1]
            simp [hv]
          · exact ih (j + 1) e (by omega)
    exact key l.length 0 (Nat.zero_le _) (by omega)
  · rfl
end Lift
/- Groups: the drivers of an accepted linkage. -/
namespace Lift
open Go Go.Proofs

theorem anyF_noG {g : Nat → Bool} : ∀ {m i : Nat}, anyF g m i = false → ∀ k, i ≤ k → k < i + m → g k = false
  | 0, i, h, k, h1, h2 => by omega
  | m + 1, i, h, k, h1, h2 => by
    rw [anyF, Bool.or_eq_false_iff] at h
    rcases Nat.eq_or_lt_of_le h1 with e | e
    · subst e; exact h.1
    · exact anyF_noG h.2 k e (by omega)
theorem drv_mem {l : Lkg} {x : Int} (hx : x ∈ l.drivers.map Driver.body) : ∃ i, i < l.drivers.length ∧ (l.drivers.getD i default).body = x := by
  obtain ⟨d, hd, rfl⟩ := List.mem_map.1 hx
  obtain ⟨i, hi, rfl⟩ := List.mem_iff_getElem.1 hd
  exact ⟨i, hi, by rw [List.getD_eq_getElem?_getD, List.getElem?_eq_getElem hi]; rfl⟩
theorem repl_no (n i : Nat) : (List.replicate n false).getD i false = false := by
  rw [List.getD_eq_getElem?_getD, List.getElem?_replicate]
  split <;> rfl
theorem setTs_other {is : List Int} : ∀ {l : List Bool} {j : Nat}, (∀ x, x ∈ is → x.toNat ≠ j) → (setTs l is).getD j false = l.getD j false := by
  induction is with
  | nil => intro l j _; rfl
  | cons i is ih =>
    intro l j h
    show (setTs (l.set i.toNat true) is).getD j false = _
    rw [ih (fun x hx => h x (List.mem_cons_of_mem _ hx)), getD_set_ne (h i (List.Mem.head _))]
end Lift
/- Groups: a body more, a joint twice, a driven body more. -/
namespace Lift
open Go Go.Proofs

theorem anyN_of {l : List Bool} {k : Nat} (hk : k < l.length) (h : l.getD k false = false) : anyN l = true := by
  cases hv : anyN l
  · exfalso
    rw [anyN_all hv, List.getD_eq_getElem?_getD, List.getElem?_replicate, if_pos hk] at h
    cases h
  · rfl
theorem anc_mem {l : Lkg} {kn : List Bool} {kd b : Int} (h : 0 ≤ ancF l kn kd b) : ∃ j, j < l.joints.length ∧ (b = (l.joints.getD j default).a ∨ b = (l.joints.getD j default).b) := by
  have h1 := jtF_lt h
  obtain ⟨_, q2, _⟩ := gjP_spec (jtF_spec h)
  rcases othF_mem q2 with ⟨e, _⟩ | ⟨e, _⟩
  · exact ⟨_, h1, .inl e⟩
  · exact ⟨_, h1, .inr e⟩
/-- Each body of the next group has a joint with a known one; each of its joints is the least of its kind. -/
theorem nxtG_fac {l : Lkg} {kn dr : List Bool} {g : Grp} (h : nxtG l kn dr = some g) : (∀ b, b ∈ g.bs → 0 ≤ ancF l kn 0 b) ∧ (∀ j, j ∈ g.js → 0 ≤ j ∧ ∃ kd b q, j = jtF kd b q l.joints) := by
  unfold nxtG at h
  split at h
  · rename_i g' hd
    cases h
    obtain ⟨k, _, hk, h3⟩ := fstO_some hd
    unfold drvS at h3
    split at h3
    · cases h3
    split at h3
    rotate_left
    · cases h3
    rename_i ha
    cases h3
    refine ⟨fun b hb => ?_, fun j hj => ?_⟩
    · rw [List.mem_singleton.1 hb]; exact ha
    · rw [List.mem_singleton.1 hj]; exact ⟨ha, _, _, _, rfl⟩
  · split at h
    · rename_i g' hp
      cases h
      obtain ⟨pr, hpr, h3⟩ := List.exists_of_findSome?_eq_some hp
      unfold parS at h3
      split at h3
      rotate_left
      · cases h3
      rename_i ha
      obtain ⟨a1, a2, a3⟩ := ha
      cases h3
      refine ⟨fun b hb => ?_, fun j hj => ?_⟩
      · rcases List.mem_cons.1 hb with rfl | hb
        · exact a1
        · rw [List.mem_singleton.1 hb]; exact a2
      · rcases List.mem_cons.1 hj with rfl | hj
        · exact ⟨a1, _, _, _, rfl⟩
        · rcases List.mem_cons.1 hj with rfl | hj
          · exact ⟨a2, _, _, _, rfl⟩
          · rw [List.mem_singleton.1 hj]; exact ⟨a3, _, _, _, rfl⟩
    · obtain ⟨i, _, hi, h3⟩ := fstO_some h
      unfold sngS at h3
      split at h3
      · cases h3
      split at h3
      · cases h3
      rename_i ha
      have a1 : 0 ≤ ancF l kn 0 i := by omega
      have a2 : 0 ≤ ancF l kn 1 i := by omega
      cases h3
      refine ⟨fun b hb => ?_, fun j hj => ?_⟩
      · rw [List.mem_singleton.1 hb]; exact a1
      · rcases List.mem_cons.1 hj with rfl | hj
        · exact ⟨a1, _, _, _, rfl⟩
        · rw [List.mem_singleton.1 hj]; exact ⟨a2, _, _, _, rfl⟩
theorem fgo_knK {l : Lkg} {dr : List Bool} {K : Nat} (hK : ∀ kn g, nxtG l kn dr = some g → ∀ b, b ∈ g.bs → b.toNat ≠ K) : ∀ (m : Nat) (s : FSt), s.kn.getD K false = false → (fgo l dr m s).kn.getD K false = false
  | 0, s, h => h
  | m + 1, s, h => by
    cases hn : nxtG l s.kn dr with
    | none => rw [fgo_end hn]; exact h
    | some g0 =>
      have e : fgo l dr (m + 1) s = fgo l dr m ⟨setTs s.kn g0.bs, setTs s.us g0.js, s.gs ++ [g0]⟩ := by rw [fgo]; simp only [hn]
      rw [e]
      exact fgo_knK hK m _ (by show (setTs s.kn g0.bs).getD K false = false; rw [setTs_other (hK _ _ hn)]; exact h)
theorem fgo_usK {l : Lkg} {dr : List Bool} {K : Nat} (hK : ∀ kn g, nxtG l kn dr = some g → ∀ b, b ∈ g.js → b.toNat ≠ K) : ∀ (m : Nat) (s : FSt), s.us.getD K false = false → (fgo l dr m s).us.getD K false = false
  | 0, s, h => h
  | m + 1, s, h => by
    cases hn : nxtG l s.kn dr with
    | none => rw [fgo_end hn]; exact h
    | some g0 =>
      have e : fgo l dr (m + 1) s = fgo l dr m ⟨setTs s.kn g0.bs, setTs s.us g0.js, s.gs ++ [g0]⟩ := by rw [fgo]; simp only [hn]
      rw [e]
      exact fgo_usK hK m _ (by show (setTs s.us g0.js).getD K false = false; rw [setTs_other (hK _ _ hn)]; exact h)
/-- With a body more that has no joint a linkage does not dissolve. -/
theorem more_body {l : Lkg} (hL : LkIn l) (b : Body) : anyN (findF { l with bodies := l.bodies ++ [b] }).kn = true := by
  have hb1 := hL.b1
  have hlen := (findF_len { l with bodies := l.bodies ++ [b] }).1
  have hlen : (findF { l with bodies := l.bodies ++ [b] }).kn.length = l.bodies.length + 1 := by rw [hlen]; show (l.bodies ++ [b]).length = _; rw [List.length_append]; rfl
  refine anyN_of (k := l.bodies.length) (by omega) ?_
  unfold findF
  refine fgo_knK (fun kn g hg x hx => ?_) _ _ ?_
  · obtain ⟨j, hj, e⟩ := anc_mem ((nxtG_fac hg).1 x hx)
    have := hL.j j hj
    rcases e with e | e
    · have : x = (l.joints.getD j default).a := e
      omega
    · have : x = (l.joints.getD j default).b := e
      omega
  · show ((List.replicate (l.bodies ++ [b]).length false).set 0 true).getD l.bodies.length false = false
    rw [getD_set_ne (by omega), repl_no]
theorem jtF_dup {kd b : Int} {q : Nat → Bool} {js : List Joint} {j : Joint} (h0 : 0 < js.length) (hj : j.kind = (js.getD 0 default).kind ∧ j.a = (js.getD 0 default).a ∧ j.b = (js.getD 0 default).b) (h : 0 ≤ jtF kd b q (js ++ [j])) : (jtF kd b q (js ++ [j])).toNat ≠ js.length := fun e => by
  have hs := jtF_spec h
  rw [e] at hs
  have e1 : (js ++ [j]).getD js.length default = j := by rw [List.getD_eq_getElem?_getD, List.getElem?_append_right (Nat.le_refl _), Nat.sub_self]; rfl
  have e2 : (js ++ [j]).getD 0 default = js.getD 0 default := by rw [List.getD_eq_getElem?_getD, List.getElem?_append_left h0, ← List.getD_eq_getElem?_getD]
  rw [e1] at hs
  have hs0 : gjP kd b q ((js ++ [j]).getD 0 default) = true := by
    rw [e2]
    rw [← hs]
    unfold gjP othF
    rw [hj.1, hj.2.1, hj.2.2]
  have : jtF kd b q (js ++ [j]) = 0 := by
    unfold jtF
    rw [List.length_append, List.length_singleton, fIx, if_pos hs0]
    rfl
  rw [this] at e
  simp at e
  omega
/-- With its first joint twice a linkage does not dissolve. -/
theorem more_joint {l : Lkg} (h0 : 0 < l.joints.length) (j : Joint) (hj : j.kind = (l.joints.getD 0 default).kind ∧ j.a = (l.joints.getD 0 default).a ∧ j.b = (l.joints.getD 0 default).b) : anyN (findF { l with joints := l.joints ++ [j] }).us = true := by
  have hlen := (findF_len { l with joints := l.joints ++ [j] }).2
  have hlen : (findF { l with joints := l.joints ++ [j] }).us.length = l.joints.length + 1 := by rw [hlen]; show (l.joints ++ [j]).length = _; rw [List.length_append]; rfl
  refine anyN_of (k := l.joints.length) (by omega) ?_
  unfold findF
  refine fgo_usK (fun kn g hg x hx => ?_) _ _ ?_
  · obtain ⟨x0, kd, b, q, e⟩ := (nxtG_fac hg).2 x hx
    have e : x = jtF kd b q (l.joints ++ [j]) := e
    rw [e] at x0 ⊢
    exact jtF_dup h0 hj x0
  · show (List.replicate (l.joints ++ [j]).length false).getD l.joints.length false = false
    rw [repl_no]
-- a driven body more
theorem setTs_snoc {is : List Int} : ∀ {l : List Bool} {c : Bool}, (∀ x, x ∈ is → x.toNat < l.length) → setTs (l ++ [c]) is = setTs l is ++ [c] := by
  induction is with
  | nil => intro l c _; rfl
  | cons i is ih =>
    intro l c h
    have hi := h i List.mem_cons_self
    show setTs ((l ++ [c]).set i.toNat true) is = setTs (l.set i.toNat true) is ++ [c]
    rw [List.set_append, if_pos hi]
    exact ih (fun x hx => by rw [List.length_set]; exact h x (List.mem_cons_of_mem _ hx))
theorem setTs_append (a b : List Int) (l : List Bool) : setTs l (a ++ b) = setTs (setTs l a) b := by
  unfold setTs
  rw [List.foldl_append]
theorem set_snoc (l : List Bool) (c : Bool) : (l ++ [c]).set l.length true = l ++ [true] := by
  rw [List.set_append, if_neg (by omega), Nat.sub_self]; rfl
theorem getD_snoc {l : List Bool} {c : Bool} {o : Nat} (h : o < l.length) : (l ++ [c]).getD o false = l.getD o false := by
  rw [List.getD_eq_getElem?_getD, List.getElem?_append_left h, ← List.getD_eq_getElem?_getD]
theorem getD_snocE {l : List Bool} {c : Bool} : (l ++ [c]).getD l.length false = c := by
  rw [List.getD_eq_getElem?_getD, List.getElem?_append_right (Nat.le_refl _), Nat.sub_self]; rfl
theorem repl_snoc (n : Nat) : List.replicate (n + 1) false = List.replicate n false ++ [false] := List.replicate_succ'
structure Drn (l m : Lkg) : Prop where
  b : m.bodies.length = l.bodies.length + 1
  j : ∃ J, m.joints = l.joints ++ [J] ∧ J.kind = 0 ∧ J.a = (l.bodies.length : Int) ∧ J.b = 0
  d : ∃ D, m.drivers = l.drivers ++ [D] ∧ D.body = (l.bodies.length : Int)
theorem fIx_snoc {g g' : Nat → Bool} : ∀ (m i : Nat), (∀ k, i ≤ k → k < i + m → g' k = g k) → fIx g' (m + 1) i = if 0 ≤ fIx g m i then fIx g m i else if g' (i + m) = true then ((i + m : Nat) : Int) else -1
  | 0, i, _ => by
    rw [fIx, fIx, fIx]
    rfl
  | m + 1, i, h => by
    rw [fIx, fIx_snoc m (i + 1) (fun k h1 h2 => h k (by omega) (by omega)), h i (Nat.le_refl _) (by omega)]
    rw [show fIx g (m + 1) i = if g i = true then (i : Int) else fIx g m (i + 1) from rfl]
    by_cases hg : g i = true
    · rw [if_pos hg, if_pos hg, if_pos (Int.natCast_nonneg i)]
    · rw [if_neg hg, if_neg hg, show i + (m + 1) = i + 1 + m by omega]
theorem gJ_left {js : List Joint} {J : Joint} {k : Nat} (h : k < js.length) : (js ++ [J]).getD k default = js.getD k default := by
  rw [List.getD_eq_getElem?_getD, List.getElem?_append_left h, ← List.getD_eq_getElem?_getD]
theorem gJ_last {js : List Joint} {J : Joint} : (js ++ [J]).getD js.length default = J := by
  rw [List.getD_eq_getElem?_getD, List.getElem?_append_right (Nat.le_refl _), Nat.sub_self]; rfl
/-- The least joint of another body is the same. -/
theorem Drn.jt {l m : Lkg} (h : Drn l m) (hL : LkIn l) {kd b : Int} {q q' : Nat → Bool} (hq : ∀ o, o < l.bodies.length → q' o = q o) (hb : b ≠ l.bodies.length) (hb0 : b ≠ 0) : jtF kd b q' m.joints = jtF kd b q l.joints := by
  obtain ⟨J, hj, hk, ha, hb2⟩ := h.j
  rw [hj]
  unfold jtF
  rw [List.length_append, List.length_singleton, fIx_snoc (g := fun i => gjP kd b q (l.joints.getD i default)) _ _ (fun k _ hk => ?_)]
  · have hJ : gjP kd b q' J = false := by
      unfold gjP othF
      rw [ha, hb2, if_neg hb, if_neg hb0]
      cases decide (J.kind = kd) <;> rfl
    split
    · rfl
    · rename_i hn
      rw [Nat.zero_add]
      simp only [gJ_last]
      rw [hJ, if_neg (by simp)]
      have : ∀ (g : Nat → Bool) (m i : Nat), ¬ 0 ≤ fIx g m i → fIx g m i = -1 := fun g m => by
        induction m with
        | zero => intro i _; rfl
        | succ m ih =>
          intro i hi
          rw [fIx] at hi ⊢
          split at hi
          · omega
          · rename_i hg
            rw [if_neg hg]
            exact ih (i + 1) hi
      exact (this _ _ _ hn).symm
  · have hkl : k < l.joints.length := by omega
    simp only [gJ_left hkl]
    obtain ⟨a0, a1, b0, b1⟩ := hL.j k hkl
    unfold gjP othF
    generalize l.joints.getD k default = x at a0 a1 b0 b1
    by_cases e1 : b = x.a
    · rw [if_pos e1, hq _ (by omega)]
    · rw [if_neg e1]
      by_cases e2 : b = x.b
      · rw [if_pos e2, hq _ (by omega)]
      · rw [if_neg e2]; rfl
theorem Drn.anc {l m : Lkg} (h : Drn l m) (hL : LkIn l) {kn : List Bool} (hk : kn.length = l.bodies.length) (t : Bool) {kd b : Int} (hb : b ≠ l.bodies.length) (hb0 : b ≠ 0) : ancF m (kn ++ [t]) kd b = ancF l kn kd b :=
  h.jt hL (fun o ho => getD_snoc (by omega)) hb hb0
theorem Drn.ancN {l m : Lkg} (h : Drn l m) (hL : LkIn l) {kn : List Bool} (hk : kn.length = l.bodies.length) (h0 : kn.getD 0 false = true) (t : Bool) : ancF m (kn ++ [t]) 0 l.bodies.length = l.joints.length := by
  obtain ⟨J, hj, hkd, ha, hb2⟩ := h.j
  have hb1 := hL.b1
  unfold ancF jtF
  rw [hj, List.length_append, List.length_singleton, fIx_snoc (g := fun _ => false) _ _ (fun k _ hk => ?_)]
  · rw [if_neg (by
      have : ∀ (m i : Nat), fIx (fun _ => false) m i = -1 := fun m => by
        induction m with
        | zero => intro i; rfl
        | succ m ih => intro i; rw [fIx, if_neg (by simp)]; exact ih (i + 1)
      rw [this]; omega), Nat.zero_add]
    simp only [gJ_last]
    rw [if_pos]
    unfold gjP othF
    rw [ha, hb2, if_pos rfl, hkd]
    show (true && (true && (kn ++ [t]).getD 0 false)) = true
    rw [getD_snoc (by omega), h0]; rfl
  · have hkl : k < l.joints.length := by omega
    simp only [gJ_left hkl]
    obtain ⟨a0, a1, b0, b1⟩ := hL.j k hkl
    unfold gjP othF
    generalize l.joints.getD k default = x at a0 a1 b0 b1
    rw [if_neg (by omega), if_neg (by omega)]
    cases decide (x.kind = 0) <;> rfl
theorem fstO_snoc {α : Type} {g g' : Nat → Option α} : ∀ (m i : Nat), (∀ k, i ≤ k → k < i + m → g' k = g k) → fstO g' (m + 1) i = match fstO g m i with | some a => some a | none => g' (i + m)
  | 0, i, _ => by
    rw [fstO, fstO]
    show (match g' i with | some a => some a | none => none) = g' i
    cases g' i <;> rfl
  | m + 1, i, h => by
    rw [fstO, fstO_snoc m (i + 1) (fun k h1 h2 => h k (by omega) (by omega)), h i (Nat.le_refl _) (by omega)]
    rw [show fstO g (m + 1) i = match g i with | some a => some a | none => fstO g m (i + 1) from rfl]
    cases g i with
    | some a => rfl
    | none => simp only []; rw [show i + (m + 1) = i + 1 + m by omega]
def gN (l : Lkg) : Grp := ⟨0, [(l.bodies.length : Int)], [(l.joints.length : Int)], (l.drivers.length : Int)⟩
theorem Drn.drv {l m : Lkg} (h : Drn l m) (hL : LkIn l) {kn : List Bool} (hk : kn.length = l.bodies.length) (h0 : kn.getD 0 false = true) (t : Bool) : drvG m (kn ++ [t]) = match drvG l kn with | some g => some g | none => if t = true then none else some (gN l) := by
  obtain ⟨D, hd, hD⟩ := h.d
  have hb1 := hL.b1
  unfold drvG
  rw [hd, List.length_append, List.length_singleton, fstO_snoc (g := drvS l kn) _ _ (fun k _ hk2 => ?_)]
  · cases fstO (drvS l kn) l.drivers.length 0 with
    | some g => rfl
    | none =>
      simp only [Nat.zero_add]
      have e : m.drivers.getD l.drivers.length default = D := by rw [hd, List.getD_eq_getElem?_getD, List.getElem?_append_right (Nat.le_refl _), Nat.sub_self]; rfl
      unfold drvS
      rw [e, hD, Int.toNat_natCast, ← hk, getD_snocE, hk, h.ancN hL hk h0 t, if_pos (Int.natCast_nonneg _)]
      rfl
  · have hkl : k < l.drivers.length := by omega
    have e : m.drivers.getD k default = l.drivers.getD k default := by rw [hd, List.getD_eq_getElem?_getD, List.getElem?_append_left hkl, ← List.getD_eq_getElem?_getD]
    have hx := hL.d k hkl
    unfold drvS
    rw [e]
    generalize l.drivers.getD k default = x at hx
    rw [getD_snoc (by omega)]
    by_cases hkx : kn.getD x.body.toNat false = true
    · rw [if_pos hkx, if_pos hkx]
    · rw [if_neg hkx, if_neg hkx, h.anc hL hk t (by omega) (fun e => hkx (by rw [e]; exact h0))]
theorem Drn.fre {kn dr : List Bool} {n : Nat} (hk : kn.length = n) (hr : dr.length = n) (t : Bool) {i : Nat} (hi : i < n) : freF (kn ++ [t]) (dr ++ [true]) i = freF kn dr i := by
  unfold freF
  rw [getD_snoc (by omega), getD_snoc (by omega)]
theorem Drn.freN {kn dr : List Bool} {n : Nat} (hr : dr.length = n) (t : Bool) : freF (kn ++ [t]) (dr ++ [true]) n = false := by
  unfold freF
  rw [← hr, getD_snocE]
  cases (kn ++ [t]).getD dr.length false <;> rfl
theorem free_ne {kn dr : List Bool} (h0 : kn.getD 0 false = true) {i : Nat} (h : freF kn dr i = true) : (i : Int) ≠ 0 := fun e => by
  have e : i = 0 := by omega
  subst e
  have := freF_no h
  rw [h0] at this
  cases this
theorem Drn.sng {l m : Lkg} (h : Drn l m) (hL : LkIn l) {kn dr : List Bool} (hk : kn.length = l.bodies.length) (hr : dr.length = l.bodies.length) (h0 : kn.getD 0 false = true) (t : Bool) : sngG m (kn ++ [t]) (dr ++ [true]) = sngG l kn dr := by
  obtain ⟨J, hj, _⟩ := h.j
  unfold sngG
  rw [h.b, fstO_snoc (g := sngS l kn dr) _ _ (fun k _ hk2 => ?_)]
  · cases fstO (sngS l kn dr) l.bodies.length 0 with
    | some g => rfl
    | none =>
      simp only [Nat.zero_add]
      unfold sngS
      rw [Drn.freN hr t, if_pos rfl]
  · have hkl : k < l.bodies.length := by omega
    unfold sngS
    rw [Drn.fre hk hr t hkl]
    cases hf : freF kn dr k with
    | false => rw [if_pos rfl, if_pos rfl]
    | true =>
      have e0 : ¬ (true = false) := by simp
      rw [if_neg e0, if_neg e0, h.anc hL hk t (by omega) (free_ne h0 hf), h.anc hL hk t (by omega) (free_ne h0 hf)]
      by_cases hab : ancF l kn 0 k < 0 ∨ ancF l kn 1 k < 0
      · rw [if_pos hab, if_pos hab]
      · rw [if_neg hab, if_neg hab, hj, gJ_left (k := (ancF l kn 1 k).toNat) (jtF_lt (show 0 ≤ ancF l kn 1 k by omega))]
theorem prIn_snoc {fr fr' : Nat → Bool} {i n : Nat} (hi : fr' i = fr i) (hn : fr' n = false) : ∀ (m j : Nat), j + m = n → (∀ k, j ≤ k → k < n → fr' k = fr k) → prIn fr' i (m + 1) j = prIn fr i m j
  | 0, j, e, _ => by
    have : j = n := by omega
    subst this
    rw [prIn, prIn, prIn, hn, Bool.and_false]
    rfl
  | m + 1, j, e, h => by
    rw [prIn, prIn_snoc hi hn m (j + 1) (by omega) (fun k h1 h2 => h k (by omega) h2), hi, h j (Nat.le_refl _) (by omega)]
    rfl
theorem prOut_snoc {fr fr' : Nat → Bool} {n : Nat} (hn : fr' n = false) : ∀ (m i : Nat), i + m = n → (∀ k, i ≤ k → k < n → fr' k = fr k) → prOut fr' (n + 1) (m + 1) i = prOut fr n m i
  | 0, i, e, _ => by
    have : i = n := by omega
    subst this
    rw [prOut, prOut, prOut, Nat.sub_self, prIn]
    rfl
  | m + 1, i, e, h => by
    rw [prOut, prOut_snoc hn m (i + 1) (by omega) (fun k h1 h2 => h k (by omega) h2), show n + 1 - (i + 1) = (n - (i + 1)) + 1 by omega, prIn_snoc (h i (Nat.le_refl _) (by omega)) hn (n - (i + 1)) (i + 1) (by omega) (fun k h1 h2 => h k (by omega) h2)]
    rfl
theorem findS_congr {α β : Type} {f g : α → Option β} : ∀ {l : List α}, (∀ x, x ∈ l → f x = g x) → l.findSome? f = l.findSome? g
  | [], _ => rfl
  | x :: l, h => by
    rw [List.findSome?_cons, List.findSome?_cons, h x List.mem_cons_self, findS_congr (fun y hy => h y (List.mem_cons_of_mem _ hy))]
theorem Drn.par {l m : Lkg} (h : Drn l m) (hL : LkIn l) {kn dr : List Bool} (hk : kn.length = l.bodies.length) (hr : dr.length = l.bodies.length) (h0 : kn.getD 0 false = true) (t : Bool) : parG m (kn ++ [t]) (dr ++ [true]) = parG l kn dr := by
  unfold parG prsF
  rw [h.b, prOut_snoc (fr := freF kn dr) (Drn.freN hr t) l.bodies.length 0 (by omega) (fun k _ hk2 => Drn.fre hk hr t hk2)]
  refine findS_congr (fun p hp => ?_)
  obtain ⟨hi, hj, hf, hf2⟩ := prsF_mem (show p ∈ prsF (freF kn dr) l.bodies.length from hp)
  unfold parS
  rw [h.anc hL hk t (by omega) (free_ne h0 hf), h.anc hL hk t (by omega) (free_ne h0 hf2), h.jt hL (q := fun o : Nat => decide ((o : Int) = p.2)) (fun _ _ => rfl) (by omega) (free_ne h0 hf)]
theorem Drn.nxt {l m : Lkg} (h : Drn l m) (hL : LkIn l) {kn dr : List Bool} (hk : kn.length = l.bodies.length) (hr : dr.length = l.bodies.length) (h0 : kn.getD 0 false = true) (t : Bool) :
    nxtG m (kn ++ [t]) (dr ++ [true]) = match drvG l kn with | some g => some g | none => if t = true then nxtG l kn dr else some (gN l) := by
  unfold nxtG
  rw [h.drv hL hk h0 t, h.par hL hk hr h0 t, h.sng hL hk hr h0 t]
  cases drvG l kn with
  | some g => rfl
  | none => cases t <;> rfl
structure DRel (s s' : FSt) (t : Bool) : Prop where
  k : s'.kn = s.kn ++ [t]
  u : s'.us = s.us ++ [t]
theorem Drn.step {l : Lkg} (hL : LkIn l) {kn dr : List Bool} {s s' : FSt} {t : Bool} (hr : DRel s s' t) (hk : s.kn.length = l.bodies.length) (hu : s.us.length = l.joints.length) {g : Grp} (hg : nxtG l kn dr = some g) :
    DRel ⟨setTs s.kn g.bs, setTs s.us g.js, s.gs ++ [g]⟩ ⟨setTs s'.kn g.bs, setTs s'.us g.js, s'.gs ++ [g]⟩ t := by
  obtain ⟨h1, h2, _⟩ := nxtG_in hL hg
  exact ⟨by show setTs s'.kn g.bs = _; rw [hr.k, setTs_snoc (fun x hx => by have := h1 x hx; omega)], by show setTs s'.us g.js = _; rw [hr.u, setTs_snoc (fun x hx => by have := h2 x hx; omega)]⟩
theorem fgo_some {l : Lkg} {dr : List Bool} {s : FSt} {g : Grp} (h : nxtG l s.kn dr = some g) (m : Nat) : fgo l dr (m + 1) s = fgo l dr m ⟨setTs s.kn g.bs, setTs s.us g.js, s.gs ++ [g]⟩ := by
  rw [fgo]; simp only [h]
theorem Drn.goT {l m : Lkg} (h : Drn l m) (hL : LkIn l) {dr : List Bool} (hr : dr.length = l.bodies.length) : ∀ (k : Nat) (s s' : FSt), DRel s s' true → s.kn.length = l.bodies.length → s.us.length = l.joints.length → s.kn.getD 0 false = true → DRel (fgo l dr k s) (fgo m (dr ++ [true]) k s') true
  | 0, s, s', hd, _, _, _ => hd
  | k + 1, s, s', hd, hk, hu, h0 => by
    have hn := h.nxt hL hk hr h0 true
    rw [← hd.k] at hn
    have hn : nxtG m s'.kn (dr ++ [true]) = nxtG l s.kn dr := by
      rw [hn]
      cases hdg : drvG l s.kn with
      | some g => unfold nxtG; rw [hdg]
      | none => rfl
    cases hx : nxtG l s.kn dr with
    | none => rw [hx] at hn; rw [fgo_end hx, fgo_end hn]; exact hd
    | some g =>
      rw [hx] at hn
      rw [fgo_some hx, fgo_some hn]
      exact Drn.goT h hL hr k _ _ (Drn.step hL hd hk hu hx) (by show (setTs s.kn g.bs).length = _; rw [setTs_length, hk]) (by show (setTs s.us g.js).length = _; rw [setTs_length, hu]) (setTs_mono h0)
theorem Drn.goF {l m : Lkg} (h : Drn l m) (hL : LkIn l) {dr : List Bool} (hr : dr.length = l.bodies.length) : ∀ (k : Nat) (s s' : FSt), DRel s s' false → s.kn.length = l.bodies.length → s.us.length = l.joints.length → s.kn.getD 0 false = true → cF s.kn ≤ k → DRel (fgo l dr k s) (fgo m (dr ++ [true]) (k + 1) s') true := by
  intro k
  have hstep : ∀ (s s' : FSt), DRel s s' false → s.kn.length = l.bodies.length → s.us.length = l.joints.length → s.kn.getD 0 false = true → drvG l s.kn = none → ∀ j, ∃ s'', DRel s s'' true ∧ fgo m (dr ++ [true]) (j + 1) s' = fgo m (dr ++ [true]) j s'' := fun s s' hd hk hu h0 hdg j => by
    have hn := h.nxt hL hk hr h0 false
    rw [← hd.k, hdg] at hn
    have hn : nxtG m s'.kn (dr ++ [true]) = some (gN l) := hn
    refine ⟨_, ⟨?_, ?_⟩, fgo_some hn j⟩
    · show s'.kn.set ((l.bodies.length : Int)).toNat true = _
      rw [hd.k, Int.toNat_natCast, ← hk, set_snoc]
    · show s'.us.set ((l.joints.length : Int)).toNat true = _
      rw [hd.u, Int.toNat_natCast, ← hu, set_snoc]
  induction k with
  | zero =>
    intro s s' hd hk hu h0 hc
    have hnone : nxtG l s.kn dr = none := by
      cases hx : nxtG l s.kn dr with
      | none => rfl
      | some g => have := fgo_step hL hk hx; omega
    have hdg : drvG l s.kn = none := by
      cases hx : drvG l s.kn with
      | none => rfl
      | some g => unfold nxtG at hnone; rw [hx] at hnone; cases hnone
    obtain ⟨s'', h1, h2⟩ := hstep s s' hd hk hu h0 hdg 0
    rw [h2]
    exact h1
  | succ k ih =>
    intro s s' hd hk hu h0 hc
    cases hdg : drvG l s.kn with
    | none =>
      obtain ⟨s'', h1, h2⟩ := hstep s s' hd hk hu h0 hdg (k + 1)
      rw [h2]
      exact h.goT hL hr (k + 1) s s'' h1 hk hu h0
    | some g =>
      have hx : nxtG l s.kn dr = some g := by unfold nxtG; rw [hdg]
      have hn := h.nxt hL hk hr h0 false
      rw [← hd.k, hdg] at hn
      have hn : nxtG m s'.kn (dr ++ [true]) = some g := hn
      rw [fgo_some hx, fgo_some hn]
      have := fgo_step hL hk hx
      exact ih _ _ (Drn.step hL hd hk hu hx) (by show (setTs s.kn g.bs).length = _; rw [setTs_length, hk]) (by show (setTs s.us g.js).length = _; rw [setTs_length, hu]) (setTs_mono h0) (by show cF (setTs s.kn g.bs) ≤ k; omega)
theorem anyN_snoc (l : List Bool) : anyN (l ++ [true]) = anyN l := by
  cases h1 : anyN l
  · have e := anyN_all h1
    cases h2 : anyN (l ++ [true])
    · rfl
    · exfalso
      have h0 : 0 ≤ fIx (fun i => false == (l ++ [true]).getD i false) (l ++ [true]).length 0 := of_decide_eq_true h2
      obtain ⟨_, h3, h4⟩ := fIx_lt h0
      rw [e, show List.replicate l.length true ++ [true] = List.replicate (l.length + 1) true from List.replicate_succ'.symm] at h3 h4
      generalize (fIx (fun i => false == (List.replicate (l.length + 1) true).getD i false) (List.replicate (l.length + 1) true).length 0).toNat = k at h3 h4
      rw [List.length_replicate] at h3
      rw [List.getD_eq_getElem?_getD, List.getElem?_replicate, if_pos (by omega)] at h4
      cases h4
  · have h0 : 0 ≤ fIx (fun i => false == l.getD i false) l.length 0 := of_decide_eq_true h1
    obtain ⟨_, h3, h4⟩ := fIx_lt h0
    have h5 : l.getD (fIx (fun i => false == l.getD i false) l.length 0).toNat false = false := by
      cases hv : l.getD (fIx (fun i => false == l.getD i false) l.length 0).toNat false
      · rfl
      · rw [hv] at h4; cases h4
    exact anyN_of (k := (fIx (fun i => false == l.getD i false) l.length 0).toNat) (by rw [List.length_append]; omega) (by rw [getD_snoc (by omega)]; exact h5)
/-- With a driven body more a linkage dissolves exactly if it did. -/
theorem more_driven {l m : Lkg} (hL : LkIn l) (h : Drn l m) : (anyN (findF m).kn || anyN (findF m).us) = (anyN (findF l).kn || anyN (findF l).us) := by
  obtain ⟨J, hj, _⟩ := h.j
  obtain ⟨D, hd, hD⟩ := h.d
  have hb1 := hL.b1
  have hdr : drvB m = drvB l ++ [true] := by
    unfold drvB
    rw [h.b, hd, List.map_append, setTs_append, repl_snoc, setTs_snoc (fun x hx => by
      obtain ⟨i, hi, rfl⟩ := drv_mem hx
      have := hL.d i hi
      rw [List.length_replicate]; omega)]
    show (setTs (List.replicate l.bodies.length false) (l.drivers.map Driver.body) ++ [false]).set D.body.toNat true = _
    have e : l.bodies.length = (setTs (List.replicate l.bodies.length false) (l.drivers.map Driver.body)).length := by rw [setTs_length, List.length_replicate]
    rw [hD, Int.toNat_natCast]
    conv => lhs; arg 2; rw [e]
    rw [set_snoc]
  have hrl : (drvB l).length = l.bodies.length := by unfold drvB; rw [setTs_length, List.length_replicate]
  have key := h.goF hL hrl l.bodies.length ⟨(List.replicate l.bodies.length false).set 0 true, List.replicate l.joints.length false, []⟩ ⟨(List.replicate m.bodies.length false).set 0 true, List.replicate m.joints.length false, []⟩
    ⟨by show (List.replicate m.bodies.length false).set 0 true = (List.replicate l.bodies.length false).set 0 true ++ [false]; rw [h.b, repl_snoc, List.set_append, if_pos (by rw [List.length_replicate]; exact hb1)], by show List.replicate m.joints.length false = _; rw [hj, List.length_append]; exact repl_snoc _⟩
    (by simp) (by simp) (getD_set_self (by rw [List.length_replicate]; exact hb1)) (by
      refine Nat.le_trans (cF_le _) ?_
      rw [List.length_set, List.length_replicate]; exact Nat.le_refl _)
  have e : findF m = fgo m (drvB l ++ [true]) (l.bodies.length + 1) ⟨(List.replicate m.bodies.length false).set 0 true, List.replicate m.joints.length false, []⟩ := by unfold findF; rw [hdr, h.b]
  rw [e, key.k, key.u, anyN_snoc, anyN_snoc]
  rfl
end Lift
/- The model's reading: points, squares of distances. -/
namespace Lift
open Go Go.Proofs

abbrev ratZ : D := .ag [dB false, .sl 1 [], .sl 1 []]
end Lift
/- The statements' helpers: numbers of errors, equal words, equal fractions, sizes. -/
namespace Lift
open Go Go.Proofs

theorem base_Num_ok (n : Nat) : Pure Try.prog 22 [erV n] (dI n) := by
  refine Pure.intro (n := 15) tok Try.func22 rfl rfl rfl (Nat.le_of_ble_eq_true rfl) (by kernel_rfl) (fun B F0 w0 => ?_)
  cases n with
  | zero =>
    refine AW.seq ?_
    refine AW.region ?_   -- "base.go:10"
    refine AOps.run tok 1 _ _ _ _ rfl ?_
    refine AOps.nil ?_
    refine AW.seq ?_
    refine AW.seq ?_
    refine AW.region ?_   -- "base.go:11"
    refine AOps.run tok 1 _ _ _ _ rfl ?_
    refine AOps.err tok rfl rfl rfl rfl rfl ?_
    refine AOps.nil ?_
    refine AW.condT rfl ?_
    refine AW.seq ?_
    refine AW.region ?_   -- "base.go:12"
    refine AOps.run tok 1 _ _ _ _ rfl ?_
    refine AOps.nil ?_
    exact AW.ret rfl
  | succ m =>
    refine AW.seq ?_
    refine AW.region ?_   -- "base.go:10"
    refine AOps.run tok 1 _ _ _ _ rfl ?_
    refine AOps.nil ?_
    refine AW.seq ?_
    refine AW.seq ?_
    refine AW.region ?_   -- "base.go:11"
    refine AOps.run tok 1 _ _ _ _ rfl ?_
    refine AOps.err tok rfl rfl rfl rfl rfl ?_
    refine AOps.nil ?_
    refine AW.condF rfl ?_
    refine AW.skip ?_
    refine AW.seq ?_
    refine AW.region ?_   -- "base.go:14"
    refine AOps.run tok 1 _ _ _ _ rfl ?_
    refine AOps.ta tok rfl rfl rfl rfl ?_
    refine AOps.run tok 5 _ _ _ _ rfl ?_
    refine AOps.nil ?_
    refine AW.seq ?_
    refine AW.seq ?_
    refine AW.region ?_   -- "base.go:15"
    refine AOps.run tok 2 _ _ _ _ rfl ?_
    refine AOps.nil ?_
    refine AW.condF rfl ?_
    refine AW.skip ?_
    refine AW.seq ?_
    refine AW.region ?_   -- "base.go:18"
    refine AOps.run tok 2 _ _ _ _ rfl ?_
    refine AOps.nil ?_
    exact AW.ret rfl

theorem base_Is_ok (n m : Nat) : Pure Try.prog 11 [erV n, dI m] (dB (decide (n = m))) := by
  refine Pure.intro (n := 9) tok Try.func11 rfl rfl rfl (Nat.le_of_ble_eq_true rfl) (by kernel_rfl) (fun B F0 w0 => ?_)
  refine AW.seq ?_
  refine AW.region ?_   -- "base.go:7"
  refine AOps.run tok 1 _ _ _ _ rfl ?_
  refine AOps.nil ?_
  refine AW.seq ?_
  refine AW.region ?_   -- "base.go:7"
  refine AOps.run tok 1 _ _ _ _ rfl ?_
  refine AOps.call tok rfl rfl rfl rfl (base_Num_ok n) ?_
  refine AOps.run tok 3 _ _ _ _ rfl ?_
  refine AOps.nil ?_
  rw [show decide (n = m) = ((n : Int) == (m : Int)) by rw [Bool.eq_iff_iff]; simp only [decide_eq_true_eq, beq_iff_eq]; omega]
  exact AW.ret rfl

def ptL (p : Mark) : Bool := decide (12 < p.x.n.length + p.x.d.length + p.y.n.length + p.y.d.length)
def bdL (b : Body) : Bool := decide (40 < b.pts.length) || anyF (fun k => ptL (b.pts.getD k default)) b.pts.length 0
def bsL (bs : List Body) : Bool := anyF (fun i => bdL (bs.getD i default)) bs.length 0
def largeB (l : Lkg) : Bool := decide (40 < l.bodies.length ∨ 60 < l.joints.length ∨ 40 < l.drivers.length) || bsL l.bodies
theorem anyF_false {g : Nat → Bool} : ∀ {m i : Nat}, anyF g m i = false → ∀ k, i ≤ k → k < i + m → g k = false
  | 0, i, _, k, h1, h2 => by omega
  | m + 1, i, h, k, h1, h2 => by
    rw [anyF, Bool.or_eq_false_iff] at h
    rcases Nat.eq_or_lt_of_le h1 with e | e
    · rw [← e]; exact h.1
    · exact anyF_false h.2 k e (by omega)
theorem Lkg.ok.small {l : Lkg} {K : Nat} (hl : l.ok K) (h : largeB l = false) : l.ok 12 := by
  unfold largeB at h
  rw [Bool.or_eq_false_iff] at h
  have h2 := h.2
  refine ⟨hl.nm, hl.nb, hl.nj, hl.nd, fun i => ?_, hl.j, hl.d⟩
  obtain ⟨b1, b2, b3⟩ := hl.b i
  refine ⟨b1, b2, fun k => ?_⟩
  obtain ⟨p1, p2, p3⟩ := b3 k
  have hdef : (default : Mark).ok 12 := ⟨by decide, ⟨W32.nil, W32.nil, by decide, by decide⟩, ⟨W32.nil, W32.nil, by decide, by decide⟩⟩
  by_cases hi : i < l.bodies.length
  · have h3 := anyF_false h2 i (Nat.zero_le _) (by omega)
    unfold bdL at h3
    rw [Bool.or_eq_false_iff] at h3
    by_cases hk : k < (l.bodies.getD i default).pts.length
    · have h4 := of_decide_eq_false (anyF_false h3.2 k (Nat.zero_le _) (by omega))
      exact ⟨p1, ⟨p2.1, p2.2.1, by omega, by omega⟩, ⟨p3.1, p3.2.1, by omega, by omega⟩⟩
    · rw [show (l.bodies.getD i default).pts.getD k default = default by rw [List.getD_eq_getElem?_getD, List.getElem?_eq_none (by omega)]; rfl]
      exact hdef
  · rw [show l.bodies.getD i default = default by rw [List.getD_eq_getElem?_getD, List.getElem?_eq_none (by omega)]; rfl]
    exact hdef
end Lift
/- Groups: what is short enough. -/
namespace Lift
open Go Go.Proofs

def lgP (p : Mark) : Bool := decide (4 < p.x.n.length ∨ 4 < p.x.d.length ∨ 4 < p.y.n.length ∨ 4 < p.y.d.length)
def lgB (b : Body) : Bool := decide (30 < b.pts.length) || anyF (fun k => lgP (b.pts.getD k default)) b.pts.length 0
def lightB (l : Lkg) : Bool := !(anyF (fun i => lgB (l.bodies.getD i default)) l.bodies.length 0) && decide (l.bodies.length ≤ 30 ∧ l.joints.length ≤ 60 ∧ l.drivers.length ≤ 30)
set_option maxHeartbeats 1600000 in
theorem law25_Light_ok (l : Lkg) {K : Nat} (hl : l.ok K) (hK : K ≤ big) : Pure Try.prog 7 [l.D] (dB (lightB l)) := by
  refine Pure.intro (n := 69) tok Try.func7 rfl rfl rfl (Nat.le_of_ble_eq_true rfl) (by kernel_rfl) (fun B F0 w0 => ?_)
  obtain ⟨ln, bs, js, ds⟩ := l
  have hb := hl.b
  have hn := hl.nb
  have hL : lightB ⟨ln, bs, js, ds⟩ = (!(anyF (fun i => lgB (bs.getD i default)) bs.length 0) && decide (bs.length ≤ 30 ∧ js.length ≤ 60 ∧ ds.length ≤ 30)) := rfl
  generalize lightB ⟨ln, bs, js, ds⟩ = E at *
  simp only [] at hb hn
  unfold big at hn hK
  show AW _ _ _ _ _ _ _ (initSt 0 [D.ag [dS ln, BodiesD bs, JointsD js, DriversD ds]])
  refine AW.seq ?_
  refine AW.region ?_   -- "law.go:44"
  refine AOps.run tok 2 _ _ _ _ rfl ?_
  refine AOps.nil ?_
  refine AW.seq ?_
  refine AW.seq ?_
  refine AW.region ?_   -- "law.go:45"
  refine AOps.run tok 3 _ _ _ _ rfl ?_
  rw [List.length_map]
  refine AOps.run tok 1 _ _ _ _ rfl ?_
  refine AOps.nil ?_
  refine AW.block ?_   -- block 0
  refine AW.loopS [1, 8, 9, 10] (fun i : Nat => [(1, .bx [dS ln, BodiesD bs, JointsD js, DriversD ds]), (8, .d (BodiesD bs)), (9, .d (dI bs.length)), (10, .d (dI i))])
     (fun i => i ≤ bs.length ∧ E = (!(anyF (fun i => lgB (bs.getD i default)) (bs.length - i) i) && decide (bs.length ≤ 30 ∧ js.length ≤ 60 ∧ ds.length ≤ 30))) (fun i => bs.length - i) 0 rfl ⟨Nat.zero_le _, hL⟩ (fun i ⟨hi, hE⟩ => ?_)
  · skip
    refine AW.seq ?_
    refine AW.region ?_   -- "law.go:45"
    refine AOps.run tok 1 _ _ _ _ rfl ?_
    refine AOps.nil ?_
    refine AW.seq ?_
    refine AW.cond rfl (fun h => ?_) (fun h => ?_)
    · have hin : i < bs.length := by have := of_decide_eq_true h; omega
      obtain ⟨_, bok2, bok3⟩ := hb i
      have hgt := getM Body.D hin
      have hbd : lgB (bs.getD i default) = true → E = false := fun e => by rw [hE, anyF_hit (f := fun i => lgB (bs.getD i default)) hin e]; rfl
      have hbm : lgB (bs.getD i default) = false → E = (!(anyF (fun i => lgB (bs.getD i default)) (bs.length - (i + 1)) (i + 1)) && decide (bs.length ≤ 30 ∧ js.length ≤ 60 ∧ ds.length ≤ 30)) := fun e => by rw [hE, anyF_miss (f := fun i => lgB (bs.getD i default)) hin e]
      generalize bs.getD i default = b at bok2 bok3 hbd hbm hgt
      unfold big at bok2
      have hbl : lgB b = (decide (30 < b.pts.length) || anyF (fun k => lgP (b.pts.getD k default)) b.pts.length 0) := rfl
      refine AW.skip ?_
      refine AW.seq ?_
      refine AW.block ?_   -- block 1
      refine AW.seq ?_
      refine AW.region ?_   -- "law.go:45"
      refine AOps.idx tok b.D rfl rfl rfl rfl (Int.natCast_nonneg i) hgt ?_
      refine AOps.run tok 3 _ _ _ _ rfl ?_
      refine AOps.nil ?_
      refine AW.seq ?_
      refine AW.seq ?_
      refine AW.region ?_   -- "law.go:46"
      refine AOps.run tok 3 _ _ _ _ rfl ?_
      rw [List.length_map]
      refine AOps.run tok 1 _ _ _ _ rfl ?_
      refine AOps.nil ?_
      refine AW.cond rfl (fun h => ?_) (fun h => ?_)
      · have h40 : 30 < b.pts.length := by have := of_decide_eq_true h; omega
        rw [hbd (by rw [hbl, decide_eq_true h40]; rfl)]
        refine AW.seq ?_
        refine AW.region ?_   -- "law.go:47"
        refine AOps.run tok 1 _ _ _ _ rfl ?_
        refine AOps.nil ?_
        exact AW.ret rfl
      · have h40 : ¬ 30 < b.pts.length := by have := of_decide_eq_false h; omega
        rw [decide_eq_false h40, Bool.false_or] at hbl
        refine AW.skip ?_
        refine AW.seq ?_
        refine AW.region ?_   -- "law.go:49"
        refine AOps.run tok 3 _ _ _ _ rfl ?_
        rw [List.length_map]
        refine AOps.run tok 1 _ _ _ _ rfl ?_
        refine AOps.nil ?_
        refine AW.block ?_   -- block 2
        refine AW.loopS [1, 8, 9, 10, 19, 20, 21] (fun k : Nat => [(1, .bx [dS ln, BodiesD bs, JointsD js, DriversD ds]), (8, .d (BodiesD bs)), (9, .d (dI bs.length)), (10, .d (dI i)), (19, .d (PtsD b.pts)), (20, .d (dI b.pts.length)), (21, .d (dI k))])
           (fun k => k ≤ b.pts.length ∧ lgB b = anyF (fun k => lgP (b.pts.getD k default)) (b.pts.length - k) k) (fun k => b.pts.length - k) 0 rfl ⟨Nat.zero_le _, hbl⟩ (fun k ⟨hk, hP⟩ => ?_)
        · skip
          refine AW.seq ?_
          refine AW.region ?_   -- "law.go:49"
          refine AOps.run tok 1 _ _ _ _ rfl ?_
          refine AOps.nil ?_
          refine AW.seq ?_
          refine AW.cond rfl (fun h => ?_) (fun h => ?_)
          · have hkn : k < b.pts.length := by have := of_decide_eq_true h; omega
            have hpt := getM Mark.D hkn
            have hph : lgP (b.pts.getD k default) = true → lgB b = true := fun e => hP.trans (anyF_hit hkn e)
            have hpm : lgP (b.pts.getD k default) = false → lgB b = anyF (fun k => lgP (b.pts.getD k default)) (b.pts.length - (k + 1)) (k + 1) := fun e => hP.trans (anyF_miss hkn e)
            generalize b.pts.getD k default = p at hpt hph hpm
            have hlp : lgP p = decide (4 < p.x.n.length ∨ 4 < p.x.d.length ∨ 4 < p.y.n.length ∨ 4 < p.y.d.length) := rfl
            generalize lgP p = q at hph hpm hlp
            refine AW.skip ?_
            refine AW.seq ?_
            refine AW.block ?_   -- block 3
            refine AW.seq ?_
            refine AW.region ?_   -- "law.go:49"
            refine AOps.idx tok p.D rfl rfl rfl rfl (Int.natCast_nonneg k) hpt ?_
            refine AOps.run tok 3 _ _ _ _ rfl ?_
            refine AOps.nil ?_
            refine AW.cut [1, 8, 9, 10, 19, 20, 21, 50] (fun _ : Unit => [(1, .bx [dS ln, BodiesD bs, JointsD js, DriversD ds]), (8, .d (BodiesD bs)), (9, .d (dI bs.length)), (10, .d (dI i)), (19, .d (PtsD b.pts)), (20, .d (dI b.pts.length)), (21, .d (dI k)), (50, .d (dB q))]) (fun _ => True) ?_ (fun _ _ => ?_)
            · refine AW.region ?_
              refine AOps.run tok 6 _ _ _ _ rfl ?_
              rw [lenWd]
              refine AOps.split (t := 30) rfl (fun h => ?_) (fun h => ?_)
              · have h1 := of_decide_eq_true h
                refine AOps.run tok 20 _ _ _ _ rfl ?_
                refine AOps.nil ?_
                exact ⟨(), by rw [show q = true by rw [hlp, decide_eq_true_eq]; omega]; rfl, trivial⟩
              have h1 := of_decide_eq_false h
              refine AOps.run tok 7 _ _ _ _ rfl ?_
              rw [lenWd]
              refine AOps.split (t := 37) rfl (fun h => ?_) (fun h => ?_)
              · have h2 := of_decide_eq_true h
                refine AOps.run tok 13 _ _ _ _ rfl ?_
                refine AOps.nil ?_
                exact ⟨(), by rw [show q = true by rw [hlp, decide_eq_true_eq]; omega]; rfl, trivial⟩
              have h2 := of_decide_eq_false h
              refine AOps.run tok 7 _ _ _ _ rfl ?_
              rw [lenWd]
              refine AOps.split (t := 44) rfl (fun h => ?_) (fun h => ?_)
              · have h3 := of_decide_eq_true h
                refine AOps.run tok 6 _ _ _ _ rfl ?_
                refine AOps.nil ?_
                exact ⟨(), by rw [show q = true by rw [hlp, decide_eq_true_eq]; omega]; rfl, trivial⟩
              have h3 := of_decide_eq_false h
              refine AOps.run tok 6 _ _ _ _ rfl ?_
              rw [lenWd]
              refine AOps.nil ?_
              exact ⟨(), by rw [show q = decide ((p.y.d.length : Int) > 4) by rw [hlp, decide_eq_decide]; omega]; rfl, trivial⟩
            refine AW.cond rfl (fun h => ?_) (fun h => ?_)
            · rw [hbd (hph h)]
              refine AW.seq ?_
              refine AW.region ?_   -- "law.go:51"
              refine AOps.run tok 1 _ _ _ _ rfl ?_
              refine AOps.nil ?_
              exact AW.ret rfl
            · skip
              refine AW.skip ?_
              refine AW.region ?_   -- "law.go:49"
              refine AOps.run tok 1 _ _ _ _ rfl ?_
              rw [wI64 (x := (k : Int) + 1) (by omega) (by omega)]
              refine AOps.run tok 1 _ _ _ _ rfl ?_
              refine AOps.nil ?_
              exact ⟨k + 1, rfl, ⟨hkn, hpm h⟩, by omega⟩
          have hkn : ¬ k < b.pts.length := by have := of_decide_eq_false h; omega
          refine AW.exit ?_
            -- exit 2
          -- END OF BODY; what follows the loop (from its exit):
          refine AW.region ?_   -- "law.go:45"
          refine AOps.run tok 1 _ _ _ _ rfl ?_
          rw [wI64 (x := (i : Int) + 1) (by omega) (by omega)]
          refine AOps.run tok 1 _ _ _ _ rfl ?_
          refine AOps.nil ?_
          exact ⟨i + 1, rfl, ⟨hin, hbm (hP.trans (anyF_end hkn))⟩, by omega⟩
    have hin : ¬ i < bs.length := by have := of_decide_eq_false h; omega
    have hE2 : E = decide (bs.length ≤ 30 ∧ js.length ≤ 60 ∧ ds.length ≤ 30) := by rw [hE, anyF_end (f := fun i => lgB (bs.getD i default)) hin]; rfl
    refine AW.exit ?_
      -- exit 0
    -- END OF BODY; what follows the loop (from its exit):
    refine AW.seq ?_
    refine AW.region ?_   -- "law.go:55"   -- GUARDS
    refine AOps.run tok 3 _ _ _ _ rfl ?_
    rw [List.length_map]
    refine AOps.run tok 2 _ _ _ _ rfl ?_
    refine AOps.split (t := 57) rfl (fun h => ?_) (fun h => ?_)
    rotate_left
    · have h1 := of_decide_eq_false h
      rw [hE2, show decide (bs.length ≤ 30 ∧ js.length ≤ 60 ∧ ds.length ≤ 30) = false by rw [decide_eq_false_iff_not]; omega]
      refine AOps.run tok 12 _ _ _ _ rfl ?_
      refine AOps.nil ?_
      exact AW.ret rfl
    have h1 := of_decide_eq_true h
    refine AOps.run tok 3 _ _ _ _ rfl ?_
    rw [List.length_map]
    refine AOps.run tok 3 _ _ _ _ rfl ?_
    refine AOps.split (t := 63) rfl (fun h => ?_) (fun h => ?_)
    rotate_left
    · have h2 := of_decide_eq_false h
      rw [hE2, show decide (bs.length ≤ 30 ∧ js.length ≤ 60 ∧ ds.length ≤ 30) = false by rw [decide_eq_false_iff_not]; omega]
      refine AOps.run tok 6 _ _ _ _ rfl ?_
      refine AOps.nil ?_
      exact AW.ret rfl
    have h2 := of_decide_eq_true h
    refine AOps.run tok 3 _ _ _ _ rfl ?_
    rw [List.length_map]
    refine AOps.run tok 3 _ _ _ _ rfl ?_
    rw [hE2, show decide (bs.length ≤ 30 ∧ js.length ≤ 60 ∧ ds.length ≤ 30) = decide ((ds.length : Int) ≤ 30) by rw [decide_eq_decide]; omega]
    refine AOps.nil ?_
    exact AW.ret rfl
end Lift
/- The model's reading, more: bodies by name, joints and driver of a body; lists of numbers compared. -/
namespace Lift
open Go Go.Proofs

abbrev IsD (l : List Int) : D := .sl 1 (l.map (fun n => dI n))
theorem getI {l : List Int} {i : Nat} (h : i < l.length) : (l.map (fun n => dI n))[((i : Int)).toNat]? = some (dI (l.getD i 0)) := by
  simp [h]
theorem ext_getI {a b : List Int} (hl : a.length = b.length) (h : ∀ k, k < a.length → a.getD k 0 = b.getD k 0) : a = b := by
  refine List.ext_getElem hl (fun k h1 h2 => ?_)
  have := h k h1
  simpa [h1, h2] using this
set_option maxHeartbeats 800000 in
theorem base_Ints_ok (a b : List Int) (ha : a.length ≤ big) : Pure Try.prog 25 [IsD a, IsD b] (dB (decide (a = b))) := by
  refine Pure.intro (n := 26) tok Try.func25 rfl rfl rfl (Nat.le_of_ble_eq_true rfl) (by kernel_rfl) (fun B F0 w0 => ?_)
  unfold big at ha
  refine AW.seq ?_
  refine AW.region ?_   -- "base.go:22"
  refine AOps.run tok 1 _ _ _ _ rfl ?_
  refine AOps.nil ?_
  refine AW.seq ?_
  refine AW.seq ?_
  refine AW.region ?_   -- "base.go:23"
  refine AOps.run tok 5 _ _ _ _ rfl ?_
  rw [List.length_map, List.length_map]
  refine AOps.nil ?_
  refine AW.cond rfl (fun h => ?_) (fun h => ?_)
  · have hne : a ≠ b := by rintro rfl; simp at h
    rw [decide_eq_false hne]
    refine AW.seq ?_
    refine AW.region ?_   -- "base.go:24"
    refine AOps.run tok 1 _ _ _ _ rfl ?_
    refine AOps.nil ?_
    exact AW.ret rfl
  · have hlen : a.length = b.length := by
      have : (a.length : Int) = b.length := by simpa using h
      omega
    refine AW.skip ?_
    refine AW.seq ?_
    refine AW.seq ?_
    refine AW.region ?_   -- "base.go:26"
    refine AOps.run tok 1 _ _ _ _ rfl ?_
    refine AOps.nil ?_
    refine AW.block ?_   -- block 0
    refine AW.loopS [0, 1, 5] (fun i : Nat => [(0, .d (IsD a)), (1, .d (IsD b)), (5, .d (dI i))]) (fun i => i ≤ a.length ∧ ∀ k, k < i → a.getD k 0 = b.getD k 0) (fun i => a.length - i) 0 rfl
      ⟨Nat.zero_le _, fun k hk => by omega⟩ (fun i ⟨hi, hI⟩ => ?_)
    · skip
      refine AW.seq ?_
      refine AW.seq ?_
      refine AW.region ?_   -- "base.go:26"
      refine AOps.run tok 4 _ _ _ _ rfl ?_
      rw [List.length_map]
      refine AOps.nil ?_
      refine AW.cond rfl (fun h => ?_) (fun h => ?_)
      · have hin : i < a.length := by have := of_decide_eq_true h; omega
        refine AW.skip ?_
        refine AW.seq ?_
        refine AW.block ?_   -- block 1
        refine AW.seq ?_
        refine AW.draw hmix 9 (by kernel_rfl) ?_   -- "base.go:27"
        refine APre.run tok 2 _ _ _ _ rfl ?_
        refine APre.idx tok (dI (a.getD i 0)) rfl rfl rfl rfl rfl (Int.natCast_nonneg i) (getI hin) ?_
        refine APre.run tok 3 _ _ _ _ rfl ?_
        refine APre.idx tok (dI (b.getD i 0)) rfl rfl rfl rfl rfl (Int.natCast_nonneg i) (getI (by omega)) ?_
        refine APre.run tok 2 _ _ _ _ rfl ?_
        refine APre.nil ?_
        refine AOps.nil ?_
        refine AW.cond rfl (fun h => ?_) (fun h => ?_)
        · have hne : a ≠ b := by rintro rfl; simp at h
          rw [decide_eq_false hne]
          refine AW.seq ?_
          refine AW.region ?_   -- "base.go:28"
          refine AOps.run tok 1 _ _ _ _ rfl ?_
          refine AOps.nil ?_
          exact AW.ret rfl
        · have he : a.getD i 0 = b.getD i 0 := by simpa using h
          refine AW.skip ?_
          refine AW.region ?_   -- "base.go:26"
          refine AOps.run tok 3 _ _ _ _ rfl ?_
          rw [wI64 (x := (i : Int) + 1) (by omega) (by omega)]
          refine AOps.nil ?_
          refine ⟨i + 1, rfl, ⟨hin, fun k hk => ?_⟩, by omega⟩
          rcases Nat.lt_or_ge k i with e | e
          · exact hI k e
          · rw [show k = i by omega]; exact he
      · have hin : ¬ i < a.length := by have := of_decide_eq_false h; omega
        have hab : a = b := ext_getI hlen (fun k hk => hI k (by omega))
        rw [decide_eq_true hab]
        refine AW.exit ?_
        refine AW.seq ?_
        refine AW.region ?_
        refine AOps.run tok 1 _ _ _ _ rfl ?_
        refine AOps.nil ?_
        exact AW.ret rfl
end Lift
/- Groups: two lists of groups are the same. -/
namespace Lift
open Go Go.Proofs

def eqG (x y : Grp) : Bool := decide (x.kind = y.kind ∧ x.dr = y.dr ∧ x.bs = y.bs ∧ x.js = y.js)
def sameG (a b : List Grp) : Bool := decide (a.length = b.length) && !(anyF (fun i => !(eqG (a.getD i default) (b.getD i default))) a.length 0)
/-- The lists of a group are short enough. -/
def Grp.ok (g : Grp) : Prop := g.bs.length ≤ big ∧ g.js.length ≤ big
theorem bneT {a b : Int} (h : (a != b) = true) : a ≠ b := bne_iff_ne.1 h
theorem bneG {a b : Int} (h : (a != b) = false) : a = b := by
  by_cases e : a = b
  · exact e
  · rw [bne_iff_ne.2 e] at h; cases h
theorem notFG {b : Bool} (h : (!b) = false) : b = true := by cases b <;> simp_all
set_option maxHeartbeats 1600000 in
theorem r25_Same_ok (a b : List Grp) (hla : a.length ≤ big) (ha : ∀ i, (a.getD i default).ok) : Pure Try.prog 14 [GrpsD a, GrpsD b] (dB (sameG a b)) := by
  refine Pure.intro (n := 53) tok Try.func14 rfl rfl rfl (Nat.le_of_ble_eq_true rfl) (by kernel_rfl) (fun B F0 w0 => ?_)
  have hL : sameG a b = (decide (a.length = b.length) && !(anyF (fun i => !(eqG (a.getD i default) (b.getD i default))) a.length 0)) := rfl
  generalize sameG a b = E at hL ⊢
  unfold big at hla
  refine AW.seq ?_
  refine AW.region ?_   -- "ref.go:167"
  refine AOps.run tok 1 _ _ _ _ rfl ?_
  refine AOps.nil ?_
  refine AW.seq ?_
  refine AW.seq ?_
  refine AW.region ?_   -- "ref.go:168"
  refine AOps.run tok 5 _ _ _ _ rfl ?_
  rw [List.length_map, List.length_map]
  refine AOps.nil ?_
  refine AW.cond rfl (fun h => ?_) (fun h => ?_)
  · have hne : a.length ≠ b.length := fun e => by
      rw [e] at h
      simp at h
    rw [hL, decide_eq_false hne, Bool.false_and]
    refine AW.seq ?_
    refine AW.region ?_   -- "ref.go:169"
    refine AOps.run tok 1 _ _ _ _ rfl ?_
    refine AOps.nil ?_
    exact AW.ret rfl
  · have hne : a.length = b.length := by
      by_cases e : (a.length : Int) = b.length
      · omega
      · simp [e] at h
    rw [decide_eq_true hne, Bool.true_and] at hL
    refine AW.skip ?_
    refine AW.seq ?_
    refine AW.seq ?_
    refine AW.region ?_   -- "ref.go:171"
    refine AOps.run tok 2 _ _ _ _ rfl ?_
    rw [List.length_map]
    refine AOps.run tok 1 _ _ _ _ rfl ?_
    refine AOps.nil ?_
    refine AW.block ?_   -- block 0
    refine AW.loopS [1, 13, 14, 15] (fun i : Nat => [(1, .d (GrpsD b)), (13, .d (GrpsD a)), (14, .d (dI a.length)), (15, .d (dI i))]) (fun i => i ≤ a.length ∧ E = !(anyF (fun i => !(eqG (a.getD i default) (b.getD i default))) (a.length - i) i)) (fun i => a.length - i) 0 rfl ⟨Nat.zero_le _, hL⟩ (fun i ⟨hi, hE⟩ => ?_)
    · skip
      refine AW.seq ?_
      refine AW.region ?_   -- "ref.go:171"
      refine AOps.run tok 1 _ _ _ _ rfl ?_
      refine AOps.nil ?_
      refine AW.seq ?_
      refine AW.cond rfl (fun h => ?_) (fun h => ?_)
      · have hin : i < a.length := by have := of_decide_eq_true h; omega
        have hga := getG hin
        have hgb := getG (gs := b) (i := i) (by omega)
        obtain ⟨ho1, ho2⟩ := ha i
        have hbd : eqG (a.getD i default) (b.getD i default) = false → E = false := fun e => by rw [hE, anyF_hit (f := fun i => !(eqG (a.getD i default) (b.getD i default))) hin (by rw [e]; rfl)]; rfl
        have hbm : eqG (a.getD i default) (b.getD i default) = true → E = !(anyF (fun i => !(eqG (a.getD i default) (b.getD i default))) (a.length - (i + 1)) (i + 1)) := fun e => by rw [hE, anyF_miss (f := fun i => !(eqG (a.getD i default) (b.getD i default))) hin (by rw [e]; rfl)]
        generalize a.getD i default = x at hga ho1 ho2 hbd hbm
        generalize b.getD i default = y at hgb hbd hbm
        have hq : eqG x y = decide (x.kind = y.kind ∧ x.dr = y.dr ∧ x.bs = y.bs ∧ x.js = y.js) := rfl
        generalize eqG x y = q at hbd hbm hq
        have c1 := base_Ints_ok x.bs y.bs ho1
        have c2 := base_Ints_ok x.js y.js ho2
        refine AW.skip ?_
        refine AW.seq ?_
        refine AW.block ?_   -- block 1
        refine AW.seq ?_
        refine AW.region ?_   -- "ref.go:171"
        refine AOps.run tok 1 _ _ _ _ rfl ?_
        refine AOps.idx tok x.D rfl rfl rfl rfl (Int.natCast_nonneg i) hga ?_
        refine AOps.run tok 4 _ _ _ _ rfl ?_
        refine AOps.nil ?_
        refine AW.seq ?_
        refine AW.region ?_   -- "ref.go:172"
        refine AOps.run tok 2 _ _ _ _ rfl ?_
        refine AOps.idx tok y.D rfl rfl rfl rfl (Int.natCast_nonneg i) hgb ?_
        refine AOps.run tok 3 _ _ _ _ rfl ?_
        refine AOps.nil ?_
        refine AW.cut [1, 13, 14, 15, 51] (fun _ : Unit => [(1, .d (GrpsD b)), (13, .d (GrpsD a)), (14, .d (dI a.length)), (15, .d (dI i)), (51, .d (dB (!q)))]) (fun _ => True) ?_ (fun _ _ => ?_)
        · refine AW.region ?_
          refine AOps.run tok 6 _ _ _ _ rfl ?_
          refine AOps.split (t := 29) rfl (fun h => ?_) (fun h => ?_)
          · have h1 : x.kind ≠ y.kind := bneT h
            refine AOps.run tok 22 _ _ _ _ rfl ?_
            refine AOps.nil ?_
            exact ⟨(), by rw [show q = false by rw [hq, decide_eq_false_iff_not]; exact fun e => h1 e.1]; rfl, trivial⟩
          have h1 : x.kind = y.kind := bneG h
          refine AOps.run tok 7 _ _ _ _ rfl ?_
          refine AOps.split (t := 36) rfl (fun h => ?_) (fun h => ?_)
          · have h2 : x.dr ≠ y.dr := bneT h
            refine AOps.run tok 15 _ _ _ _ rfl ?_
            refine AOps.nil ?_
            exact ⟨(), by rw [show q = false by rw [hq, decide_eq_false_iff_not]; exact fun e => h2 e.2.1]; rfl, trivial⟩
          have h2 : x.dr = y.dr := bneG h
          refine AOps.run tok 4 _ _ _ _ rfl ?_
          refine AOps.call tok rfl rfl rfl rfl c1 ?_
          refine AOps.run tok 3 _ _ _ _ rfl ?_
          refine AOps.split (t := 44) rfl (fun h => ?_) (fun h => ?_)
          · have h3 : x.bs ≠ y.bs := of_decide_eq_false (notT h)
            refine AOps.run tok 7 _ _ _ _ rfl ?_
            refine AOps.nil ?_
            exact ⟨(), by rw [show q = false by rw [hq, decide_eq_false_iff_not]; exact fun e => h3 e.2.2.1]; rfl, trivial⟩
          have h3 : x.bs = y.bs := of_decide_eq_true (notFG h)
          refine AOps.run tok 4 _ _ _ _ rfl ?_
          refine AOps.call tok rfl rfl rfl rfl c2 ?_
          refine AOps.run tok 2 _ _ _ _ rfl ?_
          refine AOps.nil ?_
          exact ⟨(), by rw [show q = decide (x.js = y.js) by rw [hq, decide_eq_decide]; exact ⟨fun e => e.2.2.2, fun e => ⟨h1, h2, h3, e⟩⟩]; rfl, trivial⟩
        refine AW.cond rfl (fun h => ?_) (fun h => ?_)
        · have hqf : q = false := notT h
          rw [hbd hqf]
          refine AW.seq ?_
          refine AW.region ?_   -- "ref.go:173"
          refine AOps.run tok 1 _ _ _ _ rfl ?_
          refine AOps.nil ?_
          exact AW.ret rfl
        · have hqt : q = true := notFG h
          refine AW.skip ?_
          refine AW.region ?_   -- "ref.go:171"
          refine AOps.run tok 1 _ _ _ _ rfl ?_
          rw [wI64 (x := (i : Int) + 1) (by omega) (by omega)]
          refine AOps.run tok 1 _ _ _ _ rfl ?_
          refine AOps.nil ?_
          exact ⟨i + 1, rfl, ⟨hin, hbm hqt⟩, by omega⟩
      have hin : ¬ i < a.length := by have := of_decide_eq_false h; omega
      have hE2 : E = true := by rw [hE, anyF_end (f := fun i => !(eqG (a.getD i default) (b.getD i default))) hin]; rfl
      rw [hE2]
      refine AW.exit ?_
        -- exit 0
      -- END OF BODY; what follows the loop (from its exit):
      refine AW.seq ?_
      refine AW.region ?_   -- "ref.go:176"
      refine AOps.run tok 1 _ _ _ _ rfl ?_
      refine AOps.nil ?_
      exact AW.ret rfl
end Lift
/- Groups: the four-bar. -/
namespace Lift
open Go Go.Proofs

abbrev plcM (nm : ByteArray) (x y : Int) : Mark := ⟨nm, Qr (x : Rat), Qr (y : Rat)⟩
theorem law25_place_ok (nm : ByteArray) (x y : Int) (hx : -1000 ≤ x ∧ x ≤ 1000) (hy : -1000 ≤ y ∧ y ≤ 1000) : Pure Try.prog 10 [dS nm, dI x, dI y] (plcM nm x y).D := by
  refine Pure.intro (n := 13) tok Try.func10 rfl rfl rfl (Nat.le_of_ble_eq_true rfl) (by kernel_rfl) (fun B F0 w0 => ?_)
  have c1 := r02_Of_ok x (by omega) (by omega)
  have c2 := r02_Of_ok y (by omega) (by omega)
  unfold plcM
  generalize Qr (x : Rat) = p at c1 ⊢
  generalize Qr (y : Rat) = q at c2 ⊢
  refine AW.seq ?_
  refine AW.region ?_
  refine AOps.run tok 1 _ _ _ _ rfl ?_
  refine AOps.nil ?_
  refine AW.seq ?_
  refine AW.region ?_
  refine AOps.run tok 2 _ _ _ _ rfl ?_
  refine AOps.call tok rfl rfl rfl rfl c1 ?_
  refine AOps.run tok 1 _ _ _ _ rfl ?_
  refine AOps.call tok rfl rfl rfl rfl c2 ?_
  refine AOps.run tok 2 _ _ _ _ rfl ?_
  refine AOps.nil ?_
  exact AW.ret rfl
abbrev barB (nm : ByteArray) (n : Int) : Body := ⟨nm, [plcM ⟨#[97]⟩ 0 0, plcM ⟨#[98]⟩ n 0]⟩
theorem law25_bar_ok (nm : ByteArray) (n : Int) (hn : -1000 ≤ n ∧ n ≤ 1000) : Pure Try.prog 24 [dS nm, dI n] (barB nm n).D := by
  refine Pure.intro (n := 11) tok Try.func24 rfl rfl rfl (Nat.le_of_ble_eq_true rfl) (by kernel_rfl) (fun B F0 w0 => ?_)
  have c1 := law25_place_ok ⟨#[97]⟩ 0 0 (by omega) (by omega)
  have c2 := law25_place_ok ⟨#[98]⟩ n 0 hn (by omega)
  unfold barB
  generalize plcM ⟨#[97]⟩ 0 0 = p at c1 ⊢
  generalize plcM ⟨#[98]⟩ n 0 = q at c2 ⊢
  refine AW.seq ?_
  refine AW.region ?_
  refine AOps.run tok 1 _ _ _ _ rfl ?_
  refine AOps.nil ?_
  refine AW.seq ?_
  refine AW.region ?_
  refine AOps.run tok 1 _ _ _ _ rfl ?_
  refine AOps.call tok rfl rfl rfl rfl c1 ?_
  refine AOps.run tok 1 _ _ _ _ rfl ?_
  refine AOps.call tok rfl rfl rfl rfl c2 ?_
  refine AOps.bsd tok rfl rfl rfl rfl rfl ?_
  refine AOps.run tok 2 _ _ _ _ rfl ?_
  refine AOps.nil ?_
  exact AW.ret rfl
abbrev fourB : List Body := [barB ⟨#[102, 114, 97, 109, 101]⟩ 4, barB ⟨#[99, 114, 97, 110, 107]⟩ 3, barB ⟨#[99, 111, 117, 112, 108, 101, 114]⟩ 5, barB ⟨#[114, 111, 99, 107, 101, 114]⟩ 6]
abbrev fourJ : List Joint := [⟨⟨#[111]⟩, 0, 1, 0, 0, 0, 0⟩, ⟨⟨#[112]⟩, 0, 2, 0, 1, 1, 0⟩, ⟨⟨#[113]⟩, 0, 3, 0, 0, 1, 0⟩, ⟨⟨#[114]⟩, 0, 2, 1, 3, 1, 0⟩]
abbrev fourDr : List Driver := [⟨⟨#[100]⟩, 1⟩]
abbrev fourL : Lkg := ⟨⟨#[102, 111, 117, 114, 98, 97, 114]⟩, fourB, fourJ, fourDr⟩
theorem law25_FourBar_ok : Pure Try.prog 13 [] fourL.D := by
  refine Pure.intro (n := 14) tok Try.func13 rfl rfl rfl (Nat.le_of_ble_eq_true rfl) (by kernel_rfl) (fun B F0 w0 => ?_)
  have c1 := law25_bar_ok ⟨#[102, 114, 97, 109, 101]⟩ 4 (by omega)
  have c2 := law25_bar_ok ⟨#[99, 114, 97, 110, 107]⟩ 3 (by omega)
  have c3 := law25_bar_ok ⟨#[99, 111, 117, 112, 108, 101, 114]⟩ 5 (by omega)
  have c4 := law25_bar_ok ⟨#[114, 111, 99, 107, 101, 114]⟩ 6 (by omega)
  unfold fourL fourB
  generalize barB ⟨#[102, 114, 97, 109, 101]⟩ 4 = b1 at c1 ⊢
  generalize barB ⟨#[99, 114, 97, 110, 107]⟩ 3 = b2 at c2 ⊢
  generalize barB ⟨#[99, 111, 117, 112, 108, 101, 114]⟩ 5 = b3 at c3 ⊢
  generalize barB ⟨#[114, 111, 99, 107, 101, 114]⟩ 6 = b4 at c4 ⊢
  refine AW.seq ?_
  refine AW.region ?_
  refine AOps.run tok 1 _ _ _ _ rfl ?_
  refine AOps.nil ?_
  refine AW.seq ?_
  refine AW.region ?_
  refine AOps.call tok rfl rfl rfl rfl c1 ?_
  refine AOps.call tok rfl rfl rfl rfl c2 ?_
  refine AOps.call tok rfl rfl rfl rfl c3 ?_
  refine AOps.call tok rfl rfl rfl rfl c4 ?_
  refine AOps.bsd tok rfl rfl rfl rfl rfl ?_
  refine AOps.run tok 4 _ _ _ _ rfl ?_
  refine AOps.bsd tok rfl rfl rfl rfl rfl ?_
  refine AOps.run tok 1 _ _ _ _ rfl ?_
  refine AOps.bsd tok rfl rfl rfl rfl rfl ?_
  refine AOps.run tok 2 _ _ _ _ rfl ?_
  refine AOps.nil ?_
  exact AW.ret rfl
/-- Its groups. -/
abbrev fourG : List Grp := [⟨0, [1], [0], 0⟩, ⟨1, [2, 3], [1, 2, 3], 0⟩]
instance : DecidableEq Grp := fun a b => if h : a.kind = b.kind ∧ a.bs = b.bs ∧ a.js = b.js ∧ a.dr = b.dr then isTrue (by
    cases a; cases b; obtain ⟨h1, h2, h3, h4⟩ := h; simp only [] at h1 h2 h3 h4; subst h1; subst h2; subst h3; subst h4; rfl) else isFalse (fun e => h (by subst e; exact ⟨rfl, rfl, rfl, rfl⟩))
theorem four_find : (findF fourL).gs = fourG ∧ (findF fourL).kn = [true, true, true, true] ∧ (findF fourL).us = [true, true, true, true] := by
  refine ⟨?_, ?_, ?_⟩ <;> decide +kernel
theorem four_chk : chk fourL = 0 := by decide +kernel
end Lift
/- Groups: the fixed fact of the statements. -/
namespace Lift
open Go Go.Proofs

theorem LQ_small (n : Int) (h : -1000 ≤ n ∧ n ≤ 1000) : LQ (n : Rat) ≤ 2 := by
  have h1 := LQ_of n
  have h2 := L_of n (by omega)
  omega
theorem four_ok : fourL.ok 2 := by
  have hw : ∀ n : Int, -1000 ≤ n ∧ n ≤ 1000 → (Qr (n : Rat)).w 2 := fun n hn => Qr_w _ (LQ_small n hn)
  have hdM : (default : Mark).ok 2 := ⟨by decide, ⟨W32.nil, W32.nil, by decide, by decide⟩, ⟨W32.nil, W32.nil, by decide, by decide⟩⟩
  have hdB : (default : Body).ok 2 := ⟨by decide, by decide, fun i => by rw [show (default : Body).pts.getD i default = default from by cases i <;> rfl]; exact hdM⟩
  have two : ∀ (nm : ByteArray) (n : Int), nm.size ≤ big → -1000 ≤ n ∧ n ≤ 1000 → (barB nm n).ok 2 := fun nm n hn hb => ⟨hn, (by show 2 ≤ big; decide), fun i => by
    match i with
    | 0 => exact ⟨by show 1 ≤ big; decide, hw 0 (by omega), hw 0 (by omega)⟩
    | 1 => exact ⟨by show 1 ≤ big; decide, hw n hb, hw 0 (by omega)⟩
    | i + 2 => exact hdM⟩
  refine ⟨(by show 7 ≤ big; decide), (by show 4 ≤ big; decide), (by show 4 ≤ big; decide), (by show 1 ≤ big; decide), fun i => ?_, fun i => ?_, fun i => ?_⟩
  · match i with
    | 0 => exact two _ 4 (by decide) (by omega)
    | 1 => exact two _ 3 (by decide) (by omega)
    | 2 => exact two _ 5 (by decide) (by omega)
    | 3 => exact two _ 6 (by decide) (by omega)
    | i + 4 => exact hdB
  · match i with
    | 0 => show 1 ≤ big; decide
    | 1 => show 1 ≤ big; decide
    | 2 => show 1 ≤ big; decide
    | 3 => show 1 ≤ big; decide
    | i + 4 => show (default : ByteArray).size ≤ big; decide
  · match i with
    | 0 => show 1 ≤ big; decide
    | i + 1 => show (default : ByteArray).size ≤ big; decide
theorem four_split : splitD fourL = .tu [GrpsD fourG, nilE] := by
  unfold splitD
  rw [four_chk, if_pos rfl, four_find.1, four_find.2.1, four_find.2.2]
  rfl
theorem four_same : Pure Try.prog 14 [GrpsD fourG, GrpsD fourG] (dB true) := by
  have := r25_Same_ok fourG fourG (by show 2 ≤ big; decide) (fun i => by
    match i with
    | 0 => exact ⟨by show 1 ≤ big; decide, by show 1 ≤ big; decide⟩
    | 1 => exact ⟨by show 2 ≤ big; decide, by show 3 ≤ big; decide⟩
    | i + 2 => exact ⟨by show 0 ≤ big; decide, by show 0 ≤ big; decide⟩)
  rw [show sameG fourG fourG = true by decide] at this
  exact this
theorem law25_awake_ok : Pure Try.prog 6 [] (dB true) := by
  refine Pure.intro (n := 21) tok Try.func6 rfl rfl rfl (Nat.le_of_ble_eq_true rfl) (by kernel_rfl) (fun B F0 w0 => ?_)
  have cF := law25_FourBar_ok
  have cS := groups_Split_ok fourL four_ok (by decide)
  rw [four_split] at cS
  have cE := four_same
  generalize fourL = l at cF cS
  refine AW.seq ?_
  refine AW.region ?_
  refine AOps.run tok 1 _ _ _ _ rfl ?_
  refine AOps.nil ?_
  refine AW.seq ?_
  refine AW.region ?_
  refine AOps.call tok rfl rfl rfl rfl cF ?_
  refine AOps.call tok rfl rfl rfl rfl cS ?_
  refine AOps.run tok 5 _ _ _ _ rfl ?_
  refine AOps.nil ?_
  refine AW.seq ?_
  refine AW.region ?_
  refine AOps.run tok 1 _ _ _ _ rfl ?_
  refine AOps.err tok rfl rfl rfl rfl rfl ?_
  refine AOps.run tok 2 _ _ _ _ rfl ?_
  refine AOps.bsd tok rfl rfl rfl rfl rfl ?_
  refine AOps.bsd tok rfl rfl rfl rfl rfl ?_
  refine AOps.run tok 1 _ _ _ _ rfl ?_
  refine AOps.bsd tok rfl rfl rfl rfl rfl ?_
  refine AOps.bsd tok rfl rfl rfl rfl rfl ?_
  refine AOps.run tok 1 _ _ _ _ rfl ?_
  refine AOps.bsd tok rfl rfl rfl rfl rfl ?_
  refine AOps.call tok rfl rfl rfl rfl cE ?_
  refine AOps.run tok 2 _ _ _ _ rfl ?_
  refine AOps.nil ?_
  exact AW.ret rfl
end Lift
/- Groups: the statement GroupsCount. -/
namespace Lift
open Go Go.Proofs

/-- What Light lets pass is small. -/
theorem Lkg.ok.light {l : Lkg} (hl : l.ok big) (h : lightB l = true) : l.ok 4 := by
  unfold lightB at h
  rw [Bool.and_eq_true, Bool.not_eq_true'] at h
  refine ⟨hl.nm, hl.nb, hl.nj, hl.nd, fun i => ?_, hl.j, hl.d⟩
  obtain ⟨h1, h2, h3⟩ := hl.b i
  refine ⟨h1, h2, fun k => ?_⟩
  obtain ⟨p1, p2, p3⟩ := h3 k
  have hdM : (default : Mark).ok 4 := ⟨by decide, ⟨W32.nil, W32.nil, by decide, by decide⟩, ⟨W32.nil, W32.nil, by decide, by decide⟩⟩
  rcases Nat.lt_or_ge i l.bodies.length with hi | hi
  · have hb := anyF_noG h.1 i (Nat.zero_le _) (by omega)
    unfold lgB at hb
    rw [Bool.or_eq_false_iff] at hb
    rcases Nat.lt_or_ge k (l.bodies.getD i default).pts.length with hk | hk
    · have hp := of_decide_eq_false (anyF_noG hb.2 k (Nat.zero_le _) (by omega))
      exact ⟨p1, ⟨p2.1, p2.2.1, by omega, by omega⟩, ⟨p3.1, p3.2.1, by omega, by omega⟩⟩
    · rw [show (l.bodies.getD i default).pts.getD k default = default from by rw [List.getD_eq_getElem?_getD, List.getElem?_eq_none hk]; rfl]
      exact hdM
  · rw [show l.bodies.getD i default = default from by rw [List.getD_eq_getElem?_getD, List.getElem?_eq_none hi]; rfl]
    rw [show (default : Body).pts.getD k default = default from by cases k <;> rfl]
    exact hdM
end Lift
