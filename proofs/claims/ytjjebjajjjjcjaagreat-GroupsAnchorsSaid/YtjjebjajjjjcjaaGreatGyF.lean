/- Parts of the proof, one behind the other: the logic, the contracts of the functions that the statement reaches. -/
import Derived.Test.YtjjebjajjjjcjaaGreatGyE
set_option linter.unusedVariables false
set_option linter.unusedSimpArgs false
/- The reference's check: joints, drivers, the whole. -/
namespace Lift
open Go Go.Proofs

set_option maxHeartbeats 1600000 in
theorem r19_joint_ok (l : Lkg) (i : Nat) {K : Nat} (hl : l.ok K) (hK : K ≤ 5000000) (hin : i < l.joints.length) : Pure Tryz.prog 23 [l.D, dI i] (dI (jointE l.bodies l.joints i : Nat)) := by
  refine Pure.intro (n := 112) tok Tryz.func23 rfl rfl rfl (Nat.le_of_ble_eq_true rfl) (by kernel_rfl) (fun B F0 w0 => ?_)
  obtain ⟨ln, bs, js, ds⟩ := l
  have hb := hl.b
  have jok := hl.j i
  have hn := hl.nj
  simp only [] at hb jok hn hin ⊢
  unfold big at jok hn
  show AW _ _ _ _ _ _ _ (initSt 0 [D.ag [dS ln, BodiesD bs, JointsD js, DriversD ds], dI i])
  obtain ⟨j, hje⟩ : ∃ j, j = js.getD i default := ⟨_, rfl⟩
  rw [← hje] at jok
  have hdup : dupJ js i = anyF (fun k => decide ((js.getD k default).nm = j.nm)) i 0 := by rw [hje]; rfl
  have hbd : jointE bs js i = if nameB j.nm = false then 5 else if dupJ js i = true then 6 else jE bs j := by rw [hje]; rfl
  generalize jointE bs js i = E at *
  refine AW.seq ?_
  refine AW.region ?_   -- "ref.go:59"
  refine AOps.run tok 2 _ _ _ _ rfl ?_
  refine AOps.nil ?_
  refine AW.seq ?_
  refine AW.region ?_   -- "ref.go:60"
  refine AOps.run tok 3 _ _ _ _ rfl ?_
  refine AOps.idx tok j.D rfl rfl rfl rfl (Int.natCast_nonneg i) (by rw [hje]; exact getM Joint.D hin) ?_
  refine AOps.run tok 3 _ _ _ _ rfl ?_
  refine AOps.nil ?_
  obtain ⟨nm, kind, a, pt, b, on, to⟩ := j
  simp only [] at jok hdup hbd
  have hj : jE bs ⟨nm, kind, a, pt, b, on, to⟩ = if kind ≠ 0 ∧ kind ≠ 1 then 7 else if (inB a bs.length && inB b bs.length) = false then 9 else if a = b then 13 else
    if (inB pt (bs.getD a.toNat default).pts.length && inB on (bs.getD b.toNat default).pts.length) = false then 9 else
    if kind = 0 then (if to = 0 then 0 else 2) else if inB to (bs.getD b.toNat default).pts.length = false then 9 else
    if sameM ((bs.getD b.toNat default).pts.getD on.toNat default) ((bs.getD b.toNat default).pts.getD to.toNat default) = true then 8 else 0 := rfl
  generalize jE bs ⟨nm, kind, a, pt, b, on, to⟩ = E2 at *
  refine AW.seq ?_
  refine AW.seq ?_
  refine AW.region ?_   -- "ref.go:61"
  refine AOps.run tok 2 _ _ _ _ rfl ?_
  refine AOps.call tok rfl rfl rfl rfl (r18_Name_ok nm jok) ?_
  refine AOps.run tok 1 _ _ _ _ rfl ?_
  refine AOps.nil ?_
  refine AW.cond rfl (fun h => ?_) (fun h => ?_)
  · rw [if_pos (not_t h)] at hbd
    rw [hbd]
    refine AW.seq ?_
    refine AW.region ?_   -- "ref.go:62"
    refine AOps.run tok 1 _ _ _ _ rfl ?_
    refine AOps.nil ?_
    exact AW.ret rfl
  rw [if_neg (by simpa using h)] at hbd
  refine AW.skip ?_
  refine AW.seq ?_
  refine AW.seq ?_
  refine AW.region ?_   -- "ref.go:64"
  refine AOps.run tok 1 _ _ _ _ rfl ?_
  refine AOps.nil ?_
  refine AW.block ?_   -- block 0
  refine AW.loopS [1, 2, 5, 6] (fun k : Nat => [(1, .d (dI i)), (2, .bx [dS ln, BodiesD bs, JointsD js, DriversD ds]), (5, .bx [dS nm, dI kind, dI a, dI pt, dI b, dI on, dI to]), (6, .d (dI k))])
    (fun k => k ≤ i ∧ dupJ js i = anyF (fun k => decide ((js.getD k default).nm = nm)) (i - k) k) (fun k => i - k) 0 rfl ⟨Nat.zero_le _, hdup⟩ (fun k ⟨hk, hD⟩ => ?_)
  refine AW.seq ?_
  refine AW.seq ?_
  refine AW.region ?_   -- "ref.go:64"
  refine AOps.run tok 3 _ _ _ _ rfl ?_
  refine AOps.nil ?_
  refine AW.cond rfl (fun h => ?_) (fun h => ?_)
  · have hki : k < i := by have := of_decide_eq_true h; omega
    refine AW.skip ?_
    refine AW.seq ?_
    refine AW.block ?_   -- block 1
    refine AW.seq ?_
    refine AW.draw hmix 9 (by kernel_rfl) ?_   -- "ref.go:65"
    refine APre.run tok 3 _ _ _ _ rfl ?_
    refine APre.idx tok (js.getD k default).D rfl rfl rfl rfl rfl (Int.natCast_nonneg k) (getM Joint.D (by omega)) ?_
    refine APre.run tok 5 _ _ _ _ rfl ?_
    rw [str_eq]
    refine APre.nil ?_
    refine AOps.nil ?_
    refine AW.cond rfl (fun h => ?_) (fun h => ?_)
    · rw [hD.trans (anyF_hit hki h)] at hbd
      rw [show E = 6 from hbd]
      refine AW.seq ?_
      refine AW.region ?_   -- "ref.go:66"
      refine AOps.run tok 1 _ _ _ _ rfl ?_
      refine AOps.nil ?_
      exact AW.ret rfl
    · refine AW.skip ?_
      refine AW.region ?_   -- "ref.go:64"
      refine AOps.run tok 3 _ _ _ _ rfl ?_
      rw [wI64 (x := (k : Int) + 1) (by omega) (by omega)]
      refine AOps.nil ?_
      exact ⟨k + 1, rfl, ⟨hki, hD.trans (anyF_miss hki h)⟩, by omega⟩
  have hki : ¬ k < i := by have := of_decide_eq_false h; omega
  rw [hD.trans (anyF_end hki), if_neg (by decide)] at hbd
  rw [hbd]
  clear hbd
  refine AW.exit ?_
  refine AW.seq ?_
  refine AW.cut [2, 5, 39] (fun _ : Unit => [(2, .bx [dS ln, BodiesD bs, JointsD js, DriversD ds]), (5, .bx [dS nm, dI kind, dI a, dI pt, dI b, dI on, dI to]), (39, .d (dB (decide (kind ≠ 0 ∧ kind ≠ 1))))]) (fun _ => True) ?_ (fun _ _ => ?_)
  · refine AW.region ?_   -- "ref.go:69"   -- GUARDS
    refine AOps.run tok 3 _ _ _ _ rfl ?_
    refine AOps.split (t := 34) rfl (fun h => ?_) (fun h => ?_)
    · have h1 : kind ≠ 0 := by simpa using h
      refine AOps.run tok 5 _ _ _ _ rfl ?_
      refine AOps.nil ?_
      exact ⟨(), by rw [show decide (kind ≠ 0 ∧ kind ≠ 1) = (kind != 1) by rw [Bool.eq_iff_iff]; simp [h1]]; rfl, trivial⟩
    · have h1 : kind = 0 := by simpa using h
      refine AOps.run tok 5 _ _ _ _ rfl ?_
      refine AOps.nil ?_
      exact ⟨(), by rw [show decide (kind ≠ 0 ∧ kind ≠ 1) = false by simp [h1]]; rfl, trivial⟩
  refine AW.cond rfl (fun h => ?_) (fun h => ?_)
  · rw [if_pos (of_decide_eq_true h)] at hj
    rw [hj]
    refine AW.seq ?_
    refine AW.region ?_   -- "ref.go:70"
    refine AOps.run tok 1 _ _ _ _ rfl ?_
    refine AOps.nil ?_
    exact AW.ret rfl
  rw [if_neg (of_decide_eq_false h)] at hj
  refine AW.skip ?_
  refine AW.seq ?_
  refine AW.cut [2, 5, 55] (fun _ : Unit => [(2, .bx [dS ln, BodiesD bs, JointsD js, DriversD ds]), (5, .bx [dS nm, dI kind, dI a, dI pt, dI b, dI on, dI to]), (55, .d (dB (!(inB a bs.length && inB b bs.length))))]) (fun _ => True) ?_ (fun _ _ => ?_)
  · refine AW.region ?_   -- "ref.go:72"   -- GUARDS
    refine AOps.run tok 5 _ _ _ _ rfl ?_
    rw [List.length_map]
    refine AOps.call tok rfl rfl rfl rfl (r19_index_ok a bs.length) ?_
    refine AOps.split (t := 45) rfl (fun h => ?_) (fun h => ?_)
    · refine AOps.run tok 7 _ _ _ _ rfl ?_
      rw [List.length_map]
      refine AOps.call tok rfl rfl rfl rfl (r19_index_ok b bs.length) ?_   -- guarded
      refine AOps.run tok 2 _ _ _ _ rfl ?_
      refine AOps.nil ?_
      exact ⟨(), by rw [h]; rfl, trivial⟩
    · refine AOps.run tok 10 _ _ _ _ rfl ?_
      refine AOps.nil ?_
      exact ⟨(), by rw [h]; rfl, trivial⟩
  refine AW.cond rfl (fun h => ?_) (fun h => ?_)
  · rw [if_pos (not_t h)] at hj
    rw [hj]
    refine AW.seq ?_
    refine AW.region ?_   -- "ref.go:73"
    refine AOps.run tok 1 _ _ _ _ rfl ?_
    refine AOps.nil ?_
    exact AW.ret rfl
  have hab : inB a bs.length = true ∧ inB b bs.length = true := by simpa using h
  rw [if_neg (by simp [hab])] at hj
  obtain ⟨ha0, ha1⟩ := inB_t hab.1
  obtain ⟨hb0, hb1⟩ := inB_t hab.2
  obtain ⟨Bb, hBb⟩ : ∃ x, x = bs.getD b.toNat default := ⟨_, rfl⟩
  obtain ⟨Ba, hBa⟩ : ∃ x, x = bs.getD a.toNat default := ⟨_, rfl⟩
  have okb := hb b.toNat
  rw [← hBb] at hj okb
  rw [← hBa] at hj
  refine AW.skip ?_
  refine AW.seq ?_
  refine AW.seq ?_
  refine AW.region ?_   -- "ref.go:75"
  refine AOps.run tok 5 _ _ _ _ rfl ?_
  refine AOps.nil ?_
  refine AW.cond rfl (fun h => ?_) (fun h => ?_)
  · rw [if_pos (by simpa using h)] at hj
    rw [hj]
    refine AW.seq ?_
    refine AW.region ?_   -- "ref.go:76"
    refine AOps.run tok 1 _ _ _ _ rfl ?_
    refine AOps.nil ?_
    exact AW.ret rfl
  rw [if_neg (by simpa using h)] at hj
  refine AW.skip ?_
  refine AW.seq ?_
  refine AW.draw hmix 15 (by kernel_rfl) ?_   -- "ref.go:78"
  refine APre.run tok 4 _ _ _ _ rfl ?_
  refine APre.idx tok Ba.D rfl rfl rfl rfl rfl ha0 (by rw [hBa]; exact getM Body.D ha1) ?_
  refine APre.run tok 6 _ _ _ _ rfl ?_
  refine APre.idx tok Bb.D rfl rfl rfl rfl rfl hb0 (by rw [hBb]; exact getM Body.D hb1) ?_
  refine APre.run tok 3 _ _ _ _ rfl ?_
  refine APre.nil ?_
  refine AOps.run tok 1 _ _ _ _ rfl ?_
  refine AOps.nil ?_
  refine AW.seq ?_
  refine AW.cut [5, 8, 88] (fun _ : Unit => [(5, .bx [dS nm, dI kind, dI a, dI pt, dI b, dI on, dI to]), (8, .d (PtsD Bb.pts)), (88, .d (dB (!(inB pt Ba.pts.length && inB on Bb.pts.length))))]) (fun _ => True) ?_ (fun _ _ => ?_)
  · refine AW.region ?_   -- "ref.go:79"   -- GUARDS
    refine AOps.run tok 4 _ _ _ _ rfl ?_
    rw [List.length_map]
    refine AOps.call tok rfl rfl rfl rfl (r19_index_ok pt Ba.pts.length) ?_
    refine AOps.split (t := 79) rfl (fun h => ?_) (fun h => ?_)
    · refine AOps.run tok 6 _ _ _ _ rfl ?_
      rw [List.length_map]
      refine AOps.call tok rfl rfl rfl rfl (r19_index_ok on Bb.pts.length) ?_   -- guarded
      refine AOps.run tok 2 _ _ _ _ rfl ?_
      refine AOps.nil ?_
      exact ⟨(), by rw [h]; rfl, trivial⟩
    · refine AOps.run tok 9 _ _ _ _ rfl ?_
      refine AOps.nil ?_
      exact ⟨(), by rw [h]; rfl, trivial⟩
  refine AW.cond rfl (fun h => ?_) (fun h => ?_)
  · rw [if_pos (not_t h)] at hj
    rw [hj]
    refine AW.seq ?_
    refine AW.region ?_   -- "ref.go:80"
    refine AOps.run tok 1 _ _ _ _ rfl ?_
    refine AOps.nil ?_
    exact AW.ret rfl
  have hpo : inB pt Ba.pts.length = true ∧ inB on Bb.pts.length = true := by simpa using h
  rw [if_neg (by simp [hpo])] at hj
  obtain ⟨ho0, ho1⟩ := inB_t hpo.2
  refine AW.skip ?_
  refine AW.seq ?_
  refine AW.seq ?_
  refine AW.region ?_   -- "ref.go:82"
  refine AOps.run tok 3 _ _ _ _ rfl ?_
  refine AOps.nil ?_
  refine AW.cond rfl (fun h => ?_) (fun h => ?_)
  · rw [if_pos (by simpa using h)] at hj
    refine AW.seq ?_
    refine AW.seq ?_
    refine AW.region ?_   -- "ref.go:83"
    refine AOps.run tok 3 _ _ _ _ rfl ?_
    refine AOps.nil ?_
    refine AW.cond rfl (fun h => ?_) (fun h => ?_)
    · rw [if_neg (by simpa using h)] at hj
      rw [hj]
      refine AW.seq ?_
      refine AW.region ?_   -- "ref.go:84"
      refine AOps.run tok 1 _ _ _ _ rfl ?_
      refine AOps.nil ?_
      exact AW.ret rfl
    · rw [if_pos (by simpa using h)] at hj
      rw [hj]
      refine AW.skip ?_
      refine AW.seq ?_
      refine AW.region ?_   -- "ref.go:86"
      refine AOps.run tok 1 _ _ _ _ rfl ?_
      refine AOps.nil ?_
      exact AW.ret rfl
  rw [if_neg (by simpa using h)] at hj
  refine AW.skip ?_
  refine AW.seq ?_
  refine AW.seq ?_
  refine AW.region ?_   -- "ref.go:88"
  refine AOps.run tok 4 _ _ _ _ rfl ?_
  rw [List.length_map]
  refine AOps.call tok rfl rfl rfl rfl (r19_index_ok to Bb.pts.length) ?_
  refine AOps.run tok 1 _ _ _ _ rfl ?_
  refine AOps.nil ?_
  refine AW.cond rfl (fun h => ?_) (fun h => ?_)
  · rw [if_pos (not_t h)] at hj
    rw [hj]
    refine AW.seq ?_
    refine AW.region ?_   -- "ref.go:89"
    refine AOps.run tok 1 _ _ _ _ rfl ?_
    refine AOps.nil ?_
    exact AW.ret rfl
  have hto : inB to Bb.pts.length = true := by simpa using h
  rw [if_neg (by simp [hto])] at hj
  obtain ⟨ht0, ht1⟩ := inB_t hto
  obtain ⟨p, hp⟩ : ∃ x, x = Bb.pts.getD on.toNat default := ⟨_, rfl⟩
  obtain ⟨q, hq⟩ : ∃ x, x = Bb.pts.getD to.toNat default := ⟨_, rfl⟩
  have okp := okb.2.2 on.toNat
  have okq := okb.2.2 to.toNat
  rw [← hp] at hj okp
  rw [← hq] at hj okq
  refine AW.skip ?_
  refine AW.seq ?_
  refine AW.seq ?_
  refine AW.draw hmix 11 (by kernel_rfl) ?_   -- "ref.go:91"
  refine APre.run tok 3 _ _ _ _ rfl ?_
  refine APre.idx tok p.D rfl rfl rfl rfl rfl ho0 (by rw [hp]; exact getM Mark.D ho1) ?_
  refine APre.run tok 4 _ _ _ _ rfl ?_
  refine APre.idx tok q.D rfl rfl rfl rfl rfl ht0 (by rw [hq]; exact getM Mark.D ht1) ?_
  refine APre.run tok 1 _ _ _ _ rfl ?_
  refine APre.call tok rfl rfl rfl rfl rfl (r19_same_ok p q okp okq hK) ?_
  refine APre.nil ?_
  refine AOps.nil ?_
  refine AW.cond rfl (fun h => ?_) (fun h => ?_)
  · rw [if_pos h] at hj
    rw [hj]
    refine AW.seq ?_
    refine AW.region ?_   -- "ref.go:92"
    refine AOps.run tok 1 _ _ _ _ rfl ?_
    refine AOps.nil ?_
    exact AW.ret rfl
  · rw [if_neg (by rw [h]; decide)] at hj
    rw [hj]
    refine AW.skip ?_
    refine AW.seq ?_
    refine AW.region ?_   -- "ref.go:94"
    refine AOps.run tok 1 _ _ _ _ rfl ?_
    refine AOps.nil ?_
    exact AW.ret rfl

set_option maxHeartbeats 1600000 in
theorem r19_driver_ok (l : Lkg) (i : Nat) {K : Nat} (hl : l.ok K) (hin : i < l.drivers.length) : Pure Tryz.prog 24 [l.D, dI i] (dI (driverE l.bodies.length l.drivers i : Nat)) := by
  refine Pure.intro (n := 55) tok Tryz.func24 rfl rfl rfl (Nat.le_of_ble_eq_true rfl) (by kernel_rfl) (fun B F0 w0 => ?_)
  obtain ⟨ln, bs, js, ds⟩ := l
  have dok := hl.d i
  have hn := hl.nd
  simp only [] at dok hn hin ⊢
  unfold big at dok hn
  show AW _ _ _ _ _ _ _ (initSt 0 [D.ag [dS ln, BodiesD bs, JointsD js, DriversD ds], dI i])
  obtain ⟨d, hde⟩ : ∃ d, d = ds.getD i default := ⟨_, rfl⟩
  rw [← hde] at dok
  have hdup : dupD ds i = anyF (fun k => decide ((ds.getD k default).nm = d.nm)) i 0 := by rw [hde]; rfl
  have hdup2 : dupT ds i = anyF (fun k => decide ((ds.getD k default).body = d.body)) i 0 := by rw [hde]; rfl
  have hbd : driverE bs.length ds i = if nameB d.nm = false then 5 else if dupD ds i = true then 6 else if inB d.body bs.length = false then 9 else if d.body = 0 then 7 else if dupT ds i = true then 6 else 0 := by rw [hde]; rfl
  generalize driverE bs.length ds i = E at *
  refine AW.seq ?_
  refine AW.region ?_   -- "ref.go:98"
  refine AOps.run tok 2 _ _ _ _ rfl ?_
  refine AOps.nil ?_
  refine AW.seq ?_
  refine AW.region ?_   -- "ref.go:99"
  refine AOps.run tok 3 _ _ _ _ rfl ?_
  refine AOps.idx tok d.D rfl rfl rfl rfl (Int.natCast_nonneg i) (by rw [hde]; exact getM Driver.D hin) ?_
  refine AOps.run tok 3 _ _ _ _ rfl ?_
  refine AOps.nil ?_
  refine AW.seq ?_
  refine AW.seq ?_
  refine AW.region ?_   -- "ref.go:100"
  refine AOps.run tok 2 _ _ _ _ rfl ?_
  refine AOps.call tok rfl rfl rfl rfl (r18_Name_ok d.nm dok) ?_
  refine AOps.run tok 1 _ _ _ _ rfl ?_
  refine AOps.nil ?_
  refine AW.cond rfl (fun h => ?_) (fun h => ?_)
  · rw [if_pos (not_t h)] at hbd
    rw [hbd]
    refine AW.seq ?_
    refine AW.region ?_   -- "ref.go:101"
    refine AOps.run tok 1 _ _ _ _ rfl ?_
    refine AOps.nil ?_
    exact AW.ret rfl
  rw [if_neg (by simpa using h)] at hbd
  refine AW.skip ?_
  refine AW.seq ?_
  refine AW.seq ?_
  refine AW.region ?_   -- "ref.go:103"
  refine AOps.run tok 1 _ _ _ _ rfl ?_
  refine AOps.nil ?_
  refine AW.block ?_   -- block 0
  refine AW.loopS [1, 2, 5, 6] (fun k : Nat => [(1, .d (dI i)), (2, .bx [dS ln, BodiesD bs, JointsD js, DriversD ds]), (5, .bx [dS d.nm, dI d.body]), (6, .d (dI k))])
    (fun k => k ≤ i ∧ dupD ds i = anyF (fun k => decide ((ds.getD k default).nm = d.nm)) (i - k) k) (fun k => i - k) 0 rfl ⟨Nat.zero_le _, hdup⟩ (fun k ⟨hk, hD⟩ => ?_)
  refine AW.seq ?_
  refine AW.seq ?_
  refine AW.region ?_   -- "ref.go:103"
  refine AOps.run tok 3 _ _ _ _ rfl ?_
  refine AOps.nil ?_
  refine AW.cond rfl (fun h => ?_) (fun h => ?_)
  · have hki : k < i := by have := of_decide_eq_true h; omega
    refine AW.skip ?_
    refine AW.seq ?_
    refine AW.block ?_   -- block 1
    refine AW.seq ?_
    refine AW.draw hmix 9 (by kernel_rfl) ?_   -- "ref.go:104"
    refine APre.run tok 3 _ _ _ _ rfl ?_
    refine APre.idx tok (ds.getD k default).D rfl rfl rfl rfl rfl (Int.natCast_nonneg k) (getM Driver.D (by omega)) ?_
    refine APre.run tok 5 _ _ _ _ rfl ?_
    rw [str_eq]
    refine APre.nil ?_
    refine AOps.nil ?_
    refine AW.cond rfl (fun h => ?_) (fun h => ?_)
    · rw [hD.trans (anyF_hit hki h)] at hbd
      rw [show E = 6 from hbd]
      refine AW.seq ?_
      refine AW.region ?_   -- "ref.go:105"
      refine AOps.run tok 1 _ _ _ _ rfl ?_
      refine AOps.nil ?_
      exact AW.ret rfl
    · refine AW.skip ?_
      refine AW.region ?_   -- "ref.go:103"
      refine AOps.run tok 3 _ _ _ _ rfl ?_
      rw [wI64 (x := (k : Int) + 1) (by omega) (by omega)]
      refine AOps.nil ?_
      exact ⟨k + 1, rfl, ⟨hki, hD.trans (anyF_miss hki h)⟩, by omega⟩
  have hki : ¬ k < i := by have := of_decide_eq_false h; omega
  rw [hD.trans (anyF_end hki), if_neg (by decide)] at hbd
  refine AW.exit ?_
  refine AW.seq ?_
  refine AW.seq ?_
  refine AW.region ?_   -- "ref.go:108"
  refine AOps.run tok 5 _ _ _ _ rfl ?_
  rw [List.length_map]
  refine AOps.call tok rfl rfl rfl rfl (r19_index_ok d.body bs.length) ?_
  refine AOps.run tok 1 _ _ _ _ rfl ?_
  refine AOps.nil ?_
  refine AW.cond rfl (fun h => ?_) (fun h => ?_)
  · rw [if_pos (not_t h)] at hbd
    rw [hbd]
    refine AW.seq ?_
    refine AW.region ?_   -- "ref.go:109"
    refine AOps.run tok 1 _ _ _ _ rfl ?_
    refine AOps.nil ?_
    exact AW.ret rfl
  have hinb : inB d.body bs.length = true := by simpa using h
  rw [if_neg (by simp [hinb])] at hbd
  refine AW.skip ?_
  refine AW.seq ?_
  refine AW.seq ?_
  refine AW.region ?_   -- "ref.go:111"
  refine AOps.run tok 3 _ _ _ _ rfl ?_
  refine AOps.nil ?_
  refine AW.cond rfl (fun h => ?_) (fun h => ?_)
  · rw [if_pos (by simpa using h)] at hbd
    rw [hbd]
    refine AW.seq ?_
    refine AW.region ?_   -- "ref.go:112"
    refine AOps.run tok 1 _ _ _ _ rfl ?_
    refine AOps.nil ?_
    exact AW.ret rfl
  rw [if_neg (by simpa using h)] at hbd
  refine AW.skip ?_
  refine AW.seq ?_
  refine AW.seq ?_
  refine AW.region ?_   -- "ref.go:114"
  refine AOps.run tok 1 _ _ _ _ rfl ?_
  refine AOps.nil ?_
  refine AW.block ?_   -- block 2
  refine AW.loopS [1, 2, 5, 7] (fun k : Nat => [(1, .d (dI i)), (2, .bx [dS ln, BodiesD bs, JointsD js, DriversD ds]), (5, .bx [dS d.nm, dI d.body]), (7, .d (dI k))])
    (fun k => k ≤ i ∧ dupT ds i = anyF (fun k => decide ((ds.getD k default).body = d.body)) (i - k) k) (fun k => i - k) 0 rfl ⟨Nat.zero_le _, hdup2⟩ (fun k ⟨hk, hD⟩ => ?_)
  refine AW.seq ?_
  refine AW.seq ?_
  refine AW.region ?_   -- "ref.go:114"
  refine AOps.run tok 3 _ _ _ _ rfl ?_
  refine AOps.nil ?_
  refine AW.cond rfl (fun h => ?_) (fun h => ?_)
  · have hki : k < i := by have := of_decide_eq_true h; omega
    refine AW.skip ?_
    refine AW.seq ?_
    refine AW.block ?_   -- block 3
    refine AW.seq ?_
    refine AW.draw hmix 9 (by kernel_rfl) ?_   -- "ref.go:115"
    refine APre.run tok 3 _ _ _ _ rfl ?_
    refine APre.idx tok (ds.getD k default).D rfl rfl rfl rfl rfl (Int.natCast_nonneg k) (getM Driver.D (by omega)) ?_
    refine APre.run tok 5 _ _ _ _ rfl ?_
    refine APre.nil ?_
    refine AOps.nil ?_
    refine AW.cond rfl (fun h => ?_) (fun h => ?_)
    · have h' : decide ((ds.getD k default).body = d.body) = true := by simpa using h
      rw [hD.trans (anyF_hit hki h')] at hbd
      rw [show E = 6 from hbd]
      refine AW.seq ?_
      refine AW.region ?_   -- "ref.go:116"
      refine AOps.run tok 1 _ _ _ _ rfl ?_
      refine AOps.nil ?_
      exact AW.ret rfl
    · have h' : decide ((ds.getD k default).body = d.body) = false := by simpa using h
      refine AW.skip ?_
      refine AW.region ?_   -- "ref.go:114"
      refine AOps.run tok 3 _ _ _ _ rfl ?_
      rw [wI64 (x := (k : Int) + 1) (by omega) (by omega)]
      refine AOps.nil ?_
      exact ⟨k + 1, rfl, ⟨hki, hD.trans (anyF_miss hki h')⟩, by omega⟩
  have hki : ¬ k < i := by have := of_decide_eq_false h; omega
  rw [hD.trans (anyF_end hki), if_neg (by decide)] at hbd
  rw [hbd]
  refine AW.exit ?_
  refine AW.seq ?_
  refine AW.region ?_   -- "ref.go:119"
  refine AOps.run tok 1 _ _ _ _ rfl ?_
  refine AOps.nil ?_
  exact AW.ret rfl

theorem ne0_of {n : Nat} (h : (((n : Nat) : Int) != 0) = true) : n ≠ 0 := by rintro rfl; cases h
theorem eq0_of {n : Nat} (h : (((n : Nat) : Int) != 0) = false) : n = 0 := by
  have : ((n : Nat) : Int) = 0 := by simpa using h
  omega

set_option maxHeartbeats 1600000 in
theorem r19_Check_ok (l : Lkg) {K : Nat} (hl : l.ok K) (hK : K ≤ 5000000) : Pure Tryz.prog 8 [l.D] (dI (chk l : Nat)) := by
  refine Pure.intro (n := 59) tok Tryz.func8 rfl rfl rfl (Nat.le_of_ble_eq_true rfl) (by kernel_rfl) (fun B F0 w0 => ?_)
  have c1 := r19_bodies_ok l hl (by omega)
  have c2 := fun i => r19_joint_ok l i hl hK
  have c3 := fun i => r19_driver_ok l i hl
  have hcd : chk l = if nameB l.nm = false then 5 else if l.bodies = [] then 10 else if 8 < l.bodies.length then 4 else
    if bodiesE l.bodies ≠ 0 then bodiesE l.bodies else if jointsE l.bodies l.joints ≠ 0 then jointsE l.bodies l.joints else driversE l.bodies.length l.drivers := rfl
  generalize chk l = E at *
  obtain ⟨ln, bs, js, ds⟩ := l
  have hnm := hl.nm
  have hnb := hl.nb
  have hnj := hl.nj
  have hnd := hl.nd
  simp only [] at hcd c1 c2 c3 hnm hnb hnj hnd ⊢
  unfold big at hnm hnb hnj hnd
  show AW _ _ _ _ _ _ _ (initSt 0 [D.ag [dS ln, BodiesD bs, JointsD js, DriversD ds]])
  refine AW.seq ?_
  refine AW.region ?_   -- "ref.go:123"
  refine AOps.run tok 2 _ _ _ _ rfl ?_
  refine AOps.nil ?_
  refine AW.seq ?_
  refine AW.seq ?_
  refine AW.region ?_   -- "ref.go:124"
  refine AOps.run tok 2 _ _ _ _ rfl ?_
  refine AOps.call tok rfl rfl rfl rfl (r18_Name_ok ln hnm) ?_
  refine AOps.run tok 1 _ _ _ _ rfl ?_
  refine AOps.nil ?_
  refine AW.cond rfl (fun h => ?_) (fun h => ?_)
  · rw [if_pos (not_t h)] at hcd
    rw [hcd]
    refine AW.seq ?_
    refine AW.region ?_   -- "ref.go:125"
    refine AOps.run tok 1 _ _ _ _ rfl ?_
    refine AOps.nil ?_
    exact AW.ret rfl
  rw [if_neg (by simpa using h)] at hcd
  refine AW.skip ?_
  refine AW.seq ?_
  refine AW.seq ?_
  refine AW.region ?_   -- "ref.go:127"
  refine AOps.run tok 4 _ _ _ _ rfl ?_
  rw [List.length_map]
  refine AOps.nil ?_
  refine AW.cond rfl (fun h => ?_) (fun h => ?_)
  · have h0 : bs = [] := List.length_eq_zero_iff.1 (by have : (bs.length : Int) = 0 := by simpa using h
                                                       omega)
    rw [if_pos h0] at hcd
    rw [hcd]
    refine AW.seq ?_
    refine AW.region ?_   -- "ref.go:128"
    refine AOps.run tok 1 _ _ _ _ rfl ?_
    refine AOps.nil ?_
    exact AW.ret rfl
  have h0 : bs ≠ [] := by rintro rfl; simp at h
  rw [if_neg h0] at hcd
  refine AW.skip ?_
  refine AW.seq ?_
  refine AW.seq ?_
  refine AW.region ?_   -- "ref.go:130"
  refine AOps.run tok 4 _ _ _ _ rfl ?_
  rw [List.length_map]
  refine AOps.nil ?_
  refine AW.cond rfl (fun h => ?_) (fun h => ?_)
  · have h8 : 8 < bs.length := by have := of_decide_eq_true h; omega
    rw [if_pos h8] at hcd
    rw [hcd]
    refine AW.seq ?_
    refine AW.region ?_   -- "ref.go:131"
    refine AOps.run tok 1 _ _ _ _ rfl ?_
    refine AOps.nil ?_
    exact AW.ret rfl
  have h8 : ¬ 8 < bs.length := by have := of_decide_eq_false h; omega
  rw [if_neg h8] at hcd
  refine AW.skip ?_
  refine AW.seq ?_
  refine AW.seq ?_
  refine AW.region ?_   -- "ref.go:133"
  refine AOps.run tok 1 _ _ _ _ rfl ?_
  refine AOps.call tok rfl rfl rfl rfl c1 ?_
  refine AOps.run tok 1 _ _ _ _ rfl ?_
  refine AOps.nil ?_
  refine AW.seq ?_
  refine AW.region ?_   -- "ref.go:133"
  refine AOps.run tok 2 _ _ _ _ rfl ?_
  refine AOps.nil ?_
  refine AW.cond rfl (fun h => ?_) (fun h => ?_)
  · rw [if_pos (ne0_of h)] at hcd
    rw [hcd]
    refine AW.seq ?_
    refine AW.region ?_   -- "ref.go:134"
    refine AOps.run tok 2 _ _ _ _ rfl ?_
    refine AOps.nil ?_
    exact AW.ret rfl
  rw [if_neg (fun e => e (eq0_of h))] at hcd
  refine AW.skip ?_
  refine AW.seq ?_
  refine AW.seq ?_
  refine AW.region ?_   -- "ref.go:136"
  refine AOps.run tok 4 _ _ _ _ rfl ?_
  rw [List.length_map]
  refine AOps.nil ?_
  refine AW.cond rfl (fun h => ?_) (fun h => ?_)
  · have h16 : 16 < js.length := by have := of_decide_eq_true h; omega
    have hje : jointsE bs js = 4 := by rw [jointsE, if_pos h16]
    rw [hje, if_pos (by decide)] at hcd
    rw [hcd]
    refine AW.seq ?_
    refine AW.region ?_   -- "ref.go:137"
    refine AOps.run tok 1 _ _ _ _ rfl ?_
    refine AOps.nil ?_
    exact AW.ret rfl
  have h16 : ¬ 16 < js.length := by have := of_decide_eq_false h; omega
  have hje : jointsE bs js = fE (jointE bs js) js.length 0 := by rw [jointsE, if_neg h16]
  refine AW.skip ?_
  refine AW.seq ?_
  refine AW.seq ?_
  refine AW.region ?_   -- "ref.go:139"
  refine AOps.run tok 1 _ _ _ _ rfl ?_
  refine AOps.nil ?_
  refine AW.block ?_   -- block 0
  refine AW.loopS [1, 4] (fun i : Nat => [(1, .bx [dS ln, BodiesD bs, JointsD js, DriversD ds]), (4, .d (dI i))])
    (fun i => i ≤ js.length ∧ jointsE bs js = fE (jointE bs js) (js.length - i) i) (fun i => js.length - i) 0 rfl ⟨Nat.zero_le _, hje⟩ (fun i ⟨hi, hE⟩ => ?_)
  refine AW.seq ?_
  refine AW.seq ?_
  refine AW.region ?_   -- "ref.go:139"
  refine AOps.run tok 5 _ _ _ _ rfl ?_
  rw [List.length_map]
  refine AOps.nil ?_
  refine AW.cond rfl (fun h => ?_) (fun h => ?_)
  · have hin : i < js.length := by have := of_decide_eq_true h; omega
    refine AW.skip ?_
    refine AW.seq ?_
    refine AW.block ?_   -- block 1
    refine AW.seq ?_
    refine AW.region ?_   -- "ref.go:140"
    refine AOps.run tok 2 _ _ _ _ rfl ?_
    refine AOps.call tok rfl rfl rfl rfl (c2 i hin) ?_
    refine AOps.run tok 1 _ _ _ _ rfl ?_
    refine AOps.nil ?_
    refine AW.seq ?_
    refine AW.region ?_   -- "ref.go:140"
    refine AOps.run tok 2 _ _ _ _ rfl ?_
    refine AOps.nil ?_
    refine AW.cond rfl (fun h => ?_) (fun h => ?_)
    · rw [hE.trans (fE_hit hin (ne0_of h)), if_pos (ne0_of h)] at hcd
      rw [hcd]
      refine AW.seq ?_
      refine AW.region ?_   -- "ref.go:141"
      refine AOps.run tok 2 _ _ _ _ rfl ?_
      refine AOps.nil ?_
      exact AW.ret rfl
    · refine AW.skip ?_
      refine AW.region ?_   -- "ref.go:139"
      refine AOps.run tok 3 _ _ _ _ rfl ?_
      rw [wI64 (x := (i : Int) + 1) (by omega) (by omega)]
      refine AOps.nil ?_
      exact ⟨i + 1, rfl, ⟨hin, hE.trans (fE_miss hin (eq0_of h))⟩, by omega⟩
  have hin : ¬ i < js.length := by have := of_decide_eq_false h; omega
  rw [hE.trans (fE_end hin), if_neg (by decide)] at hcd
  refine AW.exit ?_
  refine AW.seq ?_
  refine AW.seq ?_
  refine AW.region ?_   -- "ref.go:144"
  refine AOps.run tok 4 _ _ _ _ rfl ?_
  rw [List.length_map]
  refine AOps.nil ?_
  refine AW.cond rfl (fun h => ?_) (fun h => ?_)
  · have h2 : 2 < ds.length := by have := of_decide_eq_true h; omega
    rw [driversE, if_pos h2] at hcd
    rw [hcd]
    refine AW.seq ?_
    refine AW.region ?_   -- "ref.go:145"
    refine AOps.run tok 1 _ _ _ _ rfl ?_
    refine AOps.nil ?_
    exact AW.ret rfl
  have h2 : ¬ 2 < ds.length := by have := of_decide_eq_false h; omega
  rw [driversE, if_neg h2] at hcd
  refine AW.skip ?_
  refine AW.seq ?_
  refine AW.seq ?_
  refine AW.region ?_   -- "ref.go:147"
  refine AOps.run tok 1 _ _ _ _ rfl ?_
  refine AOps.nil ?_
  refine AW.block ?_   -- block 2
  refine AW.loopS [1, 6] (fun i : Nat => [(1, .bx [dS ln, BodiesD bs, JointsD js, DriversD ds]), (6, .d (dI i))])
    (fun i => i ≤ ds.length ∧ E = fE (driverE bs.length ds) (ds.length - i) i) (fun i => ds.length - i) 0 rfl ⟨Nat.zero_le _, hcd⟩ (fun i ⟨hi, hE⟩ => ?_)
  refine AW.seq ?_
  refine AW.seq ?_
  refine AW.region ?_   -- "ref.go:147"
  refine AOps.run tok 5 _ _ _ _ rfl ?_
  rw [List.length_map]
  refine AOps.nil ?_
  refine AW.cond rfl (fun h => ?_) (fun h => ?_)
  · have hin : i < ds.length := by have := of_decide_eq_true h; omega
    refine AW.skip ?_
    refine AW.seq ?_
    refine AW.block ?_   -- block 3
    refine AW.seq ?_
    refine AW.region ?_   -- "ref.go:148"
    refine AOps.run tok 2 _ _ _ _ rfl ?_
    refine AOps.call tok rfl rfl rfl rfl (c3 i hin) ?_
    refine AOps.run tok 1 _ _ _ _ rfl ?_
    refine AOps.nil ?_
    refine AW.seq ?_
    refine AW.region ?_   -- "ref.go:148"
    refine AOps.run tok 2 _ _ _ _ rfl ?_
    refine AOps.nil ?_
    refine AW.cond rfl (fun h => ?_) (fun h => ?_)
    · rw [hE.trans (fE_hit hin (ne0_of h))]
      refine AW.seq ?_
      refine AW.region ?_   -- "ref.go:149"
      refine AOps.run tok 2 _ _ _ _ rfl ?_
      refine AOps.nil ?_
      exact AW.ret rfl
    · refine AW.skip ?_
      refine AW.region ?_   -- "ref.go:147"
      refine AOps.run tok 3 _ _ _ _ rfl ?_
      rw [wI64 (x := (i : Int) + 1) (by omega) (by omega)]
      refine AOps.nil ?_
      exact ⟨i + 1, rfl, ⟨hin, hE.trans (fE_miss hin (eq0_of h))⟩, by omega⟩
  have hin : ¬ i < ds.length := by have := of_decide_eq_false h; omega
  rw [hE.trans (fE_end hin)]
  refine AW.exit ?_
  refine AW.seq ?_
  refine AW.region ?_   -- "ref.go:152"
  refine AOps.run tok 1 _ _ _ _ rfl ?_
  refine AOps.nil ?_
  exact AW.ret rfl
end Lift
/- Groups: the statement GroupsAnchors. -/
namespace Lift
open Go Go.Proofs

theorem ancL_len {l : Lkg} {g : Grp} : ∀ m i out r, ancL l g m i out = some r → r.length = out.length + m
  | 0, i, out, r, h => by
    unfold ancL at h
    cases h; rfl
  | m + 1, i, out, r, h => by
    rw [ancL] at h
    split at h
    · cases h
    · have := ancL_len m (i + 1) _ r h
      rw [this, List.length_append, List.length_singleton]
      omega
theorem law25_Anchors_ok (l : Lkg) (g : Grp) (hl : l.ok big) : Pure Tryz.prog 3 [l.D, g.D] (dB true) := by
  refine Pure.intro (n := 64) tok Tryz.func3 rfl rfl rfl (Nat.le_of_ble_eq_true rfl) (by kernel_rfl) (fun B F0 w0 => ?_)
  have cL := law25_Light_ok l hl (Nat.le_refl _)
  refine AW.seq ?_
  refine AW.region ?_   -- "law.go:88"
  refine AOps.run tok 3 _ _ _ _ rfl ?_
  refine AOps.nil ?_
  refine AW.seq ?_
  refine AW.seq ?_
  cases hL : lightB l with
  | false =>
    rw [hL] at cL
    refine AW.region ?_
    refine AOps.call tok rfl rfl rfl rfl law25_awake_ok ?_
    refine AOps.run tok 3 _ _ _ _ rfl ?_
    refine AOps.call tok rfl rfl rfl rfl cL ?_   -- guarded
    refine AOps.run tok 14 _ _ _ _ rfl ?_
    refine AOps.nil ?_
    refine AW.condT rfl ?_
    refine AW.seq ?_
    refine AW.region ?_
    refine AOps.call tok rfl rfl rfl rfl law25_awake_ok ?_
    refine AOps.run tok 1 _ _ _ _ rfl ?_
    refine AOps.nil ?_
    exact AW.ret rfl
  | true =>
    rw [hL] at cL
    refine AW.region ?_
    refine AOps.call tok rfl rfl rfl rfl law25_awake_ok ?_
    refine AOps.run tok 3 _ _ _ _ rfl ?_
    refine AOps.call tok rfl rfl rfl rfl cL ?_   -- guarded
    refine AOps.run tok 6 _ _ _ _ rfl ?_
    rw [List.length_map]
    refine AOps.run tok 1 _ _ _ _ rfl ?_
    by_cases h1 : 20 < g.bs.length
    · rw [show decide ((20 : Int) < (g.bs.length : Int)) = true from decide_eq_true (by omega)]
      refine AOps.run tok 7 _ _ _ _ rfl ?_
      refine AOps.nil ?_
      refine AW.condT rfl ?_
      refine AW.seq ?_
      refine AW.region ?_
      refine AOps.call tok rfl rfl rfl rfl law25_awake_ok ?_
      refine AOps.run tok 1 _ _ _ _ rfl ?_
      refine AOps.nil ?_
      exact AW.ret rfl
    rw [show decide ((20 : Int) < (g.bs.length : Int)) = false from decide_eq_false (by omega)]
    refine AOps.run tok 5 _ _ _ _ rfl ?_
    rw [List.length_map]
    refine AOps.run tok 1 _ _ _ _ rfl ?_
    by_cases h2 : 20 < g.js.length
    · rw [show decide ((20 : Int) < (g.js.length : Int)) = true from decide_eq_true (by omega)]
      refine AOps.run tok 1 _ _ _ _ rfl ?_
      refine AOps.nil ?_
      refine AW.condT rfl ?_
      refine AW.seq ?_
      refine AW.region ?_
      refine AOps.call tok rfl rfl rfl rfl law25_awake_ok ?_
      refine AOps.run tok 1 _ _ _ _ rfl ?_
      refine AOps.nil ?_
      exact AW.ret rfl
    rw [show decide ((20 : Int) < (g.js.length : Int)) = false from decide_eq_false (by omega)]
    refine AOps.run tok 1 _ _ _ _ rfl ?_
    refine AOps.nil ?_
    refine AW.condF rfl ?_
    refine AW.skip ?_
    have hs := hl.light hL
    have cA := groups_Anchors_ok l g hs (by decide) (by omega) (by omega)
    have cC := r19_Check_ok l hs (by decide)
    refine AW.seq ?_
    refine AW.region ?_   -- "law.go:92"
    refine AOps.run tok 2 _ _ _ _ rfl ?_
    refine AOps.call tok rfl rfl rfl rfl cA ?_
    rcases hC : chk l with _ | m
    rotate_left
    · rw [show anchorsD l g = .tu [.sl 1 [], erV (m + 1)] by unfold anchorsD; rw [hC, if_neg (Nat.succ_ne_zero m)]]
      rw [hC] at cC
      refine AOps.run tok 5 _ _ _ _ rfl ?_
      refine AOps.nil ?_
      refine AW.seq ?_
      refine AW.seq ?_
      refine AW.region ?_   -- "law.go:93"
      refine AOps.run tok 1 _ _ _ _ rfl ?_
      refine AOps.call tok rfl rfl rfl rfl cC ?_
      refine AOps.run tok 1 _ _ _ _ rfl ?_
      refine AOps.nil ?_
      refine AW.seq ?_
      refine AW.region ?_   -- "law.go:93"
      refine AOps.run tok 2 _ _ _ _ rfl ?_
      rw [show (((m + 1 : Nat) : Int) != 0) = true from bne_iff_ne.2 (by omega)]
      refine AOps.nil ?_
      refine AW.condT rfl ?_
      refine AW.seq ?_
      refine AW.region ?_
      refine AOps.run tok 4 _ _ _ _ rfl ?_
      refine AOps.split (t := 43) rfl (fun h => ?_) (fun h => by cases h)
      refine AOps.run tok 1 _ _ _ _ rfl ?_
      refine AOps.call tok rfl rfl rfl rfl (base_Num_ok (m + 1)) ?_
      refine AOps.run tok 2 _ _ _ _ rfl ?_
      rw [beq_self_eq_true]
      refine AOps.run tok 2 _ _ _ _ rfl ?_
      refine AOps.nil ?_
      exact AW.ret rfl
    have hj16 := (chk_in hC).2.2.1
    have cR := r25_Anchors_ok l g (by omega) (by omega) (by omega)
    rw [show anchorsD l g = ancD (ancL l g g.js.length 0 []) by unfold anchorsD; rw [if_pos hC]]
    rw [hC] at cC
    unfold ranD at cR
    cases hA : ancL l g g.js.length 0 [] with
    | none =>
      rw [hA] at cR
      refine AOps.run tok 5 _ _ _ _ rfl ?_
      refine AOps.nil ?_
      refine AW.seq ?_
      refine AW.seq ?_
      refine AW.region ?_   -- "law.go:93"
      refine AOps.run tok 1 _ _ _ _ rfl ?_
      refine AOps.call tok rfl rfl rfl rfl cC ?_
      refine AOps.run tok 1 _ _ _ _ rfl ?_
      refine AOps.nil ?_
      refine AW.seq ?_
      refine AW.region ?_   -- "law.go:93"
      refine AOps.run tok 2 _ _ _ _ rfl ?_
      refine AOps.nil ?_
      refine AW.condF rfl ?_
      refine AW.skip ?_
      refine AW.seq ?_
      refine AW.region ?_   -- "law.go:96"
      refine AOps.run tok 2 _ _ _ _ rfl ?_
      refine AOps.call tok rfl rfl rfl rfl cR ?_
      refine AOps.run tok 5 _ _ _ _ rfl ?_
      refine AOps.nil ?_
      refine AW.seq ?_
      refine AW.region ?_   -- "law.go:97"
      refine AOps.run tok 1 _ _ _ _ rfl ?_
      refine AOps.call tok rfl rfl rfl rfl (base_Num_ok 9) ?_
      refine AOps.run tok 3 _ _ _ _ rfl ?_
      refine AOps.split (t := 59) rfl (fun h => ?_) (fun h => by cases h)
      refine AOps.run tok 2 _ _ _ _ rfl ?_
      refine AOps.call tok rfl rfl rfl rfl (base_Ints_ok [] [] (by decide)) ?_
      refine AOps.run tok 2 _ _ _ _ rfl ?_
      refine AOps.nil ?_
      exact AW.ret rfl
    | some out =>
      have hol := ancL_len _ _ _ _ hA
      rw [hA] at cR
      have cI := base_Ints_ok out out (by unfold big; rw [hol, List.length_nil]; omega)
      rw [show decide (out = out) = true from decide_eq_true rfl] at cI
      refine AOps.run tok 5 _ _ _ _ rfl ?_
      refine AOps.nil ?_
      refine AW.seq ?_
      refine AW.seq ?_
      refine AW.region ?_   -- "law.go:93"
      refine AOps.run tok 1 _ _ _ _ rfl ?_
      refine AOps.call tok rfl rfl rfl rfl cC ?_
      refine AOps.run tok 1 _ _ _ _ rfl ?_
      refine AOps.nil ?_
      refine AW.seq ?_
      refine AW.region ?_   -- "law.go:93"
      refine AOps.run tok 2 _ _ _ _ rfl ?_
      refine AOps.nil ?_
      refine AW.condF rfl ?_
      refine AW.skip ?_
      refine AW.seq ?_
      refine AW.region ?_   -- "law.go:96"
      refine AOps.run tok 2 _ _ _ _ rfl ?_
      refine AOps.call tok rfl rfl rfl rfl cR ?_
      refine AOps.run tok 5 _ _ _ _ rfl ?_
      refine AOps.nil ?_
      refine AW.seq ?_
      refine AW.region ?_   -- "law.go:97"
      refine AOps.run tok 1 _ _ _ _ rfl ?_
      refine AOps.call tok rfl rfl rfl rfl (base_Num_ok 0) ?_
      refine AOps.run tok 3 _ _ _ _ rfl ?_
      refine AOps.split (t := 59) rfl (fun h => ?_) (fun h => by cases h)
      refine AOps.run tok 2 _ _ _ _ rfl ?_
      refine AOps.call tok rfl rfl rfl rfl cI ?_
      refine AOps.run tok 2 _ _ _ _ rfl ?_
      refine AOps.nil ?_
      exact AW.ret rfl
end Lift
