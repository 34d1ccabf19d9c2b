/- Parts of the proof, one behind the other: the logic, the contracts of the functions that the statement reaches. -/
import Derived.Test.YtdoicdbaacfpoaaGreatBaE
set_option linter.unusedVariables false
set_option linter.unusedSimpArgs false
/- The statement GraphBasis: what its function answers. -/
namespace Lift
open Go Go.Proofs

set_option maxHeartbeats 4000000 in
theorem law_Basis_ok (l : Lkg) (hl : l.ok big) : Pure Tryz.prog 3 [l.D] (dB true) := by
  refine Pure.intro (n := 167) tok Tryz.func3 rfl rfl rfl (Nat.le_of_ble_eq_true rfl) (by kernel_rfl) (fun B F0 w0 => ?_)
  have cL := law23_large_ok l hl (Nat.le_refl _)
  refine AW.seq ?_
  refine AW.region ?_
  refine AOps.run tok 2 _ _ _ _ rfl ?_
  refine AOps.nil ?_
  refine AW.seq ?_
  refine AW.seq ?_
  rcases hL : largeB l with _ | _
  rotate_left
  · rw [hL] at cL
    refine AW.region ?_
    refine AOps.call tok rfl rfl rfl rfl law23_awake_ok ?_
    refine AOps.run tok 3 _ _ _ _ rfl ?_
    refine AOps.call tok rfl rfl rfl rfl cL ?_
    refine AOps.run tok 6 _ _ _ _ rfl ?_
    refine AOps.nil ?_
    refine AW.condT rfl ?_
    refine AW.seq ?_
    refine AW.region ?_
    refine AOps.call tok rfl rfl rfl rfl law23_awake_ok ?_
    refine AOps.run tok 1 _ _ _ _ rfl ?_
    refine AOps.nil ?_
    exact AW.ret rfl
  rw [hL] at cL
  have hs := hl.small hL
  have cC := r23_Check_ok l hs (by decide)
  rcases hE : chk l with _ | m
  rotate_left
  · rw [hE] at cC
    refine AW.region ?_
    refine AOps.call tok rfl rfl rfl rfl law23_awake_ok ?_
    refine AOps.run tok 3 _ _ _ _ rfl ?_
    refine AOps.call tok rfl rfl rfl rfl cL ?_
    refine AOps.run tok 3 _ _ _ _ rfl ?_
    refine AOps.call tok rfl rfl rfl rfl cC ?_
    refine AOps.run tok 2 _ _ _ _ rfl ?_
    refine AOps.nil ?_
    refine AW.condT rfl ?_
    refine AW.seq ?_
    refine AW.region ?_
    refine AOps.call tok rfl rfl rfl rfl law23_awake_ok ?_
    refine AOps.run tok 1 _ _ _ _ rfl ?_
    refine AOps.nil ?_
    exact AW.ret rfl
  have cP := graph_Basis_ok l hs (by decide)
  have cQ := graph_Loops_ok l hs (by decide)
  have hF : jok l.joints l.bodies.length ∧ 0 < l.bodies.length ∧ l.bodies.length ≤ 8 ∧ l.joints.length ≤ 16 := ⟨chk_jok hE, chk_pos hE, chk_le hE, chk_js hE⟩
  rw [show basD l = .tu [LsD (basL l.joints l.bodies.length), nilE] from if_pos hE] at cP
  have hne : ∀ i, i < l.joints.length → (l.joints.getD i default).a ≠ (l.joints.getD i default).b := fun i hi => (joint_ne (chk_all hE).2.2.2.2.1 hi).2
  rw [show loopsD l = .tu [dI ((l.joints.length : Int) - l.bodies.length + (comps l.joints l.bodies.length (-1)).length), nilE] from if_pos hE, bas_count hF.1] at cQ
  have hLF := fun {i : Nat} hi => loop_facts hF.1 hne (i := i) hi
  rw [hE] at cC
  obtain ⟨hj, hpos, h8, h16⟩ := hF
  have hrl : (basL l.joints l.bodies.length).length ≤ l.joints.length := basS_len _ _ _ _
  have hel := basS_el l.joints l.bodies.length hj
  obtain ⟨ln, bs, js, ds⟩ := l
  simp only [] at hj hpos h8 h16 hLF hrl hel cP cQ hne
  generalize basL js bs.length = C at *
  refine AW.region ?_   -- "law.go:118"   -- GUARDS
  refine AOps.call tok rfl rfl rfl rfl law23_awake_ok ?_
  refine AOps.run tok 3 _ _ _ _ rfl ?_
  refine AOps.call tok rfl rfl rfl rfl cL ?_
  refine AOps.run tok 3 _ _ _ _ rfl ?_
  refine AOps.call tok rfl rfl rfl rfl cC ?_
  refine AOps.run tok 2 _ _ _ _ rfl ?_
  refine AOps.nil ?_
  refine AW.condF rfl ?_
  · skip
    refine AW.skip ?_
    refine AW.seq ?_
    refine AW.region ?_   -- "law.go:121"
    refine AOps.run tok 1 _ _ _ _ rfl ?_
    refine AOps.call tok rfl rfl rfl rfl cP ?_
    refine AOps.run tok 5 _ _ _ _ rfl ?_
    refine AOps.nil ?_
    refine AW.seq ?_
    refine AW.region ?_   -- "law.go:122"
    refine AOps.run tok 1 _ _ _ _ rfl ?_
    refine AOps.call tok rfl rfl rfl rfl cQ ?_
    refine AOps.run tok 5 _ _ _ _ rfl ?_
    refine AOps.nil ?_
    refine AW.seq ?_
    refine AW.seq ?_
    refine AW.region ?_   -- "law.go:123"   -- GUARDS
    refine AOps.run tok 1 _ _ _ _ rfl ?_
    refine AOps.err tok rfl rfl rfl rfl rfl ?_
    refine AOps.run tok 2 _ _ _ _ rfl ?_
    refine AOps.err tok rfl rfl rfl rfl rfl ?_
    refine AOps.run tok 7 _ _ _ _ rfl ?_
    rw [List.length_map]
    refine AOps.nil ?_
    refine AW.cond rfl (fun h => absurd rfl (of_not_eq h)) (fun h => ?_)
    · skip
      refine AW.skip ?_
      refine AW.seq ?_
      refine AW.seq ?_
      refine AW.region ?_   -- "law.go:126"
      refine AOps.run tok 1 _ _ _ _ rfl ?_
      refine AOps.nil ?_
      refine AW.block ?_   -- block 0
      refine AW.loopS [1, 3, 7] (fun i : Nat => [(1, .bx [dS ln, BodiesD bs, JointsD js, DriversD ds]), (3, .d (LsD C)), (7, .d (dI i))]) (fun i => i ≤ C.length) (fun i => C.length - i) 0 rfl (Nat.zero_le _) (fun i hi => ?_)
      · skip
        refine AW.seq ?_
        refine AW.seq ?_
        refine AW.region ?_   -- "law.go:126"
        refine AOps.run tok 4 _ _ _ _ rfl ?_
        rw [List.length_map]
        refine AOps.nil ?_
        refine AW.cond rfl (fun h => ?_) (fun h => ?_)
        · skip
          have hin : i < C.length := by have := of_decide_eq_true h; omega
          have hLF := hLF hin
          have hcl := getD_el hel i
          obtain ⟨c, hc⟩ : ∃ c, c = C.getD i [] := ⟨_, rfl⟩
          have hgC : (C.map (fun x => IsD x))[((i : Int)).toNat]? = some (IsD c) := by rw [hc]; exact getLs hin
          rw [← hc] at hLF hcl
          obtain ⟨hasc, hel2, hown, hdeg⟩ := hLF
          refine AW.skip ?_
          refine AW.seq ?_
          refine AW.block ?_   -- block 1
          refine AW.seq ?_
          refine AW.region ?_   -- "law.go:127"
          refine AOps.run tok 1 _ _ _ _ rfl ?_
          refine AOps.nil ?_
          refine AW.seq ?_
          refine AW.region ?_   -- "law.go:128"
          refine AOps.run tok 3 _ _ _ _ rfl ?_
          rw [List.length_map]
          refine AOps.make tok rfl rfl rfl rfl rfl (Int.natCast_nonneg _) (by show ((8 : Nat) : Int) * _ ≤ _; omega) (by omega) ?_
          rw [Int.toNat_natCast]
          refine AOps.run tok 1 _ _ _ _ rfl ?_
          refine AOps.nil ?_
          refine AW.seq ?_
          refine AW.seq ?_
          refine AW.region ?_   -- "law.go:129"
          refine AOps.run tok 1 _ _ _ _ rfl ?_
          refine AOps.nil ?_
          refine AW.block ?_   -- block 2
          refine AW.loopS [1, 3, 7, 8, 9, 10] (fun s : Nat × List Int × List D => [(1, .bx [dS ln, BodiesD bs, JointsD js, DriversD ds]), (3, .d (LsD C)), (7, .d (dI i)), (8, .d (dB (ownP C i c s.1))), (9, .ow 3 s.2.2), (10, .d (dI s.1))])
            (fun s => s.1 ≤ c.length ∧ s.2.2 = s.2.1.map dI ∧ s.2.1.length = bs.length ∧ ∀ w, w < bs.length → s.2.1.getD w 0 = (degP js c w s.1 : Nat)) (fun s => c.length - s.1) (0, List.replicate bs.length 0, List.replicate bs.length (dI 0)) rfl
            ⟨Nat.zero_le _, by simp, by simp, fun w hw => by simp [hw, degP]⟩ (fun s hs => ?_)
          obtain ⟨k, D, L⟩ := s
          obtain ⟨hk, hrow, hDl, hD⟩ := hs
          simp only [] at hk hrow hDl hD
          subst hrow
          · show AW _ _ _ _ _ _ _ [(1, .bx [dS ln, BodiesD bs, JointsD js, DriversD ds]), (3, .d (LsD C)), (7, .d (dI i)), (8, .d (dB (ownP C i c k))), (9, .ow 3 (D.map dI)), (10, .d (dI k))]
            refine AW.seq ?_
            refine AW.seq ?_
            refine AW.region ?_   -- "law.go:129"
            refine AOps.run tok 3 _ _ _ _ rfl ?_
            refine AOps.idx tok (IsD c) rfl rfl rfl rfl (Int.natCast_nonneg i) hgC ?_
            refine AOps.run tok 3 _ _ _ _ rfl ?_
            rw [List.length_map]
            refine AOps.nil ?_
            refine AW.cond rfl (fun h => ?_) (fun h => ?_)
            · skip
              have hkn : k < c.length := by have := of_decide_eq_true h; omega
              obtain ⟨z, hz, hzm⟩ := hel2 k hkn
              have hgz := getI hkn
              rw [hz] at hgz
              obtain ⟨⟨a1, a2⟩, b1, b2⟩ := hj z hzm
              have hnez := hne z hzm
              obtain ⟨j, hje⟩ : ∃ j, j = js.getD z default := ⟨_, rfl⟩
              obtain ⟨a0, ha⟩ : ∃ a : Nat, (js.getD z default).a = a := ⟨_, (Int.toNat_of_nonneg a1).symm⟩
              obtain ⟨b0, hb⟩ : ∃ b : Nat, (js.getD z default).b = b := ⟨_, (Int.toNat_of_nonneg b1).symm⟩
              have hab : a0 ≠ b0 := fun e => hnez (by rw [ha, hb, e])
              have han : a0 < bs.length := by omega
              have hbn : b0 < bs.length := by omega
              obtain ⟨hDl2, hD2⟩ := deg_set hkn hz ha hb hab han hbn hDl hD
              have hga := hD a0 han
              have hgb : (D.set a0 (D.getD a0 0 + 1)).getD b0 0 = (degP js c b0 k : Nat) := by rw [getD_set_ne hab.symm]; exact hD b0 hbn
              have hda := degP_le js c a0 k
              have hdb := degP_le js c b0 k
              refine AW.skip ?_
              refine AW.seq ?_
              refine AW.block ?_   -- block 3
              refine AW.seq ?_
              refine AW.region ?_   -- "law.go:130"
              refine AOps.run tok 2 _ _ _ _ rfl ?_
              refine AOps.idx tok (IsD c) rfl rfl rfl rfl (Int.natCast_nonneg i) hgC ?_
              refine AOps.run tok 2 _ _ _ _ rfl ?_
              refine AOps.idx tok (dI z) rfl rfl rfl rfl (Int.natCast_nonneg k) hgz ?_
              refine AOps.run tok 2 _ _ _ _ rfl ?_
              refine AOps.nil ?_
              refine AW.seq ?_
              refine AW.cut [1, 3, 7, 8, 9, 10, 11, 99] (fun _ : Unit => [(1, .bx [dS ln, BodiesD bs, JointsD js, DriversD ds]), (3, .d (LsD C)), (7, .d (dI i)), (8, .d (dB (ownP C i c k))), (9, .ow 3 (D.map dI)), (10, .d (dI k)), (11, .d (dI z)), (99, .d (dB false))]) (fun _ => True) ?_ (fun _ _ => ?_)
              · refine AW.region ?_
                refine AOps.run tok 2 _ _ _ _ rfl ?_
                rw [show decide ((z : Int) < 0) = false from decide_eq_false (by omega)]
                refine AOps.run tok 6 _ _ _ _ rfl ?_
                rw [List.length_map, show decide ((js.length : Int) ≤ (z : Int)) = false from decide_eq_false (by omega)]
                refine AOps.run tok 5 _ _ _ _ rfl ?_
                refine AOps.split (t := 87) rfl (fun h1 => ?_) (fun h1 => ?_)
                · have hk0 : 0 < k := by have := of_decide_eq_true h1; omega
                  have hprev := hasc (k - 1) (by omega)
                  rw [show k - 1 + 1 = k by omega, hz] at hprev
                  refine AOps.run tok 3 _ _ _ _ rfl ?_
                  refine AOps.idx tok (IsD c) rfl rfl rfl rfl (Int.natCast_nonneg i) hgC ?_
                  refine AOps.run tok 3 _ _ _ _ rfl ?_
                  rw [wI64 (x := (k : Int) - 1) (by omega) (by omega)]
                  refine AOps.idx tok (dI (c.getD (k - 1) 0)) rfl rfl rfl rfl (by omega) (by rw [show ((k : Int) - 1).toNat = k - 1 by omega]; exact getZ (by omega)) ?_
                  refine AOps.run tok 2 _ _ _ _ rfl ?_
                  rw [show decide ((z : Int) ≤ c.getD (k - 1) 0) = false from decide_eq_false (by omega)]
                  refine AOps.run tok 2 _ _ _ _ rfl ?_
                  refine AOps.nil ?_
                  exact ⟨(), rfl, trivial⟩
                · refine AOps.run tok 12 _ _ _ _ rfl ?_
                  refine AOps.nil ?_
                  exact ⟨(), rfl, trivial⟩
              refine AW.condF rfl ?_
              · skip
                refine AW.skip ?_
                refine AW.seq ?_
                refine AW.region ?_   -- "law.go:134"
                refine AOps.run tok 4 _ _ _ _ rfl ?_
                refine AOps.idx tok j.D rfl rfl rfl rfl (Int.natCast_nonneg z) (by rw [hje]; exact getM Joint.D hzm) ?_
                refine AOps.run tok 2 _ _ _ _ rfl ?_
                rw [hje, ha]
                refine AOps.idxo tok rfl rfl rfl rfl (Int.natCast_nonneg a0) (by simp; omega) ?_
                rw [Int.toNat_natCast]
                refine AOps.loadel tok (dI (D.getD a0 0)) rfl rfl rfl rfl (getZ (by omega)) rfl ?_
                refine AOps.run tok 1 _ _ _ _ rfl ?_
                rw [wI64 (x := D.getD a0 0 + 1) (by omega) (by omega)]
                refine AOps.idxo tok rfl rfl rfl rfl (Int.natCast_nonneg a0) (by simp; omega) ?_
                rw [Int.toNat_natCast]
                refine AOps.storeO tok rfl rfl rfl (by omega) ?_
                refine AOps.nil ?_
                refine AW.seq ?_
                refine AW.region ?_   -- "law.go:135"
                refine AOps.run tok 4 _ _ _ _ rfl ?_
                refine AOps.idx tok j.D rfl rfl rfl rfl (Int.natCast_nonneg z) (by rw [hje]; exact getM Joint.D hzm) ?_
                refine AOps.run tok 2 _ _ _ _ rfl ?_
                rw [hje, hb]
                refine AOps.idxo tok rfl rfl rfl rfl (Int.natCast_nonneg b0) (by simp; omega) ?_
                rw [Int.toNat_natCast]
                refine AOps.loadel tok (dI ((D.set a0 (D.getD a0 0 + 1)).getD b0 0)) rfl rfl rfl rfl (getZ (by simp; omega)) rfl ?_
                refine AOps.run tok 1 _ _ _ _ rfl ?_
                rw [wI64 (x := (D.set a0 (D.getD a0 0 + 1)).getD b0 0 + 1) (by omega) (by omega)]
                refine AOps.idxo tok rfl rfl rfl rfl (Int.natCast_nonneg b0) (by simp; omega) ?_
                rw [Int.toNat_natCast]
                refine AOps.storeO tok rfl rfl rfl (by simp; omega) ?_
                refine AOps.nil ?_
                generalize (D.set a0 (D.getD a0 0 + 1)).set b0 ((D.set a0 (D.getD a0 0 + 1)).getD b0 0 + 1) = D2 at *
                refine AW.seq ?_
                refine AW.region ?_   -- "law.go:136"
                refine AOps.run tok 1 _ _ _ _ rfl ?_
                refine AOps.nil ?_
                refine AW.seq ?_
                refine AW.seq ?_
                refine AW.region ?_   -- "law.go:137"
                refine AOps.run tok 1 _ _ _ _ rfl ?_
                refine AOps.nil ?_
                refine AW.block ?_   -- block 4
                refine AW.loopS [1, 3, 7, 8, 9, 10, 11, 12, 13] (fun q : Nat => [(1, .bx [dS ln, BodiesD bs, JointsD js, DriversD ds]), (3, .d (LsD C)), (7, .d (dI i)), (8, .d (dB (ownP C i c k))), (9, .ow 3 (D2.map dI)), (10, .d (dI k)), (11, .d (dI z)), (12, .d (dB (alP C i z q))), (13, .d (dI q))]) (fun q => q ≤ C.length) (fun q => C.length - q) 0 rfl (Nat.zero_le _) (fun q hq => ?_)
                · skip
                  refine AW.seq ?_
                  refine AW.seq ?_
                  refine AW.region ?_   -- "law.go:137"
                  refine AOps.run tok 4 _ _ _ _ rfl ?_
                  rw [List.length_map]
                  refine AOps.nil ?_
                  refine AW.cond rfl (fun h => ?_) (fun h => ?_)
                  · skip
                    have hqn : q < C.length := by have := of_decide_eq_true h; omega
                    have hql := getD_el hel q
                    refine AW.skip ?_
                    refine AW.cut [1, 3, 7, 8, 9, 10, 11, 12, 13] (fun _ : Unit => [(1, .bx [dS ln, BodiesD bs, JointsD js, DriversD ds]), (3, .d (LsD C)), (7, .d (dI i)), (8, .d (dB (ownP C i c k))), (9, .ow 3 (D2.map dI)), (10, .d (dI k)), (11, .d (dI z)), (12, .d (dB (alP C i z (q + 1)))), (13, .d (dI q))]) (fun _ => True) ?_ (fun _ _ => ?_)
                    · refine AW.block ?_
                      refine AW.region ?_
                      rw [show alP C i z (q + 1) = (alP C i z q && (decide ((q : Int) = (i : Int)) || !(C.getD q []).contains (z : Int))) from rfl]
                      refine AOps.run tok 2 _ _ _ _ rfl ?_
                      refine AOps.split (t := 129) rfl (fun h1 => ?_) (fun h1 => ?_)
                      · refine AOps.run tok 4 _ _ _ _ rfl ?_
                        refine AOps.split (t := 133) rfl (fun h2 => ?_) (fun h2 => ?_)
                        · refine AOps.run tok 10 _ _ _ _ rfl ?_
                          refine AOps.nil ?_
                          exact ⟨(), by rw [h1, show decide ((q : Int) = (i : Int)) = true from h2]; rfl, trivial⟩
                        · refine AOps.run tok 2 _ _ _ _ rfl ?_
                          refine AOps.idx tok (IsD (C.getD q [])) rfl rfl rfl rfl (Int.natCast_nonneg q) (getLs hqn) ?_
                          refine AOps.run tok 2 _ _ _ _ rfl ?_
                          refine AOps.call tok rfl rfl rfl rfl (law23_has_ok _ z (by unfold big; omega)) ?_
                          refine AOps.run tok 4 _ _ _ _ rfl ?_
                          refine AOps.nil ?_
                          exact ⟨(), by rw [h1, show decide ((q : Int) = (i : Int)) = false from h2]; rfl, trivial⟩
                      · refine AOps.run tok 14 _ _ _ _ rfl ?_
                        refine AOps.nil ?_
                        exact ⟨(), by rw [h1]; rfl, trivial⟩
                    refine AW.region ?_   -- "law.go:137"
                    refine AOps.run tok 3 _ _ _ _ rfl ?_
                    rw [wI64 (x := (q : Int) + 1) (by omega) (by omega)]
                    refine AOps.nil ?_
                    exact ⟨q + 1, rfl, hqn, by omega⟩
                  · have hqn : q = C.length := by have := of_decide_eq_false h; omega
                    subst hqn
                    refine AW.exit ?_
                    have hown2 : ownP C i c (k + 1) = (ownP C i c k || alP C i z C.length) := by rw [← hz]; rfl
                    refine AW.region ?_
                    refine AOps.run tok 2 _ _ _ _ rfl ?_
                    refine AOps.split (t := 144) rfl (fun h1 => ?_) (fun h1 => ?_)
                    · refine AOps.run tok 3 _ _ _ _ rfl ?_
                      refine AOps.nil ?_
                      refine AW.region ?_
                      refine AOps.run tok 3 _ _ _ _ rfl ?_
                      rw [wI64 (x := (k : Int) + 1) (by omega) (by omega)]
                      refine AOps.nil ?_
                      exact ⟨(k + 1, D2, D2.map dI), by simp only []; rw [hown2, h1]; rfl, ⟨hkn, rfl, hDl2, hD2⟩, by simp only []; omega⟩
                    · refine AOps.run tok 3 _ _ _ _ rfl ?_
                      refine AOps.nil ?_
                      refine AW.region ?_
                      refine AOps.run tok 3 _ _ _ _ rfl ?_
                      rw [wI64 (x := (k : Int) + 1) (by omega) (by omega)]
                      refine AOps.nil ?_
                      exact ⟨(k + 1, D2, D2.map dI), by simp only []; rw [hown2, h1]; rfl, ⟨hkn, rfl, hDl2, hD2⟩, by simp only []; omega⟩
            · have hkn : k = c.length := by have := of_decide_eq_false h; omega
              subst hkn
              rw [hown]
              refine AW.exit ?_
              refine AW.seq ?_
              refine AW.seq ?_
              refine AW.region ?_
              refine AOps.run tok 1 _ _ _ _ rfl ?_
              refine AOps.nil ?_
              refine AW.block ?_
              refine AW.loopS [1, 3, 7, 8, 9, 14] (fun w : Nat => [(1, .bx [dS ln, BodiesD bs, JointsD js, DriversD ds]), (3, .d (LsD C)), (7, .d (dI i)), (8, .d (dB true)), (9, .ow 3 (D.map dI)), (14, .d (dI w))]) (fun w => w ≤ bs.length) (fun w => bs.length - w) 0 rfl (Nat.zero_le _) (fun w hw => ?_)
              refine AW.seq ?_
              refine AW.seq ?_
              refine AW.region ?_
              refine AOps.run tok 4 _ _ _ _ rfl ?_
              rw [List.length_map, hDl]
              refine AOps.nil ?_
              refine AW.cond rfl (fun h => ?_) (fun h => ?_)
              · have hwn : w < bs.length := by have := of_decide_eq_true h; omega
                have hg : (D.map dI)[w]? = some (dI (degP js c w c.length : Nat)) := by rw [← hD w hwn]; exact getZ (by omega)
                refine AW.skip ?_
                refine AW.seq ?_
                refine AW.block ?_
                refine AW.cut [1, 3, 7, 8, 9, 14, 164] (fun _ : Unit => [(1, .bx [dS ln, BodiesD bs, JointsD js, DriversD ds]), (3, .d (LsD C)), (7, .d (dI i)), (8, .d (dB true)), (9, .ow 3 (D.map dI)), (14, .d (dI w)), (164, .d (dB false))]) (fun _ => True) ?_ (fun _ _ => ?_)
                · refine AW.region ?_
                  refine AOps.run tok 2 _ _ _ _ rfl ?_
                  refine AOps.idxo tok rfl rfl rfl rfl (Int.natCast_nonneg w) (by simp; omega) ?_
                  rw [Int.toNat_natCast]
                  rcases hdeg w hwn with e0 | e0
                  · rw [e0] at hg
                    refine AOps.loadel tok (dI ((0 : Nat) : Int)) rfl rfl rfl rfl hg rfl ?_
                    refine AOps.run tok 8 _ _ _ _ rfl ?_
                    refine AOps.nil ?_
                    exact ⟨(), rfl, trivial⟩
                  · rw [e0] at hg
                    refine AOps.loadel tok (dI ((2 : Nat) : Int)) rfl rfl rfl rfl hg rfl ?_
                    refine AOps.run tok 4 _ _ _ _ rfl ?_
                    refine AOps.idxo tok rfl rfl rfl rfl (Int.natCast_nonneg w) (by simp; omega) ?_
                    rw [Int.toNat_natCast]
                    refine AOps.loadel tok (dI ((2 : Nat) : Int)) rfl rfl rfl rfl hg rfl ?_
                    refine AOps.run tok 2 _ _ _ _ rfl ?_
                    refine AOps.nil ?_
                    exact ⟨(), rfl, trivial⟩
                refine AW.condF rfl ?_
                refine AW.skip ?_
                refine AW.region ?_
                refine AOps.run tok 3 _ _ _ _ rfl ?_
                rw [wI64 (x := (w : Int) + 1) (by omega) (by omega)]
                refine AOps.nil ?_
                exact ⟨w + 1, rfl, hwn, by omega⟩
              · refine AW.exit ?_
                refine AW.seq ?_
                refine AW.region ?_
                refine AOps.run tok 2 _ _ _ _ rfl ?_
                refine AOps.nil ?_
                refine AW.condF rfl ?_
                refine AW.skip ?_
                refine AW.region ?_
                refine AOps.run tok 3 _ _ _ _ rfl ?_
                rw [wI64 (x := (i : Int) + 1) (by omega) (by omega)]
                refine AOps.nil ?_
                exact ⟨i + 1, rfl, hin, by omega⟩
        · skip
          refine AW.exit ?_
          refine AW.seq ?_
          refine AW.region ?_
          refine AOps.run tok 1 _ _ _ _ rfl ?_
          refine AOps.nil ?_
          exact AW.ret rfl
end Lift
