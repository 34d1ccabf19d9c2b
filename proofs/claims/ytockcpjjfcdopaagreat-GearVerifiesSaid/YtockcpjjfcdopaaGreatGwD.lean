/- Parts of the proof, one behind the other: the logic, the contracts of the functions that the statement reaches. -/
import Derived.Test.YtockcpjjfcdopaaGreatGwC
import Derived.Laws.Strings
import Derived.Test.YtockcpjjfcdopaaGreatRows
set_option linter.unusedVariables false
set_option linter.unusedSimpArgs false
/- The reference's fractions. -/
namespace Lift
open Go Go.Proofs


theorem r02_one_ok : Pure Tryz.prog 56 [] (WhI 1) := by
  refine Pure.intro (n := 2) tok Tryz.func56 rfl rfl rfl (Nat.le_of_ble_eq_true rfl) (by kernel_rfl) (fun B F0 w0 => ?_)
  refine AW.seq ?_
  refine AW.region ?_   -- "fraction.go:21"
  refine AOps.run tok 1 _ _ _ _ rfl ?_
  refine AOps.nil ?_
  refine AW.seq ?_
  refine AW.region ?_   -- "fraction.go:21"
  refine AOps.call tok rfl rfl rfl rfl (r01_Of_ok 1 (by decide) (by decide)) ?_
  refine AOps.run tok 1 _ _ _ _ rfl ?_
  refine AOps.nil ?_
  exact AW.ret rfl



theorem r02_plain_ok (m : List Nat) (hm : W32 m) (hl : m.length ≤ 35184372088831) : Pure Tryz.prog 63 [Wd m] (dB (decide (m ≠ [] ∧ okW false m = true))) := by
  refine Pure.intro (n := 15) tok Tryz.func63 rfl rfl rfl (Nat.le_of_ble_eq_true rfl) (by kernel_rfl) (fun B F0 w0 => ?_)
  refine AW.seq ?_
  refine AW.region ?_   -- "ref.go:14"
  refine AOps.run tok 1 _ _ _ _ rfl ?_
  refine AOps.nil ?_
  refine AW.seq ?_
  refine AW.region ?_   -- "ref.go:14"   -- GUARDS
  refine AOps.run tok 3 _ _ _ _ rfl ?_
  rw [lenWd]
  refine AOps.split (t := 5) rfl (fun h => ?_) (fun h => ?_)
  · have h1 : m ≠ [] := by
      have := of_decide_eq_true h
      intro e; subst e; simp at this
    have hl0 : 0 < m.length := List.length_pos_iff.2 h1
    refine AOps.run tok 5 _ _ _ _ rfl ?_
    rw [lenWd, wI64 (x := (m.length : Int) - 1) (by omega) (by omega), show (m.length : Int) - 1 = ((m.length - 1 : Nat) : Int) by omega]
    refine AOps.idx tok (wd (m.getD (m.length - 1) 0)) rfl rfl rfl rfl (Int.natCast_nonneg _) (getWd (by omega)) ?_   -- guarded
    refine AOps.run tok 4 _ _ _ _ rfl ?_
    refine AOps.nil ?_
    rw [show decide (m ≠ [] ∧ okW false m = true) = (((m.getD (m.length - 1) 0 : Nat) : Int) != 0) by
      unfold okW
      rw [if_neg h1, Bool.eq_iff_iff]
      simp [h1]]
    exact AW.ret rfl
  · have h1 : m = [] := by
      have := of_decide_eq_false h
      exact List.length_eq_zero_iff.1 (by omega)
    refine AOps.run tok 10 _ _ _ _ rfl ?_
    refine AOps.nil ?_
    rw [show decide (m ≠ [] ∧ okW false m = true) = false by simp [h1]]
    exact AW.ret rfl

set_option maxHeartbeats 800000 in
theorem r02_Valid_ok (r : RD) {k : Nat} (hw : r.w k) (hk : k ≤ 35184372088829) : Pure Tryz.prog 31 [r.D] (dB r.okB) := by
  obtain ⟨g, m, d⟩ := r
  obtain ⟨hm, hd, hlm, hld⟩ := hw
  simp only [] at hm hd hlm hld
  refine Pure.intro (n := 36) tok Tryz.func31 rfl rfl rfl (Nat.le_of_ble_eq_true rfl) (by kernel_rfl) (fun B F0 w0 => ?_)
  refine AW.seq ?_
  refine AW.region ?_   -- "ref.go:17"
  refine AOps.run tok 2 _ _ _ _ rfl ?_
  refine AOps.nil ?_
  refine AW.seq ?_
  refine AW.cut [1, 12] (fun _ : Unit => [(1, .bx [dB g, Wd m, Wd d]), (12, .d (dB (decide (m = [] ∧ d = []))))]) (fun _ => True) ?_ (fun _ _ => ?_)
  · refine AW.region ?_   -- "ref.go:18"   -- GUARDS
    refine AOps.run tok 4 _ _ _ _ rfl ?_
    rw [len0]
    refine AOps.split (t := 6) rfl (fun h => ?_) (fun h => ?_)
    · refine AOps.run tok 6 _ _ _ _ rfl ?_
      refine AOps.nil ?_
      have := of_decide_eq_true h
      exact ⟨(), by rw [show decide (m = [] ∧ d = []) = (((d.map wd).length : Int) == 0) by rw [len0, Bool.eq_iff_iff]; simp only [decide_eq_true_eq]; exact ⟨fun e => e.2, fun e => ⟨this, e⟩⟩]; rfl, trivial⟩
    · refine AOps.run tok 6 _ _ _ _ rfl ?_
      refine AOps.nil ?_
      have := of_decide_eq_false h
      exact ⟨(), by rw [show decide (m = [] ∧ d = []) = false by simp [this]]; rfl, trivial⟩
  refine AW.cond rfl (fun h => ?_) (fun h => ?_)
  · have h0 := of_decide_eq_true h
    rw [show RD.okB ⟨g, m, d⟩ = !g by unfold RD.okB; rw [if_pos h0]]
    refine AW.seq ?_
    refine AW.region ?_   -- "ref.go:19"
    refine AOps.run tok 4 _ _ _ _ rfl ?_
    refine AOps.nil ?_
    exact AW.ret rfl
  · have h0 := of_decide_eq_false h
    have hokB : RD.okB ⟨g, m, d⟩ = decide (m ≠ [] ∧ d ≠ [] ∧ okW false m = true ∧ okW false d = true ∧ Nat.gcd (nv m) (nv d) = 1) := by unfold RD.okB; rw [if_neg h0]
    rw [hokB]
    clear hokB
    refine AW.skip ?_
    refine AW.seq ?_
    refine AW.region ?_   -- "ref.go:21"   -- GUARDS
    refine AOps.run tok 2 _ _ _ _ rfl ?_
    refine AOps.call tok rfl rfl rfl rfl (r02_plain_ok m hm (by omega)) ?_
    refine AOps.split (t := 18) rfl (fun h => ?_) (fun h => ?_)
    · obtain ⟨hm0, ok1⟩ := of_decide_eq_true h
      refine AOps.run tok 3 _ _ _ _ rfl ?_
      refine AOps.call tok rfl rfl rfl rfl (r02_plain_ok d hd (by omega)) ?_   -- guarded
      refine AOps.run tok 1 _ _ _ _ rfl ?_
      refine AOps.split (t := 23) rfl (fun h => ?_) (fun h => ?_)
      · obtain ⟨hd0, ok2⟩ := of_decide_eq_true h
        have e1 := iw_of_okW hm ok1
        have e2 := iw_of_okW hd ok2
        have l1 := L_of_okW hm ok1
        have l2 := L_of_okW hd ok2
        have hgl : L ((Nat.gcd (nv m) (nv d) : Nat) : Int) ≤ 35184372088829 := by
          have hp : 0 < nv m := Nat.pos_of_ne_zero fun e => hm0 ((nv_zero (okW_nm ok1)).1 e)
          have := Nat.gcd_le_left (nv d) hp
          have := L_mono (a := ((Nat.gcd (nv m) (nv d) : Nat) : Int)) (b := ((nv m : Nat) : Int)) (by simpa using this)
          omega
        have hgcd := r01_Gcd_ok (nv m : Nat) (nv d : Nat) (by omega) (by omega)
        rw [← e1, ← e2, Int.natAbs_natCast, Int.natAbs_natCast] at hgcd
        refine AOps.run tok 7 _ _ _ _ rfl ?_
        refine AOps.call tok rfl rfl rfl rfl hgcd ?_   -- guarded
        refine AOps.call tok rfl rfl rfl rfl r02_one_ok ?_   -- guarded
        refine AOps.call tok rfl rfl rfl rfl (r01_Cmp_ok ((Nat.gcd (nv m) (nv d) : Nat) : Int) 1 (by omega) (by rw [L_one]; decide)) ?_   -- guarded
        refine AOps.run tok 3 _ _ _ _ rfl ?_
        refine AOps.nil ?_
        rw [show decide (m ≠ [] ∧ d ≠ [] ∧ okW false m = true ∧ okW false d = true ∧ Nat.gcd (nv m) (nv d) = 1) = (cmpI ((Nat.gcd (nv m) (nv d) : Nat) : Int) 1 == 0) by
          rw [Bool.eq_iff_iff]
          simp only [ne_eq, hm0, not_false_eq_true, hd0, ok1, ok2, true_and, decide_eq_true_eq, beq_iff_eq]
          unfold cmpI
          constructor
          · intro h; rw [h]; rfl
          · intro h
            split at h
            · cases h
            · split at h
              · omega
              · cases h]
        exact AW.ret rfl
      · have h2 := of_decide_eq_false h
        refine AOps.run tok 13 _ _ _ _ rfl ?_
        refine AOps.nil ?_
        rw [show decide (m ≠ [] ∧ d ≠ [] ∧ okW false m = true ∧ okW false d = true ∧ Nat.gcd (nv m) (nv d) = 1) = false from decide_eq_false fun e => h2 ⟨e.2.1, e.2.2.2.1⟩]
        exact AW.ret rfl
    · have h1 := of_decide_eq_false h
      refine AOps.run tok 5 _ _ _ _ rfl ?_
      refine AOps.run tok 13 _ _ _ _ rfl ?_
      refine AOps.nil ?_
      rw [show decide (m ≠ [] ∧ d ≠ [] ∧ okW false m = true ∧ okW false d = true ∧ Nat.gcd (nv m) (nv d) = 1) = false from decide_eq_false fun e => h1 ⟨e.1, e.2.2.1⟩]
      exact AW.ret rfl


theorem r02_Parts_ok (r : RD) {k : Nat} (hw : r.w k) (hk : k ≤ 50000000) : Pure Tryz.prog 67 [r.D] (.tu [WhI r.val.num, WhI r.val.den]) := by
  refine Pure.intro (n := 23) tok Tryz.func67 rfl rfl rfl (Nat.le_of_ble_eq_true rfl) (by kernel_rfl) (fun B F0 w0 => ?_)
  refine AW.seq ?_
  refine AW.region ?_   -- "fraction.go:36"
  refine AOps.run tok 3 _ _ _ _ rfl ?_
  refine AOps.nil ?_
  refine AW.seq ?_
  refine AW.cut [1, 2, 3, 12] (fun _ : Unit => [(1, .bx [dB r.g, Wd r.n, Wd r.d]), (2, .bx [dB false, .sl 1 []]), (3, .bx [dB false, .sl 1 []]), (12, .d (dB (decide (r.okB = false ∨ r.n = []))))]) (fun _ => True) ?_ (fun _ _ => ?_)
  · refine AW.region ?_   -- "fraction.go:37"   -- GUARDS
    refine AOps.run tok 1 _ _ _ _ rfl ?_
    refine AOps.call tok rfl rfl rfl rfl (r02_Valid_ok r hw (by omega)) ?_
    refine AOps.run tok 2 _ _ _ _ rfl ?_
    refine AOps.split (t := 7) rfl (fun h => ?_) (fun h => ?_)
    · have h1 : r.okB = false := by simpa using h
      refine AOps.run tok 5 _ _ _ _ rfl ?_
      refine AOps.nil ?_
      exact ⟨(), by rw [show decide (r.okB = false ∨ r.n = []) = true by simp [h1]]; rfl, trivial⟩
    · have h1 : r.okB = true := by simpa using h
      refine AOps.run tok 5 _ _ _ _ rfl ?_
      rw [len0]
      refine AOps.nil ?_
      exact ⟨(), by rw [show decide (r.okB = false ∨ r.n = []) = decide (r.n = []) by simp only [h1]; simp]; rfl, trivial⟩
  refine AW.cond rfl (fun h => ?_) (fun h => ?_)
  · have h1 := of_decide_eq_true h
    have hv : r.val = 0 := by
      rcases h1 with h1 | h1
      · exact RD.val_bad h1
      · exact RD.val_nil h1
    rw [hv, show (0 : Rat).num = 0 from rfl, show (((0 : Rat).den : Nat) : Int) = 1 from rfl, whI_zero]
    refine AW.seq ?_
    refine AW.region ?_   -- "fraction.go:38"
    refine AOps.run tok 1 _ _ _ _ rfl ?_
    refine AOps.call tok rfl rfl rfl rfl r02_one_ok ?_
    refine AOps.run tok 2 _ _ _ _ rfl ?_
    refine AOps.nil ?_
    exact AW.ret rfl
  · have h1 := of_decide_eq_false h
    have h2 : r.okB = true := by cases ho : r.okB with
      | true => rfl
      | false => exact absurd (.inl ho) h1
    obtain ⟨_, _, p3, p4, p5, _⟩ := RD.parts hw h2 (fun e => h1 (.inr e))
    have e1 : WhI r.val.num = Wh r.g r.n := by rw [WhI, ← p3, ← p4]
    have e2 : WhI (r.val.den : Nat) = Wh false r.d := by
      have : decide (((r.val.den : Nat) : Int) < 0) = false := by simp
      rw [WhI, this, iw, Int.natAbs_natCast, ← p5]
    rw [e1, e2]
    have hl1 := hw.2.2.1
    have hl2 := hw.2.2.2
    refine AW.skip ?_
    refine AW.seq ?_
    refine AW.draw3 tok hmix [(5, true), (3, false)] 8 [2, 3] (by kernel_rfl) ⟨rfl, ?_⟩   -- "ref.go:29"
    refine APre.run tok 5 _ _ _ _ rfl ?_
    refine APre.nil ⟨rfl, ?_⟩
    refine APre.run tok 3 _ _ _ _ rfl ?_
    refine APre.nil ⟨_, StL.cons (.bx rfl) (StL.cons (.bx rfl) StL.nil), AOps.nil ?_⟩
    exact AW.ret rfl


theorem Qr_form {n d : Int} (hd : 0 < d) (hn : n ≠ 0) : (Qr (Rat.divInt n d)).D = .ag [dB (decide (n / (Nat.gcd n.natAbs d.natAbs : Int) < 0)), Wd (iw (n / (Nat.gcd n.natAbs d.natAbs : Int))), Wd (iw (d / (Nat.gcd n.natAbs d.natAbs : Int)))] := by
  obtain ⟨h1, h2⟩ := form_pos (n := n) hd
  have hnz : (Rat.divInt n d).num ≠ 0 := by
    intro e
    rw [h1] at e
    exact hn (Int.eq_zero_of_ediv_eq_zero (Int.ofNat_dvd_left.2 (Nat.gcd_dvd_left _ _)) e)
  show D.ag [dB (decide ((Rat.divInt n d).num < 0)), Wd (iw (Rat.divInt n d).num), Wd (if (Rat.divInt n d).num = 0 then [] else tw (Rat.divInt n d).den)] = _
  rw [if_neg hnz, h1, ← h2, iw, iw, Int.natAbs_natCast]

set_option maxHeartbeats 800000 in
theorem r02_form_ok (n d : Int) (hn : L n ≤ 50000000) (hd : L d ≤ 50000000) (h0 : d ≠ 0) : Pure Tryz.prog 54 [WhI n, WhI d] (Qr (Rat.divInt n d)).D := by
  refine Pure.intro (n := 47) tok Tryz.func54 rfl rfl rfl (Nat.le_of_ble_eq_true rfl) (by kernel_rfl) (fun B F0 w0 => ?_)
  refine AW.seq ?_
  refine AW.region ?_   -- "fraction.go:45"
  refine AOps.run tok 3 _ _ _ _ rfl ?_
  refine AOps.nil ?_
  refine AW.seq ?_
  refine AW.seq ?_
  refine AW.region ?_   -- "fraction.go:46"
  refine AOps.run tok 1 _ _ _ _ rfl ?_
  refine AOps.call tok rfl rfl rfl rfl (r01_Sign_ok n (by omega)) ?_
  refine AOps.run tok 1 _ _ _ _ rfl ?_
  refine AOps.nil ?_
  refine AW.cond rfl (fun h => ?_) (fun h => ?_)
  · have hn0 : n = 0 := by
      have : sgI n = 0 := by simpa using h
      unfold sgI at this
      repeat' split at this
      all_goals omega
    rw [hn0, Rat.zero_divInt, Qr_zero]
    refine AW.seq ?_
    refine AW.region ?_   -- "fraction.go:47"
    refine AOps.run tok 2 _ _ _ _ rfl ?_
    refine AOps.nil ?_
    exact AW.ret rfl
  · have hn0 : n ≠ 0 := by rintro rfl; simp [sgI] at h
    refine AW.skip ?_
    refine AW.cut [2, 3, 4] (fun s : Int × Int => [(2, .bx [dB (decide (s.1 < 0)), Wd (iw s.1)]), (3, .bx [dB (decide (s.2 < 0)), Wd (iw s.2)]), (4, .bx [dB false, .sl 1 [], .sl 1 []])])
      (fun s => 0 < s.2 ∧ s.1 ≠ 0 ∧ L s.1 ≤ 50000000 ∧ L s.2 ≤ 50000000 ∧ Rat.divInt s.1 s.2 = Rat.divInt n d) ?_ (fun (x, y) ⟨hy, hx, hlx, hly, he⟩ => ?_)
    · refine AW.seq ?_
      refine AW.region ?_   -- "fraction.go:49"
      refine AOps.run tok 1 _ _ _ _ rfl ?_
      refine AOps.call tok rfl rfl rfl rfl (r01_Sign_ok d (by omega)) ?_
      refine AOps.run tok 1 _ _ _ _ rfl ?_
      refine AOps.nil ?_
      refine AW.cond rfl (fun h => ?_) (fun h => ?_)
      · have hd0 : d < 0 := by
          have := of_decide_eq_true h
          unfold sgI at this
          repeat' split at this
          all_goals omega
        refine AW.draw hmix 4 (by kernel_rfl) ?_   -- "fraction.go:50"
        refine APre.run tok 1 _ _ _ _ rfl ?_
        refine APre.call tok rfl rfl rfl rfl rfl (r01_Neg_ok n (by omega)) ?_
        refine APre.run tok 1 _ _ _ _ rfl ?_
        refine APre.call tok rfl rfl rfl rfl rfl (r01_Neg_ok d (by omega)) ?_
        refine APre.nil ?_
        refine AOps.run tok 2 _ _ _ _ rfl ?_
        refine AOps.nil ?_
        exact ⟨(-n, -d), rfl, ⟨by simp only []; omega, by simp only []; omega, by rw [L_neg]; exact hn, by rw [L_neg]; exact hd, Rat.neg_divInt_neg n d⟩⟩
      · have hd0 : 0 < d := by
          have := of_decide_eq_false h
          unfold sgI at this
          repeat' split at this
          all_goals omega
        refine AW.skip ?_
        exact ⟨(n, d), rfl, ⟨hd0, hn0, hn, hd, rfl⟩⟩
    · simp only [] at hy hx hlx hly he
      rw [← he]
      have hgl : L ((Nat.gcd x.natAbs y.natAbs : Nat) : Int) ≤ 50000000 := by
        have := Nat.gcd_le_left y.natAbs (show 0 < x.natAbs by omega)
        have := L_mono (a := ((Nat.gcd x.natAbs y.natAbs : Nat) : Int)) (b := x) (by simpa using this)
        omega
      have hg0 : ((Nat.gcd x.natAbs y.natAbs : Nat) : Int) ≠ 0 := by
        have : 0 < Nat.gcd x.natAbs y.natAbs := Nat.gcd_pos_of_pos_left _ (by omega)
        omega
      rw [Qr_form hy hx]
      have hgcd := r01_Gcd_ok x y (by omega) (by omega)
      generalize ((Nat.gcd x.natAbs y.natAbs : Nat) : Int) = g at *
      refine AW.seq ?_
      refine AW.region ?_   -- "fraction.go:52"
      refine AOps.run tok 2 _ _ _ _ rfl ?_
      refine AOps.call tok rfl rfl rfl rfl hgcd ?_
      refine AOps.run tok 2 _ _ _ _ rfl ?_
      refine AOps.nil ?_
      refine AW.seq ?_
      refine AW.region ?_   -- "ref.go:41"
      refine AOps.run tok 2 _ _ _ _ rfl ?_
      refine AOps.call tok rfl rfl rfl rfl (r01_Div_ok x g hlx hgl hg0) ?_
      refine AOps.run tok 9 _ _ _ _ rfl ?_
      refine AOps.nil ?_
      refine AW.seq ?_
      refine AW.region ?_   -- "ref.go:42"
      refine AOps.run tok 2 _ _ _ _ rfl ?_
      refine AOps.call tok rfl rfl rfl rfl (r01_Div_ok y g hly hgl hg0) ?_
      refine AOps.run tok 9 _ _ _ _ rfl ?_
      refine AOps.nil ?_
      refine AW.seq ?_
      refine AW.region ?_   -- "ref.go:43"
      refine AOps.run tok 8 _ _ _ _ rfl ?_
      refine AOps.nil ?_
      exact AW.ret rfl


theorem r02_Of_ok (n : Int) (h0 : -9223372036854775808 ≤ n) (h1 : n ≤ 9223372036854775807) : Pure Tryz.prog 22 [dI n] (Qr n).D := by
  refine Pure.intro (n := 7) tok Tryz.func22 rfl rfl rfl (Nat.le_of_ble_eq_true rfl) (by kernel_rfl) (fun B F0 w0 => ?_)
  have hl := L_of n (by omega)
  have hf := r02_form_ok n 1 (by omega) (by rw [L_one]; decide) (by decide)
  rw [of_divInt] at hf
  refine AW.seq ?_
  refine AW.region ?_   -- "ref.go:47"
  refine AOps.run tok 1 _ _ _ _ rfl ?_
  refine AOps.nil ?_
  refine AW.seq ?_
  refine AW.region ?_   -- "ref.go:47"
  refine AOps.run tok 1 _ _ _ _ rfl ?_
  refine AOps.call tok rfl rfl rfl rfl (r01_Of_ok n h0 h1) ?_
  refine AOps.call tok rfl rfl rfl rfl r02_one_ok ?_
  refine AOps.call tok rfl rfl rfl rfl hf ?_
  refine AOps.run tok 1 _ _ _ _ rfl ?_
  refine AOps.nil ?_
  exact AW.ret rfl

theorem r02_Neg_ok (r : RD) {k : Nat} (hw : r.w k) (hk : k ≤ 20000000) : Pure Tryz.prog 78 [r.D] (Qr (-r.val)).D := by
  refine Pure.intro (n := 14) tok Tryz.func78 rfl rfl rfl (Nat.le_of_ble_eq_true rfl) (by kernel_rfl) (fun B F0 w0 => ?_)
  have hl := LQ_val (hw.mono (Nat.le_max_left k 1)) (Nat.le_max_right k 1)
  have hn := Lnum r.val
  have hd := Lden r.val
  rw [← neg_divInt]
  refine AW.seq ?_
  refine AW.region ?_   -- "fraction.go:77"
  refine AOps.run tok 2 _ _ _ _ rfl ?_
  refine AOps.nil ?_
  refine AW.seq ?_
  refine AW.region ?_   -- "fraction.go:78"
  refine AOps.run tok 1 _ _ _ _ rfl ?_
  refine AOps.call tok rfl rfl rfl rfl (r02_Parts_ok r hw (by omega)) ?_
  refine AOps.run tok 7 _ _ _ _ rfl ?_
  refine AOps.nil ?_
  refine AW.seq ?_
  refine AW.draw hmix 4 (by kernel_rfl) ?_   -- "fraction.go:79"
  refine APre.run tok 1 _ _ _ _ rfl ?_
  refine APre.call tok rfl rfl rfl rfl rfl (r01_Neg_ok r.val.num (by omega)) ?_
  refine APre.run tok 1 _ _ _ _ rfl ?_
  refine APre.call tok rfl rfl rfl rfl rfl (r02_form_ok (-r.val.num) r.val.den (by rw [L_neg]; omega) (by omega) (den_ne _)) ?_
  refine APre.nil ?_
  refine AOps.run tok 1 _ _ _ _ rfl ?_
  refine AOps.nil ?_
  exact AW.ret rfl

theorem r02_Sign_ok (r : RD) {k : Nat} (hr : r.w k) (hk : k ≤ 20000000) : Pure Tryz.prog 34 [r.D] (dI (sgI r.val.num)) := by
  refine Pure.intro (n := 12) tok Tryz.func34 rfl rfl rfl (Nat.le_of_ble_eq_true rfl) (by kernel_rfl) (fun B F0 w0 => ?_)
  have hl := LQ_val (hr.mono (Nat.le_max_left k 1)) (Nat.le_max_right k 1)
  have := Lnum r.val
  refine AW.seq ?_
  refine AW.region ?_   -- "ref.go:67"
  refine AOps.run tok 2 _ _ _ _ rfl ?_
  refine AOps.nil ?_
  refine AW.seq ?_
  refine AW.region ?_   -- "ref.go:68"
  refine AOps.run tok 1 _ _ _ _ rfl ?_
  refine AOps.call tok rfl rfl rfl rfl (r02_Parts_ok r hr (by omega)) ?_
  refine AOps.run tok 7 _ _ _ _ rfl ?_
  refine AOps.nil ?_
  refine AW.seq ?_
  refine AW.region ?_   -- "ref.go:69"
  refine AOps.run tok 1 _ _ _ _ rfl ?_
  refine AOps.call tok rfl rfl rfl rfl (r01_Sign_ok r.val.num (by omega)) ?_
  refine AOps.run tok 1 _ _ _ _ rfl ?_
  refine AOps.nil ?_
  exact AW.ret rfl

theorem r02_Add_ok (r s : RD) {k : Nat} (hr : r.w k) (hs : s.w k) (hk : k ≤ 20000000) : Pure Tryz.prog 52 [r.D, s.D] (Qr (r.val + s.val)).D := by
  refine Pure.intro (n := 30) tok Tryz.func52 rfl rfl rfl (Nat.le_of_ble_eq_true rfl) (by kernel_rfl) (fun B F0 w0 => ?_)
  have hl := LQ_val (hr.mono (Nat.le_max_left k 1)) (Nat.le_max_right k 1)
  have hm := LQ_val (hs.mono (Nat.le_max_left k 1)) (Nat.le_max_right k 1)
  have := Lnum r.val; have := Lden r.val; have := Lnum s.val; have := Lden s.val
  have := L_mul r.val.num s.val.den; have := L_mul s.val.num r.val.den; have := L_mul r.val.den s.val.den
  have := L_add (r.val.num * s.val.den) (s.val.num * r.val.den)
  rw [← add_divInt]
  refine AW.seq ?_
  refine AW.region ?_   -- "fraction.go:120"
  refine AOps.run tok 3 _ _ _ _ rfl ?_
  refine AOps.nil ?_
  refine AW.seq ?_
  refine AW.region ?_   -- "fraction.go:121"
  refine AOps.run tok 1 _ _ _ _ rfl ?_
  refine AOps.call tok rfl rfl rfl rfl (r02_Parts_ok r hr (by omega)) ?_
  refine AOps.run tok 7 _ _ _ _ rfl ?_
  refine AOps.nil ?_
  refine AW.seq ?_
  refine AW.region ?_   -- "fraction.go:122"
  refine AOps.run tok 1 _ _ _ _ rfl ?_
  refine AOps.call tok rfl rfl rfl rfl (r02_Parts_ok s hs (by omega)) ?_
  refine AOps.run tok 7 _ _ _ _ rfl ?_
  refine AOps.nil ?_
  refine AW.seq ?_
  refine AW.draw hmix 11 (by kernel_rfl) ?_   -- "fraction.go:123"
  refine APre.run tok 2 _ _ _ _ rfl ?_
  refine APre.call tok rfl rfl rfl rfl rfl (r01_Mul_ok r.val.num s.val.den (by omega) (by omega)) ?_
  refine APre.run tok 2 _ _ _ _ rfl ?_
  refine APre.call tok rfl rfl rfl rfl rfl (r01_Mul_ok s.val.num r.val.den (by omega) (by omega)) ?_
  refine APre.call tok rfl rfl rfl rfl rfl (r01_Add_ok (r.val.num * s.val.den) (s.val.num * r.val.den) (by omega) (by omega)) ?_
  refine APre.run tok 2 _ _ _ _ rfl ?_
  refine APre.call tok rfl rfl rfl rfl rfl (r01_Mul_ok r.val.den s.val.den (by omega) (by omega)) ?_
  refine APre.call tok rfl rfl rfl rfl rfl (r02_form_ok (r.val.num * s.val.den + s.val.num * r.val.den) (r.val.den * s.val.den) (by omega) (by omega) (den_mul_ne _ _)) ?_
  refine APre.nil ?_
  refine AOps.run tok 1 _ _ _ _ rfl ?_
  refine AOps.nil ?_
  exact AW.ret rfl

theorem r02_Mul_ok (r s : RD) {k : Nat} (hr : r.w k) (hs : s.w k) (hk : k ≤ 20000000) : Pure Tryz.prog 45 [r.D, s.D] (Qr (r.val * s.val)).D := by
  refine Pure.intro (n := 26) tok Tryz.func45 rfl rfl rfl (Nat.le_of_ble_eq_true rfl) (by kernel_rfl) (fun B F0 w0 => ?_)
  have hl := LQ_val (hr.mono (Nat.le_max_left k 1)) (Nat.le_max_right k 1)
  have hm := LQ_val (hs.mono (Nat.le_max_left k 1)) (Nat.le_max_right k 1)
  have := Lnum r.val; have := Lden r.val; have := Lnum s.val; have := Lden s.val
  have := L_mul r.val.num s.val.num; have := L_mul r.val.den s.val.den
  rw [← mul_divInt]
  refine AW.seq ?_
  refine AW.region ?_   -- "fraction.go:130"
  refine AOps.run tok 3 _ _ _ _ rfl ?_
  refine AOps.nil ?_
  refine AW.seq ?_
  refine AW.region ?_   -- "fraction.go:131"
  refine AOps.run tok 1 _ _ _ _ rfl ?_
  refine AOps.call tok rfl rfl rfl rfl (r02_Parts_ok r hr (by omega)) ?_
  refine AOps.run tok 7 _ _ _ _ rfl ?_
  refine AOps.nil ?_
  refine AW.seq ?_
  refine AW.region ?_   -- "fraction.go:132"
  refine AOps.run tok 1 _ _ _ _ rfl ?_
  refine AOps.call tok rfl rfl rfl rfl (r02_Parts_ok s hs (by omega)) ?_
  refine AOps.run tok 7 _ _ _ _ rfl ?_
  refine AOps.nil ?_
  refine AW.seq ?_
  refine AW.draw hmix 7 (by kernel_rfl) ?_   -- "fraction.go:133"
  refine APre.run tok 2 _ _ _ _ rfl ?_
  refine APre.call tok rfl rfl rfl rfl rfl (r01_Mul_ok r.val.num s.val.num (by omega) (by omega)) ?_
  refine APre.run tok 2 _ _ _ _ rfl ?_
  refine APre.call tok rfl rfl rfl rfl rfl (r01_Mul_ok r.val.den s.val.den (by omega) (by omega)) ?_
  refine APre.call tok rfl rfl rfl rfl rfl (r02_form_ok (r.val.num * s.val.num) (r.val.den * s.val.den) (by omega) (by omega) (den_mul_ne _ _)) ?_
  refine APre.nil ?_
  refine AOps.run tok 1 _ _ _ _ rfl ?_
  refine AOps.nil ?_
  exact AW.ret rfl

theorem r02_Sub_ok (r s : RD) {k : Nat} (hr : r.w k) (hs : s.w k) (hk : k ≤ 10000000) : Pure Tryz.prog 70 [r.D, s.D] (Qr (r.val - s.val)).D := by
  refine Pure.intro (n := 9) tok Tryz.func70 rfl rfl rfl (Nat.le_of_ble_eq_true rfl) (by kernel_rfl) (fun B F0 w0 => ?_)
  have hm := LQ_val (hs.mono (Nat.le_max_left k 1)) (Nat.le_max_right k 1)
  have hadd := r02_Add_ok r (Qr (-s.val)) (k := max k 1) (hr.mono (by omega)) (Qr_w _ (by rw [LQ_neg]; omega)) (by omega)
  rw [Qr_val, ← Rat.sub_eq_add_neg] at hadd
  refine AW.seq ?_
  refine AW.region ?_   -- "fraction.go:127"
  refine AOps.run tok 3 _ _ _ _ rfl ?_
  refine AOps.nil ?_
  refine AW.seq ?_
  refine AW.draw hmix 4 (by kernel_rfl) ?_   -- "fraction.go:127"
  refine APre.run tok 2 _ _ _ _ rfl ?_
  refine APre.call tok rfl rfl rfl rfl rfl (r02_Neg_ok s hs (by omega)) ?_
  refine APre.call tok rfl rfl rfl rfl rfl hadd ?_
  refine APre.nil ?_
  refine AOps.run tok 1 _ _ _ _ rfl ?_
  refine AOps.nil ?_
  exact AW.ret rfl

theorem sgI_cmpQ (a b : Rat) : sgI (a - b).num = cmpQ a b := by
  rw [← cmpQ_sub]
theorem r02_Cmp_ok (r s : RD) {k : Nat} (hr : r.w k) (hs : s.w k) (hk : k ≤ 5000000) : Pure Tryz.prog 53 [r.D, s.D] (dI (cmpQ r.val s.val)) := by
  refine Pure.intro (n := 9) tok Tryz.func53 rfl rfl rfl (Nat.le_of_ble_eq_true rfl) (by kernel_rfl) (fun B F0 w0 => ?_)
  have hl := LQ_val (hr.mono (Nat.le_max_left k 1)) (Nat.le_max_right k 1)
  have hm := LQ_val (hs.mono (Nat.le_max_left k 1)) (Nat.le_max_right k 1)
  have hq := LQ_sub r.val s.val
  have hsg := r02_Sign_ok (Qr (r.val - s.val)) (Qr_w _ (Nat.le_refl _)) (by omega)
  rw [Qr_val, sgI_cmpQ] at hsg
  refine AW.seq ?_
  refine AW.region ?_   -- "ref.go:105"
  refine AOps.run tok 3 _ _ _ _ rfl ?_
  refine AOps.nil ?_
  refine AW.seq ?_
  refine AW.region ?_   -- "ref.go:105"
  refine AOps.run tok 2 _ _ _ _ rfl ?_
  refine AOps.call tok rfl rfl rfl rfl (r02_Sub_ok r s hr hs (by omega)) ?_
  refine AOps.call tok rfl rfl rfl rfl hsg ?_
  refine AOps.run tok 1 _ _ _ _ rfl ?_
  refine AOps.nil ?_
  exact AW.ret rfl
end Lift
/- Names: what the program and the reference take for one. -/
namespace Lift
open Go Go.Proofs

abbrev d8 (c : Nat) : D := .v (.int .u8 (c : Int))
abbrev dS (s : ByteArray) : D := .v (.string s)
end Lift
/- Linkages: their data, and what is wrong with one, in plain Lean. -/
namespace Lift
open Go Go.Proofs

instance : Inhabited RD := ⟨⟨false, [], []⟩⟩
structure Mark where
  nm : ByteArray
  x : RD
  y : RD
deriving Inhabited
structure Body where
  nm : ByteArray
  pts : List Mark
deriving Inhabited
structure Joint where
  nm : ByteArray
  kind : Int
  a : Int
  pt : Int
  b : Int
  on : Int
  to : Int
deriving Inhabited
structure Driver where
  nm : ByteArray
  body : Int
deriving Inhabited
structure Lkg where
  nm : ByteArray
  bodies : List Body
  joints : List Joint
  drivers : List Driver
deriving Inhabited
abbrev Mark.D (p : Mark) : D := .ag [dS p.nm, dB p.x.g, Wd p.x.n, Wd p.x.d, dB p.y.g, Wd p.y.n, Wd p.y.d]
abbrev PtsD (l : List Mark) : D := .sl 7 (l.map Mark.D)
abbrev Body.D (b : Body) : D := .ag [dS b.nm, PtsD b.pts]
abbrev Joint.D (j : Joint) : D := .ag [dS j.nm, dI j.kind, dI j.a, dI j.pt, dI j.b, dI j.on, dI j.to]
abbrev Driver.D (d : Driver) : D := .ag [dS d.nm, dI d.body]
abbrev BodiesD (l : List Body) : D := .sl 2 (l.map Body.D)
abbrev JointsD (l : List Joint) : D := .sl 7 (l.map Joint.D)
abbrev DriversD (l : List Driver) : D := .sl 2 (l.map Driver.D)
abbrev Lkg.D (l : Lkg) : D := .ag [dS l.nm, BodiesD l.bodies, JointsD l.joints, DriversD l.drivers]

def big : Nat := 1000000000000000
/-- The sizes that are asked for. -/
def Mark.ok (k : Nat) (p : Mark) : Prop := p.nm.size ≤ big ∧ p.x.w k ∧ p.y.w k
def Body.ok (k : Nat) (b : Body) : Prop := b.nm.size ≤ big ∧ b.pts.length ≤ big ∧ ∀ i, (b.pts.getD i default).ok k
structure Lkg.ok (k : Nat) (l : Lkg) : Prop where
  nm : l.nm.size ≤ big
  nb : l.bodies.length ≤ big
  nj : l.joints.length ≤ big
  nd : l.drivers.length ≤ big
  b : ∀ i, (l.bodies.getD i default).ok k
  j : ∀ i, (l.joints.getD i default).nm.size ≤ big
  d : ∀ i, (l.drivers.getD i default).nm.size ≤ big

/-- Whether g holds of one of i, i + 1, .. (m of them). -/
def anyF (g : Nat → Bool) : Nat → Nat → Bool
  | 0, _ => false
  | m + 1, i => g i || anyF g m (i + 1)
/-- The first that is not 0 of f i, f (i + 1), .. (m of them). -/
def fE (f : Nat → Nat) : Nat → Nat → Nat
  | 0, _ => 0
  | m + 1, i => if f i = 0 then fE f m (i + 1) else f i
theorem fE_hit {f : Nat → Nat} {n i : Nat} (h : i < n) (h0 : f i ≠ 0) : fE f (n - i) i = f i := by
  rw [show n - i = (n - (i + 1)) + 1 by omega, fE, if_neg h0]
theorem fE_miss {f : Nat → Nat} {n i : Nat} (h : i < n) (h0 : f i = 0) : fE f (n - i) i = fE f (n - (i + 1)) (i + 1) := by
  rw [show n - i = (n - (i + 1)) + 1 by omega, fE, if_pos h0]
theorem fE_end {f : Nat → Nat} {n i : Nat} (h : ¬ i < n) : fE f (n - i) i = 0 := by
  rw [show n - i = 0 by omega, fE]
theorem anyF_hit {f : Nat → Bool} {n i : Nat} (h : i < n) (h0 : f i = true) : anyF f (n - i) i = true := by
  rw [show n - i = (n - (i + 1)) + 1 by omega, anyF, h0]; rfl
theorem anyF_miss {f : Nat → Bool} {n i : Nat} (h : i < n) (h0 : f i = false) : anyF f (n - i) i = anyF f (n - (i + 1)) (i + 1) := by
  rw [show n - i = (n - (i + 1)) + 1 by omega, anyF, h0]; rfl
theorem anyF_end {f : Nat → Bool} {n i : Nat} (h : ¬ i < n) : anyF f (n - i) i = false := by
  rw [show n - i = 0 by omega, anyF]
theorem getM {α : Type} [Inhabited α] (f : α → D) {l : List α} {i : Nat} (h : i < l.length) : (l.map f)[i]? = some (f (l.getD i default)) := by
  simp [h]
theorem slcLen {l : List D} {i : Nat} (h : i ≤ l.length) : ((l.take (hiN l.length (some (i : Int)))).drop (loN none)).length = i := by
  show ((l.take i).drop 0).length = i
  rw [List.drop_zero, List.length_take]; omega

/-- A number as an error. -/
def erV (n : Nat) : D := match n with
  | 0 => nilE
  | m + 1 => er ((m + 1 : Nat) : Int)
end Lift
/- Linkages as they are handed to a function. -/
namespace Lift
open Go Go.Proofs

theorem u_bool : RT Tryz.prog 4 Bool (fun b => [dB b]) (fun _ => True) := RT.bool (by kernel_rfl) (by kernel_rfl)
theorem u_int : RT Tryz.prog 3 Int (fun n => [dI n]) (fun n => (Lit.int .i64 n).wf = true) := RT.int (by kernel_rfl) (by kernel_rfl)
theorem u_word : RT Tryz.prog 115 Nat (fun n => [wd n]) (fun n => n < 4294967296) := by
  refine (RT.int (k := .u32) (by kernel_rfl) (by kernel_rfl)).map Int.toNat (fun n h => ?_) (fun n h => ?_) (fun v => ⟨by kernel_rfl, fun d hd => by simp at hd; subst hd; rfl⟩)
  · have : 0 ≤ n ∧ n ≤ 4294967295 := by simpa [Lit.wf, IntKind.min, IntKind.max, IntKind.signed, IntKind.bits] using h
    rw [wd, Int.toNat_of_nonneg this.1]
  · have : 0 ≤ n ∧ n ≤ 4294967295 := by simpa [Lit.wf, IntKind.min, IntKind.max, IntKind.signed, IntKind.bits] using h
    omega
theorem u_words : RT Tryz.prog 39 (List Nat) (fun l => [Wd l]) (fun l => W32 l ∧ l.length ≤ reachBytes) :=
  (RT.slice (el := wd) (s := 1) (by kernel_rfl) (by kernel_rfl) (by kernel_rfl) (by decide) (Nat.le_of_ble_eq_true (by kernel_rfl)) u_word (fun v => rfl)).map id (fun l h => rfl) (fun l h => ⟨h.2, h.1⟩) (fun v => ⟨by kernel_rfl, fun d hd => by simp at hd; subst hd; rfl⟩)
theorem u_rat : RT Tryz.prog 41 RD (fun r => [dB r.g, Wd r.n, Wd r.d]) (fun r => r.w reachBytes) := by
  have h := RT.struct (P := Tryz.prog) (t := 41) (m := 3) Tryz.underlying41 (by kernel_rfl) (RTF.cons (by kernel_rfl) u_bool (RTF.cons (by kernel_rfl) u_words (RTF.cons (by kernel_rfl) u_words RTF.nil))) (fun v => rfl)
  exact h.map (fun v => ⟨v.1, v.2.1, v.2.2.1⟩) (fun v h => rfl) (fun v h => ⟨h.2.1.1, h.2.2.1.1, h.2.1.2, h.2.2.1.2⟩) (fun v => ⟨by kernel_rfl, fun d hd => by
    simp only [List.mem_cons, List.mem_nil_iff, or_false] at hd
    rcases hd with rfl | rfl | rfl <;> rfl⟩)
theorem Lkg.ok.mono {l : Lkg} {k m : Nat} (h : l.ok k) (hk : k ≤ m) : l.ok m :=
  ⟨h.nm, h.nb, h.nj, h.nd, fun i => ⟨(h.b i).1, (h.b i).2.1, fun j => ⟨((h.b i).2.2 j).1, ((h.b i).2.2 j).2.1.mono hk, ((h.b i).2.2 j).2.2.mono hk⟩⟩, h.j, h.d⟩
end Lift
/- What the rows ask of the program; the arguments of the statements. -/
namespace Go.Proofs.YtockcpjjfcdopaaGreat
open Lift Go

theorem Tryz.own : ownKnob Tryz.prog.godebug = none := by kernel_rfl
theorem Tryz.laidOut : laidOutB Tryz.prog = true := by kernel_rfl
end Go.Proofs.YtockcpjjfcdopaaGreat
/- The statements' helpers: numbers of errors, equal words, equal fractions, sizes. -/
namespace Lift
open Go Go.Proofs

theorem base_Num_ok (n : Nat) : Pure Tryz.prog 11 [erV n] (dI n) := by
  refine Pure.intro (n := 15) tok Tryz.func11 rfl rfl rfl (Nat.le_of_ble_eq_true rfl) (by kernel_rfl) (fun B F0 w0 => ?_)
  cases n with
  | zero =>
    refine AW.seq ?_
    refine AW.region ?_   -- "base.go:10"
    refine AOps.run tok 1 _ _ _ _ rfl ?_
    refine AOps.nil ?_
    refine AW.seq ?_
    refine AW.seq ?_
    refine AW.region ?_   -- "base.go:11"
    refine AOps.run tok 1 _ _ _ _ rfl ?_
    refine AOps.err tok rfl rfl rfl rfl rfl ?_
    refine AOps.nil ?_
    refine AW.condT rfl ?_
    refine AW.seq ?_
    refine AW.region ?_   -- "base.go:12"
    refine AOps.run tok 1 _ _ _ _ rfl ?_
    refine AOps.nil ?_
    exact AW.ret rfl
  | succ m =>
    refine AW.seq ?_
    refine AW.region ?_   -- "base.go:10"
    refine AOps.run tok 1 _ _ _ _ rfl ?_
    refine AOps.nil ?_
    refine AW.seq ?_
    refine AW.seq ?_
    refine AW.region ?_   -- "base.go:11"
    refine AOps.run tok 1 _ _ _ _ rfl ?_
    refine AOps.err tok rfl rfl rfl rfl rfl ?_
    refine AOps.nil ?_
    refine AW.condF rfl ?_
    refine AW.skip ?_
    refine AW.seq ?_
    refine AW.region ?_   -- "base.go:14"
    refine AOps.run tok 1 _ _ _ _ rfl ?_
    refine AOps.ta tok rfl rfl rfl rfl ?_
    refine AOps.run tok 5 _ _ _ _ rfl ?_
    refine AOps.nil ?_
    refine AW.seq ?_
    refine AW.seq ?_
    refine AW.region ?_   -- "base.go:15"
    refine AOps.run tok 2 _ _ _ _ rfl ?_
    refine AOps.nil ?_
    refine AW.condF rfl ?_
    refine AW.skip ?_
    refine AW.seq ?_
    refine AW.region ?_   -- "base.go:18"
    refine AOps.run tok 2 _ _ _ _ rfl ?_
    refine AOps.nil ?_
    exact AW.ret rfl

theorem eq_of_take {a b : List Nat} {n : Nat} (hl : a.length = b.length) (hn : a.length ≤ n) (h : ∀ i, i < n → a.getD i 0 = b.getD i 0) : a = b := by
  apply List.ext_getElem hl
  intro i h1 h2
  have := h i (by omega)
  simpa [h1, h2] using this

theorem base_Words_ok (a b : List Nat) (ha : a.length ≤ big) : Pure Tryz.prog 49 [Wd a, Wd b] (dB (decide (a = b))) := by
  refine Pure.intro (n := 26) tok Tryz.func49 rfl rfl rfl (Nat.le_of_ble_eq_true rfl) (by kernel_rfl) (fun B F0 w0 => ?_)
  unfold big at ha
  refine AW.seq ?_
  refine AW.region ?_   -- "base.go:61"
  refine AOps.run tok 1 _ _ _ _ rfl ?_
  refine AOps.nil ?_
  refine AW.seq ?_
  refine AW.seq ?_
  refine AW.region ?_   -- "base.go:62"
  refine AOps.run tok 5 _ _ _ _ rfl ?_
  rw [lenWd, lenWd]
  refine AOps.nil ?_
  refine AW.cond rfl (fun h => ?_) (fun h => ?_)
  · have hne : a ≠ b := by rintro rfl; simp at h
    rw [decide_eq_false hne]
    refine AW.seq ?_
    refine AW.region ?_   -- "base.go:63"
    refine AOps.run tok 1 _ _ _ _ rfl ?_
    refine AOps.nil ?_
    exact AW.ret rfl
  have hlen : a.length = b.length := by
    have : (a.length : Int) = b.length := by simpa using h
    omega
  refine AW.skip ?_
  refine AW.seq ?_
  refine AW.seq ?_
  refine AW.region ?_   -- "base.go:65"
  refine AOps.run tok 1 _ _ _ _ rfl ?_
  refine AOps.nil ?_
  refine AW.block ?_   -- block 0
  refine AW.loopS [0, 1, 5] (fun i : Nat => [(0, .d (Wd a)), (1, .d (Wd b)), (5, .d (dI i))]) (fun i => i ≤ a.length ∧ ∀ k, k < i → a.getD k 0 = b.getD k 0) (fun i => a.length - i) 0 rfl
    ⟨Nat.zero_le _, fun k hk => by omega⟩ (fun i ⟨hi, hI⟩ => ?_)
  refine AW.seq ?_
  refine AW.seq ?_
  refine AW.region ?_   -- "base.go:65"
  refine AOps.run tok 4 _ _ _ _ rfl ?_
  rw [lenWd]
  refine AOps.nil ?_
  refine AW.cond rfl (fun h => ?_) (fun h => ?_)
  · have hin : i < a.length := by have := of_decide_eq_true h; omega
    refine AW.skip ?_
    refine AW.seq ?_
    refine AW.block ?_   -- block 1
    refine AW.seq ?_
    refine AW.draw hmix 9 (by kernel_rfl) ?_   -- "base.go:66"
    refine APre.run tok 2 _ _ _ _ rfl ?_
    refine APre.idx tok (wd (a.getD i 0)) rfl rfl rfl rfl rfl (Int.natCast_nonneg i) (getWd hin) ?_
    refine APre.run tok 3 _ _ _ _ rfl ?_
    refine APre.idx tok (wd (b.getD i 0)) rfl rfl rfl rfl rfl (Int.natCast_nonneg i) (getWd (by omega)) ?_
    refine APre.run tok 2 _ _ _ _ rfl ?_
    refine APre.nil ?_
    refine AOps.nil ?_
    refine AW.cond rfl (fun h => ?_) (fun h => ?_)
    · have hne : a ≠ b := by rintro rfl; simp at h
      rw [decide_eq_false hne]
      refine AW.seq ?_
      refine AW.region ?_   -- "base.go:67"
      refine AOps.run tok 1 _ _ _ _ rfl ?_
      refine AOps.nil ?_
      exact AW.ret rfl
    · have he : a.getD i 0 = b.getD i 0 := by
        have : ((a.getD i 0 : Nat) : Int) = (b.getD i 0 : Nat) := by
          rcases Decidable.em (((a.getD i 0 : Nat) : Int) = (b.getD i 0 : Nat)) with e | e
          · exact e
          · rw [bne_iff_ne.2 e] at h; cases h
        omega
      refine AW.skip ?_
      refine AW.region ?_   -- "base.go:65"
      refine AOps.run tok 3 _ _ _ _ rfl ?_
      rw [wI64 (x := (i : Int) + 1) (by omega) (by omega)]
      refine AOps.nil ?_
      refine ⟨i + 1, rfl, ⟨hin, fun k hk => ?_⟩, by omega⟩
      rcases Nat.lt_or_ge k i with e | e
      · exact hI k e
      · rw [show k = i by omega]; exact he
  · have hin : ¬ i < a.length := by have := of_decide_eq_false h; omega
    rw [decide_eq_true (eq_of_take hlen (by omega) hI)]
    refine AW.exit ?_
    refine AW.seq ?_
    refine AW.region ?_   -- "base.go:70"
    refine AOps.run tok 1 _ _ _ _ rfl ?_
    refine AOps.nil ?_
    exact AW.ret rfl

def eqR (r s : RD) : Bool := decide (r.g = s.g ∧ r.n = s.n ∧ r.d = s.d)
theorem eqR_self (r : RD) : eqR r r = true := by simp [eqR]
theorem base_Rat_ok (r s : RD) {k : Nat} (hr : r.w k) (hk : k ≤ big) : Pure Tryz.prog 17 [r.D, s.D] (dB (eqR r s)) := by
  refine Pure.intro (n := 24) tok Tryz.func17 rfl rfl rfl (Nat.le_of_ble_eq_true rfl) (by kernel_rfl) (fun B F0 w0 => ?_)
  have h1 := hr.2.2.1
  have h2 := hr.2.2.2
  refine AW.seq ?_
  refine AW.region ?_   -- "base.go:74"
  refine AOps.run tok 3 _ _ _ _ rfl ?_
  refine AOps.nil ?_
  refine AW.seq ?_
  refine AW.region ?_   -- "base.go:74"   -- GUARDS
  refine AOps.run tok 4 _ _ _ _ rfl ?_
  refine AOps.be tok rfl rfl rfl rfl ?_
  refine AOps.split (t := 9) rfl (fun h => ?_) (fun h => ?_)
  · have e1 : r.g = s.g := by simpa using h
    refine AOps.run tok 5 _ _ _ _ rfl ?_
    refine AOps.call tok rfl rfl rfl rfl (base_Words_ok r.n s.n (by omega)) ?_   -- guarded
    refine AOps.run tok 1 _ _ _ _ rfl ?_
    refine AOps.split (t := 16) rfl (fun h => ?_) (fun h => ?_)
    · have e2 := of_decide_eq_true h
      refine AOps.run tok 5 _ _ _ _ rfl ?_
      refine AOps.call tok rfl rfl rfl rfl (base_Words_ok r.d s.d (by omega)) ?_   -- guarded
      refine AOps.run tok 2 _ _ _ _ rfl ?_
      refine AOps.nil ?_
      rw [show eqR r s = decide (r.d = s.d) by unfold eqR; simp [e1, e2]]
      exact AW.ret rfl
    · have e2 := of_decide_eq_false h
      refine AOps.run tok 8 _ _ _ _ rfl ?_
      refine AOps.nil ?_
      rw [show eqR r s = false by unfold eqR; simp [e2]]
      exact AW.ret rfl
  · have e1 : ¬ r.g = s.g := by simpa using h
    refine AOps.run tok 15 _ _ _ _ rfl ?_
    refine AOps.nil ?_
    rw [show eqR r s = false by unfold eqR; simp [e1]]
    exact AW.ret rfl

end Lift
/- More of fractions: Of, Sign, From, Make, Div; of the reference's: From, Make, Div. -/
namespace Lift
open Go Go.Proofs

theorem div_divInt (a b : Rat) (h : b ≠ 0) : Rat.divInt (a.num * (b.den : Int)) ((a.den : Int) * b.num) = a / b := by
  have h1 : ((a.den : Int) : Rat) ≠ 0 := by have := a.den_nz; exact_mod_cast this
  have h2 : ((b.den : Int) : Rat) ≠ 0 := by have := b.den_nz; exact_mod_cast this
  have h3 : b.num ≠ 0 := fun e => h (Rat.num_eq_zero.1 e)
  have h4 : (b.num : Rat) ≠ 0 := by exact_mod_cast h3
  have ha : (a.num : Rat) / ((a.den : Int) : Rat) = a := by rw [← Rat.divInt_eq_div]; exact Rat.num_divInt_den a
  have hb : (b.num : Rat) / ((b.den : Int) : Rat) = b := by rw [← Rat.divInt_eq_div]; exact Rat.num_divInt_den b
  rw [Rat.divInt_eq_div, Rat.intCast_mul, Rat.intCast_mul]
  generalize (a.num : Rat) = x at *
  generalize ((a.den : Int) : Rat) = y at *
  generalize (b.num : Rat) = z at *
  generalize ((b.den : Int) : Rat) = u at *
  subst ha; subst hb
  grind
theorem sgI_ne {z : Int} (h : z ≠ 0) : (sgI z == 0) = false := by
  unfold sgI
  rcases Int.lt_trichotomy z 0 with g | g | g
  · simp [g]
  · exact absurd g h
  · have : ¬ z < 0 := by omega
    simp [this, h]
theorem num_ne {q : Rat} (h : q ≠ 0) : q.num ≠ 0 := fun e => h (Rat.num_eq_zero.1 e)
theorem div_sz {r s : Rat} {k : Nat} (h1 : LQ r ≤ k) (h2 : LQ s ≤ k) (h0 : s ≠ 0) : L (r.num * (s.den : Int)) ≤ 2 * k ∧ L ((r.den : Int) * s.num) ≤ 2 * k ∧ (r.den : Int) * s.num ≠ 0 := by
  have := Lnum r; have := Lden r; have := Lnum s; have := Lden s
  have := L_mul r.num s.den; have := L_mul r.den s.num
  exact ⟨by omega, by omega, Int.mul_ne_zero (den_ne r) (num_ne h0)⟩
theorem LQ_div {r s : Rat} (h0 : s ≠ 0) : LQ (r / s) ≤ LQ r + LQ s := by
  have := Lnum r; have := Lden r; have := Lnum s; have := Lden s
  have := L_mul r.num s.den; have := L_mul r.den s.num
  have := LQ_divInt (r.num * (s.den : Int)) ((r.den : Int) * s.num) (Int.mul_ne_zero (den_ne r) (num_ne h0))
  rw [div_divInt r s h0] at this
  omega

theorem fraction_Of_ok (n : Int) (h0 : -9223372036854775808 ≤ n) (h1 : n ≤ 9223372036854775807) : Pure Tryz.prog 37 [dI n] (Qr n).D := by
  refine Pure.intro (n := 7) tok Tryz.func37 rfl rfl rfl (Nat.le_of_ble_eq_true rfl) (by kernel_rfl) (fun B F0 w0 => ?_)
  have hn := L_of n (by omega)
  rw [← of_divInt]
  refine AW.seq ?_
  refine AW.region ?_   -- "fraction.go:71"
  refine AOps.run tok 1 _ _ _ _ rfl ?_
  refine AOps.nil ?_
  refine AW.seq ?_
  refine AW.region ?_   -- "fraction.go:71"
  refine AOps.run tok 1 _ _ _ _ rfl ?_
  refine AOps.call tok rfl rfl rfl rfl (integer_Of_ok n h0 h1) ?_
  refine AOps.call tok rfl rfl rfl rfl fraction_one_ok ?_
  refine AOps.call tok rfl rfl rfl rfl (fraction_form_ok n 1 (by omega) (by rw [L_one]; omega) (by decide)) ?_
  refine AOps.run tok 1 _ _ _ _ rfl ?_
  refine AOps.nil ?_
  exact AW.ret rfl
theorem fraction_Sign_ok (r : RD) {k : Nat} (hr : r.w k) (hk : k ≤ 20000000) : Pure Tryz.prog 26 [r.D] (dI (sgI r.val.num)) := by
  refine Pure.intro (n := 12) tok Tryz.func26 rfl rfl rfl (Nat.le_of_ble_eq_true rfl) (by kernel_rfl) (fun B F0 w0 => ?_)
  have hl := LQ_val (hr.mono (Nat.le_max_left k 1)) (Nat.le_max_right k 1)
  have := Lnum r.val
  refine AW.seq ?_
  refine AW.region ?_   -- "fraction.go:83"
  refine AOps.run tok 2 _ _ _ _ rfl ?_
  refine AOps.nil ?_
  refine AW.seq ?_
  refine AW.region ?_   -- "fraction.go:84"
  refine AOps.run tok 1 _ _ _ _ rfl ?_
  refine AOps.call tok rfl rfl rfl rfl (fraction_Parts_ok r hr (by omega)) ?_
  refine AOps.run tok 7 _ _ _ _ rfl ?_
  refine AOps.nil ?_
  refine AW.seq ?_
  refine AW.region ?_   -- "fraction.go:85"
  refine AOps.run tok 1 _ _ _ _ rfl ?_
  refine AOps.call tok rfl rfl rfl rfl (integer_Sign_ok r.val.num (by omega)) ?_
  refine AOps.run tok 1 _ _ _ _ rfl ?_
  refine AOps.nil ?_
  exact AW.ret rfl
theorem fraction_From_ok (n d : Int) (hn : L n ≤ 50000000) (hd : L d ≤ 50000000) (h0 : d ≠ 0) : Pure Tryz.prog 60 [WhI n, WhI d] (.tu [(Qr (Rat.divInt n d)).D, nilE]) := by
  refine Pure.intro (n := 14) tok Tryz.func60 rfl rfl rfl (Nat.le_of_ble_eq_true rfl) (by kernel_rfl) (fun B F0 w0 => ?_)
  refine AW.seq ?_
  refine AW.region ?_   -- "fraction.go:63"
  refine AOps.run tok 4 _ _ _ _ rfl ?_
  refine AOps.nil ?_
  refine AW.seq ?_
  refine AW.seq ?_
  refine AW.region ?_   -- "fraction.go:64"
  refine AOps.run tok 1 _ _ _ _ rfl ?_
  refine AOps.call tok rfl rfl rfl rfl (integer_Sign_ok d (by omega)) ?_
  refine AOps.run tok 1 _ _ _ _ rfl ?_
  rw [sgI_ne h0]
  refine AOps.nil ?_
  refine AW.condF rfl ?_
  · skip
    refine AW.skip ?_
    refine AW.seq ?_
    refine AW.region ?_   -- "fraction.go:67"
    refine AOps.run tok 2 _ _ _ _ rfl ?_
    refine AOps.call tok rfl rfl rfl rfl (fraction_form_ok n d hn hd h0) ?_
    refine AOps.run tok 2 _ _ _ _ rfl ?_
    refine AOps.nil ?_
    exact AW.ret rfl
theorem fraction_Div_ok (r s : RD) {k : Nat} (hr : r.w k) (hs : s.w k) (hk : k ≤ 20000000) (h0 : s.val ≠ 0) : Pure Tryz.prog 27 [r.D, s.D] (.tu [(Qr (r.val / s.val)).D, nilE]) := by
  refine Pure.intro (n := 29) tok Tryz.func27 rfl rfl rfl (Nat.le_of_ble_eq_true rfl) (by kernel_rfl) (fun B F0 w0 => ?_)
  have hl := LQ_val (hr.mono (Nat.le_max_left k 1)) (Nat.le_max_right k 1)
  have hm := LQ_val (hs.mono (Nat.le_max_left k 1)) (Nat.le_max_right k 1)
  have := Lnum r.val; have := Lden r.val; have := Lnum s.val; have := Lden s.val
  obtain ⟨d1, d2, d3⟩ := div_sz hl hm h0
  rw [← div_divInt r.val s.val h0]
  refine AW.seq ?_
  refine AW.region ?_   -- "fraction.go:137"
  refine AOps.run tok 4 _ _ _ _ rfl ?_
  refine AOps.nil ?_
  refine AW.seq ?_
  refine AW.region ?_   -- "fraction.go:138"
  refine AOps.run tok 1 _ _ _ _ rfl ?_
  refine AOps.call tok rfl rfl rfl rfl (fraction_Parts_ok r hr (by omega)) ?_
  refine AOps.run tok 7 _ _ _ _ rfl ?_
  refine AOps.nil ?_
  refine AW.seq ?_
  refine AW.region ?_   -- "fraction.go:139"
  refine AOps.run tok 1 _ _ _ _ rfl ?_
  refine AOps.call tok rfl rfl rfl rfl (fraction_Parts_ok s hs (by omega)) ?_
  refine AOps.run tok 7 _ _ _ _ rfl ?_
  refine AOps.nil ?_
  refine AW.seq ?_
  refine AW.draw hmix 9 (by kernel_rfl) ?_   -- "fraction.go:140"
  refine APre.run tok 2 _ _ _ _ rfl ?_
  refine APre.call tok rfl rfl rfl rfl rfl (integer_Mul_ok r.val.num s.val.den (by omega) (by omega)) ?_
  refine APre.run tok 2 _ _ _ _ rfl ?_
  refine APre.call tok rfl rfl rfl rfl rfl (integer_Mul_ok r.val.den s.val.num (by omega) (by omega)) ?_
  refine APre.call tok rfl rfl rfl rfl rfl (fraction_From_ok (r.val.num * s.val.den) (r.val.den * s.val.num) (by omega) (by omega) d3) ?_
  refine APre.run tok 2 _ _ _ _ rfl ?_
  refine APre.nil ?_
  refine AOps.run tok 2 _ _ _ _ rfl ?_
  refine AOps.nil ?_
  exact AW.ret rfl
theorem r02_From_ok (n d : Int) (hn : L n ≤ 50000000) (hd : L d ≤ 50000000) (h0 : d ≠ 0) : Pure Tryz.prog 57 [WhI n, WhI d] (.tu [(Qr (Rat.divInt n d)).D, dI 0]) := by
  refine Pure.intro (n := 13) tok Tryz.func57 rfl rfl rfl (Nat.le_of_ble_eq_true rfl) (by kernel_rfl) (fun B F0 w0 => ?_)
  refine AW.seq ?_
  refine AW.region ?_   -- "ref.go:50"
  refine AOps.run tok 4 _ _ _ _ rfl ?_
  refine AOps.nil ?_
  refine AW.seq ?_
  refine AW.seq ?_
  refine AW.region ?_   -- "ref.go:51"
  refine AOps.run tok 1 _ _ _ _ rfl ?_
  refine AOps.call tok rfl rfl rfl rfl (r01_Sign_ok d (by omega)) ?_
  refine AOps.run tok 1 _ _ _ _ rfl ?_
  rw [sgI_ne h0]
  refine AOps.nil ?_
  refine AW.condF rfl ?_
  · skip
    refine AW.skip ?_
    refine AW.seq ?_
    refine AW.region ?_   -- "ref.go:54"
    refine AOps.run tok 2 _ _ _ _ rfl ?_
    refine AOps.call tok rfl rfl rfl rfl (r02_form_ok n d hn hd h0) ?_
    refine AOps.run tok 2 _ _ _ _ rfl ?_
    refine AOps.nil ?_
    exact AW.ret rfl
theorem r02_Make_ok (n d : Int) (h1 : -9223372036854775808 ≤ n) (h2 : n ≤ 9223372036854775807) (h3 : -9223372036854775808 ≤ d) (h4 : d ≤ 9223372036854775807) (h0 : d ≠ 0) : Pure Tryz.prog 23 [dI n, dI d] (.tu [(Qr (Rat.divInt n d)).D, dI 0]) := by
  refine Pure.intro (n := 13) tok Tryz.func23 rfl rfl rfl (Nat.le_of_ble_eq_true rfl) (by kernel_rfl) (fun B F0 w0 => ?_)
  have hn := L_of n (by omega)
  have hd := L_of d (by omega)
  refine AW.seq ?_
  refine AW.region ?_   -- "ref.go:58"
  refine AOps.run tok 2 _ _ _ _ rfl ?_
  refine AOps.nil ?_
  refine AW.seq ?_
  refine AW.region ?_   -- "ref.go:58"
  refine AOps.run tok 1 _ _ _ _ rfl ?_
  refine AOps.call tok rfl rfl rfl rfl (r01_Of_ok n h1 h2) ?_
  refine AOps.run tok 1 _ _ _ _ rfl ?_
  refine AOps.call tok rfl rfl rfl rfl (r01_Of_ok d h3 h4) ?_
  refine AOps.call tok rfl rfl rfl rfl (r02_From_ok n d (by omega) (by omega) h0) ?_
  refine AOps.run tok 4 _ _ _ _ rfl ?_
  refine AOps.nil ?_
  exact AW.ret rfl
end Lift
/- Linear equations over the rationals: what row operations keep; what a reduced system says of its solutions. -/
namespace Lift

/-- The sum of f 0, .., f (n - 1). -/
def sumN : Nat → (Nat → Rat) → Rat
  | 0, _ => 0
  | n + 1, f => sumN n f + f n
theorem sumN_congr {f g : Nat → Rat} : ∀ {n : Nat}, (∀ c, c < n → f c = g c) → sumN n f = sumN n g
  | 0, _ => rfl
  | n + 1, h => by rw [sumN, sumN, sumN_congr (fun c hc => h c (by omega)), h n (by omega)]
theorem sumN_zero {f : Nat → Rat} {n : Nat} (h : ∀ c, c < n → f c = 0) : sumN n f = 0 := by
  induction n with
  | zero => rfl
  | succ n ih => rw [sumN, ih (fun c hc => h c (by omega)), h n (by omega)]; grind
theorem sumN_add (f g : Nat → Rat) : ∀ n : Nat, sumN n (fun c => f c + g c) = sumN n f + sumN n g
  | 0 => by simp only [sumN]; grind
  | n + 1 => by simp only [sumN, sumN_add f g n]; grind
theorem sumN_mul (k : Rat) (f : Nat → Rat) : ∀ n : Nat, sumN n (fun c => k * f c) = k * sumN n f
  | 0 => by simp only [sumN]; grind
  | n + 1 => by simp only [sumN, sumN_mul k f n]; grind
theorem sumN_sub (f g : Nat → Rat) : ∀ n : Nat, sumN n (fun c => f c - g c) = sumN n f - sumN n g
  | 0 => by simp only [sumN]; grind
  | n + 1 => by simp only [sumN, sumN_sub f g n]; grind
/-- One term stands out. -/
theorem sumN_one {f : Nat → Rat} {n i : Nat} (hi : i < n) (h : ∀ c, c < n → c ≠ i → f c = 0) : sumN n f = f i := by
  induction n with
  | zero => omega
  | succ n ih =>
    rw [sumN]
    rcases Nat.lt_or_ge i n with g | g
    · rw [ih g (fun c hc => h c (by omega)), h n (by omega) (by omega)]; grind
    · have : i = n := by omega
      subst this
      rw [sumN_zero (fun c hc => h c (by omega) (by omega))]; grind
/-- A system: row j, column c; column n is the right side. -/
abbrev Mx := Nat → Nat → Rat
def eqn (n : Nat) (r : Nat → Rat) (x : Nat → Rat) : Prop := sumN n (fun c => r c * x c) = r n
def Sol (m n : Nat) (M : Mx) (x : Nat → Rat) : Prop := ∀ j, j < m → eqn n (M j) x

theorem eqn_congr {n : Nat} {r s : Nat → Rat} (h : ∀ c, c ≤ n → r c = s c) (x : Nat → Rat) : eqn n r x ↔ eqn n s x := by
  unfold eqn
  rw [sumN_congr (fun c hc => by rw [h c (by omega)]), h n (Nat.le_refl _)]
theorem eqn_scale {n : Nat} {r : Nat → Rat} {k : Rat} (hk : k ≠ 0) (x : Nat → Rat) : eqn n (fun c => k * r c) x ↔ eqn n r x := by
  unfold eqn
  rw [show (fun c => k * r c * x c) = (fun c => k * (r c * x c)) from funext fun c => by grind, sumN_mul]
  constructor
  · intro h
    have : k * (sumN n (fun c => r c * x c) - r n) = 0 := by grind
    rcases Rat.mul_eq_zero.1 this with h | h
    · exact absurd h hk
    · grind
  · intro h; rw [h]
theorem eqn_less {n : Nat} {r s : Nat → Rat} (k : Rat) {x : Nat → Rat} (hs : eqn n s x) : eqn n (fun c => r c - k * s c) x ↔ eqn n r x := by
  unfold eqn at *
  rw [show (fun c => (r c - k * s c) * x c) = (fun c => r c * x c - k * (s c * x c)) from funext fun c => by grind, sumN_sub, sumN_mul, hs]
  constructor <;> intro h <;> grind

/-- The columns below k are done: the column c < k has a row of its own (pr c) in which alone it is not 0, or none; where no column has the row, all columns below k are 0 in it. -/
structure Red (m n k : Nat) (M : Mx) (pr : Nat → Option Nat) : Prop where
  lt : ∀ c i, pr c = some i → c < k ∧ i < m
  inj : ∀ c d i, pr c = some i → pr d = some i → c = d
  piv : ∀ c i, pr c = some i → M i c ≠ 0
  col : ∀ c i j, pr c = some i → j < m → j ≠ i → M j c = 0
  row : ∀ j c, j < m → (∀ d, pr d ≠ some j) → c < k → M j c = 0

/-- No solution: a row without a column, its right side not 0. -/
theorem Red.noSol {m n : Nat} {M : Mx} {pr : Nat → Option Nat} (h : Red m n n M pr) {j : Nat} (hj : j < m) (hn : ∀ d, pr d ≠ some j) (h0 : M j n ≠ 0) (x : Nat → Rat) : ¬ Sol m n M x := by
  intro hs
  have := hs j hj
  unfold eqn at this
  rw [sumN_zero (fun c hc => by rw [h.row j c hj hn hc]; grind)] at this
  exact h0 this.symm
/-- The solution in which the free columns are what y says. -/
def solF (n : Nat) (M : Mx) (pr : Nat → Option Nat) (y : Nat → Rat) (c : Nat) : Rat := match pr c with
  | some i => (M i n - sumN n (fun d => match pr d with
    | some _ => 0
    | none => M i d * y d)) / M i c
  | none => y c
theorem Red.sol {m n : Nat} {M : Mx} {pr : Nat → Option Nat} (h : Red m n n M pr) (h0 : ∀ j, j < m → (∀ d, pr d ≠ some j) → M j n = 0) (y : Nat → Rat) : Sol m n M (solF n M pr y) := by
  intro j hj
  unfold eqn
  by_cases hp : ∃ c, pr c = some j
  · obtain ⟨c, hc⟩ := hp
    have hcn := (h.lt c j hc).1
    have hne := h.piv c j hc
    have e : sumN n (fun d => M j d * solF n M pr y d) = sumN n (fun d => (if d = c then M j c * solF n M pr y c else 0) + (match pr d with
        | some _ => 0
        | none => M j d * y d)) := sumN_congr (fun d hd => by
      by_cases hdc : d = c
      · subst hdc; rw [if_pos rfl, hc]; grind
      · rw [if_neg hdc]
        cases hpd : pr d with
        | none => simp only [solF, hpd]; grind
        | some i =>
          have hij : j ≠ i := fun e => hdc (h.inj d c i hpd (e ▸ hc))
          rw [h.col d i j hpd hj hij]; grind)
    rw [e, sumN_add, sumN_one hcn (fun d _ hd => by rw [if_neg hd]), if_pos rfl]
    simp only [solF, hc]
    rw [Rat.mul_comm, Rat.div_mul_cancel hne]
    grind
  · have hn : ∀ d, pr d ≠ some j := fun d hd => hp ⟨d, hd⟩
    rw [sumN_zero (fun c hc => by rw [h.row j c hj hn hc]; grind), h0 j hj hn]
/-- Two solutions, where a column is free. -/
theorem Red.two {m n f : Nat} {M : Mx} {pr : Nat → Option Nat} (h : Red m n n M pr) (h0 : ∀ j, j < m → (∀ d, pr d ≠ some j) → M j n = 0) (hf : f < n) (hpf : pr f = none) :
    ∃ x y, Sol m n M x ∧ Sol m n M y ∧ x f ≠ y f := by
  refine ⟨_, _, h.sol h0 (fun _ => 0), h.sol h0 (fun _ => 1), ?_⟩
  simp only [solF, hpf]
  decide
/-- All columns have a row: the only solution. -/
theorem Red.one {m n : Nat} {M : Mx} {pr : Nat → Option Nat} (h : Red m n n M pr) (hall : ∀ c, c < n → pr c ≠ none) {x : Nat → Rat} (hs : Sol m n M x) {c i : Nat} (hc : pr c = some i) : x c = M i n / M i c := by
  obtain ⟨hcn, him⟩ := h.lt c i hc
  have := hs i him
  unfold eqn at this
  rw [sumN_one hcn (fun d hd hdc => by
    cases hpd : pr d with
    | none => exact absurd hpd (hall d hd)
    | some j =>
      have hij : i ≠ j := fun e => hdc (h.inj d c i (e ▸ hpd) hc)
      rw [h.col d j i hpd him hij]; grind)] at this
  rw [← this, Rat.mul_comm, Rat.mul_div_cancel (h.piv c i hc)]
theorem Red.init (m n : Nat) (M : Mx) : Red m n 0 M (fun _ => none) :=
  ⟨fun c i h => (by cases h), fun c d i h => (by cases h), fun c i h => (by cases h), fun c i j h => (by cases h), fun j c _ _ h => (by omega)⟩
/-- No row is left for column k. -/
theorem Red.skip {m n k : Nat} {M : Mx} {pr : Nat → Option Nat} (h : Red m n k M pr) (h0 : ∀ j, j < m → (∀ d, pr d ≠ some j) → M j k = 0) : Red m n (k + 1) M pr :=
  ⟨fun c i hc => ⟨by have := (h.lt c i hc).1; omega, (h.lt c i hc).2⟩, h.inj, h.piv, h.col, fun j c hj hn hc => by
    rcases Nat.lt_or_ge c k with g | g
    · exact h.row j c hj hn g
    · have : c = k := by omega
      subst this; exact h0 j hj hn⟩
/-- All rows have their columns. -/
theorem Red.full {m n k l : Nat} {M : Mx} {pr : Nat → Option Nat} (h : Red m n k M pr) (hl : k ≤ l) (hall : ∀ j, j < m → ∃ d, pr d = some j) : Red m n l M pr :=
  ⟨fun c i hc => ⟨by have := (h.lt c i hc).1; omega, (h.lt c i hc).2⟩, h.inj, h.piv, h.col, fun j c hj hn _ => by
    obtain ⟨d, hd⟩ := hall j hj
    exact absurd hd (hn d)⟩
/-- Row i is taken for column k. -/
theorem Red.elim {m n k i : Nat} {M M' : Mx} {pr : Nat → Option Nat} (h : Red m n k M pr) (hi : i < m) (hn : ∀ d, pr d ≠ some i) (hk : M i k ≠ 0) (s : Rat) (hs : s ≠ 0) (q : Nat → Rat) (h1 : ∀ c, c ≤ k → M' i c = s * M i c) (h2 : ∀ j c, j < m → j ≠ i → c ≤ k → M' j c = M j c - q j * M i c)
    (h3 : ∀ j, j < m → j ≠ i → M' j k = 0) : Red m n (k + 1) M' (fun c => if c = k then some i else pr c) := by
  have hz : ∀ c, c < k → M i c = 0 := fun c hc => h.row i c hi hn hc
  have hold : ∀ j c, j < m → j ≠ i → c < k → M' j c = M j c := fun j c hj hji hc => by rw [h2 j c hj hji (by omega), hz c hc]; grind
  refine ⟨fun c j hc => ?_, fun c d j hc hd => ?_, fun c j hc => ?_, fun c j l hc hl hlj => ?_, fun j c hj hnj hc => ?_⟩
  · split at hc
    · cases hc; exact ⟨by omega, hi⟩
    · exact ⟨by have := (h.lt c j hc).1; omega, (h.lt c j hc).2⟩
  · split at hc <;> split at hd
    · omega
    · cases hc; exact absurd hd (hn d)
    · cases hd; exact absurd hc (hn c)
    · exact h.inj c d j hc hd
  · split at hc
    · rename_i e
      cases hc
      rw [e, h1 k (Nat.le_refl _)]
      intro h0
      rcases Rat.mul_eq_zero.1 h0 with g | g
      · exact hs g
      · exact hk g
    · have hji : j ≠ i := fun e => hn c (e ▸ hc)
      rw [hold j c (h.lt c j hc).2 hji (h.lt c j hc).1]
      exact h.piv c j hc
  · split at hc
    · rename_i e
      cases hc
      rw [e]; exact h3 l hl hlj
    · have hck := (h.lt c j hc).1
      by_cases hli : l = i
      · subst hli
        rw [h1 c (by omega), hz c hck]; grind
      · rw [hold l c hl hli hck]
        exact h.col c j l hc hl hlj
  · have hji : j ≠ i := fun e => hnj k (by simp [e])
    rcases Nat.lt_or_ge c k with g | g
    · rw [hold j c hj hji g]
      refine h.row j c hj (fun d hd => hnj d ?_) g
      have : d ≠ k := fun e => by have := (h.lt d j hd).1; omega
      simp [this, hd]
    · have : c = k := by omega
      subst this
      exact h3 j hj hji
theorem Sol.elim {m n i : Nat} {M M' : Mx} (hi : i < m) (s : Rat) (hs : s ≠ 0) (q : Nat → Rat) (h1 : ∀ c, c ≤ n → M' i c = s * M i c) (h2 : ∀ j c, j < m → j ≠ i → c ≤ n → M' j c = M j c - q j * M i c) (x : Nat → Rat) : Sol m n M' x ↔ Sol m n M x := by
  have hi' : eqn n (M' i) x ↔ eqn n (M i) x := (eqn_congr h1 x).trans (eqn_scale hs x)
  constructor
  · intro h j hj
    have hii := hi'.1 (h i hi)
    by_cases e : j = i
    · subst e; exact hii
    · exact (eqn_less (q j) hii).1 ((eqn_congr (fun c hc => h2 j c hj e hc) x).1 (h j hj))
  · intro h j hj
    by_cases e : j = i
    · subst e; exact hi'.2 (h j hj)
    · exact (eqn_congr (fun c hc => h2 j c hj e hc) x).2 ((eqn_less (q j) (h i hi)).2 (h j hj))
/-- Two rows change places. -/
def swR (a b j : Nat) : Nat := if j = a then b else if j = b then a else j
theorem swR_swR (a b j : Nat) : swR a b (swR a b j) = j := by
  unfold swR
  by_cases h1 : j = a
  · subst h1
    rw [if_pos rfl]
    by_cases h2 : b = j
    · rw [if_pos h2]; exact h2
    · rw [if_neg h2, if_pos rfl]
  · rw [if_neg h1]
    by_cases h2 : j = b
    · subst h2; rw [if_pos rfl, if_pos rfl]
    · rw [if_neg h2, if_neg h1, if_neg h2]
theorem swR_lt {a b m : Nat} (ha : a < m) (hb : b < m) {j : Nat} (hj : j < m) : swR a b j < m := by
  unfold swR
  split
  · exact hb
  · split
    · exact ha
    · exact hj
theorem Red.swap {m n k a b : Nat} {M M' : Mx} {pr : Nat → Option Nat} (h : Red m n k M pr) (ha : a < m) (hb : b < m) (hna : ∀ d, pr d ≠ some a) (hnb : ∀ d, pr d ≠ some b) (hM : ∀ j c, j < m → c ≤ n → M' j c = M (swR a b j) c) (hkn : k ≤ n) : Red m n k M' pr := by
  have hfix : ∀ c i, pr c = some i → swR a b i = i := fun c i hc => by
    have h1 : i ≠ a := fun e => by subst e; exact hna c hc
    have h2 : i ≠ b := fun e => by subst e; exact hnb c hc
    unfold swR
    rw [if_neg h1, if_neg h2]
  refine ⟨h.lt, h.inj, fun c i hc => ?_, fun c i j hc hj hji => ?_, fun j c hj hn hc => ?_⟩
  · have := h.lt c i hc
    rw [hM i c this.2 (by omega), hfix c i hc]; exact h.piv c i hc
  · have := h.lt c i hc
    rw [hM j c hj (by omega)]
    refine h.col c i _ hc (swR_lt ha hb hj) (fun e => hji ?_)
    rw [← swR_swR a b j, e, hfix c i hc]
  · rw [hM j c hj (by omega)]
    refine h.row _ c (swR_lt ha hb hj) (fun d hd => ?_) hc
    have e := hfix d _ hd
    rw [swR_swR] at e
    exact hn d (by rw [hd, ← e])
theorem Sol.swap {m n a b : Nat} {M M' : Mx} (ha : a < m) (hb : b < m) (hM : ∀ j c, j < m → c ≤ n → M' j c = M (swR a b j) c) (x : Nat → Rat) : Sol m n M' x ↔ Sol m n M x := by
  constructor
  · intro h j hj
    have := (eqn_congr (fun c hc => hM (swR a b j) c (swR_lt ha hb hj) hc) x).1 (h _ (swR_lt ha hb hj))
    rwa [swR_swR] at this
  · intro h j hj
    exact (eqn_congr (fun c hc => hM j c hj hc) x).2 (h _ (swR_lt ha hb hj))

/-- What is found: no solution, more than one, or the only one. -/
inductive Out where
  | over
  | free
  | val (l : List Rat)
def Right (m n : Nat) (M : Mx) : Out → Prop
  | .over => ∀ x, ¬ Sol m n M x
  | .free => ∃ x y f, f < n ∧ Sol m n M x ∧ Sol m n M y ∧ x f ≠ y f
  | .val l => l.length = n ∧ Sol m n M (fun c => l.getD c 0) ∧ ∀ y, Sol m n M y → ∀ c, c < n → y c = l.getD c 0
theorem Right.unique {m n : Nat} {M : Mx} {a b : Out} (ha : Right m n M a) (hb : Right m n M b) : a = b := by
  cases a with
  | over =>
    cases b with
    | over => rfl
    | free => obtain ⟨x, _, _, _, h, _⟩ := hb; exact absurd h (ha x)
    | val l => exact absurd hb.2.1 (ha _)
  | free =>
    cases b with
    | over => obtain ⟨x, _, _, _, h, _⟩ := ha; exact absurd h (hb x)
    | free => rfl
    | val l =>
      obtain ⟨x, y, f, hf, h1, h2, h3⟩ := ha
      exact absurd ((hb.2.2 x h1 f hf).trans (hb.2.2 y h2 f hf).symm) h3
  | val l =>
    cases b with
    | over => exact absurd ha.2.1 (hb _)
    | free =>
      obtain ⟨x, y, f, hf, h1, h2, h3⟩ := hb
      exact absurd ((ha.2.2 x h1 f hf).trans (ha.2.2 y h2 f hf).symm) h3
    | val l' =>
      have : l = l' := by
        refine List.ext_getElem (by rw [ha.1, hb.1]) (fun c h1 h2 => ?_)
        have := hb.2.2 _ ha.2.1 c (by rw [← ha.1]; exact h1)
        simpa [List.getD_eq_getElem?_getD, h1, h2] using this
      rw [this]
theorem Right.congr {m n : Nat} {M M' : Mx} {o : Out} (h : ∀ x, Sol m n M' x ↔ Sol m n M x) (ho : Right m n M' o) : Right m n M o := by
  cases o with
  | over => exact fun x hx => ho x ((h x).2 hx)
  | free =>
    obtain ⟨x, y, f, hf, h1, h2, h3⟩ := ho
    exact ⟨x, y, f, hf, (h x).1 h1, (h y).1 h2, h3⟩
  | val l => exact ⟨ho.1, (h _).1 ho.2.1, fun y hy => ho.2.2 y ((h y).2 hy)⟩
/-- Of a reduced system without contradiction: all columns have their rows. -/
theorem Red.val {m n : Nat} {M : Mx} {pr : Nat → Option Nat} (h : Red m n n M pr) (h0 : ∀ j, j < m → (∀ d, pr d ≠ some j) → M j n = 0) {l : List Rat} (hl : l.length = n) (hv : ∀ c, c < n → ∃ i, pr c = some i ∧ l.getD c 0 = M i n / M i c) : Right m n M (.val l) := by
  have hall : ∀ c, c < n → pr c ≠ none := fun c hc e => by
    obtain ⟨i, h1, _⟩ := hv c hc
    rw [h1] at e; cases e
  have hx : ∀ y, Sol m n M y → ∀ c, c < n → y c = l.getD c 0 := fun y hy c hc => by
    obtain ⟨i, h1, h2⟩ := hv c hc
    rw [h2, h.one hall hy h1]
  refine ⟨hl, ?_, hx⟩
  have hs := h.sol h0 (fun _ => 0)
  intro j hj
  have := hs j hj
  unfold eqn at *
  rw [← this]
  exact sumN_congr (fun c hc => by rw [hx _ hs c hc])
end Lift
/- The program's elimination, as a plain function; it finds what is right. -/
namespace Lift

abbrev Mt := List (List Rat)
def fM (a : Mt) : Mx := fun j c => (a.getD j []).getD c 0
def Rect (a : Mt) (w : Nat) : Prop := ∀ r, r ∈ a → r.length = w
theorem Rect.get {a : Mt} {w j : Nat} (h : Rect a w) (hj : j < a.length) : (a.getD j []).length = w := by
  rw [List.getD_eq_getElem?_getD, List.getElem?_eq_getElem hj]
  exact h _ (List.getElem_mem hj)
/-- The first of the m numbers from i on at which g holds; i + m if there is none. -/
def fstN (g : Nat → Bool) : Nat → Nat → Nat
  | 0, i => i
  | m + 1, i => if g i = true then i else fstN g m (i + 1)
theorem fstN_spec {g : Nat → Bool} : ∀ {m i : Nat}, i ≤ fstN g m i ∧ fstN g m i ≤ i + m ∧ (∀ k, i ≤ k → k < fstN g m i → g k = false) ∧ (fstN g m i < i + m → g (fstN g m i) = true)
  | 0, i => ⟨Nat.le_refl _, Nat.le_refl _, fun k h1 h2 => by simp only [fstN] at h2; omega, fun h => by simp only [fstN] at h; omega⟩
  | m + 1, i => by
    simp only [fstN]
    split
    · rename_i h
      exact ⟨Nat.le_refl _, by omega, fun k h1 h2 => by omega, fun _ => h⟩
    · rename_i h
      obtain ⟨h1, h2, h3, h4⟩ := fstN_spec (g := g) (m := m) (i := i + 1)
      refine ⟨by omega, by omega, fun k g1 g2 => ?_, fun g1 => h4 (by omega)⟩
      rcases Nat.eq_or_lt_of_le g1 with e | e
      · subst e; simpa using h
      · exact h3 k (by omega) g2

def nz (x : Rat) : Bool := decide (x ≠ 0)
/-- The row in which column k is not 0, from row d on. -/
def atG (a : Mt) (d k : Nat) : Nat := fstN (fun j => nz (fM a j k)) (a.length - d) d
def swG (a : Mt) (d t : Nat) : Mt := (a.set d (a.getD t [])).set t (a.getD d [])
def divR (r : List Rat) (f : Rat) : List Rat := r.map (· / f)
def lessR (r s : List Rat) (q : Rat) : List Rat := List.zipWith (fun x y => x - q * y) r s
/-- The first i rows are cleared in column k by row d. -/
def clrG (a : Mt) (d k : Nat) : Nat → Mt
  | 0 => a
  | i + 1 => if i ≠ d ∧ fM (clrG a d k i) i k ≠ 0 then (clrG a d k i).set i (lessR ((clrG a d k i).getD i []) ((clrG a d k i).getD d []) (fM (clrG a d k i) i k)) else clrG a d k i
def pivG (a : Mt) (d k t : Nat) : Mt :=
  let b := swG a d t
  let e := b.set d (divR (b.getD d []) (fM b d k))
  clrG e d k e.length
/-- Columns k, .., n: none stands for a contradiction. -/
def goG (n : Nat) : Nat → Nat → Nat → Mt → Option (Mt × Nat)
  | 0, _, d, a => some (a, d)
  | m + 1, k, d, a => if d < a.length then
      (if atG a d k = a.length then goG n m (k + 1) d a else if k = n then none else goG n m (k + 1) (d + 1) (pivG a d k (atG a d k)))
    else some (a, d)
def outG (n : Nat) (a : Mt) : Out := match goG n (n + 1) 0 0 a with
  | none => .over
  | some (b, d) => if d < n then .free else .val ((b.take n).map (fun r => r.getD n 0))

theorem set_f {a : Mt} {i j c : Nat} {r : List Rat} (hi : i < a.length) : fM (a.set i r) j c = if j = i then r.getD c 0 else fM a j c := by
  unfold fM
  simp only [List.getD_eq_getElem?_getD]
  by_cases h : j = i
  · subst h; rw [if_pos rfl, List.getElem?_set_self hi]; rfl
  · rw [if_neg h, List.getElem?_set_ne (Ne.symm h)]
theorem Rect.set {a : Mt} {w i : Nat} {r : List Rat} (h : Rect a w) (hr : r.length = w) : Rect (a.set i r) w := fun s hs => by
  rcases List.mem_or_eq_of_mem_set hs with g | g
  · exact h s g
  · rw [g]; exact hr
theorem getD_lessR {r s : List Rat} {q : Rat} (h : r.length = s.length) (c : Nat) : (lessR r s q).getD c 0 = r.getD c 0 - q * s.getD c 0 := by
  unfold lessR
  simp only [List.getD_eq_getElem?_getD, List.getElem?_zipWith]
  rcases Nat.lt_or_ge c r.length with hc | hc
  · have hs : c < s.length := by omega
    simp [hc, hs]
  · have hs : s.length ≤ c := by omega
    rw [List.getElem?_eq_none hc, List.getElem?_eq_none hs]
    simp only [Option.getD_none]
    grind
theorem getD_divR (r : List Rat) (f : Rat) (c : Nat) : (divR r f).getD c 0 = r.getD c 0 / f := by
  unfold divR
  simp only [List.getD_eq_getElem?_getD, List.getElem?_map]
  cases r[c]? with
  | none => simp only [Option.map_none, Option.getD_none]; grind
  | some x => rfl
theorem clrG_spec {a : Mt} {d k w : Nat} (hd : d < a.length) (hR : Rect a w) (hk : fM a d k = 1) : ∀ {i : Nat}, i ≤ a.length → (clrG a d k i).length = a.length ∧ Rect (clrG a d k i) w ∧ (∀ c, fM (clrG a d k i) d c = fM a d c) ∧
    (∀ j c, j < a.length → j ≠ d → fM (clrG a d k i) j c = if j < i then fM a j c - fM a j k * fM a d c else fM a j c)
  | 0, _ => ⟨rfl, hR, fun c => rfl, fun j c _ _ => by rw [if_neg (by omega)]; rfl⟩
  | i + 1, hi => by
    obtain ⟨h1, h2, h3, h4⟩ := clrG_spec hd hR hk (i := i) (by omega)
    simp only [clrG]
    split
    · rename_i hc
      have hil : i < (clrG a d k i).length := by omega
      have hdl : d < (clrG a d k i).length := by omega
      have e1 := h2.get hil
      have e2 := h2.get hdl
      have hself := fun c => h4 i c (by omega) hc.1
      refine ⟨by simpa using h1, h2.set (by unfold lessR; rw [List.length_zipWith, e1, e2]; omega), fun c => ?_, fun j c hj hjd => ?_⟩
      · rw [set_f hil, if_neg (Ne.symm hc.1)]; exact h3 c
      · rw [set_f hil]
        by_cases hji : j = i
        · subst hji
          rw [if_pos rfl, if_pos (by omega), getD_lessR (by rw [e1, e2])]
          show fM (clrG a d k j) j c - fM (clrG a d k j) j k * fM (clrG a d k j) d c = _
          rw [h3, hself, hself, if_neg (by omega), if_neg (by omega)]
        · rw [if_neg hji, h4 j c hj hjd]
          by_cases g : j < i
          · rw [if_pos g, if_pos (by omega)]
          · rw [if_neg g, if_neg (by omega)]
    · rename_i hc
      refine ⟨h1, h2, h3, fun j c hj hjd => ?_⟩
      rw [h4 j c hj hjd]
      by_cases hji : j = i
      · subst hji
        have h0 : fM (clrG a d k j) j k = 0 := by
          refine Classical.byContradiction fun g => hc ⟨hjd, g⟩
        rw [h4 j k hj hjd, if_neg (by omega)] at h0
        rw [if_neg (by omega), if_pos (by omega), h0]; grind
      · by_cases g : j < i
        · rw [if_pos g, if_pos (by omega)]
        · rw [if_neg g, if_neg (by omega)]

theorem swG_spec {a : Mt} {d t w : Nat} (hd : d < a.length) (ht : t < a.length) (hR : Rect a w) : (swG a d t).length = a.length ∧ Rect (swG a d t) w ∧ ∀ j c, fM (swG a d t) j c = fM a (swR d t j) c := by
  have hs : t < (a.set d (a.getD t [])).length := by simpa using ht
  refine ⟨by simp [swG], (hR.set (hR.get ht)).set (hR.get hd), fun j c => ?_⟩
  unfold swG swR
  rw [set_f hs, set_f hd]
  by_cases h1 : j = t
  · subst h1
    rw [if_pos rfl]
    by_cases h2 : j = d
    · subst h2; rw [if_pos rfl]; rfl
    · rw [if_neg h2, if_pos rfl]; rfl
  · rw [if_neg h1]
    by_cases h2 : j = d
    · subst h2; rw [if_pos rfl, if_pos rfl]; rfl
    · rw [if_neg h2, if_neg h2, if_neg h1]
theorem pivG_spec {a : Mt} {d k t w : Nat} (hd : d < a.length) (ht : t < a.length) (hR : Rect a w) (h0 : fM (swG a d t) d k ≠ 0) : (pivG a d k t).length = a.length ∧ Rect (pivG a d k t) w ∧ (∀ c, fM (pivG a d k t) d c = (fM (swG a d t) d k)⁻¹ * fM (swG a d t) d c) ∧
    ∀ j c, j < a.length → j ≠ d → fM (pivG a d k t) j c = fM (swG a d t) j c - fM (swG a d t) j k * (fM (swG a d t) d k)⁻¹ * fM (swG a d t) d c := by
  obtain ⟨h1, h2, _⟩ := swG_spec hd ht hR
  have hdl : d < (swG a d t).length := by omega
  have hE : ∀ j c, fM ((swG a d t).set d (divR ((swG a d t).getD d []) (fM (swG a d t) d k))) j c = if j = d then fM (swG a d t) d c / fM (swG a d t) d k else fM (swG a d t) j c := fun j c => by
    rw [set_f hdl, getD_divR]; rfl
  have hER : Rect ((swG a d t).set d (divR ((swG a d t).getD d []) (fM (swG a d t) d k))) w := h2.set (by unfold divR; rw [List.length_map]; exact h2.get hdl)
  have hel : ((swG a d t).set d (divR ((swG a d t).getD d []) (fM (swG a d t) d k))).length = a.length := by simpa using h1
  obtain ⟨g1, g2, g3, g4⟩ := clrG_spec (a := (swG a d t).set d (divR ((swG a d t).getD d []) (fM (swG a d t) d k))) (d := d) (k := k) (by omega) hER (by rw [hE, if_pos rfl, Rat.div_def, Rat.mul_inv_cancel _ h0]) (Nat.le_refl _)
  refine ⟨g1.trans hel, g2, fun c => ?_, fun j c hj hjd => ?_⟩
  · show fM (clrG _ d k _) d c = _
    rw [g3, hE, if_pos rfl]; grind
  · show fM (clrG _ d k _) j c = _
    rw [g4 j c (by omega) hjd, if_pos (by omega), hE, hE, hE, if_neg hjd, if_neg hjd, if_pos rfl]; grind

def outO (n : Nat) : Option (Mt × Nat) → Out
  | none => .over
  | some (b, d) => if d < n then .free else .val ((b.take n).map (fun r => r.getD n 0))
structure InvG (n k d : Nat) (a : Mt) (pr : Nat → Option Nat) : Prop where
  rect : Rect a (n + 1)
  red : Red a.length n k (fM a) pr
  img : ∀ i, (∃ c, pr c = some i) ↔ i < d
  one : ∀ c i, pr c = some i → fM a i c = 1
  le : d ≤ a.length
  way : (d = k ∧ ∀ c, c < k → pr c = some c) ∨ (d < k ∧ ∃ f, f < k ∧ pr f = none)
theorem InvG.fin {n k d : Nat} {a : Mt} {pr : Nat → Option Nat} (h : InvG n k d a pr) (hr : Red a.length n n (fM a) pr) (hk : k ≤ n) (h0 : ∀ j, j < a.length → d ≤ j → fM a j n = 0) : Right a.length n (fM a) (outO n (some (a, d))) := by
  have hz : ∀ j, j < a.length → (∀ c, pr c ≠ some j) → fM a j n = 0 := fun j hj hn => h0 j hj (by
    rcases Nat.lt_or_ge j d with g | g
    · obtain ⟨c, hc⟩ := (h.img j).2 g
      exact absurd hc (hn c)
    · exact g)
  show Right _ _ _ (if d < n then .free else .val ((a.take n).map (fun r => r.getD n 0)))
  split
  · rename_i hd
    have : ∃ f, f < n ∧ pr f = none := by
      rcases h.way with ⟨h1, h2⟩ | ⟨_, f, h1, h2⟩
      · refine ⟨k, by omega, ?_⟩
        cases hp : pr k with
        | none => rfl
        | some i => have := (h.red.lt k i hp).1; omega
      · exact ⟨f, by omega, h2⟩
    obtain ⟨f, hf, hpf⟩ := this
    obtain ⟨x, y, h1, h2, h3⟩ := hr.two hz hf hpf
    exact ⟨x, y, f, hf, h1, h2, h3⟩
  · rename_i hd
    have hk' : d = k ∧ ∀ c, c < k → pr c = some c := by
      rcases h.way with g | ⟨g, _⟩
      · exact g
      · omega
    have hdn : d = n := by omega
    refine hr.val hz (by rw [List.length_map, List.length_take]; have := h.le; omega) (fun c hc => ⟨c, hk'.2 c (by omega), ?_⟩)
    rw [h.one c c (hk'.2 c (by omega))]
    have hca : c < a.length := by have := h.le; omega
    have : ((a.take n).map (fun r => r.getD n 0)).getD c 0 = fM a c n := by
      unfold fM
      simp only [List.getD_eq_getElem?_getD, List.getElem?_map, List.getElem?_take, if_pos hc]
      rw [List.getElem?_eq_getElem hca]
      rfl
    rw [this]; grind
theorem goG_right (n : Nat) : ∀ (m k d : Nat) (a : Mt) (pr : Nat → Option Nat), k + m = n + 1 → 0 < m → InvG n k d a pr → Right a.length n (fM a) (outO n (goG n m k d a))
  | 0, k, d, a, pr, _, h, _ => by omega
  | m + 1, k, d, a, pr, hkm, _, h => by
    have hk : k ≤ n := by omega
    simp only [goG]
    split
    · rename_i hda
      obtain ⟨s1, s2, s3, s4⟩ := fstN_spec (g := fun j => nz (fM a j k)) (m := a.length - d) (i := d)
      have hat : atG a d k = fstN (fun j => nz (fM a j k)) (a.length - d) d := rfl
      rw [← hat] at s1 s2 s3 s4
      split
      · rename_i hl
        have hz : ∀ j, j < a.length → d ≤ j → fM a j k = 0 := fun j hj hdj => by
          have := s3 j hdj (by omega)
          simpa [nz] using this
        have hz' : ∀ j, j < a.length → (∀ c, pr c ≠ some j) → fM a j k = 0 := fun j hj hn => hz j hj (by
          rcases Nat.lt_or_ge j d with g | g
          · obtain ⟨c, hc⟩ := (h.img j).2 g
            exact absurd hc (hn c)
          · exact g)
        by_cases hkn : k = n
        · subst hkn
          have : m = 0 := by omega
          subst this
          exact h.fin h.red (Nat.le_refl _) hz
        · refine goG_right n m (k + 1) d a pr (by omega) (by omega) ⟨h.rect, h.red.skip hz', h.img, h.one, h.le, ?_⟩
          refine .inr ⟨?_, ?_⟩
          · rcases h.way with ⟨g, _⟩ | ⟨g, _⟩ <;> omega
          · refine ⟨k, by omega, ?_⟩
            cases hp : pr k with
            | none => rfl
            | some i => have := (h.red.lt k i hp).1; omega
      · rename_i hl
        have htl : atG a d k < a.length := by omega
        have hnzt : fM a (atG a d k) k ≠ 0 := by simpa [nz] using s4 (by omega)
        have hnd : ∀ c, pr c ≠ some d := fun c hc => by have := (h.img d).1 ⟨c, hc⟩; omega
        have hnt : ∀ c, pr c ≠ some (atG a d k) := fun c hc => by have := (h.img _).1 ⟨c, hc⟩; omega
        split
        · rename_i hkn
          subst hkn
          exact fun x => h.red.noSol htl hnt hnzt x
        · rename_i hkn
          obtain ⟨w1, w2, w3⟩ := swG_spec hda htl h.rect
          have hsd : swR d (atG a d k) d = atG a d k := by unfold swR; rw [if_pos rfl]
          have hb : fM (swG a d (atG a d k)) d k ≠ 0 := by rw [w3, hsd]; exact hnzt
          obtain ⟨p1, p2, p3, p4⟩ := pivG_spec (k := k) hda htl h.rect hb
          have hsw : Red a.length n k (fM (swG a d (atG a d k))) pr := h.red.swap hda htl hnd hnt (fun j c _ _ => w3 j c) hk
          have hinv : (fM (swG a d (atG a d k)) d k)⁻¹ ≠ 0 := fun e => by
            have := Rat.mul_inv_cancel _ hb
            rw [e] at this
            have h01 : (0 : Rat) = 1 := by grind
            exact absurd h01 (by decide)
          have hkk : ∀ j, j < a.length → j ≠ d → fM (pivG a d k (atG a d k)) j k = 0 := fun j hj hjd => by
            rw [p4 j k hj hjd, Rat.mul_assoc, Rat.inv_mul_cancel _ hb]; grind
          have hred := hsw.elim hda hnd hb _ hinv (fun j => fM (swG a d (atG a d k)) j k * (fM (swG a d (atG a d k)) d k)⁻¹) (fun c _ => p3 c) (fun j c hj hjd _ => p4 j c hj hjd) hkk
          refine Right.congr (fun x => (Sol.elim (n := n) hda _ hinv _ (fun c _ => p3 c) (fun j c hj hjd _ => p4 j c hj hjd) x).trans (Sol.swap hda htl (fun j c _ _ => w3 j c) x)) ?_
          have := goG_right n m (k + 1) (d + 1) (pivG a d k (atG a d k)) _ (by omega) (by omega) ⟨p2, by rw [p1]; exact hred, fun i => ?_, fun c i hc => ?_, by omega, ?_⟩
          · rw [p1] at this; exact this
          · constructor
            · rintro ⟨c, hc⟩
              split at hc
              · cases hc; omega
              · have := (h.img i).1 ⟨c, hc⟩; omega
            · intro hi
              rcases Nat.lt_or_ge i d with g | g
              · obtain ⟨c, hc⟩ := (h.img i).2 g
                refine ⟨c, ?_⟩
                have : c ≠ k := fun e => by have := (h.red.lt c i hc).1; omega
                rw [if_neg this]; exact hc
              · exact ⟨k, by rw [if_pos rfl]; congr 1; omega⟩
          · split at hc
            · rename_i e
              cases hc
              rw [e, p3, Rat.inv_mul_cancel _ hb]
            · have hlt := h.red.lt c i hc
              have hid : i ≠ d := fun e => hnd c (e ▸ hc)
              have hit : i ≠ atG a d k := fun e => hnt c (e ▸ hc)
              rw [p4 i c hlt.2 hid, w3 i c, w3 d c]
              have hz : fM a (swR d (atG a d k) d) c = 0 := by
                rw [hsd]; exact h.red.row _ c htl hnt hlt.1
              have hi : swR d (atG a d k) i = i := by unfold swR; rw [if_neg hid, if_neg hit]
              rw [hz, hi, h.one c i hc]; grind
          · rcases h.way with ⟨g1, g2⟩ | ⟨g1, f, g2, g3⟩
            · refine .inl ⟨by omega, fun c hc => ?_⟩
              by_cases e : c = k
              · rw [if_pos e]; congr 1; omega
              · rw [if_neg e]; exact g2 c (by omega)
            · exact .inr ⟨by omega, f, by omega, by rw [if_neg (by omega)]; exact g3⟩
    · rename_i hda
      have hd : d = a.length := by have := h.le; omega
      exact h.fin (h.red.full hk (fun j hj => (h.img j).2 (by omega))) hk (fun j hj hdj => by omega)
/-- The program's elimination finds what is right. -/
theorem outG_right {n : Nat} {a : Mt} (h : Rect a (n + 1)) : Right a.length n (fM a) (outG n a) := by
  have := goG_right n (n + 1) 0 0 a (fun _ => none) (by omega) (by omega) ⟨h, Red.init _ _ _, fun i => ⟨fun ⟨c, hc⟩ => (by cases hc), fun h => (by omega)⟩, fun c i hc => (by cases hc), Nat.zero_le _, .inl ⟨rfl, fun c hc => by omega⟩⟩
  unfold outG
  unfold outO at this
  split <;> rename_i e <;> rw [e] at this <;> exact this
end Lift
/- The reference's elimination, as a plain function; it finds what is right. -/
namespace Lift

/-- Equations: coefficients, and the right side. -/
abbrev Eqs := List (List Rat × Rat)
def gE (l : Eqs) (j : Nat) : List Rat × Rat := l.getD j ([], 0)
def fE2 (l : Eqs) : Mx := fun j c => if c < (gE l j).1.length then (gE l j).1.getD c 0 else (gE l j).2
def RectE (l : Eqs) (n : Nat) : Prop := ∀ e, e ∈ l → e.1.length = n
theorem RectE.get {l : Eqs} {n j : Nat} (h : RectE l n) (hj : j < l.length) : (gE l j).1.length = n := by
  unfold gE
  rw [List.getD_eq_getElem?_getD, List.getElem?_eq_getElem hj]
  exact h _ (List.getElem_mem hj)
def rowR (l : Eqs) (done : List Int) (i : Nat) : Nat := fstN (fun k => !(done.contains (k : Int)) && nz ((gE l k).1.getD i 0)) l.length 0
def lessE (a b : List Rat × Rat) (k : Rat) : List Rat × Rat := (lessR a.1 b.1 k, a.2 - k * b.2)
/-- The first k equations are cleared in column i by equation r. -/
def clrR (l : Eqs) (r i : Nat) : Nat → Eqs
  | 0 => l
  | k + 1 => if k ≠ r then (clrR l r i k).set k (lessE (gE (clrR l r i k) k) (gE (clrR l r i k) r) ((gE (clrR l r i k) k).1.getD i 0 / (gE (clrR l r i k) r).1.getD i 0)) else clrR l r i k
def goR : Nat → Nat → Eqs → List Int → Eqs × List Int
  | 0, _, l, done => (l, done)
  | m + 1, i, l, done => if rowR l done i = l.length then goR m (i + 1) l (done ++ [-1]) else goR m (i + 1) (clrR l (rowR l done i) i l.length) (done ++ [(rowR l done i : Int)])
theorem gE_set {l : Eqs} {i j : Nat} {e : List Rat × Rat} (hi : i < l.length) : gE (l.set i e) j = if j = i then e else gE l j := by
  unfold gE
  simp only [List.getD_eq_getElem?_getD]
  by_cases h : j = i
  · subst h; rw [if_pos rfl, List.getElem?_set_self hi]; rfl
  · rw [if_neg h, List.getElem?_set_ne (Ne.symm h)]
theorem RectE.set {l : Eqs} {n i : Nat} {e : List Rat × Rat} (h : RectE l n) (he : e.1.length = n) : RectE (l.set i e) n := fun s hs => by
  rcases List.mem_or_eq_of_mem_set hs with g | g
  · exact h s g
  · rw [g]; exact he
/-- An equation's cell: a coefficient, or its right side. -/
def cE (e : List Rat × Rat) (c : Nat) : Rat := if c < e.1.length then e.1.getD c 0 else e.2
theorem lessE_spec {a b : List Rat × Rat} {k : Rat} (h : a.1.length = b.1.length) : (lessE a b k).1.length = a.1.length ∧ ∀ c, cE (lessE a b k) c = cE a c - k * cE b c := by
  have hl : (lessE a b k).1.length = a.1.length := by show (lessR a.1 b.1 k).length = _; unfold lessR; rw [List.length_zipWith, ← h]; omega
  refine ⟨hl, fun c => ?_⟩
  unfold cE
  rw [hl, ← h]
  split
  · exact getD_lessR h c
  · rfl
theorem clrR_spec {l : Eqs} {r i n : Nat} (hr : r < l.length) (hR : RectE l n) : ∀ {k : Nat}, k ≤ l.length → (clrR l r i k).length = l.length ∧ RectE (clrR l r i k) n ∧ gE (clrR l r i k) r = gE l r ∧
    (∀ j, j < l.length → j ≠ r → gE (clrR l r i k) j = if j < k then lessE (gE l j) (gE l r) ((gE l j).1.getD i 0 / (gE l r).1.getD i 0) else gE l j)
  | 0, _ => ⟨rfl, hR, rfl, fun j _ _ => by rw [if_neg (by omega)]; rfl⟩
  | k + 1, hk => by
    obtain ⟨h1, h2, h3, h4⟩ := clrR_spec (i := i) hr hR (k := k) (by omega)
    simp only [clrR]
    split
    · rename_i hc
      have hkl : k < (clrR l r i k).length := by omega
      have hself : gE (clrR l r i k) k = gE l k := by rw [h4 k (by omega) hc, if_neg (by omega)]
      rw [hself, h3]
      have e := (lessE_spec (a := gE l k) (b := gE l r) (k := (gE l k).1.getD i 0 / (gE l r).1.getD i 0) (by rw [hR.get (by omega), hR.get hr])).1
      refine ⟨by simpa using h1, h2.set (by rw [e]; exact hR.get (by omega)), ?_, fun j hj hjr => ?_⟩
      · rw [gE_set hkl, if_neg (Ne.symm hc)]; exact h3
      · rw [gE_set hkl]
        by_cases hjk : j = k
        · subst hjk; rw [if_pos rfl, if_pos (by omega)]
        · rw [if_neg hjk, h4 j hj hjr]
          by_cases g : j < k
          · rw [if_pos g, if_pos (by omega)]
          · rw [if_neg g, if_neg (by omega)]
    · rename_i hc
      have hc : k = r := by omega
      refine ⟨h1, h2, h3, fun j hj hjr => ?_⟩
      rw [h4 j hj hjr]
      by_cases g : j < k
      · rw [if_pos g, if_pos (by omega)]
      · rw [if_neg g, if_neg (by omega)]

def prR (done : List Int) (c : Nat) : Option Nat := match done[c]? with
  | some x => if x < 0 then none else some x.toNat
  | none => none
structure InvR (n i : Nat) (l : Eqs) (done : List Int) : Prop where
  rect : RectE l n
  len : done.length = i
  red : Red l.length n i (fE2 l) (prR done)
theorem fE2_eq (l : Eqs) (j c : Nat) : fE2 l j c = cE (gE l j) c := rfl
end Lift
/- Turns: the sums of angles, by the tangents of their halves. -/
namespace Lift

theorem Right.changed {m n : Nat} {M : Mx} {l l' : List Rat} (h : Right m n M (.val l)) {i : Nat} (hi : i < n) (hne : l'.getD i 0 ≠ l.getD i 0) : ¬ Sol m n M (fun c => l'.getD c 0) := fun hs => hne (h.2.2 _ hs i hi)

/-! ### Turns: none is half a turn -/
def addT : Option Rat → Option Rat → Option Rat
  | none, none => some 0
  | some a, none => if a = 0 then none else some (-1 / a)
  | none, some b => if b = 0 then none else some (-1 / b)
  | some a, some b => if 1 - a * b = 0 then none else some ((a + b) / (1 - a * b))
def negT : Option Rat → Option Rat
  | none => none
  | some a => some (-a)
def timesT (t : Option Rat) : Nat → Option Rat
  | 0 => some 0
  | n + 1 => addT (timesT t n) t
def timesZ (t : Option Rat) (n : Int) : Option Rat := if n < 0 then timesT (negT t) n.natAbs else timesT t n.natAbs
end Lift
/- A chain of meshes: its speeds. -/
namespace Lift

end Lift
/- How long the numbers of an elimination are. Plain Lean. -/
namespace Lift

/-- All of a row's numbers have one denominator; it and the numerators have at most X words. -/
def SzF (X : Nat) (r : Nat → Rat) : Prop := ∃ (D : Int) (N : Nat → Int), D ≠ 0 ∧ L D ≤ X ∧ ∀ c, L (N c) ≤ X ∧ r c = Rat.divInt (N c) D
theorem SzF.mono {X Y : Nat} {r : Nat → Rat} (h : SzF X r) (hY : X ≤ Y) : SzF Y r := by
  obtain ⟨D, N, h1, h2, h3⟩ := h
  exact ⟨D, N, h1, by omega, fun c => ⟨by have := (h3 c).1; omega, (h3 c).2⟩⟩
theorem SzF.congr {X : Nat} {r s : Nat → Rat} (h : SzF X r) (he : ∀ c, s c = r c) : SzF X s := by
  obtain ⟨D, N, h1, h2, h3⟩ := h
  exact ⟨D, N, h1, h2, fun c => ⟨(h3 c).1, by rw [he, (h3 c).2]⟩⟩
theorem SzF.lq {X : Nat} {r : Nat → Rat} (h : SzF X r) (c : Nat) : LQ (r c) ≤ X := by
  obtain ⟨D, N, h1, h2, h3⟩ := h
  rw [(h3 c).2]
  have := LQ_divInt (N c) D h1
  have := (h3 c).1
  omega
theorem SzF.one {X : Nat} {r : Nat → Rat} (h : SzF X r) : 1 ≤ X := by
  have := h.lq 0
  have := LQ_pos (r 0)
  omega
theorem L_sub' (a b : Int) : L (a - b) ≤ max (L a) (L b) + 1 := by
  rw [Int.sub_eq_add_neg]
  have := L_add a (-b)
  rw [L_neg] at this
  exact this
theorem divInt_eq (n d : Int) : Rat.divInt n d = (n : Rat) / (d : Rat) := Rat.divInt_eq_div n d
theorem cast_ne {d : Int} (h : d ≠ 0) : (d : Rat) ≠ 0 := fun e => h (by exact_mod_cast e)
/-- A row scaled so that its k-th number is 1. -/
theorem SzF.div {X : Nat} {r : Nat → Rat} (h : SzF X r) {k : Nat} (hk : r k ≠ 0) : SzF X (fun c => r c / r k) := by
  obtain ⟨D, N, h1, h2, h3⟩ := h
  have hN : N k ≠ 0 := fun e => hk (by rw [(h3 k).2, e, Rat.zero_divInt])
  refine ⟨N k, N, hN, (h3 k).1, fun c => ⟨(h3 c).1, ?_⟩⟩
  have hD := cast_ne h1
  have hN' := cast_ne hN
  show r c / r k = _
  rw [(h3 c).2, (h3 k).2, divInt_eq, divInt_eq, divInt_eq]
  grind
/-- A multiple of a row is subtracted from another one. -/
theorem SzF.less {X : Nat} {r s : Nat → Rat} (h : SzF X r) (hs : SzF X s) (k : Nat) : SzF (2 * X + 1) (fun c => r c - r k * s c) := by
  obtain ⟨D, N, h1, h2, h3⟩ := h
  obtain ⟨E, M, g1, g2, g3⟩ := hs
  refine ⟨D * E, fun c => N c * E - N k * M c, Int.mul_ne_zero h1 g1, by have := L_mul D E; omega, fun c => ⟨?_, ?_⟩⟩
  · show L (N c * E - N k * M c) ≤ 2 * X + 1
    have a1 := L_sub' (N c * E) (N k * M c)
    have a2 := L_mul (N c) E
    have a3 := L_mul (N k) (M c)
    have a4 := (h3 c).1
    have a5 := (h3 k).1
    have a6 := (g3 c).1
    omega
  · have hD := cast_ne h1
    have hE := cast_ne g1
    show r c - r k * s c = Rat.divInt (N c * E - N k * M c) (D * E)
    rw [(h3 c).2, (h3 k).2, (g3 c).2, divInt_eq, divInt_eq, divInt_eq, divInt_eq, Rat.intCast_mul, Rat.intCast_sub, Rat.intCast_mul, Rat.intCast_mul]
    grind
/-- .. where the other one's k-th number is divided by. -/
theorem SzF.lessQ {X : Nat} {r s : Nat → Rat} (h : SzF X r) (hs : SzF X s) (k : Nat) (hk : s k ≠ 0) : SzF (2 * X + 1) (fun c => r c - r k / s k * s c) := by
  obtain ⟨D, N, h1, h2, h3⟩ := h
  obtain ⟨E, M, g1, g2, g3⟩ := hs
  have hM : M k ≠ 0 := fun e => hk (by rw [(g3 k).2, e, Rat.zero_divInt])
  refine ⟨D * M k, fun c => N c * M k - N k * M c, Int.mul_ne_zero h1 hM, by have := L_mul D (M k); have := (g3 k).1; omega, fun c => ⟨?_, ?_⟩⟩
  · show L (N c * M k - N k * M c) ≤ 2 * X + 1
    have a1 := L_sub' (N c * M k) (N k * M c)
    have a2 := L_mul (N c) (M k)
    have a3 := L_mul (N k) (M c)
    have a4 := (h3 c).1
    have a5 := (h3 k).1
    have a6 := (g3 c).1
    have a7 := (g3 k).1
    omega
  · have hD := cast_ne h1
    have hE := cast_ne g1
    have hMk := cast_ne hM
    show r c - r k / s k * s c = Rat.divInt (N c * M k - N k * M c) (D * M k)
    rw [(h3 c).2, (h3 k).2, (g3 c).2, (g3 k).2, divInt_eq, divInt_eq, divInt_eq, divInt_eq, divInt_eq, Rat.intCast_mul, Rat.intCast_sub, Rat.intCast_mul, Rat.intCast_mul]
    grind

theorem div_own {x : Rat} (h : x ≠ 0) : x / x = 1 := by grind
def SzM (X : Nat) (M : Mx) : Prop := ∀ j, SzF X (M j)
theorem SzM.mono {X Y : Nat} {M : Mx} (h : SzM X M) (hY : X ≤ Y) : SzM Y M := fun j => (h j).mono hY
theorem SzM.lq {X : Nat} {M : Mx} (h : SzM X M) (j c : Nat) : LQ (M j c) ≤ X := (h j).lq c
def Xs : Nat → Nat
  | 0 => 10
  | d + 1 => 2 * Xs d + 1
theorem Xs_le : ∀ {d e : Nat}, d ≤ e → Xs d ≤ Xs e
  | d, e, h => by
    induction h with
    | refl => exact Nat.le_refl _
    | step _ ih => simp only [Xs]; omega
theorem Xs_16 : Xs 16 = 720895 := rfl
theorem fM_nil {a : Mt} {j : Nat} (h : a.length ≤ j) (c : Nat) : fM a j c = 0 := by
  unfold fM
  rw [List.getD_eq_getElem?_getD (l := a), List.getElem?_eq_none h]
  rfl
theorem SzF.zero {X : Nat} (hX : 1 ≤ X) : SzF X (fun _ => 0) := ⟨1, fun _ => 0, by decide, by rw [L_one]; exact hX, fun c => ⟨by rw [L_zero]; omega, by rw [Rat.zero_divInt]⟩⟩
theorem SzM.ofRows {X : Nat} {a : Mt} (hX : 1 ≤ X) (h : ∀ j, j < a.length → SzF X (fM a j)) : SzM X (fM a) := fun j => by
  rcases Nat.lt_or_ge j a.length with g | g
  · exact h j g
  · exact (SzF.zero hX).congr (fun c => fM_nil g c)
theorem swG_sz {a : Mt} {d t w X : Nat} (hd : d < a.length) (ht : t < a.length) (hR : Rect a w) (h : SzM X (fM a)) : SzM X (fM (swG a d t)) := fun j =>
  (h (swR d t j)).congr (fun c => (swG_spec hd ht hR).2.2 j c)
/-- The row that is divided. -/
theorem scale_f {a : Mt} {d k : Nat} (hd : d < a.length) (j c : Nat) : fM (a.set d (divR (a.getD d []) (fM a d k))) j c = if j = d then fM a d c / fM a d k else fM a j c := by
  rw [set_f hd]
  split
  · rw [getD_divR]; rfl
  · rfl
theorem scale_sz {a : Mt} {d k X : Nat} (hd : d < a.length) (h : SzM X (fM a)) (h0 : fM a d k ≠ 0) : SzM X (fM (a.set d (divR (a.getD d []) (fM a d k)))) := fun j => by
  by_cases hj : j = d
  · exact ((h d).div h0).congr (fun c => by rw [scale_f hd, if_pos hj])
  · exact (h j).congr (fun c => by rw [scale_f hd, if_neg hj])
theorem clrG_sz {a : Mt} {d k w X : Nat} (hd : d < a.length) (hR : Rect a w) (hk : fM a d k = 1) (h : SzM X (fM a)) {i : Nat} (hi : i ≤ a.length) : SzM (2 * X + 1) (fM (clrG a d k i)) := by
  have hX := (h 0).one
  obtain ⟨h1, h2, h3, h4⟩ := clrG_spec hd hR hk hi
  refine SzM.ofRows (by omega) (fun j hj => ?_)
  by_cases hjd : j = d
  · subst hjd
    exact ((h j).mono (by omega)).congr h3
  · rcases Nat.lt_or_ge j i with g | g
    · exact ((h j).less (h d) k).congr (fun c => by rw [h4 j c (by omega) hjd, if_pos g])
    · exact ((h j).mono (by omega)).congr (fun c => by rw [h4 j c (by omega) hjd, if_neg (by omega)])
theorem pivG_sz {a : Mt} {d k t w X : Nat} (hd : d < a.length) (ht : t < a.length) (hR : Rect a w) (h0 : fM (swG a d t) d k ≠ 0) (h : SzM X (fM a)) : SzM (2 * X + 1) (fM (pivG a d k t)) := by
  obtain ⟨h1, h2, h3⟩ := swG_spec hd ht hR
  have hdl : d < (swG a d t).length := by omega
  have hw : ((swG a d t).getD d []).length = w := h2.get hdl
  refine clrG_sz (w := w) (by simpa using hdl) (h2.set (by rw [divR, List.length_map]; exact hw)) ?_ (scale_sz hdl (swG_sz hd ht hR h) h0) (Nat.le_refl _)
  rw [scale_f hdl, if_pos rfl]
  exact div_own h0
theorem swG_nz {a : Mt} {d k w : Nat} (hd : d ≤ a.length) (hR : Rect a w) (ha : atG a d k ≠ a.length) : d < a.length ∧ d ≤ atG a d k ∧ atG a d k < a.length ∧ fM a (atG a d k) k ≠ 0 ∧ fM (swG a d (atG a d k)) d k ≠ 0 := by
  obtain ⟨h1, h2, h3, h4⟩ := fstN_spec (g := fun j => nz (fM a j k)) (m := a.length - d) (i := d)
  have e : fstN (fun j => nz (fM a j k)) (a.length - d) d = atG a d k := rfl
  rw [e] at h1 h2 h3 h4
  have hlt : atG a d k < a.length := by omega
  have hd' : d < a.length := by omega
  have hz : fM a (atG a d k) k ≠ 0 := by
    have := h4 (by omega)
    unfold nz at this
    exact of_decide_eq_true this
  refine ⟨hd', h1, hlt, hz, ?_⟩
  rw [(swG_spec hd' hlt hR).2.2, swR, if_pos rfl]
  exact hz
end Lift
/- Trains: their data; what is wrong with one. -/
namespace Lift
open Go Go.Proofs

structure Msh where
  a : Int
  b : Int
  ta : Int
  tb : Int
  inn : Bool
deriving Inhabited
structure Plt where
  s : Int
  r : Int
  c : Int
  ts : Int
  tr : Int
deriving Inhabited
structure Spd where
  sh : Int
  v : RD
deriving Inhabited
structure Trn where
  n : Int
  ms : List Msh
  ps : List Plt
  gs : List Spd
abbrev Msh.D (m : Msh) : D := .ag [dI m.a, dI m.b, dI m.ta, dI m.tb, dB m.inn]
abbrev Plt.D (p : Plt) : D := .ag [dI p.s, dI p.r, dI p.c, dI p.ts, dI p.tr]
abbrev Spd.D (s : Spd) : D := .ag [dI s.sh, dB s.v.g, Wd s.v.n, Wd s.v.d]
abbrev MshsD (l : List Msh) : D := .sl 5 (l.map Msh.D)
abbrev PltsD (l : List Plt) : D := .sl 5 (l.map Plt.D)
abbrev SpdsD (l : List Spd) : D := .sl 4 (l.map Spd.D)
abbrev Trn.D (x : Trn) : D := .ag [dI x.n, MshsD x.ms, PltsD x.ps, SpdsD x.gs]
def Trn.w (x : Trn) (k : Nat) : Prop := x.ms.length ≤ 1000000 ∧ x.ps.length ≤ 1000000 ∧ x.gs.length ≤ 1000000 ∧ ∀ i, (x.gs.getD i default).v.w k

def inS (n i : Int) : Bool := decide (0 ≤ i ∧ i < n)
def thB (a b : Int) : Bool := decide ((1 ≤ a ∧ a ≤ 10000) ∧ 1 ≤ b ∧ b ≤ 10000)
def mshE (n : Int) (m : Msh) : Nat := if (inS n m.a && inS n m.b) = false then 9 else if m.a = m.b then 6 else if thB m.ta m.tb = false then 3 else 0
def pltE (n : Int) (p : Plt) : Nat := if (inS n p.s && (inS n p.r && inS n p.c)) = false then 9 else if p.s = p.r ∨ p.s = p.c ∨ p.r = p.c then 6 else if thB p.ts p.tr = false then 3 else 0
def spdE (n : Int) (s : Spd) : Nat := if inS n s.sh = false then 9 else if s.v.okB = false then 3 else 0
def mshsE (n : Int) (l : List Msh) : Nat := fE (fun i => mshE n (l.getD i default)) l.length 0
def pltsE (n : Int) (l : List Plt) : Nat := fE (fun i => pltE n (l.getD i default)) l.length 0
def spdsE (n : Int) (l : List Spd) : Nat := fE (fun i => spdE n (l.getD i default)) l.length 0
/-- The number of the first error of a train; 0 if there is none. -/
def chkT (x : Trn) : Nat := if x.n < 1 ∨ 16 < x.n then 3 else if 32 < x.ms.length ∨ 32 < x.ps.length ∨ 32 < x.gs.length then 4 else
  if mshsE x.n x.ms ≠ 0 then mshsE x.n x.ms else if pltsE x.n x.ps ≠ 0 then pltsE x.n x.ps else spdsE x.n x.gs

theorem thB_T {a b : Int} (h : decide ((if b < a then b else a) ≥ 1) = true) : thB a b = decide ((if b > a then b else a) ≤ 10000) := by
  have h := of_decide_eq_true h
  unfold thB
  rw [decide_eq_decide]
  repeat' split at h
  all_goals (repeat' split) <;> omega
theorem thB_F {a b : Int} (h : decide ((if b < a then b else a) ≥ 1) = false) : thB a b = false := by
  have h := of_decide_eq_false h
  unfold thB
  rw [decide_eq_false_iff_not]
  repeat' split at h
  all_goals omega
theorem inS_not {n a : Int} : inS n a = false ↔ ¬ (0 ≤ a ∧ a < n) := by unfold inS; rw [decide_eq_false_iff_not]
theorem inS_yes {n a : Int} : inS n a = true ↔ (0 ≤ a ∧ a < n) := by unfold inS; rw [decide_eq_true_iff]
theorem in2_T {n a b : Int} (h : decide ((if b < a then b else a) < 0) = true) : (inS n a && inS n b) = false := by
  have h := of_decide_eq_true h
  rw [Bool.and_eq_false_iff, inS_not, inS_not]
  split at h <;> omega
theorem in2_F {n a b : Int} (h : decide ((if b < a then b else a) < 0) = false) : (inS n a && inS n b) = !decide ((if b > a then b else a) ≥ n) := by
  have h := of_decide_eq_false h
  rw [Bool.eq_iff_iff, Bool.and_eq_true, inS_yes, inS_yes, Bool.not_eq_true', decide_eq_false_iff_not]
  repeat' split at h
  all_goals (repeat' split) <;> omega
theorem in3_T {n a b c : Int} (h : decide ((if c < (if b < a then b else a) then c else if b < a then b else a) < 0) = true) : (inS n a && (inS n b && inS n c)) = false := by
  have h := of_decide_eq_true h
  rw [Bool.and_eq_false_iff, Bool.and_eq_false_iff, inS_not, inS_not, inS_not]
  repeat' split at h
  all_goals omega
theorem in3_F {n a b c : Int} (h : decide ((if c < (if b < a then b else a) then c else if b < a then b else a) < 0) = false) : (inS n a && (inS n b && inS n c)) = !decide ((if c > (if b > a then b else a) then c else if b > a then b else a) ≥ n) := by
  have h := of_decide_eq_false h
  rw [Bool.eq_iff_iff, Bool.and_eq_true, Bool.and_eq_true, inS_yes, inS_yes, inS_yes, Bool.not_eq_true', decide_eq_false_iff_not]
  repeat' split at h
  all_goals (repeat' split) <;> omega

theorem gear_toothed_ok (a b : Int) : Pure Tryz.prog 38 [dI a, dI b] (dB (thB a b)) := by
  refine Pure.intro (n := 15) tok Tryz.func38 rfl rfl rfl (Nat.le_of_ble_eq_true rfl) (by kernel_rfl) (fun B F0 w0 => ?_)
  refine AW.seq ?_
  refine AW.region ?_   -- "gear.go:20"
  refine AOps.run tok 1 _ _ _ _ rfl ?_
  refine AOps.nil ?_
  refine AW.seq ?_
  refine AW.region ?_   -- "gear.go:20"   -- GUARDS
  refine AOps.run tok 5 _ _ _ _ rfl ?_
  refine AOps.split (t := 9) rfl (fun h => ?_) (fun h => ?_)
  · rw [thB_T h]
    refine AOps.run tok 6 _ _ _ _ rfl ?_
    refine AOps.nil ?_
    exact AW.ret rfl
  · rw [thB_F h]
    refine AOps.run tok 6 _ _ _ _ rfl ?_
    refine AOps.nil ?_
    exact AW.ret rfl

theorem chkT_1 {x : Trn} (h : x.n < 1 ∨ 16 < x.n) : chkT x = 3 := by unfold chkT; rw [if_pos h]
theorem chkT_2 {x : Trn} (h1 : ¬ (x.n < 1 ∨ 16 < x.n)) (h : 32 < x.ms.length ∨ 32 < x.ps.length ∨ 32 < x.gs.length) : chkT x = 4 := by unfold chkT; rw [if_neg h1, if_pos h]
theorem chkT_m {x : Trn} (h1 : ¬ (x.n < 1 ∨ 16 < x.n)) (h2 : ¬ (32 < x.ms.length ∨ 32 < x.ps.length ∨ 32 < x.gs.length)) {i : Nat} (hi : i < x.ms.length) (hE : mshsE x.n x.ms = fE (fun i => mshE x.n (x.ms.getD i default)) (x.ms.length - i) i) {k : Nat}
    (hk : mshE x.n (x.ms.getD i default) = k + 1) : chkT x = k + 1 := by
  rw [fE_hit hi (by rw [hk]; omega), hk] at hE
  unfold chkT
  rw [if_neg h1, if_neg h2, if_pos (by rw [hE]; omega), hE]
theorem chkT_p {x : Trn} (h1 : ¬ (x.n < 1 ∨ 16 < x.n)) (h2 : ¬ (32 < x.ms.length ∨ 32 < x.ps.length ∨ 32 < x.gs.length)) (h3 : mshsE x.n x.ms = 0) {i : Nat} (hi : i < x.ps.length) (hE : pltsE x.n x.ps = fE (fun i => pltE x.n (x.ps.getD i default)) (x.ps.length - i) i) {k : Nat}
    (hk : pltE x.n (x.ps.getD i default) = k + 1) : chkT x = k + 1 := by
  rw [fE_hit hi (by rw [hk]; omega), hk] at hE
  unfold chkT
  rw [if_neg h1, if_neg h2, if_neg (by rw [h3]; simp), if_pos (by rw [hE]; omega), hE]
theorem chkT_g {x : Trn} (h1 : ¬ (x.n < 1 ∨ 16 < x.n)) (h2 : ¬ (32 < x.ms.length ∨ 32 < x.ps.length ∨ 32 < x.gs.length)) (h3 : mshsE x.n x.ms = 0) (h4 : pltsE x.n x.ps = 0) : chkT x = spdsE x.n x.gs := by
  unfold chkT
  rw [if_neg h1, if_neg h2, if_neg (by rw [h3]; simp), if_neg (by rw [h4]; simp)]

theorem gear_check_ok (x : Trn) {k : Nat} (hw : x.w k) (hk : k ≤ 50000000) : Pure Tryz.prog 24 [x.D] (erV (chkT x)) := by
  refine Pure.intro (n := 153) tok Tryz.func24 rfl rfl rfl (Nat.le_of_ble_eq_true rfl) (by kernel_rfl) (fun B F0 w0 => ?_)
  obtain ⟨w1, w2, w3, w4⟩ := hw
  refine AW.seq ?_
  refine AW.region ?_   -- "gear.go:23"
  refine AOps.run tok 2 _ _ _ _ rfl ?_
  refine AOps.nil ?_
  refine AW.seq ?_
  refine AW.seq ?_
  refine AW.region ?_   -- "gear.go:24"   -- GUARDS
  refine AOps.run tok 4 _ _ _ _ rfl ?_
  refine AOps.split (t := 12) rfl (fun h => ?_) (fun h0 => ?_)
  · have e := chkT_1 (x := x) (.inl (of_decide_eq_true h))
    rw [e]
    refine AOps.run tok 4 _ _ _ _ rfl ?_
    refine AOps.nil ?_
    refine AW.condT rfl ?_
    refine AW.seq ?_
    refine AW.region ?_
    refine AOps.run tok 2 _ _ _ _ rfl ?_
    refine AOps.nil ?_
    exact AW.ret rfl
  refine AOps.run tok 4 _ _ _ _ rfl ?_
  refine AOps.nil ?_
  refine AW.cond rfl (fun h => ?_) (fun h => ?_)
  · skip
    refine AW.seq ?_
    have e := chkT_1 (x := x) (.inr (by have := of_decide_eq_true h; omega))
    rw [e]
    refine AW.region ?_   -- "gear.go:25"
    refine AOps.run tok 2 _ _ _ _ rfl ?_
    refine AOps.nil ?_
    exact AW.ret rfl
  · have h1 : ¬ (x.n < 1 ∨ 16 < x.n) := by have := of_decide_eq_false h0; have := of_decide_eq_false h; omega
    refine AW.skip ?_
    refine AW.seq ?_
    refine AW.seq ?_
    refine AW.region ?_   -- "gear.go:27"   -- GUARDS
    refine AOps.run tok 5 _ _ _ _ rfl ?_
    rw [List.length_map]
    refine AOps.split (t := 22) rfl (fun h => ?_) (fun g0 => ?_)
    · have e := chkT_2 h1 (.inl (by have := of_decide_eq_true h; omega))
      rw [e]
      refine AOps.run tok 6 _ _ _ _ rfl ?_
      refine AOps.split (t := 28) rfl (fun h => ?_) (fun g0 => by cases g0)
      refine AOps.run tok 5 _ _ _ _ rfl ?_
      refine AOps.nil ?_
      refine AW.condT rfl ?_
      refine AW.seq ?_
      refine AW.region ?_
      refine AOps.run tok 2 _ _ _ _ rfl ?_
      refine AOps.nil ?_
      exact AW.ret rfl
    refine AOps.run tok 6 _ _ _ _ rfl ?_
    rw [List.length_map]
    refine AOps.split (t := 28) rfl (fun h => ?_) (fun g1 => ?_)
    · have e := chkT_2 h1 (.inr (.inl (by have := of_decide_eq_true h; omega)))
      rw [e]
      refine AOps.run tok 5 _ _ _ _ rfl ?_
      refine AOps.nil ?_
      refine AW.condT rfl ?_
      refine AW.seq ?_
      refine AW.region ?_
      refine AOps.run tok 2 _ _ _ _ rfl ?_
      refine AOps.nil ?_
      exact AW.ret rfl
    refine AOps.run tok 5 _ _ _ _ rfl ?_
    rw [List.length_map]
    refine AOps.nil ?_
    refine AW.cond rfl (fun h => ?_) (fun h => ?_)
    · skip
      have e := chkT_2 h1 (.inr (.inr (by have := of_decide_eq_true h; omega)))
      rw [e]
      refine AW.seq ?_
      refine AW.region ?_   -- "gear.go:28"
      refine AOps.run tok 2 _ _ _ _ rfl ?_
      refine AOps.nil ?_
      exact AW.ret rfl
    · have h2 : ¬ (32 < x.ms.length ∨ 32 < x.ps.length ∨ 32 < x.gs.length) := by have := of_decide_eq_false g0; have := of_decide_eq_false g1; have := of_decide_eq_false h; omega
      refine AW.skip ?_
      refine AW.seq ?_
      refine AW.seq ?_
      refine AW.region ?_   -- "gear.go:30"
      refine AOps.run tok 4 _ _ _ _ rfl ?_
      rw [List.length_map]
      refine AOps.nil ?_
      refine AW.block ?_   -- block 0
      refine AW.loopS [1, 36, 37, 38] (fun i : Nat => [(1, .bx [dI x.n, MshsD x.ms, PltsD x.ps, SpdsD x.gs]), (36, .d (MshsD x.ms)), (37, .d (dI x.ms.length)), (38, .d (dI i))])
        (fun i => i ≤ x.ms.length ∧ mshsE x.n x.ms = fE (fun i => mshE x.n (x.ms.getD i default)) (x.ms.length - i) i) (fun i => x.ms.length - i) 0 rfl ⟨Nat.zero_le _, rfl⟩ (fun i ⟨hi, hE⟩ => ?_)
      · skip
        refine AW.seq ?_
        refine AW.region ?_   -- "gear.go:30"
        refine AOps.run tok 1 _ _ _ _ rfl ?_
        refine AOps.nil ?_
        refine AW.seq ?_
        refine AW.cond rfl (fun h => ?_) (fun h => ?_)
        · have hin : i < x.ms.length := by have := of_decide_eq_true h; omega
          have hM := fun h0 => hE.trans (fE_miss (f := fun i => mshE x.n (x.ms.getD i default)) hin h0)
          have hH := fun k hk => chkT_m (k := k) h1 h2 hin hE hk
          have hid : (x.ms.map Msh.D)[i]? = some (x.ms.getD i default).D := getM Msh.D hin
          generalize x.ms.getD i default = m at hid hM hH
          refine AW.skip ?_
          refine AW.seq ?_
          refine AW.block ?_   -- block 1
          refine AW.seq ?_
          refine AW.region ?_   -- "gear.go:30"
          refine AOps.idx tok m.D rfl rfl rfl rfl (Int.natCast_nonneg i) hid ?_
          refine AOps.run tok 3 _ _ _ _ rfl ?_
          refine AOps.nil ?_
          refine AW.seq ?_
          refine AW.seq ?_
          refine AW.region ?_   -- "gear.go:31"   -- GUARDS
          refine AOps.run tok 7 _ _ _ _ rfl ?_
          refine AOps.split (t := 48) rfl (fun h => ?_) (fun g => ?_)
          · rw [hH 8 (by unfold mshE; rw [in2_T h]; rfl)]
            refine AOps.run tok 9 _ _ _ _ rfl ?_
            refine AOps.nil ?_
            refine AW.condT rfl ?_
            refine AW.seq ?_
            refine AW.region ?_
            refine AOps.run tok 2 _ _ _ _ rfl ?_
            refine AOps.nil ?_
            exact AW.ret rfl
          refine AOps.run tok 9 _ _ _ _ rfl ?_
          refine AOps.nil ?_
          refine AW.cond rfl (fun h => ?_) (fun h => ?_)
          · skip
            rw [hH 8 (by unfold mshE; rw [in2_F g, h]; rfl)]
            refine AW.seq ?_
            refine AW.region ?_   -- "gear.go:32"
            refine AOps.run tok 2 _ _ _ _ rfl ?_
            refine AOps.nil ?_
            exact AW.ret rfl
          · have i1 : (inS x.n m.a && inS x.n m.b) = true := by rw [in2_F g, h]; rfl
            refine AW.skip ?_
            refine AW.seq ?_
            refine AW.seq ?_
            refine AW.region ?_   -- "gear.go:34"
            refine AOps.run tok 5 _ _ _ _ rfl ?_
            refine AOps.nil ?_
            refine AW.cond rfl (fun h => ?_) (fun h => ?_)
            rw [hH 5 (by unfold mshE; rw [i1, if_neg (by simp), if_pos (of_decide_eq_true h)])]
            · skip
              refine AW.seq ?_
              refine AW.region ?_   -- "gear.go:35"
              refine AOps.run tok 2 _ _ _ _ rfl ?_
              refine AOps.nil ?_
              exact AW.ret rfl
            · have i2 : ¬ m.a = m.b := of_decide_eq_false h
              refine AW.skip ?_
              refine AW.seq ?_
              refine AW.region ?_   -- "gear.go:37"
              refine AOps.run tok 4 _ _ _ _ rfl ?_
              refine AOps.call tok rfl rfl rfl rfl (gear_toothed_ok m.ta m.tb) ?_
              refine AOps.run tok 1 _ _ _ _ rfl ?_
              refine AOps.nil ?_
              refine AW.cond rfl (fun h => ?_) (fun h => ?_)
              · skip
                rw [hH 2 (by unfold mshE; rw [i1, if_neg (by simp), if_neg i2, if_pos (by simpa using h)])]
                refine AW.seq ?_
                refine AW.region ?_   -- "gear.go:38"
                refine AOps.run tok 2 _ _ _ _ rfl ?_
                refine AOps.nil ?_
                exact AW.ret rfl
              · have i3 : thB m.ta m.tb = true := by simpa using h
                refine AW.skip ?_
                refine AW.region ?_   -- "gear.go:30"
                refine AOps.run tok 2 _ _ _ _ rfl ?_
                rw [wI64 (x := (i : Int) + 1) (by omega) (by omega)]
                refine AOps.nil ?_
                exact ⟨i + 1, rfl, ⟨hin, hM (by unfold mshE; rw [i1, if_neg (by simp), if_neg i2, if_neg (by rw [i3]; simp)])⟩, by omega⟩
        have hin : ¬ i < x.ms.length := by have := of_decide_eq_false h; omega
        have h3 : mshsE x.n x.ms = 0 := hE.trans (fE_end hin)
        refine AW.exit ?_
          -- exit 0
        -- END OF BODY; what follows the loop (from its exit):
        refine AW.seq ?_
        refine AW.seq ?_
        refine AW.region ?_   -- "gear.go:41"
        refine AOps.run tok 4 _ _ _ _ rfl ?_
        rw [List.length_map]
        refine AOps.nil ?_
        refine AW.block ?_   -- block 2
        refine AW.loopS [1, 74, 75, 76] (fun i : Nat => [(1, .bx [dI x.n, MshsD x.ms, PltsD x.ps, SpdsD x.gs]), (74, .d (PltsD x.ps)), (75, .d (dI x.ps.length)), (76, .d (dI i))])
          (fun i => i ≤ x.ps.length ∧ pltsE x.n x.ps = fE (fun i => pltE x.n (x.ps.getD i default)) (x.ps.length - i) i) (fun i => x.ps.length - i) 0 rfl ⟨Nat.zero_le _, rfl⟩ (fun i ⟨hi, hE⟩ => ?_)
        · skip
          refine AW.seq ?_
          refine AW.region ?_   -- "gear.go:41"
          refine AOps.run tok 1 _ _ _ _ rfl ?_
          refine AOps.nil ?_
          refine AW.seq ?_
          refine AW.cond rfl (fun h => ?_) (fun h => ?_)
          · have hin : i < x.ps.length := by have := of_decide_eq_true h; omega
            have hM := fun h0 => hE.trans (fE_miss (f := fun i => pltE x.n (x.ps.getD i default)) hin h0)
            have hH := fun k hk => chkT_p (k := k) h1 h2 h3 hin hE hk
            have hid : (x.ps.map Plt.D)[i]? = some (x.ps.getD i default).D := getM Plt.D hin
            generalize x.ps.getD i default = m at hid hM hH
            refine AW.skip ?_
            refine AW.seq ?_
            refine AW.block ?_   -- block 3
            refine AW.seq ?_
            refine AW.region ?_   -- "gear.go:41"
            refine AOps.idx tok m.D rfl rfl rfl rfl (Int.natCast_nonneg i) hid ?_
            refine AOps.run tok 3 _ _ _ _ rfl ?_
            refine AOps.nil ?_
            refine AW.seq ?_
            refine AW.seq ?_
            refine AW.region ?_   -- "gear.go:42"   -- GUARDS
            refine AOps.run tok 9 _ _ _ _ rfl ?_
            refine AOps.split (t := 88) rfl (fun h => ?_) (fun g => ?_)
            · rw [hH 8 (by unfold pltE; rw [in3_T h]; rfl)]
              refine AOps.run tok 11 _ _ _ _ rfl ?_
              refine AOps.nil ?_
              refine AW.condT rfl ?_
              refine AW.seq ?_
              refine AW.region ?_
              refine AOps.run tok 2 _ _ _ _ rfl ?_
              refine AOps.nil ?_
              exact AW.ret rfl
            refine AOps.run tok 11 _ _ _ _ rfl ?_
            refine AOps.nil ?_
            refine AW.cond rfl (fun h => ?_) (fun h => ?_)
            · skip
              rw [hH 8 (by unfold pltE; rw [in3_F g, h]; rfl)]
              refine AW.seq ?_
              refine AW.region ?_   -- "gear.go:43"
              refine AOps.run tok 2 _ _ _ _ rfl ?_
              refine AOps.nil ?_
              exact AW.ret rfl
            · have i1 : (inS x.n m.s && (inS x.n m.r && inS x.n m.c)) = true := by rw [in3_F g, h]; rfl
              refine AW.skip ?_
              refine AW.seq ?_
              refine AW.seq ?_
              refine AW.region ?_   -- "gear.go:45"   -- GUARDS
              refine AOps.run tok 6 _ _ _ _ rfl ?_
              refine AOps.split (t := 106) rfl (fun h => ?_) (fun g1 => ?_)
              · rw [hH 5 (by unfold pltE; rw [i1, if_neg (by simp), if_pos (.inl (of_decide_eq_true h))])]
                refine AOps.run tok 7 _ _ _ _ rfl ?_
                refine AOps.split (t := 113) rfl (fun h => ?_) (fun g0 => by cases g0)
                refine AOps.run tok 6 _ _ _ _ rfl ?_
                refine AOps.nil ?_
                refine AW.condT rfl ?_
                refine AW.seq ?_
                refine AW.region ?_
                refine AOps.run tok 2 _ _ _ _ rfl ?_
                refine AOps.nil ?_
                exact AW.ret rfl
              refine AOps.run tok 7 _ _ _ _ rfl ?_
              refine AOps.split (t := 113) rfl (fun h => ?_) (fun g2 => ?_)
              · rw [hH 5 (by unfold pltE; rw [i1, if_neg (by simp), if_pos (.inr (.inl (of_decide_eq_true h)))])]
                refine AOps.run tok 6 _ _ _ _ rfl ?_
                refine AOps.nil ?_
                refine AW.condT rfl ?_
                refine AW.seq ?_
                refine AW.region ?_
                refine AOps.run tok 2 _ _ _ _ rfl ?_
                refine AOps.nil ?_
                exact AW.ret rfl
              refine AOps.run tok 6 _ _ _ _ rfl ?_
              refine AOps.nil ?_
              refine AW.cond rfl (fun h => ?_) (fun h => ?_)
              · skip
                rw [hH 5 (by unfold pltE; rw [i1, if_neg (by simp), if_pos (.inr (.inr (of_decide_eq_true h)))])]
                refine AW.seq ?_
                refine AW.region ?_   -- "gear.go:46"
                refine AOps.run tok 2 _ _ _ _ rfl ?_
                refine AOps.nil ?_
                exact AW.ret rfl
              · have i2 : ¬ (m.s = m.r ∨ m.s = m.c ∨ m.r = m.c) := by have := of_decide_eq_false g1; have := of_decide_eq_false g2; have := of_decide_eq_false h; omega
                refine AW.skip ?_
                refine AW.seq ?_
                refine AW.region ?_   -- "gear.go:48"
                refine AOps.run tok 4 _ _ _ _ rfl ?_
                refine AOps.call tok rfl rfl rfl rfl (gear_toothed_ok m.ts m.tr) ?_
                refine AOps.run tok 1 _ _ _ _ rfl ?_
                refine AOps.nil ?_
                refine AW.cond rfl (fun h => ?_) (fun h => ?_)
                · skip
                  rw [hH 2 (by unfold pltE; rw [i1, if_neg (by simp), if_neg i2, if_pos (by simpa using h)])]
                  refine AW.seq ?_
                  refine AW.region ?_   -- "gear.go:49"
                  refine AOps.run tok 2 _ _ _ _ rfl ?_
                  refine AOps.nil ?_
                  exact AW.ret rfl
                · have i3 : thB m.ts m.tr = true := by simpa using h
                  refine AW.skip ?_
                  refine AW.region ?_   -- "gear.go:41"
                  refine AOps.run tok 2 _ _ _ _ rfl ?_
                  rw [wI64 (x := (i : Int) + 1) (by omega) (by omega)]
                  refine AOps.nil ?_
                  exact ⟨i + 1, rfl, ⟨hin, hM (by unfold pltE; rw [i1, if_neg (by simp), if_neg i2, if_neg (by rw [i3]; simp)])⟩, by omega⟩
          have hin : ¬ i < x.ps.length := by have := of_decide_eq_false h; omega
          have h4 : pltsE x.n x.ps = 0 := hE.trans (fE_end hin)
          rw [chkT_g h1 h2 h3 h4]
          refine AW.exit ?_
            -- exit 2
          -- END OF BODY; what follows the loop (from its exit):
          refine AW.seq ?_
          refine AW.seq ?_
          refine AW.region ?_   -- "gear.go:52"
          refine AOps.run tok 4 _ _ _ _ rfl ?_
          rw [List.length_map]
          refine AOps.nil ?_
          refine AW.block ?_   -- block 4
          refine AW.loopS [1, 130, 131, 132] (fun i : Nat => [(1, .bx [dI x.n, MshsD x.ms, PltsD x.ps, SpdsD x.gs]), (130, .d (SpdsD x.gs)), (131, .d (dI x.gs.length)), (132, .d (dI i))])
            (fun i => i ≤ x.gs.length ∧ spdsE x.n x.gs = fE (fun i => spdE x.n (x.gs.getD i default)) (x.gs.length - i) i) (fun i => x.gs.length - i) 0 rfl ⟨Nat.zero_le _, rfl⟩ (fun i ⟨hi, hE⟩ => ?_)
          · skip
            refine AW.seq ?_
            refine AW.region ?_   -- "gear.go:52"
            refine AOps.run tok 1 _ _ _ _ rfl ?_
            refine AOps.nil ?_
            refine AW.seq ?_
            refine AW.cond rfl (fun h => ?_) (fun h => ?_)
            · have hin : i < x.gs.length := by have := of_decide_eq_true h; omega
              have hM := fun h0 => hE.trans (fE_miss (f := fun i => spdE x.n (x.gs.getD i default)) hin h0)
              have hH := fun h0 => hE.trans (fE_hit (f := fun i => spdE x.n (x.gs.getD i default)) hin h0)
              have hid : (x.gs.map Spd.D)[i]? = some (x.gs.getD i default).D := getM Spd.D hin
              have hwi := w4 i
              generalize x.gs.getD i default = m at hid hM hH hwi
              refine AW.skip ?_
              refine AW.seq ?_
              refine AW.block ?_   -- block 5
              refine AW.seq ?_
              refine AW.region ?_   -- "gear.go:52"
              refine AOps.idx tok m.D rfl rfl rfl rfl (Int.natCast_nonneg i) hid ?_
              refine AOps.run tok 3 _ _ _ _ rfl ?_
              refine AOps.nil ?_
              refine AW.seq ?_
              refine AW.seq ?_
              refine AW.region ?_   -- "gear.go:53"   -- GUARDS
              refine AOps.run tok 4 _ _ _ _ rfl ?_
              refine AOps.split (t := 139) rfl (fun h => ?_) (fun g => ?_)
              · have e : spdE x.n m = 9 := by unfold spdE; rw [if_pos (inS_not.2 (by have := of_decide_eq_true h; omega))]
                rw [hH (by rw [e]; decide), e]
                refine AOps.run tok 6 _ _ _ _ rfl ?_
                refine AOps.nil ?_
                refine AW.condT rfl ?_
                refine AW.seq ?_
                refine AW.region ?_
                refine AOps.run tok 2 _ _ _ _ rfl ?_
                refine AOps.nil ?_
                exact AW.ret rfl
              refine AOps.run tok 6 _ _ _ _ rfl ?_
              refine AOps.nil ?_
              refine AW.cond rfl (fun h => ?_) (fun h => ?_)
              · skip
                have e : spdE x.n m = 9 := by unfold spdE; rw [if_pos (inS_not.2 (by have := of_decide_eq_true h; omega))]
                rw [hH (by rw [e]; decide), e]
                refine AW.seq ?_
                refine AW.region ?_   -- "gear.go:54"
                refine AOps.run tok 2 _ _ _ _ rfl ?_
                refine AOps.nil ?_
                exact AW.ret rfl
              · have i1 : inS x.n m.sh = true := inS_yes.2 (by have := of_decide_eq_false h; have := of_decide_eq_false g; omega)
                refine AW.skip ?_
                refine AW.seq ?_
                refine AW.region ?_   -- "gear.go:56"
                refine AOps.run tok 2 _ _ _ _ rfl ?_
                refine AOps.call tok rfl rfl rfl rfl (fraction_Valid_ok m.v hwi hk) ?_
                refine AOps.run tok 1 _ _ _ _ rfl ?_
                refine AOps.nil ?_
                refine AW.cond rfl (fun h => ?_) (fun h => ?_)
                · skip
                  have e : spdE x.n m = 3 := by unfold spdE; rw [i1, if_neg (by simp), if_pos (by simpa using h)]
                  rw [hH (by rw [e]; decide), e]
                  refine AW.seq ?_
                  refine AW.region ?_   -- "gear.go:57"
                  refine AOps.run tok 2 _ _ _ _ rfl ?_
                  refine AOps.nil ?_
                  exact AW.ret rfl
                · have i2 : m.v.okB = true := by simpa using h
                  refine AW.skip ?_
                  refine AW.region ?_   -- "gear.go:52"
                  refine AOps.run tok 2 _ _ _ _ rfl ?_
                  rw [wI64 (x := (i : Int) + 1) (by omega) (by omega)]
                  refine AOps.nil ?_
                  exact ⟨i + 1, rfl, ⟨hin, hM (by unfold spdE; rw [i1, if_neg (by simp), i2, if_neg (by simp)])⟩, by omega⟩
            have hin : ¬ i < x.gs.length := by have := of_decide_eq_false h; omega
            rw [hE, fE_end hin]
            refine AW.exit ?_
              -- exit 4
            -- END OF BODY; what follows the loop (from its exit):
            refine AW.seq ?_
            refine AW.region ?_   -- "gear.go:60"
            refine AOps.run tok 1 _ _ _ _ rfl ?_
            refine AOps.nil ?_
            exact AW.ret rfl
end Lift
/- Rows of the call's own that no slot is the home of: they are known by their value. -/
namespace Lift
open Go
open Go.RowKit (Below)

abbrev LR := Value × AV
section
variable {P : Program} {T : Ty} {B : Nat} {F0 : Nat → Prop} {w0 : Bas} {n : Nat} {σ σ' : St} {R R' : List LR} {a : Act} {w : World}

def LooseAt (P : Program) (w : World) (O : Nat → Option Nat) (F : Nat → Prop) (t : Nat) (r : LR) : Prop :=
  r.2 = .junk ∨ r.2.row.isSome = true ∧ r.2.tag = false ∧ AVR P (fun _ => False) w O F (fun _ => none) (fun _ => none) t r.2 r.1

structure RelZ (P : Program) (B : Nat) (F0 : Nat → Prop) (w0 : Bas) (n : Nat) (R : List LR) (σ : St) (a : Act) (w : World) : Prop where
  below : BelY B w0 w0.w w
  base : B ≤ w.heap.size
  f0 : F0ok B F0 w0
  defers : a.defers = []
  size : a.tmps.size = n
  own : ∃ O : Nat → Option Nat, (∀ b t, O b = some t → OwnR B w0 w b) ∧ (∀ t av, σ.get t = some av → ∃ v, a.tmps[t]? = some v ∧ AVR P w0.X w O (FW B F0 w) σ.get (fun h => a.tmps[h]?) t av v) ∧
    ∀ i r, R[i]? = some r → LooseAt P w O (FW B F0 w) (n + i) r

theorem RelZ.rel (h : RelZ P B F0 w0 n R σ a w) : Rel P B F0 w0 n σ a w := by
  obtain ⟨O, h1, h2, _⟩ := h.own
  exact ⟨h.below, h.base, h.f0, h.defers, h.size, O, h1, h2⟩
theorem Rel.z (h : Rel P B F0 w0 n σ a w) : RelZ P B F0 w0 n [] σ a w := by
  obtain ⟨O, h1, h2⟩ := h.own
  exact ⟨h.below, h.base, h.f0, h.defers, h.size, O, h1, h2, fun i r hr => by simp at hr⟩

theorem AVR.reX {X X' : Nat → Prop} {O : Nat → Option Nat} {F : Nat → Prop} {hm : Nat → Option AV} {tm : Nat → Option Value} {t : Nat} {av : AV} {v : Value} (h : AVR P X w O F hm tm t av v)
    (hx : av.tag = true → ∀ b, O b = some t → X' b) : AVR P X' w O F hm tm t av v := by
  cases av with
  | wn q e l lo m =>
    rcases h with h | ⟨b, o, cap, cs, hq, h1, h0, h2, h3⟩
    · exact .inl h
    · exact .inr ⟨b, o, cap, cs, fun e => hx e b h2, h1, h0, h2, h3⟩
  | _ => exact h
/-- A row's owner gets another number. -/
theorem AVR.owner {X X' : Nat → Prop} {O O' : Nat → Option Nat} {F F' : Nat → Prop} {hm hm' : Nat → Option AV} {tm tm' : Nat → Option Value} {s t : Nat} {av : AV} {v : Value} (h : AVR P X w O F hm tm s av v) (hrow : av.row.isSome = true) (htag : av.tag = false)
    (hO : ∀ c, O c = some s → O' c = some t) (hF : ∀ c, Free O F c → Free O' F' c) : AVR P X' w O' F' hm' tm' t av v := by
  cases av <;> simp [AV.row] at hrow
  · rcases h with h | ⟨b, cap, cs, h1, h2, h3, h4, h5, h6, h7, h8⟩
    · exact .inl h
    · exact .inr ⟨b, cap, cs, h1, hO b h2, h3, h4, h5, h6, h7, fun i d hd => ⟨(h8 i d hd).1, let ⟨u, hu, hr⟩ := (h8 i d hd).2; ⟨u, hu, hr.mono hF (fun _ _ => rfl)⟩⟩⟩
  · simp only [AV.tag] at htag
    subst htag
    rcases h with h | ⟨b, o, cap, cs, _, h1, h0, h2, h3, h4, h5, h6, h7, h8⟩
    · exact .inl h
    · exact .inr ⟨b, o, cap, cs, (fun e => by cases e), h1, h0, hO b h2, h3, h4, h5, h6, h7, fun i d hd => ⟨(h8 i d hd).1, let ⟨u, hu, hr⟩ := (h8 i d hd).2; ⟨u, hu, hr.mono hF (fun _ _ => rfl)⟩⟩⟩

/-- No slot holds a row that the call was handed. -/
def St.noTag : St → Bool
  | [] => true
  | (_, a) :: r => match a.tag with
    | true => false
    | false => St.noTag r
theorem St.noTag_get : ∀ {σ : St}, σ.noTag = true → ∀ (t : Nat) (av : AV), σ.get t = some av → av.tag = false
  | [], _, t, av, h => by cases h
  | (k, a) :: r, hn, t, av, h => by
    rw [St.get_cons] at h
    simp only [St.noTag] at hn
    split at hn
    · cases hn
    · rename_i ha
      split at h
      · cases h; exact ha
      · exact St.noTag_get hn t av h

/-- A row of the base that no slot is the home of: it stays as it was. -/
def Seen (P : Program) (B : Nat) (F0 : Nat → Prop) (w0 : Bas) (V : Value) (e : Nat) (xs : List D) : Prop :=
  ∃ b cap cs, V = .slice (some ⟨b, 0, none⟩) xs.length cap ∧ b < B ∧ ¬ w0.X b ∧ w0.w.heap[b]? = some (.cells cs e (0, 0)) ∧ (∀ x, x ∈ xs → x.flat.length = P.cellsOf e) ∧
    ∀ (i : Nat) (d : D), (flatAll xs)[i]? = some d → d.isCell = true ∧ ∃ u, cs[i]? = some u ∧ ∀ (w : World) (O : Nat → Option Nat), BelY B w0 w0.w w → (∀ b t, O b = some t → OwnR B w0 w b) → Rd w (Free O (FW B F0 w)) d u

/-- The loose rows out of sight: a new base; and back. -/
theorem RelZ.subS (hR : RelZ P B F0 w0 n R σ a w) : ∃ B1 F1 w1, Rel P B1 F1 w1 n σ a w ∧ (∀ (i : Nat) (V : Value) (e : Nat) (xs : List D), R[i]? = some (V, .ow e xs) → xs ≠ [] → Seen P B1 F1 w1 V e xs) ∧ ∀ σ' a' w', σ'.noTag = true → Rel P B1 F1 w1 n σ' a' w' → RelZ P B F0 w0 n R σ' a' w' := by
  obtain ⟨O, hOr, hO, hL⟩ := hR.own
  let X1 : Nat → Prop := fun b => ∃ t, t < n ∧ O b = some t
  let F1 : Nat → Prop := fun b => FW B F0 w b ∧ ∀ t, O b = some t → t < n
  let O1 : Nat → Option Nat := fun b => match O b with
    | some t => if t < n then some t else none
    | none => none
  have hO1 : ∀ b t, O1 b = some t ↔ O b = some t ∧ t < n := fun b t => by
    simp only [O1]
    split
    · rename_i t' ht'
      rw [ht']
      split
      · rename_i hlt
        constructor
        · intro h; cases h; exact ⟨rfl, hlt⟩
        · intro h; exact h.1
      · rename_i hlt
        constructor
        · intro h; cases h
        · intro h; obtain ⟨h, h'⟩ := h; cases h; exact absurd h' hlt
    · rename_i ht'; rw [ht']; simp
  have hO1z : ∀ b, O b = none → O1 b = none := fun b hb => by simp only [O1, hb]
  have hlt : ∀ t av, σ.get t = some av → t < n := fun t av h => by
    obtain ⟨v, hv, _⟩ := hO t av h
    rw [← hR.size]
    exact (Array.getElem?_eq_some_iff.1 hv).1
  have hFlt : ∀ b, FW B F0 w b → b < w.heap.size := fun b hb => (FW.step hR.f0 hR.base (Nat.le_refl _) b hb).1
  have hFree : ∀ c, Free O (FW B F0 w) c → Free O1 (FW w.heap.size F1 w) c := fun c hc => ⟨hO1z c hc.1, .inl ⟨hc.2, fun t ht => by rw [hc.1] at ht; cases ht⟩⟩
  refine ⟨w.heap.size, F1, ⟨w, X1⟩, ⟨.refl _ _ _, Nat.le_refl _, ⟨fun b hb => hFlt b hb.1, fun b hb => ?_⟩, hR.defers, hR.size, O1, fun b t hb => ?_, fun t av hav => ?_⟩, fun i V e xs hi hne => ?_, ?_⟩
  · obtain ⟨t, h1, h2⟩ := hb
    exact ⟨(hOr b t h2).fw hR.f0, fun t' h' => by rw [h2] at h'; cases h'; exact h1⟩
  · have := (hO1 b t).1 hb
    exact ⟨.inr ⟨t, this.2, this.1⟩, (hOr b t this.1).2⟩
  · obtain ⟨v, hv, hr⟩ := hO t av hav
    refine ⟨v, hv, AVR.reX (hr.move (fun c hc => ⟨hFree c hc, rfl⟩) (fun _ c hc => ⟨(hO1 c t).2 ⟨hc, hlt t av hav⟩, rfl⟩) (fun k _ x _ hk => ⟨hk, rfl⟩)) (fun _ b hb => ?_)⟩
    have := (hO1 b t).1 hb
    exact ⟨t, this.2, this.1⟩
  · rcases hL i _ hi with h | ⟨_, _, h⟩
    · cases h
    · rcases h with ⟨base, _, h4⟩ | ⟨b, cap, cs, h3, h4, h5, h6, h7, h8, h9, h10⟩
      · exact absurd h4 hne
      refine ⟨b, cap, cs, h3, (hOr b _ h4).2, fun ⟨t, g1, g2⟩ => by rw [h4] at g2; cases g2; omega, h5, h9, fun j d hd => ?_⟩
      obtain ⟨f1, u, f2, f3⟩ := h10 j d hd
      refine ⟨f1, u, f2, fun w' O' hb' hO' => f3.mono (fun c hc => ?_) (fun c hc => hb'.block c (hFlt c hc.2) (fun ⟨t, _, g⟩ => by rw [hc.1] at g; cases g))⟩
      refine ⟨?_, .inl ⟨hc.2, fun t ht => by rw [hc.1] at ht; cases ht⟩⟩
      cases hx : O' c with
      | none => rfl
      | some t =>
        exfalso
        rcases (hO' c t hx).1 with g | ⟨s, _, g⟩
        · have := hFlt c hc.2
          have g : w.heap.size ≤ c := g
          omega
        · rw [hc.1] at g; cases g
  · intro σ' a' w' htag h2
    have htag := St.noTag_get htag
    obtain ⟨O2, hOr2, hO2⟩ := h2.own
    have hsz : w.heap.size ≤ w'.heap.size := h2.below.size
    have hX1 : ∀ b, X1 b → B ≤ b ∨ w0.X b := fun b ⟨t, _, h⟩ => (hOr b t h).1
    have k1 : ∀ b t t', O2 b = some t → O b = some t' → t' < n := fun b t t' h h' => by
      rcases (hOr2 b t h).1 with g | ⟨t2, g1, g2⟩
      · have g : w.heap.size ≤ b := g
        have h1 : b < w.heap.size := (hOr b t' h').2
        omega
      · rw [h'] at g2; cases g2; exact g1
    let O3 : Nat → Option Nat := fun b => match O b with
      | some t => if t < n then O2 b else some t
      | none => O2 b
    have k2 : ∀ b t, O2 b = some t → O3 b = some t := fun b t h => by
      simp only [O3]
      split
      · rename_i t' ht'
        rw [if_pos (k1 b t t' h ht')]; exact h
      · exact h
    have k3 : ∀ c, Free O2 (FW w.heap.size F1 w') c → Free O3 (FW B F0 w') c := fun c hc => by
      rcases hc.2 with g | ⟨g1, g2⟩
      · refine ⟨?_, ?_⟩
        · simp only [O3]
          split
          · rename_i t' ht'
            rw [if_pos (g.2 t' ht')]; exact hc.1
          · exact hc.1
        · rcases g.1 with g | ⟨g1, g2⟩
          · exact .inl g
          · exact .inr ⟨g1, Nat.lt_of_lt_of_le g2 hsz⟩
      · refine ⟨?_, .inr ⟨Nat.le_trans hR.base g1, g2⟩⟩
        simp only [O3]
        split
        · rename_i t' ht'
          have : c < w.heap.size := (hOr c t' ht').2
          omega
        · exact hc.1
    refine ⟨hR.below.back hR.base hX1 h2.below, Nat.le_trans hR.base hsz, hR.f0, h2.defers, h2.size, O3, fun b t hb => ?_, fun t av hav => ?_, fun i r hr => ?_⟩
    · simp only [O3] at hb
      have e2 : O2 b = some t → OwnR B w0 w' b := fun h => by
        refine ⟨?_, (hOr2 b t h).2⟩
        rcases (hOr2 b t h).1 with g | g
        · exact .inl (Nat.le_trans hR.base g)
        · exact hX1 b g
      split at hb
      · rename_i t' ht'
        split at hb
        · exact e2 hb
        · exact ⟨(hOr b t' ht').1, Nat.lt_of_lt_of_le (hOr b t' ht').2 hsz⟩
      · exact e2 hb
    · obtain ⟨v, hv, hr⟩ := hO2 t av hav
      refine ⟨v, hv, AVR.reX (hr.move (fun c hc => ⟨k3 c hc, rfl⟩) (fun _ c hc => ⟨k2 c t hc, rfl⟩) (fun k _ x _ hk => ⟨hk, rfl⟩)) (fun e => ?_)⟩
      rw [htag t av hav] at e; cases e
    · rcases hL i r hr with h | ⟨h1, h2', h3⟩
      · exact .inl h
      refine .inr ⟨h1, h2', h3.move (fun c hc => ?_) (fun _ c hc => ?_) (fun k _ x _ hk => by cases hk)⟩
      · have hc' := hFlt c hc.2
        have hnx : ¬ X1 c := fun ⟨t, _, h⟩ => by rw [hc.1] at h; cases h
        refine ⟨⟨?_, ?_⟩, h2.below.block c hc' hnx⟩
        · simp only [O3, hc.1]
          cases h : O2 c with
          | none => rfl
          | some t =>
            exfalso
            rcases (hOr2 c t h).1 with g | g
            · have g : w.heap.size ≤ c := g
              omega
            · exact hnx g
        · rcases hc.2 with g | ⟨g1, g2⟩
          · exact .inl g
          · exact .inr ⟨g1, Nat.lt_of_lt_of_le g2 hsz⟩
      · have hnx : ¬ X1 c := fun ⟨t, h, h'⟩ => by rw [hc] at h'; cases h'; omega
        refine ⟨?_, h2.below.block c (hOr c _ hc).2 hnx⟩
        simp only [O3, hc]
        rw [if_neg (by omega)]

theorem RelZ.sub (hR : RelZ P B F0 w0 n R σ a w) : ∃ B1 F1 w1, Rel P B1 F1 w1 n σ a w ∧ ∀ σ' a' w', σ'.noTag = true → Rel P B1 F1 w1 n σ' a' w' → RelZ P B F0 w0 n R σ' a' w' := by
  obtain ⟨B1, F1, w1, h1, _, h2⟩ := hR.subS
  exact ⟨B1, F1, w1, h1, h2⟩
theorem set_other {R : List LR} {i j : Nat} {x r : LR} (hj : j ≠ i) (h : (R.set i x)[j]? = some r) : R[j]? = some r := by
  rw [List.getElem?_set_ne (Ne.symm hj)] at h; exact h

/-- Slot s takes the place of slot s' as an owner's number; what the other slots hold. -/
theorem AVR.swap {X : Nat → Prop} {O : Nat → Option Nat} {F : Nat → Prop} {u t : Nat} {tm : Nat → Option Value} {x : AV} {v : Value} {av : AV} {k : Nat} (hk : k ≠ t) (hku : k ≠ u) (h : AVR P X w O F σ.get tm k x v) (ha : av.home = true → True) :
    AVR P X w (swO O u t) F (St.get ((t, av) :: σ.kill t)) tm k (x.kill t) v := by
  rcases AV.kill_or t x with ⟨h1, h2⟩ | h1
  · rw [h1]
    refine h.move (fun c hc => ⟨⟨swO_none.2 hc.1, hc.2⟩, rfl⟩) (fun _ c hc => ⟨swO_other hc hku hk, rfl⟩) (fun j hj y hy hg => ?_)
    have hjt : j ≠ t := fun e => h2 (e ▸ hj)
    rw [St.get_cons, if_neg (Ne.symm hjt), St.get_kill] at hg
    cases hgj : σ.get j with
    | none => simp [hgj] at hg
    | some y' =>
      simp only [hgj, Option.map_some, Option.some.injEq] at hg
      subst hg
      rw [kill_home' hy]
      exact ⟨rfl, rfl⟩
  · rw [h1]; trivial

/-- A slot that holds a loose row's value becomes its home. -/
theorem RelZ.adopt {t i : Nat} {V : Value} {av : AV} (hR : RelZ P B F0 w0 n R σ a w) (hi : R[i]? = some (V, av)) (hrow : av.row.isSome = true) (ht : σ.get t = some (.d (.v V))) :
    RelZ P B F0 w0 n (R.set i (V, .junk)) ((t, av) :: σ.kill t) a w := by
  obtain ⟨O, hOr, hO, hL⟩ := hR.own
  obtain ⟨v, hv, hr⟩ := hO t _ ht
  have hvV := (Rd.v_eq hr).1
  subst hvV
  have htn : t < n := by rw [← hR.size]; exact (Array.getElem?_eq_some_iff.1 hv).1
  refine ⟨hR.below, hR.base, hR.f0, hR.defers, hR.size, swO O (n + i) t, swO_lt hOr, fun k x hk => ?_, fun j r hr' => ?_⟩
  · rw [St.get_cons] at hk
    split at hk
    · rename_i e
      subst e
      cases hk
      rcases hL i _ hi with h | ⟨h1, h2, h3⟩
      · simp only at h; subst h; cases hrow
      exact ⟨v, hv, h3.owner h1 h2 (fun c hc => by simp [swO, hc]) (fun c hc => ⟨swO_none.2 hc.1, hc.2⟩)⟩
    · rename_i hkt
      rw [St.get_kill] at hk
      cases hg : σ.get k with
      | none => simp [hg] at hk
      | some y =>
        simp only [hg, Option.map_some, Option.some.injEq] at hk
        subst hk
        obtain ⟨z, hz, hzr⟩ := hO k y hg
        have hkn : k < n := by rw [← hR.size]; exact (Array.getElem?_eq_some_iff.1 hz).1
        exact ⟨z, hz, hzr.swap (Ne.symm hkt) (by omega) (fun _ => trivial)⟩
  · by_cases hj : j = i
    · subst hj
      have hlt : j < R.length := (List.getElem?_eq_some_iff.1 hi).1
      rw [List.getElem?_set_self hlt] at hr'
      cases hr'
      exact .inl rfl
    · have := set_other hj hr'
      rcases hL j r this with h | ⟨h1, h2, h3⟩
      · exact .inl h
      · exact .inr ⟨h1, h2, h3.move (fun c hc => ⟨⟨swO_none.2 hc.1, hc.2⟩, rfl⟩) (fun _ c hc => ⟨swO_other hc (by omega) (by omega), rfl⟩) (fun k _ x _ hk => by cases hk)⟩

/-- A home's row is let loose; the slot keeps its value. -/
theorem RelZ.loosen {t i : Nat} {V : Value} {av : AV} (hR : RelZ P B F0 w0 n R σ a w) (ht : σ.get t = some av) (hrow : av.row.isSome = true) (htag : av.tag = false) (hV : a.tmps[t]? = some V)
    (hi : R'[i]? = some (V, av)) (hj : ∀ j r, j ≠ i → R'[j]? = some r → R[j]? = some r) : RelZ P B F0 w0 n R' ((t, .d (.v V)) :: σ.kill t) a w := by
  obtain ⟨O, hOr, hO, hL⟩ := hR.own
  obtain ⟨v, hv, hr⟩ := hO t _ ht
  rw [hV] at hv
  cases hv
  have htn : t < n := by rw [← hR.size]; exact (Array.getElem?_eq_some_iff.1 hV).1
  refine ⟨hR.below, hR.base, hR.f0, hR.defers, hR.size, swO O (n + i) t, swO_lt hOr, fun k x hk => ?_, fun j r hr' => ?_⟩
  · rw [St.get_cons] at hk
    split at hk
    · rename_i e
      subst e
      cases hk
      refine ⟨V, hV, .v ?_⟩
      cases av <;> simp [AV.row] at hrow
      · rcases hr with ⟨_, rfl, _⟩ | ⟨_, _, _, rfl, _⟩ <;> rfl
      · rcases hr with ⟨_, _, rfl, _⟩ | ⟨_, _, _, _, _, rfl, _⟩ <;> rfl
    · rename_i hkt
      rw [St.get_kill] at hk
      cases hg : σ.get k with
      | none => simp [hg] at hk
      | some y =>
        simp only [hg, Option.map_some, Option.some.injEq] at hk
        subst hk
        obtain ⟨z, hz, hzr⟩ := hO k y hg
        have hkn : k < n := by rw [← hR.size]; exact (Array.getElem?_eq_some_iff.1 hz).1
        exact ⟨z, hz, hzr.swap (Ne.symm hkt) (by omega) (fun _ => trivial)⟩
  · by_cases hji : j = i
    · subst hji
      rw [hi] at hr'
      cases hr'
      refine .inr ⟨hrow, htag, hr.owner hrow htag (fun c hc => ?_) (fun c hc => ⟨swO_none.2 hc.1, hc.2⟩)⟩
      simp only [swO]
      rw [if_neg (by rw [hc]; intro e; cases e; omega), if_pos hc]
    · rcases hL j r (hj j r hji hr') with h | ⟨h1, h2, h3⟩
      · exact .inl h
      · exact .inr ⟨h1, h2, h3.move (fun c hc => ⟨⟨swO_none.2 hc.1, hc.2⟩, rfl⟩) (fun _ c hc => ⟨swO_other hc (by omega) (by omega), rfl⟩) (fun k _ x _ hk => by cases hk)⟩

theorem RelZ.keep (ks : List Nat) (hR : RelZ P B F0 w0 n R σ a w) : RelZ P B F0 w0 n R (σ.keep ks) a w := by
  obtain ⟨O, hOr, hO, hL⟩ := hR.own
  refine ⟨hR.below, hR.base, hR.f0, hR.defers, hR.size, O, hOr, fun t av h => ?_, hL⟩
  rw [St.get_keep] at h
  split at h <;> try (cases h; done)
  obtain ⟨v, hv, hr⟩ := hO t av h
  refine ⟨v, hv, hr.move (fun c hc => ⟨hc, rfl⟩) (fun _ c hc => ⟨hc, rfl⟩) (fun k hk x hx hg => ?_)⟩
  rw [St.get_keep] at hg
  split at hg
  · exact ⟨hg, rfl⟩
  · cases hg
/-- Loose rows are forgotten: they are free to read from here on, or unknown. -/
theorem RelZ.drop (hR : RelZ P B F0 w0 n R σ a w) (h : ∀ (i : Nat) (r : LR), R'[i]? = some r → R[i]? = some r ∨ r.2 = .junk) : RelZ P B F0 w0 n R' σ a w := by
  obtain ⟨O, hOr, hO, hL⟩ := hR.own
  refine ⟨hR.below, hR.base, hR.f0, hR.defers, hR.size, O, hOr, hO, fun i r hr => ?_⟩
  rcases h i r hr with g | g
  · exact hL i r g
  · exact .inl g
end
end Lift
/- Operations, regions and code over states with loose rows. -/
namespace Lift
open Go
open Go.RowKit (Below)

section
variable {P : Program} {T : Ty} {B : Nat} {F0 : Nat → Prop} {w0 : Bas} {n : Nat} {σ σ' : St} {R R' : List LR} {all : Array Oper} {l : List Oper} {o : Oper}

/-! ### A slot that no operation names as its own keeps its value -/
theorem upon_keep {o : Oper} {a : Act} {next next' : Act → World → Prop} {Q Q' : Exit → Act → World → Prop} (hp : ∀ c a w, Q (.panic c) a w → Q' (.panic c) a w) (ho : LetsOut Q → LetsOut Q')
    (hn : ∀ v d w, next ({ a with defers := d }.put o.dst v) w → next' ({ a with defers := d }.put o.dst v) w) {r : Result Next} (h : o.upon P a next Q r) : o.upon P a next' Q' r := by
  cases r with
  | ok x w' =>
    cases x <;> simp only [Oper.upon] at h ⊢
    · exact hn _ a.defers _ h
    · exact hn _ a.defers _ h
    · exact Calls.mono h (fun e w'' he => by cases e <;> first | exact hn _ a.defers _ he | exact hp _ _ _ he | exact ho he)
    · exact hn _ _ _ h
    · exact Rows.mono h (fun v w'' he => hn _ a.defers _ he)
  | halt x w' => cases x <;> simp only [Oper.upon] at h ⊢ <;> exact hp _ _ _ h
def keepQ (t : Nat) (x : Option Value) (Q : Exit → Act → World → Prop) : Exit → Act → World → Prop := fun e a w => Q e a w ∧ (e = .normal → a.tmps[t]? = x)
theorem wpList_keep {t : Nat} {x : Option Value} {Q : Exit → Act → World → Prop} : ∀ (l : List Oper) (a : Act) (w : World), (∀ o, o ∈ l → o.dst ≠ some t) → a.tmps[t]? = x → wpList P all Q l a w → wpList P all (keepQ t x Q) l a w
  | [], a, w, _, hx, h => ⟨h, fun _ => hx⟩
  | o :: l, a, w, hd, hx, h => by
    have hput : ∀ v d, ({ a with defers := d }.put o.dst v).tmps[t]? = x := fun v d => by
      cases hdst : o.dst with
      | none => exact hx
      | some k =>
        have : k ≠ t := fun e => hd o (by simp) (by rw [hdst, e])
        rw [put_get (Ne.symm this)]; exact hx
    unfold wpList at h ⊢
    split at h
    · rw [if_pos (by assumption)]
      rcases h with h | ⟨h1, a1, w1, h2⟩
      · exact .inl (upon_keep (fun c a w h => ⟨h, fun e => by cases e⟩) (fun ⟨a, w, h⟩ => ⟨a, w, h, fun e => by cases e⟩) (fun v d w h => wpList_keep l _ _ (fun o ho => hd o (by simp [ho])) (hput v d) h) h)
      · exact .inr ⟨h1, a1, w1, h2, fun e => by cases e⟩
    · rw [if_neg (by assumption)]
      exact wpList_keep l _ _ (fun o ho => hd o (by simp [ho])) (hput undef a.defers) h

theorem wpList_mono {Q Q' : Exit → Act → World → Prop} (hq : ∀ e a w, Q e a w → Q' e a w) : ∀ {l : List Oper} {a : Act} {w : World}, wpList P all Q l a w → wpList P all Q' l a w
  | [], a, w, h => hq _ _ _ h
  | o :: l, a, w, h => by
    unfold wpList at h ⊢
    split at h
    · rw [if_pos (by assumption)]
      rcases h with h | ⟨h1, a1, w1, h2⟩
      · exact .inl (upon_keep (fun c a w h => hq _ _ _ h) (fun ⟨a, w, h⟩ => ⟨a, w, hq _ _ _ h⟩) (fun v d w h => wpList_mono hq h) h)
      · exact .inr ⟨h1, a1, w1, hq _ _ _ h2⟩
    · rw [if_neg (by assumption)]
      exact wpList_mono hq h

abbrev Pins := List (Nat × Value)
def PinsOk (p : Pins) (a : Act) : Prop := ∀ e, e ∈ p → a.tmps[e.1]? = some e.2
def dstNe (t : Nat) : List Oper → Bool
  | [] => true
  | o :: r => match o.dst with
    | some d => match Nat.beq d t with
      | true => false
      | false => dstNe t r
    | none => dstNe t r
theorem dstNe_ok {t : Nat} : ∀ {l : List Oper}, dstNe t l = true → ∀ o, o ∈ l → o.dst ≠ some t
  | [], _, o, ho => by cases ho
  | x :: r, h, o, ho => by
    simp only [dstNe] at h
    rcases List.mem_cons.1 ho with rfl | ho
    · split at h
      · rename_i d hd
        split at h
        · cases h
        · rename_i hb
          rw [hd]
          intro e
          cases e
          exact Nat.ne_of_beq_eq_false hb rfl
      · rename_i hd; rw [hd]; intro e; cases e
    · split at h
      · split at h
        · cases h
        · exact dstNe_ok h o ho
      · exact dstNe_ok h o ho
def pinsB (p : Pins) (l : List Oper) : Bool := match p with
  | [] => true
  | (t, _) :: r => match dstNe t l with
    | true => pinsB r l
    | false => false
theorem pinsB_ok : ∀ {p : Pins} {l : List Oper}, pinsB p l = true → ∀ e, e ∈ p → ∀ o, o ∈ l → o.dst ≠ some e.1
  | [], l, _, e, he => by cases he
  | (t, V) :: r, l, h, e, he => by
    simp only [pinsB] at h
    split at h
    · rename_i h1
      rcases List.mem_cons.1 he with rfl | he
      · exact dstNe_ok h1
      · exact pinsB_ok h e he
    · cases h
theorem wpList_pins {Q : Exit → Act → World → Prop} {a : Act} {w : World} : ∀ {p : Pins}, PinsOk p a → (∀ e, e ∈ p → ∀ o, o ∈ l → o.dst ≠ some e.1) → wpList P all Q l a w → wpList P all (fun e a w => Q e a w ∧ (e = .normal → PinsOk p a)) l a w
  | [], _, _, h => wpList_mono (fun e a w h => ⟨h, fun _ e he => by cases he⟩) h
  | (t, V) :: r, hp, hd, h => by
    have h1 := wpList_pins (p := r) (fun e he => hp e (by simp [he])) (fun e he => hd e (by simp [he])) h
    have h2 := wpList_keep l a w (hd (t, V) (by simp)) (hp (t, V) (by simp)) h1
    refine wpList_mono (fun e a w ⟨⟨h1, h2⟩, h3⟩ => ⟨h1, fun he e' he' => ?_⟩) h2
    rcases List.mem_cons.1 he' with rfl | he'
    · exact h3 he
    · exact h2 he e' he'

/-! ### Operations -/
def AZOps (P : Program) (B : Nat) (F0 : Nat → Prop) (w0 : Bas) (n : Nat) (all : Array Oper) (l : List Oper) (K : List LR → St → Prop) (p : Pins) (R : List LR) (σ : St) : Prop :=
  ∀ (a : Act) (w : World), RelZ P B F0 w0 n R σ a w → PinsOk p a → ∀ Q : Exit → Act → World → Prop, (∀ a w R' σ', K R' σ' → RelZ P B F0 w0 n R' σ' a w → Q .normal a w) → wpList P all Q l a w

variable {K : List LR → St → Prop} {p : Pins}
theorem AZOps.nil (h : K R σ) : AZOps P B F0 w0 n all [] K p R σ := fun a w hR _ Q hQ => hQ a w R σ h hR
/-- The next k operations by the logic, over whatever base. -/
theorem AZOps.cut (k : Nat) (hp : pinsB p (l.take k) = true) (h : ∀ B1 F1 w1, AOps P B1 F1 w1 n all (l.take k) (fun σ' => σ'.noTag = true ∧ AZOps P B F0 w0 n all (l.drop k) K p R σ') σ) : AZOps P B F0 w0 n all l K p R σ := by
  intro a w hR hpin Q hQ
  obtain ⟨B1, F1, w1, hR1, hback⟩ := hR.sub
  rw [← List.take_append_drop k l]
  refine wpList_append (l.drop k) (l.take k) a w ?_
  have h1 := h B1 F1 w1 a w hR1 (fun e a' w' => e = .normal ∧ ∃ σ', σ'.noTag = true ∧ AZOps P B F0 w0 n all (l.drop k) K p R σ' ∧ RelZ P B F0 w0 n R σ' a' w') (fun a' w' σ' ⟨h1, h2⟩ hR' => ⟨rfl, σ', h1, h2, hback σ' a' w' h1 hR'⟩)
  refine wpList_mono (fun e a' w' ⟨⟨he, σ', _, h2, h3⟩, h4⟩ => ?_) (wpList_pins hpin (pinsB_ok hp) h1)
  subst he
  exact h2 a' w' h3 (h4 rfl) Q hQ
/-- A slot that holds a loose row's value becomes the row's home. -/
theorem AZOps.adopt (t i : Nat) {V : Value} {av : AV} (hi : R[i]? = some (V, av)) (ht : σ.get t = some (.d (.v V))) (hrow : av.row.isSome = true) (h : AZOps P B F0 w0 n all l K ((t, V) :: p) (R.set i (V, .junk)) ((t, av) :: σ.kill t)) : AZOps P B F0 w0 n all l K p R σ := by
  intro a w hR hpin Q hQ
  refine h a w (hR.adopt hi hrow ht) (fun e he => ?_) Q hQ
  rcases List.mem_cons.1 he with rfl | he
  · obtain ⟨O, _, hO, _⟩ := hR.own
    obtain ⟨v, hv, hr⟩ := hO t _ ht
    rw [hv, (Rd.v_eq hr).1]
  · exact hpin e he
/-- The row is let loose again. -/
theorem AZOps.back (t i : Nat) {V V' : Value} {av av' : AV} (ht : σ.get t = some av) (hrow : av.row.isSome = true) (htag : av.tag = false) (hp : (t, V) ∈ p) (hi : R[i]? = some (V', av')) (h : AZOps P B F0 w0 n all l K p (R.set i (V, av)) ((t, .d (.v V)) :: σ.kill t)) : AZOps P B F0 w0 n all l K p R σ := by
  intro a w hR hpin Q hQ
  exact h a w (hR.loosen ht hrow htag (hpin _ hp) (List.getElem?_set_self (List.getElem?_eq_some_iff.1 hi).1) (fun j r hj hr => set_other hj hr)) hpin Q hQ
/-- A row of the call's own is let loose: it gets a name. -/
theorem AZOps.loosen (t : Nat) {av : AV} (ht : σ.get t = some av) (hrow : av.row.isSome = true) (htag : av.tag = false) (h : ∀ V : Value, AZOps P B F0 w0 n all l K p (R ++ [(V, av)]) ((t, .d (.v V)) :: σ.kill t)) : AZOps P B F0 w0 n all l K p R σ := by
  intro a w hR hpin Q hQ
  obtain ⟨O, _, hO, _⟩ := hR.own
  obtain ⟨V, hV, _⟩ := hO t _ ht
  refine h V a w (hR.loosen (i := R.length) ht hrow htag hV (by simp) (fun j r hj hr => ?_)) hpin Q hQ
  rcases Nat.lt_or_ge j R.length with hlt | hge
  · rw [List.getElem?_append_left hlt] at hr; exact hr
  · rw [List.getElem?_append_right hge] at hr
    have : j - R.length ≠ 0 := by omega
    cases hj' : j - R.length with
    | zero => omega
    | succ m => rw [hj'] at hr; simp at hr
theorem AZOps.keep (ks : List Nat) (h : AZOps P B F0 w0 n all l K p R (σ.keep ks)) : AZOps P B F0 w0 n all l K p R σ := fun a w hR => h a w (hR.keep ks)
theorem AZOps.conv (h : σ = σ') (hk : AZOps P B F0 w0 n all l K p R σ') : AZOps P B F0 w0 n all l K p R σ := h ▸ hk
theorem AZOps.convR (h : R = R') (hk : AZOps P B F0 w0 n all l K p R' σ) : AZOps P B F0 w0 n all l K p R σ := h ▸ hk

/-! ### Code -/
def AZ (P : Program) (B : Nat) (F0 : Nat → Prop) (w0 : Bas) (n : Nat) (c : Code) (Q : Exit → List LR → St → Prop) (R : List LR) (σ : St) : Prop :=
  ∀ (a : Act) (w : World), RelZ P B F0 w0 n R σ a w → c.wp P (fun e a' w' => ∃ R' σ', Q e R' σ' ∧ RelZ P B F0 w0 n R' σ' a' w') a w

variable {Q : Exit → List LR → St → Prop} {x y : Code}
def thenZ (K : List LR → St → Prop) (Q : Exit → List LR → St → Prop) : Exit → List LR → St → Prop
  | .normal, R, σ => K R σ
  | .exit i, R, σ => Q (.exit i) R σ
  | .goto i, R, σ => Q (.goto i) R σ
  | .ret, R, σ => Q .ret R σ
  | .panic c, R, σ => Q (.panic c) R σ
  | .outgrown, R, σ => Q .outgrown R σ
def blockZ (id : Nat) (Q : Exit → List LR → St → Prop) : Exit → List LR → St → Prop
  | .normal, R, σ => Q .normal R σ
  | .exit i, R, σ => match Nat.beq i id with
    | true => Q .normal R σ
    | false => Q (.exit i) R σ
  | .goto i, R, σ => Q (.goto i) R σ
  | .ret, R, σ => Q .ret R σ
  | .panic c, R, σ => Q (.panic c) R σ
  | .outgrown, R, σ => Q .outgrown R σ
theorem AZ.skip (h : Q .normal R σ) : AZ P B F0 w0 n .skip Q R σ := fun a w hR => wp_skip ⟨R, σ, h, hR⟩
theorem AZ.exit {id : Nat} (h : Q (.exit id) R σ) : AZ P B F0 w0 n (.exit id) Q R σ := fun a w hR => wp_exit ⟨R, σ, h, hR⟩
theorem AZ.ret (h : Q .ret R σ) : AZ P B F0 w0 n .ret Q R σ := fun a w hR => wp_ret ⟨R, σ, h, hR⟩
theorem AZ.seq (h : AZ P B F0 w0 n x (thenZ (AZ P B F0 w0 n y Q) Q) R σ) : AZ P B F0 w0 n (.seq x y) Q R σ := by
  intro a w hR
  refine wp_seq (wp_mono (h a w hR) fun e a' w' ⟨R', σ', hq, hR'⟩ => ?_)
  cases e <;> first | exact hq a' w' hR' | exact ⟨R', σ', hq, hR'⟩
theorem AZ.block {id : Nat} (h : AZ P B F0 w0 n x (blockZ id Q) R σ) : AZ P B F0 w0 n (.block id x) Q R σ := by
  intro a w hR
  refine wp_block (wp_mono (h a w hR) fun e a' w' ⟨R', σ', hq, hR'⟩ => ?_)
  cases e with
  | exit i =>
    simp only [blockZ] at hq
    simp only [Exit.inBlock]
    split at hq
    · rename_i hb
      rw [if_pos (Nat.eq_of_beq_eq_true hb)]
      exact ⟨R', σ', hq, hR'⟩
    · rename_i hb
      rw [if_neg (Nat.ne_of_beq_eq_false hb)]
      exact ⟨R', σ', hq, hR'⟩
  | _ => exact ⟨R', σ', hq, hR'⟩
theorem AZ.cond {c : Operand} {b : Bool} (hc : boolAt σ c = some b) (h1 : b = true → AZ P B F0 w0 n x Q R σ) (h2 : b = false → AZ P B F0 w0 n y Q R σ) : AZ P B F0 w0 n (.cond c x y) Q R σ := by
  intro a w hR
  have he : a.eval c = .bool b := by
    unfold boolAt at hc
    split at hc <;> try (cases hc; done)
    · split at hc <;> simp at hc
      rename_i hg
      subst hc
      obtain ⟨O, hOr, hO, _⟩ := hR.own
      obtain ⟨v, hv, hr⟩ := hO _ _ hg
      have := (Rd.v_eq hr).1
      subst this
      exact eval_tmp hv
    · simp at hc; subst hc; rfl
  refine wp_cond he ?_
  cases b with
  | true => exact h1 rfl a w hR
  | false => exact h2 rfl a w hR
theorem AZ.condT {c : Operand} (hc : boolAt σ c = some true) (h1 : AZ P B F0 w0 n x Q R σ) : AZ P B F0 w0 n (.cond c x y) Q R σ := AZ.cond hc (fun _ => h1) (fun h => by cases h)
theorem AZ.condF {c : Operand} (hc : boolAt σ c = some false) (h1 : AZ P B F0 w0 n y Q R σ) : AZ P B F0 w0 n (.cond c x y) Q R σ := AZ.cond hc (fun h => by cases h) (fun _ => h1)
theorem AZ.region {id : Nat} {ops : Array Oper} (h : AZOps P B F0 w0 n ops ops.toList (Q .normal) [] R σ) : AZ P B F0 w0 n (.region id ops false) Q R σ :=
  fun a w hR => wp_region_list (h a w hR (fun e he => by cases he) _ fun a' w' R' σ' hk hR' => ⟨R', σ', hk, hR'⟩)
/-- Code by the logic, the loose rows out of sight. -/
theorem AZ.frame (h : ∀ B1 F1 w1, AW P B1 F1 w1 n x (fun e σ' => σ'.noTag = true ∧ Q e R σ') σ) : AZ P B F0 w0 n x Q R σ := by
  intro a w hR
  obtain ⟨B1, F1, w1, hR1, hback⟩ := hR.sub
  exact wp_mono (h B1 F1 w1 a w hR1) fun e a' w' ⟨σ', ⟨h1, h2⟩, hR'⟩ => ⟨R, σ', h2, hback σ' a' w' h1 hR'⟩
theorem AZ.keep (ks : List Nat) (h : AZ P B F0 w0 n x Q R (σ.keep ks)) : AZ P B F0 w0 n x Q R σ := fun a w hR => h a w (hR.keep ks)
theorem AZ.conv (h : σ = σ') (hk : AZ P B F0 w0 n x Q R σ') : AZ P B F0 w0 n x Q R σ := h ▸ hk
theorem AZ.convR (h : R = R') (hk : AZ P B F0 w0 n x Q R' σ) : AZ P B F0 w0 n x Q R σ := h ▸ hk
theorem AZ.mono {Q' : Exit → List LR → St → Prop} (h : AZ P B F0 w0 n x Q R σ) (hq : ∀ e R σ, Q e R σ → Q' e R σ) : AZ P B F0 w0 n x Q' R σ := fun a w hR => wp_mono (h a w hR) fun e a' w' ⟨R', σ', h1, h2⟩ => ⟨R', σ', hq _ _ _ h1, h2⟩
/-- A row of the call's own is let loose. -/
theorem AZ.loosen (t : Nat) {av : AV} (ht : σ.get t = some av) (hrow : av.row.isSome = true) (htag : av.tag = false) (h : ∀ V : Value, AZ P B F0 w0 n x Q (R ++ [(V, av)]) ((t, .d (.v V)) :: σ.kill t)) : AZ P B F0 w0 n x Q R σ := by
  intro a w hR
  obtain ⟨O, _, hO, _⟩ := hR.own
  obtain ⟨V, hV, _⟩ := hO t _ ht
  refine h V a w (hR.loosen (i := R.length) ht hrow htag hV (by simp) (fun j r hj hr => ?_))
  rcases Nat.lt_or_ge j R.length with hlt | hge
  · rw [List.getElem?_append_left hlt] at hr; exact hr
  · rw [List.getElem?_append_right hge] at hr
    have : j - R.length ≠ 0 := by omega
    cases hj' : j - R.length with
    | zero => omega
    | succ m => rw [hj'] at hr; simp at hr
theorem AZ.adopt (t i : Nat) {V : Value} {av : AV} (hi : R[i]? = some (V, av)) (ht : σ.get t = some (.d (.v V))) (hrow : av.row.isSome = true) (h : AZ P B F0 w0 n x Q (R.set i (V, .junk)) ((t, av) :: σ.kill t)) : AZ P B F0 w0 n x Q R σ :=
  fun a w hR => h a w (hR.adopt hi hrow ht)
/-- A loop: at every round's head the kept slots, and the loose rows, are what mk says of a datum s that meets I. -/
theorem AZ.loopS {S : Type} (ks : List Nat) (mk : S → List LR × St) (I : S → Prop) (μ : S → Nat) (s0 : S) (h0 : (R, σ.keep ks) = mk s0) (hI : I s0)
    (hb : ∀ s, I s → AZ P B F0 w0 n x (thenZ (fun R' σ' => ∃ s', (R', σ'.keep ks) = mk s' ∧ I s' ∧ μ s' < μ s) Q) (mk s).1 (mk s).2) : AZ P B F0 w0 n (.loop x) Q R σ := by
  intro a w hR
  let G : Act → World → S → Prop := fun a w s => I s ∧ RelZ P B F0 w0 n (mk s).1 (mk s).2 a w
  have hex : ∀ a w, (∃ s, G a w s) → ∃ m, (∃ s, μ s = m ∧ G a w s) ∧ ∀ s, G a w s → m ≤ μ s := fun a w ⟨s, h1⟩ => by
    let q : Nat → Prop := fun m => ∃ s, μ s = m ∧ G a w s
    have key : ∀ k m, m ≤ k → q m → ∃ m0, q m0 ∧ ∀ m', q m' → m0 ≤ m' := by
      intro k
      induction k with
      | zero => intro m hm hp; exact ⟨m, hp, fun m' _ => by omega⟩
      | succ k ih =>
        intro m hm hp
        by_cases hlt : ∃ m', m' ≤ k ∧ q m'
        · obtain ⟨m', h1, h2⟩ := hlt; exact ih m' h1 h2
        · exact ⟨m, hp, fun m' hp' => by
            rcases Nat.lt_or_ge k m' with h | h
            · omega
            · exact absurd ⟨m', h, hp'⟩ hlt⟩
    obtain ⟨m0, h3, h4⟩ := key (μ s) (μ s) (Nat.le_refl _) ⟨s, rfl, h1⟩
    exact ⟨m0, h3, fun s' g => h4 _ ⟨s', rfl, g⟩⟩
  let M : Act → World → Nat := fun a w => open Classical in if h : ∃ s, G a w s then Classical.choose (hex a w h) else 0
  have hM : ∀ a w, (∃ s, G a w s) → (∃ s, μ s = M a w ∧ G a w s) ∧ ∀ s, G a w s → M a w ≤ μ s := fun a w h => by
    have := Classical.choose_spec (hex a w h)
    simp only [M, dif_pos h]
    exact this
  have hG0 : G a w s0 := ⟨hI, by rw [← h0]; exact hR.keep ks⟩
  refine wp_loop (fun a w => ∃ s, G a w s) M ⟨s0, hG0⟩ (fun a w hg => ?_)
  obtain ⟨⟨s1, hm, hI1, hR1⟩, _⟩ := hM a w hg
  refine wp_mono (hb s1 hI1 a w hR1) fun e a' w' ⟨R', σ', hq, hR'⟩ => ?_
  cases e with
  | normal =>
    obtain ⟨s', h1, h2, h3⟩ := hq
    have hg' : G a' w' s' := ⟨h2, by rw [← h1]; exact hR'.keep ks⟩
    refine ⟨⟨s', hg'⟩, ?_⟩
    have := (hM a' w' ⟨s', hg'⟩).2 s' hg'
    omega
  | _ => exact ⟨R', σ', hq, hR'⟩
def cutZ {S : Type} (ks : List Nat) (mk : S → List LR × St) (I : S → Prop) (Q : Exit → List LR → St → Prop) : Exit → List LR → St → Prop
  | .normal, R, σ => ∃ s, (R, σ.keep ks) = mk s ∧ I s
  | .exit i, R, σ => Q (.exit i) R σ
  | .goto i, R, σ => Q (.goto i) R σ
  | .ret, R, σ => Q .ret R σ
  | .panic c, R, σ => Q (.panic c) R σ
  | .outgrown, R, σ => Q .outgrown R σ
/-- Ways that meet. -/
theorem AZ.cut {S : Type} (ks : List Nat) (mk : S → List LR × St) (I : S → Prop) (hx : AZ P B F0 w0 n x (cutZ ks mk I Q) R σ) (hy : ∀ s, I s → AZ P B F0 w0 n y Q (mk s).1 (mk s).2) : AZ P B F0 w0 n (.seq x y) Q R σ := by
  refine AZ.seq (AZ.mono hx fun e R' σ' hq => ?_)
  cases e with
  | normal =>
    obtain ⟨s, h1, h2⟩ := hq
    have h1' := Prod.mk.inj (h1.trans (Prod.eta (mk s)).symm)
    refine AZ.convR h1'.1 (AZ.keep ks (AZ.conv h1'.2 (hy s h2)))
  | _ => exact hq
end
end Lift
/- Regions whose order is drawn, over states with loose rows; an operation that may be taken first. -/
namespace Lift
open Go
open Go.RowKit (Below)

section
variable {P : Program} {T : Ty} {B : Nat} {F0 : Nat → Prop} {w0 : Bas} {n : Nat} {σ σ' : St} {R R' : List LR} {ops : Array Oper}

def earlyP (ops : Array Oper) (i : Nat) : Bool := match ops[i]? with
  | some oi => oi.guard.isNone && (oi.after.toList.all fun e => !Region.binds .any e) && noSel ops &&
      (List.range ops.size).all fun j => Nat.beq j i || match ops[j]? with
        | some oj => (oj.after.toList.any fun e => Region.binds .any e && Nat.beq e.on i) || oi.apart ops oj
        | none => true
  | none => false
theorem wpAny_earlyP {Q : Exit → Act → World → Prop} (i : Nat) (hB : earlyP ops i = true) (hpan : ∀ c a w, Q (.panic c) a w → False) (hout : LetsOut Q → False) {a : Act} {w : World} {oi : Oper} {v : Value} (hoi : ops[i]? = some oi)
    (hexec : ∀ w, (execOp a.eval oi).run P w = .ok (.value v) w) (hA : wpAny P .any (earlier i ops) Q ops.size (Array.replicate ops.size false) a w) : wpAny P .any ops Q ops.size (Array.replicate ops.size false) a w := by
  unfold earlyP at hB
  rw [hoi] at hB
  simp only [Bool.and_eq_true, List.all_eq_true] at hB
  obtain ⟨⟨⟨hg, haf⟩, hsel⟩, hall⟩ := hB
  have hil : i < ops.size := (Array.getElem?_eq_some_iff.1 hoi).1
  have hgn : oi.guard = none := by simpa using hg
  obtain ⟨s, hs⟩ : ∃ s, ops.size = s + 1 := ⟨ops.size - 1, by omega⟩
  have hi0 : (Array.replicate ops.size false).getD i true = false := getD_in (by simpa using hil) (getD_replicate_false _ _)
  have hri : ∀ ops' : Array Oper, ops'[i]? = some oi → i ∈ Region.ready .any ops' (Array.replicate ops.size false) := fun ops' h' => by
    rw [mem_ready]
    refine ⟨hi0, oi, h', fun e he hb => ?_⟩
    have := haf e (by simpa using he)
    rw [hb] at this
    cases this
  have hwant : Region.wanted oi (yielded ops a.tmps) = true := by simp [Region.wanted, hgn]
  rw [hs] at hA
  rw [hs]
  have hI := hri (earlier i ops) (by rw [earlier_get, hoi]; simp [addEdge_same])
  rw [hs] at hI
  have h1 := wpOp_earlier i i (hA.2 i hI)
  have h2 : wpAny P .any (earlier i ops) Q s ((Array.replicate (s + 1) false).setIfInBounds i true) (a.put oi.dst v) w := by
    unfold wpOp at h1
    simp only [hoi, hwant, if_true] at h1
    rcases h1 with h1 | ⟨_, h1⟩
    · unfold Oper.wp at h1
      rw [hexec] at h1
      exact h1
    · exact (hout h1).elim
  have h3 := wpAny_earlier s _ _ _ (by simp; omega) h2
  have hri2 := hri ops hoi
  rw [hs] at hri2
  refine wpAny_first (i := i) (oi := oi) (v := v) hoi (fun j o cs b hj he => ?_) (fun c a' w' hq => (hpan _ _ _ hq).elim) s _ a _ (fun j oj hj hji _ hne => ?_) hri2 (.inl ⟨hwant, fun w => hexec w⟩) h3
  · unfold noSel at hsel
    have := List.all_eq_true.1 hsel o (by simpa using Array.mem_of_getElem? hj)
    rw [he] at this
    cases this
  · have hjl : j < ops.size := (Array.getElem?_eq_some_iff.1 hj).1
    have := hall j (List.mem_range.2 hjl)
    rw [hj] at this
    simp only [Bool.or_eq_true] at this
    rcases this with h | h
    · exact absurd (Nat.eq_of_beq_eq_true h) hji
    · rcases h with h | h
      · exfalso
        obtain ⟨e, he, hb⟩ := List.any_eq_true.1 h
        simp only [Bool.and_eq_true] at hb
        exact hne e (by simpa using he) hb.1 (Nat.eq_of_beq_eq_true hb.2)
      · exact h

/-- A pointer to a field of a struct of the call's own. -/
def fadB (T : Ty) (σ : St) : Op → Bool
  | .fieldAddr t (.tmp s) f => match T.get t, σ.get s with
    | some i, some (.bx _) => (fieldF i f).isSome
    | _, _ => false
  | _ => false
theorem fad_run (hT : TOk P T) {a : Act} {w : World} (hR : Rel P B F0 w0 n σ a w) {o : Oper} (h : fadB T σ o.op = true) : ∃ v, ∀ w', (execOp a.eval o).run P w' = .ok (.value v) w' := by
  obtain ⟨dst, op, ty, pos, after, guard⟩ := o
  simp only [] at h
  cases op <;> simp only [fadB] at h <;> try (cases h; done)
  rename_i t x f
  cases x <;> simp only [fadB] at h <;> try (cases h; done)
  rename_i s
  split at h <;> try (cases h; done)
  rename_i i ds hi hs
  obtain ⟨⟨off, size, g⟩, hf⟩ := Option.isSome_iff_exists.1 h
  obtain ⟨info, dd, z, hok⟩ := hT t i hi
  obtain ⟨fs, fl, j, dd', h1, h2, h3, h4, h5, h6, h7, h8⟩ := fieldF_run hok hf
  obtain ⟨O, hOr, hO⟩ := hR.own
  obtain ⟨v, hv, b, cs, e, rfl, _⟩ := hO s _ hs
  have he : a.eval (.tmp s) = .pointer (some ⟨b, 0, none⟩) := eval_tmp hv
  refine ⟨.pointer (some ⟨b, 0 + off, none⟩), fun w' => ?_⟩
  have hs : j.size ≠ 0 := by omega
  simp [execOp, Instr.fieldAt, run_underlying h1, h2, he, Instr.sureAddr, fieldPlace, Go.sizeOf, typeInfo, h4, hs, h3, Addr.add_lit]

def ZAny (P : Program) (B : Nat) (F0 : Nat → Prop) (w0 : Bas) (n : Nat) (ops : Array Oper) (Q : Exit → List LR → St → Prop) (R : List LR) (σ : St) : Prop :=
  ∀ (a : Act) (w : World), RelZ P B F0 w0 n R σ a w → wpAny P .any ops (fun e a' w' => ∃ R' σ', Q e R' σ' ∧ RelZ P B F0 w0 n R' σ' a' w') ops.size (Array.replicate ops.size false) a { w with drawn := w.drawn + 1 }
variable {Q : Exit → List LR → St → Prop}
theorem AZ.any {id : Nat} (hmx : P.follows .mixedOrders = true) (h : ZAny P B F0 w0 n ops Q R σ) : AZ P B F0 w0 n (.region id ops true) Q R σ := fun a w hR => wp_region_any hmx (h a w hR)
/-- The pointer to a field may be made first. -/
theorem ZAny.early (hT : TOk P T) (i : Nat) {oi : Oper} (hB : earlyP ops i = true) (hoi : ops[i]? = some oi) (hf : fadB T σ oi.op = true) (hpan : ∀ c R σ, Q (.panic c) R σ → False) (hout : ∀ R σ, Q .outgrown R σ → False) (h : ZAny P B F0 w0 n (earlier i ops) Q R σ) : ZAny P B F0 w0 n ops Q R σ := by
  intro a w hR
  obtain ⟨v, hv⟩ := fad_run hT hR.rel hf
  have hA := h a w hR
  rw [earlier_size] at hA
  refine wpAny_earlyP i hB (fun c a w hq => ?_) (fun hq => ?_) hoi hv hA
  · obtain ⟨R, σ, h, _⟩ := hq; exact hpan c R σ h
  · obtain ⟨a, w, R, σ, h, _⟩ := hq; exact hout R σ h
theorem ZAny.draw (m : Nat) (hB : drawB ops m = true)
    (h : ∀ B1 F1 w1, APre P B1 F1 w1 n ops (heads ops m) (σ.less (heads ops m)) (ops.toList.take m) (σ.less (heads ops m)) (fun τ => τ.noTag = true ∧ AZOps P B F0 w0 n ops (ops.toList.drop m) (Q .normal) [] R τ)) : ZAny P B F0 w0 n ops Q R σ := by
  intro a w hR
  obtain ⟨B1, F1, w1, hR1, hback⟩ := hR.sub
  exact AAny.drawG m hB (fun τ a' w' ⟨ht, hz⟩ hR' => hz a' w' (hback τ a' w' ht hR') (fun e he => by cases he) _ (fun a w R' σ' hk hr => ⟨R', σ', hk, hr⟩)) (h B1 F1 w1) a w hR1
end
end Lift
/- A loose row in a struct's cell becomes data; plain regions; back to states without loose rows. -/
namespace Lift
open Go
open Go.RowKit (Below)

section
variable {P : Program} {T : Ty} {B : Nat} {F0 : Nat → Prop} {w0 : Bas} {n : Nat} {σ σ' : St} {R R' : List LR} {ops all : Array Oper} {l : List Oper} {x : Code} {a : Act} {w : World} {K : List LR → St → Prop} {p : Pins}

theorem AZ.aw {Q : Exit → St → Prop} (h : AZ P B F0 w0 n x (fun e _ σ' => Q e σ') [] σ) : AW P B F0 w0 n x Q σ := fun a w hR => wp_mono (h a w hR.z) fun e a' w' ⟨R', σ', h1, h2⟩ => ⟨σ', h1, h2.rel⟩
variable {Q : Exit → List LR → St → Prop}
theorem AZ.reg {id : Nat} (h : ∀ B1 F1 w1, AOps P B1 F1 w1 n ops ops.toList (fun σ' => σ'.noTag = true ∧ Q .normal R σ') σ) : AZ P B F0 w0 n (.region id ops false) Q R σ :=
  AZ.frame fun B1 F1 w1 => AW.region (h B1 F1 w1)
end
end Lift
/- The operations of a region whose order is drawn, listed in another order. -/
namespace Lift
open Go
open Go.RowKit (Below)

section
variable {P : Program} {T : Ty} {B : Nat} {F0 : Nat → Prop} {w0 : Bas} {n : Nat} {σ σ' : St} {R R' : List LR} {ops : Array Oper}

/-- Place k of the new list holds what place pi k held; operation i comes first. -/
def piF (i k : Nat) : Nat := if k = 0 then i else if k ≤ i then k - 1 else k
def roF (i j : Nat) : Nat := if j = i then 0 else if j < i then j + 1 else j
theorem pi_ro (i j : Nat) : piF i (roF i j) = j := by
  unfold piF roF
  split
  · rw [if_pos rfl]; omega
  · split
    · rw [if_neg (by omega), if_pos (by omega)]; omega
    · rw [if_neg (by omega), if_neg (by omega)]
theorem ro_pi (i k : Nat) : roF i (piF i k) = k := by
  unfold piF roF
  split
  · rw [if_pos rfl]; omega
  · split
    · rw [if_neg (by omega), if_pos (by omega)]; omega
    · rw [if_neg (by omega), if_neg (by omega)]
theorem pi_lt {i k m : Nat} (hi : i < m) : piF i k < m ↔ k < m := by
  unfold piF
  split
  · omega
  · split <;> omega
def renOp (i : Nat) (o : Oper) : Oper := ⟨o.dst, o.op, o.type, o.pos, o.after.map (fun e => ⟨roF i e.on, e.ground⟩), o.guard.map (fun g => (roF i g.1, g.2))⟩
def frontOps (i : Nat) (ops : Array Oper) : Array Oper := ((List.range ops.size).filterMap fun k => (ops[piF i k]?).map (renOp i)).toArray
theorem filterMap_all {α β : Type} {f : α → Option β} : ∀ {l : List α}, (∀ x ∈ l, (f x).isSome = true) → (l.filterMap f).length = l.length ∧ ∀ k : Nat, (l.filterMap f)[k]? = (l[k]?).bind f
  | [], _ => ⟨rfl, fun k => by simp⟩
  | x :: l, h => by
    obtain ⟨y, hy⟩ := Option.isSome_iff_exists.1 (h x (by simp))
    obtain ⟨h1, h2⟩ := filterMap_all (l := l) (fun z hz => h z (by simp [hz]))
    rw [List.filterMap_cons_some hy]
    refine ⟨by simp [h1], fun k => ?_⟩
    cases k with
    | zero => simp [hy]
    | succ k => simpa using h2 k
theorem front_get {i : Nat} (hi : i < ops.size) : (frontOps i ops).size = ops.size ∧ ∀ k : Nat, (frontOps i ops)[k]? = (ops[piF i k]?).map (renOp i) := by
  have h := filterMap_all (l := List.range ops.size) (f := fun k => (ops[piF i k]?).map (renOp i)) (fun k hk => by
    have : piF i k < ops.size := (pi_lt hi).2 (List.mem_range.1 hk)
    simp [this])
  unfold frontOps
  refine ⟨by simpa using h.1, fun k => ?_⟩
  rw [List.getElem?_toArray, h.2]
  by_cases hk : k < ops.size
  · simp [hk]
  · have : ¬ piF i k < ops.size := fun h => hk ((pi_lt hi).1 h)
    simp [hk, this]
variable {Q : Exit → Act → World → Prop}
theorem ready_front {i : Nat} (hi : i < ops.size) {l l' : Array Bool} (hl : ∀ k d, l'.getD k d = l.getD (piF i k) d) (k : Nat) : k ∈ Region.ready .any (frontOps i ops) l' ↔ piF i k ∈ Region.ready .any ops l := by
  rw [mem_ready, mem_ready, (front_get hi).2, hl]
  refine and_congr Iff.rfl ⟨fun ⟨o, ho, hall⟩ => ?_, fun ⟨o, ho, hall⟩ => ?_⟩
  · cases hj : ops[piF i k]? with
    | none => rw [hj] at ho; cases ho
    | some oj =>
      rw [hj] at ho
      simp at ho
      subst ho
      refine ⟨oj, rfl, fun e he hb => ?_⟩
      have := hall ⟨roF i e.on, e.ground⟩ (Array.mem_map.2 ⟨e, he, rfl⟩) hb
      simpa [hl, pi_ro] using this
  · refine ⟨renOp i o, by rw [ho]; rfl, fun e he hb => ?_⟩
    obtain ⟨e', he', rfl⟩ := Array.mem_map.1 he
    simp only [hl, pi_ro]
    exact hall e' he' hb
theorem wpOp_front {i k : Nat} (hi : i < ops.size) {K K' : Act → World → Prop} (hK : ∀ a w, K a w → K' a w) {a : Act} {w : World} (h : wpOp P (frontOps i ops) Q k K a w) : wpOp P ops Q (piF i k) K' a w := by
  refine wpOp_mono hK ?_
  unfold wpOp at *
  rw [(front_get hi).2] at h
  cases ho : ops[piF i k]? with
  | none => rw [ho] at h; exact h
  | some o =>
    rw [ho] at h
    simp only [Option.map_some] at h ⊢
    have hy : ∀ g, yielded (frontOps i ops) a.tmps (roF i g) = yielded ops a.tmps g := fun g => by
      unfold yielded
      rw [(front_get hi).2, pi_ro]
      cases ops[g]? with
      | none => rfl
      | some og => rfl
    have hw : Region.wanted (renOp i o) (yielded (frontOps i ops) a.tmps) = Region.wanted o (yielded ops a.tmps) := by
      unfold Region.wanted renOp
      cases hg : o.guard with
      | none => simp
      | some g => simp [hy]
    have hex : execOp a.eval (renOp i o) = execOp a.eval o := by obtain ⟨dst, op, ty, pos, after, guard⟩ := o; rfl
    rw [hw] at h
    have hwp : (renOp i o).wp P a w K Q → o.wp P a w K Q := fun h => by
      unfold Oper.wp at *
      rw [hex] at h
      generalize (execOp a.eval o).run P w = r at *
      cases r with
      | ok n w' => cases n <;> exact h
      | halt x w' => cases x <;> exact h
    have has : (renOp i o).asks P a w → o.asks P a w := fun h => by
      unfold Oper.asks at *
      rw [hex] at h
      exact h
    split
    · rename_i hc
      rw [if_pos hc] at h
      rcases h with h | ⟨h1, h2⟩
      · exact .inl (hwp h)
      · exact .inr ⟨has h1, h2⟩
    · rename_i hc
      rw [if_neg hc] at h
      exact h
theorem wpAny_front {i : Nat} (hi : i < ops.size) : ∀ (f : Nat) (l l' : Array Bool) (a : Act) (w : World), l'.size = ops.size → l.size = ops.size → (∀ k d, l'.getD k d = l.getD (piF i k) d) → wpAny P .any (frontOps i ops) Q f l' a w → wpAny P .any ops Q f l a w
  | 0, l, l', a, w, _, _, hl, h => by
    refine ⟨?_, h.2⟩
    apply List.eq_nil_iff_forall_not_mem.2
    intro j hj
    have := (ready_front hi hl (roF i j)).2 (by rw [pi_ro]; exact hj)
    rw [h.1] at this
    cases this
  | f + 1, l, l', a, w, hs', hs, hl, h => by
    refine ⟨fun hn => h.1 ?_, fun j hj => ?_⟩
    · apply List.eq_nil_iff_forall_not_mem.2
      intro k hk
      have := (ready_front hi hl k).1 hk
      rw [hn] at this
      cases this
    · have hk := (ready_front hi hl (roF i j)).2 (by rw [pi_ro]; exact hj)
      have h1 := h.2 _ hk
      have hjs : j < ops.size := by
        obtain ⟨_, o, ho, _⟩ := mem_ready.1 hj
        exact (Array.getElem?_eq_some_iff.1 ho).1
      have h2 := wpOp_front hi (fun a' w' h' => wpAny_front hi f (l.setIfInBounds j true) (l'.setIfInBounds (roF i j) true) a' w' (by simpa using hs') (by simpa using hs) (fun k d => ?_) h') h1
      · rw [pi_ro] at h2; exact h2
      · have hr : roF i j < l'.size := by
          rw [hs']
          exact (pi_lt hi).1 (by rw [pi_ro]; exact hjs)
        simp only [Array.getD_eq_getD_getElem?]
        by_cases hkj : k = roF i j
        · subst hkj
          rw [pi_ro, Array.getElem?_setIfInBounds_self_of_lt hr, Array.getElem?_setIfInBounds_self_of_lt (by omega)]
        · have : piF i k ≠ j := fun e => hkj (by rw [← e, ro_pi])
          rw [Array.getElem?_setIfInBounds_ne (Ne.symm hkj), Array.getElem?_setIfInBounds_ne (Ne.symm this)]
          have := hl k d
          simpa only [Array.getD_eq_getD_getElem?] using this
variable {Q : Exit → List LR → St → Prop}
theorem ZAny.front (i : Nat) (hi : Nat.blt i ops.size = true) (h : ZAny P B F0 w0 n (frontOps i ops) Q R σ) : ZAny P B F0 w0 n ops Q R σ := by
  have hi : i < ops.size := by simpa using hi
  intro a w hR
  have hA := h a w hR
  rw [(front_get hi).1] at hA
  refine wpAny_front hi _ _ _ a _ (by simp) (by simp) (fun k d => ?_) hA
  simp only [Array.getD_eq_getD_getElem?]
  by_cases hk : k < ops.size
  · have := (pi_lt hi).2 hk
    simp [hk, this]
  · have : ¬ piF i k < ops.size := fun h => hk ((pi_lt hi).1 h)
    simp [hk, this]
theorem AAny.front {Q : Exit → St → Prop} (i : Nat) (hi : Nat.blt i ops.size = true) (h : AAny P B F0 w0 n (frontOps i ops) Q σ) : AAny P B F0 w0 n ops Q σ := by
  have hi : i < ops.size := by simpa using hi
  intro a w hR
  have hA := h a w hR
  rw [(front_get hi).1] at hA
  refine wpAny_front hi _ _ _ a _ (by simp) (by simp) (fun k d => ?_) hA
  simp only [Array.getD_eq_getD_getElem?]
  by_cases hk : k < ops.size
  · have := (pi_lt hi).2 hk
    simp [hk, this]
  · have : ¬ piF i k < ops.size := fun h => hk ((pi_lt hi).1 h)
    simp [hk, this]
theorem AZOps.to {all : Array Oper} {l : List Oper} {K : List LR → St → Prop} {p : Pins} (ks : List Nat) (τ : St) (h : σ.keep ks = τ) (hk : AZOps P B F0 w0 n all l K p R τ) : AZOps P B F0 w0 n all l K p R σ := AZOps.keep ks (h ▸ hk)
theorem AZ.to {c : Code} (ks : List Nat) (τ : St) (h : σ.keep ks = τ) (hk : AZ P B F0 w0 n c Q R τ) : AZ P B F0 w0 n c Q R σ := AZ.keep ks (h ▸ hk)
theorem AZ.forget {c : Code} (h : AZ P B F0 w0 n c Q [] σ) : AZ P B F0 w0 n c Q R σ := fun a w hR => h a w (hR.drop (fun i r hr => by simp at hr))
end
end Lift
/- Functions that are handed loose rows, and hand back loose rows: their contract, its proof, its use. -/
namespace Lift
open Go
open Go.RowKit (Below)

/-- The blocks that have an owner. -/
def Owned (O : Nat → Option Nat) (b : Nat) : Prop := ∃ t, O b = some t
/-- Called with values that read as args, and with the rows R (known by their values), the function returns a value that reads as res, and leaves the rows R'; Post says which. -/
def CallZ (P : Program) (f : FuncId) (args : List D) (R : List LR) (Post : D → List LR → Prop) : Prop :=
  CallOk P f ∧ ∀ (w : World) (F : Nat → Prop) (O : Nat → Option Nat) (vs : List Value), (∀ b, F b → b < w.heap.size) → (∀ b t, O b = some t → F b) → vs.length = args.length →
    (∀ (i : Nat) (d : D) (v : Value), args[i]? = some d → vs[i]? = some v → Rd w (Free O F) d v) → (∀ (i : Nat) (r : LR), R[i]? = some r → LooseAt P w O F i r) →
    Calls P f vs.toArray w (fun ee w' => ∃ v res R' O', ee = .returned v ∧ Post res R' ∧ BelY w.heap.size ⟨w, Owned O⟩ w w' ∧ (∀ b t, O' b = some t → OwnR w.heap.size ⟨w, Owned O⟩ w' b) ∧ Rd w' (Free O' (FW w.heap.size F w')) res v ∧
      ∀ (i : Nat) (r : LR), R'[i]? = some r → LooseAt P w' O' (FW w.heap.size F w') i r)

section
variable {P : Program} {T : Ty} {B : Nat} {F0 : Nat → Prop} {w0 : Bas} {n : Nat} {σ σ' : St} {R R' : List LR} {all : Array Oper} {l rest : List Oper} {o : Oper} {d : Nat} {K : List LR → St → Prop} {p : Pins}

def resOneZ (T : Ty) (σ : St) : ResultVar → Option D
  | .tmp t => datF T (ex T σ.get 0 (.tmp t))
  | .cell c t => match T.get t, σ.get c with
    | some i, some (.bx ds) => match loadD i ds with
      | some (.d x) => some x
      | _ => none
    | _, _ => none
def resAllZ (T : Ty) (σ : St) : List ResultVar → Option (List D)
  | [] => some []
  | r :: rs => match resOneZ T σ r, resAllZ T σ rs with
    | some d, some ds => some (d :: ds)
    | _, _ => none
def resZ (T : Ty) (σ : St) (rs : List ResultVar) : Option D := match resAllZ T σ rs with
  | some [d] => some d
  | some [] => some (.tu [])
  | some (d :: e :: r) => some (.tu (d :: e :: r))
  | none => none
def retZ (T : Ty) (rs : List ResultVar) (Post : D → List LR → Prop) : Exit → List LR → St → Prop
  | .normal, R, σ => ∃ res, resZ T σ rs = some res ∧ Post res R
  | .ret, R, σ => ∃ res, resZ T σ rs = some res ∧ Post res R
  | .exit _, _, _ => False
  | .goto _, _, _ => False
  | .panic _, _, _ => False
  | .outgrown, _, _ => False
theorem resOneZ_sound (hT : TOk P T) {a : Act} {w : World} {O : Nat → Option Nat} (hR : Rel P B F0 w0 n σ a w) (hOr : ∀ b t, O b = some t → OwnR B w0 w b)
    (hO : ∀ t av, σ.get t = some av → ∃ v, a.tmps[t]? = some v ∧ AVR P w0.X w O (FW B F0 w) σ.get (fun h => a.tmps[h]?) t av v) {r : ResultVar} {d : D} (h : resOneZ T σ r = some d) :
    ∃ v, (resGet a.tmps r).run P w = .ok v w ∧ Rd w (Free O (FW B F0 w)) d v := by
  have hI : Inv P B F0 w0 (fun _ => True) σ.get σ.get a w O := ⟨hR.below, hR.base, hR.f0, hOr, fun t _ av h => hO t av h, fun t av h _ => hO t av h⟩
  cases r with
  | tmp t =>
    simp only [resOneZ] at h
    exact ⟨_, rfl, datF_ex hT hI (fun _ _ => trivial) h⟩
  | cell c t =>
    simp only [resOneZ] at h
    split at h <;> try (cases h; done)
    rename_i i ds hi hc
    split at h <;> simp at h
    rename_i y hy
    subst h
    obtain ⟨info, dd, z, hok⟩ := hT t i hi
    obtain ⟨u, hu, b, cs, e, rfl, h2, h3, h4⟩ := hO c _ hc
    obtain ⟨x, v, hx, hrun, hrd⟩ := load_run (off := 0) hok h3 (fun j x hj => by obtain ⟨g1, g2⟩ := h4.get hj; exact ⟨g1, by simpa using g2⟩) hy
    simp at hx
    subst hx
    refine ⟨v, ?_, hrd⟩
    have hgd : a.tmps.getD c undef = .pointer (some ⟨b, 0, none⟩) := by simp [Array.getD_eq_getD_getElem?, hu]
    simp only [resGet, hgd, asAddr, Sem.run_bind, Sem.run_pure, Result.andThen_ok, hrun]
theorem resAllZ_sound (hT : TOk P T) {a : Act} {w : World} {O : Nat → Option Nat} (hR : Rel P B F0 w0 n σ a w) (hOr : ∀ b t, O b = some t → OwnR B w0 w b)
    (hO : ∀ t av, σ.get t = some av → ∃ v, a.tmps[t]? = some v ∧ AVR P w0.X w O (FW B F0 w) σ.get (fun h => a.tmps[h]?) t av v) : ∀ (rs : List ResultVar) (ds : List D), resAllZ T σ rs = some ds →
    ∃ vs : List Value, (rs.mapM (resGet a.tmps)).run P w = .ok vs w ∧ vs.length = ds.length ∧
      ∀ (i : Nat) (d : D) (v : Value), ds[i]? = some d → vs[i]? = some v → Rd w (Free O (FW B F0 w)) d v
  | [], ds, h => by simp [resAllZ] at h; subst h; exact ⟨[], by simp, rfl, fun i d v h => by simp at h⟩
  | r :: rs, ds, h => by
    simp only [resAllZ] at h
    split at h <;> simp at h
    rename_i d ds' h1 h2
    subst h
    obtain ⟨v, hv, hr⟩ := resOneZ_sound hT hR hOr hO h1
    obtain ⟨vs, hvs, hl, hall⟩ := resAllZ_sound hT hR hOr hO rs ds' h2
    refine ⟨v :: vs, ?_, by simp [hl], fun i d' u h3 h4 => ?_⟩
    · simp only [List.mapM_cons, Sem.run_bind, Result.andThen_ok, hvs, Sem.run_pure, hv]
    · cases i with
      | zero => simp at h3 h4; subst h3; subst h4; exact hr
      | succ i => exact hall i d' u (by simpa using h3) (by simpa using h4)
theorem resZ_sound (hT : TOk P T) {fn : Func} {rs : List ResultVar} (hrs : fn.results.toList = rs) {a : Act} {w : World} {O : Nat → Option Nat} (hR : Rel P B F0 w0 n σ a w) (hOr : ∀ b t, O b = some t → OwnR B w0 w b)
    (hO : ∀ t av, σ.get t = some av → ∃ v, a.tmps[t]? = some v ∧ AVR P w0.X w O (FW B F0 w) σ.get (fun h => a.tmps[h]?) t av v) {res : D} (hq : resZ T σ rs = some res) :
    ∃ v, (results fn a.tmps).run P w = .ok v w ∧ Rd w (Free O (FW B F0 w)) res v := by
  unfold resZ at hq
  split at hq <;> simp at hq
  · rename_i d hd
    subst hq
    obtain ⟨vs', hrun, hl', hall⟩ := resAllZ_sound hT hR hOr hO rs _ hd
    match vs', hl' with
    | [v], _ =>
      refine ⟨v, ?_, hall 0 d v rfl rfl⟩
      rw [results_eq]
      simp only [Sem.run_bind, Array.mapM_eq_mapM_toList, hrs, Sem.run_map, hrun, Result.andThen_ok, Sem.run_pure]
      rfl
  · rename_i hd
    subst hq
    obtain ⟨vs', hrun, hl', hall⟩ := resAllZ_sound hT hR hOr hO rs _ hd
    match vs', hl' with
    | [], _ =>
      refine ⟨.tuple #[], ?_, Rd.tu (vs := []) rfl (fun i d v h => by simp at h)⟩
      rw [results_eq]
      simp only [Sem.run_bind, Array.mapM_eq_mapM_toList, hrs, Sem.run_map, hrun, Result.andThen_ok, Sem.run_pure]
      rfl
  · rename_i d e r hd
    subst hq
    obtain ⟨vs', hrun, hl', hall⟩ := resAllZ_sound hT hR hOr hO rs _ hd
    refine ⟨.tuple vs'.toArray, ?_, Rd.tu hl' (fun i d v h1 h2 => hall i d v h1 h2)⟩
    rw [results_eq]
    simp only [Sem.run_bind, Array.mapM_eq_mapM_toList, hrs, Sem.run_map, hrun, Result.andThen_ok, Sem.run_pure]
    rw [dif_neg (by simp at hl' ⊢; omega)]

theorem LooseAt.owner {w : World} {O O' : Nat → Option Nat} {F F' : Nat → Prop} {s t : Nat} {r : LR} (h : LooseAt P w O F s r) (hO : ∀ c, O c = some s → O' c = some t) (hF : ∀ c, Free O F c → Free O' F' c) : LooseAt P w O' F' t r := by
  rcases h with h | ⟨h1, h2, h3⟩
  · exact .inl h
  · exact .inr ⟨h1, h2, h3.owner h1 h2 hO hF⟩

theorem CallZ.intro {f : FuncId} {fn : Func} {c : Code} {rs : List ResultVar} {args : List D} {Post : D → List LR → Prop} (hT : TOk P T) (hf : P.funcs[f]? = some fn) (hb : fn.body = some c) (hrs : fn.results.toList = rs) (hn : fn.ntmps = n) (hl : args.length ≤ n) (hnm : (fn.name == "runtime.NumGoroutine") = false)
    (h : ∀ (B : Nat) (F0 : Nat → Prop) (w0 : Bas), AZ P B F0 w0 n c (retZ T rs Post) R (initSt 0 args)) : CallZ P f args R Post := by
  refine ⟨⟨fn, hf, hnm, by simp [hb]⟩, fun w F O vs hF hOF hlen hr hL => ?_⟩
  let Oz : Nat → Option Nat := fun b => (O b).map (n + ·)
  have hOz : ∀ b t, Oz b = some t → ∃ s, O b = some s ∧ t = n + s := fun b t h => by
    simp only [Oz, Option.map_eq_some_iff] at h
    obtain ⟨s, h1, h2⟩ := h
    exact ⟨s, h1, h2.symm⟩
  have hfr : ∀ c, Free O F c → Free Oz (FW w.heap.size F w) c := fun c hc => ⟨by simp [Oz, hc.1], .inl hc.2⟩
  refine calls_of_wp hf hb (wp_mono (h w.heap.size F ⟨w, Owned O⟩ _ w ?_) ?_)
  · refine ⟨.refl _ _ _, Nat.le_refl _, ⟨hF, fun b ⟨t, hb⟩ => hOF b t hb⟩, rfl, ?_, Oz, (fun b t hb => ?_), (fun t av hav => ?_), fun i r hr => ?_⟩
    · simp [hn]; omega
    · obtain ⟨s, h1, _⟩ := hOz b t hb
      exact ⟨.inr ⟨s, h1⟩, hF b (hOF b s h1)⟩
    · rw [get_initSt] at hav
      simp only [Nat.zero_le, if_true, Nat.sub_zero, Option.map_eq_some_iff] at hav
      obtain ⟨d, hd, rfl⟩ := hav
      have hlt : t < vs.length := by rw [hlen]; exact (List.getElem?_eq_some_iff.1 hd).1
      refine ⟨vs[t], by simp [Array.getElem?_append, hlt], ?_⟩
      exact (hr t d _ hd (List.getElem?_eq_getElem hlt)).mono hfr (fun _ _ => rfl)
    · exact (hL i r hr).owner (fun c hc => by simp [Oz, hc]) hfr
  · rintro ee a w' ⟨R', σ', hq, hR⟩
    obtain ⟨O2, hOr2, hO2, hL2⟩ := hR.own
    let O3 : Nat → Option Nat := fun b => match O2 b with
      | some t => if n ≤ t then some (t - n) else none
      | none => none
    have h3n : ∀ c, O2 c = none → O3 c = none := fun c hc => by simp only [O3, hc]
    have h3 : ∀ c t, O3 c = some t → O2 c = some (n + t) := fun c t hc => by
      simp only [O3] at hc
      split at hc
      · rename_i s hs
        split at hc
        · cases hc; rw [hs]; congr 1; omega
        · cases hc
      · cases hc
    have key : (∃ res, resZ T σ' rs = some res ∧ Post res R') → a.defers = [] ∧ ∃ v, (results fn a.tmps).run P w' = .ok v w' ∧ ∃ v' res R' O', Ending.returned v = .returned v' ∧ Post res R' ∧ BelY w.heap.size ⟨w, Owned O⟩ w w' ∧ (∀ b t, O' b = some t → OwnR w.heap.size ⟨w, Owned O⟩ w' b) ∧ Rd w' (Free O' (FW w.heap.size F w')) res v' ∧
        ∀ (i : Nat) (r : LR), R'[i]? = some r → LooseAt P w' O' (FW w.heap.size F w') i r := fun ⟨res, hq, hP⟩ => by
      refine ⟨hR.defers, ?_⟩
      obtain ⟨v, hv, hrd⟩ := resZ_sound hT hrs hR.rel hOr2 hO2 hq
      refine ⟨v, hv, v, res, R', O3, rfl, hP, hR.below, fun b t hb => hOr2 b _ (h3 b t hb), hrd.mono (fun c hc => ⟨h3n c hc.1, hc.2⟩) (fun _ _ => rfl), fun i r hr => ?_⟩
      exact (hL2 i r hr).owner (fun c hc => by simp only [O3, hc]; rw [if_pos (by omega)]; congr 1; omega) (fun c hc => ⟨h3n c hc.1, hc.2⟩)
    cases ee with
    | normal => exact key hq
    | ret => exact key hq
    | exit _ => exact hq.elim
    | goto _ => exact hq.elim
    | panic _ => exact hq.elim
    | outgrown => exact hq.elim
end
end Lift
/- A call with loose rows. -/
namespace Lift
open Go
open Go.RowKit (Below)

section
variable {P : Program} {T : Ty} {B : Nat} {F0 : Nat → Prop} {w0 : Bas} {n : Nat} {σ σ' : St} {R R' : List LR} {all : Array Oper} {l rest : List Oper} {o : Oper} {d : Nat} {K : List LR → St → Prop} {p : Pins}

def selR (R : List LR) : List Nat → Option (List LR)
  | [] => some []
  | i :: r => match R[i]?, selR R r with
    | some x, some xs => some (x :: xs)
    | _, _ => none
/-- The rows of the places is become the first of R1; what R1 holds beyond them comes behind. -/
def updR (R : List LR) : List Nat → List LR → List LR
  | i :: is, r :: rs => updR (R.set i r) is rs
  | [], rs => R ++ rs
  | _ :: _, [] => R
theorem selR_get : ∀ {is : List Nat} {Rs : List LR}, selR R is = some Rs → Rs.length = is.length ∧ ∀ (k : Nat) (r : LR), Rs[k]? = some r → ∃ i : Nat, is[k]? = some i ∧ R[i]? = some r
  | [], Rs, h => by simp [selR] at h; subst h; exact ⟨rfl, fun k r h => by simp at h⟩
  | i :: is, Rs, h => by
    simp only [selR] at h
    split at h <;> simp at h
    rename_i x xs h1 h2
    subst h
    obtain ⟨g1, g2⟩ := selR_get h2
    refine ⟨by simp [g1], fun k r hk => ?_⟩
    cases k with
    | zero => simp at hk; subst hk; exact ⟨i, rfl, h1⟩
    | succ k => simpa using g2 k r (by simpa using hk)
theorem selR_lt : ∀ {is : List Nat} {Rs : List LR}, selR R is = some Rs → ∀ i, i ∈ is → i < R.length
  | [], Rs, h, i, hi => by cases hi
  | j :: is, Rs, h, i, hi => by
    simp only [selR] at h
    split at h <;> simp at h
    rename_i x xs h1 h2
    rcases List.mem_cons.1 hi with rfl | hi
    · exact (List.getElem?_eq_some_iff.1 h1).1
    · exact selR_lt h2 i hi
theorem updR_get : ∀ {is : List Nat} {R R1 : List LR} {j : Nat} {r : LR}, is.length ≤ R1.length → (∀ i, i ∈ is → i < R.length) → is.Nodup → (updR R is R1)[j]? = some r →
    (∃ k : Nat, is[k]? = some j ∧ R1[k]? = some r) ∨ (j ∉ is ∧ j < R.length ∧ R[j]? = some r) ∨ ∃ k : Nat, j = R.length + k ∧ R1[is.length + k]? = some r
  | [], R, R1, j, r, _, _, _, h => by
    have h : (R ++ R1)[j]? = some r := by cases R1 <;> simpa [updR] using h
    rcases Nat.lt_or_ge j R.length with hj | hj
    · rw [List.getElem?_append_left hj] at h
      exact .inr (.inl ⟨by simp, hj, h⟩)
    · rw [List.getElem?_append_right hj] at h
      exact .inr (.inr ⟨j - R.length, by omega, by simpa using h⟩)
  | i :: is, R, [], j, r, hl, _, _, h => by simp at hl
  | i :: is, R, x :: R1, j, r, hl, hlt, hnd, h => by
    simp only [updR] at h
    have hni := (List.nodup_cons.1 hnd).1
    have hil := hlt i (by simp)
    rcases updR_get (is := is) (R := R.set i x) (by simpa using hl) (fun k hk => by simpa using hlt k (by simp [hk])) (List.nodup_cons.1 hnd).2 h with ⟨k, g1, g2⟩ | ⟨g1, g2, g3⟩ | ⟨k, g1, g2⟩
    · exact .inl ⟨k + 1, by simpa using g1, by simpa using g2⟩
    · by_cases hj : j = i
      · subst hj
        rw [List.getElem?_set_self hil] at g3
        exact .inl ⟨0, rfl, by simpa using g3⟩
      · rw [List.getElem?_set_ne (Ne.symm hj)] at g3
        exact .inr (.inl ⟨by simp [hj, g1], by simpa using g2, g3⟩)
    · refine .inr (.inr ⟨k, by simpa using g1, ?_⟩)
      rw [show (i :: is).length + k = (is.length + k) + 1 by simp; omega]
      simpa using g2

theorem nodup_get {is : List Nat} (h : is.Nodup) : ∀ {j k x : Nat}, is[j]? = some x → is[k]? = some x → j = k := by
  intro j k x h1 h2
  obtain ⟨a1, b1⟩ := List.getElem?_eq_some_iff.1 h1
  obtain ⟨a2, b2⟩ := List.getElem?_eq_some_iff.1 h2
  rcases Nat.lt_trichotomy j k with g | g | g
  · exact absurd (b1.trans b2.symm) (List.pairwise_iff_getElem.1 h j k a1 a2 g)
  · exact g
  · exact absurd (b2.trans b1.symm) (List.pairwise_iff_getElem.1 h k j a2 a1 g)

set_option maxHeartbeats 800000 in
theorem AZOps.callz (hT : TOk P T) {f : FuncId} {ds : List D} (is : List Nat) {Rs : List LR} {Post : D → List LR → Prop} (hd : o.dst = some d) (hdn : Nat.ble (d + 1) n = true) (hg : o.guard = none) (hx : callF T σ.get o.op = some (f, ds)) (hsel : selR R is = some Rs) (hnd : is.Nodup) (hpin : pinsB p [o] = true)
    (hP : CallZ P f ds Rs Post) (hlen : ∀ res R1, Post res R1 → is.length ≤ R1.length) (h : ∀ res R1, Post res R1 → AZOps P B F0 w0 n all rest K p (updR R is R1) ((d, .d res) :: σ)) : AZOps P B F0 w0 n all (o :: rest) K p R σ := by
  intro a w hR hpins Q hQ
  unfold wpList
  rw [if_pos (by simp [Region.wanted, hg])]
  refine .inl ?_
  obtain ⟨O, hOr, hO, hL⟩ := hR.own
  obtain ⟨dst, op, ty, pos, after, guard⟩ := o
  simp only [] at hd hx hg
  have hdo : ∀ v : Value, a.put dst v = a.put (some d) v := fun v => by rw [hd]
  have hpin' := pinsB_ok hpin
  cases op <;> simp only [callF] at hx <;> try (cases hx; done)
  rename_i c
  obtain ⟨callee, args, ats⟩ := c
  simp only [] at hx
  split at hx <;> try (cases hx; done)
  rename_i g
  split at hx <;> simp at hx
  rename_i ds' hds
  obtain ⟨rfl, rfl⟩ := hx
  have hI : Inv P B F0 w0 (fun _ => True) σ.get σ.get a w O := ⟨hR.below, hR.base, hR.f0, hOr, fun t _ av h => hO t av h, fun t av h _ => hO t av h⟩
  have hr := argsF_run hT hI args.toList ats.toList ds' (fun x hx t ht => trivial) hds
  unfold Oper.wp
  rw [exec_call hP.1]
  show Calls P g (args.map a.eval) w _
  -- what the callee owns, and may read
  let pass : Nat → Prop := fun t => ∃ i, i ∈ is ∧ t = n + i
  let Oc : Nat → Option Nat := fun b => match O b with
    | some t => if n ≤ t then is.idxOf? (t - n) else none
    | none => none
  let Fc : Nat → Prop := fun b => FW B F0 w b ∧ ∀ t, O b = some t → pass t
  have hlt := selR_lt hsel
  obtain ⟨hsl, hsg⟩ := selR_get hsel
  have hOc : ∀ b k, Oc b = some k → ∃ i, is[k]? = some i ∧ O b = some (n + i) := fun b k h => by
    simp only [Oc] at h
    split at h
    · rename_i t ht
      split at h
      · rename_i hnt
        rw [List.idxOf?, List.findIdx?_eq_some_iff_getElem] at h
        obtain ⟨h1, h2, _⟩ := h
        refine ⟨is[k], List.getElem?_eq_getElem h1, ?_⟩
        have : is[k] = t - n := by simpa using h2
        rw [this, ht]; congr 1; omega
      · cases h
    · cases h
  have hOc' : ∀ b k i, is[k]? = some i → O b = some (n + i) → Oc b = some k := fun b k i hk hb => by
    simp only [Oc, hb]
    rw [if_pos (by omega), show n + i - n = i by omega, List.idxOf?, List.findIdx?_eq_some_iff_getElem]
    obtain ⟨h1, h2⟩ := List.getElem?_eq_some_iff.1 hk
    refine ⟨h1, by simp [h2], fun j hj => ?_⟩
    intro hc
    have hc : is[j] = i := by simpa using hc
    have := nodup_get hnd (List.getElem?_eq_getElem (by omega : j < is.length)) (by rw [hk, hc] : is[k]? = some is[j])
    omega
  have hOcn : ∀ b, (∀ t, O b = some t → ¬ pass t) → Oc b = none := fun b hb => by
    cases h : Oc b with
    | none => rfl
    | some k =>
      obtain ⟨i, h1, h2⟩ := hOc b k h
      exact (hb _ h2 ⟨i, List.mem_of_getElem? h1, rfl⟩).elim
  have hOwn : ∀ b, Owned Oc b ↔ ∃ t, O b = some t ∧ pass t := fun b => by
    constructor
    · intro ⟨k, hk⟩
      obtain ⟨i, h1, h2⟩ := hOc b k hk
      exact ⟨_, h2, i, List.mem_of_getElem? h1, rfl⟩
    · intro ⟨t, ht, i, hi, hti⟩
      obtain ⟨k, hk, rfl⟩ := List.getElem_of_mem hi
      subst hti
      exact ⟨k, hOc' b k _ (List.getElem?_eq_getElem hk) ht⟩
  have hFlt : ∀ b, FW B F0 w b → b < w.heap.size := fun b hb => (FW.step hR.f0 hR.base (Nat.le_refl _) b hb).1
  have hfr : ∀ c, Free O (FW B F0 w) c → Free Oc Fc c := fun c hc => ⟨hOcn c (fun t ht => by rw [hc.1] at ht; cases ht), hc.2, fun t ht => by rw [hc.1] at ht; cases ht⟩
  have hc := hP.2 w Fc Oc (args.toList.map a.eval) (fun b hb => hFlt b hb.1) (fun b k hb => by
      obtain ⟨i, h1, h2⟩ := hOc b k hb
      exact ⟨(hOr b _ h2).fw hR.f0, fun t ht => by rw [h2] at ht; cases ht; exact ⟨i, List.mem_of_getElem? h1, rfl⟩⟩) hr.1 (fun i d v h1 h2 => (hr.2 i d v h1 h2).mono hfr (fun _ _ => rfl))
    (fun k r hk => by
      obtain ⟨i, h1, h2⟩ := hsg k r hk
      exact (hL i r h2).owner (fun c hc => hOc' c k i h1 hc) hfr)
  have he : (args.toList.map a.eval).toArray = args.map a.eval := by apply Array.ext'; simp
  rw [he] at hc
  refine hc.mono fun ee w' ⟨v, res, R1, O1, he, hPost, hbel, hOr1, hrd, hL1⟩ => ?_
  subst he
  show wpList P all Q rest (a.put dst v) w'
  have hsz : w.heap.size ≤ w'.heap.size := hbel.size
  have hlen1 := hlen res R1 hPost
  let tg : Nat → Nat := fun k => match is[k]? with
    | some i => i
    | none => R.length + (k - is.length)
  let cv : Option Nat → Option Nat := fun x => x.map (fun k => n + tg k)
  let O3 : Nat → Option Nat := fun b => match O b with
    | some t => if t < n ∨ t - n ∉ is then some t else cv (O1 b)
    | none => cv (O1 b)
  -- a block of the callee's own: it was passed, or it is new
  have hO1 : ∀ b k, O1 b = some k → O3 b = cv (O1 b) := fun b k hk => by
    simp only [O3]
    split
    · rename_i t ht
      rw [if_neg]
      intro hcon
      rcases (hOr1 b k hk).1 with g1 | g1
      · have g1 : w.heap.size ≤ b := g1
        have := (hOr b t ht).2
        omega
      · obtain ⟨t', h1, i, h2, h3⟩ := (hOwn b).1 g1
        rw [ht] at h1; cases h1
        subst h3
        rcases hcon with h | h
        · omega
        · exact h (by rwa [show n + i - n = i by omega])
    · rfl
  have h3n : ∀ c, (O c = none ∨ ∃ t, O c = some t ∧ pass t) → O1 c = none → O3 c = none := fun c hc h1 => by
    simp only [O3]
    split
    · rename_i t ht
      rcases hc with hc | ⟨t', h2, i, h3, h4⟩
      · rw [hc] at ht; cases ht
      · rw [ht] at h2; cases h2
        subst h4
        rw [if_neg (fun h => ?_), h1]; rfl
        rcases h with h | h
        · omega
        · exact h (by rwa [show n + i - n = i by omega])
    · rw [h1]; rfl
  have hfree0 : ∀ c, Free O (FW B F0 w) c → Free O3 (FW B F0 w') c ∧ w'.heap[c]? = w.heap[c]? := fun c hc => by
    have hcl := hFlt c hc.2
    have hnx : ¬ Owned Oc c := fun h => by
      obtain ⟨t, h1, _⟩ := (hOwn c).1 h
      rw [hc.1] at h1; cases h1
    refine ⟨⟨h3n c (.inl hc.1) ?_, ?_⟩, hbel.block c hcl hnx⟩
    · cases h : O1 c with
      | none => rfl
      | some k =>
        exfalso
        rcases (hOr1 c k h).1 with g1 | g1
        · have g1 : w.heap.size ≤ c := g1
          omega
        · exact hnx g1
    · rcases hc.2 with g | ⟨g1, g2⟩
      · exact .inl g
      · exact .inr ⟨g1, Nat.lt_of_lt_of_le g2 hsz⟩
  have hkeep : ∀ t, ¬ pass t → ∀ c, O c = some t → O3 c = some t ∧ w'.heap[c]? = w.heap[c]? := fun t ht c hc => by
    have hnx : ¬ Owned Oc c := fun h => by
      obtain ⟨t', h1, h2⟩ := (hOwn c).1 h
      rw [hc] at h1; cases h1
      exact ht h2
    refine ⟨?_, hbel.block c (hOr c t hc).2 hnx⟩
    simp only [O3, hc]
    rw [if_pos]
    rcases Nat.lt_or_ge t n with h | h
    · exact .inl h
    · exact .inr (fun hm => ht ⟨t - n, hm, by omega⟩)
  have hfree1 : ∀ c, Free O1 (FW w.heap.size Fc w') c → Free O3 (FW B F0 w') c := fun c hc => by
    rcases hc.2 with g | ⟨g1, g2⟩
    · refine ⟨h3n c ?_ hc.1, ?_⟩
      · cases h : O c with
        | none => exact .inl rfl
        | some t => exact .inr ⟨t, rfl, g.2 t h⟩
      · rcases g.1 with g | ⟨g1, g2⟩
        · exact .inl g
        · exact .inr ⟨g1, Nat.lt_of_lt_of_le g2 hsz⟩
    · refine ⟨h3n c (.inl ?_) hc.1, .inr ⟨Nat.le_trans hR.base g1, g2⟩⟩
      cases h : O c with
      | none => rfl
      | some t => have := (hOr c t h).2; omega
  have hdn' : d < n := Nat.le_of_ble_eq_true hdn
  have hX : ∀ b, Owned Oc b → B ≤ b ∨ w0.X b := fun b hb => by
    obtain ⟨t, h1, _⟩ := (hOwn b).1 hb
    exact (hOr b t h1).1
  rw [hdo v]
  refine h res R1 hPost (a.put (some d) v) w' ⟨hR.below.back (w1 := ⟨w, Owned Oc⟩) hR.base hX hbel, Nat.le_trans hR.base hsz, hR.f0, by simp [Act.put, hR.defers], by simp [Act.put, hR.size], O3, fun b t hb => ?_, fun t av hav => ?_, fun j r hj => ?_⟩ (fun e he => ?_) Q hQ
  · have e2 : ∀ k, O1 b = some k → OwnR B w0 w' b := fun k hk => by
      refine ⟨?_, (hOr1 b k hk).2⟩
      rcases (hOr1 b k hk).1 with g | g
      · exact .inl (Nat.le_trans hR.base g)
      · exact hX b g
    have e3 : cv (O1 b) = some t → OwnR B w0 w' b := fun h => by
      cases h1 : O1 b with
      | none => rw [h1] at h; cases h
      | some k => exact e2 k h1
    simp only [O3] at hb
    split at hb
    · rename_i t' ht'
      split at hb
      · exact ⟨(hOr b t' ht').1, Nat.lt_of_lt_of_le (hOr b t' ht').2 hsz⟩
      · exact e3 hb
    · exact e3 hb
  · rw [St.get_cons] at hav
    split at hav
    · rename_i e
      subst e
      cases hav
      exact ⟨v, put_get_same (by rw [hR.size]; exact hdn'), hrd.mono hfree1 (fun _ _ => rfl)⟩
    · rename_i htd
      obtain ⟨u, hu, hur⟩ := hO t av hav
      have htn : t < n := by rw [← hR.size]; exact (Array.getElem?_eq_some_iff.1 hu).1
      refine ⟨u, by rw [put_get (Ne.symm htd)]; exact hu, ?_⟩
      refine hur.move hfree0 (fun _ c hc => hkeep t (fun ⟨i, _, hti⟩ => by omega) c hc) (fun k hk x hx hg => ?_)
      rw [St.get_cons] at hg
      split at hg
      · cases hg; cases hx
      · rename_i hkd
        exact ⟨hg, put_get (Ne.symm hkd)⟩
  · rcases updR_get hlen1 hlt hnd hj with ⟨k, g1, g2⟩ | ⟨g1, g2, g3⟩ | ⟨k, g1, g2⟩
    · exact (hL1 k r g2).owner (fun c hc => by rw [hO1 c k hc, hc]; simp only [cv, tg, g1, Option.map_some]) hfree1
    · rcases hL j r g3 with h | ⟨h1, h2, h3⟩
      · exact .inl h
      · exact .inr ⟨h1, h2, h3.move hfree0 (fun _ c hc => hkeep (n + j) (fun ⟨i, hi, hti⟩ => g1 (by rwa [show j = i by omega])) c hc) (fun k _ x _ hk => by cases hk)⟩
    · subst g1
      refine (hL1 _ r g2).owner (fun c hc => ?_) hfree1
      rw [hO1 c _ hc, hc]
      have : is[is.length + k]? = none := List.getElem?_eq_none (by omega)
      simp only [cv, tg, this, Option.map_some]
      congr 2; omega
  · have hne : e.1 ≠ d := fun h => hpin' e he _ (List.mem_singleton.2 rfl) (by simp only []; rw [h]; exact hd)
    rw [put_get hne]
    exact hpins e he
end
end Lift
/- Loose rows are read where they are. -/
namespace Lift
open Go
open Go.RowKit (Below)

section
variable {P : Program} {T : Ty} {B : Nat} {F0 : Nat → Prop} {w0 : Bas} {n : Nat} {σ σ' τ σ0 : St} {R R' : List LR} {ops all : Array Oper} {l rest : List Oper} {o : Oper} {d : Nat} {lk hm : Nat → Option AV} {K : List LR → St → Prop} {p : Pins} {ds : List Nat}

def ptrV (V : Value) (k : Nat) : Value := match V with
  | .slice (some ⟨b, o, x⟩) _ _ => .pointer (some ⟨b, o + k, x⟩)
  | _ => undef
theorem Seen.plain {V : Value} {e : Nat} {xs : List D} (h : Seen P B F0 w0 V e xs) (k : Nat) : ∃ b cap, V = .slice (some ⟨b, 0, none⟩) xs.length cap ∧ ptrV V k = .pointer (some ⟨b, k, none⟩) := by
  obtain ⟨b, cap, cs, rfl, _⟩ := h
  exact ⟨b, cap, rfl, by simp [ptrV]⟩

/-- An index into a row that is seen: the row's value, the size of its elements, the index. -/
def idxS (T : Ty) (lk : Nat → Option AV) : Op → Option (Value × Nat × Int)
  | .indexAddr t x i => match T.get t, datF T (ex T lk 0 x), scal (datF T (ex T lk 0 i)) with
    | some ti, some (.v V), some (.int _ iv) => match Nat.beq ti.kind 4, T.get ti.elem with
      | true, some te => some (V, te.size, iv)
      | _, _ => none
    | _, _, _ => none
  | _ => none
theorem PStep.idxs (hT : TOk P T) {V : Value} {e s : Nat} {xs : List D} {iv : Int} (hS : Seen P B F0 w0 V e xs) (hd : o.dst = some d) (hn : hm d = none) (h : idxS T lk o.op = some (V, s, iv)) (h0 : 0 ≤ iv) (hl : iv.toNat < xs.length) : PStep P B F0 w0 d o lk hm (.d (.v (ptrV V (iv.toNat * s)))) := by
  refine ⟨hd, hn, fun a w O hI K Q hK => ?_⟩
  obtain ⟨dst, op, ty, pos, after, guard⟩ := o
  simp only [] at hd h hI
  cases op <;> simp only [idxS] at h <;> try (cases h; done)
  rename_i t x i
  split at h <;> try (cases h; done)
  rename_i ti V' k iv' hti hx hi
  split at h <;> simp at h
  rename_i te hk hte
  obtain ⟨rfl, rfl, rfl⟩ := h
  obtain ⟨info, dd, z, hok⟩ := hT t ti hti
  obtain ⟨info', dd', z', hok'⟩ := hT _ te hte
  have hxv := (datF_ex hT hI (fun t ht => by subst ht; simp [Op.operands]) hx).v_eq.1
  have hiv := (scal_ex hT hI (fun t ht => by subst ht; simp [Op.operands]) hi).1
  obtain ⟨b, cap, hV, hp⟩ := hS.plain (iv'.toNat * te.size)
  rw [hV] at hxv
  refine wp_val (v := ptrV V' (iv'.toNat * te.size)) (w' := w) ?_ (hK _ w O (Grow.refl hI.lt) (.v (by rw [hp]; rfl)))
  have h1 : 0 ≤ iv' ∧ iv' < (xs.length : Int) := by omega
  rw [hp]
  simp [execOp, Instr.indexAt, hxv, hiv, asIntOf, run_underlying (hok.kind4 hk).1, h1, Go.sizeOf, typeInfo, hok'.hinfo, hok'.size, Addr.add_lit]

/-- The element of a row that is seen. -/
def loadS (T : Ty) (lk : Nat → Option AV) : Op → Option (TI × Value)
  | .load t x => match T.get t, datF T (ex T lk 0 x) with
    | some ti, some (.v V) => some (ti, V)
    | _, _ => none
  | _ => none
theorem PStep.loads (hT : TOk P T) {V : Value} {e i s : Nat} {xs : List D} {ti te : TI} {y : D} {av : AV} (hS : Seen P B F0 w0 V e xs) (hd : o.dst = some d) (hn : hm d = none) (h : loadS T lk o.op = some (ti, ptrV V (i * s))) (hte : T.get e = some te) (hs : te.size = s) (hy : xs[i]? = some y) (hav : loadD ti y.flat = some av) :
    PStep P B F0 w0 d o lk hm av := by
  refine ⟨hd, hn, fun a w O hI K Q hK => ?_⟩
  obtain ⟨dst, op, ty, pos, after, guard⟩ := o
  simp only [] at hd h hI
  cases op <;> simp only [loadS] at h <;> try (cases h; done)
  rename_i t x
  split at h <;> simp at h
  rename_i ti' V' hti hx
  obtain ⟨rfl, rfl⟩ := h
  obtain ⟨info, dd, z, hok⟩ := hT t ti' hti
  obtain ⟨info', dd', z', hok'⟩ := hT _ te hte
  have hxv := (datF_ex hT hI (fun t ht => by subst ht; simp [Op.operands]) hx).v_eq.1
  obtain ⟨b, cap, cs, hV, h1, h2, h3, h4, h5⟩ := hS
  have hp : ptrV V (i * s) = .pointer (some ⟨b, i * s, none⟩) := by rw [hV]; simp [ptrV]
  rw [hp] at hxv
  have hb : w.heap[b]? = some (.cells cs e (0, 0)) := by rw [hI.below.block b h1 h2]; exact h3
  have hsz : P.cellsOf e = s := by rw [hok'.cellsOf, hs]
  obtain ⟨x', v, rfl, hrun, hrd⟩ := load_run (F := Free O (FW B F0 w)) hok hb (off := i * s) (fun j z hj => by
    have hlt : j < P.cellsOf e := by rw [← h4 y (List.mem_of_getElem? hy)]; exact (List.getElem?_eq_some_iff.1 hj).1
    have := flatAll_get j h4 hy hlt
    rw [hj] at this
    obtain ⟨f1, u, f2, f3⟩ := h5 _ z this
    exact ⟨f1, u, by rw [← hsz]; exact f2, f3 w O hI.below hI.orange⟩) hav
  exact wp_val (v := v) (w' := w) (by simp [execOp, Instr.loadAt, Instr.sureAddr, hxv, hrun]) (hK _ w O (Grow.refl hI.lt) hrd)

/-- The length of a row that is seen. -/
def lenS (T : Ty) (lk : Nat → Option AV) : Op → Option Value
  | .call c => match c.callee with
    | .builtin .len => match c.args.toList, c.argTypes.toList with
      | [x], [t] => match T.get t, datF T (ex T lk 0 x) with
        | some i, some (.v V) => match Nat.beq i.kind 4 with
          | true => some V
          | false => none
        | _, _ => none
      | _, _ => none
    | _ => none
  | _ => none
theorem PStep.lens (hT : TOk P T) {V : Value} {e : Nat} {xs : List D} (hS : Seen P B F0 w0 V e xs) (hd : o.dst = some d) (hn : hm d = none) (h : lenS T lk o.op = some V) : PStep P B F0 w0 d o lk hm (.d (.v (.int .i64 (xs.length : Int)))) := by
  refine ⟨hd, hn, fun a w O hI K Q hK => ?_⟩
  obtain ⟨dst, op, ty, pos, after, guard⟩ := o
  simp only [] at hd h hI
  cases op <;> simp only [lenS] at h <;> try (cases h; done)
  rename_i c
  obtain ⟨callee, args, ats⟩ := c
  simp only [] at h
  split at h <;> try (cases h; done)
  split at h <;> try (cases h; done)
  rename_i x t hargs hats
  split at h <;> try (cases h; done)
  rename_i i V' hti hx
  split at h <;> simp at h
  rename_i hk
  subst h
  obtain ⟨info, dd, z, hok⟩ := hT t i hti
  have hargs' : args = #[x] := by apply Array.ext'; simpa using hargs
  have hats' : ats = #[t] := by apply Array.ext'; simpa using hats
  subst hargs'
  subst hats'
  have hxv := (datF_ex hT hI (fun t ht => by subst ht; simp [Op.operands, Call.operands]) hx).v_eq.1
  obtain ⟨b, cap, hV, _⟩ := hS.plain 0
  refine wp_val (v := .int .i64 (xs.length : Int)) (w' := w) ?_ (hK _ w O (Grow.refl hI.lt) (.v rfl))
  have hrun : (Builtin.len_ #[t] ty #[V']).run P w = .ok (.int .i64 (xs.length : Int)) w := by
    rw [hV]
    simp [Builtin.len_, run_underlying (hok.kind4 hk).1, goInt]
  simp [execOp, resolve, invoke, builtin, hxv, hrun]

theorem AOps.idxs (hT : TOk P T) {K : St → Prop} {V : Value} {e s : Nat} {xs : List D} {iv : Int} (hS : Seen P B F0 w0 V e xs) (hd : o.dst = some d) (hdn : Nat.ble (d + 1) n = true) (hg : guardOk all σ o = true) (hx : idxS T σ.get o.op = some (V, s, iv)) (h0 : 0 ≤ iv) (hl : iv.toNat < xs.length)
    (h : AOps P B F0 w0 n all rest K ((d, .d (.v (ptrV V (iv.toNat * s)))) :: σ)) : AOps P B F0 w0 n all (o :: rest) K σ := AOps.pure hg hdn (PStep.idxs hT hS hd (hmx_self σ d) hx h0 hl) h
theorem AOps.loads (hT : TOk P T) {K : St → Prop} {V : Value} {e i s : Nat} {xs : List D} {ti te : TI} {x : D} (y : D) (hS : Seen P B F0 w0 V e xs) (hd : o.dst = some d) (hdn : Nat.ble (d + 1) n = true) (hg : guardOk all σ o = true) (hx : loadS T σ.get o.op = some (ti, ptrV V (i * s))) (hte : T.get e = some te) (hs : te.size = s) (hy : xs[i]? = some y) (hav : loadD ti y.flat = some (.d x))
    (h : AOps P B F0 w0 n all rest K ((d, .d x) :: σ)) : AOps P B F0 w0 n all (o :: rest) K σ := AOps.pure hg hdn (PStep.loads hT hS hd (hmx_self σ d) hx hte hs hy hav) h
theorem AOps.lens (hT : TOk P T) {K : St → Prop} {V : Value} {e : Nat} {xs : List D} (hS : Seen P B F0 w0 V e xs) (hd : o.dst = some d) (hdn : Nat.ble (d + 1) n = true) (hg : guardOk all σ o = true) (hx : lenS T σ.get o.op = some V)
    (h : AOps P B F0 w0 n all rest K ((d, .d (.v (.int .i64 (xs.length : Int)))) :: σ)) : AOps P B F0 w0 n all (o :: rest) K σ := AOps.pure hg hdn (PStep.lens hT hS hd (hmx_self σ d) hx) h
theorem APre.idxs (hT : TOk P T) {K : St → Prop} {V : Value} {e s : Nat} {xs : List D} {iv : Int} (hS : Seen P B F0 w0 V e xs) (hd : o.dst = some d) (hdn : Nat.ble (d + 1) n = true) (hg : guardOk ops τ o = true) (hs : σ0.get d = none) (hx : idxS T τ.get o.op = some (V, s, iv)) (h0 : 0 ≤ iv) (hl : iv.toNat < xs.length)
    (h : APre P B F0 w0 n ops ds σ0 rest ((d, .d (.v (ptrV V (iv.toNat * s)))) :: τ) K) : APre P B F0 w0 n ops ds σ0 (o :: rest) τ K := APre.pure hd hdn rfl hg (PStep.idxs hT hS hd hs hx h0 hl) h
theorem APre.loads (hT : TOk P T) {K : St → Prop} {V : Value} {e i s : Nat} {xs : List D} {ti te : TI} {x : D} (y : D) (hS : Seen P B F0 w0 V e xs) (hd : o.dst = some d) (hdn : Nat.ble (d + 1) n = true) (hg : guardOk ops τ o = true) (hs : σ0.get d = none) (hx : loadS T τ.get o.op = some (ti, ptrV V (i * s))) (hte : T.get e = some te) (hs2 : te.size = s) (hy : xs[i]? = some y) (hav : loadD ti y.flat = some (.d x))
    (h : APre P B F0 w0 n ops ds σ0 rest ((d, .d x) :: τ) K) : APre P B F0 w0 n ops ds σ0 (o :: rest) τ K := APre.pure hd hdn rfl hg (PStep.loads hT hS hd hs hx hte hs2 hy hav) h
theorem APre.lens (hT : TOk P T) {K : St → Prop} {V : Value} {e : Nat} {xs : List D} (hS : Seen P B F0 w0 V e xs) (hd : o.dst = some d) (hdn : Nat.ble (d + 1) n = true) (hg : guardOk ops τ o = true) (hs : σ0.get d = none) (hx : lenS T τ.get o.op = some V)
    (h : APre P B F0 w0 n ops ds σ0 rest ((d, .d (.v (.int .i64 (xs.length : Int)))) :: τ) K) : APre P B F0 w0 n ops ds σ0 (o :: rest) τ K := APre.pure hd hdn rfl hg (PStep.lens hT hS hd hs hx) h

/-- What the loose rows are, seen from a base. -/
def SeenR (P : Program) (B : Nat) (F0 : Nat → Prop) (w0 : Bas) (R : List LR) : Prop := ∀ (i : Nat) (V : Value) (e : Nat) (xs : List D), R[i]? = some (V, .ow e xs) → xs ≠ [] → Seen P B F0 w0 V e xs
theorem SeenR.at {i : Nat} {V : Value} {e : Nat} {xs : List D} (h : SeenR P B F0 w0 R) (hi : R[i]? = some (V, .ow e xs)) (hne : 0 < xs.length) : Seen P B F0 w0 V e xs := h i V e xs hi (fun e => by subst e; simp at hne)
variable {Q : Exit → List LR → St → Prop} {x : Code}
theorem AZ.frameS (h : ∀ B1 F1 w1, SeenR P B1 F1 w1 R → AW P B1 F1 w1 n x (fun e σ' => σ'.noTag = true ∧ Q e R σ') σ) : AZ P B F0 w0 n x Q R σ := by
  intro a w hR
  obtain ⟨B1, F1, w1, hR1, hS, hback⟩ := hR.subS
  exact wp_mono (h B1 F1 w1 hS a w hR1) fun e a' w' ⟨σ', ⟨h1, h2⟩, hR'⟩ => ⟨R, σ', h2, hback σ' a' w' h1 hR'⟩
theorem AZ.regS {id : Nat} (h : ∀ B1 F1 w1, SeenR P B1 F1 w1 R → AOps P B1 F1 w1 n ops ops.toList (fun σ' => σ'.noTag = true ∧ Q .normal R σ') σ) : AZ P B F0 w0 n (.region id ops false) Q R σ :=
  AZ.frameS fun B1 F1 w1 hS => AW.region (h B1 F1 w1 hS)
theorem ZAny.drawS (m : Nat) (hB : drawB ops m = true)
    (h : ∀ B1 F1 w1, SeenR P B1 F1 w1 R → APre P B1 F1 w1 n ops (heads ops m) (σ.less (heads ops m)) (ops.toList.take m) (σ.less (heads ops m)) (fun τ => τ.noTag = true ∧ AZOps P B F0 w0 n ops (ops.toList.drop m) (Q .normal) [] R τ)) : ZAny P B F0 w0 n ops Q R σ := by
  intro a w hR
  obtain ⟨B1, F1, w1, hR1, hS, hback⟩ := hR.subS
  exact AAny.drawG m hB (fun τ a' w' ⟨ht, hz⟩ hR' => hz a' w' (hback τ a' w' ht hR') (fun e he => by cases he) _ (fun a w R' σ' hk hr => ⟨R', σ', hk, hr⟩)) (h B1 F1 w1 hS) a w hR1

/-- A pointer into a loose row whose home is slot t by now. -/
theorem RelZ.el {t u e k : Nat} {V : Value} {xs : List D} {a : Act} {w : World} (hR : RelZ P B F0 w0 n R σ a w) (ht : σ.get t = some (.ow e xs)) (hV : a.tmps[t]? = some V) (hu : σ.get u = some (.d (.v (ptrV V (k * P.cellsOf e))))) (hk : k < xs.length) (htu : t ≠ u) :
    RelZ P B F0 w0 n R ((u, .el t k 0) :: σ) a w := by
  obtain ⟨O, hOr, hO, hL⟩ := hR.own
  obtain ⟨v, hv, hr⟩ := hO t _ ht
  rw [hV] at hv
  cases hv
  refine ⟨hR.below, hR.base, hR.f0, hR.defers, hR.size, O, hOr, fun j av hj => ?_, hL⟩
  have hkeep : ∀ j x, x.home = true → St.get ((u, AV.el t k 0) :: σ) j = some x → σ.get j = some x ∧ a.tmps[j]? = a.tmps[j]? := fun j x hx hj => by
    rw [St.get_cons] at hj
    split at hj
    · cases hj; cases hx
    · exact ⟨hj, rfl⟩
  rw [St.get_cons] at hj
  split at hj
  · rename_i e'
    subst e'
    cases hj
    obtain ⟨v', hv', hr'⟩ := hO u _ hu
    refine ⟨v', hv', fun x e' l hx hrow => ?_⟩
    have hx' := (hkeep t x (row_home (by rw [hrow]; rfl)) hx).1
    rw [ht] at hx'
    cases hx'
    simp only [AV.row, Option.some.injEq, Prod.mk.injEq] at hrow
    obtain ⟨rfl, rfl⟩ := hrow
    refine ⟨hk, ?_⟩
    rcases hr with ⟨_, _, h⟩ | ⟨b, cap, cs, rfl, _⟩
    · subst h; simp at hk
    refine ⟨b, 0, _, cap, hV, ?_⟩
    have := (Rd.v_eq hr').1
    rw [this]
    simp [ptrV]
  · obtain ⟨z, hz, hzr⟩ := hO j av hj
    exact ⟨z, hz, hzr.move (fun c hc => ⟨hc, rfl⟩) (fun _ c hc => ⟨hc, rfl⟩) (fun k _ x hx hk => hkeep k x hx hk)⟩
theorem AZOps.el (hT : TOk P T) (t u : Nat) {e k s : Nat} {V : Value} {xs : List D} {te : TI} (ht : σ.get t = some (.ow e xs)) (hp : (t, V) ∈ p) (hu : σ.get u = some (.d (.v (ptrV V (k * s))))) (hte : T.get e = some te) (hs : te.size = s) (hk : k < xs.length) (htu : Nat.beq t u = false)
    (h : AZOps P B F0 w0 n all l K p R ((u, .el t k 0) :: σ)) : AZOps P B F0 w0 n all l K p R σ := by
  intro a w hR hpin Q hQ
  obtain ⟨info, d, z, hok⟩ := hT e te hte
  exact h a w (hR.el ht (hpin _ hp) (by rw [hok.cellsOf, hs]; exact hu) hk (Nat.ne_of_beq_eq_false htu)) hpin Q hQ
end
end Lift
/- Two moves that may be taken first in a region whose order is open. -/
namespace Lift
open Go
open Go.RowKit (Below)

section
variable {P : Program} {T : Ty} {B : Nat} {F0 : Nat → Prop} {w0 : Bas} {n : Nat} {σ : St} {ops E : Array Oper}

/-- All but i wait for j. -/
def edgeX (j i k : Nat) (o : Oper) : Oper := match Nat.beq k i with
  | true => o
  | false => addEdge j k o
def earlierX (j i : Nat) (ops : Array Oper) : Array Oper := (ops.toList.zipIdx.map fun x => edgeX j i x.2 x.1).toArray
theorem earlierX_get (j i : Nat) (ops : Array Oper) (k : Nat) : (earlierX j i ops)[k]? = (ops[k]?).map (edgeX j i k) := by
  unfold earlierX
  rw [List.getElem?_toArray, List.getElem?_map, List.getElem?_zipIdx]
  simp
  cases ops[k]? <;> rfl
theorem earlierX_size (j i : Nat) (ops : Array Oper) : (earlierX j i ops).size = ops.size := by simp [earlierX]
theorem edgeX_op (j i k : Nat) (o : Oper) : (edgeX j i k o).op = o.op ∧ (edgeX j i k o).dst = o.dst ∧ (edgeX j i k o).guard = o.guard := by
  unfold edgeX
  split
  · exact ⟨rfl, rfl, rfl⟩
  · exact addEdge_op j k o
theorem edgeX_exec (j i k : Nat) (o : Oper) (ρ : Operand → Value) : execOp ρ (edgeX j i k o) = execOp ρ o := by
  unfold edgeX
  split
  · rfl
  · exact addEdge_exec j k o ρ
variable {Q : Exit → Act → World → Prop}
theorem wpOp_earlierX (j i k : Nat) {K : Act → World → Prop} {a : Act} {w : World} (h : wpOp P (earlierX j i ops) Q k K a w) : wpOp P ops Q k K a w := by
  unfold wpOp at *
  rw [earlierX_get] at h
  cases ho : ops[k]? with
  | none => rw [ho] at h; exact h
  | some o =>
    rw [ho] at h
    simp only [Option.map_some] at h ⊢
    obtain ⟨e1, e2, e3⟩ := edgeX_op j i k o
    have hy : ∀ g, yielded (earlierX j i ops) a.tmps g = yielded ops a.tmps g := fun g => by
      unfold yielded
      rw [earlierX_get]
      cases ops[g]? with
      | none => rfl
      | some og => simp only [Option.map_some, Option.bind_some, (edgeX_op j i g og).2.1]
    have hw : Region.wanted (edgeX j i k o) (yielded (earlierX j i ops) a.tmps) = Region.wanted o (yielded ops a.tmps) := by
      unfold Region.wanted
      rw [e3]
      split
      · rfl
      · rw [hy]
    rw [hw, e2] at h
    have hwp : (edgeX j i k o).wp P a w K Q → o.wp P a w K Q := fun h => by
      unfold Oper.wp at *
      rw [edgeX_exec] at h
      generalize (execOp a.eval o).run P w = r at *
      cases r with
      | ok n w' => cases n <;> simp only [Oper.upon, e2] at h ⊢ <;> exact h
      | halt x w' => cases x <;> simp only [Oper.upon] at h ⊢ <;> exact h
    have has : (edgeX j i k o).asks P a w → o.asks P a w := fun h => by
      unfold Oper.asks at *
      rw [edgeX_exec] at h
      exact h
    split
    · rename_i hc
      rw [if_pos hc] at h
      rcases h with h | ⟨h1, h2⟩
      · exact .inl (hwp h)
      · exact .inr ⟨has h1, h2⟩
    · rename_i hc
      rw [if_neg hc] at h
      exact h
theorem ready_earlierX {j i : Nat} {listed : Array Bool} (hj : listed.getD j false = true) (k : Nat) : k ∈ Region.ready .any (earlierX j i ops) listed ↔ k ∈ Region.ready .any ops listed := by
  rw [mem_ready, mem_ready, earlierX_get]
  have key : ∀ (o : Oper) (e : Edge), e ∈ (edgeX j i k o).after → e ∈ o.after ∨ listed.getD e.on false = true := fun o e he => by
    unfold edgeX addEdge at he
    split at he
    · exact .inl he
    · split at he
      · exact .inl he
      · simp at he
        rcases he with he | rfl
        · exact .inl he
        · exact .inr hj
  have key2 : ∀ (o : Oper) (e : Edge), e ∈ o.after → e ∈ (edgeX j i k o).after := fun o e he => by
    unfold edgeX addEdge
    split
    · exact he
    · split
      · exact he
      · simp [he]
  refine and_congr Iff.rfl ⟨fun ⟨o, ho, hall⟩ => ?_, fun ⟨o, ho, hall⟩ => ?_⟩
  · cases hk : ops[k]? with
    | none => rw [hk] at ho; cases ho
    | some ok =>
      rw [hk] at ho
      simp at ho
      subst ho
      exact ⟨ok, rfl, fun e he hb => hall e (key2 ok e he) hb⟩
  · refine ⟨edgeX j i k o, by rw [ho]; rfl, fun e he hb => ?_⟩
    rcases key o e he with h | h
    · exact hall e h hb
    · exact h
theorem wpAny_earlierX {j i : Nat} : ∀ (f : Nat) (listed : Array Bool) (a : Act) (w : World), listed.getD j false = true → wpAny P .any (earlierX j i ops) Q f listed a w → wpAny P .any ops Q f listed a w
  | 0, listed, a, w, hi, h => by
    refine ⟨?_, h.2⟩
    apply List.eq_nil_iff_forall_not_mem.2
    intro k hk
    have := (ready_earlierX (i := i) hi k).2 hk
    rw [h.1] at this
    cases this
  | f + 1, listed, a, w, hi, h => by
    refine ⟨fun hn => h.1 ?_, fun k hk => ?_⟩
    · apply List.eq_nil_iff_forall_not_mem.2
      intro k hk
      have := (ready_earlierX (i := i) hi k).1 hk
      rw [hn] at this
      cases this
    · exact wpOp_mono (fun a' w' h' => wpAny_earlierX f _ a' w' (getD_set_true hi) h') (wpOp_earlierX j i k (h.2 k ((ready_earlierX (i := i) hi k).2 hk)))

/-- All wait for i, which waits for nothing; j is a move that waits for i alone; the others wait for j or have nothing to do with it. -/
def early2B (ops : Array Oper) (i j : Nat) : Bool := match ops[i]?, ops[j]? with
  | some oi, some oj => oi.guard.isNone && (oi.after.toList.all fun e => !Region.binds .any e) && (isMv oj.op).isSome && oj.guard.isNone && (oj.after.toList.all fun e => !Region.binds .any e || Nat.beq e.on i) && noSel ops && !Nat.beq i j &&
      ((List.range ops.size).all fun k => Nat.beq k i || match ops[k]? with
        | some o => o.after.toList.any fun e => Region.binds .any e && Nat.beq e.on i
        | none => true) &&
      ((List.range ops.size).all fun k => Nat.beq k j || match ops[k]? with
        | some o => (o.after.toList.any fun e => Region.binds .any e && Nat.beq e.on j) || oj.apart ops o || Nat.beq k i
        | none => true)
  | _, _ => false
theorem AAny.early2 {Q : Exit → St → Prop} {ops : Array Oper} (i j : Nat) (hB : early2B ops i j = true) (hQ : ∀ c σ, Q (.panic c) σ → False) (h : AAny P B F0 w0 n (earlierX j i ops) Q σ) : AAny P B F0 w0 n ops Q σ := by
  intro a w hR
  have hA := h a w hR
  unfold early2B at hB
  split at hB
  rotate_left
  · cases hB
  rename_i oi oj hoi hoj
  simp only [Bool.and_eq_true, List.all_eq_true, Bool.not_eq_true'] at hB
  obtain ⟨⟨⟨⟨⟨⟨⟨⟨hgi, hai⟩, hmv⟩, hgj⟩, haj⟩, hsel⟩, hij⟩, hwi⟩, hwj⟩ := hB
  have hij := Nat.ne_of_beq_eq_false hij
  have hil : i < ops.size := (Array.getElem?_eq_some_iff.1 hoi).1
  have hjl : j < ops.size := (Array.getElem?_eq_some_iff.1 hoj).1
  obtain ⟨x, hx⟩ := Option.isSome_iff_exists.1 hmv
  have hop : oj.op = .move x := by
    cases ho : oj.op <;> rw [ho] at hx <;> simp [isMv] at hx
    rw [hx]
  have hgin : oi.guard = none := by simpa using hgi
  have hgjn : oj.guard = none := by simpa using hgj
  obtain ⟨s, hs⟩ : ∃ s, ops.size = s + 2 := ⟨ops.size - 2, by omega⟩
  let l0 : Array Bool := Array.replicate ops.size false
  let l1 : Array Bool := l0.setIfInBounds i true
  have hl0 : ∀ k, l0.getD k false = false := fun k => getD_replicate_false _ _
  have hi0 : l0.getD i true = false := getD_in (by simpa [l0] using hil) (getD_replicate_false _ _)
  have hl1i : l1.getD i false = true := by
    simp only [l1, l0, Array.getD_eq_getD_getElem?]
    rw [Array.getElem?_setIfInBounds_self_of_lt (by simpa using hil)]; rfl
  have hl1 : ∀ k, k ≠ i → ∀ d, l1.getD k d = l0.getD k d := fun k hk d => by
    simp only [l1, Array.getD_eq_getD_getElem?]
    rw [Array.getElem?_setIfInBounds_ne (Ne.symm hk)]
  have hj1 : l1.getD j true = false := by
    rw [hl1 j (Ne.symm hij)]
    exact getD_in (by simpa [l0] using hjl) (getD_replicate_false _ _)
  have hri : ∀ ops' : Array Oper, (∃ o, ops'[i]? = some o ∧ ∀ e, e ∈ o.after → e ∈ oi.after) → i ∈ Region.ready .any ops' l0 := fun ops' ⟨o, h', ha⟩ => by
    rw [mem_ready]
    refine ⟨hi0, o, h', fun e he hb => ?_⟩
    have := hai e (by simpa using ha e he)
    rw [hb] at this
    cases this
  have hri1 := hri ops ⟨oi, hoi, fun e he => he⟩
  have hri2 := hri (earlierX j i ops) ⟨oi, by rw [earlierX_get, hoi]; simp [edgeX], fun e he => he⟩
  have hrj : j ∈ Region.ready .any ops l1 := by
    rw [mem_ready]
    refine ⟨hj1, oj, hoj, fun e he hb => ?_⟩
    have := haj e (by simpa using he)
    rw [hb] at this
    simp at this
    rw [this]; exact hl1i
  have hrjX : j ∈ Region.ready .any (earlierX j i ops) l1 := by
    rw [mem_ready]
    refine ⟨hj1, oj, by rw [earlierX_get, hoj]; simp [edgeX, addEdge, Ne.symm hij]; split <;> rfl, fun e he hb => ?_⟩
    have := haj e (by simpa using he)
    rw [hb] at this
    simp at this
    rw [this]; exact hl1i
  have hexec : ∀ (a : Act) (w : World), (execOp a.eval oj).run P w = .ok (.value (a.eval x)) w := fun a w => by
    obtain ⟨dst, op, ty, pos, after, guard⟩ := oj
    simp only [] at hop
    subst hop
    simp [execOp]
  have step : ∀ a w, wpAny P .any (earlierX j i ops) (fun e a' w' => ∃ σ', Q e σ' ∧ Rel P B F0 w0 n σ' a' w') (s + 1) l1 a w → wpAny P .any ops (fun e a' w' => ∃ σ', Q e σ' ∧ Rel P B F0 w0 n σ' a' w') (s + 1) l1 a w := fun a w hA => by
    have hwant : Region.wanted oj (yielded ops a.tmps) = true := by simp [Region.wanted, hgjn]
    have h1 := wpOp_earlierX j i j (hA.2 j hrjX)
    have h2 : wpAny P .any (earlierX j i ops) (fun e a' w' => ∃ σ', Q e σ' ∧ Rel P B F0 w0 n σ' a' w') s (l1.setIfInBounds j true) (a.put oj.dst (a.eval x)) w := by
      unfold wpOp at h1
      simp only [hoj, hwant, if_true] at h1
      rcases h1 with h1 | ⟨h1, _⟩
      · unfold Oper.wp at h1
        rw [hexec] at h1
        exact h1
      · exfalso
        unfold Oper.asks at h1
        have hx0 : execOp a.eval oj = pure (.value (a.eval x)) := by
          obtain ⟨dst, op, ty, pos, after, guard⟩ := oj
          simp only [] at hop
          subst hop
          rfl
        rw [hx0] at h1
        have h2 := h1.1
        simp [-Sem.runT_eq, pure, Sem.runT] at h2
    have h3 := wpAny_earlierX s _ _ _ (by
      simp only [Array.getD_eq_getD_getElem?]
      rw [Array.getElem?_setIfInBounds_self_of_lt (by simpa [l1, l0] using hjl)]; rfl) h2
    refine wpAny_first (i := j) (oi := oj) (v := a.eval x) hoj (fun k o cs b hk he => ?_) (fun c a' w' ⟨σ', hq, _⟩ => (hQ c σ' hq).elim) s _ a _ (fun k ok hk hkj hkl hne => ?_) hrj (.inl ⟨hwant, fun w => hexec a w⟩) h3
    · unfold noSel at hsel
      have := List.all_eq_true.1 hsel o (by simpa using Array.mem_of_getElem? hk)
      rw [he] at this
      cases this
    · have hkl' : k < ops.size := (Array.getElem?_eq_some_iff.1 hk).1
      have := hwj k (List.mem_range.2 hkl')
      rw [hk] at this
      simp only [Bool.or_eq_true] at this
      rcases this with h | h
      · exact absurd (Nat.eq_of_beq_eq_true h) hkj
      · rcases h with (h | h) | h
        · exfalso
          obtain ⟨e, he, hb⟩ := List.any_eq_true.1 h
          simp only [Bool.and_eq_true] at hb
          exact hne e (by simpa using he) hb.1 (Nat.eq_of_beq_eq_true hb.2)
        · exact h
        · exfalso
          have hki := Nat.eq_of_beq_eq_true h
          rw [hki] at hkl
          have : l1.getD i true = true := by
            simp only [l1, l0, Array.getD_eq_getD_getElem?]
            rw [Array.getElem?_setIfInBounds_self_of_lt (by simpa using hil)]; rfl
          rw [this] at hkl
          cases hkl
  rw [earlierX_size, hs] at hA
  rw [hs]
  have e0 : Array.replicate (s + 2) false = l0 := by simp only [l0]; rw [hs]
  rw [e0] at hA ⊢
  refine ⟨fun hn => (by rw [hn] at hri1; cases hri1), fun k hk => ?_⟩
  have hki : k = i := by
    by_cases hki : k = i
    · exact hki
    · exfalso
      obtain ⟨_, o, ho, hall⟩ := mem_ready.1 hk
      have := hwi k (List.mem_range.2 (Array.getElem?_eq_some_iff.1 ho).1)
      rw [ho] at this
      simp only [Bool.or_eq_true] at this
      rcases this with h | h
      · exact hki (Nat.eq_of_beq_eq_true h)
      · obtain ⟨e, he, hb⟩ := List.any_eq_true.1 h
        simp only [Bool.and_eq_true] at hb
        have h1 := hall e (by simpa using he) hb.1
        rw [hl0] at h1
        cases h1
  subst hki
  exact wpOp_mono (fun a' w' h' => step a' w' h') (wpOp_earlierX j k k (hA.2 k hri2))
end
end Lift
/- Regions whose order is open, where two late operations may still be to come when what follows the first store begins. -/
namespace Lift
open Go
open Go.RowKit (Below)

section
variable {P : Program} {T : Ty} {B : Nat} {F0 : Nat → Prop} {w0 : Bas} {n : Nat} {σ : St} {ops : Array Oper} {K : St → Prop}

/-- What is left is taken, in any order. -/
def Ords (P : Program) (B : Nat) (F0 : Nat → Prop) (w0 : Bas) (n : Nat) (ops : Array Oper) (K : St → Prop) : Nat → Array Bool → St → Prop
  | 0, listed, σ => Region.ready .any ops listed = [] ∧ K σ
  | f + 1, listed, σ => Region.ready .any ops listed ≠ [] ∧ ∀ j, j ∈ Region.ready .any ops listed → ∃ o, ops[j]? = some o ∧ AOps P B F0 w0 n ops [o] (Ords P B F0 w0 n ops K f (listed.setIfInBounds j true)) σ
theorem wpOp_one {Q : Exit → Act → World → Prop} {o : Oper} {j : Nat} (ho : ops[j]? = some o) {K' : St → Prop} {M : Act → World → Prop} (h : AOps P B F0 w0 n ops [o] K' σ) (hK : ∀ a w σ', K' σ' → Rel P B F0 w0 n σ' a w → M a w) {a : Act} {w : World} (hR : Rel P B F0 w0 n σ a w) : wpOp P ops Q j M a w := by
  have h1 := h a w hR (fun e a w => e = .normal ∧ M a w) (fun a w σ' h1 h2 => ⟨rfl, hK a w σ' h1 h2⟩)
  unfold wpList at h1
  unfold wpOp
  rw [ho]
  simp only []
  split at h1
  · rename_i hw
    rw [if_pos hw]
    rcases h1 with h1 | ⟨_, a1, w1, h2, _⟩
    · exact .inl (upon_keep (Q := fun e a w => e = .normal ∧ M a w) (fun c a w h => by cases h.1) (fun h => by obtain ⟨a, w, h, _⟩ := h; cases h) (fun v d w h => h.2) h1)
    · cases h2
  · rename_i hw
    rw [if_neg hw]
    exact h1.2
theorem Ords.any {Q : Exit → Act → World → Prop} : ∀ {f : Nat} {listed : Array Bool} {σ : St}, Ords P B F0 w0 n ops K f listed σ → (∀ a w σ', K σ' → Rel P B F0 w0 n σ' a w → Q .normal a w) → ∀ a w, Rel P B F0 w0 n σ a w → wpAny P .any ops Q f listed a w
  | 0, listed, σ, h, hQ, a, w, hR => ⟨h.1, hQ a w σ h.2 hR⟩
  | f + 1, listed, σ, h, hQ, a, w, hR => ⟨fun e => absurd e h.1, fun j hj => by
    obtain ⟨o, ho, hA⟩ := h.2 j hj
    exact wpOp_one ho hA (fun a w σ' h1 h2 => h1.any hQ a w h2) hR⟩
theorem Ords.ext {f : Nat} {listed : Array Bool} {σ σ' : St} (h : Ords P B F0 w0 n ops K f listed σ) (he : ∀ t, σ.get t = σ'.get t) {Q : Exit → Act → World → Prop} (hQ : ∀ a w σ', K σ' → Rel P B F0 w0 n σ' a w → Q .normal a w) (a : Act) (w : World) (hR : Rel P B F0 w0 n σ' a w) : wpAny P .any ops Q f listed a w :=
  h.any hQ a w (hR.ext he)
/-- The next one of the only ones that may be next. -/
theorem Ords.one {f j : Nat} {listed : Array Bool} {o : Oper} (hr : (Region.ready .any ops listed == [j]) = true) (ho : ops[j]? = some o) (h : AOps P B F0 w0 n ops [o] (Ords P B F0 w0 n ops K f (listed.setIfInBounds j true)) σ) : Ords P B F0 w0 n ops K (f + 1) listed σ := by
  have hr : Region.ready .any ops listed = [j] := by simpa using hr
  refine ⟨by rw [hr]; simp, fun i hi => ?_⟩
  rw [hr] at hi
  simp at hi
  subst hi
  exact ⟨o, ho, h⟩
theorem Ords.two {f j k : Nat} {listed : Array Bool} {o o' : Oper} (hr : (Region.ready .any ops listed == [j, k]) = true) (ho : ops[j]? = some o) (ho' : ops[k]? = some o') (h : AOps P B F0 w0 n ops [o] (Ords P B F0 w0 n ops K f (listed.setIfInBounds j true)) σ)
    (h' : AOps P B F0 w0 n ops [o'] (Ords P B F0 w0 n ops K f (listed.setIfInBounds k true)) σ) : Ords P B F0 w0 n ops K (f + 1) listed σ := by
  have hr : Region.ready .any ops listed = [j, k] := by simpa using hr
  refine ⟨by rw [hr]; simp, fun i hi => ?_⟩
  rw [hr] at hi
  simp at hi
  rcases hi with rfl | rfl
  · exact ⟨o, ho, h⟩
  · exact ⟨o', ho', h'⟩
theorem Ords.zero {listed : Array Bool} (hr : (Region.ready .any ops listed).isEmpty = true) (h : K σ) : Ords P B F0 w0 n ops K 0 listed σ := ⟨by simpa using hr, h⟩

/-- All heads and stores but u have come up. -/
def mkL (ops : Array Oper) (m : Nat) (u : List Nat) : Array Bool := ((List.range ops.size).map fun k => decide (k < m) && !(u.contains k)).toArray
def slotsU (ops : Array Oper) (u : List Nat) : List Nat := u.filterMap fun c => (ops[c]?).bind (·.dst)
def sinkC (ops : Array Oper) (m : Nat) (C : List Nat) : Bool := (List.range ops.size).all fun t => Nat.blt t m || (List.range m).all fun i => C.contains i || reachB ops 12 t i
theorem mkL_get {m : Nat} {u : List Nat} {k : Nat} (d : Bool) (hk : k < ops.size) : (mkL ops m u).getD k d = (decide (k < m) && !(u.contains k)) := by
  simp [mkL, hk]
theorem mkL_size {m : Nat} {u : List Nat} : (mkL ops m u).size = ops.size := by simp [mkL]

namespace D2
variable {lt : List (Nat × Bool)} {m : Nat} {hs ds : List Nat} {σ0 : St} {tl wl : List (Nat × AV)} (H : D2 P T B F0 w0 n ops lt m hs ds σ0 tl wl)
include H
theorem St2_mk {u : List Nat} (hu : ∀ c, c ∈ u → c < m) (t : Nat) : (H.St2 (mkL ops (m + hs.length) u)).get t = St.get (wl.reverse ++ St.wo (slotsU ops u) (tl.reverse ++ σ0)) t := by
  have hsize := H.size
  have hL : ∀ j, j < m + hs.length → (mkL ops (m + hs.length) u).getD j false = !(u.contains j) := fun j hj => by rw [mkL_get false (by omega)]; simp [hj]
  have hcm : ∀ j, m ≤ j → u.contains j = false := fun j hj => by
    cases h : u.contains j with
    | false => rfl
    | true => have := hu j (by simpa using h); omega
  rw [get_append]
  by_cases hw : ∃ (k : Nat) (x : AV), wl[k]? = some (t, x)
  · obtain ⟨k, x, hk⟩ := hw
    have hkl : k < hs.length := (List.getElem?_eq_some_iff.1 (H.wl_spec hk).1).1
    rw [get_rev_some (fun i j a b h1 h2 => H.wl_dist i j t a b h1 h2) hk, H.getW hk (by rw [hL _ (by omega), hcm _ (by omega)]; rfl)]
  · have hun : H.Unw (mkL ops (m + hs.length) u) t := fun k hk => by
      obtain ⟨cs, hwl, _⟩ := H.wls.2 k t hk
      exact absurd ⟨k, _, hwl⟩ hw
    rw [get_rev_none (fun i a hi => hw ⟨i, a, hi⟩), get_wo]
    simp only []
    have hslot : ∀ i x, tl[i]? = some (t, x) → (t ∈ slotsU ops u ↔ i ∈ u) := fun i x hti => by
      have him := (H.ds_of hti).2
      obtain ⟨o, d, av, h1, h2, h3, _⟩ := H.step i him
      rw [hti] at h3
      simp at h3
      constructor
      · intro ht
        obtain ⟨c, hc, hcd⟩ := List.mem_filterMap.1 ht
        obtain ⟨o', d', av', g1, g2, g3, _⟩ := H.step c (hu c hc)
        rw [g1] at hcd
        simp [g2] at hcd
        subst hcd
        rw [← H.dist c i d' av' x g3 hti]
        exact hc
      · intro hi
        exact List.mem_filterMap.2 ⟨i, hi, by rw [h1]; simp [h2, h3.1]⟩
    by_cases hds : ∃ (i : Nat) (x : AV), tl[i]? = some (t, x)
    · obtain ⟨i, x, hti⟩ := hds
      have him := (H.ds_of hti).2
      cases hiu : u.contains i with
      | true =>
        have hiu' : i ∈ u := by simpa using hiu
        rw [if_pos ((hslot i x hti).2 hiu'), H.getN hun hti (by rw [hL _ (by omega), hiu]; rfl)]
      | false =>
        have hiu' : i ∉ u := fun h => by simp [h] at hiu
        rw [if_neg (fun h => hiu' ((hslot i x hti).1 h)), get_append, get_rev_some (fun i j a b h1 h2 => H.dist i j t a b h1 h2) hti, H.getB hun hti (by rw [hL _ (by omega), hiu]; rfl)]
    · have hns : t ∉ slotsU ops u := fun ht => by
        obtain ⟨c, hc, hcd⟩ := List.mem_filterMap.1 ht
        obtain ⟨o', d', av', g1, g2, g3, _⟩ := H.step c (hu c hc)
        rw [g1] at hcd
        simp [g2] at hcd
        subst hcd
        exact hds ⟨c, av', g3⟩
      rw [if_neg hns, get_append, get_rev_none (fun i a hi => hds ⟨i, a, hi⟩)]
      rw [H.getU hun, get_append, entL_none tl 0 (fun i e he _ hk => by
        obtain ⟨t2, a⟩ := e
        simp only [] at hk
        subst hk
        exact hds ⟨i, a, he⟩)]
theorem all2 (hT : TOk P T) (c1 c2 : Nat) (hc1 : c1 < m) (hc2 : c2 < m) (hsink : sinkC ops (m + hs.length) [c1, c2] = true) (hr21 : reachB ops 6 c2 c1 = true)
    (hu1 : un (mkL ops (m + hs.length) [c1, c2]) (m + hs.length) = 2) (hu2 : un (mkL ops (m + hs.length) [c2]) (m + hs.length) = 1)
    (hK : Ords P B F0 w0 n ops K (ops.size - (m + hs.length)) (mkL ops (m + hs.length) []) (wl.reverse ++ (tl.reverse ++ σ0)))
    (hA : Ords P B F0 w0 n ops K (2 + (ops.size - (m + hs.length))) (mkL ops (m + hs.length) [c1, c2]) (wl.reverse ++ St.wo (slotsU ops [c1, c2]) (tl.reverse ++ σ0)))
    (hB : Ords P B F0 w0 n ops K (1 + (ops.size - (m + hs.length))) (mkL ops (m + hs.length) [c2]) (wl.reverse ++ St.wo (slotsU ops [c2]) (tl.reverse ++ σ0))) :
    ∀ (f : Nat) (listed : Array Bool) (a : Act) (w : World) (Q' : Exit → Act → World → Prop), HeadInv .any ops (m + hs.length) listed → un listed (m + hs.length) = f → Rel P B F0 w0 n (H.St2 listed) a w →
    (∀ a w σ', K σ' → Rel P B F0 w0 n σ' a w → Q' .normal a w) → wpAny P .any ops Q' (f + (ops.size - (m + hs.length))) listed a w := by
  have hsize := H.size
  have hmk : ∀ (listed : Array Bool) (u : List Nat), HeadInv .any ops (m + hs.length) listed → (∀ j, j < m + hs.length → listed.getD j false = !(u.contains j)) → listed = mkL ops (m + hs.length) u := fun listed u hinv hl => by
    apply Array.ext
    · rw [hinv.size, mkL_size]
    · intro i hi1 hi2
      have hi := hi1
      rw [hinv.size] at hi
      have e1 : listed[i] = listed.getD i false := by simp [hi1]
      have e2 : (mkL ops (m + hs.length) u)[i] = (mkL ops (m + hs.length) u).getD i false := by simp [hi2]
      rw [e1, e2, mkL_get false hi]
      by_cases him : i < m + hs.length
      · rw [hl i him]; simp [him]
      · have := hinv.tail i (by omega) hi
        rw [getD_both this]; simp [him]
  intro f
  induction f with
  | zero =>
    intro listed a w Q' hinv hun hR hQ
    have hlist := un_zero (m + hs.length) hun
    have heq := hmk listed [] hinv (fun j hj => by
      have := hlist j hj
      have hs : j < listed.size := by rw [hinv.size]; omega
      simp [hs] at this ⊢
      exact this)
    subst heq
    rw [Nat.zero_add]
    refine hK.ext (fun t => ?_) hQ a w hR
    have e0 : St.get (St.wo (slotsU ops []) (tl.reverse ++ σ0)) t = St.get (tl.reverse ++ σ0) t := by rw [get_wo]; simp [slotsU]
    rw [H.St2_mk (fun c hc => by cases hc) t, get_append wl.reverse, get_append wl.reverse, e0]
  | succ f ih =>
    intro listed a w Q' hinv hun hR hQ
    have h : H.Ok listed := ⟨hinv.size, hinv.closed⟩
    by_cases hall : ∀ j, j < m + hs.length → j ≠ c1 → j ≠ c2 → listed.getD j false = true
    · rcases getD_cases listed c1 with hl1 | hl1
      · rcases getD_cases listed c2 with hl2 | hl2
        · exfalso
          obtain ⟨j, hj, hju, _⟩ := un_pos (m + hs.length) (by omega : 0 < un listed (m + hs.length))
          have hju := getD_false_of hju
          by_cases e1 : j = c1
          · rw [e1, hl1] at hju; cases hju
          · by_cases e2 : j = c2
            · rw [e2, hl2] at hju; cases hju
            · rw [hall j hj e1 e2] at hju; cases hju
        · have heq := hmk listed [c2] hinv (fun j hj => by
            by_cases e2 : j = c2
            · subst e2; rw [hl2]; simp
            · by_cases e1 : j = c1
              · subst e1; rw [hl1]; simp [e2]
              · rw [hall j hj e1 e2]; simp [e2])
          subst heq
          rw [hu2] at hun
          rw [← hun]
          exact hB.ext (fun t => (H.St2_mk (fun c hc => by simp at hc; omega) t).symm) hQ a w hR
      · have hl2 : listed.getD c2 false = false := by
          rcases getD_cases listed c2 with hl2 | hl2
          · have := reachB_spec h.closed 6 _ _ hr21 hl2
            rw [hl1] at this; cases this
          · exact hl2
        have heq := hmk listed [c1, c2] hinv (fun j hj => by
          by_cases e2 : j = c2
          · subst e2; rw [hl2]; simp
          · by_cases e1 : j = c1
            · subst e1; rw [hl1]; simp
            · rw [hall j hj e1 e2]; simp [e1, e2])
        subst heq
        rw [hu1] at hun
        rw [← hun]
        exact hA.ext (fun t => (H.St2_mk (fun c hc => by simp at hc; omega) t).symm) hQ a w hR
    · obtain ⟨j0, hj0⟩ := Classical.not_forall.1 hall
      simp only [Classical.not_imp] at hj0
      obtain ⟨hj0m, hj01, hj02, hj0l⟩ := hj0
      obtain ⟨j, hj, hju, hjl⟩ := un_pos (m + hs.length) (by omega : 0 < un listed (m + hs.length))
      have hless : ∀ i ∈ Region.ready .any ops listed, i < m + hs.length := fun i hi => by
        rcases Nat.lt_or_ge i (m + hs.length) with g | g
        · exact g
        · exfalso
          obtain ⟨_, oi, hoi, _⟩ := mem_ready.1 hi
          have hil := (Array.getElem?_eq_some_iff.1 hoi).1
          have h1 := List.all_eq_true.1 hsink i (List.mem_range.2 hil)
          simp only [Bool.or_eq_true] at h1
          rcases h1 with h1 | h1
          · have : i < m + hs.length := by simpa using h1
            omega
          · have h2 := List.all_eq_true.1 h1 j0 (List.mem_range.2 hj0m)
            simp only [Bool.or_eq_true] at h2
            rcases h2 with h2 | h2
            · simp at h2; omega
            · have h3 := reachB_spec (Ok.set H h hi).closed 12 _ _ h2 (by simp only [Array.getD_eq_getD_getElem?]; rw [Array.getElem?_setIfInBounds_self_of_lt (by rw [hinv.size]; exact hil)]; rfl)
              rw [getD_set_ne false (by omega)] at h3
              exact hj0l h3
      have hjr : j ∈ Region.ready .any ops listed := by
        have key : ∀ o, ops[j]? = some o → (∀ e ∈ o.after, Region.binds .any e = true → e.on < j) → j ∈ Region.ready .any ops listed := fun o ho hlt => by
          refine mem_ready.2 ⟨hju, o, ho, fun e he hb => ?_⟩
          have h1 := hlt e he hb
          have := hjl e.on h1
          have hsz : e.on < listed.size := by rw [hinv.size]; omega
          simp [hsz] at this ⊢
          exact this
        rcases Nat.lt_or_ge j m with hjm | hjm
        · obtain ⟨o, d, h1, h2, h3, _⟩ := headB_spec H.head hjm
          exact key o h1 h3
        · obtain ⟨o, _, h1, _, _, _, h5, _⟩ := storesB_spec H.stores (show j - m < hs.length by omega)
          rw [show m + (j - m) = j by omega] at h1 h5
          exact key o h1 h5
      rw [show f + 1 + (ops.size - (m + hs.length)) = (f + (ops.size - (m + hs.length))) + 1 by omega]
      refine ⟨fun h0 => (by rw [h0] at hjr; cases hjr), fun i hi => ?_⟩
      have hil := hless i hi
      have hrec : ∀ a' w', Rel P B F0 w0 n (H.St2 (listed.setIfInBounds i true)) a' w' → wpAny P .any ops Q' (f + (ops.size - (m + hs.length))) (listed.setIfInBounds i true) a' w' := fun a' w' hR' =>
        ih _ a' w' Q' (hinv.set hi hil) (by have := un_set (mem_ready.1 hi).1 (m + hs.length) hil; omega) hR' hQ
      rcases Nat.lt_or_ge i m with him | him
      · exact H.one h him hi hR Q' _ hrec
      · obtain ⟨k, rfl⟩ : ∃ k, i = m + k := ⟨i - m, by omega⟩
        exact H.put1 hT h (by omega) hi hR Q' _ hrec
end D2

variable {σ0 : St}
def draw4B (ops : Array Oper) (lt : List (Nat × Bool)) (m : Nat) (hs : List Nat) (c1 c2 : Nat) : Bool :=
  decide (m + hs.length ≤ ops.size) && headB ops m && storesB ops lt m hs && nodupN hs && looksB ops lt m hs && Nat.blt c1 m && Nat.blt c2 m && sinkC ops (m + hs.length) [c1, c2] && reachB ops 6 c2 c1 &&
    Nat.beq (un (mkL ops (m + hs.length) [c1, c2]) (m + hs.length)) 2 && Nat.beq (un (mkL ops (m + hs.length) [c2]) (m + hs.length)) 1
/-- As draw3; the late heads c1 and c2 (that waits for c1) may still be to come when what follows the stores begins: then what is left is taken in any order. -/
theorem AAny.draw4 (hT : TOk P T) {Q : Exit → St → Prop} (cs : List (Nat × Bool)) (m : Nat) (hs : List Nat) (c1 c2 : Nat) (hB : draw4B ops cs m hs c1 c2 = true)
    (h : AMix P B F0 w0 n ops (heads ops m) hs (σ.less (heads ops m)) cs (ops.toList.take m) (σ.less (heads ops m)) (fun τ =>
      ∃ wl, StL T τ hs ((ops.toList.drop m).take hs.length) wl ∧ Ords P B F0 w0 n ops (Q .normal) (ops.size - (m + hs.length)) (mkL ops (m + hs.length) []) (wl.reverse ++ τ) ∧
        Ords P B F0 w0 n ops (Q .normal) (2 + (ops.size - (m + hs.length))) (mkL ops (m + hs.length) [c1, c2]) (wl.reverse ++ St.wo (slotsU ops [c1, c2]) τ) ∧
        Ords P B F0 w0 n ops (Q .normal) (1 + (ops.size - (m + hs.length))) (mkL ops (m + hs.length) [c2]) (wl.reverse ++ St.wo (slotsU ops [c2]) τ))) : AAny P B F0 w0 n ops Q σ := by
  intro a w hR
  simp only [draw4B, Bool.and_eq_true, decide_eq_true_eq] at hB
  obtain ⟨⟨⟨⟨⟨⟨⟨⟨⟨⟨hsize, hhead⟩, hstores⟩, hnodup⟩, hlooks⟩, hc1⟩, hc2⟩, hsink⟩, hr21⟩, hu1⟩, hu2⟩ := hB
  have hc1 : c1 < m := by simpa using hc1
  have hc2 : c2 < m := by simpa using hc2
  have hu1 := Nat.eq_of_beq_eq_true hu1
  have hu2 := Nat.eq_of_beq_eq_true hu2
  have hR0 := (hR.less (heads ops m)).drew
  generalize hds : heads ops m = ds at h hR0
  generalize hσ0 : σ.less ds = σ0 at h hR0
  have hs0ds : ∀ t av, σ0.get t = some av → t ∉ ds ∧ refsOk ds av = true := fun t av hg => by
    rw [← hσ0, get_less] at hg
    split at hg <;> try (cases hg; done)
    rename_i htd
    refine ⟨htd, ?_⟩
    cases hs : σ.get t with
    | none => simp [hs] at hg
    | some y =>
      simp only [hs, Option.map_some, Option.some.injEq] at hg
      subst hg
      unfold AV.killL
      cases hr : refsOk ds y with
      | true => exact hr
      | false => rfl
  obtain ⟨tl, htl, ⟨wl, hwl, hQ, hQA, hQB⟩, hst⟩ := AMix.out _ _ _ h
  obtain ⟨hw1, _, hw3⟩ := hwl.spec
  have hop : ∀ j, j < m → (ops.toList.take m)[j]? = ops[j]? := fun j hj => by simp [List.getElem?_take, hj]
  have hstep : ∀ j, j < m → ∃ o d av, ops[j]? = some o ∧ o.dst = some d ∧ tl[j]? = some (d, av) ∧ d < n ∧ d ∈ ds ∧ refsOk ds av = true ∧ (lateF cs j = true → refsOk hs av = true) ∧
    ∃ lk hm : St, (∀ t av, t ∈ o.looksAt ops → lk.get t = some av → (lateF cs j = true → t ∉ hs) ∧ St.get ((tl.take j).reverse ++ σ0) t = some av) ∧ (∀ t av, hm.get t = some av → (lateF cs j = true → t ∉ hs) ∧ σ0.get t = some av) ∧
      (∀ t av, σ0.get t = some av → (lateF cs j = true → t ∉ hs) → hm.get t = some av) ∧ StepAt P B F0 w0 ops hm lk o d av := fun j hj => by
    obtain ⟨o, d, h1, h2, _⟩ := headB_spec hhead hj
    obtain ⟨d', av, g1, g2, g3, g4, g5, lk, hm, q1, q2, q3, q4⟩ := hst j o (by rw [hop j hj]; exact h1)
    rw [h2] at g2
    simp at g2
    subst g2
    refine ⟨o, d, av, h1, h2, g1, g3, ?_, g4, g5, lk, hm, fun t av ht hg => ?_, q2, q3, q4⟩
    · rw [← hds]
      exact List.mem_filterMap.2 ⟨o, List.mem_of_getElem? ((hop j hj).trans h1), h2⟩
    · have hn : lateF cs j = true → t ∉ hs := fun hl => looksB_spec hlooks hj hl h1 t ht
      exact ⟨hn, q1 t av hn hg⟩
  have hdist : ∀ (i j t : Nat) (a b : AV), tl[i]? = some (t, a) → tl[j]? = some (t, b) → i = j := fun i j t a b h1 h2 => by
    have hi : i < m := by have := (List.getElem?_eq_some_iff.1 h1).1; rw [htl] at this; simp at this; omega
    have hj : j < m := by have := (List.getElem?_eq_some_iff.1 h2).1; rw [htl] at this; simp at this; omega
    by_cases hij : i = j
    · exact hij
    · exfalso
      obtain ⟨o, d, av1, g1, g2, g3, _⟩ := hstep j hj
      obtain ⟨o', d', av2, f1, f2, f3, _⟩ := hstep i hi
      obtain ⟨o2, d2, e1, e2, _, _, e3, _⟩ := headB_spec hhead hj
      rw [g1] at e1
      simp at e1
      subst e1
      have := e3 i o' hi hij f1
      rw [f2, g2] at this
      rw [h1] at f3
      rw [h2] at g3
      simp at f3 g3
      exact this (by rw [← f3.1, ← g3.1])
  have H : D2 P T B F0 w0 n ops cs m hs ds σ0 tl wl := ⟨hsize, hhead, hstores, hnodup, hs0ds, hstep, by rw [htl]; simp; omega, hdist, hw1, fun k hm hk => by
    have hkl := (List.getElem?_eq_some_iff.1 hk).1
    obtain ⟨o, _, h1, _⟩ := storesB_spec hstores hkl
    obtain ⟨av, k1, k2⟩ := hw3 k o hm (by rw [List.getElem?_take, if_pos hkl, List.getElem?_drop]; simpa using h1) hk
    exact ⟨av, k1, o, h1, k2⟩⟩
  have hu0 : un (Array.replicate ops.size false) (m + hs.length) = m + hs.length := by
    have : ∀ k, k ≤ m + hs.length → un (Array.replicate ops.size false) k = k := fun k hk => by
      induction k with
      | zero => rfl
      | succ k ih =>
        have hlt : k < ops.size := by omega
        simp [un, ih (by omega), hlt]
    exact this _ (Nat.le_refl _)
  have hinv0 : HeadInv .any ops (m + hs.length) (Array.replicate ops.size false) :=
    ⟨by simp, fun j oj _ hl => (by rw [getD_replicate_false] at hl; cases hl), fun t _ ht => getD_in (by simpa using ht) (getD_replicate_false _ _)⟩
  have := D2.all2 H hT c1 c2 hc1 hc2 hsink hr21 hu1 hu2 hQ hQA hQB (m + hs.length) (Array.replicate ops.size false) a { w with drawn := w.drawn + 1 } (fun e a' w' => ∃ σ', Q e σ' ∧ Rel P B F0 w0 n σ' a' w') hinv0 hu0 (hR0.ext (fun t => ?_)) (fun a w σ' hk hr => ⟨σ', hk, hr⟩)
  · rw [show m + hs.length + (ops.size - (m + hs.length)) = ops.size by omega] at this
    exact this
  · have e1 : ∀ (l : List (Nat × AV)) (k : Nat), entL (Array.replicate ops.size false) k l = [] := fun l => by
      induction l with
      | nil => intro k; rfl
      | cons e r ih => intro k; simp only [entL, getD_replicate_false]; exact ih (k + 1)
    unfold D2.St2
    rw [e1, e1]
    rfl
end
end Lift
