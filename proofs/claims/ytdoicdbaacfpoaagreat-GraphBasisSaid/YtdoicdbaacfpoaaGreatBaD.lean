/- Parts of the proof, one behind the other: the logic, the contracts of the functions that the statement reaches. -/
import Derived.Test.YtdoicdbaacfpoaaGreatBaC
import Derived.Laws.Strings
import Derived.Test.YtdoicdbaacfpoaaGreatRows
import Derived.Shelf.Sort.Plain
import Derived.Shelf.Slices.In.SortNone
import Derived.Shelf.Slices.Reverse
import Derived.Shelf.Slices.Turned
set_option linter.unusedVariables false
set_option linter.unusedSimpArgs false
/- The reference's fractions. -/
namespace Lift
open Go Go.Proofs


theorem r02_one_ok : Pure Tryz.prog 63 [] (WhI 1) := by
  refine Pure.intro (n := 2) tok Tryz.func63 rfl rfl rfl (Nat.le_of_ble_eq_true rfl) (by kernel_rfl) (fun B F0 w0 => ?_)
  refine AW.seq ?_
  refine AW.region ?_   -- "fraction.go:21"
  refine AOps.run tok 1 _ _ _ _ rfl ?_
  refine AOps.nil ?_
  refine AW.seq ?_
  refine AW.region ?_   -- "fraction.go:21"
  refine AOps.call tok rfl rfl rfl rfl (r01_Of_ok 1 (by decide) (by decide)) ?_
  refine AOps.run tok 1 _ _ _ _ rfl ?_
  refine AOps.nil ?_
  exact AW.ret rfl



theorem r02_plain_ok (m : List Nat) (hm : W32 m) (hl : m.length ≤ 1000000000) : Pure Tryz.prog 116 [Wd m] (dB (decide (m ≠ [] ∧ okW false m = true))) := by
  refine Pure.intro (n := 15) tok Tryz.func116 rfl rfl rfl (Nat.le_of_ble_eq_true rfl) (by kernel_rfl) (fun B F0 w0 => ?_)
  refine AW.seq ?_
  refine AW.region ?_   -- "ref.go:14"
  refine AOps.run tok 1 _ _ _ _ rfl ?_
  refine AOps.nil ?_
  refine AW.seq ?_
  refine AW.region ?_   -- "ref.go:14"   -- GUARDS
  refine AOps.run tok 3 _ _ _ _ rfl ?_
  rw [lenWd]
  refine AOps.split (t := 5) rfl (fun h => ?_) (fun h => ?_)
  · have h1 : m ≠ [] := by
      have := of_decide_eq_true h
      intro e; subst e; simp at this
    have hl0 : 0 < m.length := List.length_pos_iff.2 h1
    refine AOps.run tok 5 _ _ _ _ rfl ?_
    rw [lenWd, wI64 (x := (m.length : Int) - 1) (by omega) (by omega), show (m.length : Int) - 1 = ((m.length - 1 : Nat) : Int) by omega]
    refine AOps.idx tok (wd (m.getD (m.length - 1) 0)) rfl rfl rfl rfl (Int.natCast_nonneg _) (getWd (by omega)) ?_   -- guarded
    refine AOps.run tok 4 _ _ _ _ rfl ?_
    refine AOps.nil ?_
    rw [show decide (m ≠ [] ∧ okW false m = true) = (((m.getD (m.length - 1) 0 : Nat) : Int) != 0) by
      unfold okW
      rw [if_neg h1, Bool.eq_iff_iff]
      simp [h1]]
    exact AW.ret rfl
  · have h1 : m = [] := by
      have := of_decide_eq_false h
      exact List.length_eq_zero_iff.1 (by omega)
    refine AOps.run tok 10 _ _ _ _ rfl ?_
    refine AOps.nil ?_
    rw [show decide (m ≠ [] ∧ okW false m = true) = false by simp [h1]]
    exact AW.ret rfl

set_option maxHeartbeats 800000 in
theorem r02_Valid_ok (r : RD) {k : Nat} (hw : r.w k) (hk : k ≤ 50000000) : Pure Tryz.prog 92 [r.D] (dB r.okB) := by
  obtain ⟨g, m, d⟩ := r
  obtain ⟨hm, hd, hlm, hld⟩ := hw
  simp only [] at hm hd hlm hld
  refine Pure.intro (n := 36) tok Tryz.func92 rfl rfl rfl (Nat.le_of_ble_eq_true rfl) (by kernel_rfl) (fun B F0 w0 => ?_)
  refine AW.seq ?_
  refine AW.region ?_   -- "ref.go:17"
  refine AOps.run tok 2 _ _ _ _ rfl ?_
  refine AOps.nil ?_
  refine AW.seq ?_
  refine AW.cut [1, 12] (fun _ : Unit => [(1, .bx [dB g, Wd m, Wd d]), (12, .d (dB (decide (m = [] ∧ d = []))))]) (fun _ => True) ?_ (fun _ _ => ?_)
  · refine AW.region ?_   -- "ref.go:18"   -- GUARDS
    refine AOps.run tok 4 _ _ _ _ rfl ?_
    rw [len0]
    refine AOps.split (t := 6) rfl (fun h => ?_) (fun h => ?_)
    · refine AOps.run tok 6 _ _ _ _ rfl ?_
      refine AOps.nil ?_
      have := of_decide_eq_true h
      exact ⟨(), by rw [show decide (m = [] ∧ d = []) = (((d.map wd).length : Int) == 0) by rw [len0, Bool.eq_iff_iff]; simp only [decide_eq_true_eq]; exact ⟨fun e => e.2, fun e => ⟨this, e⟩⟩]; rfl, trivial⟩
    · refine AOps.run tok 6 _ _ _ _ rfl ?_
      refine AOps.nil ?_
      have := of_decide_eq_false h
      exact ⟨(), by rw [show decide (m = [] ∧ d = []) = false by simp [this]]; rfl, trivial⟩
  refine AW.cond rfl (fun h => ?_) (fun h => ?_)
  · have h0 := of_decide_eq_true h
    rw [show RD.okB ⟨g, m, d⟩ = !g by unfold RD.okB; rw [if_pos h0]]
    refine AW.seq ?_
    refine AW.region ?_   -- "ref.go:19"
    refine AOps.run tok 4 _ _ _ _ rfl ?_
    refine AOps.nil ?_
    exact AW.ret rfl
  · have h0 := of_decide_eq_false h
    have hokB : RD.okB ⟨g, m, d⟩ = decide (m ≠ [] ∧ d ≠ [] ∧ okW false m = true ∧ okW false d = true ∧ Nat.gcd (nv m) (nv d) = 1) := by unfold RD.okB; rw [if_neg h0]
    rw [hokB]
    clear hokB
    refine AW.skip ?_
    refine AW.seq ?_
    refine AW.region ?_   -- "ref.go:21"   -- GUARDS
    refine AOps.run tok 2 _ _ _ _ rfl ?_
    refine AOps.call tok rfl rfl rfl rfl (r02_plain_ok m hm (by omega)) ?_
    refine AOps.split (t := 18) rfl (fun h => ?_) (fun h => ?_)
    · obtain ⟨hm0, ok1⟩ := of_decide_eq_true h
      refine AOps.run tok 3 _ _ _ _ rfl ?_
      refine AOps.call tok rfl rfl rfl rfl (r02_plain_ok d hd (by omega)) ?_   -- guarded
      refine AOps.run tok 1 _ _ _ _ rfl ?_
      refine AOps.split (t := 23) rfl (fun h => ?_) (fun h => ?_)
      · obtain ⟨hd0, ok2⟩ := of_decide_eq_true h
        have e1 := iw_of_okW hm ok1
        have e2 := iw_of_okW hd ok2
        have l1 := L_of_okW hm ok1
        have l2 := L_of_okW hd ok2
        have hgl : L ((Nat.gcd (nv m) (nv d) : Nat) : Int) ≤ 50000000 := by
          have hp : 0 < nv m := Nat.pos_of_ne_zero fun e => hm0 ((nv_zero (okW_nm ok1)).1 e)
          have := Nat.gcd_le_left (nv d) hp
          have := L_mono (a := ((Nat.gcd (nv m) (nv d) : Nat) : Int)) (b := ((nv m : Nat) : Int)) (by simpa using this)
          omega
        have hgcd := r01_Gcd_ok (nv m : Nat) (nv d : Nat) (by omega) (by omega)
        rw [← e1, ← e2, Int.natAbs_natCast, Int.natAbs_natCast] at hgcd
        refine AOps.run tok 7 _ _ _ _ rfl ?_
        refine AOps.call tok rfl rfl rfl rfl hgcd ?_   -- guarded
        refine AOps.call tok rfl rfl rfl rfl r02_one_ok ?_   -- guarded
        refine AOps.call tok rfl rfl rfl rfl (r01_Cmp_ok ((Nat.gcd (nv m) (nv d) : Nat) : Int) 1 (by omega) (by rw [L_one]; decide)) ?_   -- guarded
        refine AOps.run tok 3 _ _ _ _ rfl ?_
        refine AOps.nil ?_
        rw [show decide (m ≠ [] ∧ d ≠ [] ∧ okW false m = true ∧ okW false d = true ∧ Nat.gcd (nv m) (nv d) = 1) = (cmpI ((Nat.gcd (nv m) (nv d) : Nat) : Int) 1 == 0) by
          rw [Bool.eq_iff_iff]
          simp only [ne_eq, hm0, not_false_eq_true, hd0, ok1, ok2, true_and, decide_eq_true_eq, beq_iff_eq]
          unfold cmpI
          constructor
          · intro h; rw [h]; rfl
          · intro h
            split at h
            · cases h
            · split at h
              · omega
              · cases h]
        exact AW.ret rfl
      · have h2 := of_decide_eq_false h
        refine AOps.run tok 13 _ _ _ _ rfl ?_
        refine AOps.nil ?_
        rw [show decide (m ≠ [] ∧ d ≠ [] ∧ okW false m = true ∧ okW false d = true ∧ Nat.gcd (nv m) (nv d) = 1) = false from decide_eq_false fun e => h2 ⟨e.2.1, e.2.2.2.1⟩]
        exact AW.ret rfl
    · have h1 := of_decide_eq_false h
      refine AOps.run tok 5 _ _ _ _ rfl ?_
      refine AOps.run tok 13 _ _ _ _ rfl ?_
      refine AOps.nil ?_
      rw [show decide (m ≠ [] ∧ d ≠ [] ∧ okW false m = true ∧ okW false d = true ∧ Nat.gcd (nv m) (nv d) = 1) = false from decide_eq_false fun e => h1 ⟨e.1, e.2.2.1⟩]
      exact AW.ret rfl


theorem r02_Parts_ok (r : RD) {k : Nat} (hw : r.w k) (hk : k ≤ 50000000) : Pure Tryz.prog 139 [r.D] (.tu [WhI r.val.num, WhI r.val.den]) := by
  refine Pure.intro (n := 23) tok Tryz.func139 rfl rfl rfl (Nat.le_of_ble_eq_true rfl) (by kernel_rfl) (fun B F0 w0 => ?_)
  refine AW.seq ?_
  refine AW.region ?_   -- "fraction.go:36"
  refine AOps.run tok 3 _ _ _ _ rfl ?_
  refine AOps.nil ?_
  refine AW.seq ?_
  refine AW.cut [1, 2, 3, 12] (fun _ : Unit => [(1, .bx [dB r.g, Wd r.n, Wd r.d]), (2, .bx [dB false, .sl 1 []]), (3, .bx [dB false, .sl 1 []]), (12, .d (dB (decide (r.okB = false ∨ r.n = []))))]) (fun _ => True) ?_ (fun _ _ => ?_)
  · refine AW.region ?_   -- "fraction.go:37"   -- GUARDS
    refine AOps.run tok 1 _ _ _ _ rfl ?_
    refine AOps.call tok rfl rfl rfl rfl (r02_Valid_ok r hw hk) ?_
    refine AOps.run tok 2 _ _ _ _ rfl ?_
    refine AOps.split (t := 7) rfl (fun h => ?_) (fun h => ?_)
    · have h1 : r.okB = false := by simpa using h
      refine AOps.run tok 5 _ _ _ _ rfl ?_
      refine AOps.nil ?_
      exact ⟨(), by rw [show decide (r.okB = false ∨ r.n = []) = true by simp [h1]]; rfl, trivial⟩
    · have h1 : r.okB = true := by simpa using h
      refine AOps.run tok 5 _ _ _ _ rfl ?_
      rw [len0]
      refine AOps.nil ?_
      exact ⟨(), by rw [show decide (r.okB = false ∨ r.n = []) = decide (r.n = []) by simp only [h1]; simp]; rfl, trivial⟩
  refine AW.cond rfl (fun h => ?_) (fun h => ?_)
  · have h1 := of_decide_eq_true h
    have hv : r.val = 0 := by
      rcases h1 with h1 | h1
      · exact RD.val_bad h1
      · exact RD.val_nil h1
    rw [hv, show (0 : Rat).num = 0 from rfl, show (((0 : Rat).den : Nat) : Int) = 1 from rfl, whI_zero]
    refine AW.seq ?_
    refine AW.region ?_   -- "fraction.go:38"
    refine AOps.run tok 1 _ _ _ _ rfl ?_
    refine AOps.call tok rfl rfl rfl rfl r02_one_ok ?_
    refine AOps.run tok 2 _ _ _ _ rfl ?_
    refine AOps.nil ?_
    exact AW.ret rfl
  · have h1 := of_decide_eq_false h
    have h2 : r.okB = true := by cases ho : r.okB with
      | true => rfl
      | false => exact absurd (.inl ho) h1
    obtain ⟨_, _, p3, p4, p5, _⟩ := RD.parts hw h2 (fun e => h1 (.inr e))
    have e1 : WhI r.val.num = Wh r.g r.n := by rw [WhI, ← p3, ← p4]
    have e2 : WhI (r.val.den : Nat) = Wh false r.d := by
      have : decide (((r.val.den : Nat) : Int) < 0) = false := by simp
      rw [WhI, this, iw, Int.natAbs_natCast, ← p5]
    rw [e1, e2]
    have hl1 := hw.2.2.1
    have hl2 := hw.2.2.2
    refine AW.skip ?_
    refine AW.seq ?_
    refine AW.draw3 tok hmix [(5, true), (3, false)] 8 [2, 3] (by kernel_rfl) ⟨rfl, ?_⟩   -- "ref.go:29"
    refine APre.run tok 5 _ _ _ _ rfl ?_
    refine APre.nil ⟨rfl, ?_⟩
    refine APre.run tok 3 _ _ _ _ rfl ?_
    refine APre.nil ⟨_, StL.cons (.bx rfl) (StL.cons (.bx rfl) StL.nil), AOps.nil ?_⟩
    exact AW.ret rfl


theorem Qr_form {n d : Int} (hd : 0 < d) (hn : n ≠ 0) : (Qr (Rat.divInt n d)).D = .ag [dB (decide (n / (Nat.gcd n.natAbs d.natAbs : Int) < 0)), Wd (iw (n / (Nat.gcd n.natAbs d.natAbs : Int))), Wd (iw (d / (Nat.gcd n.natAbs d.natAbs : Int)))] := by
  obtain ⟨h1, h2⟩ := form_pos (n := n) hd
  have hnz : (Rat.divInt n d).num ≠ 0 := by
    intro e
    rw [h1] at e
    exact hn (Int.eq_zero_of_ediv_eq_zero (Int.ofNat_dvd_left.2 (Nat.gcd_dvd_left _ _)) e)
  show D.ag [dB (decide ((Rat.divInt n d).num < 0)), Wd (iw (Rat.divInt n d).num), Wd (if (Rat.divInt n d).num = 0 then [] else tw (Rat.divInt n d).den)] = _
  rw [if_neg hnz, h1, ← h2, iw, iw, Int.natAbs_natCast]

set_option maxHeartbeats 800000 in
theorem r02_form_ok (n d : Int) (hn : L n ≤ 50000000) (hd : L d ≤ 50000000) (h0 : d ≠ 0) : Pure Tryz.prog 61 [WhI n, WhI d] (Qr (Rat.divInt n d)).D := by
  refine Pure.intro (n := 47) tok Tryz.func61 rfl rfl rfl (Nat.le_of_ble_eq_true rfl) (by kernel_rfl) (fun B F0 w0 => ?_)
  refine AW.seq ?_
  refine AW.region ?_   -- "fraction.go:45"
  refine AOps.run tok 3 _ _ _ _ rfl ?_
  refine AOps.nil ?_
  refine AW.seq ?_
  refine AW.seq ?_
  refine AW.region ?_   -- "fraction.go:46"
  refine AOps.run tok 1 _ _ _ _ rfl ?_
  refine AOps.call tok rfl rfl rfl rfl (r01_Sign_ok n (by omega)) ?_
  refine AOps.run tok 1 _ _ _ _ rfl ?_
  refine AOps.nil ?_
  refine AW.cond rfl (fun h => ?_) (fun h => ?_)
  · have hn0 : n = 0 := by
      have : sgI n = 0 := by simpa using h
      unfold sgI at this
      repeat' split at this
      all_goals omega
    rw [hn0, Rat.zero_divInt, Qr_zero]
    refine AW.seq ?_
    refine AW.region ?_   -- "fraction.go:47"
    refine AOps.run tok 2 _ _ _ _ rfl ?_
    refine AOps.nil ?_
    exact AW.ret rfl
  · have hn0 : n ≠ 0 := by rintro rfl; simp [sgI] at h
    refine AW.skip ?_
    refine AW.cut [2, 3, 4] (fun s : Int × Int => [(2, .bx [dB (decide (s.1 < 0)), Wd (iw s.1)]), (3, .bx [dB (decide (s.2 < 0)), Wd (iw s.2)]), (4, .bx [dB false, .sl 1 [], .sl 1 []])])
      (fun s => 0 < s.2 ∧ s.1 ≠ 0 ∧ L s.1 ≤ 50000000 ∧ L s.2 ≤ 50000000 ∧ Rat.divInt s.1 s.2 = Rat.divInt n d) ?_ (fun (x, y) ⟨hy, hx, hlx, hly, he⟩ => ?_)
    · refine AW.seq ?_
      refine AW.region ?_   -- "fraction.go:49"
      refine AOps.run tok 1 _ _ _ _ rfl ?_
      refine AOps.call tok rfl rfl rfl rfl (r01_Sign_ok d (by omega)) ?_
      refine AOps.run tok 1 _ _ _ _ rfl ?_
      refine AOps.nil ?_
      refine AW.cond rfl (fun h => ?_) (fun h => ?_)
      · have hd0 : d < 0 := by
          have := of_decide_eq_true h
          unfold sgI at this
          repeat' split at this
          all_goals omega
        refine AW.draw hmix 4 (by kernel_rfl) ?_   -- "fraction.go:50"
        refine APre.run tok 1 _ _ _ _ rfl ?_
        refine APre.call tok rfl rfl rfl rfl rfl (r01_Neg_ok n (by omega)) ?_
        refine APre.run tok 1 _ _ _ _ rfl ?_
        refine APre.call tok rfl rfl rfl rfl rfl (r01_Neg_ok d (by omega)) ?_
        refine APre.nil ?_
        refine AOps.run tok 2 _ _ _ _ rfl ?_
        refine AOps.nil ?_
        exact ⟨(-n, -d), rfl, ⟨by simp only []; omega, by simp only []; omega, by rw [L_neg]; exact hn, by rw [L_neg]; exact hd, Rat.neg_divInt_neg n d⟩⟩
      · have hd0 : 0 < d := by
          have := of_decide_eq_false h
          unfold sgI at this
          repeat' split at this
          all_goals omega
        refine AW.skip ?_
        exact ⟨(n, d), rfl, ⟨hd0, hn0, hn, hd, rfl⟩⟩
    · simp only [] at hy hx hlx hly he
      rw [← he]
      have hgl : L ((Nat.gcd x.natAbs y.natAbs : Nat) : Int) ≤ 50000000 := by
        have := Nat.gcd_le_left y.natAbs (show 0 < x.natAbs by omega)
        have := L_mono (a := ((Nat.gcd x.natAbs y.natAbs : Nat) : Int)) (b := x) (by simpa using this)
        omega
      have hg0 : ((Nat.gcd x.natAbs y.natAbs : Nat) : Int) ≠ 0 := by
        have : 0 < Nat.gcd x.natAbs y.natAbs := Nat.gcd_pos_of_pos_left _ (by omega)
        omega
      rw [Qr_form hy hx]
      have hgcd := r01_Gcd_ok x y hlx hly
      generalize ((Nat.gcd x.natAbs y.natAbs : Nat) : Int) = g at *
      refine AW.seq ?_
      refine AW.region ?_   -- "fraction.go:52"
      refine AOps.run tok 2 _ _ _ _ rfl ?_
      refine AOps.call tok rfl rfl rfl rfl hgcd ?_
      refine AOps.run tok 2 _ _ _ _ rfl ?_
      refine AOps.nil ?_
      refine AW.seq ?_
      refine AW.region ?_   -- "ref.go:41"
      refine AOps.run tok 2 _ _ _ _ rfl ?_
      refine AOps.call tok rfl rfl rfl rfl (r01_Div_ok x g hlx hgl hg0) ?_
      refine AOps.run tok 9 _ _ _ _ rfl ?_
      refine AOps.nil ?_
      refine AW.seq ?_
      refine AW.region ?_   -- "ref.go:42"
      refine AOps.run tok 2 _ _ _ _ rfl ?_
      refine AOps.call tok rfl rfl rfl rfl (r01_Div_ok y g hly hgl hg0) ?_
      refine AOps.run tok 9 _ _ _ _ rfl ?_
      refine AOps.nil ?_
      refine AW.seq ?_
      refine AW.region ?_   -- "ref.go:43"
      refine AOps.run tok 8 _ _ _ _ rfl ?_
      refine AOps.nil ?_
      exact AW.ret rfl


theorem r02_Of_ok (n : Int) (h0 : -9223372036854775808 ≤ n) (h1 : n ≤ 9223372036854775807) : Pure Tryz.prog 46 [dI n] (Qr n).D := by
  refine Pure.intro (n := 7) tok Tryz.func46 rfl rfl rfl (Nat.le_of_ble_eq_true rfl) (by kernel_rfl) (fun B F0 w0 => ?_)
  have hl := L_of n (by omega)
  have hf := r02_form_ok n 1 (by omega) (by rw [L_one]; decide) (by decide)
  rw [of_divInt] at hf
  refine AW.seq ?_
  refine AW.region ?_   -- "ref.go:47"
  refine AOps.run tok 1 _ _ _ _ rfl ?_
  refine AOps.nil ?_
  refine AW.seq ?_
  refine AW.region ?_   -- "ref.go:47"
  refine AOps.run tok 1 _ _ _ _ rfl ?_
  refine AOps.call tok rfl rfl rfl rfl (r01_Of_ok n h0 h1) ?_
  refine AOps.call tok rfl rfl rfl rfl r02_one_ok ?_
  refine AOps.call tok rfl rfl rfl rfl hf ?_
  refine AOps.run tok 1 _ _ _ _ rfl ?_
  refine AOps.nil ?_
  exact AW.ret rfl

theorem r02_Neg_ok (r : RD) {k : Nat} (hw : r.w k) (hk : k ≤ 20000000) : Pure Tryz.prog 141 [r.D] (Qr (-r.val)).D := by
  refine Pure.intro (n := 14) tok Tryz.func141 rfl rfl rfl (Nat.le_of_ble_eq_true rfl) (by kernel_rfl) (fun B F0 w0 => ?_)
  have hl := LQ_val (hw.mono (Nat.le_max_left k 1)) (Nat.le_max_right k 1)
  have hn := Lnum r.val
  have hd := Lden r.val
  rw [← neg_divInt]
  refine AW.seq ?_
  refine AW.region ?_   -- "fraction.go:77"
  refine AOps.run tok 2 _ _ _ _ rfl ?_
  refine AOps.nil ?_
  refine AW.seq ?_
  refine AW.region ?_   -- "fraction.go:78"
  refine AOps.run tok 1 _ _ _ _ rfl ?_
  refine AOps.call tok rfl rfl rfl rfl (r02_Parts_ok r hw (by omega)) ?_
  refine AOps.run tok 7 _ _ _ _ rfl ?_
  refine AOps.nil ?_
  refine AW.seq ?_
  refine AW.draw hmix 4 (by kernel_rfl) ?_   -- "fraction.go:79"
  refine APre.run tok 1 _ _ _ _ rfl ?_
  refine APre.call tok rfl rfl rfl rfl rfl (r01_Neg_ok r.val.num (by omega)) ?_
  refine APre.run tok 1 _ _ _ _ rfl ?_
  refine APre.call tok rfl rfl rfl rfl rfl (r02_form_ok (-r.val.num) r.val.den (by rw [L_neg]; omega) (by omega) (den_ne _)) ?_
  refine APre.nil ?_
  refine AOps.run tok 1 _ _ _ _ rfl ?_
  refine AOps.nil ?_
  exact AW.ret rfl

theorem r02_Sign_ok (r : RD) {k : Nat} (hr : r.w k) (hk : k ≤ 20000000) : Pure Tryz.prog 118 [r.D] (dI (sgI r.val.num)) := by
  refine Pure.intro (n := 12) tok Tryz.func118 rfl rfl rfl (Nat.le_of_ble_eq_true rfl) (by kernel_rfl) (fun B F0 w0 => ?_)
  have hl := LQ_val (hr.mono (Nat.le_max_left k 1)) (Nat.le_max_right k 1)
  have := Lnum r.val
  refine AW.seq ?_
  refine AW.region ?_   -- "ref.go:67"
  refine AOps.run tok 2 _ _ _ _ rfl ?_
  refine AOps.nil ?_
  refine AW.seq ?_
  refine AW.region ?_   -- "ref.go:68"
  refine AOps.run tok 1 _ _ _ _ rfl ?_
  refine AOps.call tok rfl rfl rfl rfl (r02_Parts_ok r hr (by omega)) ?_
  refine AOps.run tok 7 _ _ _ _ rfl ?_
  refine AOps.nil ?_
  refine AW.seq ?_
  refine AW.region ?_   -- "ref.go:69"
  refine AOps.run tok 1 _ _ _ _ rfl ?_
  refine AOps.call tok rfl rfl rfl rfl (r01_Sign_ok r.val.num (by omega)) ?_
  refine AOps.run tok 1 _ _ _ _ rfl ?_
  refine AOps.nil ?_
  exact AW.ret rfl

theorem r02_Add_ok (r s : RD) {k : Nat} (hr : r.w k) (hs : s.w k) (hk : k ≤ 20000000) : Pure Tryz.prog 140 [r.D, s.D] (Qr (r.val + s.val)).D := by
  refine Pure.intro (n := 30) tok Tryz.func140 rfl rfl rfl (Nat.le_of_ble_eq_true rfl) (by kernel_rfl) (fun B F0 w0 => ?_)
  have hl := LQ_val (hr.mono (Nat.le_max_left k 1)) (Nat.le_max_right k 1)
  have hm := LQ_val (hs.mono (Nat.le_max_left k 1)) (Nat.le_max_right k 1)
  have := Lnum r.val; have := Lden r.val; have := Lnum s.val; have := Lden s.val
  have := L_mul r.val.num s.val.den; have := L_mul s.val.num r.val.den; have := L_mul r.val.den s.val.den
  have := L_add (r.val.num * s.val.den) (s.val.num * r.val.den)
  rw [← add_divInt]
  refine AW.seq ?_
  refine AW.region ?_   -- "fraction.go:120"
  refine AOps.run tok 3 _ _ _ _ rfl ?_
  refine AOps.nil ?_
  refine AW.seq ?_
  refine AW.region ?_   -- "fraction.go:121"
  refine AOps.run tok 1 _ _ _ _ rfl ?_
  refine AOps.call tok rfl rfl rfl rfl (r02_Parts_ok r hr (by omega)) ?_
  refine AOps.run tok 7 _ _ _ _ rfl ?_
  refine AOps.nil ?_
  refine AW.seq ?_
  refine AW.region ?_   -- "fraction.go:122"
  refine AOps.run tok 1 _ _ _ _ rfl ?_
  refine AOps.call tok rfl rfl rfl rfl (r02_Parts_ok s hs (by omega)) ?_
  refine AOps.run tok 7 _ _ _ _ rfl ?_
  refine AOps.nil ?_
  refine AW.seq ?_
  refine AW.draw hmix 11 (by kernel_rfl) ?_   -- "fraction.go:123"
  refine APre.run tok 2 _ _ _ _ rfl ?_
  refine APre.call tok rfl rfl rfl rfl rfl (r01_Mul_ok r.val.num s.val.den (by omega) (by omega)) ?_
  refine APre.run tok 2 _ _ _ _ rfl ?_
  refine APre.call tok rfl rfl rfl rfl rfl (r01_Mul_ok s.val.num r.val.den (by omega) (by omega)) ?_
  refine APre.call tok rfl rfl rfl rfl rfl (r01_Add_ok (r.val.num * s.val.den) (s.val.num * r.val.den) (by omega) (by omega)) ?_
  refine APre.run tok 2 _ _ _ _ rfl ?_
  refine APre.call tok rfl rfl rfl rfl rfl (r01_Mul_ok r.val.den s.val.den (by omega) (by omega)) ?_
  refine APre.call tok rfl rfl rfl rfl rfl (r02_form_ok (r.val.num * s.val.den + s.val.num * r.val.den) (r.val.den * s.val.den) (by omega) (by omega) (den_mul_ne _ _)) ?_
  refine APre.nil ?_
  refine AOps.run tok 1 _ _ _ _ rfl ?_
  refine AOps.nil ?_
  exact AW.ret rfl

theorem r02_Sub_ok (r s : RD) {k : Nat} (hr : r.w k) (hs : s.w k) (hk : k ≤ 10000000) : Pure Tryz.prog 119 [r.D, s.D] (Qr (r.val - s.val)).D := by
  refine Pure.intro (n := 9) tok Tryz.func119 rfl rfl rfl (Nat.le_of_ble_eq_true rfl) (by kernel_rfl) (fun B F0 w0 => ?_)
  have hm := LQ_val (hs.mono (Nat.le_max_left k 1)) (Nat.le_max_right k 1)
  have hadd := r02_Add_ok r (Qr (-s.val)) (k := max k 1) (hr.mono (by omega)) (Qr_w _ (by rw [LQ_neg]; omega)) (by omega)
  rw [Qr_val, ← Rat.sub_eq_add_neg] at hadd
  refine AW.seq ?_
  refine AW.region ?_   -- "fraction.go:127"
  refine AOps.run tok 3 _ _ _ _ rfl ?_
  refine AOps.nil ?_
  refine AW.seq ?_
  refine AW.draw hmix 4 (by kernel_rfl) ?_   -- "fraction.go:127"
  refine APre.run tok 2 _ _ _ _ rfl ?_
  refine APre.call tok rfl rfl rfl rfl rfl (r02_Neg_ok s hs (by omega)) ?_
  refine APre.call tok rfl rfl rfl rfl rfl hadd ?_
  refine APre.nil ?_
  refine AOps.run tok 1 _ _ _ _ rfl ?_
  refine AOps.nil ?_
  exact AW.ret rfl

theorem sgI_cmpQ (a b : Rat) : sgI (a - b).num = cmpQ a b := by
  rw [← cmpQ_sub]
theorem r02_Cmp_ok (r s : RD) {k : Nat} (hr : r.w k) (hs : s.w k) (hk : k ≤ 5000000) : Pure Tryz.prog 93 [r.D, s.D] (dI (cmpQ r.val s.val)) := by
  refine Pure.intro (n := 9) tok Tryz.func93 rfl rfl rfl (Nat.le_of_ble_eq_true rfl) (by kernel_rfl) (fun B F0 w0 => ?_)
  have hl := LQ_val (hr.mono (Nat.le_max_left k 1)) (Nat.le_max_right k 1)
  have hm := LQ_val (hs.mono (Nat.le_max_left k 1)) (Nat.le_max_right k 1)
  have hq := LQ_sub r.val s.val
  have hsg := r02_Sign_ok (Qr (r.val - s.val)) (Qr_w _ (Nat.le_refl _)) (by omega)
  rw [Qr_val, sgI_cmpQ] at hsg
  refine AW.seq ?_
  refine AW.region ?_   -- "ref.go:105"
  refine AOps.run tok 3 _ _ _ _ rfl ?_
  refine AOps.nil ?_
  refine AW.seq ?_
  refine AW.region ?_   -- "ref.go:105"
  refine AOps.run tok 2 _ _ _ _ rfl ?_
  refine AOps.call tok rfl rfl rfl rfl (r02_Sub_ok r s hr hs (by omega)) ?_
  refine AOps.call tok rfl rfl rfl rfl hsg ?_
  refine AOps.run tok 1 _ _ _ _ rfl ?_
  refine AOps.nil ?_
  exact AW.ret rfl
end Lift
/- Names: what the program and the reference take for one. -/
namespace Lift
open Go Go.Proofs

def isL (c : Nat) : Bool := (decide (97 ≤ c) && decide (c ≤ 122)) || (decide (65 ≤ c) && decide (c ≤ 90))
def isDg (c : Nat) : Bool := decide (48 ≤ c) && decide (c ≤ 57)
def isP (c : Nat) : Bool := isL c || isDg c || decide (c = 95)
abbrev d8 (c : Nat) : D := .v (.int .u8 (c : Int))
abbrev dS (s : ByteArray) : D := .v (.string s)
def bsl (s : ByteArray) : List Nat := s.data.toList.map UInt8.toNat
theorem bsl_len (s : ByteArray) : (bsl s).length = s.size := by simp [bsl]
theorem bsl_getD (s : ByteArray) (i : Nat) : (s.data.toList.getD i 0).toNat = (bsl s).getD i 0 := by
  simp only [bsl, List.getD_eq_getElem?_getD, List.getElem?_map]
  cases s.data.toList[i]? <;> rfl
/-- The bytes of the word at the beginning. -/
def wlen (l : List Nat) : Nat := if isL (l.getD 0 0) = true then (l.takeWhile isP).length else 0
def nameB (s : ByteArray) : Bool := decide (0 < wlen (bsl s) ∧ wlen (bsl s) = s.size ∧ s.size ≤ 24)
theorem isP0 : isP 0 = false := by decide
theorem isP_L {c : Nat} (h : isL c = true) : isP c = true := by simp [isP, h]
theorem takeWhile_of {l : List Nat} {n : Nat} (h1 : n ≤ l.length) (h2 : ∀ i, i < n → isP (l.getD i 0) = true) (h3 : isP (l.getD n 0) = false) : (l.takeWhile isP).length = n := by
  induction l generalizing n with
  | nil => simp at h1; subst h1; rfl
  | cons a r ih =>
    cases n with
    | zero =>
      have : isP a = false := by simpa using h3
      simp [List.takeWhile, this]
    | succ m =>
      have ha : isP a = true := by simpa using h2 0 (by omega)
      have := ih (n := m) (by simpa using h1) (fun i hi => by simpa using h2 (i + 1) (by omega)) (by simpa using h3)
      simp [List.takeWhile, ha, this]
theorem getD_end {l : List Nat} {n : Nat} (h : l.length ≤ n) : l.getD n 0 = 0 := by
  rw [List.getD_eq_getElem?_getD, List.getElem?_eq_none h]; rfl

theorem token_digit_ok (c : Nat) : Pure Tryz.prog 120 [d8 c] (dB (isDg c)) := by
  refine Pure.intro (n := 9) tok Tryz.func120 rfl rfl rfl (Nat.le_of_ble_eq_true rfl) (by kernel_rfl) (fun B F0 w0 => ?_)
  refine AW.seq ?_
  refine AW.region ?_   -- "token.go:25"
  refine AOps.run tok 1 _ _ _ _ rfl ?_
  refine AOps.nil ?_
  refine AW.seq ?_
  refine AW.region ?_   -- "token.go:25"   -- GUARDS
  refine AOps.run tok 2 _ _ _ _ rfl ?_
  refine AOps.split (t := 4) rfl (fun h => ?_) (fun h => ?_)
  · have h1 := of_decide_eq_true h
    refine AOps.run tok 5 _ _ _ _ rfl ?_
    refine AOps.nil ?_
    rw [show isDg c = decide ((c : Int) ≤ 57) by unfold isDg; rw [Bool.eq_iff_iff]; simp <;> omega]
    exact AW.ret rfl
  · have h1 := of_decide_eq_false h
    refine AOps.run tok 5 _ _ _ _ rfl ?_
    refine AOps.nil ?_
    rw [show isDg c = false by unfold isDg; rw [Bool.eq_iff_iff]; simp <;> omega]
    exact AW.ret rfl

theorem token_letter_ok (c : Nat) : Pure Tryz.prog 94 [d8 c] (dB (isL c)) := by
  refine Pure.intro (n := 17) tok Tryz.func94 rfl rfl rfl (Nat.le_of_ble_eq_true rfl) (by kernel_rfl) (fun B F0 w0 => ?_)
  refine AW.seq ?_
  refine AW.region ?_   -- "token.go:23"
  refine AOps.run tok 1 _ _ _ _ rfl ?_
  refine AOps.nil ?_
  refine AW.seq ?_
  refine AW.region ?_   -- "token.go:23"   -- GUARDS
  refine AOps.run tok 2 _ _ _ _ rfl ?_
  refine AOps.split (t := 4) rfl (fun h => ?_) (fun h => ?_)
  · have h1 := of_decide_eq_true h
    refine AOps.run tok 5 _ _ _ _ rfl ?_
    refine AOps.split (t := 9) rfl (fun h => ?_) (fun h => ?_)
    · have h2 := of_decide_eq_true h
      refine AOps.run tok 8 _ _ _ _ rfl ?_
      refine AOps.nil ?_
      rw [show isL c = true by unfold isL; rw [Bool.eq_iff_iff]; simp <;> omega]
      exact AW.ret rfl
    · have h2 := of_decide_eq_false h
      refine AOps.run tok 2 _ _ _ _ rfl ?_
      refine AOps.split (t := 11) rfl (fun h => ?_) (fun h => ?_)
      · have h3 := of_decide_eq_true h
        refine AOps.run tok 6 _ _ _ _ rfl ?_
        refine AOps.nil ?_
        rw [show isL c = decide ((c : Int) ≤ 90) by unfold isL; rw [Bool.eq_iff_iff]; simp <;> omega]
        exact AW.ret rfl
      · have h3 := of_decide_eq_false h
        refine AOps.run tok 6 _ _ _ _ rfl ?_
        refine AOps.nil ?_
        rw [show isL c = false by unfold isL; rw [Bool.eq_iff_iff]; simp <;> omega]
        exact AW.ret rfl
  · have h1 := of_decide_eq_false h
    refine AOps.run tok 7 _ _ _ _ rfl ?_
    refine AOps.split (t := 11) rfl (fun h => ?_) (fun h => ?_)
    · have h3 := of_decide_eq_true h
      refine AOps.run tok 6 _ _ _ _ rfl ?_
      refine AOps.nil ?_
      rw [show isL c = decide ((c : Int) ≤ 90) by unfold isL; rw [Bool.eq_iff_iff]; simp <;> omega]
      exact AW.ret rfl
    · have h3 := of_decide_eq_false h
      refine AOps.run tok 6 _ _ _ _ rfl ?_
      refine AOps.nil ?_
      rw [show isL c = false by unfold isL; rw [Bool.eq_iff_iff]; simp <;> omega]
      exact AW.ret rfl

theorem token_part_ok (c : Nat) : Pure Tryz.prog 95 [d8 c] (dB (isP c)) := by
  refine Pure.intro (n := 13) tok Tryz.func95 rfl rfl rfl (Nat.le_of_ble_eq_true rfl) (by kernel_rfl) (fun B F0 w0 => ?_)
  refine AW.seq ?_
  refine AW.region ?_   -- "token.go:27"
  refine AOps.run tok 1 _ _ _ _ rfl ?_
  refine AOps.nil ?_
  refine AW.seq ?_
  refine AW.region ?_   -- "token.go:27"   -- GUARDS
  refine AOps.run tok 1 _ _ _ _ rfl ?_
  refine AOps.call tok rfl rfl rfl rfl (token_letter_ok c) ?_
  refine AOps.split (t := 4) rfl (fun h => ?_) (fun h => ?_)
  · refine AOps.run tok 9 _ _ _ _ rfl ?_
    refine AOps.nil ?_
    rw [show isP c = true by simp [isP, h]]
    exact AW.ret rfl
  · refine AOps.run tok 2 _ _ _ _ rfl ?_
    refine AOps.call tok rfl rfl rfl rfl (token_digit_ok c) ?_   -- guarded
    refine AOps.run tok 2 _ _ _ _ rfl ?_
    refine AOps.split (t := 9) rfl (fun h2 => ?_) (fun h2 => ?_)
    · refine AOps.run tok 4 _ _ _ _ rfl ?_
      refine AOps.nil ?_
      rw [show isP c = true by simp [isP, h2]]
      exact AW.ret rfl
    · refine AOps.run tok 4 _ _ _ _ rfl ?_
      refine AOps.nil ?_
      rw [show isP c = ((c : Int) == 95) by unfold isP; rw [h, h2, Bool.eq_iff_iff]; simp <;> omega]
      exact AW.ret rfl

theorem str_eq (a b : ByteArray) : (a.toList == b.toList) = decide (a = b) := by
  rw [ByteArray.toList_eq, ByteArray.toList_eq, Bool.eq_iff_iff]
  simp only [beq_iff_eq, decide_eq_true_eq]
  exact ⟨fun h => Go.WideShapes.bytes_inj h, fun h => by rw [h]⟩
theorem str_empty (s : ByteArray) : (s.toList == (⟨#[]⟩ : ByteArray).toList) = decide (s.size = 0) := by
  rw [str_eq, Bool.eq_iff_iff]
  simp only [decide_eq_true_eq]
  constructor
  · intro h; rw [h]; rfl
  · intro h; exact Go.WideShapes.bytes_inj (by
      have : s.data.toList.length = 0 := h
      rw [List.length_eq_zero_iff.1 this])
set_option maxHeartbeats 400000 in
theorem token_word_ok (s : ByteArray) (hs : s.size ≤ 1000000000000000) : Pure Tryz.prog 68 [dS s] (dI (wlen (bsl s) : Nat)) := by
  refine Pure.intro (n := 25) tok Tryz.func68 rfl rfl rfl (Nat.le_of_ble_eq_true rfl) (by kernel_rfl) (fun B F0 w0 => ?_)
  refine AW.seq ?_
  refine AW.region ?_   -- "token.go:30"
  refine AOps.run tok 1 _ _ _ _ rfl ?_
  refine AOps.nil ?_
  refine AW.seq ?_
  have hl := bsl_len s
  refine AW.cut [0, 11] (fun _ : Unit => [(0, .d (dS s)), (11, .d (dB (!isL ((bsl s).getD 0 0))))]) (fun _ => True) ?_ (fun _ _ => ?_)
  · refine AW.region ?_   -- "token.go:31"   -- GUARDS
    refine AOps.run tok 2 _ _ _ _ rfl ?_
    rw [str_empty]
    refine AOps.split (t := 5) rfl (fun h => ?_) (fun h => ?_)
    · have h1 := of_decide_eq_true h
      refine AOps.run tok 6 _ _ _ _ rfl ?_
      refine AOps.nil ?_
      refine ⟨(), ?_, trivial⟩
      rw [getD_end (by omega)]
      rfl
    · have h1 := of_decide_eq_false h
      refine AOps.run tok 2 _ _ _ _ rfl ?_
      refine AOps.strix tok rfl rfl rfl rfl (Int.le_refl 0) (Nat.pos_of_ne_zero h1) ?_   -- guarded
      rw [show (0 : Int).toNat = 0 from rfl, bsl_getD]
      refine AOps.call tok rfl rfl rfl rfl (token_letter_ok ((bsl s).getD 0 0)) ?_   -- guarded
      refine AOps.run tok 2 _ _ _ _ rfl ?_
      refine AOps.nil ?_
      exact ⟨(), rfl, trivial⟩
  refine AW.cond rfl (fun h => ?_) (fun h => ?_)
  · have h1 : isL ((bsl s).getD 0 0) = false := by simpa using h
    rw [wlen, h1]
    refine AW.seq ?_
    refine AW.region ?_   -- "token.go:32"
    refine AOps.run tok 1 _ _ _ _ rfl ?_
    refine AOps.nil ?_
    exact AW.ret rfl
  · have h1 : isL ((bsl s).getD 0 0) = true := by simpa using h
    rw [wlen, if_pos h1]
    have hs0 : 0 < s.size := by
      rcases Nat.eq_zero_or_pos s.size with e | e
      · rw [getD_end (by omega)] at h1; cases h1
      · exact e
    refine AW.skip ?_
    refine AW.seq ?_
    refine AW.region ?_   -- "token.go:34"
    refine AOps.run tok 1 _ _ _ _ rfl ?_
    refine AOps.nil ?_
    refine AW.seq ?_
    refine AW.block ?_   -- block 0
    refine AW.loopS [0, 3] (fun k : Nat => [(0, .d (dS s)), (3, .d (dI k))]) (fun k => k ≤ s.size ∧ ∀ i, i < k → isP ((bsl s).getD i 0) = true) (fun k => s.size - k) 1 rfl
      ⟨hs0, fun i hi => by rw [show i = 0 by omega]; exact isP_L h1⟩ (fun k ⟨hk, hp⟩ => ?_)
    refine AW.seq ?_
    refine AW.cut [0, 3, 21] (fun _ : Unit => [(0, .d (dS s)), (3, .d (dI k)), (21, .d (dB (isP ((bsl s).getD k 0))))]) (fun _ => True) ?_ (fun _ _ => ?_)
    · refine AW.region ?_   -- "token.go:35"   -- GUARDS
      refine AOps.run tok 4 _ _ _ _ rfl ?_
      refine AOps.split (t := 15) rfl (fun h => ?_) (fun h => ?_)
      · have h2 := of_decide_eq_true h
        refine AOps.run tok 3 _ _ _ _ rfl ?_
        refine AOps.strix tok rfl rfl rfl rfl (Int.natCast_nonneg k) (by simp only [Int.toNat_natCast]; omega) ?_   -- guarded
        rw [Int.toNat_natCast, bsl_getD]
        refine AOps.call tok rfl rfl rfl rfl (token_part_ok ((bsl s).getD k 0)) ?_   -- guarded
        refine AOps.run tok 1 _ _ _ _ rfl ?_
        refine AOps.nil ?_
        exact ⟨(), rfl, trivial⟩
      · have h2 := of_decide_eq_false h
        refine AOps.run tok 6 _ _ _ _ rfl ?_
        refine AOps.nil ?_
        refine ⟨(), ?_, trivial⟩
        rw [getD_end (by omega)]
        rfl
    refine AW.cond rfl (fun h => ?_) (fun h => ?_)
    · have hks : k < s.size := by
        rcases Nat.lt_or_ge k s.size with e | e
        · exact e
        · rw [getD_end (by omega)] at h; cases h
      refine AW.skip ?_
      refine AW.block ?_   -- block 1
      refine AW.region ?_   -- "token.go:36"
      refine AOps.run tok 3 _ _ _ _ rfl ?_
      rw [wI64 (x := (k : Int) + 1) (by omega) (by omega)]
      refine AOps.nil ?_
      refine ⟨k + 1, rfl, ⟨hks, fun i hi => ?_⟩, by omega⟩
      rcases Nat.lt_or_ge i k with e | e
      · exact hp i e
      · rw [show i = k by omega]; exact h
    · rw [takeWhile_of (by omega) hp h]
      refine AW.exit ?_
      refine AW.seq ?_
      refine AW.region ?_   -- "token.go:38"
      refine AOps.run tok 2 _ _ _ _ rfl ?_
      refine AOps.nil ?_
      exact AW.ret rfl

theorem token_Name_ok (s : ByteArray) (hs : s.size ≤ 1000000000000000) : Pure Tryz.prog 51 [dS s] (dB (nameB s)) := by
  refine Pure.intro (n := 18) tok Tryz.func51 rfl rfl rfl (Nat.le_of_ble_eq_true rfl) (by kernel_rfl) (fun B F0 w0 => ?_)
  refine AW.seq ?_
  refine AW.region ?_   -- "token.go:125"
  refine AOps.run tok 1 _ _ _ _ rfl ?_
  refine AOps.nil ?_
  refine AW.seq ?_
  refine AW.region ?_   -- "token.go:126"
  refine AOps.run tok 1 _ _ _ _ rfl ?_
  refine AOps.call tok rfl rfl rfl rfl (token_word_ok s hs) ?_
  refine AOps.run tok 1 _ _ _ _ rfl ?_
  refine AOps.nil ?_
  refine AW.seq ?_
  refine AW.region ?_   -- "token.go:127"   -- GUARDS
  refine AOps.run tok 2 _ _ _ _ rfl ?_
  unfold nameB
  generalize wlen (bsl s) = n
  refine AOps.split (t := 7) rfl (fun h => ?_) (fun h => ?_)
  · have h1 := of_decide_eq_true h
    refine AOps.run tok 6 _ _ _ _ rfl ?_
    refine AOps.split (t := 13) rfl (fun h => ?_) (fun h => ?_)
    · have h2 : (n : Int) = s.size := by simpa using h
      refine AOps.run tok 5 _ _ _ _ rfl ?_
      refine AOps.nil ?_
      rw [show decide (0 < n ∧ n = s.size ∧ s.size ≤ 24) = decide ((n : Int) ≤ 24) by rw [Bool.eq_iff_iff]; simp only [decide_eq_true_eq]; omega]
      exact AW.ret rfl
    · have h2 : ¬ (n : Int) = s.size := by simpa using h
      refine AOps.run tok 5 _ _ _ _ rfl ?_
      refine AOps.nil ?_
      rw [show decide (0 < n ∧ n = s.size ∧ s.size ≤ 24) = false by rw [Bool.eq_iff_iff]; simp <;> omega]
      exact AW.ret rfl
  · have h1 := of_decide_eq_false h
    refine AOps.run tok 11 _ _ _ _ rfl ?_
    refine AOps.nil ?_
    rw [show decide (0 < n ∧ n = s.size ∧ s.size ≤ 24) = false by rw [Bool.eq_iff_iff]; simp <;> omega]
    exact AW.ret rfl

theorem r18_isDigit_ok (c : Nat) : Pure Tryz.prog 91 [d8 c] (dB (isDg c)) := by
  refine Pure.intro (n := 9) tok Tryz.func91 rfl rfl rfl (Nat.le_of_ble_eq_true rfl) (by kernel_rfl) (fun B F0 w0 => ?_)
  refine AW.seq ?_
  refine AW.region ?_   -- "token.go:25"
  refine AOps.run tok 1 _ _ _ _ rfl ?_
  refine AOps.nil ?_
  refine AW.seq ?_
  refine AW.region ?_   -- "token.go:25"   -- GUARDS
  refine AOps.run tok 2 _ _ _ _ rfl ?_
  refine AOps.split (t := 4) rfl (fun h => ?_) (fun h => ?_)
  · have h1 := of_decide_eq_true h
    refine AOps.run tok 5 _ _ _ _ rfl ?_
    refine AOps.nil ?_
    rw [show isDg c = decide ((c : Int) ≤ 57) by unfold isDg; rw [Bool.eq_iff_iff]; simp <;> omega]
    exact AW.ret rfl
  · have h1 := of_decide_eq_false h
    refine AOps.run tok 5 _ _ _ _ rfl ?_
    refine AOps.nil ?_
    rw [show isDg c = false by unfold isDg; rw [Bool.eq_iff_iff]; simp <;> omega]
    exact AW.ret rfl

theorem r18_isLetter_ok (c : Nat) : Pure Tryz.prog 89 [d8 c] (dB (isL c)) := by
  refine Pure.intro (n := 17) tok Tryz.func89 rfl rfl rfl (Nat.le_of_ble_eq_true rfl) (by kernel_rfl) (fun B F0 w0 => ?_)
  refine AW.seq ?_
  refine AW.region ?_   -- "token.go:23"
  refine AOps.run tok 1 _ _ _ _ rfl ?_
  refine AOps.nil ?_
  refine AW.seq ?_
  refine AW.region ?_   -- "token.go:23"   -- GUARDS
  refine AOps.run tok 2 _ _ _ _ rfl ?_
  refine AOps.split (t := 4) rfl (fun h => ?_) (fun h => ?_)
  · have h1 := of_decide_eq_true h
    refine AOps.run tok 5 _ _ _ _ rfl ?_
    refine AOps.split (t := 9) rfl (fun h => ?_) (fun h => ?_)
    · have h2 := of_decide_eq_true h
      refine AOps.run tok 8 _ _ _ _ rfl ?_
      refine AOps.nil ?_
      rw [show isL c = true by unfold isL; rw [Bool.eq_iff_iff]; simp <;> omega]
      exact AW.ret rfl
    · have h2 := of_decide_eq_false h
      refine AOps.run tok 2 _ _ _ _ rfl ?_
      refine AOps.split (t := 11) rfl (fun h => ?_) (fun h => ?_)
      · have h3 := of_decide_eq_true h
        refine AOps.run tok 6 _ _ _ _ rfl ?_
        refine AOps.nil ?_
        rw [show isL c = decide ((c : Int) ≤ 122) by unfold isL; rw [Bool.eq_iff_iff]; simp <;> omega]
        exact AW.ret rfl
      · have h3 := of_decide_eq_false h
        refine AOps.run tok 6 _ _ _ _ rfl ?_
        refine AOps.nil ?_
        rw [show isL c = false by unfold isL; rw [Bool.eq_iff_iff]; simp <;> omega]
        exact AW.ret rfl
  · have h1 := of_decide_eq_false h
    refine AOps.run tok 7 _ _ _ _ rfl ?_
    refine AOps.split (t := 11) rfl (fun h => ?_) (fun h => ?_)
    · have h3 := of_decide_eq_true h
      refine AOps.run tok 6 _ _ _ _ rfl ?_
      refine AOps.nil ?_
      rw [show isL c = decide ((c : Int) ≤ 122) by unfold isL; rw [Bool.eq_iff_iff]; simp <;> omega]
      exact AW.ret rfl
    · have h3 := of_decide_eq_false h
      refine AOps.run tok 6 _ _ _ _ rfl ?_
      refine AOps.nil ?_
      rw [show isL c = false by unfold isL; rw [Bool.eq_iff_iff]; simp <;> omega]
      exact AW.ret rfl

theorem r18_at_ok (s : ByteArray) (i : Nat) : Pure Tryz.prog 90 [dS s, dI i] (d8 ((bsl s).getD i 0)) := by
  refine Pure.intro (n := 12) tok Tryz.func90 rfl rfl rfl (Nat.le_of_ble_eq_true rfl) (by kernel_rfl) (fun B F0 w0 => ?_)
  have hl := bsl_len s
  refine AW.seq ?_
  refine AW.region ?_   -- "ref.go:29"
  refine AOps.run tok 1 _ _ _ _ rfl ?_
  refine AOps.nil ?_
  refine AW.seq ?_
  refine AW.seq ?_
  refine AW.region ?_   -- "ref.go:30"
  refine AOps.run tok 4 _ _ _ _ rfl ?_
  refine AOps.nil ?_
  refine AW.cond rfl (fun h => ?_) (fun h => ?_)
  · have h1 := of_decide_eq_true h
    refine AW.seq ?_
    refine AW.region ?_   -- "ref.go:31"
    refine AOps.run tok 2 _ _ _ _ rfl ?_
    refine AOps.strix tok rfl rfl rfl rfl (Int.natCast_nonneg i) (by simp only [Int.toNat_natCast]; omega) ?_
    rw [Int.toNat_natCast, bsl_getD]
    refine AOps.run tok 1 _ _ _ _ rfl ?_
    refine AOps.nil ?_
    exact AW.ret rfl
  · have h1 := of_decide_eq_false h
    rw [getD_end (by omega)]
    refine AW.skip ?_
    refine AW.seq ?_
    refine AW.region ?_   -- "ref.go:33"
    refine AOps.run tok 1 _ _ _ _ rfl ?_
    refine AOps.nil ?_
    exact AW.ret rfl

set_option maxHeartbeats 400000 in
theorem r18_wordEnd_ok (s : ByteArray) (hs : s.size ≤ 1000000000000000) : Pure Tryz.prog 64 [dS s, dI 0] (dI (wlen (bsl s) : Nat)) := by
  refine Pure.intro (n := 30) tok Tryz.func64 rfl rfl rfl (Nat.le_of_ble_eq_true rfl) (by kernel_rfl) (fun B F0 w0 => ?_)
  have hl := bsl_len s
  refine AW.seq ?_
  refine AW.region ?_   -- "ref.go:37"
  refine AOps.run tok 1 _ _ _ _ rfl ?_
  refine AOps.nil ?_
  refine AW.seq ?_
  refine AW.seq ?_
  refine AW.region ?_   -- "ref.go:38"
  refine AOps.run tok 2 _ _ _ _ rfl ?_
  refine AOps.call tok rfl rfl rfl rfl (r18_at_ok s 0) ?_
  refine AOps.call tok rfl rfl rfl rfl (r18_isLetter_ok ((bsl s).getD 0 0)) ?_
  refine AOps.run tok 1 _ _ _ _ rfl ?_
  refine AOps.nil ?_
  refine AW.cond rfl (fun h => ?_) (fun h => ?_)
  · have h1 : isL ((bsl s).getD 0 0) = false := by simpa using h
    rw [wlen, h1]
    refine AW.seq ?_
    refine AW.region ?_   -- "ref.go:39"
    refine AOps.run tok 2 _ _ _ _ rfl ?_
    refine AOps.nil ?_
    exact AW.ret rfl
  · have h1 : isL ((bsl s).getD 0 0) = true := by simpa using h
    rw [wlen, if_pos h1]
    refine AW.skip ?_
    refine AW.seq ?_
    refine AW.block ?_   -- block 0
    refine AW.loopS [0, 1] (fun k : Nat => [(0, .d (dS s)), (1, .d (dI k))]) (fun k => k ≤ s.size ∧ ∀ i, i < k → isP ((bsl s).getD i 0) = true) (fun k => s.size - k) 0 rfl
      ⟨Nat.zero_le _, fun i hi => by omega⟩ (fun k ⟨hk, hp⟩ => ?_)
    refine AW.seq ?_
    refine AW.cut [0, 1, 26] (fun _ : Unit => [(0, .d (dS s)), (1, .d (dI k)), (26, .d (dB (isP ((bsl s).getD k 0))))]) (fun _ => True) ?_ (fun _ _ => ?_)
    · refine AW.region ?_   -- "ref.go:41"   -- GUARDS
      refine AOps.run tok 2 _ _ _ _ rfl ?_
      refine AOps.call tok rfl rfl rfl rfl (r18_at_ok s k) ?_
      refine AOps.call tok rfl rfl rfl rfl (r18_isLetter_ok ((bsl s).getD k 0)) ?_
      refine AOps.split (t := 14) rfl (fun h => ?_) (fun h => ?_)
      · refine AOps.run tok 12 _ _ _ _ rfl ?_
        refine AOps.nil ?_
        exact ⟨(), by rw [show isP ((bsl s).getD k 0) = true by unfold isP; rw [h]; rfl]; rfl, trivial⟩
      · refine AOps.run tok 3 _ _ _ _ rfl ?_
        refine AOps.call tok rfl rfl rfl rfl (r18_at_ok s k) ?_   -- guarded
        refine AOps.call tok rfl rfl rfl rfl (r18_isDigit_ok ((bsl s).getD k 0)) ?_   -- guarded
        refine AOps.run tok 2 _ _ _ _ rfl ?_
        refine AOps.split (t := 21) rfl (fun h2 => ?_) (fun h2 => ?_)
        · refine AOps.run tok 5 _ _ _ _ rfl ?_
          refine AOps.nil ?_
          exact ⟨(), by rw [show isP ((bsl s).getD k 0) = true by unfold isP; rw [h, h2]; rfl]; rfl, trivial⟩
        · refine AOps.run tok 2 _ _ _ _ rfl ?_
          refine AOps.call tok rfl rfl rfl rfl (r18_at_ok s k) ?_   -- guarded
          refine AOps.run tok 2 _ _ _ _ rfl ?_
          refine AOps.nil ?_
          exact ⟨(), by rw [show isP ((bsl s).getD k 0) = ((((bsl s).getD k 0 : Nat) : Int) == 95) by unfold isP; rw [h, h2, Bool.eq_iff_iff]; simp <;> omega]; rfl, trivial⟩
    refine AW.cond rfl (fun h => ?_) (fun h => ?_)
    · have hks : k < s.size := by
        rcases Nat.lt_or_ge k s.size with e | e
        · exact e
        · rw [getD_end (by omega)] at h; cases h
      refine AW.skip ?_
      refine AW.block ?_   -- block 1
      refine AW.region ?_   -- "ref.go:42"
      refine AOps.run tok 3 _ _ _ _ rfl ?_
      rw [wI64 (x := (k : Int) + 1) (by omega) (by omega)]
      refine AOps.nil ?_
      refine ⟨k + 1, rfl, ⟨hks, fun i hi => ?_⟩, by omega⟩
      rcases Nat.lt_or_ge i k with e | e
      · exact hp i e
      · rw [show i = k by omega]; exact h
    · rw [takeWhile_of (by omega) hp h]
      refine AW.exit ?_
      refine AW.seq ?_
      refine AW.region ?_   -- "ref.go:44"
      refine AOps.run tok 2 _ _ _ _ rfl ?_
      refine AOps.nil ?_
      exact AW.ret rfl

theorem r18_Name_ok (s : ByteArray) (hs : s.size ≤ 1000000000000000) : Pure Tryz.prog 47 [dS s] (dB (nameB s)) := by
  refine Pure.intro (n := 18) tok Tryz.func47 rfl rfl rfl (Nat.le_of_ble_eq_true rfl) (by kernel_rfl) (fun B F0 w0 => ?_)
  have hle : wlen (bsl s) ≤ s.size := by
    unfold wlen
    split
    · rw [← bsl_len]; exact (List.takeWhile_prefix _).length_le
    · omega
  have hw := r18_wordEnd_ok s hs
  unfold nameB
  generalize wlen (bsl s) = n at *
  refine AW.seq ?_
  refine AW.region ?_   -- "ref.go:131"
  refine AOps.run tok 1 _ _ _ _ rfl ?_
  refine AOps.nil ?_
  refine AW.seq ?_
  refine AW.region ?_   -- "ref.go:131"   -- GUARDS
  refine AOps.run tok 3 _ _ _ _ rfl ?_
  refine AOps.split (t := 5) rfl (fun h => ?_) (fun h => ?_)
  · have h1 := of_decide_eq_true h
    refine AOps.run tok 5 _ _ _ _ rfl ?_
    refine AOps.split (t := 10) rfl (fun h => ?_) (fun h => ?_)
    · have h2 := of_decide_eq_true h
      refine AOps.run tok 2 _ _ _ _ rfl ?_
      refine AOps.call tok rfl rfl rfl rfl hw ?_   -- guarded
      refine AOps.run tok 5 _ _ _ _ rfl ?_
      refine AOps.nil ?_
      rw [show decide (0 < n ∧ n = s.size ∧ s.size ≤ 24) = ((n : Int) == s.size) by rw [Bool.eq_iff_iff]; simp only [decide_eq_true_eq, beq_iff_eq]; omega]
      exact AW.ret rfl
    · have h2 := of_decide_eq_false h
      refine AOps.run tok 8 _ _ _ _ rfl ?_
      refine AOps.nil ?_
      rw [show decide (0 < n ∧ n = s.size ∧ s.size ≤ 24) = false by rw [Bool.eq_iff_iff]; simp <;> omega]
      exact AW.ret rfl
  · have h1 := of_decide_eq_false h
    refine AOps.run tok 13 _ _ _ _ rfl ?_
    refine AOps.nil ?_
    rw [show decide (0 < n ∧ n = s.size ∧ s.size ≤ 24) = false by rw [Bool.eq_iff_iff]; simp <;> omega]
    exact AW.ret rfl
end Lift
/- Linkages: their data, and what is wrong with one, in plain Lean. -/
namespace Lift
open Go Go.Proofs

instance : Inhabited RD := ⟨⟨false, [], []⟩⟩
structure Mark where
  nm : ByteArray
  x : RD
  y : RD
deriving Inhabited
structure Body where
  nm : ByteArray
  pts : List Mark
deriving Inhabited
structure Joint where
  nm : ByteArray
  kind : Int
  a : Int
  pt : Int
  b : Int
  on : Int
  to : Int
deriving Inhabited
structure Driver where
  nm : ByteArray
  body : Int
deriving Inhabited
structure Lkg where
  nm : ByteArray
  bodies : List Body
  joints : List Joint
  drivers : List Driver
deriving Inhabited
abbrev Mark.D (p : Mark) : D := .ag [dS p.nm, dB p.x.g, Wd p.x.n, Wd p.x.d, dB p.y.g, Wd p.y.n, Wd p.y.d]
abbrev PtsD (l : List Mark) : D := .sl 7 (l.map Mark.D)
abbrev Body.D (b : Body) : D := .ag [dS b.nm, PtsD b.pts]
abbrev Joint.D (j : Joint) : D := .ag [dS j.nm, dI j.kind, dI j.a, dI j.pt, dI j.b, dI j.on, dI j.to]
abbrev Driver.D (d : Driver) : D := .ag [dS d.nm, dI d.body]
abbrev BodiesD (l : List Body) : D := .sl 2 (l.map Body.D)
abbrev JointsD (l : List Joint) : D := .sl 7 (l.map Joint.D)
abbrev DriversD (l : List Driver) : D := .sl 2 (l.map Driver.D)
abbrev Lkg.D (l : Lkg) : D := .ag [dS l.nm, BodiesD l.bodies, JointsD l.joints, DriversD l.drivers]

def big : Nat := 1000000000000000
/-- The sizes that are asked for. -/
def Mark.ok (k : Nat) (p : Mark) : Prop := p.nm.size ≤ big ∧ p.x.w k ∧ p.y.w k
def Body.ok (k : Nat) (b : Body) : Prop := b.nm.size ≤ big ∧ b.pts.length ≤ big ∧ ∀ i, (b.pts.getD i default).ok k
structure Lkg.ok (k : Nat) (l : Lkg) : Prop where
  nm : l.nm.size ≤ big
  nb : l.bodies.length ≤ big
  nj : l.joints.length ≤ big
  nd : l.drivers.length ≤ big
  b : ∀ i, (l.bodies.getD i default).ok k
  j : ∀ i, (l.joints.getD i default).nm.size ≤ big
  d : ∀ i, (l.drivers.getD i default).nm.size ≤ big

/-- Whether g holds of one of i, i + 1, .. (m of them). -/
def anyF (g : Nat → Bool) : Nat → Nat → Bool
  | 0, _ => false
  | m + 1, i => g i || anyF g m (i + 1)
/-- The first that is not 0 of f i, f (i + 1), .. (m of them). -/
def fE (f : Nat → Nat) : Nat → Nat → Nat
  | 0, _ => 0
  | m + 1, i => if f i = 0 then fE f m (i + 1) else f i
theorem fE_hit {f : Nat → Nat} {n i : Nat} (h : i < n) (h0 : f i ≠ 0) : fE f (n - i) i = f i := by
  rw [show n - i = (n - (i + 1)) + 1 by omega, fE, if_neg h0]
theorem fE_miss {f : Nat → Nat} {n i : Nat} (h : i < n) (h0 : f i = 0) : fE f (n - i) i = fE f (n - (i + 1)) (i + 1) := by
  rw [show n - i = (n - (i + 1)) + 1 by omega, fE, if_pos h0]
theorem fE_end {f : Nat → Nat} {n i : Nat} (h : ¬ i < n) : fE f (n - i) i = 0 := by
  rw [show n - i = 0 by omega, fE]
theorem anyF_hit {f : Nat → Bool} {n i : Nat} (h : i < n) (h0 : f i = true) : anyF f (n - i) i = true := by
  rw [show n - i = (n - (i + 1)) + 1 by omega, anyF, h0]; rfl
theorem anyF_miss {f : Nat → Bool} {n i : Nat} (h : i < n) (h0 : f i = false) : anyF f (n - i) i = anyF f (n - (i + 1)) (i + 1) := by
  rw [show n - i = (n - (i + 1)) + 1 by omega, anyF, h0]; rfl
theorem anyF_end {f : Nat → Bool} {n i : Nat} (h : ¬ i < n) : anyF f (n - i) i = false := by
  rw [show n - i = 0 by omega, anyF]
theorem getM {α : Type} [Inhabited α] (f : α → D) {l : List α} {i : Nat} (h : i < l.length) : (l.map f)[i]? = some (f (l.getD i default)) := by
  simp [h]
theorem getT {α : Type} [Inhabited α] (f : α → D) {l : List α} {i k : Nat} (h : k < l.length) (hk : k < i) : ((l.map f).take i)[k]? = some (f (l.getD k default)) := by
  rw [List.getElem?_take_of_lt hk, getM f h]
theorem slcLen {l : List D} {i : Nat} (h : i ≤ l.length) : ((l.take (hiN l.length (some (i : Int)))).drop (loN none)).length = i := by
  show ((l.take i).drop 0).length = i
  rw [List.drop_zero, List.length_take]; omega

def dupM (l : List Mark) (i : Nat) : Bool := anyF (fun k => decide ((l.getD k default).nm = (l.getD i default).nm)) i 0
def dupB (l : List Body) (i : Nat) : Bool := anyF (fun k => decide ((l.getD k default).nm = (l.getD i default).nm)) i 0
def dupJ (l : List Joint) (i : Nat) : Bool := anyF (fun k => decide ((l.getD k default).nm = (l.getD i default).nm)) i 0
def dupD (l : List Driver) (i : Nat) : Bool := anyF (fun k => decide ((l.getD k default).nm = (l.getD i default).nm)) i 0
def dupT (l : List Driver) (i : Nat) : Bool := anyF (fun k => decide ((l.getD k default).body = (l.getD i default).body)) i 0
def ptE (l : List Mark) (i : Nat) : Nat := if nameB (l.getD i default).nm = false then 5 else if dupM l i = true then 6 else
  if (l.getD i default).x.okB = true ∧ (l.getD i default).y.okB = true then 0 else 3
def ptsE (l : List Mark) : Nat := if 8 < l.length then 4 else fE (ptE l) l.length 0
def bodyE (l : List Body) (i : Nat) : Nat := if nameB (l.getD i default).nm = false then 5 else if dupB l i = true then 6 else ptsE (l.getD i default).pts
def bodiesE (l : List Body) : Nat := fE (bodyE l) l.length 0
def inB (i : Int) (n : Nat) : Bool := decide (0 ≤ i ∧ i < n)
def sameM (p q : Mark) : Bool := decide (p.x.val = q.x.val ∧ p.y.val = q.y.val)
def jE (l : List Body) (j : Joint) : Nat :=
  if j.kind ≠ 0 ∧ j.kind ≠ 1 then 7 else if (inB j.a l.length && inB j.b l.length) = false then 9 else if j.a = j.b then 13 else
  if (inB j.pt (l.getD j.a.toNat default).pts.length && inB j.on (l.getD j.b.toNat default).pts.length) = false then 9 else
  if j.kind = 0 then (if j.to = 0 then 0 else 2) else if inB j.to (l.getD j.b.toNat default).pts.length = false then 9 else
  if sameM ((l.getD j.b.toNat default).pts.getD j.on.toNat default) ((l.getD j.b.toNat default).pts.getD j.to.toNat default) = true then 8 else 0
def jointE (b : List Body) (l : List Joint) (i : Nat) : Nat := if nameB (l.getD i default).nm = false then 5 else if dupJ l i = true then 6 else jE b (l.getD i default)
def jointsE (b : List Body) (l : List Joint) : Nat := if 16 < l.length then 4 else fE (jointE b l) l.length 0
def driverE (n : Nat) (l : List Driver) (i : Nat) : Nat := if nameB (l.getD i default).nm = false then 5 else if dupD l i = true then 6 else
  if inB (l.getD i default).body n = false then 9 else if (l.getD i default).body = 0 then 7 else if dupT l i = true then 6 else 0
def driversE (n : Nat) (l : List Driver) : Nat := if 2 < l.length then 4 else fE (driverE n l) l.length 0
/-- The number of the first error of a linkage; 0 if there is none. -/
def chk (l : Lkg) : Nat := if nameB l.nm = false then 5 else if l.bodies = [] then 10 else if 8 < l.bodies.length then 4 else
  if bodiesE l.bodies ≠ 0 then bodiesE l.bodies else if jointsE l.bodies l.joints ≠ 0 then jointsE l.bodies l.joints else driversE l.bodies.length l.drivers
/-- A number as an error. -/
def erV (n : Nat) : D := match n with
  | 0 => nilE
  | m + 1 => er ((m + 1 : Nat) : Int)
end Lift
/- Linkages as they are handed to a function. -/
namespace Lift
open Go Go.Proofs

theorem u_bool : RT Tryz.prog 4 Bool (fun b => [dB b]) (fun _ => True) := RT.bool (by kernel_rfl) (by kernel_rfl)
theorem u_int : RT Tryz.prog 3 Int (fun n => [dI n]) (fun n => (Lit.int .i64 n).wf = true) := RT.int (by kernel_rfl) (by kernel_rfl)
theorem u_string : RT Tryz.prog 9 ByteArray (fun s => [dS s]) (fun s => s.size ≤ reachBytes) := RT.string (by kernel_rfl) (by kernel_rfl)
theorem u_word : RT Tryz.prog 111 Nat (fun n => [wd n]) (fun n => n < 4294967296) := by
  refine (RT.int (k := .u32) (by kernel_rfl) (by kernel_rfl)).map Int.toNat (fun n h => ?_) (fun n h => ?_) (fun v => ⟨by kernel_rfl, fun d hd => by simp at hd; subst hd; rfl⟩)
  · have : 0 ≤ n ∧ n ≤ 4294967295 := by simpa [Lit.wf, IntKind.min, IntKind.max, IntKind.signed, IntKind.bits] using h
    rw [wd, Int.toNat_of_nonneg this.1]
  · have : 0 ≤ n ∧ n ≤ 4294967295 := by simpa [Lit.wf, IntKind.min, IntKind.max, IntKind.signed, IntKind.bits] using h
    omega
theorem u_words : RT Tryz.prog 63 (List Nat) (fun l => [Wd l]) (fun l => W32 l ∧ l.length ≤ reachBytes) :=
  (RT.slice (el := wd) (s := 1) (by kernel_rfl) (by kernel_rfl) (by kernel_rfl) (by decide) (Nat.le_of_ble_eq_true (by kernel_rfl)) u_word (fun v => rfl)).map id (fun l h => rfl) (fun l h => ⟨h.2, h.1⟩) (fun v => ⟨by kernel_rfl, fun d hd => by simp at hd; subst hd; rfl⟩)
theorem u_rat : RT Tryz.prog 65 RD (fun r => [dB r.g, Wd r.n, Wd r.d]) (fun r => r.w reachBytes) := by
  have h := RT.struct (P := Tryz.prog) (t := 65) (m := 3) Tryz.underlying65 (by kernel_rfl) (RTF.cons (by kernel_rfl) u_bool (RTF.cons (by kernel_rfl) u_words (RTF.cons (by kernel_rfl) u_words RTF.nil))) (fun v => rfl)
  exact h.map (fun v => ⟨v.1, v.2.1, v.2.2.1⟩) (fun v h => rfl) (fun v h => ⟨h.2.1.1, h.2.2.1.1, h.2.1.2, h.2.2.1.2⟩) (fun v => ⟨by kernel_rfl, fun d hd => by
    simp only [List.mem_cons, List.mem_nil_iff, or_false] at hd
    rcases hd with rfl | rfl | rfl <;> rfl⟩)
theorem u_mark : RT Tryz.prog 67 Mark (fun p => p.D.flat) (fun p => p.ok reachBytes) := by
  have h := RT.struct (P := Tryz.prog) (t := 67) (m := 7) Tryz.underlying67 (by kernel_rfl) (RTF.cons (by kernel_rfl) u_string (RTF.cons (by kernel_rfl) u_rat (RTF.cons (by kernel_rfl) u_rat RTF.nil))) (fun v => rfl)
  exact h.map (fun v => ⟨v.1, v.2.1, v.2.2.1⟩) (fun v h => rfl) (fun v h => ⟨Nat.le_trans h.1 (by decide), h.2.1, h.2.2.1⟩) (fun v => ⟨by kernel_rfl, fun d hd => by
    simp only [D.flat, List.mem_cons, List.mem_nil_iff, or_false] at hd
    rcases hd with rfl | rfl | rfl | rfl | rfl | rfl | rfl <;> rfl⟩)
theorem u_marks : RT Tryz.prog 60 (List Mark) (fun l => [PtsD l]) (fun l => l.length ≤ reachBytes ∧ ∀ v ∈ l, v.ok reachBytes) :=
  RT.slice (el := Mark.D) (s := 7) (by kernel_rfl) (by kernel_rfl) (by kernel_rfl) (by decide) (Nat.le_of_ble_eq_true (by kernel_rfl)) u_mark (fun v => rfl)
theorem getD_ok {α : Type} [Inhabited α] {p : α → Prop} {l : List α} (h : ∀ v ∈ l, p v) (h0 : p default) (i : Nat) : p (l.getD i default) := by
  rw [List.getD_eq_getElem?_getD]
  rcases Nat.lt_or_ge i l.length with hi | hi
  · rw [List.getElem?_eq_getElem hi]; exact h _ (List.getElem_mem hi)
  · rw [List.getElem?_eq_none hi]; exact h0
theorem mark_def (k : Nat) : (default : Mark).ok k := ⟨by decide, ⟨W32.nil, W32.nil, Nat.zero_le _, Nat.zero_le _⟩, ⟨W32.nil, W32.nil, Nat.zero_le _, Nat.zero_le _⟩⟩
theorem body_def (k : Nat) : (default : Body).ok k := ⟨by decide, by decide, fun i => getD_ok (l := []) (fun v h => by cases h) (mark_def k) i⟩
theorem u_body : RT Tryz.prog 62 Body (fun b => b.D.flat) (fun b => b.ok reachBytes) := by
  have h := RT.struct (P := Tryz.prog) (t := 62) (m := 2) Tryz.underlying62 (by kernel_rfl) (RTF.cons (by kernel_rfl) u_string (RTF.cons (by kernel_rfl) u_marks RTF.nil)) (fun v => rfl)
  exact h.map (fun v => ⟨v.1, v.2.1⟩) (fun v h => rfl) (fun v h => ⟨Nat.le_trans h.1 (by decide), Nat.le_trans h.2.1.1 (by decide), getD_ok h.2.1.2 (mark_def _)⟩) (fun v => ⟨by kernel_rfl, fun d hd => by
    simp only [D.flat, List.mem_cons, List.mem_nil_iff, or_false] at hd
    rcases hd with rfl | rfl <;> rfl⟩)
theorem u_bodies : RT Tryz.prog 22 (List Body) (fun l => [BodiesD l]) (fun l => l.length ≤ reachBytes ∧ ∀ v ∈ l, v.ok reachBytes) :=
  RT.slice (el := Body.D) (s := 2) (by kernel_rfl) (by kernel_rfl) (by kernel_rfl) (by decide) (Nat.le_of_ble_eq_true (by kernel_rfl)) u_body (fun v => rfl)
theorem u_joint : RT Tryz.prog 39 Joint (fun j => j.D.flat) (fun j => j.nm.size ≤ big) := by
  have h := RT.struct (P := Tryz.prog) (t := 39) (m := 7) Tryz.underlying39 (by kernel_rfl) (RTF.cons (by kernel_rfl) u_string (RTF.cons (by kernel_rfl) u_int (RTF.cons (by kernel_rfl) u_int (RTF.cons (by kernel_rfl) u_int (RTF.cons (by kernel_rfl) u_int (RTF.cons (by kernel_rfl) u_int (RTF.cons (by kernel_rfl) u_int RTF.nil))))))) (fun v => rfl)
  exact h.map (fun v => ⟨v.1, v.2.1, v.2.2.1, v.2.2.2.1, v.2.2.2.2.1, v.2.2.2.2.2.1, v.2.2.2.2.2.2.1⟩) (fun v h => rfl) (fun v h => Nat.le_trans h.1 (by decide)) (fun v => ⟨by kernel_rfl, fun d hd => by
    simp only [D.flat, List.mem_cons, List.mem_nil_iff, or_false] at hd
    rcases hd with rfl | rfl | rfl | rfl | rfl | rfl | rfl <;> rfl⟩)
theorem u_joints : RT Tryz.prog 23 (List Joint) (fun l => [JointsD l]) (fun l => l.length ≤ reachBytes ∧ ∀ v ∈ l, v.nm.size ≤ big) :=
  RT.slice (el := Joint.D) (s := 7) (by kernel_rfl) (by kernel_rfl) (by kernel_rfl) (by decide) (Nat.le_of_ble_eq_true (by kernel_rfl)) u_joint (fun v => rfl)
theorem u_driver : RT Tryz.prog 98 Driver (fun d => d.D.flat) (fun d => d.nm.size ≤ big) := by
  have h := RT.struct (P := Tryz.prog) (t := 98) (m := 2) Tryz.underlying98 (by kernel_rfl) (RTF.cons (by kernel_rfl) u_string (RTF.cons (by kernel_rfl) u_int RTF.nil)) (fun v => rfl)
  exact h.map (fun v => ⟨v.1, v.2.1⟩) (fun v h => rfl) (fun v h => Nat.le_trans h.1 (by decide)) (fun v => ⟨by kernel_rfl, fun d hd => by
    simp only [D.flat, List.mem_cons, List.mem_nil_iff, or_false] at hd
    rcases hd with rfl | rfl <;> rfl⟩)
theorem u_drivers : RT Tryz.prog 24 (List Driver) (fun l => [DriversD l]) (fun l => l.length ≤ reachBytes ∧ ∀ v ∈ l, v.nm.size ≤ big) :=
  RT.slice (el := Driver.D) (s := 2) (by kernel_rfl) (by kernel_rfl) (by kernel_rfl) (by decide) (Nat.le_of_ble_eq_true (by kernel_rfl)) u_driver (fun v => rfl)
theorem Lkg.ok.mono {l : Lkg} {k m : Nat} (h : l.ok k) (hk : k ≤ m) : l.ok m :=
  ⟨h.nm, h.nb, h.nj, h.nd, fun i => ⟨(h.b i).1, (h.b i).2.1, fun j => ⟨((h.b i).2.2 j).1, ((h.b i).2.2 j).2.1.mono hk, ((h.b i).2.2 j).2.2.mono hk⟩⟩, h.j, h.d⟩
theorem u_linkage : RT Tryz.prog 26 Lkg (fun l => l.D.flat) (fun l => l.ok big) := by
  have h := RT.struct (P := Tryz.prog) (t := 26) (m := 4) Tryz.underlying26 (by kernel_rfl) (RTF.cons (by kernel_rfl) u_string (RTF.cons (by kernel_rfl) u_bodies (RTF.cons (by kernel_rfl) u_joints (RTF.cons (by kernel_rfl) u_drivers RTF.nil)))) (fun v => rfl)
  exact h.map (fun v => ⟨v.1, v.2.1, v.2.2.1, v.2.2.2.1⟩) (fun v h => rfl) (fun v h => Lkg.ok.mono (k := reachBytes) ⟨Nat.le_trans h.1 (by decide), Nat.le_trans h.2.1.1 (by decide), Nat.le_trans h.2.2.1.1 (by decide), Nat.le_trans h.2.2.2.1.1 (by decide),
    getD_ok h.2.1.2 (body_def _), getD_ok (p := fun j : Joint => j.nm.size ≤ big) h.2.2.1.2 (by decide), getD_ok (p := fun d : Driver => d.nm.size ≤ big) h.2.2.2.1.2 (by decide)⟩ (by decide)) (fun v => ⟨by kernel_rfl, fun d hd => by
    simp only [D.flat, List.mem_cons, List.mem_nil_iff, or_false] at hd
    rcases hd with rfl | rfl | rfl | rfl <;> rfl⟩)
end Lift
/- What the rows ask of the program; the arguments of the statements. -/
namespace Go.Proofs.YtdoicdbaacfpoaaGreat
open Lift Go

theorem Tryz.own : ownKnob Tryz.prog.godebug = none := by kernel_rfl
theorem Tryz.laidOut : laidOutB Tryz.prog = true := by kernel_rfl
theorem a_linkage : RA Tryz.prog 26 Lkg (fun l => l.D) (fun l => l.ok big) := RA.agg Tryz.underlying26 u_linkage
theorem a_string : RA Tryz.prog 9 ByteArray (fun s => dS s) (fun _ => True) := RA.cell (one_string (by kernel_rfl)) (u_string.map id (fun _ _ => rfl) (fun _ _ => trivial) u_string.1)
end Go.Proofs.YtdoicdbaacfpoaaGreat
/- The model's checks: numbers, bodies. -/
namespace Lift
open Go Go.Proofs

theorem model_in_ok (i : Int) (n : Nat) : Pure Tryz.prog 71 [dI i, dI n] (dB (inB i n)) := by
  refine Pure.intro (n := 12) tok Tryz.func71 rfl rfl rfl (Nat.le_of_ble_eq_true rfl) (by kernel_rfl) (fun B F0 w0 => ?_)
  refine AW.seq ?_
  refine AW.region ?_   -- "model.go:42"
  refine AOps.run tok 1 _ _ _ _ rfl ?_
  refine AOps.nil ?_
  refine AW.seq ?_
  refine AW.region ?_   -- "model.go:42"   -- GUARDS
  refine AOps.run tok 2 _ _ _ _ rfl ?_
  refine AOps.split (t := 6) rfl (fun h => ?_) (fun h => ?_)
  · have h1 := of_decide_eq_true h
    refine AOps.run tok 6 _ _ _ _ rfl ?_
    refine AOps.nil ?_
    rw [show inB i n = decide (i < n) by unfold inB; rw [decide_eq_decide]; omega]
    exact AW.ret rfl
  · have h1 := of_decide_eq_false h
    refine AOps.run tok 6 _ _ _ _ rfl ?_
    refine AOps.nil ?_
    rw [show inB i n = false by unfold inB; rw [decide_eq_false_iff_not]; omega]
    exact AW.ret rfl

set_option maxHeartbeats 1600000 in
theorem model_bodies_ok (bs : List Body) {K : Nat} (hn : bs.length ≤ big) (hb : ∀ i, (bs.getD i default).ok K) (hK : K ≤ 50000000) : Pure Tryz.prog 52 [BodiesD bs] (erV (bodiesE bs)) := by
  refine Pure.intro (n := 85) tok Tryz.func52 rfl rfl rfl (Nat.le_of_ble_eq_true rfl) (by kernel_rfl) (fun B F0 w0 => ?_)
  unfold big at hn
  refine AW.seq ?_
  refine AW.region ?_   -- "model.go:11"
  refine AOps.run tok 1 _ _ _ _ rfl ?_
  refine AOps.nil ?_
  refine AW.seq ?_
  refine AW.seq ?_
  refine AW.region ?_   -- "model.go:12"
  refine AOps.run tok 3 _ _ _ _ rfl ?_
  rw [List.length_map]
  refine AOps.nil ?_
  refine AW.block ?_   -- block 0
  refine AW.loopS [0, 11, 12, 13] (fun i : Nat => [(0, .d (BodiesD bs)), (11, .d (BodiesD bs)), (12, .d (dI bs.length)), (13, .d (dI i))])
    (fun i => i ≤ bs.length ∧ bodiesE bs = fE (bodyE bs) (bs.length - i) i) (fun i => bs.length - i) 0 rfl ⟨Nat.zero_le _, rfl⟩ (fun i ⟨hi, hE⟩ => ?_)
  refine AW.seq ?_
  refine AW.region ?_   -- "model.go:12"
  refine AOps.run tok 1 _ _ _ _ rfl ?_
  refine AOps.nil ?_
  refine AW.seq ?_
  refine AW.cond rfl (fun h => ?_) (fun h => ?_)
  · have hin : i < bs.length := by have := of_decide_eq_true h; omega
    obtain ⟨bok1, bok2, bok3⟩ := hb i
    have hbE : bodyE bs i ≠ 0 → bodiesE bs = bodyE bs i := fun h0 => hE.trans (fE_hit hin h0)
    have hbM : bodyE bs i = 0 → bodiesE bs = fE (bodyE bs) (bs.length - (i + 1)) (i + 1) := fun h0 => hE.trans (fE_miss hin h0)
    obtain ⟨b, hbe⟩ : ∃ b, b = bs.getD i default := ⟨_, rfl⟩
    rw [← hbe] at bok1 bok2 bok3
    unfold big at bok1 bok2
    have hdup : dupB bs i = anyF (fun k => decide ((bs.getD k default).nm = b.nm)) i 0 := by rw [hbe]; rfl
    have hbd : bodyE bs i = if nameB b.nm = false then 5 else if dupB bs i = true then 6 else ptsE b.pts := by rw [hbe]; rfl
    refine AW.skip ?_
    refine AW.seq ?_
    refine AW.block ?_   -- block 1
    refine AW.seq ?_
    refine AW.region ?_   -- "model.go:12"
    refine AOps.run tok 1 _ _ _ _ rfl ?_
    refine AOps.idx tok b.D rfl rfl rfl rfl (Int.natCast_nonneg i) (by rw [hbe]; exact getM Body.D hin) ?_
    refine AOps.run tok 4 _ _ _ _ rfl ?_
    refine AOps.nil ?_
    refine AW.seq ?_
    refine AW.seq ?_
    refine AW.region ?_   -- "model.go:13"
    refine AOps.run tok 2 _ _ _ _ rfl ?_
    refine AOps.call tok rfl rfl rfl rfl (token_Name_ok b.nm bok1) ?_
    refine AOps.run tok 1 _ _ _ _ rfl ?_
    refine AOps.nil ?_
    refine AW.cond rfl (fun h => ?_) (fun h => ?_)
    · have hnm : nameB b.nm = false := by simpa using h
      have h5 : bodyE bs i = 5 := by rw [hbd, hnm]; rfl
      rw [show bodiesE bs = 5 by rw [hbE (by omega), h5]]
      refine AW.seq ?_
      refine AW.region ?_   -- "model.go:14"
      refine AOps.run tok 2 _ _ _ _ rfl ?_
      refine AOps.nil ?_
      exact AW.ret rfl
    · have hnm : nameB b.nm = true := by simpa using h
      rw [hnm, if_neg (by decide)] at hbd
      refine AW.skip ?_
      refine AW.seq ?_
      refine AW.seq ?_
      refine AW.region ?_   -- "model.go:16"
      refine AOps.run tok 2 _ _ _ _ rfl ?_
      refine AOps.slc tok rfl rfl rfl rfl trivial (Int.natCast_nonneg i) (Nat.zero_le _) (by show i ≤ _; rw [List.length_map]; omega) ?_
      refine AOps.run tok 2 _ _ _ _ rfl ?_
      rw [slcLen (by rw [List.length_map]; omega)]
      refine AOps.nil ?_
      refine AW.block ?_   -- block 2
      refine AW.loopS [0, 3, 4, 11, 12, 13, 25, 26, 27] (fun k : Nat => [(0, .d (BodiesD bs)), (3, .d (dI i)), (4, .bx [dS b.nm, PtsD b.pts]), (11, .d (BodiesD bs)), (12, .d (dI bs.length)), (13, .d (dI i)), (25, .d (.sl 2 ((bs.map Body.D).take i))), (26, .d (dI i)), (27, .d (dI k))])
        (fun k => k ≤ i ∧ dupB bs i = anyF (fun k => decide ((bs.getD k default).nm = b.nm)) (i - k) k) (fun k => i - k) 0 rfl ⟨Nat.zero_le _, hdup⟩ (fun k ⟨hk, hD⟩ => ?_)
      refine AW.seq ?_
      refine AW.region ?_   -- "model.go:16"
      refine AOps.run tok 1 _ _ _ _ rfl ?_
      refine AOps.nil ?_
      refine AW.seq ?_
      refine AW.cond rfl (fun h => ?_) (fun h => ?_)
      · have hki : k < i := by have := of_decide_eq_true h; omega
        refine AW.skip ?_
        refine AW.seq ?_
        refine AW.block ?_   -- block 3
        refine AW.seq ?_
        refine AW.region ?_   -- "model.go:16"
        refine AOps.idx tok (bs.getD k default).D rfl rfl rfl rfl (Int.natCast_nonneg k) (getT Body.D (by omega) hki) ?_
        refine AOps.run tok 3 _ _ _ _ rfl ?_
        refine AOps.nil ?_
        refine AW.seq ?_
        refine AW.region ?_   -- "model.go:17"
        refine AOps.run tok 5 _ _ _ _ rfl ?_
        rw [str_eq]
        refine AOps.nil ?_
        refine AW.cond rfl (fun h => ?_) (fun h => ?_)
        · have h6 : bodyE bs i = 6 := by rw [hbd, hD.trans (anyF_hit hki h)]; rfl
          rw [show bodiesE bs = 6 by rw [hbE (by omega), h6]]
          refine AW.seq ?_
          refine AW.region ?_   -- "model.go:18"
          refine AOps.run tok 2 _ _ _ _ rfl ?_
          refine AOps.nil ?_
          exact AW.ret rfl
        · refine AW.skip ?_
          refine AW.region ?_   -- "model.go:16"
          refine AOps.run tok 2 _ _ _ _ rfl ?_
          rw [wI64 (x := (k : Int) + 1) (by omega) (by omega)]
          refine AOps.nil ?_
          exact ⟨k + 1, rfl, ⟨hki, hD.trans (anyF_miss hki h)⟩, by omega⟩
      · have hki : ¬ k < i := by have := of_decide_eq_false h; omega
        rw [hD.trans (anyF_end hki), if_neg (by decide)] at hbd
        refine AW.exit ?_
        refine AW.seq ?_
        refine AW.seq ?_
        refine AW.region ?_   -- "model.go:21"
        refine AOps.run tok 4 _ _ _ _ rfl ?_
        rw [List.length_map]
        refine AOps.nil ?_
        refine AW.cond rfl (fun h => ?_) (fun h => ?_)
        · have h8 : 8 < b.pts.length := by have := of_decide_eq_true h; omega
          have h4 : bodyE bs i = 4 := by rw [hbd, ptsE, if_pos h8]
          rw [show bodiesE bs = 4 by rw [hbE (by omega), h4]]
          refine AW.seq ?_
          refine AW.region ?_   -- "model.go:22"
          refine AOps.run tok 2 _ _ _ _ rfl ?_
          refine AOps.nil ?_
          exact AW.ret rfl
        · have h8 : ¬ 8 < b.pts.length := by have := of_decide_eq_false h; omega
          rw [ptsE, if_neg h8] at hbd
          refine AW.skip ?_
          refine AW.seq ?_
          refine AW.region ?_   -- "model.go:24"
          refine AOps.run tok 4 _ _ _ _ rfl ?_
          rw [List.length_map]
          refine AOps.nil ?_
          refine AW.block ?_   -- block 4
          refine AW.loopS [0, 4, 11, 12, 13, 44, 45, 46] (fun p : Nat => [(0, .d (BodiesD bs)), (4, .bx [dS b.nm, PtsD b.pts]), (11, .d (BodiesD bs)), (12, .d (dI bs.length)), (13, .d (dI i)), (44, .d (PtsD b.pts)), (45, .d (dI b.pts.length)), (46, .d (dI p))])
            (fun p => p ≤ b.pts.length ∧ bodyE bs i = fE (ptE b.pts) (b.pts.length - p) p) (fun p => b.pts.length - p) 0 rfl ⟨Nat.zero_le _, hbd⟩ (fun p ⟨hp, hP⟩ => ?_)
          refine AW.seq ?_
          refine AW.region ?_   -- "model.go:24"
          refine AOps.run tok 1 _ _ _ _ rfl ?_
          refine AOps.nil ?_
          refine AW.seq ?_
          refine AW.cond rfl (fun h => ?_) (fun h => ?_)
          · have hpn : p < b.pts.length := by have := of_decide_eq_true h; omega
            obtain ⟨mok1, mok2, mok3⟩ := bok3 p
            have hpE : ptE b.pts p ≠ 0 → bodiesE bs = ptE b.pts p := fun h0 => by
              have := hP.trans (fE_hit hpn h0)
              rw [hbE (by omega), this]
            have hpM : ptE b.pts p = 0 → bodyE bs i = fE (ptE b.pts) (b.pts.length - (p + 1)) (p + 1) := fun h0 => hP.trans (fE_miss hpn h0)
            obtain ⟨m, hm⟩ : ∃ m, m = b.pts.getD p default := ⟨_, rfl⟩
            rw [← hm] at mok1 mok2 mok3
            unfold big at mok1
            have hdup2 : dupM b.pts p = anyF (fun k => decide ((b.pts.getD k default).nm = m.nm)) p 0 := by rw [hm]; rfl
            have hpd : ptE b.pts p = if nameB m.nm = false then 5 else if dupM b.pts p = true then 6 else if m.x.okB = true ∧ m.y.okB = true then 0 else 3 := by rw [hm]; rfl
            refine AW.skip ?_
            refine AW.seq ?_
            refine AW.block ?_   -- block 5
            refine AW.seq ?_
            refine AW.region ?_   -- "model.go:24"
            refine AOps.run tok 1 _ _ _ _ rfl ?_
            refine AOps.idx tok m.D rfl rfl rfl rfl (Int.natCast_nonneg p) (by rw [hm]; exact getM Mark.D hpn) ?_
            refine AOps.run tok 4 _ _ _ _ rfl ?_
            refine AOps.nil ?_
            refine AW.seq ?_
            refine AW.seq ?_
            refine AW.region ?_   -- "model.go:25"
            refine AOps.run tok 2 _ _ _ _ rfl ?_
            refine AOps.call tok rfl rfl rfl rfl (token_Name_ok m.nm mok1) ?_
            refine AOps.run tok 1 _ _ _ _ rfl ?_
            refine AOps.nil ?_
            refine AW.cond rfl (fun h => ?_) (fun h => ?_)
            · have hnm2 : nameB m.nm = false := by simpa using h
              have h5 : ptE b.pts p = 5 := by rw [hpd, hnm2]; rfl
              rw [show bodiesE bs = 5 by rw [hpE (by omega), h5]]
              refine AW.seq ?_
              refine AW.region ?_   -- "model.go:26"
              refine AOps.run tok 2 _ _ _ _ rfl ?_
              refine AOps.nil ?_
              exact AW.ret rfl
            · have hnm2 : nameB m.nm = true := by simpa using h
              rw [hnm2, if_neg (by decide)] at hpd
              refine AW.skip ?_
              refine AW.seq ?_
              refine AW.seq ?_
              refine AW.region ?_   -- "model.go:28"
              refine AOps.run tok 3 _ _ _ _ rfl ?_
              refine AOps.slc tok rfl rfl rfl rfl trivial (Int.natCast_nonneg p) (Nat.zero_le _) (by show p ≤ _; rw [List.length_map]; omega) ?_
              refine AOps.run tok 2 _ _ _ _ rfl ?_
              rw [slcLen (by rw [List.length_map]; omega)]
              refine AOps.nil ?_
              refine AW.block ?_   -- block 6
              refine AW.loopS [0, 4, 8, 11, 12, 13, 44, 45, 46, 59, 60, 61] (fun k : Nat => [(0, .d (BodiesD bs)), (4, .bx [dS b.nm, PtsD b.pts]), (8, .bx [dS m.nm, dB m.x.g, Wd m.x.n, Wd m.x.d, dB m.y.g, Wd m.y.n, Wd m.y.d]), (11, .d (BodiesD bs)), (12, .d (dI bs.length)), (13, .d (dI i)), (44, .d (PtsD b.pts)), (45, .d (dI b.pts.length)), (46, .d (dI p)), (59, .d (.sl 7 ((b.pts.map Mark.D).take p))), (60, .d (dI p)), (61, .d (dI k))])
                (fun k => k ≤ p ∧ dupM b.pts p = anyF (fun k => decide ((b.pts.getD k default).nm = m.nm)) (p - k) k) (fun k => p - k) 0 rfl ⟨Nat.zero_le _, hdup2⟩ (fun k ⟨hk, hD2⟩ => ?_)
              refine AW.seq ?_
              refine AW.region ?_   -- "model.go:28"
              refine AOps.run tok 1 _ _ _ _ rfl ?_
              refine AOps.nil ?_
              refine AW.seq ?_
              refine AW.cond rfl (fun h => ?_) (fun h => ?_)
              · have hkp : k < p := by have := of_decide_eq_true h; omega
                refine AW.skip ?_
                refine AW.seq ?_
                refine AW.block ?_   -- block 7
                refine AW.seq ?_
                refine AW.region ?_   -- "model.go:28"
                refine AOps.idx tok (b.pts.getD k default).D rfl rfl rfl rfl (Int.natCast_nonneg k) (getT Mark.D (by omega) hkp) ?_
                refine AOps.run tok 3 _ _ _ _ rfl ?_
                refine AOps.nil ?_
                refine AW.seq ?_
                refine AW.region ?_   -- "model.go:29"
                refine AOps.run tok 5 _ _ _ _ rfl ?_
                rw [str_eq]
                refine AOps.nil ?_
                refine AW.cond rfl (fun h => ?_) (fun h => ?_)
                · have h6 : ptE b.pts p = 6 := by rw [hpd, hD2.trans (anyF_hit hkp h)]; rfl
                  rw [show bodiesE bs = 6 by rw [hpE (by omega), h6]]
                  refine AW.seq ?_
                  refine AW.region ?_   -- "model.go:30"
                  refine AOps.run tok 2 _ _ _ _ rfl ?_
                  refine AOps.nil ?_
                  exact AW.ret rfl
                · refine AW.skip ?_
                  refine AW.region ?_   -- "model.go:28"
                  refine AOps.run tok 2 _ _ _ _ rfl ?_
                  rw [wI64 (x := (k : Int) + 1) (by omega) (by omega)]
                  refine AOps.nil ?_
                  exact ⟨k + 1, rfl, ⟨hkp, hD2.trans (anyF_miss hkp h)⟩, by omega⟩
              · have hkp : ¬ k < p := by have := of_decide_eq_false h; omega
                rw [hD2.trans (anyF_end hkp), if_neg (by decide)] at hpd
                refine AW.exit ?_
                refine AW.cut [0, 4, 11, 12, 13, 44, 45, 46, 81] (fun _ : Unit => [(0, .d (BodiesD bs)), (4, .bx [dS b.nm, PtsD b.pts]), (11, .d (BodiesD bs)), (12, .d (dI bs.length)), (13, .d (dI i)), (44, .d (PtsD b.pts)), (45, .d (dI b.pts.length)), (46, .d (dI p)), (81, .d (dB (!decide (m.x.okB = true ∧ m.y.okB = true))))]) (fun _ => True) ?_ (fun _ _ => ?_)
                · refine AW.region ?_   -- "model.go:33"   -- GUARDS
                  refine AOps.run tok 2 _ _ _ _ rfl ?_
                  refine AOps.call tok rfl rfl rfl rfl (fraction_Valid_ok m.x mok2 hK) ?_
                  refine AOps.split (t := 74) rfl (fun h => ?_) (fun h => ?_)
                  · refine AOps.run tok 4 _ _ _ _ rfl ?_
                    refine AOps.call tok rfl rfl rfl rfl (fraction_Valid_ok m.y mok3 hK) ?_   -- guarded
                    refine AOps.run tok 2 _ _ _ _ rfl ?_
                    refine AOps.nil ?_
                    exact ⟨(), by rw [show decide (m.x.okB = true ∧ m.y.okB = true) = m.y.okB by simp [h]]; rfl, trivial⟩
                  · refine AOps.run tok 7 _ _ _ _ rfl ?_
                    refine AOps.nil ?_
                    exact ⟨(), by rw [show decide (m.x.okB = true ∧ m.y.okB = true) = false by simp [h]]; rfl, trivial⟩
                refine AW.cond rfl (fun h => ?_) (fun h => ?_)
                · have hno : ¬ (m.x.okB = true ∧ m.y.okB = true) := fun e => by rw [decide_eq_true e] at h; cases h
                  have h3 : ptE b.pts p = 3 := by rw [hpd, if_neg hno]
                  rw [show bodiesE bs = 3 by rw [hpE (by omega), h3]]
                  refine AW.seq ?_
                  refine AW.region ?_   -- "model.go:34"
                  refine AOps.run tok 2 _ _ _ _ rfl ?_
                  refine AOps.nil ?_
                  exact AW.ret rfl
                · have hyes : m.x.okB = true ∧ m.y.okB = true := by simpa using h
                  rw [if_pos hyes] at hpd
                  refine AW.skip ?_
                  refine AW.region ?_   -- "model.go:24"
                  refine AOps.run tok 2 _ _ _ _ rfl ?_
                  rw [wI64 (x := (p : Int) + 1) (by omega) (by omega)]
                  refine AOps.nil ?_
                  exact ⟨p + 1, rfl, ⟨hpn, hpM hpd⟩, by omega⟩
          · have hpn : ¬ p < b.pts.length := by have := of_decide_eq_false h; omega
            have h0 : bodyE bs i = 0 := hP.trans (fE_end hpn)
            refine AW.exit ?_
            refine AW.region ?_   -- "model.go:12"
            refine AOps.run tok 2 _ _ _ _ rfl ?_
            rw [wI64 (x := (i : Int) + 1) (by omega) (by omega)]
            refine AOps.nil ?_
            exact ⟨i + 1, rfl, ⟨hin, hbM h0⟩, by omega⟩
  · have hin : ¬ i < bs.length := by have := of_decide_eq_false h; omega
    rw [hE, fE_end hin]
    refine AW.exit ?_
    refine AW.seq ?_
    refine AW.region ?_   -- "model.go:38"
    refine AOps.run tok 1 _ _ _ _ rfl ?_
    refine AOps.nil ?_
    exact AW.ret rfl
end Lift
/- The model's check of a joint. -/
namespace Lift
open Go Go.Proofs

theorem cmpQ_zero (a b : Rat) : (cmpQ a b == 0) = decide (a = b) := by
  unfold cmpQ
  by_cases h : a < b
  · rw [if_pos h]
    have hne : a ≠ b := fun e => by rw [e] at h; exact absurd h Rat.lt_irrefl
    rw [decide_eq_false hne]; rfl
  · rw [if_neg h]
    by_cases he : a = b
    · rw [if_pos he, decide_eq_true he]; rfl
    · rw [if_neg he, decide_eq_false he]; rfl
theorem not_t {b : Bool} (h : (!b) = true) : b = false := by cases b <;> simp_all
theorem inB_t {i : Int} {n : Nat} (h : inB i n = true) : 0 ≤ i ∧ i.toNat < n := by
  have := of_decide_eq_true h; omega

set_option maxHeartbeats 1600000 in
theorem model_joint_ok (l : Lkg) (j : Joint) {K : Nat} (hl : l.ok K) (hK : K ≤ 20000000) : Pure Tryz.prog 70 [l.D, j.D] (erV (jE l.bodies j)) := by
  refine Pure.intro (n := 107) tok Tryz.func70 rfl rfl rfl (Nat.le_of_ble_eq_true rfl) (by kernel_rfl) (fun B F0 w0 => ?_)
  obtain ⟨ln, bs, js, ds⟩ := l
  have hb := hl.b
  simp only [] at hb ⊢
  obtain ⟨nm, kind, a, pt, b, on, to⟩ := j
  have hj : jE bs ⟨nm, kind, a, pt, b, on, to⟩ = if kind ≠ 0 ∧ kind ≠ 1 then 7 else if (inB a bs.length && inB b bs.length) = false then 9 else if a = b then 13 else
    if (inB pt (bs.getD a.toNat default).pts.length && inB on (bs.getD b.toNat default).pts.length) = false then 9 else
    if kind = 0 then (if to = 0 then 0 else 2) else if inB to (bs.getD b.toNat default).pts.length = false then 9 else
    if sameM ((bs.getD b.toNat default).pts.getD on.toNat default) ((bs.getD b.toNat default).pts.getD to.toNat default) = true then 8 else 0 := rfl
  generalize jE bs ⟨nm, kind, a, pt, b, on, to⟩ = E at *
  refine AW.seq ?_
  refine AW.region ?_   -- "model.go:45"
  refine AOps.run tok 3 _ _ _ _ rfl ?_
  refine AOps.nil ?_
  refine AW.seq ?_
  refine AW.cut [2, 3, 15] (fun _ : Unit => [(2, .bx [dS ln, BodiesD bs, JointsD js, DriversD ds]), (3, .bx [dS nm, dI kind, dI a, dI pt, dI b, dI on, dI to]), (15, .d (dB (decide (kind ≠ 0 ∧ kind ≠ 1))))]) (fun _ => True) ?_ (fun _ _ => ?_)
  · refine AW.region ?_   -- "model.go:46"   -- GUARDS
    refine AOps.run tok 3 _ _ _ _ rfl ?_
    refine AOps.split (t := 10) rfl (fun h => ?_) (fun h => ?_)
    · have h1 : kind ≠ 0 := by simpa using h
      refine AOps.run tok 5 _ _ _ _ rfl ?_
      refine AOps.nil ?_
      exact ⟨(), by rw [show decide (kind ≠ 0 ∧ kind ≠ 1) = (kind != 1) by rw [Bool.eq_iff_iff]; simp [h1]]; rfl, trivial⟩
    · have h1 : kind = 0 := by simpa using h
      refine AOps.run tok 5 _ _ _ _ rfl ?_
      refine AOps.nil ?_
      exact ⟨(), by rw [show decide (kind ≠ 0 ∧ kind ≠ 1) = false by simp [h1]]; rfl, trivial⟩
  refine AW.cond rfl (fun h => ?_) (fun h => ?_)
  · rw [if_pos (of_decide_eq_true h)] at hj
    rw [hj]
    refine AW.seq ?_
    refine AW.region ?_   -- "model.go:47"
    refine AOps.run tok 2 _ _ _ _ rfl ?_
    refine AOps.nil ?_
    exact AW.ret rfl
  rw [if_neg (of_decide_eq_false h)] at hj
  refine AW.skip ?_
  refine AW.seq ?_
  refine AW.cut [2, 3, 32] (fun _ : Unit => [(2, .bx [dS ln, BodiesD bs, JointsD js, DriversD ds]), (3, .bx [dS nm, dI kind, dI a, dI pt, dI b, dI on, dI to]), (32, .d (dB (!(inB a bs.length && inB b bs.length))))]) (fun _ => True) ?_ (fun _ _ => ?_)
  · refine AW.region ?_   -- "model.go:49"   -- GUARDS
    refine AOps.run tok 5 _ _ _ _ rfl ?_
    rw [List.length_map]
    refine AOps.call tok rfl rfl rfl rfl (model_in_ok a bs.length) ?_
    refine AOps.split (t := 22) rfl (fun h => ?_) (fun h => ?_)
    · refine AOps.run tok 7 _ _ _ _ rfl ?_
      rw [List.length_map]
      refine AOps.call tok rfl rfl rfl rfl (model_in_ok b bs.length) ?_   -- guarded
      refine AOps.run tok 2 _ _ _ _ rfl ?_
      refine AOps.nil ?_
      exact ⟨(), by rw [h]; rfl, trivial⟩
    · refine AOps.run tok 10 _ _ _ _ rfl ?_
      refine AOps.nil ?_
      exact ⟨(), by rw [h]; rfl, trivial⟩
  refine AW.cond rfl (fun h => ?_) (fun h => ?_)
  · rw [if_pos (not_t h)] at hj
    rw [hj]
    refine AW.seq ?_
    refine AW.region ?_   -- "model.go:50"
    refine AOps.run tok 2 _ _ _ _ rfl ?_
    refine AOps.nil ?_
    exact AW.ret rfl
  have hab : inB a bs.length = true ∧ inB b bs.length = true := by simpa using h
  rw [if_neg (by simp [hab])] at hj
  obtain ⟨ha0, ha1⟩ := inB_t hab.1
  obtain ⟨hb0, hb1⟩ := inB_t hab.2
  obtain ⟨Bb, hBb⟩ : ∃ x, x = bs.getD b.toNat default := ⟨_, rfl⟩
  obtain ⟨Ba, hBa⟩ : ∃ x, x = bs.getD a.toNat default := ⟨_, rfl⟩
  have okb := hb b.toNat
  rw [← hBb] at hj okb
  rw [← hBa] at hj
  refine AW.skip ?_
  refine AW.seq ?_
  refine AW.seq ?_
  refine AW.region ?_   -- "model.go:52"
  refine AOps.run tok 5 _ _ _ _ rfl ?_
  refine AOps.nil ?_
  refine AW.cond rfl (fun h => ?_) (fun h => ?_)
  · rw [if_pos (by simpa using h)] at hj
    rw [hj]
    refine AW.seq ?_
    refine AW.region ?_   -- "model.go:53"
    refine AOps.run tok 2 _ _ _ _ rfl ?_
    refine AOps.nil ?_
    exact AW.ret rfl
  rw [if_neg (by simpa using h)] at hj
  refine AW.skip ?_
  refine AW.seq ?_
  refine AW.region ?_   -- "model.go:55"
  refine AOps.run tok 4 _ _ _ _ rfl ?_
  refine AOps.idx tok Bb.D rfl rfl rfl rfl hb0 (by rw [hBb]; exact getM Body.D hb1) ?_
  refine AOps.run tok 3 _ _ _ _ rfl ?_
  refine AOps.nil ?_
  refine AW.seq ?_
  refine AW.cut [2, 3, 5, 66] (fun _ : Unit => [(2, .bx [dS ln, BodiesD bs, JointsD js, DriversD ds]), (3, .bx [dS nm, dI kind, dI a, dI pt, dI b, dI on, dI to]), (5, .d (PtsD Bb.pts)), (66, .d (dB (!(inB pt Ba.pts.length && inB on Bb.pts.length))))]) (fun _ => True) ?_ (fun _ _ => ?_)
  · have c1 := model_in_ok pt Ba.pts.length
    cases hq : inB pt Ba.pts.length with
    | true =>
      rw [hq] at c1
      refine AW.draw hmix 20 (by kernel_rfl) ?_   -- "model.go:56"   -- GUARDS
      refine APre.run tok 6 _ _ _ _ rfl ?_
      refine APre.idx tok Ba.D rfl rfl rfl rfl rfl ha0 (by rw [hBa]; exact getM Body.D ha1) ?_
      refine APre.run tok 3 _ _ _ _ rfl ?_
      rw [List.length_map]
      refine APre.call tok rfl rfl rfl rfl rfl c1 ?_
      refine APre.run tok 6 _ _ _ _ rfl ?_
      rw [List.length_map]
      refine APre.call tok rfl rfl rfl rfl rfl (model_in_ok on Bb.pts.length) ?_   -- guarded
      refine APre.run tok 2 _ _ _ _ rfl ?_
      refine APre.nil ?_
      refine AOps.nil ?_
      exact ⟨(), rfl, trivial⟩
    | false =>
      rw [hq] at c1
      refine AW.draw hmix 20 (by kernel_rfl) ?_   -- "model.go:56"   -- GUARDS
      refine APre.run tok 6 _ _ _ _ rfl ?_
      refine APre.idx tok Ba.D rfl rfl rfl rfl rfl ha0 (by rw [hBa]; exact getM Body.D ha1) ?_
      refine APre.run tok 3 _ _ _ _ rfl ?_
      rw [List.length_map]
      refine APre.call tok rfl rfl rfl rfl rfl c1 ?_
      refine APre.run tok 9 _ _ _ _ rfl ?_
      refine APre.nil ?_
      refine AOps.nil ?_
      exact ⟨(), rfl, trivial⟩
  refine AW.cond rfl (fun h => ?_) (fun h => ?_)
  · rw [if_pos (not_t h)] at hj
    rw [hj]
    refine AW.seq ?_
    refine AW.region ?_   -- "model.go:57"
    refine AOps.run tok 2 _ _ _ _ rfl ?_
    refine AOps.nil ?_
    exact AW.ret rfl
  have hpo : inB pt Ba.pts.length = true ∧ inB on Bb.pts.length = true := by simpa using h
  rw [if_neg (by simp [hpo])] at hj
  obtain ⟨ho0, ho1⟩ := inB_t hpo.2
  refine AW.skip ?_
  refine AW.seq ?_
  refine AW.seq ?_
  refine AW.region ?_   -- "model.go:59"
  refine AOps.run tok 3 _ _ _ _ rfl ?_
  refine AOps.nil ?_
  refine AW.cond rfl (fun h => ?_) (fun h => ?_)
  · rw [if_pos (by simpa using h)] at hj
    refine AW.seq ?_
    refine AW.seq ?_
    refine AW.region ?_   -- "model.go:60"
    refine AOps.run tok 3 _ _ _ _ rfl ?_
    refine AOps.nil ?_
    refine AW.cond rfl (fun h => ?_) (fun h => ?_)
    · rw [if_neg (by simpa using h)] at hj
      rw [hj]
      refine AW.seq ?_
      refine AW.region ?_   -- "model.go:61"
      refine AOps.run tok 2 _ _ _ _ rfl ?_
      refine AOps.nil ?_
      exact AW.ret rfl
    · rw [if_pos (by simpa using h)] at hj
      rw [hj]
      refine AW.skip ?_
      refine AW.seq ?_
      refine AW.region ?_   -- "model.go:63"
      refine AOps.run tok 1 _ _ _ _ rfl ?_
      refine AOps.nil ?_
      exact AW.ret rfl
  rw [if_neg (by simpa using h)] at hj
  refine AW.skip ?_
  refine AW.seq ?_
  refine AW.seq ?_
  refine AW.region ?_   -- "model.go:65"
  refine AOps.run tok 4 _ _ _ _ rfl ?_
  rw [List.length_map]
  refine AOps.call tok rfl rfl rfl rfl (model_in_ok to Bb.pts.length) ?_
  refine AOps.run tok 1 _ _ _ _ rfl ?_
  refine AOps.nil ?_
  refine AW.cond rfl (fun h => ?_) (fun h => ?_)
  · rw [if_pos (by simpa using h)] at hj
    rw [hj]
    refine AW.seq ?_
    refine AW.region ?_   -- "model.go:66"
    refine AOps.run tok 2 _ _ _ _ rfl ?_
    refine AOps.nil ?_
    exact AW.ret rfl
  have hto : inB to Bb.pts.length = true := by simpa using h
  rw [if_neg (by simp [hto])] at hj
  obtain ⟨ht0, ht1⟩ := inB_t hto
  obtain ⟨p, hp⟩ : ∃ x, x = Bb.pts.getD on.toNat default := ⟨_, rfl⟩
  obtain ⟨q, hq⟩ : ∃ x, x = Bb.pts.getD to.toNat default := ⟨_, rfl⟩
  have okp := okb.2.2 on.toNat
  have okq := okb.2.2 to.toNat
  rw [← hp] at hj okp
  rw [← hq] at hj okq
  refine AW.skip ?_
  refine AW.seq ?_
  refine AW.draw3 tok hmix [(5, true), (5, false), (2, true)] 12 [6, 7] (by kernel_rfl) ⟨rfl, ?_⟩   -- "model.go:68"
  refine APre.run tok 3 _ _ _ _ rfl ?_
  refine APre.idx tok p.D rfl rfl rfl rfl rfl ho0 (by rw [hp]; exact getM Mark.D ho1) ?_
  refine APre.run tok 1 _ _ _ _ rfl ?_
  refine APre.nil ⟨rfl, ?_⟩
  refine APre.run tok 3 _ _ _ _ rfl ?_
  refine APre.idx tok q.D rfl rfl rfl rfl rfl ht0 (by rw [hq]; exact getM Mark.D ht1) ?_
  refine APre.run tok 1 _ _ _ _ rfl ?_
  refine APre.nil ⟨rfl, ?_⟩
  refine APre.run tok 2 _ _ _ _ rfl ?_
  refine APre.nil ⟨_, StL.cons (.bx rfl) (StL.cons (.bx rfl) (StL.nil)), ?_⟩
  refine AOps.nil ?_
  refine AW.seq ?_
  refine AW.cut [105] (fun _ : Unit => [(105, .d (dB (sameM p q)))]) (fun _ => True) ?_ (fun _ _ => ?_)
  · refine AW.region ?_   -- "model.go:69"   -- GUARDS
    refine AOps.run tok 4 _ _ _ _ rfl ?_
    refine AOps.call tok rfl rfl rfl rfl (fraction_Cmp_ok p.x q.x okp.2.1 okq.2.1 hK) ?_
    refine AOps.run tok 1 _ _ _ _ rfl ?_
    rw [cmpQ_zero]
    refine AOps.split (t := 97) rfl (fun h => ?_) (fun h => ?_)
    · have h1 := of_decide_eq_true h
      refine AOps.run tok 5 _ _ _ _ rfl ?_
      refine AOps.call tok rfl rfl rfl rfl (fraction_Cmp_ok p.y q.y okp.2.2 okq.2.2 hK) ?_   -- guarded
      refine AOps.run tok 2 _ _ _ _ rfl ?_
      rw [cmpQ_zero]
      refine AOps.nil ?_
      exact ⟨(), by rw [show sameM p q = decide (p.y.val = q.y.val) by unfold sameM; simp [h1]]; rfl, trivial⟩
    · have h1 := of_decide_eq_false h
      refine AOps.run tok 8 _ _ _ _ rfl ?_
      refine AOps.nil ?_
      exact ⟨(), by rw [show sameM p q = false by unfold sameM; simp [h1]]; rfl, trivial⟩
  refine AW.cond rfl (fun h => ?_) (fun h => ?_)
  · rw [if_pos h] at hj
    rw [hj]
    refine AW.seq ?_
    refine AW.region ?_   -- "model.go:70"
    refine AOps.run tok 2 _ _ _ _ rfl ?_
    refine AOps.nil ?_
    exact AW.ret rfl
  · rw [if_neg (by rw [h]; decide)] at hj
    rw [hj]
    refine AW.skip ?_
    refine AW.seq ?_
    refine AW.region ?_   -- "model.go:72"
    refine AOps.run tok 1 _ _ _ _ rfl ?_
    refine AOps.nil ?_
    exact AW.ret rfl
end Lift
/- The model's checks: joints, drivers, the whole. -/
namespace Lift
open Go Go.Proofs

set_option maxHeartbeats 1600000 in
theorem model_joints_ok (l : Lkg) {K : Nat} (hl : l.ok K) (hK : K ≤ 20000000) : Pure Tryz.prog 53 [l.D] (erV (jointsE l.bodies l.joints)) := by
  refine Pure.intro (n := 49) tok Tryz.func53 rfl rfl rfl (Nat.le_of_ble_eq_true rfl) (by kernel_rfl) (fun B F0 w0 => ?_)
  have hjoint := fun j => model_joint_ok l j hl hK
  obtain ⟨ln, bs, js, ds⟩ := l
  have hj := hl.j
  have hn := hl.nj
  simp only [] at hj hn hjoint ⊢
  show AW _ _ _ _ _ _ _ (initSt 0 [D.ag [dS ln, BodiesD bs, JointsD js, DriversD ds]])
  unfold big at hn
  refine AW.seq ?_
  refine AW.region ?_   -- "model.go:76"
  refine AOps.run tok 2 _ _ _ _ rfl ?_
  refine AOps.nil ?_
  refine AW.seq ?_
  refine AW.seq ?_
  refine AW.region ?_   -- "model.go:77"
  refine AOps.run tok 4 _ _ _ _ rfl ?_
  rw [List.length_map]
  refine AOps.nil ?_
  refine AW.cond rfl (fun h => ?_) (fun h => ?_)
  · have h16 : 16 < js.length := by have := of_decide_eq_true h; omega
    rw [jointsE, if_pos h16]
    refine AW.seq ?_
    refine AW.region ?_   -- "model.go:78"
    refine AOps.run tok 2 _ _ _ _ rfl ?_
    refine AOps.nil ?_
    exact AW.ret rfl
  have h16 : ¬ 16 < js.length := by have := of_decide_eq_false h; omega
  rw [jointsE, if_neg h16]
  refine AW.skip ?_
  refine AW.seq ?_
  refine AW.seq ?_
  refine AW.region ?_   -- "model.go:80"
  refine AOps.run tok 4 _ _ _ _ rfl ?_
  rw [List.length_map]
  refine AOps.nil ?_
  refine AW.block ?_   -- block 0
  refine AW.loopS [1, 14, 15, 16] (fun i : Nat => [(1, .bx [dS ln, BodiesD bs, JointsD js, DriversD ds]), (14, .d (JointsD js)), (15, .d (dI js.length)), (16, .d (dI i))])
    (fun i => i ≤ js.length ∧ fE (jointE bs js) js.length 0 = fE (jointE bs js) (js.length - i) i) (fun i => js.length - i) 0 rfl ⟨Nat.zero_le _, rfl⟩ (fun i ⟨hi, hE⟩ => ?_)
  refine AW.seq ?_
  refine AW.region ?_   -- "model.go:80"
  refine AOps.run tok 1 _ _ _ _ rfl ?_
  refine AOps.nil ?_
  refine AW.seq ?_
  refine AW.cond rfl (fun h => ?_) (fun h => ?_)
  · have hin : i < js.length := by have := of_decide_eq_true h; omega
    have jok := hj i
    have hbE : jointE bs js i ≠ 0 → fE (jointE bs js) js.length 0 = jointE bs js i := fun h0 => hE.trans (fE_hit hin h0)
    have hbM : jointE bs js i = 0 → fE (jointE bs js) js.length 0 = fE (jointE bs js) (js.length - (i + 1)) (i + 1) := fun h0 => hE.trans (fE_miss hin h0)
    generalize fE (jointE bs js) js.length 0 = E at *
    obtain ⟨j, hje⟩ : ∃ j, j = js.getD i default := ⟨_, rfl⟩
    rw [← hje] at jok
    unfold big at jok
    have hdup : dupJ js i = anyF (fun k => decide ((js.getD k default).nm = j.nm)) i 0 := by rw [hje]; rfl
    have hbd : jointE bs js i = if nameB j.nm = false then 5 else if dupJ js i = true then 6 else jE bs j := by rw [hje]; rfl
    refine AW.skip ?_
    refine AW.seq ?_
    refine AW.block ?_   -- block 1
    refine AW.seq ?_
    refine AW.region ?_   -- "model.go:80"
    refine AOps.run tok 1 _ _ _ _ rfl ?_
    refine AOps.idx tok j.D rfl rfl rfl rfl (Int.natCast_nonneg i) (by rw [hje]; exact getM Joint.D hin) ?_
    refine AOps.run tok 4 _ _ _ _ rfl ?_
    refine AOps.nil ?_
    refine AW.seq ?_
    refine AW.seq ?_
    refine AW.region ?_   -- "model.go:81"
    refine AOps.run tok 2 _ _ _ _ rfl ?_
    refine AOps.call tok rfl rfl rfl rfl (token_Name_ok j.nm jok) ?_
    refine AOps.run tok 1 _ _ _ _ rfl ?_
    refine AOps.nil ?_
    refine AW.cond rfl (fun h => ?_) (fun h => ?_)
    · have hnm : nameB j.nm = false := not_t h
      have h5 : jointE bs js i = 5 := by rw [hbd, hnm]; rfl
      rw [show E = 5 by rw [hbE (by omega), h5]]
      refine AW.seq ?_
      refine AW.region ?_   -- "model.go:82"
      refine AOps.run tok 2 _ _ _ _ rfl ?_
      refine AOps.nil ?_
      exact AW.ret rfl
    have hnm : nameB j.nm = true := by simpa using h
    rw [hnm, if_neg (by decide)] at hbd
    refine AW.skip ?_
    refine AW.seq ?_
    refine AW.seq ?_
    refine AW.region ?_   -- "model.go:84"
    refine AOps.run tok 3 _ _ _ _ rfl ?_
    refine AOps.slc tok rfl rfl rfl rfl trivial (Int.natCast_nonneg i) (Nat.zero_le _) (by show i ≤ _; rw [List.length_map]; omega) ?_
    refine AOps.run tok 2 _ _ _ _ rfl ?_
    rw [slcLen (by rw [List.length_map]; omega)]
    refine AOps.nil ?_
    refine AW.block ?_   -- block 2
    refine AW.loopS [1, 4, 14, 15, 16, 29, 30, 31] (fun k : Nat => [(1, .bx [dS ln, BodiesD bs, JointsD js, DriversD ds]), (4, .bx [dS j.nm, dI j.kind, dI j.a, dI j.pt, dI j.b, dI j.on, dI j.to]), (14, .d (JointsD js)), (15, .d (dI js.length)), (16, .d (dI i)), (29, .d (.sl 7 ((js.map Joint.D).take i))), (30, .d (dI i)), (31, .d (dI k))])
      (fun k => k ≤ i ∧ dupJ js i = anyF (fun k => decide ((js.getD k default).nm = j.nm)) (i - k) k) (fun k => i - k) 0 rfl ⟨Nat.zero_le _, hdup⟩ (fun k ⟨hk, hD⟩ => ?_)
    refine AW.seq ?_
    refine AW.region ?_   -- "model.go:84"
    refine AOps.run tok 1 _ _ _ _ rfl ?_
    refine AOps.nil ?_
    refine AW.seq ?_
    refine AW.cond rfl (fun h => ?_) (fun h => ?_)
    · have hki : k < i := by have := of_decide_eq_true h; omega
      refine AW.skip ?_
      refine AW.seq ?_
      refine AW.block ?_   -- block 3
      refine AW.seq ?_
      refine AW.region ?_   -- "model.go:84"
      refine AOps.idx tok (js.getD k default).D rfl rfl rfl rfl (Int.natCast_nonneg k) (getT Joint.D (by omega) hki) ?_
      refine AOps.run tok 3 _ _ _ _ rfl ?_
      refine AOps.nil ?_
      refine AW.seq ?_
      refine AW.region ?_   -- "model.go:85"
      refine AOps.run tok 5 _ _ _ _ rfl ?_
      rw [str_eq]
      refine AOps.nil ?_
      refine AW.cond rfl (fun h => ?_) (fun h => ?_)
      · have h6 : jointE bs js i = 6 := by rw [hbd, hD.trans (anyF_hit hki h)]; rfl
        rw [show E = 6 by rw [hbE (by omega), h6]]
        refine AW.seq ?_
        refine AW.region ?_   -- "model.go:86"
        refine AOps.run tok 2 _ _ _ _ rfl ?_
        refine AOps.nil ?_
        exact AW.ret rfl
      · refine AW.skip ?_
        refine AW.region ?_   -- "model.go:84"
        refine AOps.run tok 2 _ _ _ _ rfl ?_
        rw [wI64 (x := (k : Int) + 1) (by omega) (by omega)]
        refine AOps.nil ?_
        exact ⟨k + 1, rfl, ⟨hki, hD.trans (anyF_miss hki h)⟩, by omega⟩
    · have hki : ¬ k < i := by have := of_decide_eq_false h; omega
      rw [hD.trans (anyF_end hki), if_neg (by decide)] at hbd
      refine AW.exit ?_
      have c := hjoint j
      cases he : jE bs j with
      | zero =>
        rw [he] at hbd c
        refine AW.seq ?_
        refine AW.region ?_   -- "model.go:89"
        refine AOps.run tok 2 _ _ _ _ rfl ?_
        refine AOps.call tok rfl rfl rfl rfl c ?_
        refine AOps.run tok 1 _ _ _ _ rfl ?_
        refine AOps.nil ?_
        refine AW.seq ?_
        refine AW.region ?_   -- "model.go:89"
        refine AOps.run tok 1 _ _ _ _ rfl ?_
        refine AOps.err tok rfl rfl rfl rfl rfl ?_
        refine AOps.nil ?_
        refine AW.condF rfl ?_
        refine AW.skip ?_
        refine AW.region ?_   -- "model.go:80"
        refine AOps.run tok 2 _ _ _ _ rfl ?_
        rw [wI64 (x := (i : Int) + 1) (by omega) (by omega)]
        refine AOps.nil ?_
        exact ⟨i + 1, rfl, ⟨hin, hbM hbd⟩, by omega⟩
      | succ m =>
        rw [he] at hbd c
        rw [show E = m + 1 by rw [hbE (by omega), hbd]]
        refine AW.seq ?_
        refine AW.region ?_   -- "model.go:89"
        refine AOps.run tok 2 _ _ _ _ rfl ?_
        refine AOps.call tok rfl rfl rfl rfl c ?_
        refine AOps.run tok 1 _ _ _ _ rfl ?_
        refine AOps.nil ?_
        refine AW.seq ?_
        refine AW.region ?_   -- "model.go:89"
        refine AOps.run tok 1 _ _ _ _ rfl ?_
        refine AOps.err tok rfl rfl rfl rfl rfl ?_
        refine AOps.nil ?_
        refine AW.condT rfl ?_
        refine AW.seq ?_
        refine AW.region ?_   -- "model.go:90"
        refine AOps.run tok 2 _ _ _ _ rfl ?_
        refine AOps.nil ?_
        exact AW.ret rfl
  · have hin : ¬ i < js.length := by have := of_decide_eq_false h; omega
    rw [hE, fE_end hin]
    refine AW.exit ?_
    refine AW.seq ?_
    refine AW.region ?_   -- "model.go:93"
    refine AOps.run tok 1 _ _ _ _ rfl ?_
    refine AOps.nil ?_
    exact AW.ret rfl

set_option maxHeartbeats 1600000 in
theorem model_drivers_ok (l : Lkg) {K : Nat} (hl : l.ok K) : Pure Tryz.prog 54 [l.D] (erV (driversE l.bodies.length l.drivers)) := by
  refine Pure.intro (n := 72) tok Tryz.func54 rfl rfl rfl (Nat.le_of_ble_eq_true rfl) (by kernel_rfl) (fun B F0 w0 => ?_)
  obtain ⟨ln, bs, js, ds⟩ := l
  have hd := hl.d
  have hn := hl.nd
  simp only [] at hd hn ⊢
  show AW _ _ _ _ _ _ _ (initSt 0 [D.ag [dS ln, BodiesD bs, JointsD js, DriversD ds]])
  unfold big at hn
  refine AW.seq ?_
  refine AW.region ?_   -- "model.go:97"
  refine AOps.run tok 2 _ _ _ _ rfl ?_
  refine AOps.nil ?_
  refine AW.seq ?_
  refine AW.seq ?_
  refine AW.region ?_   -- "model.go:98"
  refine AOps.run tok 4 _ _ _ _ rfl ?_
  rw [List.length_map]
  refine AOps.nil ?_
  refine AW.cond rfl (fun h => ?_) (fun h => ?_)
  · have h2 : 2 < ds.length := by have := of_decide_eq_true h; omega
    rw [driversE, if_pos h2]
    refine AW.seq ?_
    refine AW.region ?_   -- "model.go:99"
    refine AOps.run tok 2 _ _ _ _ rfl ?_
    refine AOps.nil ?_
    exact AW.ret rfl
  have h2 : ¬ 2 < ds.length := by have := of_decide_eq_false h; omega
  rw [driversE, if_neg h2]
  refine AW.skip ?_
  refine AW.seq ?_
  refine AW.seq ?_
  refine AW.region ?_   -- "model.go:101"
  refine AOps.run tok 4 _ _ _ _ rfl ?_
  rw [List.length_map]
  refine AOps.nil ?_
  refine AW.block ?_   -- block 0
  refine AW.loopS [1, 15, 16, 17] (fun i : Nat => [(1, .bx [dS ln, BodiesD bs, JointsD js, DriversD ds]), (15, .d (DriversD ds)), (16, .d (dI ds.length)), (17, .d (dI i))])
    (fun i => i ≤ ds.length ∧ fE (driverE bs.length ds) ds.length 0 = fE (driverE bs.length ds) (ds.length - i) i) (fun i => ds.length - i) 0 rfl ⟨Nat.zero_le _, rfl⟩ (fun i ⟨hi, hE⟩ => ?_)
  refine AW.seq ?_
  refine AW.region ?_   -- "model.go:101"
  refine AOps.run tok 1 _ _ _ _ rfl ?_
  refine AOps.nil ?_
  refine AW.seq ?_
  refine AW.cond rfl (fun h => ?_) (fun h => ?_)
  · have hin : i < ds.length := by have := of_decide_eq_true h; omega
    have dok := hd i
    have hbE : driverE bs.length ds i ≠ 0 → fE (driverE bs.length ds) ds.length 0 = driverE bs.length ds i := fun h0 => hE.trans (fE_hit hin h0)
    have hbM : driverE bs.length ds i = 0 → fE (driverE bs.length ds) ds.length 0 = fE (driverE bs.length ds) (ds.length - (i + 1)) (i + 1) := fun h0 => hE.trans (fE_miss hin h0)
    generalize fE (driverE bs.length ds) ds.length 0 = E at *
    obtain ⟨d, hde⟩ : ∃ d, d = ds.getD i default := ⟨_, rfl⟩
    rw [← hde] at dok
    unfold big at dok
    have hdup : dupD ds i = anyF (fun k => decide ((ds.getD k default).nm = d.nm)) i 0 := by rw [hde]; rfl
    have hdup2 : dupT ds i = anyF (fun k => decide ((ds.getD k default).body = d.body)) i 0 := by rw [hde]; rfl
    have hbd : driverE bs.length ds i = if nameB d.nm = false then 5 else if dupD ds i = true then 6 else if inB d.body bs.length = false then 9 else if d.body = 0 then 7 else if dupT ds i = true then 6 else 0 := by rw [hde]; rfl
    refine AW.skip ?_
    refine AW.seq ?_
    refine AW.block ?_   -- block 1
    refine AW.seq ?_
    refine AW.region ?_   -- "model.go:101"
    refine AOps.run tok 1 _ _ _ _ rfl ?_
    refine AOps.idx tok d.D rfl rfl rfl rfl (Int.natCast_nonneg i) (by rw [hde]; exact getM Driver.D hin) ?_
    refine AOps.run tok 4 _ _ _ _ rfl ?_
    refine AOps.nil ?_
    refine AW.seq ?_
    refine AW.seq ?_
    refine AW.region ?_   -- "model.go:102"
    refine AOps.run tok 2 _ _ _ _ rfl ?_
    refine AOps.call tok rfl rfl rfl rfl (token_Name_ok d.nm dok) ?_
    refine AOps.run tok 1 _ _ _ _ rfl ?_
    refine AOps.nil ?_
    refine AW.cond rfl (fun h => ?_) (fun h => ?_)
    · have hnm : nameB d.nm = false := not_t h
      have h5 : driverE bs.length ds i = 5 := by rw [hbd, hnm]; rfl
      rw [show E = 5 by rw [hbE (by omega), h5]]
      refine AW.seq ?_
      refine AW.region ?_   -- "model.go:103"
      refine AOps.run tok 2 _ _ _ _ rfl ?_
      refine AOps.nil ?_
      exact AW.ret rfl
    have hnm : nameB d.nm = true := by simpa using h
    rw [hnm, if_neg (by decide)] at hbd
    refine AW.skip ?_
    refine AW.seq ?_
    refine AW.seq ?_
    refine AW.region ?_   -- "model.go:105"
    refine AOps.run tok 3 _ _ _ _ rfl ?_
    refine AOps.slc tok rfl rfl rfl rfl trivial (Int.natCast_nonneg i) (Nat.zero_le _) (by show i ≤ _; rw [List.length_map]; omega) ?_
    refine AOps.run tok 2 _ _ _ _ rfl ?_
    rw [slcLen (by rw [List.length_map]; omega)]
    refine AOps.nil ?_
    refine AW.block ?_   -- block 2
    refine AW.loopS [1, 3, 4, 15, 16, 17, 30, 31, 32] (fun k : Nat => [(1, .bx [dS ln, BodiesD bs, JointsD js, DriversD ds]), (3, .d (dI i)), (4, .bx [dS d.nm, dI d.body]), (15, .d (DriversD ds)), (16, .d (dI ds.length)), (17, .d (dI i)), (30, .d (.sl 2 ((ds.map Driver.D).take i))), (31, .d (dI i)), (32, .d (dI k))])
      (fun k => k ≤ i ∧ dupD ds i = anyF (fun k => decide ((ds.getD k default).nm = d.nm)) (i - k) k) (fun k => i - k) 0 rfl ⟨Nat.zero_le _, hdup⟩ (fun k ⟨hk, hD⟩ => ?_)
    refine AW.seq ?_
    refine AW.region ?_   -- "model.go:105"
    refine AOps.run tok 1 _ _ _ _ rfl ?_
    refine AOps.nil ?_
    refine AW.seq ?_
    refine AW.cond rfl (fun h => ?_) (fun h => ?_)
    · have hki : k < i := by have := of_decide_eq_true h; omega
      refine AW.skip ?_
      refine AW.seq ?_
      refine AW.block ?_   -- block 3
      refine AW.seq ?_
      refine AW.region ?_   -- "model.go:105"
      refine AOps.idx tok (ds.getD k default).D rfl rfl rfl rfl (Int.natCast_nonneg k) (getT Driver.D (by omega) hki) ?_
      refine AOps.run tok 3 _ _ _ _ rfl ?_
      refine AOps.nil ?_
      refine AW.seq ?_
      refine AW.region ?_   -- "model.go:106"
      refine AOps.run tok 5 _ _ _ _ rfl ?_
      rw [str_eq]
      refine AOps.nil ?_
      refine AW.cond rfl (fun h => ?_) (fun h => ?_)
      · have h6 : driverE bs.length ds i = 6 := by rw [hbd, hD.trans (anyF_hit hki h)]; rfl
        rw [show E = 6 by rw [hbE (by omega), h6]]
        refine AW.seq ?_
        refine AW.region ?_   -- "model.go:107"
        refine AOps.run tok 2 _ _ _ _ rfl ?_
        refine AOps.nil ?_
        exact AW.ret rfl
      · refine AW.skip ?_
        refine AW.region ?_   -- "model.go:105"
        refine AOps.run tok 2 _ _ _ _ rfl ?_
        rw [wI64 (x := (k : Int) + 1) (by omega) (by omega)]
        refine AOps.nil ?_
        exact ⟨k + 1, rfl, ⟨hki, hD.trans (anyF_miss hki h)⟩, by omega⟩
    · have hki : ¬ k < i := by have := of_decide_eq_false h; omega
      rw [hD.trans (anyF_end hki), if_neg (by decide)] at hbd
      refine AW.exit ?_
      refine AW.seq ?_
      refine AW.seq ?_
      refine AW.region ?_   -- "model.go:110"
      refine AOps.run tok 5 _ _ _ _ rfl ?_
      rw [List.length_map]
      refine AOps.call tok rfl rfl rfl rfl (model_in_ok d.body bs.length) ?_
      refine AOps.run tok 1 _ _ _ _ rfl ?_
      refine AOps.nil ?_
      refine AW.cond rfl (fun h => ?_) (fun h => ?_)
      · rw [if_pos (not_t h)] at hbd
        rw [show E = 9 by rw [hbE (by omega), hbd]]
        refine AW.seq ?_
        refine AW.region ?_   -- "model.go:111"
        refine AOps.run tok 2 _ _ _ _ rfl ?_
        refine AOps.nil ?_
        exact AW.ret rfl
      have hinb : inB d.body bs.length = true := by simpa using h
      rw [if_neg (by simp [hinb])] at hbd
      refine AW.skip ?_
      refine AW.seq ?_
      refine AW.seq ?_
      refine AW.region ?_   -- "model.go:113"
      refine AOps.run tok 3 _ _ _ _ rfl ?_
      refine AOps.nil ?_
      refine AW.cond rfl (fun h => ?_) (fun h => ?_)
      · rw [if_pos (by simpa using h)] at hbd
        rw [show E = 7 by rw [hbE (by omega), hbd]]
        refine AW.seq ?_
        refine AW.region ?_   -- "model.go:114"
        refine AOps.run tok 2 _ _ _ _ rfl ?_
        refine AOps.nil ?_
        exact AW.ret rfl
      rw [if_neg (by simpa using h)] at hbd
      refine AW.skip ?_
      refine AW.seq ?_
      refine AW.region ?_   -- "model.go:116"
      refine AOps.run tok 3 _ _ _ _ rfl ?_
      refine AOps.slc tok rfl rfl rfl rfl trivial (Int.natCast_nonneg i) (Nat.zero_le _) (by show i ≤ _; rw [List.length_map]; omega) ?_
      refine AOps.run tok 2 _ _ _ _ rfl ?_
      rw [slcLen (by rw [List.length_map]; omega)]
      refine AOps.nil ?_
      refine AW.block ?_   -- block 4
      refine AW.loopS [1, 4, 15, 16, 17, 58, 59, 60] (fun k : Nat => [(1, .bx [dS ln, BodiesD bs, JointsD js, DriversD ds]), (4, .bx [dS d.nm, dI d.body]), (15, .d (DriversD ds)), (16, .d (dI ds.length)), (17, .d (dI i)), (58, .d (.sl 2 ((ds.map Driver.D).take i))), (59, .d (dI i)), (60, .d (dI k))])
        (fun k => k ≤ i ∧ dupT ds i = anyF (fun k => decide ((ds.getD k default).body = d.body)) (i - k) k) (fun k => i - k) 0 rfl ⟨Nat.zero_le _, hdup2⟩ (fun k ⟨hk, hD⟩ => ?_)
      refine AW.seq ?_
      refine AW.region ?_   -- "model.go:116"
      refine AOps.run tok 1 _ _ _ _ rfl ?_
      refine AOps.nil ?_
      refine AW.seq ?_
      refine AW.cond rfl (fun h => ?_) (fun h => ?_)
      · have hki : k < i := by have := of_decide_eq_true h; omega
        refine AW.skip ?_
        refine AW.seq ?_
        refine AW.block ?_   -- block 5
        refine AW.seq ?_
        refine AW.region ?_   -- "model.go:116"
        refine AOps.idx tok (ds.getD k default).D rfl rfl rfl rfl (Int.natCast_nonneg k) (getT Driver.D (by omega) hki) ?_
        refine AOps.run tok 3 _ _ _ _ rfl ?_
        refine AOps.nil ?_
        refine AW.seq ?_
        refine AW.region ?_   -- "model.go:117"
        refine AOps.run tok 5 _ _ _ _ rfl ?_
        refine AOps.nil ?_
        refine AW.cond rfl (fun h => ?_) (fun h => ?_)
        · have h' : decide ((ds.getD k default).body = d.body) = true := by simpa using h
          rw [hD.trans (anyF_hit hki h')] at hbd
          rw [show E = 6 by rw [hbE (by rw [hbd]; decide), hbd]; rfl]
          refine AW.seq ?_
          refine AW.region ?_   -- "model.go:118"
          refine AOps.run tok 2 _ _ _ _ rfl ?_
          refine AOps.nil ?_
          exact AW.ret rfl
        · have h' : decide ((ds.getD k default).body = d.body) = false := by simpa using h
          refine AW.skip ?_
          refine AW.region ?_   -- "model.go:116"
          refine AOps.run tok 2 _ _ _ _ rfl ?_
          rw [wI64 (x := (k : Int) + 1) (by omega) (by omega)]
          refine AOps.nil ?_
          exact ⟨k + 1, rfl, ⟨hki, hD.trans (anyF_miss hki h')⟩, by omega⟩
      · have hki : ¬ k < i := by have := of_decide_eq_false h; omega
        rw [hD.trans (anyF_end hki), if_neg (by decide)] at hbd
        refine AW.exit ?_
        refine AW.region ?_   -- "model.go:101"
        refine AOps.run tok 2 _ _ _ _ rfl ?_
        rw [wI64 (x := (i : Int) + 1) (by omega) (by omega)]
        refine AOps.nil ?_
        exact ⟨i + 1, rfl, ⟨hin, hbM hbd⟩, by omega⟩
  · have hin : ¬ i < ds.length := by have := of_decide_eq_false h; omega
    rw [hE, fE_end hin]
    refine AW.exit ?_
    refine AW.seq ?_
    refine AW.region ?_   -- "model.go:122"
    refine AOps.run tok 1 _ _ _ _ rfl ?_
    refine AOps.nil ?_
    exact AW.ret rfl

set_option maxHeartbeats 1600000 in
theorem model_Check_ok (l : Lkg) {K : Nat} (hl : l.ok K) (hK : K ≤ 20000000) : Pure Tryz.prog 31 [l.D] (erV (chk l)) := by
  refine Pure.intro (n := 33) tok Tryz.func31 rfl rfl rfl (Nat.le_of_ble_eq_true rfl) (by kernel_rfl) (fun B F0 w0 => ?_)
  have c1 := model_bodies_ok l.bodies hl.nb hl.b (by omega)
  have c2 := model_joints_ok l hl hK
  have c3 := model_drivers_ok l hl
  have hcd : chk l = if nameB l.nm = false then 5 else if l.bodies = [] then 10 else if 8 < l.bodies.length then 4 else
    if bodiesE l.bodies ≠ 0 then bodiesE l.bodies else if jointsE l.bodies l.joints ≠ 0 then jointsE l.bodies l.joints else driversE l.bodies.length l.drivers := rfl
  generalize chk l = E at *
  obtain ⟨ln, bs, js, ds⟩ := l
  have hnm := hl.nm
  have hnb := hl.nb
  simp only [] at hcd c1 c2 c3 hnm hnb ⊢
  show AW _ _ _ _ _ _ _ (initSt 0 [D.ag [dS ln, BodiesD bs, JointsD js, DriversD ds]])
  unfold big at hnm hnb
  refine AW.seq ?_
  refine AW.region ?_   -- "model.go:126"
  refine AOps.run tok 2 _ _ _ _ rfl ?_
  refine AOps.nil ?_
  refine AW.seq ?_
  refine AW.seq ?_
  refine AW.region ?_   -- "model.go:127"
  refine AOps.run tok 2 _ _ _ _ rfl ?_
  refine AOps.call tok rfl rfl rfl rfl (token_Name_ok ln hnm) ?_
  refine AOps.run tok 1 _ _ _ _ rfl ?_
  refine AOps.nil ?_
  refine AW.cond rfl (fun h => ?_) (fun h => ?_)
  · rw [if_pos (not_t h)] at hcd
    rw [hcd]
    refine AW.seq ?_
    refine AW.region ?_   -- "model.go:128"
    refine AOps.run tok 2 _ _ _ _ rfl ?_
    refine AOps.nil ?_
    exact AW.ret rfl
  rw [if_neg (by simpa using h)] at hcd
  refine AW.skip ?_
  refine AW.seq ?_
  refine AW.seq ?_
  refine AW.region ?_   -- "model.go:130"
  refine AOps.run tok 4 _ _ _ _ rfl ?_
  rw [List.length_map]
  refine AOps.nil ?_
  refine AW.cond rfl (fun h => ?_) (fun h => ?_)
  · have h0 : bs = [] := List.length_eq_zero_iff.1 (by have : (bs.length : Int) = 0 := by simpa using h
                                                       omega)
    rw [if_pos h0] at hcd
    rw [hcd]
    refine AW.seq ?_
    refine AW.region ?_   -- "model.go:131"
    refine AOps.run tok 2 _ _ _ _ rfl ?_
    refine AOps.nil ?_
    exact AW.ret rfl
  have h0 : bs ≠ [] := by rintro rfl; simp at h
  rw [if_neg h0] at hcd
  refine AW.skip ?_
  refine AW.seq ?_
  refine AW.seq ?_
  refine AW.region ?_   -- "model.go:133"
  refine AOps.run tok 4 _ _ _ _ rfl ?_
  rw [List.length_map]
  refine AOps.nil ?_
  refine AW.cond rfl (fun h => ?_) (fun h => ?_)
  · have h8 : 8 < bs.length := by have := of_decide_eq_true h; omega
    rw [if_pos h8] at hcd
    rw [hcd]
    refine AW.seq ?_
    refine AW.region ?_   -- "model.go:134"
    refine AOps.run tok 2 _ _ _ _ rfl ?_
    refine AOps.nil ?_
    exact AW.ret rfl
  have h8 : ¬ 8 < bs.length := by have := of_decide_eq_false h; omega
  rw [if_neg h8] at hcd
  refine AW.skip ?_
  cases he : bodiesE bs with
  | succ m =>
    rw [he] at hcd c1
    rw [show E = m + 1 by rw [hcd, if_pos (by omega)]]
    refine AW.seq ?_
    refine AW.seq ?_
    refine AW.region ?_   -- "model.go:136"
    refine AOps.run tok 2 _ _ _ _ rfl ?_
    refine AOps.call tok rfl rfl rfl rfl c1 ?_
    refine AOps.run tok 1 _ _ _ _ rfl ?_
    refine AOps.nil ?_
    refine AW.seq ?_
    refine AW.region ?_   -- "model.go:136"
    refine AOps.run tok 1 _ _ _ _ rfl ?_
    refine AOps.err tok rfl rfl rfl rfl rfl ?_
    refine AOps.nil ?_
    refine AW.condT rfl ?_
    refine AW.seq ?_
    refine AW.region ?_   -- "model.go:137"
    refine AOps.run tok 2 _ _ _ _ rfl ?_
    refine AOps.nil ?_
    exact AW.ret rfl
  | zero =>
    rw [he] at hcd c1
    rw [if_neg (by omega)] at hcd
    refine AW.seq ?_
    refine AW.seq ?_
    refine AW.region ?_   -- "model.go:136"
    refine AOps.run tok 2 _ _ _ _ rfl ?_
    refine AOps.call tok rfl rfl rfl rfl c1 ?_
    refine AOps.run tok 1 _ _ _ _ rfl ?_
    refine AOps.nil ?_
    refine AW.seq ?_
    refine AW.region ?_   -- "model.go:136"
    refine AOps.run tok 1 _ _ _ _ rfl ?_
    refine AOps.err tok rfl rfl rfl rfl rfl ?_
    refine AOps.nil ?_
    refine AW.condF rfl ?_
    refine AW.skip ?_
    cases he2 : jointsE bs js with
    | succ m =>
      rw [he2] at hcd c2
      rw [show E = m + 1 by rw [hcd, if_pos (by omega)]]
      refine AW.seq ?_
      refine AW.seq ?_
      refine AW.region ?_   -- "model.go:139"
      refine AOps.run tok 1 _ _ _ _ rfl ?_
      refine AOps.call tok rfl rfl rfl rfl c2 ?_
      refine AOps.run tok 1 _ _ _ _ rfl ?_
      refine AOps.nil ?_
      refine AW.seq ?_
      refine AW.region ?_   -- "model.go:139"
      refine AOps.run tok 1 _ _ _ _ rfl ?_
      refine AOps.err tok rfl rfl rfl rfl rfl ?_
      refine AOps.nil ?_
      refine AW.condT rfl ?_
      refine AW.seq ?_
      refine AW.region ?_   -- "model.go:140"
      refine AOps.run tok 2 _ _ _ _ rfl ?_
      refine AOps.nil ?_
      exact AW.ret rfl
    | zero =>
      rw [he2] at hcd c2
      rw [if_neg (by omega)] at hcd
      rw [hcd]
      refine AW.seq ?_
      refine AW.seq ?_
      refine AW.region ?_   -- "model.go:139"
      refine AOps.run tok 1 _ _ _ _ rfl ?_
      refine AOps.call tok rfl rfl rfl rfl c2 ?_
      refine AOps.run tok 1 _ _ _ _ rfl ?_
      refine AOps.nil ?_
      refine AW.seq ?_
      refine AW.region ?_   -- "model.go:139"
      refine AOps.run tok 1 _ _ _ _ rfl ?_
      refine AOps.err tok rfl rfl rfl rfl rfl ?_
      refine AOps.nil ?_
      refine AW.condF rfl ?_
      refine AW.skip ?_
      refine AW.seq ?_
      refine AW.region ?_   -- "model.go:142"
      refine AOps.run tok 1 _ _ _ _ rfl ?_
      refine AOps.call tok rfl rfl rfl rfl c3 ?_
      refine AOps.run tok 1 _ _ _ _ rfl ?_
      refine AOps.nil ?_
      exact AW.ret rfl
end Lift
/- The model's reading: points, squares of distances. -/
namespace Lift
open Go Go.Proofs

/-- The first i, i + 1, .. (m of them) of which g says something. -/
def fO {α : Type} (g : Nat → Option α) : Nat → Nat → Option (Nat × α)
  | 0, _ => none
  | m + 1, i => match g i with
    | some x => some (i, x)
    | none => fO g m (i + 1)
theorem fO_hit {α : Type} {g : Nat → Option α} {n i : Nat} {x : α} (h : i < n) (h0 : g i = some x) : fO g (n - i) i = some (i, x) := by
  rw [show n - i = (n - (i + 1)) + 1 by omega, fO, h0]
theorem fO_miss {α : Type} {g : Nat → Option α} {n i : Nat} (h : i < n) (h0 : g i = none) : fO g (n - i) i = fO g (n - (i + 1)) (i + 1) := by
  rw [show n - i = (n - (i + 1)) + 1 by omega, fO, h0]
theorem fO_end {α : Type} {g : Nat → Option α} {n i : Nat} (h : ¬ i < n) : fO g (n - i) i = none := by
  rw [show n - i = 0 by omega, fO]
/-- The full name of a point. -/
def fullN (a b : ByteArray) : ByteArray := a ++ (⟨#[46]⟩ : ByteArray) ++ b
def ptI (l : List Mark) (a name : ByteArray) (k : Nat) : Option Unit := if fullN a (l.getD k default).nm = name then some () else none
def ptsI (bs : List Body) (name : ByteArray) (i : Nat) : Option (Nat × Unit) := fO (ptI (bs.getD i default).pts (bs.getD i default).nm name) (bs.getD i default).pts.length 0
def pointI (bs : List Body) (name : ByteArray) : Option (Nat × Nat × Unit) := fO (ptsI bs name) bs.length 0
def pointD (bs : List Body) (name : ByteArray) : D := match pointI bs name with
  | some (i, k, _) => .tu [dI i, dI k, nilE]
  | none => .tu [dI 0, dI 0, er 5]
def modelPointD (l : Lkg) (name : ByteArray) : D := if chk l = 0 then pointD l.bodies name else .tu [dI 0, dI 0, erV (chk l)]

/-- The square of the distance of two points. -/
def sqQ (p q : Mark) : Rat := (p.x.val - q.x.val) * (p.x.val - q.x.val) + (p.y.val - q.y.val) * (p.y.val - q.y.val)
abbrev ratZ : D := .ag [dB false, .sl 1 [], .sl 1 []]
def sqOk (bs : List Body) (b p q : Int) : Bool := inB b bs.length && (inB p (bs.getD b.toNat default).pts.length && inB q (bs.getD b.toNat default).pts.length)
def sqV (bs : List Body) (b p q : Int) : Rat := sqQ ((bs.getD b.toNat default).pts.getD p.toNat default) ((bs.getD b.toNat default).pts.getD q.toNat default)
def modelSquareD (l : Lkg) (b p q : Int) : D := if chk l = 0 then (if sqOk l.bodies b p q = true then .tu [(Qr (sqV l.bodies b p q)).D, nilE] else .tu [ratZ, er 9]) else .tu [ratZ, erV (chk l)]
theorem Qwl (q : Rat) {k : Nat} (h : LQ q ≤ k) : (Qr q).w k := Qr_w q h

end Lift
/- The statements' helpers: numbers of errors, equal words, equal fractions, sizes. -/
namespace Lift
open Go Go.Proofs

theorem base_Num_ok (n : Nat) : Pure Tryz.prog 16 [erV n] (dI n) := by
  refine Pure.intro (n := 15) tok Tryz.func16 rfl rfl rfl (Nat.le_of_ble_eq_true rfl) (by kernel_rfl) (fun B F0 w0 => ?_)
  cases n with
  | zero =>
    refine AW.seq ?_
    refine AW.region ?_   -- "base.go:10"
    refine AOps.run tok 1 _ _ _ _ rfl ?_
    refine AOps.nil ?_
    refine AW.seq ?_
    refine AW.seq ?_
    refine AW.region ?_   -- "base.go:11"
    refine AOps.run tok 1 _ _ _ _ rfl ?_
    refine AOps.err tok rfl rfl rfl rfl rfl ?_
    refine AOps.nil ?_
    refine AW.condT rfl ?_
    refine AW.seq ?_
    refine AW.region ?_   -- "base.go:12"
    refine AOps.run tok 1 _ _ _ _ rfl ?_
    refine AOps.nil ?_
    exact AW.ret rfl
  | succ m =>
    refine AW.seq ?_
    refine AW.region ?_   -- "base.go:10"
    refine AOps.run tok 1 _ _ _ _ rfl ?_
    refine AOps.nil ?_
    refine AW.seq ?_
    refine AW.seq ?_
    refine AW.region ?_   -- "base.go:11"
    refine AOps.run tok 1 _ _ _ _ rfl ?_
    refine AOps.err tok rfl rfl rfl rfl rfl ?_
    refine AOps.nil ?_
    refine AW.condF rfl ?_
    refine AW.skip ?_
    refine AW.seq ?_
    refine AW.region ?_   -- "base.go:14"
    refine AOps.run tok 1 _ _ _ _ rfl ?_
    refine AOps.ta tok rfl rfl rfl rfl ?_
    refine AOps.run tok 5 _ _ _ _ rfl ?_
    refine AOps.nil ?_
    refine AW.seq ?_
    refine AW.seq ?_
    refine AW.region ?_   -- "base.go:15"
    refine AOps.run tok 2 _ _ _ _ rfl ?_
    refine AOps.nil ?_
    refine AW.condF rfl ?_
    refine AW.skip ?_
    refine AW.seq ?_
    refine AW.region ?_   -- "base.go:18"
    refine AOps.run tok 2 _ _ _ _ rfl ?_
    refine AOps.nil ?_
    exact AW.ret rfl

theorem base_Is_ok (n m : Nat) : Pure Tryz.prog 21 [erV n, dI m] (dB (decide (n = m))) := by
  refine Pure.intro (n := 9) tok Tryz.func21 rfl rfl rfl (Nat.le_of_ble_eq_true rfl) (by kernel_rfl) (fun B F0 w0 => ?_)
  refine AW.seq ?_
  refine AW.region ?_   -- "base.go:7"
  refine AOps.run tok 1 _ _ _ _ rfl ?_
  refine AOps.nil ?_
  refine AW.seq ?_
  refine AW.region ?_   -- "base.go:7"
  refine AOps.run tok 1 _ _ _ _ rfl ?_
  refine AOps.call tok rfl rfl rfl rfl (base_Num_ok n) ?_
  refine AOps.run tok 3 _ _ _ _ rfl ?_
  refine AOps.nil ?_
  rw [show decide (n = m) = ((n : Int) == (m : Int)) by rw [Bool.eq_iff_iff]; simp only [decide_eq_true_eq, beq_iff_eq]; omega]
  exact AW.ret rfl

theorem eq_of_take {a b : List Nat} {n : Nat} (hl : a.length = b.length) (hn : a.length ≤ n) (h : ∀ i, i < n → a.getD i 0 = b.getD i 0) : a = b := by
  apply List.ext_getElem hl
  intro i h1 h2
  have := h i (by omega)
  simpa [h1, h2] using this

def eqR (r s : RD) : Bool := decide (r.g = s.g ∧ r.n = s.n ∧ r.d = s.d)
theorem eqR_self (r : RD) : eqR r r = true := by simp [eqR]
def ptL (p : Mark) : Bool := decide (12 < p.x.n.length + p.x.d.length + p.y.n.length + p.y.d.length)
def bdL (b : Body) : Bool := decide (40 < b.pts.length) || anyF (fun k => ptL (b.pts.getD k default)) b.pts.length 0
def bsL (bs : List Body) : Bool := anyF (fun i => bdL (bs.getD i default)) bs.length 0
def largeB (l : Lkg) : Bool := decide (40 < l.bodies.length ∨ 60 < l.joints.length ∨ 40 < l.drivers.length) || bsL l.bodies
theorem anyF_false {g : Nat → Bool} : ∀ {m i : Nat}, anyF g m i = false → ∀ k, i ≤ k → k < i + m → g k = false
  | 0, i, _, k, h1, h2 => by omega
  | m + 1, i, h, k, h1, h2 => by
    rw [anyF, Bool.or_eq_false_iff] at h
    rcases Nat.eq_or_lt_of_le h1 with e | e
    · rw [← e]; exact h.1
    · exact anyF_false h.2 k e (by omega)
theorem Lkg.ok.small {l : Lkg} {K : Nat} (hl : l.ok K) (h : largeB l = false) : l.ok 12 := by
  unfold largeB at h
  rw [Bool.or_eq_false_iff] at h
  have h2 := h.2
  refine ⟨hl.nm, hl.nb, hl.nj, hl.nd, fun i => ?_, hl.j, hl.d⟩
  obtain ⟨b1, b2, b3⟩ := hl.b i
  refine ⟨b1, b2, fun k => ?_⟩
  obtain ⟨p1, p2, p3⟩ := b3 k
  have hdef : (default : Mark).ok 12 := ⟨by decide, ⟨W32.nil, W32.nil, by decide, by decide⟩, ⟨W32.nil, W32.nil, by decide, by decide⟩⟩
  by_cases hi : i < l.bodies.length
  · have h3 := anyF_false h2 i (Nat.zero_le _) (by omega)
    unfold bdL at h3
    rw [Bool.or_eq_false_iff] at h3
    by_cases hk : k < (l.bodies.getD i default).pts.length
    · have h4 := of_decide_eq_false (anyF_false h3.2 k (Nat.zero_le _) (by omega))
      exact ⟨p1, ⟨p2.1, p2.2.1, by omega, by omega⟩, ⟨p3.1, p3.2.1, by omega, by omega⟩⟩
    · rw [show (l.bodies.getD i default).pts.getD k default = default by rw [List.getD_eq_getElem?_getD, List.getElem?_eq_none (by omega)]; rfl]
      exact hdef
  · rw [show l.bodies.getD i default = default by rw [List.getD_eq_getElem?_getD, List.getElem?_eq_none (by omega)]; rfl]
    exact hdef
end Lift
/- The model's reading, more: bodies by name, joints and driver of a body; lists of numbers compared. -/
namespace Lift
open Go Go.Proofs

abbrev IsD (l : List Int) : D := .sl 1 (l.map (fun n => dI n))
def bdI (bs : List Body) (name : ByteArray) (i : Nat) : Option Unit := if (bs.getD i default).nm = name then some () else none
def bodyV (bs : List Body) (name : ByteArray) : Nat × Nat := match fO (bdI bs name) bs.length 0 with
  | some (i, _) => (i, 0)
  | none => (0, 5)
def drI (ds : List Driver) (b : Int) (i : Nat) : Option Unit := if (ds.getD i default).body = b then some () else none
def drvV (ds : List Driver) (b : Int) : Int := match fO (drI ds b) ds.length 0 with
  | some (i, _) => i
  | none => -1
def jtP (js : List Joint) (b : Int) (i : Nat) : Bool := decide ((js.getD i default).a = b) || decide ((js.getD i default).b = b)
def jtsP (js : List Joint) (b : Int) (i : Nat) : List Int := ((List.range i).filter (jtP js b)).map (fun i : Nat => (i : Int))
def jtsV (js : List Joint) (b : Int) : List Int := jtsP js b js.length
theorem jtsP_succ (js : List Joint) (b : Int) (i : Nat) : jtsP js b (i + 1) = jtsP js b i ++ (if jtP js b i = true then [(i : Int)] else []) := by
  unfold jtsP
  rw [List.range_succ, List.filter_append, List.map_append, List.filter_cons]
  split <;> rfl
theorem jtsP_len (js : List Joint) (b : Int) (i : Nat) : (jtsP js b i).length ≤ i := by
  unfold jtsP
  rw [List.length_map]
  have := List.length_filter_le (jtP js b) (List.range i)
  rw [List.length_range] at this
  exact this
theorem jtsP_hit {js : List Joint} {b : Int} {i : Nat} (h : jtP js b i = true) : (jtsP js b i).map (fun n => dI n) ++ [dI i] = (jtsP js b (i + 1)).map (fun n => dI n) := by
  rw [jtsP_succ, if_pos h, List.map_append]; rfl
theorem jtsP_miss {js : List Joint} {b : Int} {i : Nat} (h : ¬ jtP js b i = true) : jtsP js b (i + 1) = jtsP js b i := by
  rw [jtsP_succ, if_neg h, List.append_nil]
theorem getI {l : List Int} {i : Nat} (h : i < l.length) : (l.map (fun n => dI n))[((i : Int)).toNat]? = some (dI (l.getD i 0)) := by
  simp [h]
theorem ext_getI {a b : List Int} (hl : a.length = b.length) (h : ∀ k, k < a.length → a.getD k 0 = b.getD k 0) : a = b := by
  refine List.ext_getElem hl (fun k h1 h2 => ?_)
  have := h k h1
  simpa [h1, h2] using this
/-- What follows where nothing is wrong. -/
theorem chk_all {l : Lkg} (h : chk l = 0) : nameB l.nm = true ∧ l.bodies ≠ [] ∧ l.bodies.length ≤ 8 ∧ bodiesE l.bodies = 0 ∧ jointsE l.bodies l.joints = 0 ∧ driversE l.bodies.length l.drivers = 0 := by
  unfold chk at h
  split at h
  · cases h
  rename_i h1
  split at h
  · cases h
  rename_i h2
  split at h
  · cases h
  rename_i h3
  split at h
  · omega
  rename_i h4
  split at h
  · omega
  rename_i h5
  exact ⟨by simpa using h1, h2, by omega, by omega, by omega, h⟩
theorem chk_js {l : Lkg} (h : chk l = 0) : l.joints.length ≤ 16 := by
  obtain ⟨_, _, _, _, h5, _⟩ := chk_all h
  unfold jointsE at h5
  split at h5
  · cases h5
  · omega
theorem chk_ds {l : Lkg} (h : chk l = 0) : l.drivers.length ≤ 2 := by
  obtain ⟨_, _, _, _, _, h6⟩ := chk_all h
  unfold driversE at h6
  split at h6
  · cases h6
  · omega
def modelBodyD (l : Lkg) (name : ByteArray) : D := if chk l = 0 then .tu [dI (bodyV l.bodies name).1, erV (bodyV l.bodies name).2] else .tu [dI 0, erV (chk l)]
def modelDriverD (l : Lkg) (b : Int) : D := if chk l = 0 then (if inB b l.bodies.length = true then .tu [dI (drvV l.drivers b), nilE] else .tu [dI 0, er 9]) else .tu [dI 0, erV (chk l)]
def modelJointsD (l : Lkg) (b : Int) : D := if chk l = 0 then (if inB b l.bodies.length = true then .tu [IsD (jtsV l.joints b), nilE] else .tu [IsD [], er 9]) else .tu [IsD [], erV (chk l)]

set_option maxHeartbeats 800000 in
theorem base_Ints_ok (a b : List Int) (ha : a.length ≤ big) : Pure Tryz.prog 24 [IsD a, IsD b] (dB (decide (a = b))) := by
  refine Pure.intro (n := 26) tok Tryz.func24 rfl rfl rfl (Nat.le_of_ble_eq_true rfl) (by kernel_rfl) (fun B F0 w0 => ?_)
  unfold big at ha
  refine AW.seq ?_
  refine AW.region ?_   -- "base.go:22"
  refine AOps.run tok 1 _ _ _ _ rfl ?_
  refine AOps.nil ?_
  refine AW.seq ?_
  refine AW.seq ?_
  refine AW.region ?_   -- "base.go:23"
  refine AOps.run tok 5 _ _ _ _ rfl ?_
  rw [List.length_map, List.length_map]
  refine AOps.nil ?_
  refine AW.cond rfl (fun h => ?_) (fun h => ?_)
  · have hne : a ≠ b := by rintro rfl; simp at h
    rw [decide_eq_false hne]
    refine AW.seq ?_
    refine AW.region ?_   -- "base.go:24"
    refine AOps.run tok 1 _ _ _ _ rfl ?_
    refine AOps.nil ?_
    exact AW.ret rfl
  · have hlen : a.length = b.length := by
      have : (a.length : Int) = b.length := by simpa using h
      omega
    refine AW.skip ?_
    refine AW.seq ?_
    refine AW.seq ?_
    refine AW.region ?_   -- "base.go:26"
    refine AOps.run tok 1 _ _ _ _ rfl ?_
    refine AOps.nil ?_
    refine AW.block ?_   -- block 0
    refine AW.loopS [0, 1, 5] (fun i : Nat => [(0, .d (IsD a)), (1, .d (IsD b)), (5, .d (dI i))]) (fun i => i ≤ a.length ∧ ∀ k, k < i → a.getD k 0 = b.getD k 0) (fun i => a.length - i) 0 rfl
      ⟨Nat.zero_le _, fun k hk => by omega⟩ (fun i ⟨hi, hI⟩ => ?_)
    · skip
      refine AW.seq ?_
      refine AW.seq ?_
      refine AW.region ?_   -- "base.go:26"
      refine AOps.run tok 4 _ _ _ _ rfl ?_
      rw [List.length_map]
      refine AOps.nil ?_
      refine AW.cond rfl (fun h => ?_) (fun h => ?_)
      · have hin : i < a.length := by have := of_decide_eq_true h; omega
        refine AW.skip ?_
        refine AW.seq ?_
        refine AW.block ?_   -- block 1
        refine AW.seq ?_
        refine AW.draw hmix 9 (by kernel_rfl) ?_   -- "base.go:27"
        refine APre.run tok 2 _ _ _ _ rfl ?_
        refine APre.idx tok (dI (a.getD i 0)) rfl rfl rfl rfl rfl (Int.natCast_nonneg i) (getI hin) ?_
        refine APre.run tok 3 _ _ _ _ rfl ?_
        refine APre.idx tok (dI (b.getD i 0)) rfl rfl rfl rfl rfl (Int.natCast_nonneg i) (getI (by omega)) ?_
        refine APre.run tok 2 _ _ _ _ rfl ?_
        refine APre.nil ?_
        refine AOps.nil ?_
        refine AW.cond rfl (fun h => ?_) (fun h => ?_)
        · have hne : a ≠ b := by rintro rfl; simp at h
          rw [decide_eq_false hne]
          refine AW.seq ?_
          refine AW.region ?_   -- "base.go:28"
          refine AOps.run tok 1 _ _ _ _ rfl ?_
          refine AOps.nil ?_
          exact AW.ret rfl
        · have he : a.getD i 0 = b.getD i 0 := by simpa using h
          refine AW.skip ?_
          refine AW.region ?_   -- "base.go:26"
          refine AOps.run tok 3 _ _ _ _ rfl ?_
          rw [wI64 (x := (i : Int) + 1) (by omega) (by omega)]
          refine AOps.nil ?_
          refine ⟨i + 1, rfl, ⟨hin, fun k hk => ?_⟩, by omega⟩
          rcases Nat.lt_or_ge k i with e | e
          · exact hI k e
          · rw [show k = i by omega]; exact he
      · have hin : ¬ i < a.length := by have := of_decide_eq_false h; omega
        have hab : a = b := ext_getI hlen (fun k hk => hI k (by omega))
        rw [decide_eq_true hab]
        refine AW.exit ?_
        refine AW.seq ?_
        refine AW.region ?_
        refine AOps.run tok 1 _ _ _ _ rfl ?_
        refine AOps.nil ?_
        exact AW.ret rfl
end Lift
/- The library's sort, reverse and search by the shelf's contracts, laid at this program, as contracts of this logic. -/
namespace Go.Proofs
open Go.Shelf
def Tryz.laysSort_ren : Go.Shelf.Ren := ⟨fun | 189 => 35 | 125 => 58 | 257 => 57 | 128 => 81 | 129 => 82 | 294 => 72 | 295 => 73 | 296 => 74 | 297 => 75 | 298 => 76 | 299 => 77 | 216 => 78 | 300 => 79 | 301 => 80 | 328 => 101 | 329 => 102 | 330 => 103 | 331 => 104 | 332 => 105 | 215 => 106 | 343 => 130 | n => n, fun | 28 => 37 | 3 => 3 | 46 => 85 | 0 => 0 | 51 => 111 | 53 => 113 | 4 => 4 | 183 => 104 | 182 => 103 | 131 => 108 | 5 => 5 | 9 => 9 | 218 => 127 | 222 => 131 | 228 => 149 | 229 => 150 | n => n, fun | n => n⟩
theorem Tryz.laysSort : Go.Proofs.Lays.n189 Tryz.prog Tryz.laysSort_ren := {
  mixed := by kernel_rfl,
  f125 := Tryz.func58.trans (congrArg some (by kernel_rfl)),
  f128 := Tryz.func81.trans (congrArg some (by kernel_rfl)),
  f129 := Tryz.func82.trans (congrArg some (by kernel_rfl)),
  f189 := Tryz.func35.trans (congrArg some (by kernel_rfl)),
  f215 := Tryz.func106.trans (congrArg some (by kernel_rfl)),
  f216 := Tryz.func78.trans (congrArg some (by kernel_rfl)),
  f257 := Tryz.func57.trans (congrArg some (by kernel_rfl)),
  f294 := Tryz.func72.trans (congrArg some (by kernel_rfl)),
  f295 := Tryz.func73.trans (congrArg some (by kernel_rfl)),
  f296 := Tryz.func74.trans (congrArg some (by kernel_rfl)),
  f297 := Tryz.func75.trans (congrArg some (by kernel_rfl)),
  f298 := Tryz.func76.trans (congrArg some (by kernel_rfl)),
  f299 := Tryz.func77.trans (congrArg some (by kernel_rfl)),
  f300 := Tryz.func79.trans (congrArg some (by kernel_rfl)),
  f301 := Tryz.func80.trans (congrArg some (by kernel_rfl)),
  f328 := Tryz.func101.trans (congrArg some (by kernel_rfl)),
  f329 := Tryz.func102.trans (congrArg some (by kernel_rfl)),
  f330 := Tryz.func103.trans (congrArg some (by kernel_rfl)),
  f331 := Tryz.func104.trans (congrArg some (by kernel_rfl)),
  f332 := Tryz.func105.trans (congrArg some (by kernel_rfl)),
  f343 := Tryz.func130.trans (congrArg some (by kernel_rfl)),
  t0 := Tryz.underlying0,
  a0 := Tryz.isAgg0,
  z0 := Tryz.sizeOf0,
  v0 := Tryz.zeroValue0,
  t3 := Tryz.underlying3,
  a3 := Tryz.isAgg3,
  z3 := Tryz.sizeOf3,
  v3 := Tryz.zeroValue3,
  t4 := Tryz.underlying4,
  a4 := Tryz.isAgg4,
  z4 := Tryz.sizeOf4,
  v4 := Tryz.zeroValue4,
  t5 := Tryz.underlying5,
  a5 := Tryz.isAgg5,
  z5 := Tryz.sizeOf5,
  v5 := Tryz.zeroValue5,
  t9 := Tryz.underlying9,
  a9 := Tryz.isAgg9,
  z9 := Tryz.sizeOf9,
  v9 := Tryz.zeroValue9,
  t28 := Tryz.underlying37,
  a28 := Tryz.isAgg37,
  z28 := Tryz.sizeOf37,
  v28 := Tryz.zeroValue37,
  t46 := Tryz.underlying85,
  a46 := Tryz.isAgg85,
  z46 := Tryz.sizeOf85,
  v46 := Tryz.zeroValue85,
  t51 := Tryz.underlying111,
  a51 := Tryz.isAgg111,
  z51 := Tryz.sizeOf111,
  v51 := Tryz.zeroValue111,
  t53 := Tryz.underlying113,
  a53 := Tryz.isAgg113,
  z53 := Tryz.sizeOf113,
  v53 := Tryz.zeroValue113,
  t131 := Tryz.underlying108,
  a131 := Tryz.isAgg108,
  z131 := Tryz.sizeOf108,
  v131 := Tryz.zeroValue108,
  t182 := Tryz.underlying103,
  a182 := Tryz.isAgg103,
  z182 := Tryz.sizeOf103,
  v182 := Tryz.zeroValue103,
  t183 := Tryz.underlying104,
  a183 := Tryz.isAgg104,
  z183 := Tryz.sizeOf104,
  v183 := Tryz.zeroValue104,
  t218 := Tryz.underlying127,
  a218 := Tryz.isAgg127,
  z218 := Tryz.sizeOf127,
  v218 := Tryz.zeroValue127,
  t222 := Tryz.underlying131,
  a222 := Tryz.isAgg131,
  z222 := Tryz.sizeOf131,
  v222 := Tryz.zeroValue131,
  t228 := Tryz.underlying149,
  a228 := Tryz.isAgg149,
  z228 := Tryz.sizeOf149,
  v228 := Tryz.zeroValue149,
  t229 := Tryz.underlying150,
  a229 := Tryz.isAgg150,
  z229 := Tryz.sizeOf150,
  v229 := Tryz.zeroValue150 }
def Tryz.laysReverse_ren : Go.Shelf.Ren := ⟨fun | 112 => 40 | n => n, fun | 28 => 37 | 3 => 3 | 4 => 4 | 0 => 0 | n => n, fun | n => n⟩
theorem Tryz.laysReverse : Go.Proofs.Lays.n112 Tryz.prog Tryz.laysReverse_ren := {
  mixed := by kernel_rfl,
  f112 := Tryz.func40.trans (congrArg some (by kernel_rfl)),
  t0 := Tryz.underlying0,
  a0 := Tryz.isAgg0,
  z0 := Tryz.sizeOf0,
  v0 := Tryz.zeroValue0,
  t3 := Tryz.underlying3,
  a3 := Tryz.isAgg3,
  z3 := Tryz.sizeOf3,
  v3 := Tryz.zeroValue3,
  t4 := Tryz.underlying4,
  a4 := Tryz.isAgg4,
  z4 := Tryz.sizeOf4,
  v4 := Tryz.zeroValue4,
  t28 := Tryz.underlying37,
  a28 := Tryz.isAgg37,
  z28 := Tryz.sizeOf37,
  v28 := Tryz.zeroValue37 }
def Tryz.laysContains_ren : Go.Shelf.Ren := ⟨fun | 107 => 33 | 108 => 55 | n => n, fun | 28 => 37 | 3 => 3 | 4 => 4 | 0 => 0 | n => n, fun | n => n⟩
theorem Tryz.laysContains : Go.Proofs.Lays.n107 Tryz.prog Tryz.laysContains_ren := {
  mixed := by kernel_rfl,
  f107 := Tryz.func33.trans (congrArg some (by kernel_rfl)),
  f108 := Tryz.func55.trans (congrArg some (by kernel_rfl)),
  t0 := Tryz.underlying0,
  a0 := Tryz.isAgg0,
  z0 := Tryz.sizeOf0,
  v0 := Tryz.zeroValue0,
  t3 := Tryz.underlying3,
  a3 := Tryz.isAgg3,
  z3 := Tryz.sizeOf3,
  v3 := Tryz.zeroValue3,
  t4 := Tryz.underlying4,
  a4 := Tryz.isAgg4,
  z4 := Tryz.sizeOf4,
  v4 := Tryz.zeroValue4,
  t28 := Tryz.underlying37,
  a28 := Tryz.isAgg37,
  z28 := Tryz.sizeOf37,
  v28 := Tryz.zeroValue37 }
end Go.Proofs
namespace Lift
open Go Go.Proofs Go.Sort

theorem mut_ints {P : Program} {f : FuncId} {e : Nat} {zs zs' : List Int} (hf : CallOk P f) (hlen : zs'.length = zs.length)
    (h0 : zs = [] → ∀ a cap w, Calls P f #[.slice a 0 cap] w fun ee w' => ee = .returned (.tuple #[]) ∧ w' = w)
    (h : zs ≠ [] → ∀ blk off cap w, Holds (Value.int .i64) w blk off zs.toArray → blk < w.heap.size → Calls P f #[.slice (some ⟨blk, off, none⟩) zs.length cap] w fun ee w' => ee = .returned (.tuple #[]) ∧ ∃ n os, w' = grow (putRow (Value.int .i64) (Sort.ahead w n) blk off zs'.toArray) os) :
    Mut P f e (zs.map dI) 0 zs.length [] (zs'.map dI) (.val (.tu [])) := by
  refine ⟨hf, by simp [hlen], fun w G b o cap cs us vs hG hb ho hlm hcap hmax hcs hlu hru hlv hrv => ?_⟩
  cases us with
  | cons a l => simp at hlu
  | nil =>
  cases vs with
  | cons a l => simp at hlv
  | nil =>
  have hbs := (Array.getElem?_eq_some_iff.1 hb).1
  by_cases hz : zs = []
  · subst hz
    have : zs' = [] := List.eq_nil_of_length_eq_zero (by simpa using hlen)
    subst this
    refine (h0 rfl _ cap w).mono ?_
    rintro ee w' ⟨rfl, rfl⟩
    exact ⟨_, cs, rfl, .refl _ _ _, hb, ⟨fun x hx => by simp at hx, fun i d hd => by simp [flatAll] at hd⟩, rfl, Rd.tu (vs := []) rfl (fun i d u h => by simp at h)⟩
  · have hpos : 0 < zs.length := List.length_pos_iff.2 hz
    have hce : P.cellsOf e = 1 := by
      have := hcs.1 (dI (zs[0]'hpos)) (List.mem_map.2 ⟨_, List.getElem_mem _, rfl⟩)
      simpa [D.flat] using this.symm
    have hfl : ∀ (l : List Int), flatAll (l.map dI) = l.map dI := fun l => by
      induction l with
      | nil => rfl
      | cons a l ih =>
        rw [List.map_cons]
        show (dI a).flat ++ flatAll (l.map dI) = _
        rw [ih]; rfl
    have ho0 : o = 0 := by
      rcases ho.1 with h1 | h1
      · omega
      · simpa using h1
    subst ho0
    have hcell : ∀ j (hj : j < zs.length), cs[j]? = some (.int .i64 zs[j]) := fun j hj => by
      obtain ⟨_, u, hu, hr⟩ := hcs.2 j (dI zs[j]) (by rw [hfl]; simp [hj])
      cases hr
      exact hu
    have hH : Holds (Value.int .i64) w b 0 zs.toArray := fun j hj => by
      have hj' : j < zs.length := by simpa using hj
      refine ⟨?_, ?_⟩
      · simp only [World.cell?, hb, Nat.zero_add]
        rw [if_neg (by simp), hcell j hj']
        simp [hj']
      · simp [World.frozen?, hb]
    refine (h hz b 0 cap w hH hbs).mono ?_
    rintro ee w' ⟨rfl, n, os, rfl⟩
    have hcap' : zs.length ≤ cs.size := by
      have := (Array.getElem?_eq_some_iff.1 (hcell (zs.length - 1) (by omega))).1
      omega
    have hold : ∀ k, k < w.heap.size → k ≠ b → (grow (putRow (Value.int .i64) (Sort.ahead w n) b 0 zs'.toArray) os).heap[k]? = w.heap[k]? := fun k hk hkb => by
      simp only [grow, putRow, mapBlock, Sort.ahead]
      rw [Array.getElem?_append_left (by simpa using hk)]
      simp only [Array.getElem?_modify]
      rw [if_neg (fun e => hkb e.symm)]
    have hnew : (grow (putRow (Value.int .i64) (Sort.ahead w n) b 0 zs'.toArray) os).heap[b]? = some (.cells (putCells (Value.int .i64) 0 zs'.toArray cs) e (0, 0)) := by
      simp only [grow, putRow, mapBlock, Sort.ahead]
      rw [Array.getElem?_append_left (by simpa using hbs)]
      simp only [Array.getElem?_modify, hb, if_true, Option.map_some, onCells]
    have hsz : (putCells (Value.int .i64) 0 zs'.toArray cs).size = cs.size := by simp [putCells]
    refine ⟨_, _, rfl, ⟨rfl, rfl, rfl, by simp [grow, putRow, mapBlock, Sort.ahead], fun k hk hx => hold k hk hx, fun k c e' fz hk => ?_⟩, hnew, ⟨fun x hx => ?_, fun i d hd => ?_⟩, rfl, Rd.tu (vs := []) rfl (fun i d u h => by simp at h)⟩
    · by_cases hkb : k = b
      · subst hkb
        rw [hb] at hk
        simp at hk
        obtain ⟨rfl, rfl, rfl⟩ := hk
        exact ⟨_, hnew, hsz⟩
      · exact ⟨c, (hold k (Array.getElem?_eq_some_iff.1 hk).1 hkb).trans hk, rfl⟩
    · obtain ⟨z, _, rfl⟩ := List.mem_map.1 hx
      rw [hce]; rfl
    · rw [hfl] at hd
      simp only [List.getElem?_map, Option.map_eq_some_iff] at hd
      obtain ⟨z, hz', rfl⟩ := hd
      obtain ⟨hi, hzi⟩ := List.getElem?_eq_some_iff.1 hz'
      refine ⟨rfl, .int .i64 z, ?_, .v rfl⟩
      have hi2 : i < cs.size := by omega
      simp [putCells, hi2, hi, hzi]

def sortI (zs : List Int) : List Int := zs.mergeSort fun x y => decide (x ≤ y)
theorem slices_Sort_ok (e : Nat) (zs : List Int) (h : zs.length < 4611686018427387904) : Mut Tryz.prog 35 e (zs.map dI) 0 zs.length [] ((sortI zs).map dI) (.val (.tu [])) :=
  mut_ints ⟨_, Tryz.func35, rfl, by rfl⟩ (by simp [sortI])
    (fun _ a cap w => Any.slices_Sort_int_none Tryz.laysSort a cap w)
    (fun _ blk off cap w hH hb => Any.slices_Sort_int Tryz.laysSort blk off cap zs w hH hb h)
theorem slices_Reverse_ok (e : Nat) (zs : List Int) (h : zs.length ≤ 9223372036854775807) : Mut Tryz.prog 40 e (zs.map dI) 0 zs.length [] (zs.reverse.map dI) (.val (.tu [])) :=
  mut_ints ⟨_, Tryz.func40, rfl, by rfl⟩ (by simp)
    (fun _ a cap w => Any.slices_Reverse_int_empty Tryz.laysReverse a cap w)
    (fun _ blk off cap w hH hb => (Any.slices_Reverse_int Tryz.laysReverse blk off cap zs w hH h).mono fun ee w' ⟨h1, n, h2⟩ => ⟨h1, n, #[], by rw [h2, grow_empty]⟩)

theorem slices_Contains_ok (zs : List Int) (x : Int) (h : zs.length ≤ 9223372036854775807) : Pure Tryz.prog 33 [.sl 1 (zs.map dI), dI x] (dB (zs.contains x)) := by
  refine ⟨⟨_, Tryz.func33, rfl, by rfl⟩, fun w F vs hF hl hr => ?_⟩
  match vs, hl with
  | [v, u], _ =>
  have h1 := hr 0 _ v rfl rfl
  have h2 := hr 1 _ u rfl rfl
  cases h2
  have hfl : ∀ (l : List Int), flatAll (l.map dI) = l.map dI := fun l => by
    induction l with
    | nil => rfl
    | cons a l ih =>
      rw [List.map_cons]
      show (dI a).flat ++ flatAll (l.map dI) = _
      rw [ih]; rfl
  generalize hL : zs.map dI = L at h1
  cases h1 with
  | nil hm =>
    have : zs = [] := by simpa using hL
    subst this
    refine (Any.slices_Contains_int_empty Tryz.laysContains _ _ x w).mono ?_
    rintro ee w' ⟨rfl, rfl⟩
    exact ⟨_, rfl, .refl _ _, .v rfl⟩
  | @sl s l b off cap cs e fz vals hFb hb hcap hm hu hc hk hrr =>
    subst hL
    rw [hfl] at hc hrr
    have hx : ∀ j (hj : j < zs.length), w.cell? ⟨b, off + j, none⟩ = some (.int .i64 (zs.getD j 0)) := fun j hj => by
      have h3 := hc j (by simpa using hj)
      have h4 := hrr j (dI zs[j]) (by simp [hj])
      have : vals j = .int .i64 zs[j] := by
        generalize vals j = q at h4
        cases h4
        rfl
      simp [World.cell?, hb, h3, this, hj]
    have hcl := Any.slices_Contains_int Tryz.laysContains b off zs.length cap zs x w (Nat.le_refl _) h hx
    rw [List.length_map]
    refine hcl.mono ?_
    rintro ee w' ⟨rfl, rfl⟩
    rw [List.take_length]
    exact ⟨_, rfl, .refl _ _, .v rfl⟩
end Lift
/- Graph: bits.Mul, slices.Repeat, lists of -2, the other body of a joint. -/
namespace Lift
open Go Go.Proofs

theorem and32 (x : Nat) (h : x < 18446744073709551616) : IntKind.u64.wrap ((BitVec.ofInt IntKind.u64.bits (x : Int) &&& BitVec.ofInt IntKind.u64.bits 4294967295).toNat : Int) = ((x % 4294967296 : Nat) : Int) := by
  have hb : IntKind.u64.bits = 64 := rfl
  rw [hb, BitVec.ofInt_natCast, show BitVec.ofInt 64 4294967295 = BitVec.ofNat 64 4294967295 from rfl, BitVec.toNat_and, BitVec.toNat_ofNat, BitVec.toNat_ofNat, Nat.mod_eq_of_lt h, Nat.mod_eq_of_lt (by decide), show (4294967295 : Nat) = 2 ^ 32 - 1 from rfl, Nat.and_two_pow_sub_one_eq_mod]
  exact wU64 (by omega) (by omega)

theorem bits_Mul64_ok (x : Nat) (hx : x < 4294967296) : Pure Tryz.prog 108 [dU 1, dU x] (.tu [dU 0, dU x]) := by
  refine Pure.intro (n := 51) tok Tryz.func108 rfl rfl rfl (Nat.le_of_ble_eq_true rfl) (by kernel_rfl) (fun B F0 w0 => ?_)
  refine AW.seq ?_
  refine AW.region ?_   -- "bits.go:470"
  refine AOps.run tok 2 _ _ _ _ rfl ?_
  refine AOps.nil ?_
  refine AW.seq ?_
  refine AW.region ?_   -- "bits.go:472"
  refine AOps.run tok 3 _ _ _ _ rfl ?_
  rw [show ((1 : Int)) = ((1 : Nat) : Int) from rfl, and32 1 (by omega), show 1 % 4294967296 = 1 from rfl]
  refine AOps.nil ?_
  refine AW.seq ?_
  refine AW.region ?_   -- "bits.go:473"
  refine AOps.run tok 3 _ _ _ _ rfl ?_
  rw [shrU32, show 1 / 4294967296 = 0 from rfl]
  refine AOps.nil ?_
  refine AW.seq ?_
  refine AW.region ?_   -- "bits.go:474"
  refine AOps.run tok 3 _ _ _ _ rfl ?_
  rw [and32 x (by omega), Nat.mod_eq_of_lt hx]
  refine AOps.nil ?_
  refine AW.seq ?_
  refine AW.region ?_   -- "bits.go:475"
  refine AOps.run tok 3 _ _ _ _ rfl ?_
  rw [shrU32, Nat.div_eq_of_lt hx]
  refine AOps.nil ?_
  refine AW.seq ?_
  refine AW.region ?_   -- "bits.go:476"
  refine AOps.run tok 4 _ _ _ _ rfl ?_
  rw [mulU 1 x (by omega), Nat.one_mul]
  refine AOps.nil ?_
  refine AW.seq ?_
  refine AW.region ?_   -- "bits.go:477"
  refine AOps.run tok 7 _ _ _ _ rfl ?_
  rw [mulU 0 x (by omega), Nat.zero_mul, shrU32, Nat.div_eq_of_lt hx, addU 0 0 (by omega)]
  refine AOps.nil ?_
  refine AW.seq ?_
  refine AW.region ?_   -- "bits.go:478"
  refine AOps.run tok 3 _ _ _ _ rfl ?_
  rw [and32 0 (by omega), show 0 % 4294967296 = 0 from rfl]
  refine AOps.nil ?_
  refine AW.seq ?_
  refine AW.region ?_   -- "bits.go:479"
  refine AOps.run tok 3 _ _ _ _ rfl ?_
  rw [shrU32, show (0 + 0) / 4294967296 = 0 from rfl]
  refine AOps.nil ?_
  refine AW.seq ?_
  refine AW.region ?_   -- "bits.go:480"
  refine AOps.run tok 6 _ _ _ _ rfl ?_
  rw [mulU 1 0 (by omega), addU _ _ (by omega)]
  refine AOps.nil ?_
  refine AW.seq ?_
  refine AW.region ?_   -- "bits.go:481"
  refine AOps.run tok 9 _ _ _ _ rfl ?_
  rw [mulU 0 0 (by omega), addU _ _ (by omega), shrU32, show (0 + 1 * 0) / 4294967296 = 0 from rfl, addU _ _ (by omega)]
  refine AOps.nil ?_
  refine AW.seq ?_
  refine AW.region ?_   -- "bits.go:482"
  refine AOps.run tok 4 _ _ _ _ rfl ?_
  rw [mulU 1 x (by omega), Nat.one_mul]
  refine AOps.nil ?_
  exact AW.ret rfl

theorem bits_Mul_ok (x : Nat) (hx : x < 4294967296) : Pure Tryz.prog 83 [dU 1, dU x] (.tu [dU 0, dU x]) := by
  refine Pure.intro (n := 30) tok Tryz.func83 rfl rfl rfl (Nat.le_of_ble_eq_true rfl) (by kernel_rfl) (fun B F0 w0 => ?_)
  refine AW.seq ?_
  refine AW.region ?_   -- "bits.go:445"
  refine AOps.run tok 2 _ _ _ _ rfl ?_
  refine AOps.nil ?_
  refine AW.seq ?_
  refine AW.condF rfl ?_
  · skip
    refine AW.skip ?_
    refine AW.seq ?_
    refine AW.region ?_   -- "bits.go:450"
    refine AOps.run tok 2 _ _ _ _ rfl ?_
    refine AOps.call tok rfl rfl rfl rfl (bits_Mul64_ok x hx) ?_
    refine AOps.run tok 5 _ _ _ _ rfl ?_
    refine AOps.nil ?_
    refine AW.seq ?_
    refine AW.region ?_   -- "bits.go:451"
    refine AOps.run tok 4 _ _ _ _ rfl ?_
    refine AOps.nil ?_
    exact AW.ret rfl

/-- The row of a list that is filled by doubling. -/
abbrev fillL (n k : Nat) : List D := List.replicate k (dI (-2)) ++ List.replicate (n - k) (dI 0)
theorem fillL_len {n k : Nat} (h : k ≤ n) : (fillL n k).length = n := by simp [fillL]; omega
theorem fillL_step {n k : Nat} (h : k ≤ n) (h1 : 0 < k) : (fillL n k).take k ++ ((fillL n k).take k).take (min k (n - k)) ++ (fillL n k).drop (k + min k (n - k)) = fillL n (k + min k (n - k)) := by
  have e1 : (fillL n k).take k = List.replicate k (dI (-2)) := by simp [fillL]
  rw [e1]
  simp only [fillL, List.take_replicate, List.drop_append, List.drop_replicate, List.length_replicate]
  rw [show min (min k (n - k)) k = min k (n - k) by omega, List.replicate_append_replicate, show k - (k + min k (n - k)) = 0 by omega, show n - k - (k + min k (n - k) - k) = n - (k + min k (n - k)) by omega]
  simp

section
variable {P : Program} {T : Ty} {B : Nat} {F0 : Nat → Prop} {w0 : Bas} {n : Nat} {σ : St} {K : St → Prop} {all : Array Oper} {o : Oper} {d : Nat} {rest : List Oper}
theorem AOps.copyE (hT : TOk P T) {h e lo m : Nat} {av : AV} {l ys : List D} (k : Nat) (L' : List D) (hd : o.dst = some d) (hdn : Nat.ble (d + 1) n = true) (hg : guardOk all σ o = true) (hx : cpF T σ o.op = some (h, av, e, l, lo, m, ys)) (hm : 0 < m) (hy : ys ≠ []) (hk' : min ys.length m = k) (hL : l.take lo ++ ys.take k ++ l.drop (lo + k) = L')
    (hk : AOps P B F0 w0 n all rest K ((d, .d (.v (.int .i64 (k : Int)))) :: (h, av.withRow L') :: σ)) : AOps P B F0 w0 n all (o :: rest) K σ := by
  subst hk' hL
  exact AOps.copy hT hd hdn hg hx hm hy hk
end

theorem slices_Repeat_ok (n : Nat) (h0 : 0 < n) (hn : n ≤ 1000) : PureO Tryz.prog 59 [.sl 1 [dI (-2)], dI n] 3 (List.replicate n (dI (-2))) 0 n := by
  refine PureO.intro (n := 48) tok Tryz.func59 rfl rfl rfl (Nat.le_of_ble_eq_true rfl) (by kernel_rfl) (fun B F0 w0 => ?_)
  refine AW.seq ?_
  refine AW.region ?_   -- "slices.go:514"
  refine AOps.run tok 1 _ _ _ _ rfl ?_
  refine AOps.nil ?_
  refine AW.seq ?_
  refine AW.seq ?_
  refine AW.region ?_   -- "slices.go:515"
  refine AOps.run tok 2 _ _ _ _ rfl ?_
  refine AOps.nil ?_
  rw [show decide ((n : Int) < 0) = false from decide_eq_false (by omega)]
  refine AW.condF rfl ?_
  · skip
    refine AW.skip ?_
    refine AW.seq ?_
    refine AW.region ?_   -- "slices.go:520"
    refine AOps.run tok 5 _ _ _ _ rfl ?_
    rw [show (([dI (-2)] : List D).length : Int) = ((1 : Nat) : Int) from rfl, cvU64 1 (by omega), cvU64 n (by omega)]
    refine AOps.call tok rfl rfl rfl rfl (bits_Mul_ok n (by omega)) ?_
    refine AOps.run tok 5 _ _ _ _ rfl ?_
    refine AOps.nil ?_
    refine AW.seq ?_
    refine AW.seq ?_
    refine AW.region ?_   -- "slices.go:521"   -- GUARDS
    refine AOps.run tok 6 _ _ _ _ rfl ?_
    rw [show decide ((9223372036854775807 : Int) < (n : Int)) = false from decide_eq_false (by omega)]
    refine AOps.nil ?_
    refine AW.condF rfl ?_
    · skip
      refine AW.skip ?_
      refine AW.seq ?_
      refine AW.region ?_   -- "slices.go:525"
      refine AOps.run tok 2 _ _ _ _ rfl ?_
      rw [wI64 (x := (n : Int)) (by omega) (by omega)]
      refine AOps.make tok rfl rfl rfl rfl rfl (Int.natCast_nonneg n) (by show ((8 : Nat) : Int) * (n : Int) ≤ _; omega) (by omega) ?_
      rw [Int.toNat_natCast]
      refine AOps.run tok 1 _ _ _ _ rfl ?_
      refine AOps.nil ?_
      refine AW.seq ?_
      refine AW.region ?_   -- "slices.go:526"
      refine AOps.run tok 2 _ _ _ _ rfl ?_
      refine AOps.copyE tok 1 (fillL n 1) rfl rfl rfl rfl (by show 0 < (List.replicate n _).length; rw [List.length_replicate]; exact h0) (by simp) (by show min 1 (List.replicate n _).length = 1; rw [List.length_replicate]; omega) (by show (List.replicate n (dI 0)).take 0 ++ [dI (-2)].take 1 ++ (List.replicate n (dI 0)).drop (0 + 1) = _; simp [fillL]) ?_
      refine AOps.run tok 1 _ _ _ _ rfl ?_
      refine AOps.nil ?_
      refine AW.seq ?_
      refine AW.block ?_   -- block 0
      refine AW.loopS [7, 8] (fun k : Nat => [(7, .ow 3 (fillL n k)), (8, .d (dI k))]) (fun k => 1 ≤ k ∧ k ≤ n) (fun k => n - k) 1 rfl ⟨Nat.le_refl _, h0⟩ (fun k hk => ?_)
      · skip
        refine AW.seq ?_
        refine AW.seq ?_
        refine AW.region ?_   -- "slices.go:527"
        refine AOps.run tok 4 _ _ _ _ rfl ?_
        rw [fillL_len hk.2]
        refine AOps.nil ?_
        refine AW.cond rfl (fun h => ?_) (fun h => ?_)
        · have hlt : k < n := by have := of_decide_eq_true h; omega
          refine AW.skip ?_
          refine AW.block ?_   -- block 1
          refine AW.any hmix (AAny.early 0 (by kernel_rfl) (fun _ _ h => h) (AAny.draw 7 (by kernel_rfl) ?_))
          refine APre.run tok 3 _ _ _ _ rfl ?_
          refine APre.slw tok rfl rfl rfl rfl rfl rfl (Int.natCast_nonneg k) trivial (by rw [fillL_len hk.2]; show k ≤ n; omega) (by rw [fillL_len hk.2]; show n ≤ n; omega) ?_
          refine APre.run tok 2 _ _ _ _ rfl ?_
          refine APre.slw tok rfl rfl rfl rfl rfl rfl trivial (Int.natCast_nonneg k) (by rw [fillL_len hk.2]; show 0 ≤ k; omega) (by rw [fillL_len hk.2]; show k ≤ n; omega) ?_
          refine APre.nil ?_
          rw [show 0 + loN (some (k : Int)) = k from Nat.zero_add k]
          refine AOps.copyE tok (min k (n - k)) (fillL n (k + min k (n - k))) rfl rfl rfl rfl (by show 0 < (fillL n k).length - k; rw [fillL_len hk.2]; omega) (by show ((fillL n k).drop 0).take (k - 0) ≠ []; exact List.ne_nil_of_length_pos (by rw [List.length_take, List.length_drop, fillL_len hk.2]; omega)) (by show min (((fillL n k).drop 0).take (k - 0)).length ((fillL n k).length - k) = _; rw [List.length_take, List.length_drop, fillL_len hk.2]; omega) (by show (fillL n k).take k ++ (((fillL n k).drop 0).take (k - 0)).take (min k (n - k)) ++ (fillL n k).drop (k + min k (n - k)) = _; rw [List.drop_zero, Nat.sub_zero]; exact fillL_step hk.2 hk.1) ?_
          refine AOps.run tok 2 _ _ _ _ rfl ?_
          rw [wI64 (by omega) (by omega)]
          refine AOps.nil ?_
          exact ⟨k + min k (n - k), rfl, ⟨by omega, by omega⟩, by omega⟩
          -- .
        · have hlt : k = n := by have := of_decide_eq_false h; omega
          subst hlt
          refine AW.exit ?_
          refine AW.seq ?_
          refine AW.region ?_
          refine AOps.run tok 2 _ _ _ _ rfl ?_
          refine AOps.nil ?_
          refine AW.ret ?_
          show some (_, fillL k k, 0, (fillL k k).length) = some _
          rw [fillL_len (Nat.le_refl k), show fillL k k = List.replicate k (dI (-2)) by simp [fillL]]

theorem flat_ints (l : List Int) : flatAll (l.map dI) = l.map dI := by
  induction l with
  | nil => rfl
  | cons a l ih =>
    rw [List.map_cons]
    show (dI a).flat ++ flatAll (l.map dI) = _
    rw [ih]; rfl
theorem plain_ints (l : List Int) : plainL (l.map dI) = true := by
  unfold plainL
  rw [flat_ints, List.all_eq_true]
  intro x hx
  obtain ⟨z, _, rfl⟩ := List.mem_map.1 hx
  rfl
theorem getZ {l : List Int} {i : Nat} (h : i < l.length) : (l.map dI)[i]? = some (dI (l.getD i 0)) := by simp [h]
/-- A list of n numbers u. -/
abbrev repI (n : Nat) (u : Int) : List Int := List.replicate n u

theorem graph_none_ok (l : Lkg) (h0 : 0 < l.bodies.length) (hn : l.bodies.length ≤ 1000) : PureO Tryz.prog 38 [l.D] 3 ((repI l.bodies.length (-2)).map dI) 0 l.bodies.length := by
  refine PureO.intro (n := 8) tok Tryz.func38 rfl rfl rfl (Nat.le_of_ble_eq_true rfl) (by kernel_rfl) (fun B F0 w0 => ?_)
  obtain ⟨ln, bs, js, ds⟩ := l
  show AW _ _ _ _ _ _ _ (initSt 0 [D.ag [dS ln, BodiesD bs, JointsD js, DriversD ds]])
  refine AW.seq ?_
  refine AW.region ?_   -- "graph.go:39"
  refine AOps.run tok 2 _ _ _ _ rfl ?_
  refine AOps.nil ?_
  refine AW.seq ?_
  refine AW.region ?_   -- "graph.go:40"
  refine AOps.bsd tok rfl rfl rfl rfl rfl ?_
  refine AOps.run tok 3 _ _ _ _ rfl ?_
  rw [List.length_map]
  refine AOps.callo tok rfl rfl rfl rfl (L := (repI bs.length (-2)).map dI) (by rw [List.map_replicate]; exact slices_Repeat_ok bs.length h0 hn) (plain_ints _) ?_
  refine AOps.run tok 1 _ _ _ _ rfl ?_
  refine AOps.nil ?_
  exact AW.ret rfl

/-- The other body of a joint. -/
def othI (j : Joint) (b : Int) : Int := if b = j.a then j.b else if b = j.b then j.a else -1

theorem graph_other_ok (j : Joint) (b : Int) : Pure Tryz.prog 56 [j.D, dI b] (dI (othI j b)) := by
  refine Pure.intro (n := 18) tok Tryz.func56 rfl rfl rfl (Nat.le_of_ble_eq_true rfl) (by kernel_rfl) (fun B F0 w0 => ?_)
  unfold othI
  refine AW.seq ?_
  refine AW.region ?_   -- "graph.go:12"
  refine AOps.run tok 2 _ _ _ _ rfl ?_
  refine AOps.nil ?_
  refine AW.seq ?_
  refine AW.seq ?_
  refine AW.region ?_   -- "graph.go:13"
  refine AOps.run tok 1 _ _ _ _ rfl ?_
  refine AOps.nil ?_
  refine AW.block ?_   -- block 0
  refine AW.seq ?_
  refine AW.region ?_   -- "graph.go:14"
  refine AOps.run tok 4 _ _ _ _ rfl ?_
  refine AOps.nil ?_
  refine AW.cond rfl (fun h => ?_) (fun h => ?_)
  · skip
    rw [if_pos (of_decide_eq_true h)]
    refine AW.seq ?_
    refine AW.region ?_   -- "graph.go:15"
    refine AOps.run tok 3 _ _ _ _ rfl ?_
    refine AOps.nil ?_
    exact AW.ret rfl
  · skip
    rw [if_neg (of_decide_eq_false h)]
    refine AW.seq ?_
    refine AW.region ?_   -- "graph.go:16"
    refine AOps.run tok 4 _ _ _ _ rfl ?_
    refine AOps.nil ?_
    refine AW.cond rfl (fun h => ?_) (fun h => ?_)
    · skip
      rw [if_pos (of_decide_eq_true h)]
      refine AW.seq ?_
      refine AW.region ?_   -- "graph.go:17"
      refine AOps.run tok 3 _ _ _ _ rfl ?_
      refine AOps.nil ?_
      exact AW.ret rfl
    · skip
      rw [if_neg (of_decide_eq_false h)]
      refine AW.skip ?_
      refine AW.seq ?_
      refine AW.region ?_   -- "graph.go:19"
      refine AOps.run tok 1 _ _ _ _ rfl ?_
      refine AOps.nil ?_
      exact AW.ret rfl

theorem r23_other_ok (j : Joint) (b : Int) : Pure Tryz.prog 60 [j.D, dI b] (dI (othI j b)) := by
  refine Pure.intro (n := 17) tok Tryz.func60 rfl rfl rfl (Nat.le_of_ble_eq_true rfl) (by kernel_rfl) (fun B F0 w0 => ?_)
  unfold othI
  refine AW.seq ?_
  refine AW.region ?_   -- "ref.go:10"
  refine AOps.run tok 2 _ _ _ _ rfl ?_
  refine AOps.nil ?_
  refine AW.seq ?_
  refine AW.seq ?_
  refine AW.region ?_   -- "ref.go:11"
  refine AOps.run tok 4 _ _ _ _ rfl ?_
  refine AOps.nil ?_
  refine AW.cond rfl (fun h => ?_) (fun h => ?_)
  · skip
    have h1 := of_decide_eq_true h
    rw [if_pos h1.symm]
    refine AW.seq ?_
    refine AW.region ?_   -- "ref.go:12"
    refine AOps.run tok 3 _ _ _ _ rfl ?_
    refine AOps.nil ?_
    exact AW.ret rfl
  · skip
    have h1 : ¬ b = j.a := fun e => of_decide_eq_false h e.symm
    rw [if_neg h1]
    refine AW.skip ?_
    refine AW.seq ?_
    refine AW.seq ?_
    refine AW.region ?_   -- "ref.go:14"
    refine AOps.run tok 4 _ _ _ _ rfl ?_
    refine AOps.nil ?_
    refine AW.cond rfl (fun h => ?_) (fun h => ?_)
    · skip
      have h2 := of_decide_eq_true h
      rw [if_pos h2.symm]
      refine AW.seq ?_
      refine AW.region ?_   -- "ref.go:15"
      refine AOps.run tok 3 _ _ _ _ rfl ?_
      refine AOps.nil ?_
      exact AW.ret rfl
    · skip
      have h2 : ¬ b = j.b := fun e => of_decide_eq_false h e.symm
      rw [if_neg h2]
      refine AW.skip ?_
      refine AW.seq ?_
      refine AW.region ?_   -- "ref.go:17"
      refine AOps.run tok 1 _ _ _ _ rfl ?_
      refine AOps.nil ?_
      exact AW.ret rfl

theorem r23_none_ok (n : Nat) (hn : n ≤ 1000) : PureO Tryz.prog 45 [dI n] 3 ((repI n (-1)).map dI) 0 n := by
  refine PureO.intro (n := 14) tok Tryz.func45 rfl rfl rfl (Nat.le_of_ble_eq_true rfl) (by kernel_rfl) (fun B F0 w0 => ?_)
  refine AW.seq ?_
  refine AW.region ?_   -- "ref.go:39"
  refine AOps.run tok 1 _ _ _ _ rfl ?_
  refine AOps.nil ?_
  refine AW.seq ?_
  refine AW.region ?_   -- "ref.go:40"
  refine AOps.run tok 1 _ _ _ _ rfl ?_
  refine AOps.nil ?_
  refine AW.seq ?_
  refine AW.seq ?_
  refine AW.region ?_   -- "ref.go:41"
  refine AOps.run tok 1 _ _ _ _ rfl ?_
  refine AOps.nil ?_
  refine AW.block ?_   -- block 0
  refine AW.loopS [0, 3, 4] (fun i : Nat => [(0, .d (dI n)), (3, .ow 3 ((repI i (-1)).map dI)), (4, .d (dI i))]) (fun i => i ≤ n) (fun i => n - i) 0 rfl (Nat.zero_le _) (fun i hi => ?_)
  · skip
    refine AW.seq ?_
    refine AW.seq ?_
    refine AW.region ?_   -- "ref.go:41"
    refine AOps.run tok 3 _ _ _ _ rfl ?_
    refine AOps.nil ?_
    refine AW.cond rfl (fun h => ?_) (fun h => ?_)
    · skip
      have hin : i < n := by have := of_decide_eq_true h; omega
      refine AW.skip ?_
      refine AW.seq ?_
      refine AW.block ?_   -- block 1
      refine AW.region ?_   -- "ref.go:42"
      refine AOps.run tok 1 _ _ _ _ rfl ?_
      refine AOps.bs tok rfl rfl rfl rfl ?_
      refine AOps.appo tok rfl rfl rfl rfl rfl rfl (by show (((repI i (-1)).map dI).length + 1) * 8 ≤ _; simp; omega) (by show ((repI i (-1)).map dI).length + 1 ≤ _; simp; omega) ?_
      refine AOps.run tok 1 _ _ _ _ rfl ?_
      refine AOps.nil ?_
      refine AW.region ?_   -- "ref.go:41"
      refine AOps.run tok 3 _ _ _ _ rfl ?_
      rw [wI64 (x := (i : Int) + 1) (by omega) (by omega)]
      refine AOps.nil ?_
      exact ⟨i + 1, by rw [show (repI (i + 1) (-1)).map dI = (repI i (-1)).map dI ++ [dI (-1)] by rw [repI, List.replicate_succ']; simp]; rfl, hin, by omega⟩
    · skip
      have hin : i = n := by have := of_decide_eq_false h; omega
      subst hin
      refine AW.exit ?_
      refine AW.seq ?_
      refine AW.region ?_
      refine AOps.run tok 2 _ _ _ _ rfl ?_
      refine AOps.nil ?_
      refine AW.ret ?_
      show some (_, (repI i (-1)).map dI, 0, ((repI i (-1)).map dI).length) = some _
      rw [show ((repI i (-1)).map dI).length = i by simp]
end Lift
/- Graph: the search, of the program and of the reference. -/
namespace Lift
open Go Go.Proofs

section
variable {P : Program} {T : Ty} {B : Nat} {F0 : Nat → Prop} {w0 : Bas} {n : Nat} {σ : St} {K : St → Prop} {all : Array Oper} {o : Oper} {d : Nat} {rest : List Oper}
theorem ints_set (l : List Int) (i : Nat) (z : Int) : (l.map dI).set i (dI z) = (l.set i z).map dI := by rw [List.map_set]
theorem AOps.storeI (hT : TOk P T) {q : Bool} {k e i lo m : Nat} {xs : List Int} {z : Int} (hd : o.dst = none) (hg : guardOk all σ o = true) (hx : seF T σ o.op = some (k, .wn q e (xs.map dI) lo m, xs.map dI, i, 0, dI z)) (hi : i < xs.length)
    (h : AOps P B F0 w0 n all rest K ((k, .wn q e ((xs.set i z).map dI) lo m) :: σ)) : AOps P B F0 w0 n all (o :: rest) K σ := by
  refine AOps.storewn hT (dI (xs.getD i 0)) hd hg hx (getZ hi) rfl ?_
  show AOps P B F0 w0 n all rest K ((k, .wn q e ((xs.map dI).set i (dI z)) lo m) :: σ)
  rw [ints_set]
  exact h
end

theorem of_not_eq {p : Prop} [Decidable p] (h : (!decide p) = true) : ¬ p := fun e => by rw [decide_eq_true e] at h; cases h
theorem of_not_eqF {p : Prop} [Decidable p] (h : (!decide p) = false) : ¬ ¬ p := fun e => by rw [decide_eq_false e] at h; cases h
/-! ### The search -/
/-- Joint i leads from body b to a body that is not reached. -/
def cand (js : List Joint) (wo b u : Int) (by_ : List Int) (i : Nat) : Bool :=
  decide ((i : Int) ≠ wo) && (decide (0 ≤ othI (js.getD i default) b) && decide (by_.getD (othI (js.getD i default) b).toNat 0 = u))
def stepS (js : List Joint) (wo b u : Int) (i : Nat) (s : List Int × List Int) : List Int × List Int :=
  if cand js wo b u s.1 i = true then (s.1.set (othI (js.getD i default) b).toNat i, s.2 ++ [othI (js.getD i default) b]) else s
def scanS (js : List Joint) (wo b u : Int) : Nat → Nat → List Int × List Int → List Int × List Int
  | 0, _, s => s
  | m + 1, i, s => scanS js wo b u m (i + 1) (stepS js wo b u i s)
def bfsS (js : List Joint) (wo u : Int) : Nat → List Int × List Int → List Int
  | 0, s => s.1
  | f + 1, s => match s.2 with
    | [] => s.1
    | b :: q => bfsS js wo u f (scanS js wo b u js.length 0 (s.1, q))
/-- By which joint each body is reached from one; r for the first one, u for those not reached. -/
def searchS (js : List Joint) (wo u r : Int) (from_ : Nat) (by_ : List Int) : List Int := bfsS js wo u (by_.length + 1) (by_.set from_ r, [(from_ : Int)])

/-- All joints have bodies that are there. -/
def jok (js : List Joint) (n : Nat) : Prop := ∀ i, i < js.length → (0 ≤ (js.getD i default).a ∧ (js.getD i default).a < n) ∧ (0 ≤ (js.getD i default).b ∧ (js.getD i default).b < n)
theorem oth_lt {js : List Joint} {n i : Nat} {b : Int} (h : jok js n) (hi : i < js.length) : othI (js.getD i default) b < n := by
  obtain ⟨⟨h1, h2⟩, h3, h4⟩ := h i hi
  unfold othI
  split
  · exact h4
  · split
    · exact h2
    · omega

structure SInv (js : List Joint) (n : Nat) (s : List Int × List Int) : Prop where
  len : s.1.length = n
  q : ∀ x, x ∈ s.2 → 0 ≤ x ∧ x < n
theorem count_set {l : List Int} {i : Nat} {u z : Int} (hi : i < l.length) (h : l.getD i 0 = u) (hz : z ≠ u) : (l.set i z).count u + 1 = l.count u := by
  have h' : l[i] = u := by simpa [hi] using h
  rw [List.count_set hi]
  have hpos : 0 < l.count u := List.count_pos_iff.2 (h' ▸ List.getElem_mem hi)
  simp [h', hz]
  omega
theorem step_inv {js : List Joint} {n : Nat} {wo b u : Int} {i : Nat} {s : List Int × List Int} (hj : jok js n) (hi : i < js.length) (h : SInv js n s) : SInv js n (stepS js wo b u i s) := by
  unfold stepS
  split
  · rename_i hc
    simp only [cand, Bool.and_eq_true, decide_eq_true_eq] at hc
    refine ⟨by simp [h.len], fun x hx => ?_⟩
    rcases List.mem_append.1 hx with hx | hx
    · exact h.q x hx
    · simp at hx
      subst hx
      exact ⟨hc.2.1, oth_lt hj hi⟩
  · exact h
theorem step_count {js : List Joint} {n : Nat} {wo b u : Int} {i : Nat} {s : List Int × List Int} (hj : jok js n) (hi : i < js.length) (h : SInv js n s) (hu : u < 0) : (stepS js wo b u i s).1.count u + (stepS js wo b u i s).2.length = s.1.count u + s.2.length := by
  unfold stepS
  split
  · rename_i hc
    simp only [cand, Bool.and_eq_true, decide_eq_true_eq] at hc
    have hlt := oth_lt (b := b) hj hi
    have := count_set (l := s.1) (i := (othI (js.getD i default) b).toNat) (u := u) (z := (i : Int)) (by rw [h.len]; omega) hc.2.2 (by omega)
    simp only [List.length_append, List.length_cons, List.length_nil]
    omega
  · rfl
theorem scan_inv {js : List Joint} {n : Nat} {wo b u : Int} (hj : jok js n) : ∀ {m i : Nat} {s : List Int × List Int}, i + m ≤ js.length → SInv js n s → SInv js n (scanS js wo b u m i s)
  | 0, _, _, _, h => h
  | m + 1, i, s, hm, h => scan_inv hj (m := m) (by omega) (step_inv hj (by omega) h)
theorem scan_count {js : List Joint} {n : Nat} {wo b u : Int} (hj : jok js n) (hu : u < 0) : ∀ {m i : Nat} {s : List Int × List Int}, i + m ≤ js.length → SInv js n s → (scanS js wo b u m i s).1.count u + (scanS js wo b u m i s).2.length = s.1.count u + s.2.length
  | 0, _, _, _, h => rfl
  | m + 1, i, s, hm, h => (scan_count hj hu (m := m) (by omega) (step_inv hj (by omega) h)).trans (step_count hj (by omega) h hu)


theorem step_len (js : List Joint) (wo b u : Int) (i : Nat) (s : List Int × List Int) : (stepS js wo b u i s).1.length = s.1.length := by
  unfold stepS
  split <;> simp
theorem scan_len (js : List Joint) (wo b u : Int) : ∀ (m i : Nat) (s : List Int × List Int), (scanS js wo b u m i s).1.length = s.1.length
  | 0, _, _ => rfl
  | m + 1, i, s => (scan_len js wo b u m (i + 1) _).trans (step_len js wo b u i s)
theorem bfs_len (js : List Joint) (wo u : Int) : ∀ (f : Nat) (s : List Int × List Int), (bfsS js wo u f s).length = s.1.length
  | 0, _ => rfl
  | f + 1, (x, []) => rfl
  | f + 1, (x, b :: q) => (bfs_len js wo u f _).trans (scan_len js wo b u _ _ _)
theorem search_len (js : List Joint) (wo u r : Int) (k : Nat) (l : List Int) : (searchS js wo u r k l).length = l.length := by
  unfold searchS
  rw [bfs_len]
  simp

/-- The queue as a window. -/
structure QI (q : List Int) (L : List D) (lo m : Nat) : Prop where
  drop : L.drop lo = q.map dI
  len : m = q.length
  tot : lo + m = L.length
structure SS where
  x : List Int
  q : List Int
  L : List D
  lo : Nat
  m : Nat
structure OInv (js : List Joint) (wo u : Int) (n : Nat) (R : List Int) (s : SS) : Prop where
  inv : SInv js n (s.x, s.q)
  q : QI s.q s.L s.lo s.m
  f : ∃ f, s.x.count u + s.q.length ≤ f ∧ f ≤ n + 1 ∧ bfsS js wo u f (s.x, s.q) = R
structure IInv (js : List Joint) (wo b u : Int) (n : Nat) (R : List Int × List Int) (s : Nat × SS) : Prop where
  le : s.1 ≤ js.length
  inv : SInv js n (s.2.x, s.2.q)
  q : QI s.2.q s.2.L s.2.lo s.2.m
  few : s.2.x.count u + s.2.q.length ≤ n + 1
  eq : scanS js wo b u (js.length - s.1) s.1 (s.2.x, s.2.q) = R
theorem QI.first {b : Int} {q : List Int} {L : List D} {lo m : Nat} (h : QI (b :: q) L lo m) : L[lo + (0 : Int).toNat]? = some (dI b) := by
  have := congrArg (·[0]?) h.drop
  simpa using this
theorem QI.tail {b : Int} {q : List Int} {L : List D} {lo m : Nat} (h : QI (b :: q) L lo m) : QI q L (lo + 1) (m - 1) := by
  refine ⟨?_, ?_, ?_⟩
  · rw [← List.drop_drop, h.drop]; rfl
  · rw [h.len]; rfl
  · have := h.tot
    have := h.len
    simp at this
    omega
theorem QI.app {q : List Int} {L L2 : List D} {lo m lo2 : Nat} {z : Int} (h : QI q L lo m) (h1 : L2.drop lo2 = L.drop lo ++ [dI z]) (h2 : lo2 + (m + 1) = L2.length) : QI (q ++ [z]) L2 lo2 (m + 1) := by
  refine ⟨by rw [h1, h.drop]; simp, by rw [h.len]; simp, h2⟩
theorem few_count {l : List Int} {n : Nat} {u : Int} (h : l.length = n) : l.count u ≤ n := h ▸ List.count_le_length
theorem scan_next (js : List Joint) (wo b u : Int) {i : Nat} (h : i < js.length) (s : List Int × List Int) : scanS js wo b u (js.length - i) i s = scanS js wo b u (js.length - (i + 1)) (i + 1) (stepS js wo b u i s) := by
  obtain ⟨k, hk⟩ : ∃ k, js.length - i = k + 1 := ⟨js.length - i - 1, by omega⟩
  rw [hk, show js.length - (i + 1) = k by omega]
  rfl
theorem step_hit {js : List Joint} {wo b u : Int} {x q : List Int} {i : Nat} (h : cand js wo b u x i = true) : stepS js wo b u i (x, q) = (x.set (othI (js.getD i default) b).toNat i, q ++ [othI (js.getD i default) b]) := by
  unfold stepS; rw [if_pos h]
theorem step_miss {js : List Joint} {wo b u : Int} {x q : List Int} {i : Nat} (h : cand js wo b u x i = false) : stepS js wo b u i (x, q) = (x, q) := by
  unfold stepS; rw [if_neg (by rw [h]; decide)]
theorem OInv.start {js : List Joint} {n : Nat} {wo u r : Int} {k : Nat} {l : List Int} (hl : l.length = n) (hk : k < n) : OInv js wo u n (searchS js wo u r k l) ⟨l.set k r, [(k : Int)], [dI k], 0, 1⟩ := by
  refine ⟨⟨by simp [hl], fun x hx => ?_⟩, ⟨rfl, rfl, rfl⟩, n + 1, ?_, Nat.le_refl _, ?_⟩
  · simp at hx; subst hx; omega
  · have := few_count (u := u) (n := n) (l := l.set k r) (by simp [hl])
    simp
    omega
  · unfold searchS; rw [hl]
theorem OInv.next {js : List Joint} {n : Nat} {wo u b : Int} {R x q : List Int} {L : List D} {lo m : Nat} (h : OInv js wo u n R ⟨x, b :: q, L, lo, m⟩) : IInv js wo b u n (scanS js wo b u js.length 0 (x, q)) (0, ⟨x, q, L, lo + 1, m - 1⟩) := by
  obtain ⟨f, h1, h2, h3⟩ := h.f
  refine ⟨Nat.zero_le _, ⟨h.inv.len, fun y hy => h.inv.q y (List.mem_cons_of_mem _ hy)⟩, h.q.tail, ?_, rfl⟩
  simp only [List.length_cons] at h1 ⊢
  omega
theorem IInv.back {js : List Joint} {n : Nat} {wo u b : Int} {R x q x' q' : List Int} {L L' : List D} {lo m lo' m' i : Nat} (hj : jok js n) (hu : u < 0) (h : OInv js wo u n R ⟨x, b :: q, L, lo, m⟩) (k : IInv js wo b u n (scanS js wo b u js.length 0 (x, q)) (i, ⟨x', q', L', lo', m'⟩)) (hi : i = js.length) : OInv js wo u n R ⟨x', q', L', lo', m'⟩ ∧ x'.count u + q'.length < x.count u + (b :: q).length := by
  subst hi
  have he := k.eq
  simp only [Nat.sub_self] at he
  have he : (x', q') = scanS js wo b u js.length 0 (x, q) := he
  have hq : SInv js n (x, q) := ⟨h.inv.len, fun y hy => h.inv.q y (List.mem_cons_of_mem _ hy)⟩
  have hc := scan_count (wo := wo) (b := b) hj hu (m := js.length) (i := 0) (by omega) hq
  rw [← he] at hc
  simp only [] at hc
  obtain ⟨f, h1, h2, h3⟩ := h.f
  simp only [List.length_cons] at h1 ⊢
  obtain ⟨g, rfl⟩ : ∃ g, f = g + 1 := ⟨f - 1, by omega⟩
  refine ⟨⟨k.inv, k.q, g, by simp only []; omega, by omega, ?_⟩, by omega⟩
  rw [← h3]
  show bfsS js wo u g (x', q') = bfsS js wo u g (scanS js wo b u js.length 0 (x, q))
  rw [he]
theorem OInv.done {js : List Joint} {n : Nat} {wo u : Int} {R x : List Int} {L : List D} {lo m : Nat} (h : OInv js wo u n R ⟨x, [], L, lo, m⟩) : x = R := by
  obtain ⟨f, _, _, h3⟩ := h.f
  rw [← h3]
  cases f <;> rfl

set_option maxHeartbeats 1000000 in
theorem graph_search_ok (l : Lkg) (k : Nat) (wo : Int) (x0 : List Int) (hk : k < x0.length) (hn : x0.length ≤ 1000) (hj : jok l.joints x0.length) (hm : l.joints.length ≤ 1000) :
    MutA Tryz.prog 39 3 (x0.map dI) 0 x0.length [l.D, dI k, dI wo] [] ((searchS l.joints wo (-2) (-1) k x0).map dI) (.val (.tu [])) := by
  refine MutA.intro (n := 60) tok Tryz.func39 rfl rfl rfl (Nat.le_of_ble_eq_true rfl) (by kernel_rfl) (by simp [search_len]) (fun B F0 w0 => ?_)
  obtain ⟨ln, bs, js, ds⟩ := l
  simp only [] at hj hm ⊢
  have h0 := OInv.start (js := js) (wo := wo) (u := -2) (r := -1) (k := k) (l := x0) rfl hk
  generalize searchS js wo (-2) (-1) k x0 = R at h0 ⊢
  generalize hxn : x0.length = n at *
  show AW _ _ _ _ _ _ _ [(3, .wn true 3 (x0.map dI) 0 n), (0, .d (D.ag [dS ln, BodiesD bs, JointsD js, DriversD ds])), (1, .d (dI k)), (2, .d (dI wo))]
  refine AW.seq ?_
  refine AW.region ?_   -- "graph.go:23"
  refine AOps.run tok 1 _ _ _ _ rfl ?_
  refine AOps.nil ?_
  refine AW.seq ?_
  refine AW.region ?_   -- "graph.go:24"
  refine AOps.run tok 2 _ _ _ _ rfl ?_
  refine AOps.idxw tok rfl rfl rfl rfl (Int.natCast_nonneg k) (by rw [Int.toNat_natCast]; exact hk) ?_
  rw [Int.toNat_natCast, Nat.zero_add]
  refine AOps.storeI tok rfl rfl rfl (by omega) ?_
  refine AOps.nil ?_
  refine AW.seq ?_
  refine AW.region ?_   -- "graph.go:25"
  refine AOps.run tok 1 _ _ _ _ rfl ?_
  refine AOps.bs tok rfl rfl rfl rfl ?_
  refine AOps.run tok 1 _ _ _ _ rfl ?_
  refine AOps.nil ?_
  refine AW.block ?_   -- block 0
  refine AW.towin 8 rfl ?_
  refine AW.loopS [2, 3, 4, 8] (fun s : SS => [(2, .d (dI wo)), (3, .wn true 3 (s.x.map dI) 0 n), (4, .bx [dS ln, BodiesD bs, JointsD js, DriversD ds]), (8, .wn false 3 s.L s.lo s.m)])
    (OInv js wo (-2) n R) (fun s => s.x.count (-2) + s.q.length) ⟨x0.set k (-1), [(k : Int)], [dI k], 0, 1⟩ rfl h0 (fun s hs => ?_)
  obtain ⟨x, q, L, lo, m⟩ := s
  have hml : m = q.length := hs.q.len
  · show AW _ _ _ _ _ _ _ [(2, .d (dI wo)), (3, .wn true 3 (x.map dI) 0 n), (4, .bx [dS ln, BodiesD bs, JointsD js, DriversD ds]), (8, .wn false 3 L lo m)]
    refine AW.seq ?_
    refine AW.seq ?_
    refine AW.region ?_   -- "graph.go:26"
    refine AOps.run tok 3 _ _ _ _ rfl ?_
    rw [show ((L.drop lo).take m).length = m by have := hs.q.tot; simp only [] at this; rw [List.length_take, List.length_drop]; omega]
    refine AOps.nil ?_
    refine AW.cond rfl (fun h => ?_) (fun h => ?_)
    · obtain ⟨b, q, rfl⟩ : ∃ b q', q = b :: q' := by
        cases q with
        | nil => have := of_decide_eq_true h; simp at hml; omega
        | cons b q => exact ⟨b, q, rfl⟩
      have hm1 : 1 ≤ m := by rw [hml]; simp
      refine AW.skip ?_
      refine AW.block ?_   -- block 1
      refine AW.seq ?_
      refine AW.region ?_   -- "graph.go:27"
      refine AOps.run tok 1 _ _ _ _ rfl ?_
      refine AOps.idxw tok rfl rfl rfl rfl (Int.le_refl 0) (by show 0 < m; omega) ?_
      refine AOps.loadel tok (dI b) rfl rfl rfl rfl hs.q.first rfl ?_
      refine AOps.run tok 1 _ _ _ _ rfl ?_
      refine AOps.nil ?_
      refine AW.seq ?_
      refine AW.region ?_   -- "graph.go:28"
      refine AOps.run tok 1 _ _ _ _ rfl ?_
      refine AOps.slw tok rfl rfl rfl rfl (by show (0 : Int) ≤ 1; omega) trivial (by show 1 ≤ m; exact hm1) (Nat.le_refl m) ?_
      refine AOps.run tok 1 _ _ _ _ rfl ?_
      refine AOps.nil ?_
      refine AW.seq ?_
      refine AW.region ?_   -- "graph.go:29"
      refine AOps.run tok 4 _ _ _ _ rfl ?_
      rw [List.length_map]
      refine AOps.nil ?_
      refine AW.block ?_   -- block 2
      refine AW.loopS [2, 3, 4, 8, 9, 27, 28, 29] (fun s : Nat × SS => [(2, .d (dI wo)), (3, .wn true 3 (s.2.x.map dI) 0 n), (4, .bx [dS ln, BodiesD bs, JointsD js, DriversD ds]), (8, .wn false 3 s.2.L s.2.lo s.2.m), (9, .d (dI b)), (27, .d (JointsD js)), (28, .d (dI js.length)), (29, .d (dI s.1))])
        (IInv js wo b (-2) n (scanS js wo b (-2) js.length 0 (x, q))) (fun s => js.length - s.1) (0, ⟨x, q, L, lo + 1, m - 1⟩) rfl hs.next (fun s hi => ?_)
      obtain ⟨i, x', q', L', lo', m'⟩ := s
      · have hil : i ≤ js.length := hi.le
        have hml' : m' = q'.length := hi.q.len
        have hfew : x'.count (-2) + q'.length ≤ n + 1 := hi.few
        have hxl : x'.length = n := hi.inv.len
        show AW _ _ _ _ _ _ _ [(2, .d (dI wo)), (3, .wn true 3 (x'.map dI) 0 n), (4, .bx [dS ln, BodiesD bs, JointsD js, DriversD ds]), (8, .wn false 3 L' lo' m'), (9, .d (dI b)), (27, .d (JointsD js)), (28, .d (dI js.length)), (29, .d (dI i))]
        refine AW.seq ?_
        refine AW.region ?_   -- "graph.go:29"
        refine AOps.run tok 1 _ _ _ _ rfl ?_
        refine AOps.nil ?_
        refine AW.seq ?_
        refine AW.cond rfl (fun h => ?_) (fun h => ?_)
        · have hin : i < js.length := by have := of_decide_eq_true h; omega
          obtain ⟨j, hje⟩ : ∃ j, j = js.getD i default := ⟨_, rfl⟩
          have hot := oth_lt (b := b) hj hin
          rw [← hje] at hot
          obtain ⟨o, ho⟩ : ∃ o, o = othI j b := ⟨_, rfl⟩
          rw [← ho] at hot
          refine AW.skip ?_
          refine AW.seq ?_
          refine AW.block ?_   -- block 3
          refine AW.seq ?_
          refine AW.region ?_   -- "graph.go:29"
          refine AOps.run tok 1 _ _ _ _ rfl ?_
          refine AOps.idx tok j.D rfl rfl rfl rfl (Int.natCast_nonneg i) (by rw [hje]; exact getM Joint.D hin) ?_
          refine AOps.run tok 4 _ _ _ _ rfl ?_
          refine AOps.nil ?_
          refine AW.seq ?_
          refine AW.region ?_   -- "graph.go:30"
          refine AOps.run tok 2 _ _ _ _ rfl ?_
          refine AOps.call tok rfl rfl rfl rfl (graph_other_ok j b) ?_
          refine AOps.run tok 1 _ _ _ _ rfl ?_
          rw [← ho]
          refine AOps.nil ?_
          refine AW.cut [2, 3, 4, 8, 9, 10, 12, 27, 28, 29, 50] (fun _ : Unit => [(2, .d (dI wo)), (3, .wn true 3 (x'.map dI) 0 n), (4, .bx [dS ln, BodiesD bs, JointsD js, DriversD ds]), (8, .wn false 3 L' lo' m'), (9, .d (dI b)), (10, .d (dI i)), (12, .d (dI o)), (27, .d (JointsD js)), (28, .d (dI js.length)), (29, .d (dI i)), (50, .d (dB (cand js wo b (-2) x' i)))]) (fun _ => True) ?_ (fun _ _ => ?_)
          · refine AW.region ?_
            refine AOps.run tok 4 _ _ _ _ rfl ?_
            unfold cand
            rw [← hje, ← ho]
            refine AOps.split (t := 40) rfl (fun h1 => ?_) (fun h1 => ?_)
            · refine AOps.run tok 4 _ _ _ _ rfl ?_
              refine AOps.split (t := 44) rfl (fun h2 => ?_) (fun h2 => ?_)
              · have h2' := of_decide_eq_true h2
                refine AOps.run tok 2 _ _ _ _ rfl ?_
                refine AOps.idxw tok rfl rfl rfl rfl h2' (by omega) ?_
                rw [Nat.zero_add]
                refine AOps.loadel tok (dI (x'.getD o.toNat 0)) rfl rfl rfl rfl (getZ (by omega)) rfl ?_
                refine AOps.run tok 2 _ _ _ _ rfl ?_
                refine AOps.nil ?_
                exact ⟨(), by rw [decide_eq_true (of_not_eq h1), decide_eq_true h2']; rfl, trivial⟩
              · refine AOps.run tok 6 _ _ _ _ rfl ?_
                refine AOps.nil ?_
                exact ⟨(), by rw [decide_eq_true (of_not_eq h1), decide_eq_false (of_decide_eq_false h2)]; rfl, trivial⟩
            · refine AOps.run tok 10 _ _ _ _ rfl ?_
              refine AOps.nil ?_
              exact ⟨(), by rw [decide_eq_false (of_not_eqF h1)]; rfl, trivial⟩
          refine AW.cond rfl (fun h => ?_) (fun h => ?_)
          · skip
            have hc := h
            simp only [cand, ← hje, ← ho, Bool.and_eq_true, decide_eq_true_eq] at hc
            refine AW.seq ?_
            refine AW.region ?_   -- "graph.go:31"
            refine AOps.run tok 3 _ _ _ _ rfl ?_
            refine AOps.idxw tok rfl rfl rfl rfl hc.2.1 (by omega) ?_
            rw [Nat.zero_add]
            refine AOps.storeI tok rfl rfl rfl (by omega) ?_
            refine AOps.nil ?_
            refine AW.region ?_   -- "graph.go:32"
            refine AOps.run tok 2 _ _ _ _ rfl ?_
            refine AOps.bs tok rfl rfl rfl rfl ?_
            refine AOps.appw tok rfl rfl rfl rfl rfl rfl hi.q.tot (by show (m' + 1) * 8 ≤ _; omega) (by show m' + 1 ≤ _; omega) (fun L2 lo2 g1 g2 => ?_)
            refine AOps.run tok 1 _ _ _ _ rfl ?_
            refine AOps.nil ?_
            refine AW.region ?_   -- "graph.go:29"
            refine AOps.run tok 2 _ _ _ _ rfl ?_
            rw [wI64 (x := (i : Int) + 1) (by omega) (by omega)]
            refine AOps.nil ?_
            refine ⟨(i + 1, ⟨x'.set o.toNat i, q' ++ [o], L2, lo2, m' + 1⟩), rfl, ⟨hin, ?_, hi.q.app g1 g2, ?_, ?_⟩, by simp only []; omega⟩
            · have := step_inv (wo := wo) (b := b) (u := -2) hj hin hi.inv
              rw [step_hit h, ← hje, ← ho] at this
              exact this
            · have := step_count (wo := wo) (b := b) (u := -2) hj hin hi.inv (by omega)
              rw [step_hit h, ← hje, ← ho] at this
              exact Nat.le_trans (Nat.le_of_eq this) hfew
            · rw [← hi.eq, scan_next js wo b (-2) hin, step_hit h, ← hje, ← ho]
          · skip
            refine AW.skip ?_
            refine AW.region ?_   -- "graph.go:29"
            refine AOps.run tok 2 _ _ _ _ rfl ?_
            rw [wI64 (x := (i : Int) + 1) (by omega) (by omega)]
            refine AOps.nil ?_
            refine ⟨(i + 1, ⟨x', q', L', lo', m'⟩), rfl, ⟨hin, hi.inv, hi.q, hfew, ?_⟩, by simp only []; omega⟩
            rw [← hi.eq, scan_next js wo b (-2) hin, step_miss h]
        · have hin : i = js.length := by have := of_decide_eq_false h; omega
          refine AW.exit ?_
          obtain ⟨z1, z2⟩ := hi.back hj (by omega) hs hin
          exact ⟨⟨x', q', L', lo', m'⟩, rfl, z1, z2⟩
        -- END OF BODY; what follows the loop (from its exit):
        -- .
    · obtain rfl : q = [] := by
        cases q with
        | nil => rfl
        | cons b q => have := of_decide_eq_false h; simp at hml; omega
      have hR := hs.done
      subst hR
      refine AW.exit ?_
      exact ⟨⟨_, _, rfl⟩, rfl, rfl⟩
    -- END OF BODY; what follows the loop (from its exit):
    -- .

set_option maxHeartbeats 1000000 in
theorem r23_search_ok (l : Lkg) (k : Nat) (wo : Int) (x0 : List Int) (hk : k < x0.length) (hn : x0.length ≤ 1000) (hj : jok l.joints x0.length) (hm : l.joints.length ≤ 1000) :
    MutA Tryz.prog 44 3 (x0.map dI) 0 x0.length [l.D, dI k, dI wo] [] ((searchS l.joints wo (-1) (-2) k x0).map dI) (.part 0 x0.length) := by
  refine MutA.intro (n := 63) tok Tryz.func44 rfl rfl rfl (Nat.le_of_ble_eq_true rfl) (by kernel_rfl) (by simp [search_len]) (fun B F0 w0 => ?_)
  obtain ⟨ln, bs, js, ds⟩ := l
  simp only [] at hj hm ⊢
  have h0 := OInv.start (js := js) (wo := wo) (u := -1) (r := -2) (k := k) (l := x0) rfl hk
  generalize searchS js wo (-1) (-2) k x0 = R at h0 ⊢
  generalize hxn : x0.length = n at *
  show AW _ _ _ _ _ _ _ [(3, .wn true 3 (x0.map dI) 0 n), (0, .d (D.ag [dS ln, BodiesD bs, JointsD js, DriversD ds])), (1, .d (dI k)), (2, .d (dI wo))]
  refine AW.seq ?_
  refine AW.region ?_   -- "ref.go:21"
  refine AOps.run tok 2 _ _ _ _ rfl ?_
  refine AOps.nil ?_
  refine AW.seq ?_
  refine AW.region ?_   -- "ref.go:22"
  refine AOps.run tok 2 _ _ _ _ rfl ?_
  refine AOps.idxw tok rfl rfl rfl rfl (Int.natCast_nonneg k) (by rw [Int.toNat_natCast]; exact hk) ?_
  rw [Int.toNat_natCast, Nat.zero_add]
  refine AOps.storeI tok rfl rfl rfl (by omega) ?_
  refine AOps.nil ?_
  refine AW.seq ?_
  refine AW.region ?_   -- "ref.go:23"
  refine AOps.run tok 1 _ _ _ _ rfl ?_
  refine AOps.bs tok rfl rfl rfl rfl ?_
  refine AOps.run tok 1 _ _ _ _ rfl ?_
  refine AOps.nil ?_
  refine AW.seq ?_
  refine AW.block ?_   -- block 0
  refine AW.towin 9 rfl ?_
  refine AW.loopS [2, 3, 4, 9] (fun s : SS => [(2, .d (dI wo)), (3, .wn true 3 (s.x.map dI) 0 n), (4, .bx [dS ln, BodiesD bs, JointsD js, DriversD ds]), (9, .wn false 3 s.L s.lo s.m)])
    (OInv js wo (-1) n R) (fun s => s.x.count (-1) + s.q.length) ⟨x0.set k (-2), [(k : Int)], [dI k], 0, 1⟩ rfl h0 (fun s hs => ?_)
  obtain ⟨x, q, L, lo, m⟩ := s
  have hml : m = q.length := hs.q.len
  · show AW _ _ _ _ _ _ _ [(2, .d (dI wo)), (3, .wn true 3 (x.map dI) 0 n), (4, .bx [dS ln, BodiesD bs, JointsD js, DriversD ds]), (9, .wn false 3 L lo m)]
    refine AW.seq ?_
    refine AW.seq ?_
    refine AW.region ?_   -- "ref.go:24"
    refine AOps.run tok 3 _ _ _ _ rfl ?_
    rw [show ((L.drop lo).take m).length = m by have := hs.q.tot; simp only [] at this; rw [List.length_take, List.length_drop]; omega]
    refine AOps.nil ?_
    refine AW.cond rfl (fun h => ?_) (fun h => ?_)
    · obtain ⟨b, q, rfl⟩ : ∃ b q', q = b :: q' := by
        cases q with
        | nil => have := of_decide_eq_true h; simp at hml; omega
        | cons b q => exact ⟨b, q, rfl⟩
      have hm1 : 1 ≤ m := by rw [hml]; simp
      refine AW.skip ?_
      refine AW.block ?_   -- block 1
      refine AW.seq ?_
      refine AW.region ?_   -- "ref.go:25"
      refine AOps.run tok 1 _ _ _ _ rfl ?_
      refine AOps.idxw tok rfl rfl rfl rfl (Int.le_refl 0) (by show 0 < m; omega) ?_
      refine AOps.loadel tok (dI b) rfl rfl rfl rfl hs.q.first rfl ?_
      refine AOps.run tok 1 _ _ _ _ rfl ?_
      refine AOps.nil ?_
      refine AW.seq ?_
      refine AW.region ?_   -- "ref.go:26"
      refine AOps.run tok 1 _ _ _ _ rfl ?_
      refine AOps.slw tok rfl rfl rfl rfl (by show (0 : Int) ≤ 1; omega) trivial (by show 1 ≤ m; exact hm1) (Nat.le_refl m) ?_
      refine AOps.run tok 1 _ _ _ _ rfl ?_
      refine AOps.nil ?_
      refine AW.seq ?_
      refine AW.region ?_   -- "ref.go:27"
      refine AOps.run tok 1 _ _ _ _ rfl ?_
      refine AOps.nil ?_
      refine AW.block ?_   -- block 2
      refine AW.loopS [2, 3, 4, 9, 10, 11] (fun s : Nat × SS => [(2, .d (dI wo)), (3, .wn true 3 (s.2.x.map dI) 0 n), (4, .bx [dS ln, BodiesD bs, JointsD js, DriversD ds]), (9, .wn false 3 s.2.L s.2.lo s.2.m), (10, .d (dI b)), (11, .d (dI s.1))])
        (IInv js wo b (-1) n (scanS js wo b (-1) js.length 0 (x, q))) (fun s => js.length - s.1) (0, ⟨x, q, L, lo + 1, m - 1⟩) rfl hs.next (fun s hi => ?_)
      obtain ⟨i, x', q', L', lo', m'⟩ := s
      · have hil : i ≤ js.length := hi.le
        have hml' : m' = q'.length := hi.q.len
        have hfew : x'.count (-1) + q'.length ≤ n + 1 := hi.few
        have hxl : x'.length = n := hi.inv.len
        show AW _ _ _ _ _ _ _ [(2, .d (dI wo)), (3, .wn true 3 (x'.map dI) 0 n), (4, .bx [dS ln, BodiesD bs, JointsD js, DriversD ds]), (9, .wn false 3 L' lo' m'), (10, .d (dI b)), (11, .d (dI i))]
        refine AW.seq ?_
        refine AW.seq ?_
        refine AW.region ?_   -- "ref.go:27"
        refine AOps.run tok 5 _ _ _ _ rfl ?_
        rw [List.length_map]
        refine AOps.nil ?_
        refine AW.cond rfl (fun h => ?_) (fun h => ?_)
        · have hin : i < js.length := by have := of_decide_eq_true h; omega
          obtain ⟨j, hje⟩ : ∃ j, j = js.getD i default := ⟨_, rfl⟩
          have hot := oth_lt (b := b) hj hin
          rw [← hje] at hot
          obtain ⟨o, ho⟩ : ∃ o, o = othI j b := ⟨_, rfl⟩
          rw [← ho] at hot
          refine AW.skip ?_
          refine AW.seq ?_
          refine AW.block ?_   -- block 3
          refine AW.seq ?_
          refine AW.region ?_   -- "ref.go:28"
          refine AOps.run tok 3 _ _ _ _ rfl ?_
          refine AOps.idx tok j.D rfl rfl rfl rfl (Int.natCast_nonneg i) (by rw [hje]; exact getM Joint.D hin) ?_
          refine AOps.run tok 2 _ _ _ _ rfl ?_
          refine AOps.call tok rfl rfl rfl rfl (r23_other_ok j b) ?_
          refine AOps.run tok 1 _ _ _ _ rfl ?_
          rw [← ho]
          refine AOps.nil ?_
          refine AW.cut [2, 3, 4, 9, 10, 11, 12, 53] (fun _ : Unit => [(2, .d (dI wo)), (3, .wn true 3 (x'.map dI) 0 n), (4, .bx [dS ln, BodiesD bs, JointsD js, DriversD ds]), (9, .wn false 3 L' lo' m'), (10, .d (dI b)), (11, .d (dI i)), (12, .d (dI o)), (53, .d (dB (cand js wo b (-1) x' i)))]) (fun _ => True) ?_ (fun _ _ => ?_)
          · refine AW.region ?_
            refine AOps.run tok 4 _ _ _ _ rfl ?_
            unfold cand
            rw [← hje, ← ho]
            refine AOps.split (t := 43) rfl (fun h1 => ?_) (fun h1 => ?_)
            · refine AOps.run tok 4 _ _ _ _ rfl ?_
              refine AOps.split (t := 47) rfl (fun h2 => ?_) (fun h2 => ?_)
              · have h2' := of_decide_eq_true h2
                refine AOps.run tok 2 _ _ _ _ rfl ?_
                refine AOps.idxw tok rfl rfl rfl rfl h2' (by omega) ?_
                rw [Nat.zero_add]
                refine AOps.loadel tok (dI (x'.getD o.toNat 0)) rfl rfl rfl rfl (getZ (by omega)) rfl ?_
                refine AOps.run tok 2 _ _ _ _ rfl ?_
                refine AOps.nil ?_
                exact ⟨(), by rw [decide_eq_true (of_not_eq h1), decide_eq_true h2']; rfl, trivial⟩
              · refine AOps.run tok 6 _ _ _ _ rfl ?_
                refine AOps.nil ?_
                exact ⟨(), by rw [decide_eq_true (of_not_eq h1), decide_eq_false (of_decide_eq_false h2)]; rfl, trivial⟩
            · refine AOps.run tok 10 _ _ _ _ rfl ?_
              refine AOps.nil ?_
              exact ⟨(), by rw [decide_eq_false (of_not_eqF h1)]; rfl, trivial⟩
          refine AW.cond rfl (fun h => ?_) (fun h => ?_)
          · skip
            have hc := h
            simp only [cand, ← hje, ← ho, Bool.and_eq_true, decide_eq_true_eq] at hc
            refine AW.seq ?_
            refine AW.region ?_   -- "ref.go:30"
            refine AOps.run tok 3 _ _ _ _ rfl ?_
            refine AOps.idxw tok rfl rfl rfl rfl hc.2.1 (by omega) ?_
            rw [Nat.zero_add]
            refine AOps.storeI tok rfl rfl rfl (by omega) ?_
            refine AOps.nil ?_
            refine AW.region ?_   -- "ref.go:31"
            refine AOps.run tok 2 _ _ _ _ rfl ?_
            refine AOps.bs tok rfl rfl rfl rfl ?_
            refine AOps.appw tok rfl rfl rfl rfl rfl rfl hi.q.tot (by show (m' + 1) * 8 ≤ _; omega) (by show m' + 1 ≤ _; omega) (fun L2 lo2 g1 g2 => ?_)
            refine AOps.run tok 1 _ _ _ _ rfl ?_
            refine AOps.nil ?_
            refine AW.region ?_   -- "ref.go:27"
            refine AOps.run tok 3 _ _ _ _ rfl ?_
            rw [wI64 (x := (i : Int) + 1) (by omega) (by omega)]
            refine AOps.nil ?_
            refine ⟨(i + 1, ⟨x'.set o.toNat i, q' ++ [o], L2, lo2, m' + 1⟩), rfl, ⟨hin, ?_, hi.q.app g1 g2, ?_, ?_⟩, by simp only []; omega⟩
            · have := step_inv (wo := wo) (b := b) (u := -1) hj hin hi.inv
              rw [step_hit h, ← hje, ← ho] at this
              exact this
            · have := step_count (wo := wo) (b := b) (u := -1) hj hin hi.inv (by omega)
              rw [step_hit h, ← hje, ← ho] at this
              exact Nat.le_trans (Nat.le_of_eq this) hfew
            · rw [← hi.eq, scan_next js wo b (-1) hin, step_hit h, ← hje, ← ho]
          · skip
            refine AW.skip ?_
            refine AW.region ?_   -- "ref.go:27"
            refine AOps.run tok 3 _ _ _ _ rfl ?_
            rw [wI64 (x := (i : Int) + 1) (by omega) (by omega)]
            refine AOps.nil ?_
            refine ⟨(i + 1, ⟨x', q', L', lo', m'⟩), rfl, ⟨hin, hi.inv, hi.q, hfew, ?_⟩, by simp only []; omega⟩
            rw [← hi.eq, scan_next js wo b (-1) hin, step_miss h]
        · have hin : i = js.length := by have := of_decide_eq_false h; omega
          refine AW.exit ?_
          obtain ⟨z1, z2⟩ := hi.back hj (by omega) hs hin
          exact ⟨⟨x', q', L', lo', m'⟩, rfl, z1, z2⟩
        -- END OF BODY; what follows the loop (from its exit):
        -- .
    · obtain rfl : q = [] := by
        cases q with
        | nil => rfl
        | cons b q => have := of_decide_eq_false h; simp at hml; omega
      have hR := hs.done
      subst hR
      refine AW.exit ?_
      refine AW.seq ?_
      refine AW.region ?_
      refine AOps.run tok 2 _ _ _ _ rfl ?_
      refine AOps.nil ?_
      refine AW.ret ?_
      exact ⟨8, ⟨_, _, rfl⟩, 8, rfl, _, rfl, rfl⟩
end Lift
/- Graph: the way up. -/
namespace Lift
open Go Go.Proofs

/-- From v on by the joints by which the bodies were reached. -/
def upS (js : List Joint) (x : List Int) : Nat → Int → List Int
  | 0, _ => []
  | f + 1, v => if 0 ≤ x.getD v.toNat 0 then x.getD v.toNat 0 :: upS js x f (othI (js.getD (x.getD v.toNat 0).toNat default) v) else []
/-- The joints by which the bodies were reached lead to bodies of lower rank. -/
structure UpOk (js : List Joint) (x : List Int) (rk : Nat → Nat) : Prop where
  lt : ∀ v, v < x.length → 0 ≤ x.getD v 0 → x.getD v 0 < js.length
  up : ∀ v, v < x.length → 0 ≤ x.getD v 0 → ∃ p : Nat, othI (js.getD (x.getD v 0).toNat default) v = p ∧ p < x.length ∧ rk p < rk v
  le : ∀ v, v < x.length → rk v ≤ x.length
theorem up_fuel {js : List Joint} {x : List Int} {rk : Nat → Nat} (h : UpOk js x rk) : ∀ {f g : Nat} {v : Nat}, v < x.length → rk v < f → rk v < g → upS js x f v = upS js x g v
  | 0, g, v, hv, h1, h2 => absurd h1 (Nat.not_lt_zero _)
  | f + 1, 0, v, hv, h1, h2 => absurd h2 (Nat.not_lt_zero _)
  | f + 1, g + 1, v, hv, h1, h2 => by
    unfold upS
    rw [Int.toNat_natCast]
    split
    · rename_i h0
      obtain ⟨p, e, hp, hr⟩ := h.up v hv h0
      rw [e, up_fuel h (f := f) (g := g) hp (by omega) (by omega)]
    · rfl
theorem up_len {js : List Joint} {x : List Int} : ∀ (f : Nat) (v : Int), (upS js x f v).length ≤ f
  | 0, _ => Nat.le_refl 0
  | f + 1, v => by
    unfold upS
    split
    · have := up_len (js := js) (x := x) f (othI (js.getD (x.getD v.toNat 0).toNat default) v)
      simp only [List.length_cons]; omega
    · simp
structure UInv (js : List Joint) (x : List Int) (rk : Nat → Nat) (R : List Int) (s : Nat × List Int) : Prop where
  lt : s.1 < x.length
  eq : s.2 ++ upS js x (rk s.1 + 1) s.1 = R
theorem UInv.next {js : List Joint} {x : List Int} {rk : Nat → Nat} {R o : List Int} {v : Nat} (hU : UpOk js x rk) (h : UInv js x rk R (v, o)) (h0 : 0 ≤ x.getD v 0) : ∃ p : Nat, othI (js.getD (x.getD v 0).toNat default) v = p ∧ UInv js x rk R (p, o ++ [x.getD v 0]) ∧ rk p < rk v := by
  obtain ⟨p, e, hp, hr⟩ := hU.up v h.lt h0
  refine ⟨p, e, ⟨hp, ?_⟩, hr⟩
  rw [← h.eq]
  simp only [upS, Int.toNat_natCast, if_pos h0, e]
  rw [up_fuel hU (f := rk v) (g := rk p + 1) hp hr (by omega)]
  simp [upS]
theorem UInv.done {js : List Joint} {x : List Int} {rk : Nat → Nat} {R o : List Int} {v : Nat} (h : UInv js x rk R (v, o)) (h0 : ¬ 0 ≤ x.getD v 0) : o = R := by
  rw [← h.eq]
  simp only [upS, Int.toNat_natCast, if_neg h0, List.append_nil]
theorem UInv.few {js : List Joint} {x : List Int} {rk : Nat → Nat} {R : List Int} {s : Nat × List Int} (h : UInv js x rk R s) : s.2.length ≤ R.length := by
  rw [← h.eq]; simp

set_option maxHeartbeats 1000000 in
theorem graph_up_ok (l : Lkg) (x : List Int) (rk : Nat → Nat) (v0 : Nat) (hv : v0 < x.length) (hn : x.length ≤ 1000) (hU : UpOk l.joints x rk) :
    PureO Tryz.prog 34 [l.D, IsD x, dI v0] 3 ((upS l.joints x (rk v0 + 1) v0).map dI) 0 (upS l.joints x (rk v0 + 1) v0).length := by
  refine PureO.intro (n := 31) tok Tryz.func34 rfl rfl rfl (Nat.le_of_ble_eq_true rfl) (by kernel_rfl) (fun B F0 w0 => ?_)
  obtain ⟨ln, bs, js, ds⟩ := l
  simp only [] at hU ⊢
  have h0 : UInv js x rk (upS js x (rk v0 + 1) v0) (v0, []) := ⟨hv, rfl⟩
  have hRl : (upS js x (rk v0 + 1) v0).length ≤ 1001 := by
    have := up_len (js := js) (x := x) (rk v0 + 1) v0
    have := hU.le v0 hv
    omega
  generalize upS js x (rk v0 + 1) v0 = R at h0 hRl ⊢
  show AW _ _ _ _ _ _ _ (initSt 0 [D.ag [dS ln, BodiesD bs, JointsD js, DriversD ds], IsD x, dI v0])
  refine AW.seq ?_
  refine AW.region ?_   -- "graph.go:92"
  refine AOps.run tok 2 _ _ _ _ rfl ?_
  refine AOps.nil ?_
  refine AW.seq ?_
  refine AW.region ?_   -- "graph.go:93"
  refine AOps.run tok 1 _ _ _ _ rfl ?_
  refine AOps.nil ?_
  refine AW.seq ?_
  refine AW.block ?_   -- block 0
  refine AW.loopS [1, 2, 3, 7] (fun s : Nat × List Int => [(1, .d (IsD x)), (2, .d (dI s.1)), (3, .bx [dS ln, BodiesD bs, JointsD js, DriversD ds]), (7, .ow 3 (s.2.map dI))])
    (UInv js x rk R) (fun s => rk s.1) (v0, []) rfl h0 (fun s hs => ?_)
  obtain ⟨v, o⟩ := s
  · have hvl : v < x.length := hs.lt
    have hfew : o.length ≤ R.length := hs.few
    show AW _ _ _ _ _ _ _ [(1, .d (IsD x)), (2, .d (dI v)), (3, .bx [dS ln, BodiesD bs, JointsD js, DriversD ds]), (7, .ow 3 (o.map dI))]
    refine AW.seq ?_
    refine AW.seq ?_
    refine AW.region ?_   -- "graph.go:94"
    refine AOps.run tok 2 _ _ _ _ rfl ?_
    refine AOps.idx tok (dI (x.getD v 0)) rfl rfl rfl rfl (Int.natCast_nonneg v) (getI hvl) ?_
    refine AOps.run tok 2 _ _ _ _ rfl ?_
    refine AOps.nil ?_
    refine AW.cond rfl (fun h => ?_) (fun h => ?_)
    · have h1 := of_decide_eq_true h
      obtain ⟨p, e, hp, hr⟩ := hs.next hU h1
      have hjl := hU.lt v hvl h1
      obtain ⟨i, hi⟩ : ∃ i : Nat, x.getD v 0 = i := ⟨(x.getD v 0).toNat, by omega⟩
      rw [hi, Int.toNat_natCast] at e
      rw [hi] at hp hjl
      have hil : i < js.length := by omega
      refine AW.skip ?_
      refine AW.block ?_   -- block 1
      refine AW.seq ?_
      refine AW.region ?_   -- "graph.go:95"
      refine AOps.run tok 3 _ _ _ _ rfl ?_
      refine AOps.idx tok (dI i) rfl rfl rfl rfl (Int.natCast_nonneg v) (by rw [← hi]; exact getI hvl) ?_
      refine AOps.run tok 1 _ _ _ _ rfl ?_
      refine AOps.bs tok rfl rfl rfl rfl ?_
      refine AOps.appo tok rfl rfl rfl rfl rfl rfl (by show ((o.map dI).length + 1) * 8 ≤ _; rw [List.length_map]; omega) (by show (o.map dI).length + 1 ≤ _; rw [List.length_map]; omega) ?_
      refine AOps.run tok 1 _ _ _ _ rfl ?_
      refine AOps.nil ?_
      refine AW.draw hmix 10 (by kernel_rfl) ?_   -- "graph.go:96"
      refine APre.run tok 4 _ _ _ _ rfl ?_
      refine APre.idx tok (dI i) rfl rfl rfl rfl rfl (Int.natCast_nonneg v) (by rw [← hi]; exact getI hvl) ?_
      refine APre.run tok 1 _ _ _ _ rfl ?_
      refine APre.idx tok (js.getD i default).D rfl rfl rfl rfl rfl (Int.natCast_nonneg i) (getM Joint.D hil) ?_
      refine APre.run tok 2 _ _ _ _ rfl ?_
      refine APre.call tok rfl rfl rfl rfl rfl (graph_other_ok (js.getD i default) v) ?_
      refine APre.nil ?_
      refine AOps.run tok 1 _ _ _ _ rfl ?_
      rw [e]
      refine AOps.nil ?_
      exact ⟨(p, o ++ [(i : Int)]), by rw [show (o ++ [(i : Int)]).map dI = o.map dI ++ [dI i] by simp]; rfl, hp, hr⟩
    · have h1 : ¬ 0 ≤ x.getD v 0 := of_decide_eq_false h
      have hR := hs.done h1
      subst hR
      refine AW.exit ?_
      refine AW.seq ?_
      refine AW.region ?_
      refine AOps.run tok 2 _ _ _ _ rfl ?_
      refine AOps.nil ?_
      refine AW.ret ?_
      show some (_, o.map dI, 0, (o.map dI).length) = some _
      rw [List.length_map]

set_option maxHeartbeats 1000000 in
theorem r23_up_ok (l : Lkg) (x : List Int) (rk : Nat → Nat) (v0 : Nat) (hv : v0 < x.length) (hn : x.length ≤ 1000) (hU : UpOk l.joints x rk) :
    PureO Tryz.prog 43 [l.D, IsD x, dI v0] 3 ((upS l.joints x (rk v0 + 1) v0).map dI) 0 (upS l.joints x (rk v0 + 1) v0).length := by
  refine PureO.intro (n := 31) tok Tryz.func43 rfl rfl rfl (Nat.le_of_ble_eq_true rfl) (by kernel_rfl) (fun B F0 w0 => ?_)
  obtain ⟨ln, bs, js, ds⟩ := l
  simp only [] at hU ⊢
  have h0 : UInv js x rk (upS js x (rk v0 + 1) v0) (v0, []) := ⟨hv, rfl⟩
  have hRl : (upS js x (rk v0 + 1) v0).length ≤ 1001 := by
    have := up_len (js := js) (x := x) (rk v0 + 1) v0
    have := hU.le v0 hv
    omega
  generalize upS js x (rk v0 + 1) v0 = R at h0 hRl ⊢
  show AW _ _ _ _ _ _ _ (initSt 0 [D.ag [dS ln, BodiesD bs, JointsD js, DriversD ds], IsD x, dI v0])
  refine AW.seq ?_
  refine AW.region ?_   -- "ref.go:96"
  refine AOps.run tok 2 _ _ _ _ rfl ?_
  refine AOps.nil ?_
  refine AW.seq ?_
  refine AW.region ?_   -- "ref.go:97"
  refine AOps.run tok 1 _ _ _ _ rfl ?_
  refine AOps.nil ?_
  refine AW.seq ?_
  refine AW.block ?_   -- block 0
  refine AW.loopS [1, 2, 3, 7] (fun s : Nat × List Int => [(1, .d (IsD x)), (2, .d (dI s.1)), (3, .bx [dS ln, BodiesD bs, JointsD js, DriversD ds]), (7, .ow 3 (s.2.map dI))])
    (UInv js x rk R) (fun s => rk s.1) (v0, []) rfl h0 (fun s hs => ?_)
  obtain ⟨v, o⟩ := s
  · have hvl : v < x.length := hs.lt
    have hfew : o.length ≤ R.length := hs.few
    show AW _ _ _ _ _ _ _ [(1, .d (IsD x)), (2, .d (dI v)), (3, .bx [dS ln, BodiesD bs, JointsD js, DriversD ds]), (7, .ow 3 (o.map dI))]
    refine AW.seq ?_
    refine AW.seq ?_
    refine AW.region ?_   -- "ref.go:98"
    refine AOps.run tok 2 _ _ _ _ rfl ?_
    refine AOps.idx tok (dI (x.getD v 0)) rfl rfl rfl rfl (Int.natCast_nonneg v) (getI hvl) ?_
    refine AOps.run tok 2 _ _ _ _ rfl ?_
    refine AOps.nil ?_
    refine AW.cond rfl (fun h => ?_) (fun h => ?_)
    · have h1 := of_decide_eq_true h
      obtain ⟨p, e, hp, hr⟩ := hs.next hU h1
      have hjl := hU.lt v hvl h1
      obtain ⟨i, hi⟩ : ∃ i : Nat, x.getD v 0 = i := ⟨(x.getD v 0).toNat, by omega⟩
      rw [hi, Int.toNat_natCast] at e
      rw [hi] at hp hjl
      have hil : i < js.length := by omega
      refine AW.skip ?_
      refine AW.block ?_   -- block 1
      refine AW.seq ?_
      refine AW.region ?_   -- "ref.go:99"
      refine AOps.run tok 3 _ _ _ _ rfl ?_
      refine AOps.idx tok (dI i) rfl rfl rfl rfl (Int.natCast_nonneg v) (by rw [← hi]; exact getI hvl) ?_
      refine AOps.run tok 1 _ _ _ _ rfl ?_
      refine AOps.bs tok rfl rfl rfl rfl ?_
      refine AOps.appo tok rfl rfl rfl rfl rfl rfl (by show ((o.map dI).length + 1) * 8 ≤ _; rw [List.length_map]; omega) (by show (o.map dI).length + 1 ≤ _; rw [List.length_map]; omega) ?_
      refine AOps.run tok 1 _ _ _ _ rfl ?_
      refine AOps.nil ?_
      refine AW.draw hmix 10 (by kernel_rfl) ?_   -- "ref.go:100"
      refine APre.run tok 4 _ _ _ _ rfl ?_
      refine APre.idx tok (dI i) rfl rfl rfl rfl rfl (Int.natCast_nonneg v) (by rw [← hi]; exact getI hvl) ?_
      refine APre.run tok 1 _ _ _ _ rfl ?_
      refine APre.idx tok (js.getD i default).D rfl rfl rfl rfl rfl (Int.natCast_nonneg i) (getM Joint.D hil) ?_
      refine APre.run tok 2 _ _ _ _ rfl ?_
      refine APre.call tok rfl rfl rfl rfl rfl (r23_other_ok (js.getD i default) v) ?_
      refine APre.nil ?_
      refine AOps.run tok 1 _ _ _ _ rfl ?_
      rw [e]
      refine AOps.nil ?_
      exact ⟨(p, o ++ [(i : Int)]), by rw [show (o ++ [(i : Int)]).map dI = o.map dI ++ [dI i] by simp]; rfl, hp, hr⟩
    · have h1 : ¬ 0 ≤ x.getD v 0 := of_decide_eq_false h
      have hR := hs.done h1
      subst hR
      refine AW.exit ?_
      refine AW.seq ?_
      refine AW.region ?_
      refine AOps.run tok 2 _ _ _ _ rfl ?_
      refine AOps.nil ?_
      refine AW.ret ?_
      show some (_, o.map dI, 0, (o.map dI).length) = some _
      rw [List.length_map]
end Lift
/- The reference's check of a linkage. -/
namespace Lift
open Go Go.Proofs

theorem r19_index_ok (i : Int) (n : Nat) : Pure Tryz.prog 66 [dI i, dI n] (dB (inB i n)) := by
  refine Pure.intro (n := 12) tok Tryz.func66 rfl rfl rfl (Nat.le_of_ble_eq_true rfl) (by kernel_rfl) (fun B F0 w0 => ?_)
  refine AW.seq ?_
  refine AW.region ?_   -- "model.go:42"
  refine AOps.run tok 1 _ _ _ _ rfl ?_
  refine AOps.nil ?_
  refine AW.seq ?_
  refine AW.region ?_   -- "model.go:42"   -- GUARDS
  refine AOps.run tok 2 _ _ _ _ rfl ?_
  refine AOps.split (t := 6) rfl (fun h => ?_) (fun h => ?_)
  · have h1 := of_decide_eq_true h
    refine AOps.run tok 6 _ _ _ _ rfl ?_
    refine AOps.nil ?_
    rw [show inB i n = decide (i < n) by unfold inB; rw [decide_eq_decide]; omega]
    exact AW.ret rfl
  · have h1 := of_decide_eq_false h
    refine AOps.run tok 6 _ _ _ _ rfl ?_
    refine AOps.nil ?_
    rw [show inB i n = false by unfold inB; rw [decide_eq_false_iff_not]; omega]
    exact AW.ret rfl

set_option maxHeartbeats 1600000 in
theorem r19_points_ok (b : Body) {K : Nat} (hb : b.ok K) (hK : K ≤ 50000000) : Pure Tryz.prog 65 [b.D] (dI (ptsE b.pts : Nat)) := by
  refine Pure.intro (n := 50) tok Tryz.func65 rfl rfl rfl (Nat.le_of_ble_eq_true rfl) (by kernel_rfl) (fun B F0 w0 => ?_)
  obtain ⟨bn, ps⟩ := b
  obtain ⟨_, hn, hm⟩ := hb
  simp only [] at hn hm
  unfold big at hn
  show AW _ _ _ _ _ _ _ (initSt 0 [D.ag [dS bn, PtsD ps]])
  simp only []
  refine AW.seq ?_
  refine AW.region ?_   -- "ref.go:14"
  refine AOps.run tok 2 _ _ _ _ rfl ?_
  refine AOps.nil ?_
  refine AW.seq ?_
  refine AW.seq ?_
  refine AW.region ?_   -- "ref.go:15"
  refine AOps.run tok 4 _ _ _ _ rfl ?_
  rw [List.length_map]
  refine AOps.nil ?_
  refine AW.cond rfl (fun h => ?_) (fun h => ?_)
  · have h8 : 8 < ps.length := by have := of_decide_eq_true h; omega
    rw [ptsE, if_pos h8]
    refine AW.seq ?_
    refine AW.region ?_   -- "ref.go:16"
    refine AOps.run tok 1 _ _ _ _ rfl ?_
    refine AOps.nil ?_
    exact AW.ret rfl
  have h8 : ¬ 8 < ps.length := by have := of_decide_eq_false h; omega
  rw [ptsE, if_neg h8]
  refine AW.skip ?_
  refine AW.seq ?_
  refine AW.seq ?_
  refine AW.region ?_   -- "ref.go:18"
  refine AOps.run tok 1 _ _ _ _ rfl ?_
  refine AOps.nil ?_
  refine AW.block ?_   -- block 0
  refine AW.loopS [1, 3] (fun i : Nat => [(1, .bx [dS bn, PtsD ps]), (3, .d (dI i))])
    (fun i => i ≤ ps.length ∧ fE (ptE ps) ps.length 0 = fE (ptE ps) (ps.length - i) i) (fun i => ps.length - i) 0 rfl ⟨Nat.zero_le _, rfl⟩ (fun i ⟨hi, hE⟩ => ?_)
  refine AW.seq ?_
  refine AW.seq ?_
  refine AW.region ?_   -- "ref.go:18"
  refine AOps.run tok 5 _ _ _ _ rfl ?_
  rw [List.length_map]
  refine AOps.nil ?_
  refine AW.cond rfl (fun h => ?_) (fun h => ?_)
  · have hin : i < ps.length := by have := of_decide_eq_true h; omega
    obtain ⟨mok1, mok2, mok3⟩ := hm i
    have hbE : ptE ps i ≠ 0 → fE (ptE ps) ps.length 0 = ptE ps i := fun h0 => hE.trans (fE_hit hin h0)
    have hbM : ptE ps i = 0 → fE (ptE ps) ps.length 0 = fE (ptE ps) (ps.length - (i + 1)) (i + 1) := fun h0 => hE.trans (fE_miss hin h0)
    generalize fE (ptE ps) ps.length 0 = E at *
    obtain ⟨m, hme⟩ : ∃ m, m = ps.getD i default := ⟨_, rfl⟩
    rw [← hme] at mok1 mok2 mok3
    unfold big at mok1
    have hdup : dupM ps i = anyF (fun k => decide ((ps.getD k default).nm = m.nm)) i 0 := by rw [hme]; rfl
    have hbd : ptE ps i = if nameB m.nm = false then 5 else if dupM ps i = true then 6 else if m.x.okB = true ∧ m.y.okB = true then 0 else 3 := by rw [hme]; rfl
    refine AW.skip ?_
    refine AW.seq ?_
    refine AW.block ?_   -- block 1
    refine AW.seq ?_
    refine AW.region ?_   -- "ref.go:19"
    refine AOps.run tok 3 _ _ _ _ rfl ?_
    refine AOps.idx tok m.D rfl rfl rfl rfl (Int.natCast_nonneg i) (by rw [hme]; exact getM Mark.D hin) ?_
    refine AOps.run tok 3 _ _ _ _ rfl ?_
    refine AOps.nil ?_
    refine AW.seq ?_
    refine AW.seq ?_
    refine AW.region ?_   -- "ref.go:20"
    refine AOps.run tok 2 _ _ _ _ rfl ?_
    refine AOps.call tok rfl rfl rfl rfl (r18_Name_ok m.nm mok1) ?_
    refine AOps.run tok 1 _ _ _ _ rfl ?_
    refine AOps.nil ?_
    refine AW.cond rfl (fun h => ?_) (fun h => ?_)
    · have hnm : nameB m.nm = false := not_t h
      have h5 : ptE ps i = 5 := by rw [hbd, hnm]; rfl
      rw [show E = 5 by rw [hbE (by omega), h5]]
      refine AW.seq ?_
      refine AW.region ?_   -- "ref.go:21"
      refine AOps.run tok 1 _ _ _ _ rfl ?_
      refine AOps.nil ?_
      exact AW.ret rfl
    have hnm : nameB m.nm = true := by simpa using h
    rw [hnm, if_neg (by decide)] at hbd
    refine AW.skip ?_
    refine AW.seq ?_
    refine AW.seq ?_
    refine AW.region ?_   -- "ref.go:23"
    refine AOps.run tok 1 _ _ _ _ rfl ?_
    refine AOps.nil ?_
    refine AW.block ?_   -- block 2
    refine AW.loopS [1, 3, 4, 5] (fun k : Nat => [(1, .bx [dS bn, PtsD ps]), (3, .d (dI i)), (4, .bx [dS m.nm, dB m.x.g, Wd m.x.n, Wd m.x.d, dB m.y.g, Wd m.y.n, Wd m.y.d]), (5, .d (dI k))])
      (fun k => k ≤ i ∧ dupM ps i = anyF (fun k => decide ((ps.getD k default).nm = m.nm)) (i - k) k) (fun k => i - k) 0 rfl ⟨Nat.zero_le _, hdup⟩ (fun k ⟨hk, hD⟩ => ?_)
    refine AW.seq ?_
    refine AW.seq ?_
    refine AW.region ?_   -- "ref.go:23"
    refine AOps.run tok 3 _ _ _ _ rfl ?_
    refine AOps.nil ?_
    refine AW.cond rfl (fun h => ?_) (fun h => ?_)
    · have hki : k < i := by have := of_decide_eq_true h; omega
      refine AW.skip ?_
      refine AW.seq ?_
      refine AW.block ?_   -- block 3
      refine AW.seq ?_
      refine AW.draw hmix 9 (by kernel_rfl) ?_   -- "ref.go:24"
      refine APre.run tok 3 _ _ _ _ rfl ?_
      refine APre.idx tok (ps.getD k default).D rfl rfl rfl rfl rfl (Int.natCast_nonneg k) (getM Mark.D (by omega)) ?_
      refine APre.run tok 5 _ _ _ _ rfl ?_
      rw [str_eq]
      refine APre.nil ?_
      refine AOps.nil ?_
      refine AW.cond rfl (fun h => ?_) (fun h => ?_)
      · have h6 : ptE ps i = 6 := by rw [hbd, hD.trans (anyF_hit hki h)]; rfl
        rw [show E = 6 by rw [hbE (by omega), h6]]
        refine AW.seq ?_
        refine AW.region ?_   -- "ref.go:25"
        refine AOps.run tok 1 _ _ _ _ rfl ?_
        refine AOps.nil ?_
        exact AW.ret rfl
      · refine AW.skip ?_
        refine AW.region ?_   -- "ref.go:23"
        refine AOps.run tok 3 _ _ _ _ rfl ?_
        rw [wI64 (x := (k : Int) + 1) (by omega) (by omega)]
        refine AOps.nil ?_
        exact ⟨k + 1, rfl, ⟨hki, hD.trans (anyF_miss hki h)⟩, by omega⟩
    · have hki : ¬ k < i := by have := of_decide_eq_false h; omega
      rw [hD.trans (anyF_end hki), if_neg (by decide)] at hbd
      refine AW.exit ?_
      refine AW.cut [1, 3, 49] (fun _ : Unit => [(1, .bx [dS bn, PtsD ps]), (3, .d (dI i)), (49, .d (dB (!decide (m.x.okB = true ∧ m.y.okB = true))))]) (fun _ => True) ?_ (fun _ _ => ?_)
      · refine AW.region ?_   -- "ref.go:28"   -- GUARDS
        refine AOps.run tok 2 _ _ _ _ rfl ?_
        refine AOps.call tok rfl rfl rfl rfl (r02_Valid_ok m.x mok2 hK) ?_
        refine AOps.split (t := 42) rfl (fun h => ?_) (fun h => ?_)
        · refine AOps.run tok 4 _ _ _ _ rfl ?_
          refine AOps.call tok rfl rfl rfl rfl (r02_Valid_ok m.y mok3 hK) ?_   -- guarded
          refine AOps.run tok 2 _ _ _ _ rfl ?_
          refine AOps.nil ?_
          exact ⟨(), by rw [show decide (m.x.okB = true ∧ m.y.okB = true) = m.y.okB by simp [h]]; rfl, trivial⟩
        · refine AOps.run tok 7 _ _ _ _ rfl ?_
          refine AOps.nil ?_
          exact ⟨(), by rw [show decide (m.x.okB = true ∧ m.y.okB = true) = false by simp [h]]; rfl, trivial⟩
      refine AW.cond rfl (fun h => ?_) (fun h => ?_)
      · have hno : ¬ (m.x.okB = true ∧ m.y.okB = true) := fun e => by rw [decide_eq_true e] at h; cases h
        have h3 : ptE ps i = 3 := by rw [hbd, if_neg hno]
        rw [show E = 3 by rw [hbE (by omega), h3]]
        refine AW.seq ?_
        refine AW.region ?_   -- "ref.go:29"
        refine AOps.run tok 1 _ _ _ _ rfl ?_
        refine AOps.nil ?_
        exact AW.ret rfl
      · have hyes : m.x.okB = true ∧ m.y.okB = true := by simpa using h
        rw [if_pos hyes] at hbd
        refine AW.skip ?_
        refine AW.region ?_   -- "ref.go:18"
        refine AOps.run tok 3 _ _ _ _ rfl ?_
        rw [wI64 (x := (i : Int) + 1) (by omega) (by omega)]
        refine AOps.nil ?_
        exact ⟨i + 1, rfl, ⟨hin, hbM hbd⟩, by omega⟩
  · have hin : ¬ i < ps.length := by have := of_decide_eq_false h; omega
    rw [hE, fE_end hin]
    refine AW.exit ?_
    refine AW.seq ?_
    refine AW.region ?_   -- "ref.go:32"
    refine AOps.run tok 1 _ _ _ _ rfl ?_
    refine AOps.nil ?_
    exact AW.ret rfl

set_option maxHeartbeats 1600000 in
theorem r19_bodies_ok (l : Lkg) {K : Nat} (hl : l.ok K) (hK : K ≤ 50000000) : Pure Tryz.prog 48 [l.D] (dI (bodiesE l.bodies : Nat)) := by
  refine Pure.intro (n := 48) tok Tryz.func48 rfl rfl rfl (Nat.le_of_ble_eq_true rfl) (by kernel_rfl) (fun B F0 w0 => ?_)
  obtain ⟨ln, bs, js, ds⟩ := l
  have hb := hl.b
  have hn := hl.nb
  simp only [] at hb hn ⊢
  unfold big at hn
  show AW _ _ _ _ _ _ _ (initSt 0 [D.ag [dS ln, BodiesD bs, JointsD js, DriversD ds]])
  refine AW.seq ?_
  refine AW.region ?_   -- "ref.go:36"
  refine AOps.run tok 2 _ _ _ _ rfl ?_
  refine AOps.nil ?_
  refine AW.seq ?_
  refine AW.seq ?_
  refine AW.region ?_   -- "ref.go:37"
  refine AOps.run tok 1 _ _ _ _ rfl ?_
  refine AOps.nil ?_
  refine AW.block ?_   -- block 0
  refine AW.loopS [1, 3] (fun i : Nat => [(1, .bx [dS ln, BodiesD bs, JointsD js, DriversD ds]), (3, .d (dI i))])
    (fun i => i ≤ bs.length ∧ bodiesE bs = fE (bodyE bs) (bs.length - i) i) (fun i => bs.length - i) 0 rfl ⟨Nat.zero_le _, rfl⟩ (fun i ⟨hi, hE⟩ => ?_)
  refine AW.seq ?_
  refine AW.seq ?_
  refine AW.region ?_   -- "ref.go:37"
  refine AOps.run tok 5 _ _ _ _ rfl ?_
  rw [List.length_map]
  refine AOps.nil ?_
  refine AW.cond rfl (fun h => ?_) (fun h => ?_)
  · have hin : i < bs.length := by have := of_decide_eq_true h; omega
    have hbi := hb i
    have hbE : bodyE bs i ≠ 0 → bodiesE bs = bodyE bs i := fun h0 => hE.trans (fE_hit hin h0)
    have hbM : bodyE bs i = 0 → bodiesE bs = fE (bodyE bs) (bs.length - (i + 1)) (i + 1) := fun h0 => hE.trans (fE_miss hin h0)
    generalize bodiesE bs = E at *
    obtain ⟨b, hbe⟩ : ∃ b, b = bs.getD i default := ⟨_, rfl⟩
    rw [← hbe] at hbi
    have bok := hbi.1
    unfold big at bok
    have hdup : dupB bs i = anyF (fun k => decide ((bs.getD k default).nm = b.nm)) i 0 := by rw [hbe]; rfl
    have hbd : bodyE bs i = if nameB b.nm = false then 5 else if dupB bs i = true then 6 else ptsE b.pts := by rw [hbe]; rfl
    refine AW.skip ?_
    refine AW.seq ?_
    refine AW.block ?_   -- block 1
    refine AW.seq ?_
    refine AW.seq ?_
    refine AW.region ?_   -- "ref.go:38"
    refine AOps.run tok 3 _ _ _ _ rfl ?_
    refine AOps.idx tok b.D rfl rfl rfl rfl (Int.natCast_nonneg i) (by rw [hbe]; exact getM Body.D hin) ?_
    refine AOps.run tok 2 _ _ _ _ rfl ?_
    refine AOps.call tok rfl rfl rfl rfl (r18_Name_ok b.nm bok) ?_
    refine AOps.run tok 1 _ _ _ _ rfl ?_
    refine AOps.nil ?_
    refine AW.cond rfl (fun h => ?_) (fun h => ?_)
    · have hnm : nameB b.nm = false := not_t h
      have h5 : bodyE bs i = 5 := by rw [hbd, hnm]; rfl
      rw [show E = 5 by rw [hbE (by omega), h5]]
      refine AW.seq ?_
      refine AW.region ?_   -- "ref.go:39"
      refine AOps.run tok 1 _ _ _ _ rfl ?_
      refine AOps.nil ?_
      exact AW.ret rfl
    have hnm : nameB b.nm = true := by simpa using h
    rw [hnm, if_neg (by decide)] at hbd
    refine AW.skip ?_
    refine AW.seq ?_
    refine AW.seq ?_
    refine AW.region ?_   -- "ref.go:41"
    refine AOps.run tok 1 _ _ _ _ rfl ?_
    refine AOps.nil ?_
    refine AW.block ?_   -- block 2
    refine AW.loopS [1, 3, 4] (fun k : Nat => [(1, .bx [dS ln, BodiesD bs, JointsD js, DriversD ds]), (3, .d (dI i)), (4, .d (dI k))])
      (fun k => k ≤ i ∧ dupB bs i = anyF (fun k => decide ((bs.getD k default).nm = b.nm)) (i - k) k) (fun k => i - k) 0 rfl ⟨Nat.zero_le _, hdup⟩ (fun k ⟨hk, hD⟩ => ?_)
    refine AW.seq ?_
    refine AW.seq ?_
    refine AW.region ?_   -- "ref.go:41"
    refine AOps.run tok 3 _ _ _ _ rfl ?_
    refine AOps.nil ?_
    refine AW.cond rfl (fun h => ?_) (fun h => ?_)
    · have hki : k < i := by have := of_decide_eq_true h; omega
      refine AW.skip ?_
      refine AW.seq ?_
      refine AW.block ?_   -- block 3
      refine AW.seq ?_
      refine AW.draw hmix 13 (by kernel_rfl) ?_   -- "ref.go:42"
      refine APre.run tok 3 _ _ _ _ rfl ?_
      refine APre.idx tok (bs.getD k default).D rfl rfl rfl rfl rfl (Int.natCast_nonneg k) (getM Body.D (by omega)) ?_
      refine APre.run tok 5 _ _ _ _ rfl ?_
      refine APre.idx tok b.D rfl rfl rfl rfl rfl (Int.natCast_nonneg i) (by rw [hbe]; exact getM Body.D hin) ?_
      refine APre.run tok 3 _ _ _ _ rfl ?_
      rw [str_eq]
      refine APre.nil ?_
      refine AOps.nil ?_
      refine AW.cond rfl (fun h => ?_) (fun h => ?_)
      · have h6 : bodyE bs i = 6 := by rw [hbd, hD.trans (anyF_hit hki h)]; rfl
        rw [show E = 6 by rw [hbE (by omega), h6]]
        refine AW.seq ?_
        refine AW.region ?_   -- "ref.go:43"
        refine AOps.run tok 1 _ _ _ _ rfl ?_
        refine AOps.nil ?_
        exact AW.ret rfl
      · refine AW.skip ?_
        refine AW.region ?_   -- "ref.go:41"
        refine AOps.run tok 3 _ _ _ _ rfl ?_
        rw [wI64 (x := (k : Int) + 1) (by omega) (by omega)]
        refine AOps.nil ?_
        exact ⟨k + 1, rfl, ⟨hki, hD.trans (anyF_miss hki h)⟩, by omega⟩
    · have hki : ¬ k < i := by have := of_decide_eq_false h; omega
      rw [hD.trans (anyF_end hki), if_neg (by decide)] at hbd
      refine AW.exit ?_
      refine AW.seq ?_
      refine AW.region ?_   -- "ref.go:46"
      refine AOps.run tok 3 _ _ _ _ rfl ?_
      refine AOps.idx tok b.D rfl rfl rfl rfl (Int.natCast_nonneg i) (by rw [hbe]; exact getM Body.D hin) ?_
      refine AOps.run tok 1 _ _ _ _ rfl ?_
      refine AOps.call tok rfl rfl rfl rfl (r19_points_ok b hbi hK) ?_
      refine AOps.run tok 1 _ _ _ _ rfl ?_
      refine AOps.nil ?_
      refine AW.seq ?_
      refine AW.region ?_   -- "ref.go:46"
      refine AOps.run tok 2 _ _ _ _ rfl ?_
      refine AOps.nil ?_
      refine AW.cond rfl (fun h => ?_) (fun h => ?_)
      · have h0 : ptsE b.pts ≠ 0 := by rintro e; rw [e] at h; cases h
        rw [show E = ptsE b.pts by rw [hbE (by rw [hbd]; exact h0), hbd]]
        refine AW.seq ?_
        refine AW.region ?_   -- "ref.go:47"
        refine AOps.run tok 2 _ _ _ _ rfl ?_
        refine AOps.nil ?_
        exact AW.ret rfl
      · have h0 : ptsE b.pts = 0 := by
          have : ((ptsE b.pts : Nat) : Int) = 0 := by simpa using h
          omega
        refine AW.skip ?_
        refine AW.region ?_   -- "ref.go:37"
        refine AOps.run tok 3 _ _ _ _ rfl ?_
        rw [wI64 (x := (i : Int) + 1) (by omega) (by omega)]
        refine AOps.nil ?_
        exact ⟨i + 1, rfl, ⟨hin, hbM (by rw [hbd]; exact h0)⟩, by omega⟩
  · have hin : ¬ i < bs.length := by have := of_decide_eq_false h; omega
    rw [hE, fE_end hin]
    refine AW.exit ?_
    refine AW.seq ?_
    refine AW.region ?_   -- "ref.go:50"
    refine AOps.run tok 1 _ _ _ _ rfl ?_
    refine AOps.nil ?_
    exact AW.ret rfl

theorem r19_same_ok (p q : Mark) {K : Nat} (hp : p.ok K) (hq : q.ok K) (hK : K ≤ 5000000) : Pure Tryz.prog 67 [p.D, q.D] (dB (sameM p q)) := by
  refine Pure.intro (n := 19) tok Tryz.func67 rfl rfl rfl (Nat.le_of_ble_eq_true rfl) (by kernel_rfl) (fun B F0 w0 => ?_)
  refine AW.seq ?_
  refine AW.region ?_   -- "ref.go:54"
  refine AOps.run tok 3 _ _ _ _ rfl ?_
  refine AOps.nil ?_
  refine AW.seq ?_
  refine AW.region ?_   -- "ref.go:55"   -- GUARDS
  refine AOps.run tok 4 _ _ _ _ rfl ?_
  refine AOps.call tok rfl rfl rfl rfl (r02_Cmp_ok p.x q.x hp.2.1 hq.2.1 hK) ?_
  refine AOps.run tok 1 _ _ _ _ rfl ?_
  rw [cmpQ_zero]
  refine AOps.split (t := 10) rfl (fun h => ?_) (fun h => ?_)
  · have h1 := of_decide_eq_true h
    refine AOps.run tok 5 _ _ _ _ rfl ?_
    refine AOps.call tok rfl rfl rfl rfl (r02_Cmp_ok p.y q.y hp.2.2 hq.2.2 hK) ?_   -- guarded
    refine AOps.run tok 3 _ _ _ _ rfl ?_
    rw [cmpQ_zero]
    refine AOps.nil ?_
    rw [show sameM p q = decide (p.y.val = q.y.val) by unfold sameM; simp [h1]]
    exact AW.ret rfl
  · have h1 := of_decide_eq_false h
    refine AOps.run tok 9 _ _ _ _ rfl ?_
    refine AOps.nil ?_
    rw [show sameM p q = false by unfold sameM; simp [h1]]
    exact AW.ret rfl

end Lift
/- The reference's check: joints, drivers, the whole. -/
namespace Lift
open Go Go.Proofs

set_option maxHeartbeats 1600000 in
theorem r19_joint_ok (l : Lkg) (i : Nat) {K : Nat} (hl : l.ok K) (hK : K ≤ 5000000) (hin : i < l.joints.length) : Pure Tryz.prog 49 [l.D, dI i] (dI (jointE l.bodies l.joints i : Nat)) := by
  refine Pure.intro (n := 112) tok Tryz.func49 rfl rfl rfl (Nat.le_of_ble_eq_true rfl) (by kernel_rfl) (fun B F0 w0 => ?_)
  obtain ⟨ln, bs, js, ds⟩ := l
  have hb := hl.b
  have jok := hl.j i
  have hn := hl.nj
  simp only [] at hb jok hn hin ⊢
  unfold big at jok hn
  show AW _ _ _ _ _ _ _ (initSt 0 [D.ag [dS ln, BodiesD bs, JointsD js, DriversD ds], dI i])
  obtain ⟨j, hje⟩ : ∃ j, j = js.getD i default := ⟨_, rfl⟩
  rw [← hje] at jok
  have hdup : dupJ js i = anyF (fun k => decide ((js.getD k default).nm = j.nm)) i 0 := by rw [hje]; rfl
  have hbd : jointE bs js i = if nameB j.nm = false then 5 else if dupJ js i = true then 6 else jE bs j := by rw [hje]; rfl
  generalize jointE bs js i = E at *
  refine AW.seq ?_
  refine AW.region ?_   -- "ref.go:59"
  refine AOps.run tok 2 _ _ _ _ rfl ?_
  refine AOps.nil ?_
  refine AW.seq ?_
  refine AW.region ?_   -- "ref.go:60"
  refine AOps.run tok 3 _ _ _ _ rfl ?_
  refine AOps.idx tok j.D rfl rfl rfl rfl (Int.natCast_nonneg i) (by rw [hje]; exact getM Joint.D hin) ?_
  refine AOps.run tok 3 _ _ _ _ rfl ?_
  refine AOps.nil ?_
  obtain ⟨nm, kind, a, pt, b, on, to⟩ := j
  simp only [] at jok hdup hbd
  have hj : jE bs ⟨nm, kind, a, pt, b, on, to⟩ = if kind ≠ 0 ∧ kind ≠ 1 then 7 else if (inB a bs.length && inB b bs.length) = false then 9 else if a = b then 13 else
    if (inB pt (bs.getD a.toNat default).pts.length && inB on (bs.getD b.toNat default).pts.length) = false then 9 else
    if kind = 0 then (if to = 0 then 0 else 2) else if inB to (bs.getD b.toNat default).pts.length = false then 9 else
    if sameM ((bs.getD b.toNat default).pts.getD on.toNat default) ((bs.getD b.toNat default).pts.getD to.toNat default) = true then 8 else 0 := rfl
  generalize jE bs ⟨nm, kind, a, pt, b, on, to⟩ = E2 at *
  refine AW.seq ?_
  refine AW.seq ?_
  refine AW.region ?_   -- "ref.go:61"
  refine AOps.run tok 2 _ _ _ _ rfl ?_
  refine AOps.call tok rfl rfl rfl rfl (r18_Name_ok nm jok) ?_
  refine AOps.run tok 1 _ _ _ _ rfl ?_
  refine AOps.nil ?_
  refine AW.cond rfl (fun h => ?_) (fun h => ?_)
  · rw [if_pos (not_t h)] at hbd
    rw [hbd]
    refine AW.seq ?_
    refine AW.region ?_   -- "ref.go:62"
    refine AOps.run tok 1 _ _ _ _ rfl ?_
    refine AOps.nil ?_
    exact AW.ret rfl
  rw [if_neg (by simpa using h)] at hbd
  refine AW.skip ?_
  refine AW.seq ?_
  refine AW.seq ?_
  refine AW.region ?_   -- "ref.go:64"
  refine AOps.run tok 1 _ _ _ _ rfl ?_
  refine AOps.nil ?_
  refine AW.block ?_   -- block 0
  refine AW.loopS [1, 2, 5, 6] (fun k : Nat => [(1, .d (dI i)), (2, .bx [dS ln, BodiesD bs, JointsD js, DriversD ds]), (5, .bx [dS nm, dI kind, dI a, dI pt, dI b, dI on, dI to]), (6, .d (dI k))])
    (fun k => k ≤ i ∧ dupJ js i = anyF (fun k => decide ((js.getD k default).nm = nm)) (i - k) k) (fun k => i - k) 0 rfl ⟨Nat.zero_le _, hdup⟩ (fun k ⟨hk, hD⟩ => ?_)
  refine AW.seq ?_
  refine AW.seq ?_
  refine AW.region ?_   -- "ref.go:64"
  refine AOps.run tok 3 _ _ _ _ rfl ?_
  refine AOps.nil ?_
  refine AW.cond rfl (fun h => ?_) (fun h => ?_)
  · have hki : k < i := by have := of_decide_eq_true h; omega
    refine AW.skip ?_
    refine AW.seq ?_
    refine AW.block ?_   -- block 1
    refine AW.seq ?_
    refine AW.draw hmix 9 (by kernel_rfl) ?_   -- "ref.go:65"
    refine APre.run tok 3 _ _ _ _ rfl ?_
    refine APre.idx tok (js.getD k default).D rfl rfl rfl rfl rfl (Int.natCast_nonneg k) (getM Joint.D (by omega)) ?_
    refine APre.run tok 5 _ _ _ _ rfl ?_
    rw [str_eq]
    refine APre.nil ?_
    refine AOps.nil ?_
    refine AW.cond rfl (fun h => ?_) (fun h => ?_)
    · rw [hD.trans (anyF_hit hki h)] at hbd
      rw [show E = 6 from hbd]
      refine AW.seq ?_
      refine AW.region ?_   -- "ref.go:66"
      refine AOps.run tok 1 _ _ _ _ rfl ?_
      refine AOps.nil ?_
      exact AW.ret rfl
    · refine AW.skip ?_
      refine AW.region ?_   -- "ref.go:64"
      refine AOps.run tok 3 _ _ _ _ rfl ?_
      rw [wI64 (x := (k : Int) + 1) (by omega) (by omega)]
      refine AOps.nil ?_
      exact ⟨k + 1, rfl, ⟨hki, hD.trans (anyF_miss hki h)⟩, by omega⟩
  have hki : ¬ k < i := by have := of_decide_eq_false h; omega
  rw [hD.trans (anyF_end hki), if_neg (by decide)] at hbd
  rw [hbd]
  clear hbd
  refine AW.exit ?_
  refine AW.seq ?_
  refine AW.cut [2, 5, 39] (fun _ : Unit => [(2, .bx [dS ln, BodiesD bs, JointsD js, DriversD ds]), (5, .bx [dS nm, dI kind, dI a, dI pt, dI b, dI on, dI to]), (39, .d (dB (decide (kind ≠ 0 ∧ kind ≠ 1))))]) (fun _ => True) ?_ (fun _ _ => ?_)
  · refine AW.region ?_   -- "ref.go:69"   -- GUARDS
    refine AOps.run tok 3 _ _ _ _ rfl ?_
    refine AOps.split (t := 34) rfl (fun h => ?_) (fun h => ?_)
    · have h1 : kind ≠ 0 := by simpa using h
      refine AOps.run tok 5 _ _ _ _ rfl ?_
      refine AOps.nil ?_
      exact ⟨(), by rw [show decide (kind ≠ 0 ∧ kind ≠ 1) = (kind != 1) by rw [Bool.eq_iff_iff]; simp [h1]]; rfl, trivial⟩
    · have h1 : kind = 0 := by simpa using h
      refine AOps.run tok 5 _ _ _ _ rfl ?_
      refine AOps.nil ?_
      exact ⟨(), by rw [show decide (kind ≠ 0 ∧ kind ≠ 1) = false by simp [h1]]; rfl, trivial⟩
  refine AW.cond rfl (fun h => ?_) (fun h => ?_)
  · rw [if_pos (of_decide_eq_true h)] at hj
    rw [hj]
    refine AW.seq ?_
    refine AW.region ?_   -- "ref.go:70"
    refine AOps.run tok 1 _ _ _ _ rfl ?_
    refine AOps.nil ?_
    exact AW.ret rfl
  rw [if_neg (of_decide_eq_false h)] at hj
  refine AW.skip ?_
  refine AW.seq ?_
  refine AW.cut [2, 5, 55] (fun _ : Unit => [(2, .bx [dS ln, BodiesD bs, JointsD js, DriversD ds]), (5, .bx [dS nm, dI kind, dI a, dI pt, dI b, dI on, dI to]), (55, .d (dB (!(inB a bs.length && inB b bs.length))))]) (fun _ => True) ?_ (fun _ _ => ?_)
  · refine AW.region ?_   -- "ref.go:72"   -- GUARDS
    refine AOps.run tok 5 _ _ _ _ rfl ?_
    rw [List.length_map]
    refine AOps.call tok rfl rfl rfl rfl (r19_index_ok a bs.length) ?_
    refine AOps.split (t := 45) rfl (fun h => ?_) (fun h => ?_)
    · refine AOps.run tok 7 _ _ _ _ rfl ?_
      rw [List.length_map]
      refine AOps.call tok rfl rfl rfl rfl (r19_index_ok b bs.length) ?_   -- guarded
      refine AOps.run tok 2 _ _ _ _ rfl ?_
      refine AOps.nil ?_
      exact ⟨(), by rw [h]; rfl, trivial⟩
    · refine AOps.run tok 10 _ _ _ _ rfl ?_
      refine AOps.nil ?_
      exact ⟨(), by rw [h]; rfl, trivial⟩
  refine AW.cond rfl (fun h => ?_) (fun h => ?_)
  · rw [if_pos (not_t h)] at hj
    rw [hj]
    refine AW.seq ?_
    refine AW.region ?_   -- "ref.go:73"
    refine AOps.run tok 1 _ _ _ _ rfl ?_
    refine AOps.nil ?_
    exact AW.ret rfl
  have hab : inB a bs.length = true ∧ inB b bs.length = true := by simpa using h
  rw [if_neg (by simp [hab])] at hj
  obtain ⟨ha0, ha1⟩ := inB_t hab.1
  obtain ⟨hb0, hb1⟩ := inB_t hab.2
  obtain ⟨Bb, hBb⟩ : ∃ x, x = bs.getD b.toNat default := ⟨_, rfl⟩
  obtain ⟨Ba, hBa⟩ : ∃ x, x = bs.getD a.toNat default := ⟨_, rfl⟩
  have okb := hb b.toNat
  rw [← hBb] at hj okb
  rw [← hBa] at hj
  refine AW.skip ?_
  refine AW.seq ?_
  refine AW.seq ?_
  refine AW.region ?_   -- "ref.go:75"
  refine AOps.run tok 5 _ _ _ _ rfl ?_
  refine AOps.nil ?_
  refine AW.cond rfl (fun h => ?_) (fun h => ?_)
  · rw [if_pos (by simpa using h)] at hj
    rw [hj]
    refine AW.seq ?_
    refine AW.region ?_   -- "ref.go:76"
    refine AOps.run tok 1 _ _ _ _ rfl ?_
    refine AOps.nil ?_
    exact AW.ret rfl
  rw [if_neg (by simpa using h)] at hj
  refine AW.skip ?_
  refine AW.seq ?_
  refine AW.draw hmix 15 (by kernel_rfl) ?_   -- "ref.go:78"
  refine APre.run tok 4 _ _ _ _ rfl ?_
  refine APre.idx tok Ba.D rfl rfl rfl rfl rfl ha0 (by rw [hBa]; exact getM Body.D ha1) ?_
  refine APre.run tok 6 _ _ _ _ rfl ?_
  refine APre.idx tok Bb.D rfl rfl rfl rfl rfl hb0 (by rw [hBb]; exact getM Body.D hb1) ?_
  refine APre.run tok 3 _ _ _ _ rfl ?_
  refine APre.nil ?_
  refine AOps.run tok 1 _ _ _ _ rfl ?_
  refine AOps.nil ?_
  refine AW.seq ?_
  refine AW.cut [5, 8, 88] (fun _ : Unit => [(5, .bx [dS nm, dI kind, dI a, dI pt, dI b, dI on, dI to]), (8, .d (PtsD Bb.pts)), (88, .d (dB (!(inB pt Ba.pts.length && inB on Bb.pts.length))))]) (fun _ => True) ?_ (fun _ _ => ?_)
  · refine AW.region ?_   -- "ref.go:79"   -- GUARDS
    refine AOps.run tok 4 _ _ _ _ rfl ?_
    rw [List.length_map]
    refine AOps.call tok rfl rfl rfl rfl (r19_index_ok pt Ba.pts.length) ?_
    refine AOps.split (t := 79) rfl (fun h => ?_) (fun h => ?_)
    · refine AOps.run tok 6 _ _ _ _ rfl ?_
      rw [List.length_map]
      refine AOps.call tok rfl rfl rfl rfl (r19_index_ok on Bb.pts.length) ?_   -- guarded
      refine AOps.run tok 2 _ _ _ _ rfl ?_
      refine AOps.nil ?_
      exact ⟨(), by rw [h]; rfl, trivial⟩
    · refine AOps.run tok 9 _ _ _ _ rfl ?_
      refine AOps.nil ?_
      exact ⟨(), by rw [h]; rfl, trivial⟩
  refine AW.cond rfl (fun h => ?_) (fun h => ?_)
  · rw [if_pos (not_t h)] at hj
    rw [hj]
    refine AW.seq ?_
    refine AW.region ?_   -- "ref.go:80"
    refine AOps.run tok 1 _ _ _ _ rfl ?_
    refine AOps.nil ?_
    exact AW.ret rfl
  have hpo : inB pt Ba.pts.length = true ∧ inB on Bb.pts.length = true := by simpa using h
  rw [if_neg (by simp [hpo])] at hj
  obtain ⟨ho0, ho1⟩ := inB_t hpo.2
  refine AW.skip ?_
  refine AW.seq ?_
  refine AW.seq ?_
  refine AW.region ?_   -- "ref.go:82"
  refine AOps.run tok 3 _ _ _ _ rfl ?_
  refine AOps.nil ?_
  refine AW.cond rfl (fun h => ?_) (fun h => ?_)
  · rw [if_pos (by simpa using h)] at hj
    refine AW.seq ?_
    refine AW.seq ?_
    refine AW.region ?_   -- "ref.go:83"
    refine AOps.run tok 3 _ _ _ _ rfl ?_
    refine AOps.nil ?_
    refine AW.cond rfl (fun h => ?_) (fun h => ?_)
    · rw [if_neg (by simpa using h)] at hj
      rw [hj]
      refine AW.seq ?_
      refine AW.region ?_   -- "ref.go:84"
      refine AOps.run tok 1 _ _ _ _ rfl ?_
      refine AOps.nil ?_
      exact AW.ret rfl
    · rw [if_pos (by simpa using h)] at hj
      rw [hj]
      refine AW.skip ?_
      refine AW.seq ?_
      refine AW.region ?_   -- "ref.go:86"
      refine AOps.run tok 1 _ _ _ _ rfl ?_
      refine AOps.nil ?_
      exact AW.ret rfl
  rw [if_neg (by simpa using h)] at hj
  refine AW.skip ?_
  refine AW.seq ?_
  refine AW.seq ?_
  refine AW.region ?_   -- "ref.go:88"
  refine AOps.run tok 4 _ _ _ _ rfl ?_
  rw [List.length_map]
  refine AOps.call tok rfl rfl rfl rfl (r19_index_ok to Bb.pts.length) ?_
  refine AOps.run tok 1 _ _ _ _ rfl ?_
  refine AOps.nil ?_
  refine AW.cond rfl (fun h => ?_) (fun h => ?_)
  · rw [if_pos (not_t h)] at hj
    rw [hj]
    refine AW.seq ?_
    refine AW.region ?_   -- "ref.go:89"
    refine AOps.run tok 1 _ _ _ _ rfl ?_
    refine AOps.nil ?_
    exact AW.ret rfl
  have hto : inB to Bb.pts.length = true := by simpa using h
  rw [if_neg (by simp [hto])] at hj
  obtain ⟨ht0, ht1⟩ := inB_t hto
  obtain ⟨p, hp⟩ : ∃ x, x = Bb.pts.getD on.toNat default := ⟨_, rfl⟩
  obtain ⟨q, hq⟩ : ∃ x, x = Bb.pts.getD to.toNat default := ⟨_, rfl⟩
  have okp := okb.2.2 on.toNat
  have okq := okb.2.2 to.toNat
  rw [← hp] at hj okp
  rw [← hq] at hj okq
  refine AW.skip ?_
  refine AW.seq ?_
  refine AW.seq ?_
  refine AW.draw hmix 11 (by kernel_rfl) ?_   -- "ref.go:91"
  refine APre.run tok 3 _ _ _ _ rfl ?_
  refine APre.idx tok p.D rfl rfl rfl rfl rfl ho0 (by rw [hp]; exact getM Mark.D ho1) ?_
  refine APre.run tok 4 _ _ _ _ rfl ?_
  refine APre.idx tok q.D rfl rfl rfl rfl rfl ht0 (by rw [hq]; exact getM Mark.D ht1) ?_
  refine APre.run tok 1 _ _ _ _ rfl ?_
  refine APre.call tok rfl rfl rfl rfl rfl (r19_same_ok p q okp okq hK) ?_
  refine APre.nil ?_
  refine AOps.nil ?_
  refine AW.cond rfl (fun h => ?_) (fun h => ?_)
  · rw [if_pos h] at hj
    rw [hj]
    refine AW.seq ?_
    refine AW.region ?_   -- "ref.go:92"
    refine AOps.run tok 1 _ _ _ _ rfl ?_
    refine AOps.nil ?_
    exact AW.ret rfl
  · rw [if_neg (by rw [h]; decide)] at hj
    rw [hj]
    refine AW.skip ?_
    refine AW.seq ?_
    refine AW.region ?_   -- "ref.go:94"
    refine AOps.run tok 1 _ _ _ _ rfl ?_
    refine AOps.nil ?_
    exact AW.ret rfl

set_option maxHeartbeats 1600000 in
theorem r19_driver_ok (l : Lkg) (i : Nat) {K : Nat} (hl : l.ok K) (hin : i < l.drivers.length) : Pure Tryz.prog 50 [l.D, dI i] (dI (driverE l.bodies.length l.drivers i : Nat)) := by
  refine Pure.intro (n := 55) tok Tryz.func50 rfl rfl rfl (Nat.le_of_ble_eq_true rfl) (by kernel_rfl) (fun B F0 w0 => ?_)
  obtain ⟨ln, bs, js, ds⟩ := l
  have dok := hl.d i
  have hn := hl.nd
  simp only [] at dok hn hin ⊢
  unfold big at dok hn
  show AW _ _ _ _ _ _ _ (initSt 0 [D.ag [dS ln, BodiesD bs, JointsD js, DriversD ds], dI i])
  obtain ⟨d, hde⟩ : ∃ d, d = ds.getD i default := ⟨_, rfl⟩
  rw [← hde] at dok
  have hdup : dupD ds i = anyF (fun k => decide ((ds.getD k default).nm = d.nm)) i 0 := by rw [hde]; rfl
  have hdup2 : dupT ds i = anyF (fun k => decide ((ds.getD k default).body = d.body)) i 0 := by rw [hde]; rfl
  have hbd : driverE bs.length ds i = if nameB d.nm = false then 5 else if dupD ds i = true then 6 else if inB d.body bs.length = false then 9 else if d.body = 0 then 7 else if dupT ds i = true then 6 else 0 := by rw [hde]; rfl
  generalize driverE bs.length ds i = E at *
  refine AW.seq ?_
  refine AW.region ?_   -- "ref.go:98"
  refine AOps.run tok 2 _ _ _ _ rfl ?_
  refine AOps.nil ?_
  refine AW.seq ?_
  refine AW.region ?_   -- "ref.go:99"
  refine AOps.run tok 3 _ _ _ _ rfl ?_
  refine AOps.idx tok d.D rfl rfl rfl rfl (Int.natCast_nonneg i) (by rw [hde]; exact getM Driver.D hin) ?_
  refine AOps.run tok 3 _ _ _ _ rfl ?_
  refine AOps.nil ?_
  refine AW.seq ?_
  refine AW.seq ?_
  refine AW.region ?_   -- "ref.go:100"
  refine AOps.run tok 2 _ _ _ _ rfl ?_
  refine AOps.call tok rfl rfl rfl rfl (r18_Name_ok d.nm dok) ?_
  refine AOps.run tok 1 _ _ _ _ rfl ?_
  refine AOps.nil ?_
  refine AW.cond rfl (fun h => ?_) (fun h => ?_)
  · rw [if_pos (not_t h)] at hbd
    rw [hbd]
    refine AW.seq ?_
    refine AW.region ?_   -- "ref.go:101"
    refine AOps.run tok 1 _ _ _ _ rfl ?_
    refine AOps.nil ?_
    exact AW.ret rfl
  rw [if_neg (by simpa using h)] at hbd
  refine AW.skip ?_
  refine AW.seq ?_
  refine AW.seq ?_
  refine AW.region ?_   -- "ref.go:103"
  refine AOps.run tok 1 _ _ _ _ rfl ?_
  refine AOps.nil ?_
  refine AW.block ?_   -- block 0
  refine AW.loopS [1, 2, 5, 6] (fun k : Nat => [(1, .d (dI i)), (2, .bx [dS ln, BodiesD bs, JointsD js, DriversD ds]), (5, .bx [dS d.nm, dI d.body]), (6, .d (dI k))])
    (fun k => k ≤ i ∧ dupD ds i = anyF (fun k => decide ((ds.getD k default).nm = d.nm)) (i - k) k) (fun k => i - k) 0 rfl ⟨Nat.zero_le _, hdup⟩ (fun k ⟨hk, hD⟩ => ?_)
  refine AW.seq ?_
  refine AW.seq ?_
  refine AW.region ?_   -- "ref.go:103"
  refine AOps.run tok 3 _ _ _ _ rfl ?_
  refine AOps.nil ?_
  refine AW.cond rfl (fun h => ?_) (fun h => ?_)
  · have hki : k < i := by have := of_decide_eq_true h; omega
    refine AW.skip ?_
    refine AW.seq ?_
    refine AW.block ?_   -- block 1
    refine AW.seq ?_
    refine AW.draw hmix 9 (by kernel_rfl) ?_   -- "ref.go:104"
    refine APre.run tok 3 _ _ _ _ rfl ?_
    refine APre.idx tok (ds.getD k default).D rfl rfl rfl rfl rfl (Int.natCast_nonneg k) (getM Driver.D (by omega)) ?_
    refine APre.run tok 5 _ _ _ _ rfl ?_
    rw [str_eq]
    refine APre.nil ?_
    refine AOps.nil ?_
    refine AW.cond rfl (fun h => ?_) (fun h => ?_)
    · rw [hD.trans (anyF_hit hki h)] at hbd
      rw [show E = 6 from hbd]
      refine AW.seq ?_
      refine AW.region ?_   -- "ref.go:105"
      refine AOps.run tok 1 _ _ _ _ rfl ?_
      refine AOps.nil ?_
      exact AW.ret rfl
    · refine AW.skip ?_
      refine AW.region ?_   -- "ref.go:103"
      refine AOps.run tok 3 _ _ _ _ rfl ?_
      rw [wI64 (x := (k : Int) + 1) (by omega) (by omega)]
      refine AOps.nil ?_
      exact ⟨k + 1, rfl, ⟨hki, hD.trans (anyF_miss hki h)⟩, by omega⟩
  have hki : ¬ k < i := by have := of_decide_eq_false h; omega
  rw [hD.trans (anyF_end hki), if_neg (by decide)] at hbd
  refine AW.exit ?_
  refine AW.seq ?_
  refine AW.seq ?_
  refine AW.region ?_   -- "ref.go:108"
  refine AOps.run tok 5 _ _ _ _ rfl ?_
  rw [List.length_map]
  refine AOps.call tok rfl rfl rfl rfl (r19_index_ok d.body bs.length) ?_
  refine AOps.run tok 1 _ _ _ _ rfl ?_
  refine AOps.nil ?_
  refine AW.cond rfl (fun h => ?_) (fun h => ?_)
  · rw [if_pos (not_t h)] at hbd
    rw [hbd]
    refine AW.seq ?_
    refine AW.region ?_   -- "ref.go:109"
    refine AOps.run tok 1 _ _ _ _ rfl ?_
    refine AOps.nil ?_
    exact AW.ret rfl
  have hinb : inB d.body bs.length = true := by simpa using h
  rw [if_neg (by simp [hinb])] at hbd
  refine AW.skip ?_
  refine AW.seq ?_
  refine AW.seq ?_
  refine AW.region ?_   -- "ref.go:111"
  refine AOps.run tok 3 _ _ _ _ rfl ?_
  refine AOps.nil ?_
  refine AW.cond rfl (fun h => ?_) (fun h => ?_)
  · rw [if_pos (by simpa using h)] at hbd
    rw [hbd]
    refine AW.seq ?_
    refine AW.region ?_   -- "ref.go:112"
    refine AOps.run tok 1 _ _ _ _ rfl ?_
    refine AOps.nil ?_
    exact AW.ret rfl
  rw [if_neg (by simpa using h)] at hbd
  refine AW.skip ?_
  refine AW.seq ?_
  refine AW.seq ?_
  refine AW.region ?_   -- "ref.go:114"
  refine AOps.run tok 1 _ _ _ _ rfl ?_
  refine AOps.nil ?_
  refine AW.block ?_   -- block 2
  refine AW.loopS [1, 2, 5, 7] (fun k : Nat => [(1, .d (dI i)), (2, .bx [dS ln, BodiesD bs, JointsD js, DriversD ds]), (5, .bx [dS d.nm, dI d.body]), (7, .d (dI k))])
    (fun k => k ≤ i ∧ dupT ds i = anyF (fun k => decide ((ds.getD k default).body = d.body)) (i - k) k) (fun k => i - k) 0 rfl ⟨Nat.zero_le _, hdup2⟩ (fun k ⟨hk, hD⟩ => ?_)
  refine AW.seq ?_
  refine AW.seq ?_
  refine AW.region ?_   -- "ref.go:114"
  refine AOps.run tok 3 _ _ _ _ rfl ?_
  refine AOps.nil ?_
  refine AW.cond rfl (fun h => ?_) (fun h => ?_)
  · have hki : k < i := by have := of_decide_eq_true h; omega
    refine AW.skip ?_
    refine AW.seq ?_
    refine AW.block ?_   -- block 3
    refine AW.seq ?_
    refine AW.draw hmix 9 (by kernel_rfl) ?_   -- "ref.go:115"
    refine APre.run tok 3 _ _ _ _ rfl ?_
    refine APre.idx tok (ds.getD k default).D rfl rfl rfl rfl rfl (Int.natCast_nonneg k) (getM Driver.D (by omega)) ?_
    refine APre.run tok 5 _ _ _ _ rfl ?_
    refine APre.nil ?_
    refine AOps.nil ?_
    refine AW.cond rfl (fun h => ?_) (fun h => ?_)
    · have h' : decide ((ds.getD k default).body = d.body) = true := by simpa using h
      rw [hD.trans (anyF_hit hki h')] at hbd
      rw [show E = 6 from hbd]
      refine AW.seq ?_
      refine AW.region ?_   -- "ref.go:116"
      refine AOps.run tok 1 _ _ _ _ rfl ?_
      refine AOps.nil ?_
      exact AW.ret rfl
    · have h' : decide ((ds.getD k default).body = d.body) = false := by simpa using h
      refine AW.skip ?_
      refine AW.region ?_   -- "ref.go:114"
      refine AOps.run tok 3 _ _ _ _ rfl ?_
      rw [wI64 (x := (k : Int) + 1) (by omega) (by omega)]
      refine AOps.nil ?_
      exact ⟨k + 1, rfl, ⟨hki, hD.trans (anyF_miss hki h')⟩, by omega⟩
  have hki : ¬ k < i := by have := of_decide_eq_false h; omega
  rw [hD.trans (anyF_end hki), if_neg (by decide)] at hbd
  rw [hbd]
  refine AW.exit ?_
  refine AW.seq ?_
  refine AW.region ?_   -- "ref.go:119"
  refine AOps.run tok 1 _ _ _ _ rfl ?_
  refine AOps.nil ?_
  exact AW.ret rfl

theorem ne0_of {n : Nat} (h : (((n : Nat) : Int) != 0) = true) : n ≠ 0 := by rintro rfl; cases h
theorem eq0_of {n : Nat} (h : (((n : Nat) : Int) != 0) = false) : n = 0 := by
  have : ((n : Nat) : Int) = 0 := by simpa using h
  omega

set_option maxHeartbeats 1600000 in
theorem r19_Check_ok (l : Lkg) {K : Nat} (hl : l.ok K) (hK : K ≤ 5000000) : Pure Tryz.prog 30 [l.D] (dI (chk l : Nat)) := by
  refine Pure.intro (n := 59) tok Tryz.func30 rfl rfl rfl (Nat.le_of_ble_eq_true rfl) (by kernel_rfl) (fun B F0 w0 => ?_)
  have c1 := r19_bodies_ok l hl (by omega)
  have c2 := fun i => r19_joint_ok l i hl hK
  have c3 := fun i => r19_driver_ok l i hl
  have hcd : chk l = if nameB l.nm = false then 5 else if l.bodies = [] then 10 else if 8 < l.bodies.length then 4 else
    if bodiesE l.bodies ≠ 0 then bodiesE l.bodies else if jointsE l.bodies l.joints ≠ 0 then jointsE l.bodies l.joints else driversE l.bodies.length l.drivers := rfl
  generalize chk l = E at *
  obtain ⟨ln, bs, js, ds⟩ := l
  have hnm := hl.nm
  have hnb := hl.nb
  have hnj := hl.nj
  have hnd := hl.nd
  simp only [] at hcd c1 c2 c3 hnm hnb hnj hnd ⊢
  unfold big at hnm hnb hnj hnd
  show AW _ _ _ _ _ _ _ (initSt 0 [D.ag [dS ln, BodiesD bs, JointsD js, DriversD ds]])
  refine AW.seq ?_
  refine AW.region ?_   -- "ref.go:123"
  refine AOps.run tok 2 _ _ _ _ rfl ?_
  refine AOps.nil ?_
  refine AW.seq ?_
  refine AW.seq ?_
  refine AW.region ?_   -- "ref.go:124"
  refine AOps.run tok 2 _ _ _ _ rfl ?_
  refine AOps.call tok rfl rfl rfl rfl (r18_Name_ok ln hnm) ?_
  refine AOps.run tok 1 _ _ _ _ rfl ?_
  refine AOps.nil ?_
  refine AW.cond rfl (fun h => ?_) (fun h => ?_)
  · rw [if_pos (not_t h)] at hcd
    rw [hcd]
    refine AW.seq ?_
    refine AW.region ?_   -- "ref.go:125"
    refine AOps.run tok 1 _ _ _ _ rfl ?_
    refine AOps.nil ?_
    exact AW.ret rfl
  rw [if_neg (by simpa using h)] at hcd
  refine AW.skip ?_
  refine AW.seq ?_
  refine AW.seq ?_
  refine AW.region ?_   -- "ref.go:127"
  refine AOps.run tok 4 _ _ _ _ rfl ?_
  rw [List.length_map]
  refine AOps.nil ?_
  refine AW.cond rfl (fun h => ?_) (fun h => ?_)
  · have h0 : bs = [] := List.length_eq_zero_iff.1 (by have : (bs.length : Int) = 0 := by simpa using h
                                                       omega)
    rw [if_pos h0] at hcd
    rw [hcd]
    refine AW.seq ?_
    refine AW.region ?_   -- "ref.go:128"
    refine AOps.run tok 1 _ _ _ _ rfl ?_
    refine AOps.nil ?_
    exact AW.ret rfl
  have h0 : bs ≠ [] := by rintro rfl; simp at h
  rw [if_neg h0] at hcd
  refine AW.skip ?_
  refine AW.seq ?_
  refine AW.seq ?_
  refine AW.region ?_   -- "ref.go:130"
  refine AOps.run tok 4 _ _ _ _ rfl ?_
  rw [List.length_map]
  refine AOps.nil ?_
  refine AW.cond rfl (fun h => ?_) (fun h => ?_)
  · have h8 : 8 < bs.length := by have := of_decide_eq_true h; omega
    rw [if_pos h8] at hcd
    rw [hcd]
    refine AW.seq ?_
    refine AW.region ?_   -- "ref.go:131"
    refine AOps.run tok 1 _ _ _ _ rfl ?_
    refine AOps.nil ?_
    exact AW.ret rfl
  have h8 : ¬ 8 < bs.length := by have := of_decide_eq_false h; omega
  rw [if_neg h8] at hcd
  refine AW.skip ?_
  refine AW.seq ?_
  refine AW.seq ?_
  refine AW.region ?_   -- "ref.go:133"
  refine AOps.run tok 1 _ _ _ _ rfl ?_
  refine AOps.call tok rfl rfl rfl rfl c1 ?_
  refine AOps.run tok 1 _ _ _ _ rfl ?_
  refine AOps.nil ?_
  refine AW.seq ?_
  refine AW.region ?_   -- "ref.go:133"
  refine AOps.run tok 2 _ _ _ _ rfl ?_
  refine AOps.nil ?_
  refine AW.cond rfl (fun h => ?_) (fun h => ?_)
  · rw [if_pos (ne0_of h)] at hcd
    rw [hcd]
    refine AW.seq ?_
    refine AW.region ?_   -- "ref.go:134"
    refine AOps.run tok 2 _ _ _ _ rfl ?_
    refine AOps.nil ?_
    exact AW.ret rfl
  rw [if_neg (fun e => e (eq0_of h))] at hcd
  refine AW.skip ?_
  refine AW.seq ?_
  refine AW.seq ?_
  refine AW.region ?_   -- "ref.go:136"
  refine AOps.run tok 4 _ _ _ _ rfl ?_
  rw [List.length_map]
  refine AOps.nil ?_
  refine AW.cond rfl (fun h => ?_) (fun h => ?_)
  · have h16 : 16 < js.length := by have := of_decide_eq_true h; omega
    have hje : jointsE bs js = 4 := by rw [jointsE, if_pos h16]
    rw [hje, if_pos (by decide)] at hcd
    rw [hcd]
    refine AW.seq ?_
    refine AW.region ?_   -- "ref.go:137"
    refine AOps.run tok 1 _ _ _ _ rfl ?_
    refine AOps.nil ?_
    exact AW.ret rfl
  have h16 : ¬ 16 < js.length := by have := of_decide_eq_false h; omega
  have hje : jointsE bs js = fE (jointE bs js) js.length 0 := by rw [jointsE, if_neg h16]
  refine AW.skip ?_
  refine AW.seq ?_
  refine AW.seq ?_
  refine AW.region ?_   -- "ref.go:139"
  refine AOps.run tok 1 _ _ _ _ rfl ?_
  refine AOps.nil ?_
  refine AW.block ?_   -- block 0
  refine AW.loopS [1, 4] (fun i : Nat => [(1, .bx [dS ln, BodiesD bs, JointsD js, DriversD ds]), (4, .d (dI i))])
    (fun i => i ≤ js.length ∧ jointsE bs js = fE (jointE bs js) (js.length - i) i) (fun i => js.length - i) 0 rfl ⟨Nat.zero_le _, hje⟩ (fun i ⟨hi, hE⟩ => ?_)
  refine AW.seq ?_
  refine AW.seq ?_
  refine AW.region ?_   -- "ref.go:139"
  refine AOps.run tok 5 _ _ _ _ rfl ?_
  rw [List.length_map]
  refine AOps.nil ?_
  refine AW.cond rfl (fun h => ?_) (fun h => ?_)
  · have hin : i < js.length := by have := of_decide_eq_true h; omega
    refine AW.skip ?_
    refine AW.seq ?_
    refine AW.block ?_   -- block 1
    refine AW.seq ?_
    refine AW.region ?_   -- "ref.go:140"
    refine AOps.run tok 2 _ _ _ _ rfl ?_
    refine AOps.call tok rfl rfl rfl rfl (c2 i hin) ?_
    refine AOps.run tok 1 _ _ _ _ rfl ?_
    refine AOps.nil ?_
    refine AW.seq ?_
    refine AW.region ?_   -- "ref.go:140"
    refine AOps.run tok 2 _ _ _ _ rfl ?_
    refine AOps.nil ?_
    refine AW.cond rfl (fun h => ?_) (fun h => ?_)
    · rw [hE.trans (fE_hit hin (ne0_of h)), if_pos (ne0_of h)] at hcd
      rw [hcd]
      refine AW.seq ?_
      refine AW.region ?_   -- "ref.go:141"
      refine AOps.run tok 2 _ _ _ _ rfl ?_
      refine AOps.nil ?_
      exact AW.ret rfl
    · refine AW.skip ?_
      refine AW.region ?_   -- "ref.go:139"
      refine AOps.run tok 3 _ _ _ _ rfl ?_
      rw [wI64 (x := (i : Int) + 1) (by omega) (by omega)]
      refine AOps.nil ?_
      exact ⟨i + 1, rfl, ⟨hin, hE.trans (fE_miss hin (eq0_of h))⟩, by omega⟩
  have hin : ¬ i < js.length := by have := of_decide_eq_false h; omega
  rw [hE.trans (fE_end hin), if_neg (by decide)] at hcd
  refine AW.exit ?_
  refine AW.seq ?_
  refine AW.seq ?_
  refine AW.region ?_   -- "ref.go:144"
  refine AOps.run tok 4 _ _ _ _ rfl ?_
  rw [List.length_map]
  refine AOps.nil ?_
  refine AW.cond rfl (fun h => ?_) (fun h => ?_)
  · have h2 : 2 < ds.length := by have := of_decide_eq_true h; omega
    rw [driversE, if_pos h2] at hcd
    rw [hcd]
    refine AW.seq ?_
    refine AW.region ?_   -- "ref.go:145"
    refine AOps.run tok 1 _ _ _ _ rfl ?_
    refine AOps.nil ?_
    exact AW.ret rfl
  have h2 : ¬ 2 < ds.length := by have := of_decide_eq_false h; omega
  rw [driversE, if_neg h2] at hcd
  refine AW.skip ?_
  refine AW.seq ?_
  refine AW.seq ?_
  refine AW.region ?_   -- "ref.go:147"
  refine AOps.run tok 1 _ _ _ _ rfl ?_
  refine AOps.nil ?_
  refine AW.block ?_   -- block 2
  refine AW.loopS [1, 6] (fun i : Nat => [(1, .bx [dS ln, BodiesD bs, JointsD js, DriversD ds]), (6, .d (dI i))])
    (fun i => i ≤ ds.length ∧ E = fE (driverE bs.length ds) (ds.length - i) i) (fun i => ds.length - i) 0 rfl ⟨Nat.zero_le _, hcd⟩ (fun i ⟨hi, hE⟩ => ?_)
  refine AW.seq ?_
  refine AW.seq ?_
  refine AW.region ?_   -- "ref.go:147"
  refine AOps.run tok 5 _ _ _ _ rfl ?_
  rw [List.length_map]
  refine AOps.nil ?_
  refine AW.cond rfl (fun h => ?_) (fun h => ?_)
  · have hin : i < ds.length := by have := of_decide_eq_true h; omega
    refine AW.skip ?_
    refine AW.seq ?_
    refine AW.block ?_   -- block 3
    refine AW.seq ?_
    refine AW.region ?_   -- "ref.go:148"
    refine AOps.run tok 2 _ _ _ _ rfl ?_
    refine AOps.call tok rfl rfl rfl rfl (c3 i hin) ?_
    refine AOps.run tok 1 _ _ _ _ rfl ?_
    refine AOps.nil ?_
    refine AW.seq ?_
    refine AW.region ?_   -- "ref.go:148"
    refine AOps.run tok 2 _ _ _ _ rfl ?_
    refine AOps.nil ?_
    refine AW.cond rfl (fun h => ?_) (fun h => ?_)
    · rw [hE.trans (fE_hit hin (ne0_of h))]
      refine AW.seq ?_
      refine AW.region ?_   -- "ref.go:149"
      refine AOps.run tok 2 _ _ _ _ rfl ?_
      refine AOps.nil ?_
      exact AW.ret rfl
    · refine AW.skip ?_
      refine AW.region ?_   -- "ref.go:147"
      refine AOps.run tok 3 _ _ _ _ rfl ?_
      rw [wI64 (x := (i : Int) + 1) (by omega) (by omega)]
      refine AOps.nil ?_
      exact ⟨i + 1, rfl, ⟨hin, hE.trans (fE_miss hin (eq0_of h))⟩, by omega⟩
  have hin : ¬ i < ds.length := by have := of_decide_eq_false h; omega
  rw [hE.trans (fE_end hin)]
  refine AW.exit ?_
  refine AW.seq ?_
  refine AW.region ?_   -- "ref.go:152"
  refine AOps.run tok 1 _ _ _ _ rfl ?_
  refine AOps.nil ?_
  exact AW.ret rfl
end Lift
/- Graph: what is reached from a body; Side. -/
namespace Lift
open Go Go.Proofs

theorem gE_zero {f : Nat → Nat} : ∀ {m i : Nat}, fE f m i = 0 → ∀ k, i ≤ k → k < i + m → f k = 0
  | 0, i, _, k, h1, h2 => by omega
  | m + 1, i, h, k, h1, h2 => by
    rw [fE] at h
    by_cases h0 : f i = 0
    · rw [if_pos h0] at h
      rcases Nat.eq_or_lt_of_le h1 with e | e
      · rw [← e]; exact h0
      · exact gE_zero h k e (by omega)
    · rw [if_neg h0] at h
      exact absurd h h0
theorem joint_ne {bs : List Body} {js : List Joint} (h : jointsE bs js = 0) {i : Nat} (hi : i < js.length) : ((0 ≤ (js.getD i default).a ∧ (js.getD i default).a < bs.length) ∧ (0 ≤ (js.getD i default).b ∧ (js.getD i default).b < bs.length)) ∧ (js.getD i default).a ≠ (js.getD i default).b := by
  unfold jointsE at h
  split at h
  · cases h
  have hb := gE_zero h i (Nat.zero_le _) (by omega)
  unfold jointE at hb
  split at hb
  · cases hb
  split at hb
  · cases hb
  unfold jE at hb
  split at hb
  · cases hb
  split at hb
  · cases hb
  rename_i h1
  split at hb
  · cases hb
  rename_i h2
  simp only [Bool.not_eq_false, Bool.and_eq_true] at h1
  exact ⟨⟨of_decide_eq_true h1.1, of_decide_eq_true h1.2⟩, h2⟩
theorem chk_jok {l : Lkg} (h : chk l = 0) : jok l.joints l.bodies.length := fun i hi => (joint_ne (chk_all h).2.2.2.2.1 hi).1
theorem chk_pos {l : Lkg} (h : chk l = 0) : 0 < l.bodies.length := List.length_pos_iff.2 (chk_all h).2.1
theorem chk_le {l : Lkg} (h : chk l = 0) : l.bodies.length ≤ 8 := (chk_all h).2.2.1

/-- The numbers of the bodies below i that are reached. -/
def rcP (x : List Int) (u : Int) (i : Nat) : List Int := ((List.range i).filter (fun k : Nat => !decide (x.getD k 0 = u))).map (fun k : Nat => (k : Int))
abbrev rcL (u : Int) (x : List Int) : List Int := rcP x u x.length
theorem rcP_hit {x : List Int} {u : Int} {i : Nat} (h : (!decide (x.getD i 0 = u)) = true) : rcP x u (i + 1) = rcP x u i ++ [(i : Int)] := by
  unfold rcP
  rw [List.range_succ, List.filter_append, List.map_append, List.filter_cons_of_pos (by exact h)]
  rfl
theorem rcP_miss {x : List Int} {u : Int} {i : Nat} (h : (!decide (x.getD i 0 = u)) = false) : rcP x u (i + 1) = rcP x u i := by
  unfold rcP
  rw [List.range_succ, List.filter_append, List.map_append, List.filter_cons_of_neg (by rw [h]; decide)]
  simp
theorem rcP_len (x : List Int) (u : Int) (i : Nat) : (rcP x u i).length ≤ i := by
  unfold rcP
  rw [List.length_map]
  exact Nat.le_trans (List.length_filter_le _ _) (by simp)
theorem rcP_app {x : List Int} {u : Int} {i : Nat} (h : (!decide (x.getD i 0 = u)) = true) : (rcP x u (i + 1)).map dI = (rcP x u i).map dI ++ [dI i] := by rw [rcP_hit h]; simp
theorem take_all {x : List Int} {n : Nat} (h : x.length = n) : ((x.map dI).drop 0).take n = x.map dI := by
  rw [List.drop_zero, List.take_of_length_le (by simp; omega)]
/-- The bodies that are reached from one, without a joint. -/
def reachX (u r : Int) (js : List Joint) (n : Nat) (wo : Int) (k : Nat) : List Int := searchS js wo u r k (repI n u)
theorem reachX_len (u r : Int) (js : List Joint) (n : Nat) (wo : Int) (k : Nat) : (reachX u r js n wo k).length = n := by unfold reachX; rw [search_len]; simp
def reachI (js : List Joint) (n : Nat) (wo : Int) (k : Nat) : List Int := rcL (-1) (reachX (-1) (-2) js n wo k)

set_option maxHeartbeats 1000000 in
theorem r23_reached_ok (l : Lkg) (k : Nat) (wo : Int) (hk : k < l.bodies.length) (hn : l.bodies.length ≤ 1000) (hj : jok l.joints l.bodies.length) (hm : l.joints.length ≤ 1000) :
    Pure Tryz.prog 37 [l.D, dI k, dI wo] (IsD (reachI l.joints l.bodies.length wo k)) := by
  refine Pure.intro (n := 34) tok Tryz.func37 rfl rfl rfl (Nat.le_of_ble_eq_true rfl) (by kernel_rfl) (fun B F0 w0 => ?_)
  have hS := r23_search_ok l k wo (repI l.bodies.length (-1)) (by simpa using hk) (by simpa using hn) (by simpa using hj) hm
  rw [show (repI l.bodies.length (-1)).length = l.bodies.length by simp] at hS
  have hX := reachX_len (-1) (-2) l.joints l.bodies.length wo k
  unfold reachI rcL
  obtain ⟨ln, bs, js, ds⟩ := l
  simp only [] at hS hX hn hk ⊢
  rw [hX]
  rw [show searchS js wo (-1) (-2) k (repI bs.length (-1)) = reachX (-1) (-2) js bs.length wo k from rfl] at hS
  generalize reachX (-1) (-2) js bs.length wo k = x at hS hX ⊢
  show AW _ _ _ _ _ _ _ (initSt 0 [D.ag [dS ln, BodiesD bs, JointsD js, DriversD ds], dI k, dI wo])
  refine AW.seq ?_
  refine AW.region ?_   -- "ref.go:48"
  refine AOps.run tok 2 _ _ _ _ rfl ?_
  refine AOps.nil ?_
  refine AW.seq ?_
  refine AW.draw hmix 7 (by kernel_rfl) ?_
  refine APre.run tok 6 _ _ _ _ rfl ?_
  rw [List.length_map]
  refine APre.callo tok rfl rfl rfl rfl rfl (r23_none_ok bs.length hn) (plain_ints _) ?_
  refine APre.nil ?_
  refine AOps.callp tok rfl rfl rfl rfl hS (by omega) (plain_ints _) rfl ?_
  refine AOps.run tok 1 _ _ _ _ rfl ?_
  refine AOps.nil ?_
  refine AW.seq ?_
  refine AW.region ?_   -- "ref.go:50"
  refine AOps.run tok 1 _ _ _ _ rfl ?_
  refine AOps.nil ?_
  refine AW.frzw tok 7 rfl rfl ?_
  rw [take_all hX]
  refine AW.seq ?_
  refine AW.seq ?_
  refine AW.region ?_   -- "ref.go:51"
  refine AOps.run tok 1 _ _ _ _ rfl ?_
  refine AOps.nil ?_
  refine AW.block ?_   -- block 0
  refine AW.loopS [7, 8, 9] (fun i : Nat => [(7, .d (IsD x)), (8, .ow 3 ((rcP x (-1) i).map dI)), (9, .d (dI i))]) (fun i => i ≤ bs.length) (fun i => bs.length - i) 0 rfl (Nat.zero_le _) (fun i hi => ?_)
  have hpl := rcP_len x (-1) i
  · skip
    refine AW.seq ?_
    refine AW.seq ?_
    refine AW.region ?_   -- "ref.go:51"
    refine AOps.run tok 4 _ _ _ _ rfl ?_
    rw [List.length_map, hX]
    refine AOps.nil ?_
    refine AW.cond rfl (fun h => ?_) (fun h => ?_)
    · skip
      have hin : i < bs.length := by have := of_decide_eq_true h; omega
      refine AW.skip ?_
      refine AW.seq ?_
      refine AW.block ?_   -- block 1
      refine AW.seq ?_
      refine AW.region ?_   -- "ref.go:52"
      refine AOps.run tok 2 _ _ _ _ rfl ?_
      refine AOps.idx tok (dI (x.getD i 0)) rfl rfl rfl rfl (Int.natCast_nonneg i) (getI (by omega)) ?_
      refine AOps.run tok 2 _ _ _ _ rfl ?_
      refine AOps.nil ?_
      refine AW.cond rfl (fun h => ?_) (fun h => ?_)
      · skip
        refine AW.region ?_   -- "ref.go:53"
        refine AOps.run tok 2 _ _ _ _ rfl ?_
        refine AOps.bs tok rfl rfl rfl rfl ?_
        refine AOps.appo tok rfl rfl rfl rfl rfl rfl (by show (((rcP x (-1) i).map dI).length + 1) * 8 ≤ _; rw [List.length_map]; omega) (by show ((rcP x (-1) i).map dI).length + 1 ≤ _; rw [List.length_map]; omega) ?_
        refine AOps.run tok 1 _ _ _ _ rfl ?_
        refine AOps.nil ?_
        refine AW.region ?_   -- "ref.go:51"
        refine AOps.run tok 3 _ _ _ _ rfl ?_
        rw [wI64 (x := (i : Int) + 1) (by omega) (by omega)]
        refine AOps.nil ?_
        exact ⟨i + 1, by rw [rcP_app h]; rfl, hin, by omega⟩
      · skip
        refine AW.skip ?_
        refine AW.region ?_   -- "ref.go:51"
        refine AOps.run tok 3 _ _ _ _ rfl ?_
        rw [wI64 (x := (i : Int) + 1) (by omega) (by omega)]
        refine AOps.nil ?_
        exact ⟨i + 1, by rw [rcP_miss h]; rfl, hin, by omega⟩
    · have hin : i = bs.length := by have := of_decide_eq_false h; omega
      subst hin
      refine AW.exit ?_
      refine AW.seq ?_
      refine AW.region ?_
      refine AOps.frz tok 8 rfl rfl ?_
      refine AOps.run tok 2 _ _ _ _ rfl ?_
      refine AOps.nil ?_
      exact AW.ret rfl

def sideD (l : Lkg) (joint : Int) : D := if chk l = 0 then (if inB joint l.joints.length = true then .tu [IsD (rcL (-2) (reachX (-2) (-1) l.joints l.bodies.length joint (l.joints.getD joint.toNat default).a.toNat)), nilE] else .tu [IsD [], er 9]) else .tu [IsD [], erV (chk l)]
def rsideD (l : Lkg) (joint : Int) : D := if inB joint l.joints.length = true then .tu [IsD (reachI l.joints l.bodies.length joint (l.joints.getD joint.toNat default).a.toNat), dI 0] else .tu [IsD [], dI 9]

theorem notin_neg {i : Int} {n : Nat} (h : decide (i < 0) = true) : (!inB i n) = true := by
  have := of_decide_eq_true h
  unfold inB
  rw [decide_eq_false (by omega)]; rfl
theorem notin_pos {i : Int} {n : Nat} (h : decide (i < 0) = false) : (!inB i n) = decide ((n : Int) ≤ i) := by
  have := of_decide_eq_false h
  unfold inB
  by_cases h1 : (n : Int) ≤ i
  · rw [decide_eq_false (by omega), decide_eq_true h1]; rfl
  · rw [decide_eq_true (by omega), decide_eq_false h1]; rfl
theorem in_of {i : Int} {n : Nat} (h : (!inB i n) = false) : inB i n = true ∧ ∃ k : Nat, i = k ∧ k < n := by
  have h1 : inB i n = true := by simpa using h
  have h2 := of_decide_eq_true h1
  exact ⟨h1, i.toNat, by omega, by omega⟩
theorem nin_of {i : Int} {n : Nat} (h : (!inB i n) = true) : ¬ inB i n = true := by simpa using h

set_option maxHeartbeats 2000000 in
theorem graph_Side_ok (l : Lkg) (joint : Int) {K : Nat} (hl : l.ok K) (hK : K ≤ 20000000) : Pure Tryz.prog 26 [l.D, dI joint] (sideD l joint) := by
  refine Pure.intro (n := 53) tok Tryz.func26 rfl rfl rfl (Nat.le_of_ble_eq_true rfl) (by kernel_rfl) (fun B F0 w0 => ?_)
  have c := model_Check_ok l hl hK
  have hF : chk l = 0 → jok l.joints l.bodies.length ∧ 0 < l.bodies.length ∧ l.bodies.length ≤ 8 ∧ l.joints.length ≤ 16 := fun h => ⟨chk_jok h, chk_pos h, chk_le h, chk_js h⟩
  obtain ⟨ln, bs, js, ds⟩ := l
  unfold sideD
  simp only [] at hF ⊢
  generalize chk ⟨ln, bs, js, ds⟩ = E at *
  show AW _ _ _ _ _ _ _ (initSt 0 [D.ag [dS ln, BodiesD bs, JointsD js, DriversD ds], dI joint])
  refine AW.seq ?_
  refine AW.region ?_   -- "graph.go:147"
  refine AOps.run tok 3 _ _ _ _ rfl ?_
  refine AOps.nil ?_
  refine AW.seq ?_
  refine AW.seq ?_
  refine AW.region ?_   -- "graph.go:148"
  refine AOps.run tok 1 _ _ _ _ rfl ?_
  refine AOps.call tok rfl rfl rfl rfl c ?_
  refine AOps.run tok 1 _ _ _ _ rfl ?_
  refine AOps.nil ?_
  refine AW.seq ?_
  refine AW.region ?_   -- "graph.go:148"
  refine AOps.run tok 1 _ _ _ _ rfl ?_
  rcases E with _ | m
  rotate_left
  · refine AOps.err tok rfl rfl rfl rfl rfl ?_
    refine AOps.nil ?_
    refine AW.condT rfl ?_
    refine AW.seq ?_
    refine AW.region ?_
    refine AOps.run tok 3 _ _ _ _ rfl ?_
    refine AOps.nil ?_
    rw [if_neg (Nat.succ_ne_zero m)]
    exact AW.ret rfl
  refine AOps.err tok rfl rfl rfl rfl rfl ?_
  refine AOps.nil ?_
  refine AW.condF rfl ?_
  · skip
    rw [if_pos rfl]
    obtain ⟨hj, hpos, h8, h16⟩ := hF rfl
    refine AW.skip ?_
    refine AW.seq ?_
    refine AW.cut [1, 2, 24] (fun _ : Unit => [(1, .d (dI joint)), (2, .bx [dS ln, BodiesD bs, JointsD js, DriversD ds]), (24, .d (dB (!inB joint js.length)))]) (fun _ => True) ?_ (fun _ _ => ?_)
    · refine AW.region ?_
      refine AOps.run tok 3 _ _ _ _ rfl ?_
      refine AOps.split (t := 18) rfl (fun h => ?_) (fun h => ?_)
      · refine AOps.run tok 6 _ _ _ _ rfl ?_
        refine AOps.nil ?_
        exact ⟨(), by rw [notin_neg h]; rfl, trivial⟩
      · refine AOps.run tok 6 _ _ _ _ rfl ?_
        rw [List.length_map]
        refine AOps.nil ?_
        exact ⟨(), by rw [notin_pos h]; rfl, trivial⟩
    refine AW.cond rfl (fun h => ?_) (fun h => ?_)
    · skip
      rw [if_neg (nin_of h)]
      refine AW.seq ?_
      refine AW.region ?_   -- "graph.go:152"
      refine AOps.run tok 3 _ _ _ _ rfl ?_
      refine AOps.nil ?_
      exact AW.ret rfl
    · skip
      obtain ⟨h1, i, rfl, hil⟩ := in_of h
      rw [if_pos h1, Int.toNat_natCast]
      obtain ⟨a, ha⟩ : ∃ a : Nat, (js.getD i default).a = a := ⟨(js.getD i default).a.toNat, by have := (hj i hil).1.1; omega⟩
      have hab : a < bs.length := by have := (hj i hil).1.2; omega
      have hS := graph_search_ok ⟨ln, bs, js, ds⟩ a i (repI bs.length (-2)) (by simpa using hab) (by simp; omega) (by simpa using hj) (by simp only []; omega)
      rw [show (repI bs.length (-2)).length = bs.length by simp] at hS
      have hX := reachX_len (-2) (-1) js bs.length i a
      rw [ha, Int.toNat_natCast, rcL, hX]
      rw [show searchS (Lkg.mk ln bs js ds).joints i (-2) (-1) a (repI bs.length (-2)) = reachX (-2) (-1) js bs.length i a from rfl] at hS
      generalize reachX (-2) (-1) js bs.length i a = x at hS hX ⊢
      refine AW.skip ?_
      refine AW.seq ?_
      refine AW.region ?_   -- "graph.go:154"
      refine AOps.run tok 1 _ _ _ _ rfl ?_
      refine AOps.callo tok rfl rfl rfl rfl (graph_none_ok ⟨ln, bs, js, ds⟩ hpos (by simp only []; omega)) (plain_ints _) ?_
      refine AOps.run tok 1 _ _ _ _ rfl ?_
      refine AOps.nil ?_
      refine AW.seq ?_
      refine AW.draw hmix 9 (by kernel_rfl) ?_
      refine APre.run tok 4 _ _ _ _ rfl ?_
      refine APre.idx tok (js.getD i default).D rfl rfl rfl rfl rfl (Int.natCast_nonneg i) (getM Joint.D hil) ?_
      refine APre.run tok 4 _ _ _ _ rfl ?_
      rw [ha]
      refine APre.nil ?_
      refine AOps.callm tok rfl rfl rfl rfl hS hpos (plain_ints _) rfl ?_
      refine AOps.nil ?_
      refine AW.seq ?_
      refine AW.region ?_   -- "graph.go:156"
      refine AOps.run tok 1 _ _ _ _ rfl ?_
      refine AOps.nil ?_
      refine AW.frzw tok 7 rfl rfl ?_
      rw [take_all hX]
      refine AW.seq ?_
      refine AW.seq ?_
      refine AW.region ?_   -- "graph.go:157"
      refine AOps.run tok 3 _ _ _ _ rfl ?_
      rw [List.length_map, hX]
      refine AOps.nil ?_
      refine AW.block ?_   -- block 0
      refine AW.loopS [8, 38, 39, 40] (fun i : Nat => [(8, .ow 3 ((rcP x (-2) i).map dI)), (38, .d (IsD x)), (39, .d (dI bs.length)), (40, .d (dI i))]) (fun i => i ≤ bs.length) (fun i => bs.length - i) 0 rfl (Nat.zero_le _) (fun i hi => ?_)
      have hpl := rcP_len x (-2) i
      · skip
        refine AW.seq ?_
        refine AW.region ?_   -- "graph.go:157"
        refine AOps.run tok 1 _ _ _ _ rfl ?_
        refine AOps.nil ?_
        refine AW.seq ?_
        refine AW.cond rfl (fun h => ?_) (fun h => ?_)
        · skip
          have hin : i < bs.length := by have := of_decide_eq_true h; omega
          refine AW.skip ?_
          refine AW.seq ?_
          refine AW.block ?_   -- block 1
          refine AW.seq ?_
          refine AW.region ?_   -- "graph.go:157"
          refine AOps.run tok 1 _ _ _ _ rfl ?_
          refine AOps.idx tok (dI (x.getD i 0)) rfl rfl rfl rfl (Int.natCast_nonneg i) (getI (by omega)) ?_
          refine AOps.run tok 3 _ _ _ _ rfl ?_
          refine AOps.nil ?_
          refine AW.seq ?_
          refine AW.region ?_   -- "graph.go:158"
          refine AOps.run tok 2 _ _ _ _ rfl ?_
          refine AOps.nil ?_
          refine AW.cond rfl (fun h => ?_) (fun h => ?_)
          · skip
            refine AW.region ?_   -- "graph.go:159"
            refine AOps.run tok 2 _ _ _ _ rfl ?_
            refine AOps.bs tok rfl rfl rfl rfl ?_
            refine AOps.appo tok rfl rfl rfl rfl rfl rfl (by show (((rcP x (-2) i).map dI).length + 1) * 8 ≤ _; rw [List.length_map]; omega) (by show ((rcP x (-2) i).map dI).length + 1 ≤ _; rw [List.length_map]; omega) ?_
            refine AOps.run tok 1 _ _ _ _ rfl ?_
            refine AOps.nil ?_
            refine AW.region ?_   -- "graph.go:157"
            refine AOps.run tok 2 _ _ _ _ rfl ?_
            rw [wI64 (x := (i : Int) + 1) (by omega) (by omega)]
            refine AOps.nil ?_
            exact ⟨i + 1, by rw [rcP_app h]; rfl, hin, by omega⟩
          · skip
            refine AW.skip ?_
            refine AW.region ?_   -- "graph.go:157"
            refine AOps.run tok 2 _ _ _ _ rfl ?_
            rw [wI64 (x := (i : Int) + 1) (by omega) (by omega)]
            refine AOps.nil ?_
            exact ⟨i + 1, by rw [rcP_miss h]; rfl, hin, by omega⟩
        · have hin : i = bs.length := by have := of_decide_eq_false h; omega
          subst hin
          refine AW.exit ?_
          refine AW.seq ?_
          refine AW.region ?_
          refine AOps.frz tok 8 rfl rfl ?_
          refine AOps.run tok 3 _ _ _ _ rfl ?_
          refine AOps.nil ?_
          exact AW.ret rfl

theorem r23_Side_ok (l : Lkg) (joint : Int) (hF : jok l.joints l.bodies.length ∧ 0 < l.bodies.length ∧ l.bodies.length ≤ 8 ∧ l.joints.length ≤ 16) : Pure Tryz.prog 27 [l.D, dI joint] (rsideD l joint) := by
  refine Pure.intro (n := 24) tok Tryz.func27 rfl rfl rfl (Nat.le_of_ble_eq_true rfl) (by kernel_rfl) (fun B F0 w0 => ?_)
  obtain ⟨hj, hpos, h8, h16⟩ := hF
  obtain ⟨ln, bs, js, ds⟩ := l
  unfold rsideD
  simp only [] at hj hpos h8 h16 ⊢
  show AW _ _ _ _ _ _ _ (initSt 0 [D.ag [dS ln, BodiesD bs, JointsD js, DriversD ds], dI joint])
  refine AW.seq ?_
  refine AW.region ?_   -- "ref.go:137"
  refine AOps.run tok 3 _ _ _ _ rfl ?_
  refine AOps.nil ?_
  refine AW.seq ?_
  refine AW.cut [1, 2, 14] (fun _ : Unit => [(1, .d (dI joint)), (2, .bx [dS ln, BodiesD bs, JointsD js, DriversD ds]), (14, .d (dB (!inB joint js.length)))]) (fun _ => True) ?_ (fun _ _ => ?_)
  · refine AW.region ?_
    refine AOps.run tok 3 _ _ _ _ rfl ?_
    refine AOps.split (t := 8) rfl (fun h => ?_) (fun h => ?_)
    · refine AOps.run tok 6 _ _ _ _ rfl ?_
      refine AOps.nil ?_
      exact ⟨(), by rw [notin_neg h]; rfl, trivial⟩
    · refine AOps.run tok 6 _ _ _ _ rfl ?_
      rw [List.length_map]
      refine AOps.nil ?_
      exact ⟨(), by rw [notin_pos h]; rfl, trivial⟩
  refine AW.cond rfl (fun h => ?_) (fun h => ?_)
  · skip
    rw [if_neg (nin_of h)]
    refine AW.seq ?_
    refine AW.region ?_   -- "ref.go:139"
    refine AOps.run tok 2 _ _ _ _ rfl ?_
    refine AOps.nil ?_
    exact AW.ret rfl
  · skip
    obtain ⟨h1, i, rfl, hil⟩ := in_of h
    rw [if_pos h1, Int.toNat_natCast]
    obtain ⟨a, ha⟩ : ∃ a : Nat, (js.getD i default).a = a := ⟨(js.getD i default).a.toNat, by have := (hj i hil).1.1; omega⟩
    have hab : a < bs.length := by have := (hj i hil).1.2; omega
    rw [ha, Int.toNat_natCast]
    refine AW.skip ?_
    refine AW.seq ?_
    refine AW.draw hmix 9 (by kernel_rfl) ?_   -- "ref.go:141"
    refine APre.run tok 4 _ _ _ _ rfl ?_
    refine APre.idx tok (js.getD i default).D rfl rfl rfl rfl rfl (Int.natCast_nonneg i) (getM Joint.D hil) ?_
    refine APre.run tok 3 _ _ _ _ rfl ?_
    rw [ha]
    refine APre.call tok rfl rfl rfl rfl rfl (r23_reached_ok ⟨ln, bs, js, ds⟩ a i hab (by simp only []; omega) hj (by simp only []; omega)) ?_
    refine APre.nil ?_
    refine AOps.run tok 2 _ _ _ _ rfl ?_
    refine AOps.nil ?_
    exact AW.ret rfl

theorem r23_Check_ok (l : Lkg) {K : Nat} (hl : l.ok K) (hK : K ≤ 5000000) : Pure Tryz.prog 11 [l.D] (dI (chk l : Nat)) := by
  refine Pure.intro (n := 5) tok Tryz.func11 rfl rfl rfl (Nat.le_of_ble_eq_true rfl) (by kernel_rfl) (fun B F0 w0 => ?_)
  have c := r19_Check_ok l hl hK
  obtain ⟨ln, bs, js, ds⟩ := l
  show AW _ _ _ _ _ _ _ (initSt 0 [D.ag [dS ln, BodiesD bs, JointsD js, DriversD ds]])
  refine AW.seq ?_
  refine AW.region ?_   -- "ref.go:162"
  refine AOps.run tok 2 _ _ _ _ rfl ?_
  refine AOps.nil ?_
  refine AW.seq ?_
  refine AW.region ?_   -- "ref.go:162"
  refine AOps.run tok 1 _ _ _ _ rfl ?_
  refine AOps.call tok rfl rfl rfl rfl c ?_
  refine AOps.run tok 1 _ _ _ _ rfl ?_
  refine AOps.nil ?_
  exact AW.ret rfl
end Lift
