/- Parts of the proof, one behind the other: the logic, the contracts of the functions that the statement reaches. -/
import Derived.Test.YtgednajkanfpaaaGreatD7B
import Derived.Laws.Strings
set_option linter.unusedVariables false
set_option linter.unusedSimpArgs false
namespace Lift
open Go Go.Proofs
set_option maxHeartbeats 800000 in
theorem integer_less_ok (a b : List Nat) (ha : W32 a) (hb : W32 b) (hla : a.length ≤ 100000000) (hle : nv b ≤ nv a) : Pure Tryz.prog 116 [Wd a, Wd b] (Wd (tw (nv a - nv b))) := by
  refine Pure.intro (n := 38) tok Tryz.func116 rfl rfl rfl (Nat.le_of_ble_eq_true rfl) (by kernel_rfl) (fun B F0 w0 => ?_)
  obtain ⟨N, hN⟩ : ∃ N, N = a.length := ⟨_, rfl⟩
  refine AW.seq ?_
  refine AW.region ?_
  refine AOps.run tok 1 _ _ _ _ rfl ?_
  refine AOps.nil ?_
  refine AW.seq ?_
  refine AW.region ?_
  refine AOps.run tok 2 _ _ _ _ rfl ?_
  refine AOps.makeW tok N rfl rfl rfl rfl rfl rfl (by simp only [List.length_map]; omega) rfl (by omega) ?_
  refine AOps.run tok 1 _ _ _ _ rfl ?_
  refine AOps.nil ?_
  refine AW.seq ?_
  refine AW.region ?_
  refine AOps.run tok 1 _ _ _ _ rfl ?_
  refine AOps.nil ?_
  refine AW.seq ?_
  refine AW.seq ?_
  refine AW.region ?_
  refine AOps.run tok 3 _ _ _ _ rfl ?_
  rw [lenWd (List.replicate N 0), List.length_replicate]
  refine AOps.nil ?_
  refine AW.block ?_
  refine AW.loopS [0, 1, 5, 6, 13, 14] (fun s : Nat × List Nat × Nat => [(0, .d (Wd a)), (1, .d (Wd b)), (5, .ow 141 (s.2.1.map wd)), (6, .d (dU s.2.2)), (13, .d (dI N)), (14, .d (dI s.1))])
    (fun s => s.1 ≤ N ∧ s.2.1.length = N ∧ W32 s.2.1 ∧ s.2.2 ≤ 1 ∧ nv (s.2.1.take s.1) + nv (b.take s.1) = nv (a.take s.1) + 4294967296 ^ s.1 * s.2.2) (fun s => N - s.1) (0, List.replicate N 0, 0) rfl ⟨Nat.zero_le _, by simp, W32.replicate N, by simp, by simp [nv]⟩ (fun (i, out, c) ⟨hi, hol, how, hc, hv⟩ => ?_)
  simp only [] at hi hol how hc hv
  refine AW.seq ?_
  refine AW.region ?_
  refine AOps.run tok 1 _ _ _ _ rfl ?_
  refine AOps.nil ?_
  refine AW.seq ?_
  refine AW.cond rfl (fun h => ?_) (fun h => ?_)
  · have hiN : i < N := by have := of_decide_eq_true h; omega
    have hx := ha.getD i
    have hy := hb.getD i
    refine AW.skip ?_
    refine AW.seq ?_
    refine AW.block ?_
    refine AW.seq ?_
    refine AW.region ?_
    refine AOps.run tok 2 _ _ _ _ rfl ?_
    refine AOps.nil ?_
    refine AW.seq ?_
    refine AW.draw hmix 11 (by kernel_rfl) ?_
    refine APre.run tok 2 _ _ _ _ rfl ?_
    refine APre.idx tok (wd (a.getD i 0)) rfl rfl rfl rfl rfl (Int.natCast_nonneg i) (getWd (by omega)) ?_
    refine APre.run tok 4 _ _ _ _ rfl ?_
    refine APre.call tok rfl rfl rfl rfl rfl (integer_word_ok b hb i) ?_
    refine APre.run tok 3 _ _ _ _ rfl ?_
    refine APre.nil ?_
    refine AOps.run tok 1 _ _ _ _ rfl ?_
    rw [cvU64 (a.getD i 0) (by omega), subU (a.getD i 0) (b.getD i 0) c hx hy hc]
    obtain ⟨D, hD⟩ : ∃ D, D = (if b.getD i 0 + c ≤ a.getD i 0 then a.getD i 0 - b.getD i 0 - c else 18446744073709551616 + a.getD i 0 - b.getD i 0 - c : Nat) := ⟨_, rfl⟩
    rw [← hD]
    refine AOps.nil ?_
    refine AW.seq ?_
    refine AW.region ?_
    refine AOps.run tok 4 _ _ _ _ rfl ?_
    refine AOps.idxo tok rfl rfl rfl rfl (Int.natCast_nonneg i) (by simp; omega) ?_
    refine AOps.storeW tok (D % 4294967296) rfl rfl rfl (by omega) (cvU32 _) ?_
    refine AOps.nil ?_
    refine AW.region ?_
    refine AOps.run tok 3 _ _ _ _ rfl ?_
    rw [shrU63]
    refine AOps.nil ?_
    refine AW.region ?_
    refine AOps.run tok 2 _ _ _ _ rfl ?_
    rw [wI64 (by omega) (by omega)]
    refine AOps.nil ?_
    have hkey : D / 9223372036854775808 ≤ 1 ∧ D % 4294967296 + b.getD i 0 + c = a.getD i 0 + 4294967296 * (D / 9223372036854775808) := by
      rw [hD]; split <;> omega
    refine ⟨(i + 1, out.set i (D % 4294967296), D / 9223372036854775808), rfl, ⟨by omega, by simpa using hol, how.set i (by omega), hkey.1, ?_⟩, by simp only []; omega⟩
    simp only [nv_take_set (show i < out.length by omega), nv_take_succ a i, nv_take_succ b i, Nat.pow_succ]
    have := congrArg (fun z => 4294967296 ^ i * z) hkey.2
    simp only [Nat.mul_add] at this
    rw [Nat.mul_assoc]
    omega
  · have hiN : i = N := by have := of_decide_eq_false h; omega
    subst hiN
    rw [List.take_of_length_le (l := out) (by omega), List.take_of_length_le (l := a) (by omega)] at hv
    have h1 := nv_lt ha
    have h3 := nv_lt how
    rw [hol] at h3
    rw [← hN] at h1
    have hbt : nv (b.take i) = nv b := by
      by_cases hlb : i ≤ b.length
      · have h4 := nv_take_drop b i hlb
        rcases Nat.eq_zero_or_pos (nv (b.drop i)) with h | h
        · rw [h4, h]; omega
        · have : 4294967296 ^ i * 1 ≤ 4294967296 ^ i * nv (b.drop i) := Nat.mul_le_mul_left _ h
          omega
      · rw [List.take_of_length_le (by omega)]
    have hc0 : c = 0 := by
      rcases Nat.eq_zero_or_pos c with h | h
      · exact h
      · have : 4294967296 ^ i * 1 ≤ 4294967296 ^ i * c := Nat.mul_le_mul_left _ h
        omega
    have hres : nv out = nv a - nv b := by rw [hc0] at hv; omega
    refine AW.exit ?_
    refine AW.seq ?_
    refine AW.region ?_
    refine AOps.run tok 1 _ _ _ _ rfl ?_
    refine AOps.frz tok 5 rfl rfl ?_
    refine AOps.call tok rfl rfl rfl rfl (integer_trim_ok out how (by omega)) ?_
    refine AOps.run tok 1 _ _ _ _ rfl ?_
    refine AOps.nil ?_
    rw [hres]
    exact AW.ret rfl
set_option maxHeartbeats 800000 in
theorem integer_times_ok (a b : List Nat) (ha : W32 a) (hb : W32 b) (hla : a.length ≤ 100000000) (hlb : b.length ≤ 100000000) : Pure Tryz.prog 104 [Wd a, Wd b] (Wd (tw (nv a * nv b))) := by
  refine Pure.intro (n := 67) tok Tryz.func104 rfl rfl rfl (Nat.le_of_ble_eq_true rfl) (by kernel_rfl) (fun B F0 w0 => ?_)
  refine AW.seq ?_
  refine AW.region ?_
  refine AOps.run tok 1 _ _ _ _ rfl ?_
  refine AOps.nil ?_
  refine AW.seq ?_
  refine AW.region ?_
  refine AOps.run tok 5 _ _ _ _ rfl ?_
  refine AOps.makeW tok (a.length + b.length) rfl rfl rfl rfl rfl rfl (by simp only [List.length_map]; rw [wI64 (by omega) (by omega)]; omega) rfl (by omega) ?_
  refine AOps.run tok 1 _ _ _ _ rfl ?_
  refine AOps.nil ?_
  refine AW.seq ?_
  refine AW.seq ?_
  refine AW.region ?_
  refine AOps.run tok 3 _ _ _ _ rfl ?_
  rw [lenWd a]
  refine AOps.nil ?_
  refine AW.block ?_
  refine AW.loopS [0, 1, 5, 17, 18, 19] (fun s : Nat × List Nat => [(0, .d (Wd a)), (1, .d (Wd b)), (5, .ow 141 (s.2.map wd)), (17, .d (Wd a)), (18, .d (dI a.length)), (19, .d (dI s.1))])
    (fun s => s.1 ≤ a.length ∧ s.2.length = a.length + b.length ∧ W32 s.2 ∧ (∀ j, s.1 + b.length ≤ j → s.2.getD j 0 = 0) ∧ nv s.2 = nv (a.take s.1) * nv b) (fun s => a.length - s.1) (0, List.replicate (a.length + b.length) 0) rfl ⟨Nat.zero_le _, by simp, W32.replicate _, fun j _ => by simp [List.getD, List.getElem?_replicate]; split <;> rfl, by simp [nv, nv_replicate]⟩ (fun (i, out) ⟨hi, hol, how, hz, hv⟩ => ?_)
  simp only [] at hi hol how hz hv
  refine AW.seq ?_
  refine AW.region ?_
  refine AOps.run tok 1 _ _ _ _ rfl ?_
  refine AOps.nil ?_
  refine AW.seq ?_
  refine AW.cond rfl (fun h => ?_) (fun h => ?_)
  · have hiN : i < a.length := by have := of_decide_eq_true h; omega
    have hx := ha.getD i
    refine AW.skip ?_
    refine AW.seq ?_
    refine AW.block ?_
    refine AW.seq ?_
    refine AW.region ?_
    refine AOps.run tok 1 _ _ _ _ rfl ?_
    refine AOps.idx tok (wd (a.getD i 0)) rfl rfl rfl rfl (Int.natCast_nonneg i) (getWd (by omega)) ?_
    refine AOps.run tok 3 _ _ _ _ rfl ?_
    refine AOps.nil ?_
    refine AW.seq ?_
    refine AW.region ?_
    refine AOps.run tok 1 _ _ _ _ rfl ?_
    refine AOps.nil ?_
    refine AW.seq ?_
    refine AW.seq ?_
    refine AW.region ?_
    refine AOps.run tok 3 _ _ _ _ rfl ?_
    rw [lenWd b]
    refine AOps.nil ?_
    refine AW.block ?_
    refine AW.loopS [0, 1, 5, 17, 18, 19, 6, 7, 8, 24, 25, 26] (fun s : Nat × List Nat × Nat => [(0, .d (Wd a)), (1, .d (Wd b)), (5, .ow 141 (s.2.1.map wd)), (17, .d (Wd a)), (18, .d (dI a.length)), (19, .d (dI i)), (6, .d (dI i)), (7, .d (wd (a.getD i 0))), (8, .d (dU s.2.2)), (24, .d (Wd b)), (25, .d (dI b.length)), (26, .d (dI s.1))])
      (fun s => s.1 ≤ b.length ∧ s.2.1.length = a.length + b.length ∧ W32 s.2.1 ∧ (∀ j, i + b.length ≤ j → s.2.1.getD j 0 = 0) ∧ s.2.2 < 4294967296 ∧ nv s.2.1 + 4294967296 ^ (i + s.1) * s.2.2 = nv (a.take i) * nv b + 4294967296 ^ i * (a.getD i 0 * nv (b.take s.1))) (fun s => b.length - s.1) (0, out, 0) rfl ⟨Nat.zero_le _, hol, how, hz, by simp, by simp [nv, hv]⟩ (fun (k, o, c) ⟨hk, hol, how, hz, hc, hv⟩ => ?_)
    simp only [] at hk hol how hz hc hv
    refine AW.seq ?_
    refine AW.region ?_
    refine AOps.run tok 1 _ _ _ _ rfl ?_
    refine AOps.nil ?_
    refine AW.seq ?_
    refine AW.cond rfl (fun h => ?_) (fun h => ?_)
    · have hkN : k < b.length := by have := of_decide_eq_true h; omega
      have hy := hb.getD k
      have ho := how.getD (i + k)
      have hxy : a.getD i 0 * b.getD k 0 ≤ 4294967295 * 4294967295 := Nat.mul_le_mul (by omega) (by omega)
      refine AW.skip ?_
      refine AW.seq ?_
      refine AW.block ?_
      refine AW.seq ?_
      refine AW.region ?_
      refine AOps.run tok 1 _ _ _ _ rfl ?_
      refine AOps.idx tok (wd (b.getD k 0)) rfl rfl rfl rfl (Int.natCast_nonneg k) (getWd (by omega)) ?_
      refine AOps.run tok 3 _ _ _ _ rfl ?_
      refine AOps.nil ?_
      refine AW.seq ?_
      refine AW.region ?_
      refine AOps.run tok 10 _ _ _ _ rfl ?_
      rw [wI64 (x := (i : Int) + (k : Int)) (by omega) (by omega), ← Int.natCast_add i k]
      refine AOps.idxo tok rfl rfl rfl rfl (Int.natCast_nonneg (i + k)) (by simp; omega) ?_
      refine AOps.loadel tok (wd (o.getD (i + k) 0)) rfl rfl rfl rfl (getWd (by simp; omega)) rfl ?_
      refine AOps.run tok 4 _ _ _ _ rfl ?_
      rw [cvU64 (a.getD i 0) (by omega), cvU64 (b.getD k 0) (by omega), mulU (a.getD i 0) (b.getD k 0) (by omega), cvU64 (o.getD (i + k) 0) (by omega), addU _ (o.getD (i + k) 0) (by omega), addU c _ (by omega)]
      refine AOps.nil ?_
      obtain ⟨S, hS⟩ : ∃ S, S = c + (a.getD i 0 * b.getD k 0 + o.getD (i + k) 0) := ⟨_, rfl⟩
      rw [← hS]
      refine AW.seq ?_
      refine AW.region ?_
      refine AOps.run tok 6 _ _ _ _ rfl ?_
      rw [wI64 (x := (i : Int) + (k : Int)) (by omega) (by omega), ← Int.natCast_add i k]
      refine AOps.idxo tok rfl rfl rfl rfl (Int.natCast_nonneg (i + k)) (by simp; omega) ?_
      refine AOps.storeW tok (S % 4294967296) rfl rfl rfl (by simp; omega) (cvU32 _) ?_
      refine AOps.nil ?_
      refine AW.region ?_
      refine AOps.run tok 3 _ _ _ _ rfl ?_
      rw [shrU32]
      refine AOps.nil ?_
      refine AW.region ?_
      refine AOps.run tok 2 _ _ _ _ rfl ?_
      rw [wI64 (by omega) (by omega)]
      refine AOps.nil ?_
      refine ⟨(k + 1, o.set (i + k) (S % 4294967296), S / 4294967296), rfl, ⟨by omega, by simpa using hol, how.set _ (by omega), fun j hj => ?_, by show S / 4294967296 < 4294967296; omega, ?_⟩, by simp only []; omega⟩
      · rw [getD_set _ _ _ _ (by omega), if_neg (by (try simp only [] at hj); omega)]
        exact hz j hj
      · have h1 := nv_set_add (l := o) (i := i + k) (x := S % 4294967296) (by omega)
        have h2 := carry_step (4294967296 ^ (i + k)) S
        have h3 : 4294967296 ^ (i + k) * S = 4294967296 ^ (i + k) * c + (4294967296 ^ (i + k) * (a.getD i 0 * b.getD k 0) + 4294967296 ^ (i + k) * o.getD (i + k) 0) := by rw [hS, Nat.mul_add, Nat.mul_add]
        have h4 : 4294967296 ^ i * (a.getD i 0 * (nv (b.take k) + 4294967296 ^ k * b.getD k 0)) = 4294967296 ^ i * (a.getD i 0 * nv (b.take k)) + 4294967296 ^ (i + k) * (a.getD i 0 * b.getD k 0) := by
          rw [Nat.pow_add]
          simp only [Nat.mul_add]
          congr 1
          ac_rfl
        simp only [nv_take_succ b k]
        rw [h4, show i + (k + 1) = i + k + 1 by omega, Nat.pow_succ]
        omega
    · have hkN : k = b.length := by have := of_decide_eq_false h; omega
      subst hkN
      refine AW.exit ?_
      refine AW.region ?_
      refine AOps.run tok 7 _ _ _ _ rfl ?_
      rw [lenWd b, wI64 (x := (i : Int) + (b.length : Int)) (by omega) (by omega), ← Int.natCast_add i b.length]
      refine AOps.idxo tok rfl rfl rfl rfl (Int.natCast_nonneg (i + b.length)) (by simp; omega) ?_
      refine AOps.storeW tok (c % 4294967296) rfl rfl rfl (by simp; omega) (cvU32 _) ?_
      refine AOps.nil ?_
      refine AW.region ?_
      refine AOps.run tok 2 _ _ _ _ rfl ?_
      rw [wI64 (by omega) (by omega)]
      refine AOps.nil ?_
      refine ⟨(i + 1, o.set (i + b.length) (c % 4294967296)), rfl, ⟨by omega, by simpa using hol, how.set _ (by omega), fun j hj => ?_, ?_⟩, by simp only []; omega⟩
      · rw [getD_set _ _ _ _ (by omega), if_neg (by (try simp only [] at hj); omega)]
        exact hz j (by (try simp only [] at hj); omega)
      · have h1 := nv_set_add (l := o) (i := i + b.length) (x := c % 4294967296) (by omega)
        rw [hz (i + b.length) (Nat.le_refl _), Nat.mul_zero, Nat.add_zero, Nat.mod_eq_of_lt hc, hv, List.take_of_length_le (Nat.le_refl _)] at h1
        simp only [nv_take_succ a i]
        rw [Nat.mod_eq_of_lt hc, h1, Nat.add_mul]
        ac_rfl
  · have hiN : i = a.length := by have := of_decide_eq_false h; omega
    subst hiN
    rw [List.take_of_length_le (Nat.le_refl _)] at hv
    refine AW.exit ?_
    refine AW.seq ?_
    refine AW.region ?_
    refine AOps.run tok 1 _ _ _ _ rfl ?_
    refine AOps.frz tok 5 rfl rfl ?_
    refine AOps.call tok rfl rfl rfl rfl (integer_trim_ok out how (by omega)) ?_
    refine AOps.run tok 1 _ _ _ _ rfl ?_
    refine AOps.nil ?_
    rw [hv]
    exact AW.ret rfl
end Lift
namespace Lift
open Go Go.Proofs
set_option maxHeartbeats 800000 in
theorem integer_short_ok (a : List Nat) (b : Nat) (ha : W32 a) (hla : a.length ≤ 100000000) (hb : b < 4294967296) (hb0 : 0 < b) : Pure Tryz.prog 165 [Wd a, wd b] (.tu [Wd (tw (nv a / b)), wd (nv a % b)]) := by
  refine Pure.intro (n := 43) tok Tryz.func165 rfl rfl rfl (Nat.le_of_ble_eq_true rfl) (by kernel_rfl) (fun B F0 w0 => ?_)
  refine AW.seq ?_
  refine AW.region ?_
  refine AOps.run tok 2 _ _ _ _ rfl ?_
  refine AOps.nil ?_
  refine AW.seq ?_
  refine AW.region ?_
  refine AOps.run tok 2 _ _ _ _ rfl ?_
  refine AOps.makeW tok a.length rfl rfl rfl rfl rfl rfl (by simp only [List.length_map]) rfl (by omega) ?_
  refine AOps.run tok 1 _ _ _ _ rfl ?_
  refine AOps.nil ?_
  refine AW.seq ?_
  refine AW.region ?_
  refine AOps.run tok 1 _ _ _ _ rfl ?_
  refine AOps.nil ?_
  refine AW.seq ?_
  refine AW.seq ?_
  refine AW.region ?_
  refine AOps.run tok 4 _ _ _ _ rfl ?_
  rw [lenWd a, wI64 (by omega) (by omega)]
  refine AOps.nil ?_
  refine AW.block ?_
  refine AW.loopS [0, 1, 6, 7, 8] (fun s : Nat × List Nat × Nat => [(0, .d (Wd a)), (1, .d (wd b)), (6, .ow 141 (s.2.1.map wd)), (7, .d (dU s.2.2)), (8, .d (dI ((s.1 : Int) - 1)))])
    (fun s => s.1 ≤ a.length ∧ s.2.1.length = a.length ∧ W32 s.2.1 ∧ s.2.2 < b ∧ nv (a.drop s.1) = nv (s.2.1.drop s.1) * b + s.2.2) (fun s => s.1) (a.length, List.replicate a.length 0, 0) rfl ⟨Nat.le_refl _, by simp, W32.replicate _, hb0, by simp [nv]⟩ (fun (k, out, r) ⟨hk, hol, how, hr, hv⟩ => ?_)
  simp only [] at hk hol how hr hv
  refine AW.seq ?_
  refine AW.seq ?_
  refine AW.region ?_
  refine AOps.run tok 2 _ _ _ _ rfl ?_
  refine AOps.nil ?_
  refine AW.cond rfl (fun h => ?_) (fun h => ?_)
  · have hk0 : 0 < k := by have : (0 : Int) ≤ (k : Int) - 1 := by simpa using h
                           omega
    obtain ⟨j, rfl⟩ : ∃ j, k = j + 1 := ⟨k - 1, by omega⟩
    have hx := ha.getD j
    have ej : ((j + 1 : Nat) : Int) - 1 = (j : Int) := by omega
    rw [ej]
    refine AW.skip ?_
    refine AW.seq ?_
    refine AW.block ?_
    refine AW.seq ?_
    refine AW.region ?_
    refine AOps.run tok 4 _ _ _ _ rfl ?_
    refine AOps.idx tok (wd (a.getD j 0)) rfl rfl rfl rfl (Int.natCast_nonneg j) (getWd (by omega)) ?_
    refine AOps.run tok 4 _ _ _ _ rfl ?_
    rw [shlU32 r (by omega), cvU64 (a.getD j 0) (by omega), orW r (a.getD j 0) (by omega) (by omega)]
    refine AOps.nil ?_
    obtain ⟨S, hS⟩ : ∃ S, S = r * 4294967296 + a.getD j 0 := ⟨_, rfl⟩
    rw [← hS]
    have hSb : S / b < 4294967296 := by
      rw [Nat.div_lt_iff_lt_mul hb0]
      have : r * 4294967296 ≤ (b - 1) * 4294967296 := Nat.mul_le_mul_right _ (by omega)
      omega
    refine AW.seq ?_
    refine AW.region ?_
    refine AOps.run tok 5 _ _ _ _ rfl ?_
    rw [cvU64 b (by omega)]
    refine AOps.div tok rfl rfl rfl rfl (by omega) ?_
    rw [divVq S b (by omega)]
    refine AOps.run tok 1 _ _ _ _ rfl ?_
    refine AOps.idxo tok rfl rfl rfl rfl (Int.natCast_nonneg j) (by simp; omega) ?_
    refine AOps.storeW tok ((S / b) % 4294967296) rfl rfl rfl (by omega) (cvU32 _) ?_
    refine AOps.nil ?_
    refine AW.region ?_
    refine AOps.run tok 3 _ _ _ _ rfl ?_
    rw [cvU64 b (by omega)]
    refine AOps.div tok rfl rfl rfl rfl (by omega) ?_
    rw [divVr S b]
    refine AOps.run tok 1 _ _ _ _ rfl ?_
    refine AOps.nil ?_
    refine AW.region ?_
    refine AOps.run tok 3 _ _ _ _ rfl ?_
    rw [wI64 (by omega) (by omega)]
    refine AOps.nil ?_
    refine ⟨(j, out.set j ((S / b) % 4294967296), S % b), rfl, ⟨by omega, by simpa using hol, how.set _ (by omega), Nat.mod_lt _ hb0, ?_⟩, by simp only []; omega⟩
    simp only []
    rw [Nat.mod_eq_of_lt hSb, drop_getD a j (by omega), drop_getD (out.set j (S / b)) j (by simp; omega), getD_set _ _ _ _ (by omega), if_pos rfl, List.drop_set_of_lt (by omega)]
    simp only [nv, hv]
    have := Nat.div_add_mod S b
    have h2 : (S / b + 4294967296 * nv (out.drop (j + 1))) * b = b * (S / b) + 4294967296 * (nv (out.drop (j + 1)) * b) := by rw [Nat.add_mul, Nat.mul_comm (S / b), Nat.mul_assoc]
    rw [h2]
    omega
  · have hk0 : k = 0 := by have : ¬ (0 : Int) ≤ (k : Int) - 1 := by simpa using h
                           omega
    subst hk0
    simp only [List.drop_zero] at hv
    have hq : nv a / b = nv out := by rw [hv, Nat.mul_comm, Nat.mul_add_div hb0, Nat.div_eq_of_lt hr]; omega
    have hr' : nv a % b = r := by rw [hv, Nat.mul_comm, Nat.mul_add_mod, Nat.mod_eq_of_lt hr]
    refine AW.exit ?_
    refine AW.seq ?_
    refine AW.region ?_
    refine AOps.run tok 1 _ _ _ _ rfl ?_
    refine AOps.frz tok 6 rfl rfl ?_
    refine AOps.call tok rfl rfl rfl rfl (integer_trim_ok out how (by omega)) ?_
    refine AOps.run tok 4 _ _ _ _ rfl ?_
    rw [cvU32 r, Nat.mod_eq_of_lt (show r < 4294967296 by omega)]
    refine AOps.nil ?_
    rw [hq, hr']
    exact AW.ret rfl
theorem up_step {x n o : Nat} (hn : n < 32) (hx : x < 4294967296) (ho : o < 2 ^ n) : x * 2 ^ n < 18446744073709551616 ∧ (o ||| x * 2 ^ n % 4294967296) = o + x * 2 ^ n % 4294967296 ∧ o + x * 2 ^ n % 4294967296 < 4294967296 ∧ x * 2 ^ n / 4294967296 < 2 ^ n := by
  have h32 : (4294967296 : Nat) = 2 ^ (32 - n) * 2 ^ n := by rw [← Nat.pow_add, show 32 - n + n = 32 by omega]
  have hp : 0 < 2 ^ n := Nat.pow_pos (by decide)
  have hle : 2 ^ n ≤ 2 ^ 31 := Nat.pow_le_pow_right (by decide) (by omega)
  have h1 : x * 2 ^ n % 4294967296 = x % 2 ^ (32 - n) * 2 ^ n := by rw [h32, Nat.mul_mod_mul_right]
  have h2 : x % 2 ^ (32 - n) < 2 ^ (32 - n) := Nat.mod_lt _ (Nat.pow_pos (by decide))
  have h3 : (x % 2 ^ (32 - n) + 1) * 2 ^ n ≤ 2 ^ (32 - n) * 2 ^ n := Nat.mul_le_mul_right _ h2
  have h4 : x * 2 ^ n < 4294967296 * 2 ^ n := Nat.mul_lt_mul_of_pos_right hx hp
  have h5 : 4294967296 * 2 ^ n ≤ 4294967296 * 2 ^ 31 := Nat.mul_le_mul_left _ hle
  rw [Nat.add_mul, Nat.one_mul, ← h32] at h3
  refine ⟨by omega, ?_, ?_, ?_⟩
  · rw [h1, or_add' _ n o ho, Nat.add_comm]
  · rw [h1]; omega
  · rw [Nat.div_lt_iff_lt_mul (by decide), Nat.mul_comm (2 ^ n)]
    exact h4
set_option maxHeartbeats 800000 in
theorem integer_up_ok (a : List Nat) (n : Nat) (ha : W32 a) (hla : a.length ≤ 100000000) (hn : n < 32) : PureO Tryz.prog 167 [Wd a, dI n] 141 ((dg (a.length + 1) (nv a * 2 ^ n)).map wd) 0 (a.length + 1) := by
  refine PureO.intro (n := 41) tok Tryz.func167 rfl rfl rfl (Nat.le_of_ble_eq_true rfl) (by kernel_rfl) (fun B F0 w0 => ?_)
  refine AW.seq ?_
  refine AW.region ?_
  refine AOps.run tok 1 _ _ _ _ rfl ?_
  refine AOps.nil ?_
  refine AW.seq ?_
  refine AW.region ?_
  refine AOps.run tok 3 _ _ _ _ rfl ?_
  refine AOps.makeW tok (a.length + 1) rfl rfl rfl rfl rfl rfl (by simp only [List.length_map]; rw [wI64 (by omega) (by omega)]; omega) rfl (by omega) ?_
  refine AOps.run tok 1 _ _ _ _ rfl ?_
  refine AOps.nil ?_
  refine AW.seq ?_
  refine AW.seq ?_
  refine AW.region ?_
  refine AOps.run tok 3 _ _ _ _ rfl ?_
  rw [lenWd a]
  refine AOps.nil ?_
  refine AW.block ?_
  refine AW.loopS [0, 1, 5, 13, 14, 15] (fun s : Nat × List Nat => [(0, .d (Wd a)), (1, .d (dI n)), (5, .ow 141 (s.2.map wd)), (13, .d (Wd a)), (14, .d (dI a.length)), (15, .d (dI s.1))])
    (fun s => s.1 ≤ a.length ∧ s.2.length = a.length + 1 ∧ W32 s.2 ∧ s.2.getD s.1 0 < 2 ^ n ∧ (∀ j, s.1 < j → s.2.getD j 0 = 0) ∧ nv s.2 = nv (a.take s.1) * 2 ^ n) (fun s => a.length - s.1) (0, List.replicate (a.length + 1) 0) rfl
    ⟨Nat.zero_le _, by simp, W32.replicate _, by simpa [List.getD, List.getElem?_replicate] using Nat.pow_pos (by decide), fun j _ => by simp [List.getD, List.getElem?_replicate]; split <;> rfl, by simp [nv, nv_replicate]⟩ (fun (i, out) ⟨hi, hol, how, htop, hz, hv⟩ => ?_)
  simp only [] at hi hol how htop hz hv
  refine AW.seq ?_
  refine AW.region ?_
  refine AOps.run tok 1 _ _ _ _ rfl ?_
  refine AOps.nil ?_
  refine AW.seq ?_
  refine AW.cond rfl (fun h => ?_) (fun h => ?_)
  · have hiN : i < a.length := by have := of_decide_eq_true h; omega
    have hx := ha.getD i
    obtain ⟨u1, u2, u3, u4⟩ := up_step (o := out.getD i 0) hn hx htop
    have h2n : 2 ^ n ≤ 2 ^ 31 := Nat.pow_le_pow_right (by decide) (by omega)
    refine AW.skip ?_
    refine AW.seq ?_
    refine AW.block ?_
    refine AW.seq ?_
    refine AW.region ?_
    refine AOps.run tok 1 _ _ _ _ rfl ?_
    refine AOps.idx tok (wd (a.getD i 0)) rfl rfl rfl rfl (Int.natCast_nonneg i) (getWd (by omega)) ?_
    refine AOps.run tok 3 _ _ _ _ rfl ?_
    refine AOps.nil ?_
    refine AW.seq ?_
    refine AW.region ?_
    refine AOps.run tok 5 _ _ _ _ rfl ?_
    rw [cvU64 (a.getD i 0) (by omega), shlU (a.getD i 0) n (by omega) u1]
    refine AOps.nil ?_
    obtain ⟨Y, hY⟩ : ∃ Y, Y = a.getD i 0 * 2 ^ n := ⟨_, rfl⟩
    rw [← hY]
    rw [← hY] at u1 u2 u3 u4
    refine AW.seq ?_
    refine AW.region ?_
    refine AOps.run tok 2 _ _ _ _ rfl ?_
    refine AOps.idxo tok rfl rfl rfl rfl (Int.natCast_nonneg i) (by simp; omega) ?_
    refine AOps.loadel tok (wd (out.getD i 0)) rfl rfl rfl rfl (getWd (by simp; omega)) rfl ?_
    refine AOps.run tok 3 _ _ _ _ rfl ?_
    rw [cvU32 Y, orU32 (out.getD i 0) (Y % 4294967296) (by omega) (by omega), u2]
    refine AOps.idxo tok rfl rfl rfl rfl (Int.natCast_nonneg i) (by simp; omega) ?_
    refine AOps.storeW tok (out.getD i 0 + Y % 4294967296) rfl rfl rfl (by simp; omega) rfl ?_
    refine AOps.nil ?_
    refine AW.region ?_
    refine AOps.run tok 6 _ _ _ _ rfl ?_
    rw [wI64 (x := (i : Int) + 1) (by omega) (by omega), show (i : Int) + 1 = ((i + 1 : Nat) : Int) by omega, shrU32]
    refine AOps.idxo tok rfl rfl rfl rfl (Int.natCast_nonneg (i + 1)) (by simp; omega) ?_
    refine AOps.storeW tok (Y / 4294967296 % 4294967296) rfl rfl rfl (by simp; omega) (cvU32 _) ?_
    refine AOps.nil ?_
    refine AW.region ?_
    refine AOps.run tok 2 _ _ _ _ rfl ?_
    rw [wI64 (by omega) (by omega)]
    refine AOps.nil ?_
    have hY4 : Y / 4294967296 % 4294967296 = Y / 4294967296 := Nat.mod_eq_of_lt (by omega)
    rw [hY4]
    refine ⟨(i + 1, (out.set i (out.getD i 0 + Y % 4294967296)).set (i + 1) (Y / 4294967296)), rfl, ⟨by omega, by simpa using hol, (how.set _ u3).set _ (by omega), ?_, fun j hj => ?_, ?_⟩, by simp only []; omega⟩
    · simp only []
      rw [getD_set _ _ _ _ (by simp; omega), if_pos rfl]
      exact u4
    · simp only [] at hj ⊢
      rw [getD_set _ _ _ _ (by simp; omega), if_neg (by omega), getD_set _ _ _ _ (by omega), if_neg (by omega)]
      exact hz j (by omega)
    · have h1 := nv_set_add (l := out) (i := i) (x := out.getD i 0 + Y % 4294967296) (by omega)
      have h2 := nv_set_add (l := out.set i (out.getD i 0 + Y % 4294967296)) (i := i + 1) (x := Y / 4294967296) (by simp; omega)
      rw [getD_set _ _ _ _ (by omega), if_neg (by omega), hz (i + 1) (by omega), Nat.mul_zero, Nat.add_zero, Nat.pow_succ] at h2
      have h3 := carry_step (4294967296 ^ i) Y
      rw [Nat.mul_add] at h1
      simp only [nv_take_succ a i, h2, Nat.add_mul]
      have h4 : 4294967296 ^ i * a.getD i 0 * 2 ^ n = 4294967296 ^ i * Y := by rw [hY, Nat.mul_assoc]
      omega
  · have hiN : i = a.length := by have := of_decide_eq_false h; omega
    subst hiN
    rw [List.take_of_length_le (Nat.le_refl _)] at hv
    have hres := eq_dg how hol hv
    refine AW.exit ?_
    refine AW.seq ?_
    refine AW.region ?_
    refine AOps.run tok 2 _ _ _ _ rfl ?_
    refine AOps.nil ?_
    refine AW.ret ?_
    rw [← hres]
    exact congrArg (fun z => some (_, out.map wd, 0, z)) (show (out.map wd).length = a.length + 1 by simpa using hol)
end Lift
namespace Lift
open Go Go.Proofs
theorem lenWin {l : List Nat} {lo m : Nat} (h : lo + m ≤ l.length) : (((l.map wd).drop lo).take m).length = m := by simp; omega
theorem down_digit (v n i : Nat) (hn : n < 32) : v / 2 ^ n / 4294967296 ^ i % 4294967296 = (v / 4294967296 ^ (i + 1) % 4294967296 * 4294967296 + v / 4294967296 ^ i % 4294967296) / 2 ^ n % 4294967296 := by
  rw [Nat.div_div_eq_div_mul, Nat.mul_comm (2 ^ n), ← Nat.div_div_eq_div_mul, Nat.pow_succ, ← Nat.div_div_eq_div_mul]
  generalize v / 4294967296 ^ i = w
  have h32 : (4294967296 : Nat) = 2 ^ n * 2 ^ (32 - n) := by rw [← Nat.pow_add, show n + (32 - n) = 32 by omega]
  have hp : 0 < 2 ^ n := Nat.pow_pos (by decide)
  have h1 : w = 4294967296 * 4294967296 * (w / 4294967296 / 4294967296) + (w / 4294967296 % 4294967296 * 4294967296 + w % 4294967296) := by omega
  have h2 : 4294967296 * 4294967296 * (w / 4294967296 / 4294967296) = 2 ^ n * (4294967296 * (2 ^ (32 - n) * (w / 4294967296 / 4294967296))) := by
    conv => lhs; rw [Nat.mul_assoc]; lhs; rw [h32]
    ac_rfl
  conv => lhs; rw [h1, h2, Nat.mul_add_div hp, Nat.mul_add_mod]
set_option maxHeartbeats 800000 in
theorem integer_down_ok (a : List Nat) (n : Nat) (ha : W32 a) (hla : a.length ≤ 100000000) (hn : n < 32) : Pure Tryz.prog 170 [Wd a, dI n] (Wd (tw (nv a / 2 ^ n))) := by
  refine Pure.intro (n := 35) tok Tryz.func170 rfl rfl rfl (Nat.le_of_ble_eq_true rfl) (by kernel_rfl) (fun B F0 w0 => ?_)
  refine AW.seq ?_
  refine AW.region ?_
  refine AOps.run tok 1 _ _ _ _ rfl ?_
  refine AOps.nil ?_
  refine AW.seq ?_
  refine AW.region ?_
  refine AOps.run tok 2 _ _ _ _ rfl ?_
  refine AOps.makeW tok a.length rfl rfl rfl rfl rfl rfl (by simp only [List.length_map]) rfl (by omega) ?_
  refine AOps.run tok 1 _ _ _ _ rfl ?_
  refine AOps.nil ?_
  refine AW.seq ?_
  refine AW.seq ?_
  refine AW.region ?_
  refine AOps.run tok 3 _ _ _ _ rfl ?_
  rw [lenWd a]
  refine AOps.nil ?_
  refine AW.block ?_
  refine AW.loopS [0, 1, 5, 11, 12] (fun s : Nat × List Nat => [(0, .d (Wd a)), (1, .d (dI n)), (5, .ow 141 (s.2.map wd)), (11, .d (dI a.length)), (12, .d (dI s.1))])
    (fun s => s.1 ≤ a.length ∧ s.2.length = a.length ∧ W32 s.2 ∧ ∀ j, j < s.1 → s.2.getD j 0 = nv a / 2 ^ n / 4294967296 ^ j % 4294967296) (fun s => a.length - s.1) (0, List.replicate a.length 0) rfl ⟨Nat.zero_le _, by simp, W32.replicate _, fun j hj => by simp at hj⟩ (fun (i, out) ⟨hi, hol, how, hv⟩ => ?_)
  simp only [] at hi hol how hv
  refine AW.seq ?_
  refine AW.region ?_
  refine AOps.run tok 1 _ _ _ _ rfl ?_
  refine AOps.nil ?_
  refine AW.seq ?_
  refine AW.cond rfl (fun h => ?_) (fun h => ?_)
  · have hiN : i < a.length := by have := of_decide_eq_true h; omega
    have hx := ha.getD i
    have hy := ha.getD (i + 1)
    refine AW.skip ?_
    refine AW.seq ?_
    refine AW.block ?_
    refine AW.seq ?_
    refine AW.region ?_
    refine AOps.run tok 2 _ _ _ _ rfl ?_
    refine AOps.nil ?_
    refine AW.draw hmix 17 (by kernel_rfl) ?_
    refine APre.run tok 4 _ _ _ _ rfl ?_
    refine APre.idx tok (wd (a.getD i 0)) rfl rfl rfl rfl rfl (Int.natCast_nonneg i) (getWd (by omega)) ?_
    refine APre.run tok 5 _ _ _ _ rfl ?_
    rw [wI64 (x := (i : Int) + 1) (by omega) (by omega), show (i : Int) + 1 = ((i + 1 : Nat) : Int) by omega]
    refine APre.call tok rfl rfl rfl rfl rfl (integer_word_ok a ha (i + 1)) ?_
    refine APre.run tok 5 _ _ _ _ rfl ?_
    rw [shlU32 (a.getD (i + 1) 0) hy, cvU64 (a.getD i 0) (by omega), orW' (a.getD (i + 1) 0) (a.getD i 0) hy hx, shrU (a.getD (i + 1) 0 * 4294967296 + a.getD i 0) n (by omega), cvU32]
    refine APre.idxo tok rfl rfl rfl rfl rfl rfl (Int.natCast_nonneg i) (by simp; omega) ?_
    refine APre.nil ?_
    refine AOps.storeW tok ((a.getD (i + 1) 0 * 4294967296 + a.getD i 0) / 2 ^ n % 4294967296) rfl rfl rfl (by omega) rfl ?_
    refine AOps.nil ?_
    refine AW.region ?_
    refine AOps.run tok 2 _ _ _ _ rfl ?_
    rw [wI64 (by omega) (by omega)]
    refine AOps.nil ?_
    refine ⟨(i + 1, out.set i ((a.getD (i + 1) 0 * 4294967296 + a.getD i 0) / 2 ^ n % 4294967296)), rfl, ⟨by omega, by simpa using hol, how.set _ (by omega), fun j hj => ?_⟩, by simp only []; omega⟩
    simp only [] at hj ⊢
    rw [getD_set _ _ _ _ (by omega)]
    split
    · rename_i hji
      subst hji
      rw [down_digit _ _ _ hn, ← nv_digit ha, ← nv_digit ha]
    · exact hv j (by omega)
  · have hiN : i = a.length := by have := of_decide_eq_false h; omega
    subst hiN
    have hres : nv out = nv a / 2 ^ n := by
      have h1 : out = dg a.length (nv a / 2 ^ n) := by
        refine ext_getD (by rw [hol, dg_length]) (fun j hj => ?_)
        have h2 := nv_digit (w32_dg a.length (nv a / 2 ^ n)) j
        rw [h2, nv_dg, hv j (by omega)]
        have h3 : nv a / 2 ^ n < 4294967296 ^ a.length := Nat.lt_of_le_of_lt (Nat.div_le_self _ _) (nv_lt ha)
        rw [Nat.mod_eq_of_lt h3]
      rw [h1, nv_dg]
      exact Nat.mod_eq_of_lt (Nat.lt_of_le_of_lt (Nat.div_le_self _ _) (nv_lt ha))
    refine AW.exit ?_
    refine AW.seq ?_
    refine AW.region ?_
    refine AOps.run tok 1 _ _ _ _ rfl ?_
    refine AOps.frz tok 5 rfl rfl ?_
    refine AOps.call tok rfl rfl rfl rfl (integer_trim_ok out how (by omega)) ?_
    refine AOps.run tok 1 _ _ _ _ rfl ?_
    refine AOps.nil ?_
    rw [hres]
    exact AW.ret rfl
set_option maxHeartbeats 800000 in
theorem integer_back_ok (L v : List Nat) (lo m : Nat) (hL : W32 L) (hv : W32 v) (hlm : lo + m ≤ L.length) (hvm : v.length ≤ m) (hm : m ≤ 100000000) :
    Mut Tryz.prog 169 141 (L.map wd) lo m [Wd v] ((put L lo m (dg m (nv (win L lo m) + nv v))).map wd) (.val (.tu [])) := by
  refine Mut.intro (n := 30) tok Tryz.func169 rfl rfl rfl (Nat.le_of_ble_eq_true rfl) (by kernel_rfl) (by rw [List.length_map, List.length_map, put_length hlm (dg_length _ _)]) (fun B F0 w0 => ?_)
  refine AW.seq ?_
  refine AW.region ?_
  refine AOps.run tok 1 _ _ _ _ rfl ?_
  refine AOps.nil ?_
  refine AW.seq ?_
  refine AW.region ?_
  refine AOps.run tok 3 _ _ _ _ rfl ?_
  rw [lenWin hlm]
  refine AOps.nil ?_
  refine AW.block ?_
  refine AW.loopS [0, 1, 4, 7, 8] (fun s : Nat × List Nat × Nat => [(0, .wn true 141 (s.2.1.map wd) lo m), (1, .d (Wd v)), (4, .d (dU s.2.2)), (7, .d (dI m)), (8, .d (dI s.1))])
    (fun s => s.1 ≤ m ∧ s.2.1.length = L.length ∧ W32 s.2.1 ∧ s.2.2 ≤ 1 ∧ s.2.1.take lo = L.take lo ∧ s.2.1.drop (lo + s.1) = L.drop (lo + s.1) ∧ nv ((s.2.1.drop lo).take s.1) + 4294967296 ^ s.1 * s.2.2 = nv ((L.drop lo).take s.1) + nv (v.take s.1)) (fun s => m - s.1) (0, L, 0) rfl ⟨Nat.zero_le _, rfl, hL, by simp, rfl, rfl, by simp [nv]⟩ (fun (i, M, c) ⟨hi, hMl, hMw, hc, ht, hd, he⟩ => ?_)
  simp only [] at hi hMl hMw hc ht hd he
  refine AW.seq ?_
  refine AW.region ?_
  refine AOps.run tok 1 _ _ _ _ rfl ?_
  refine AOps.nil ?_
  refine AW.seq ?_
  refine AW.cond rfl (fun h => ?_) (fun h => ?_)
  · have hiN : i < m := by have := of_decide_eq_true h; omega
    have hx := hMw.getD (lo + i)
    have hy := hv.getD i
    have hME := getD_of_drop hd
    refine AW.skip ?_
    refine AW.seq ?_
    refine AW.block ?_
    refine AW.seq ?_
    refine AW.region ?_
    refine AOps.run tok 2 _ _ _ _ rfl ?_
    refine AOps.nil ?_
    refine AW.seq ?_
    refine AW.draw hmix 11 (by kernel_rfl) ?_
    refine APre.run tok 3 _ _ _ _ rfl ?_
    refine APre.idxw tok rfl rfl rfl rfl rfl rfl (Int.natCast_nonneg i) hiN ?_
    refine APre.loadel tok (wd (M.getD (lo + i) 0)) rfl rfl rfl rfl rfl (getWd (by simp; omega)) rfl ?_
    refine APre.run tok 3 _ _ _ _ rfl ?_
    refine APre.call tok rfl rfl rfl rfl rfl (integer_word_ok v hv i) ?_
    refine APre.run tok 2 _ _ _ _ rfl ?_
    refine APre.nil ?_
    refine AOps.run tok 1 _ _ _ _ rfl ?_
    rw [cvU64 (M.getD (lo + i) 0) (by omega), addU (M.getD (lo + i) 0) (v.getD i 0) (by omega), addU c _ (by omega)]
    refine AOps.nil ?_
    obtain ⟨S, hS⟩ : ∃ S, S = c + (M.getD (lo + i) 0 + v.getD i 0) := ⟨_, rfl⟩
    rw [← hS]
    refine AW.seq ?_
    refine AW.region ?_
    refine AOps.run tok 4 _ _ _ _ rfl ?_
    refine AOps.idxw tok rfl rfl rfl rfl (Int.natCast_nonneg i) hiN ?_
    refine AOps.storeV tok (S % 4294967296) rfl rfl rfl (by simp; omega) (cvU32 _) ?_
    refine AOps.nil ?_
    refine AW.region ?_
    refine AOps.run tok 3 _ _ _ _ rfl ?_
    rw [shrU32]
    refine AOps.nil ?_
    refine AW.region ?_
    refine AOps.run tok 2 _ _ _ _ rfl ?_
    rw [wI64 (by omega) (by omega)]
    refine AOps.nil ?_
    refine ⟨(i + 1, M.set (lo + i) (S % 4294967296), S / 4294967296), rfl, ⟨by omega, by simpa using hMl, hMw.set _ (by omega), by show S / 4294967296 ≤ 1; omega, ?_, ?_, ?_⟩, by simp only []; omega⟩
    · simp only [take_set_ge, ht]
    · simp only []
      rw [← Nat.add_assoc, drop_set_lt, drop_succ hd]
    · simp only []
      rw [nv_win_set (by omega), nv_take_succ (L.drop lo) i, nv_take_succ v i, getD_drop, ← hME, Nat.pow_succ]
      have := carry_step (4294967296 ^ i) S
      rw [hS, Nat.mul_add, Nat.mul_add, ← hS] at this
      omega
  · have hiN : i = m := by have := of_decide_eq_false h; omega
    subst hiN
    rw [List.take_of_length_le (l := v) hvm] at he
    have hres : put L lo i (dg i (nv (win L lo i) + nv v)) = M := by
      have h1 : win M lo i = dg i (nv (win M lo i)) := eq_dg (hMw.win lo i) (win_length (by omega)) rfl
      have h2 : dg i (nv (win M lo i)) = dg i (nv (win L lo i) + nv v) := by
        have e : nv (win L lo i) + nv v = nv (win M lo i) + 4294967296 ^ i * c := he.symm
        have h3 : nv (win M lo i) < 4294967296 ^ i := by have := nv_lt (hMw.win lo i); rwa [win_length (by omega)] at this
        have h4 : nv (dg i (nv (win M lo i))) = nv (dg i (nv (win L lo i) + nv v)) := by rw [nv_dg, nv_dg, e, Nat.add_mul_mod_self_left]
        exact nv_inj (w32_dg _ _) (w32_dg _ _) (by rw [dg_length, dg_length]) h4
      exact (eq_put ht hd (h1.trans h2)).symm
    rw [hres]
    refine AW.exit ?_
    exact ⟨⟨lo, i, rfl⟩, rfl, rfl⟩
set_option maxHeartbeats 800000 in
theorem integer_remove_ok (L v : List Nat) (lo m n : Nat) (hL : W32 L) (hv : W32 v) (hn : n < 4294967296) (hlm : lo + m ≤ L.length) (hvm : v.length < m) (hm : m ≤ 100000000) :
    Mut Tryz.prog 168 141 (L.map wd) lo m [Wd v, dU n] ((put L lo m (dg m (nv (win L lo m) + (if nv (win L lo m) < n * nv v then 4294967296 ^ m else 0) - n * nv v))).map wd) (.val (dB (decide (nv (win L lo m) < n * nv v)))) := by
  refine Mut.intro (n := 46) tok Tryz.func168 rfl rfl rfl (Nat.le_of_ble_eq_true rfl) (by kernel_rfl) (by rw [List.length_map, List.length_map, put_length hlm (dg_length _ _)]) (fun B F0 w0 => ?_)
  refine AW.seq ?_
  refine AW.region ?_
  refine AOps.run tok 1 _ _ _ _ rfl ?_
  refine AOps.nil ?_
  refine AW.seq ?_
  refine AW.region ?_
  refine AOps.run tok 2 _ _ _ _ rfl ?_
  refine AOps.nil ?_
  refine AW.seq ?_
  refine AW.seq ?_
  refine AW.region ?_
  refine AOps.run tok 3 _ _ _ _ rfl ?_
  rw [lenWin hlm]
  refine AOps.nil ?_
  refine AW.block ?_
  refine AW.loopS [0, 1, 2, 7, 8, 12, 13] (fun s : Nat × List Nat × Nat × Nat => [(0, .wn true 141 (s.2.1.map wd) lo m), (1, .d (Wd v)), (2, .d (dU n)), (7, .d (dU s.2.2.1)), (8, .d (dU s.2.2.2)), (12, .d (dI m)), (13, .d (dI s.1))])
    (fun s => s.1 ≤ m ∧ s.2.1.length = L.length ∧ W32 s.2.1 ∧ s.2.2.1 < 4294967296 ∧ s.2.2.2 ≤ 1 ∧ (v.length < s.1 → s.2.2.1 = 0) ∧ s.2.1.take lo = L.take lo ∧ s.2.1.drop (lo + s.1) = L.drop (lo + s.1) ∧
      nv ((s.2.1.drop lo).take s.1) + n * nv (v.take s.1) = nv ((L.drop lo).take s.1) + 4294967296 ^ s.1 * (s.2.2.1 + s.2.2.2)) (fun s => m - s.1) (0, L, 0, 0) rfl ⟨Nat.zero_le _, rfl, hL, by simp, by simp, fun _ => rfl, rfl, rfl, by simp [nv]⟩ (fun (i, M, c, b) ⟨hi, hMl, hMw, hc, hb, hc0, ht, hd, he⟩ => ?_)
  simp only [] at hi hMl hMw hc hb hc0 ht hd he
  refine AW.seq ?_
  refine AW.region ?_
  refine AOps.run tok 1 _ _ _ _ rfl ?_
  refine AOps.nil ?_
  refine AW.seq ?_
  refine AW.cond rfl (fun h => ?_) (fun h => ?_)
  · have hiN : i < m := by have := of_decide_eq_true h; omega
    have hx := hMw.getD (lo + i)
    have hy := hv.getD i
    have hME := getD_of_drop hd
    have hny : n * v.getD i 0 ≤ 4294967295 * 4294967295 := Nat.mul_le_mul (by omega) (by omega)
    refine AW.skip ?_
    refine AW.seq ?_
    refine AW.block ?_
    refine AW.seq ?_
    refine AW.region ?_
    refine AOps.run tok 2 _ _ _ _ rfl ?_
    refine AOps.nil ?_
    refine AW.seq ?_
    refine AW.region ?_
    refine AOps.run tok 4 _ _ _ _ rfl ?_
    refine AOps.call tok rfl rfl rfl rfl (integer_word_ok v hv i) ?_
    refine AOps.run tok 3 _ _ _ _ rfl ?_
    rw [mulU n (v.getD i 0) (by omega), addU c _ (by omega)]
    refine AOps.nil ?_
    obtain ⟨S, hS⟩ : ∃ S, S = c + n * v.getD i 0 := ⟨_, rfl⟩
    rw [← hS]
    refine AW.seq ?_
    refine AW.region ?_
    refine AOps.run tok 2 _ _ _ _ rfl ?_
    refine AOps.idxw tok rfl rfl rfl rfl (Int.natCast_nonneg i) hiN ?_
    refine AOps.loadel tok (wd (M.getD (lo + i) 0)) rfl rfl rfl rfl (getWd (by simp; omega)) rfl ?_
    refine AOps.run tok 8 _ _ _ _ rfl ?_
    rw [cvU64 (M.getD (lo + i) 0) (by omega), cvU32 S, cvU64 (S % 4294967296) (by omega), subU (M.getD (lo + i) 0) (S % 4294967296) b hx (by omega) hb]
    refine AOps.nil ?_
    obtain ⟨D, hD⟩ : ∃ D, D = (if S % 4294967296 + b ≤ M.getD (lo + i) 0 then M.getD (lo + i) 0 - S % 4294967296 - b else 18446744073709551616 + M.getD (lo + i) 0 - S % 4294967296 - b : Nat) := ⟨_, rfl⟩
    rw [← hD]
    refine AW.seq ?_
    refine AW.region ?_
    refine AOps.run tok 4 _ _ _ _ rfl ?_
    refine AOps.idxw tok rfl rfl rfl rfl (Int.natCast_nonneg i) hiN ?_
    refine AOps.storeV tok (D % 4294967296) rfl rfl rfl (by simp; omega) (cvU32 _) ?_
    refine AOps.nil ?_
    refine AW.seq ?_
    refine AW.region ?_
    refine AOps.run tok 3 _ _ _ _ rfl ?_
    rw [shrU63]
    refine AOps.nil ?_
    refine AW.region ?_
    refine AOps.run tok 3 _ _ _ _ rfl ?_
    rw [shrU32]
    refine AOps.nil ?_
    refine AW.region ?_
    refine AOps.run tok 2 _ _ _ _ rfl ?_
    rw [wI64 (by omega) (by omega)]
    refine AOps.nil ?_
    have hkey : D / 9223372036854775808 ≤ 1 ∧ D % 4294967296 + S % 4294967296 + b = M.getD (lo + i) 0 + 4294967296 * (D / 9223372036854775808) := by
      rw [hD]; split <;> omega
    refine ⟨(i + 1, M.set (lo + i) (D % 4294967296), S / 4294967296, D / 9223372036854775808), rfl, ⟨by omega, by simpa using hMl, hMw.set _ (by omega), by show S / 4294967296 < 4294967296; omega, hkey.1, fun hvi => ?_, ?_, ?_, ?_⟩, by simp only []; omega⟩
    · simp only [] at hvi ⊢
      rw [hS, getD_of_ge (by omega), Nat.mul_zero]
      omega
    · simp only [take_set_ge, ht]
    · simp only []
      rw [← Nat.add_assoc, drop_set_lt, drop_succ hd]
    · simp only []
      rw [nv_win_set (by omega), nv_take_succ (L.drop lo) i, nv_take_succ v i, getD_drop, ← hME, Nat.pow_succ]
      have h1 := carry_step (4294967296 ^ i) S
      have h2 := congrArg (fun z => 4294967296 ^ i * z) hkey.2
      simp only [Nat.mul_add] at h2
      have h3 : n * (nv (v.take i) + 4294967296 ^ i * v.getD i 0) = n * nv (v.take i) + 4294967296 ^ i * (n * v.getD i 0) := by rw [Nat.mul_add]; congr 1; ac_rfl
      have h4 : 4294967296 ^ i * S = 4294967296 ^ i * c + 4294967296 ^ i * (n * v.getD i 0) := by rw [hS, Nat.mul_add]
      rw [h3, Nat.mul_add (4294967296 ^ i * 4294967296), Nat.mul_assoc (4294967296 ^ i) 4294967296 (D / _)]
      rw [Nat.mul_add] at he
      omega
  · have hiN : i = m := by have := of_decide_eq_false h; omega
    subst hiN
    rw [hc0 hvm, Nat.zero_add, List.take_of_length_le (l := v) (by omega)] at he
    have hw : nv (win M lo i) < 4294967296 ^ i := by have := nv_lt (hMw.win lo i); rwa [win_length (by omega)] at this
    have he : nv (win M lo i) + n * nv v = nv (win L lo i) + 4294967296 ^ i * b := he
    have hbb : (nv (win L lo i) < n * nv v) ↔ b = 1 := by
      constructor
      · intro hlt
        rcases Nat.eq_zero_or_pos b with h | h
        · rw [h] at he; omega
        · omega
      · intro h; rw [h] at he; omega
    have hif : (if nv (win L lo i) < n * nv v then 4294967296 ^ i else 0) = 4294967296 ^ i * b := by
      split
      · rename_i h; rw [hbb.1 h, Nat.mul_one]
      · rename_i h
        have : b = 0 := by have : ¬ b = 1 := fun e => h (hbb.2 e); omega
        rw [this, Nat.mul_zero]
    have hres : put L lo i (dg i (nv (win L lo i) + (if nv (win L lo i) < n * nv v then 4294967296 ^ i else 0) - n * nv v)) = M := by
      refine (eq_put ht hd (eq_dg (hMw.win lo i) (win_length (by omega)) ?_)).symm
      rw [hif]
      omega
    rw [hres]
    refine AW.exit ?_
    refine AW.seq ?_
    refine AW.region ?_
    refine AOps.run tok 3 _ _ _ _ rfl ?_
    refine AOps.nil ?_
    refine AW.ret ?_
    have hd : decide (nv (win L lo i) < n * nv v) = ((b : Int) == 1) := by
      by_cases h : nv (win L lo i) < n * nv v
      · rw [hbb.1 h]; simp [h, hbb.1 h]
      · have : b ≠ 1 := fun e => h (hbb.2 e)
        have h2 : ¬ (b : Int) = 1 := by omega
        simp [h, h2]
    rw [hd]
    exact ⟨⟨lo, i, rfl⟩, rfl, rfl⟩
end Lift
namespace Lift
open Go Go.Proofs
def bl (n : Nat) : Nat := if h : n = 0 then 0 else 1 + bl (n / 2)
termination_by n
decreasing_by omega
theorem bl_zero : bl 0 = 0 := by rw [bl]; simp
theorem bl_pos {n : Nat} (h : n ≠ 0) : bl n = 1 + bl (n / 2) := by rw [bl]; simp [h]
theorem bl_shift : ∀ (k x : Nat), 2 ^ k ≤ x → bl x = k + bl (x / 2 ^ k)
  | 0, x, _ => by simp
  | k + 1, x, h => by
    have hp : 0 < 2 ^ k := Nat.pow_pos (by decide)
    rw [Nat.pow_succ] at h
    have h2 : 2 ^ k ≤ x / 2 := by omega
    rw [bl_pos (by omega), bl_shift k (x / 2) h2, Nat.pow_succ, Nat.mul_comm, Nat.div_div_eq_div_mul]
    omega
theorem lt_bl (n : Nat) : n < 2 ^ bl n := by
  induction n using Nat.strongRecOn with
  | ind n ih =>
    by_cases h : n = 0
    · subst h; simp [bl_zero]
    · have := ih (n / 2) (by omega)
      rw [bl_pos h, Nat.add_comm, Nat.pow_succ]
      omega
theorem bl_le {n : Nat} (h : n ≠ 0) : 0 < bl n ∧ 2 ^ (bl n - 1) ≤ n := by
  induction n using Nat.strongRecOn with
  | ind n ih =>
    rw [bl_pos h]
    refine ⟨by omega, ?_⟩
    rw [show 1 + bl (n / 2) - 1 = bl (n / 2) by omega]
    by_cases h2 : n / 2 = 0
    · rw [h2, bl_zero]; omega
    · have := ih (n / 2) (by omega) h2
      have e : 2 ^ bl (n / 2) = 2 ^ (bl (n / 2) - 1) * 2 := by rw [← Nat.pow_succ]; congr 1; omega
      omega
theorem bl_le_of_lt {n k : Nat} (h : n < 2 ^ k) : bl n ≤ k := by
  by_cases h0 : n = 0
  · subst h0; rw [bl_zero]; omega
  · obtain ⟨h1, h2⟩ := bl_le h0
    have : 2 ^ (bl n - 1) < 2 ^ k := Nat.lt_of_le_of_lt h2 h
    have := (Nat.pow_lt_pow_iff_right (by decide : 1 < 2)).1 this
    omega
theorem shrW (m k : Nat) (hk : k ≤ 32) : (m : Int).fdiv (2 ^ (min k IntKind.u32.bits)) = ((m / 2 ^ k : Nat) : Int) := by
  rw [show min k IntKind.u32.bits = k from Nat.min_eq_left hk, Int.fdiv_eq_ediv_of_nonneg _ (Int.pow_nonneg (by decide))]
  push_cast
  rfl
theorem wU8 {x : Int} (h0 : 0 ≤ x) (h1 : x < 256) : IntKind.u8.wrap x = x := by
  simp only [IntKind.wrap, IntKind.bits, IntKind.signed]
  simp
  omega
section
variable {P : Program} {T : Ty} {B : Nat} {F0 : Nat → Prop} {w0 : Bas} {n : Nat} {o : Oper} {d : Nat} {σ : St} {K : St → Prop} {all : Array Oper} {rest : List Oper}
theorem AOps.strixT (hT : TOk P T) (tab : Nat → Nat) (N : Nat) {s : ByteArray} {x : Nat} (hd : o.dst = some d) (hdn : Nat.ble (d + 1) n = true) (hg : guardOk all σ o = true) (hx : strI T σ.get o.op = some (s, (x : Int))) (hlt : x < N)
    (hs : Nat.beq s.size N = true) (htab : (List.range N).all (fun i => Nat.beq (s.data.toList.getD i 0).toNat (tab i)) = true)
    (h : AOps P B F0 w0 n all rest K ((d, .d (.v (.int .u8 ((tab x : Nat) : Int)))) :: σ)) : AOps P B F0 w0 n all (o :: rest) K σ := by
  refine AOps.strix hT hd hdn hg hx (Int.natCast_nonneg x) (by have := Nat.eq_of_beq_eq_true hs; simp; omega) ?_
  have := List.all_eq_true.1 htab x (List.mem_range.2 hlt)
  have := Nat.eq_of_beq_eq_true this
  rw [Int.toNat_natCast, this]
  exact h
end
def bl8 (i : Nat) : Nat := if i = 0 then 0 else if i < 2 then 1 else if i < 4 then 2 else if i < 8 then 3 else if i < 16 then 4 else if i < 32 then 5 else if i < 64 then 6 else if i < 128 then 7 else 8
theorem bl8_ok {i : Nat} (h : i < 256) : bl8 i = bl i := by
  have lo : ∀ k, 2 ^ k ≤ i → i < 2 ^ (k + 1) → bl i = k + 1 := fun k h1 h2 => by
    have h3 := bl_le_of_lt h2
    have h4 := lt_bl i
    have : 2 ^ k < 2 ^ bl i := Nat.lt_of_le_of_lt h1 h4
    have := (Nat.pow_lt_pow_iff_right (by decide : 1 < 2)).1 this
    omega
  unfold bl8
  split
  · rename_i h; rw [h, bl_zero]
  split
  · exact (lo 0 (by omega) (by omega)).symm
  split
  · exact (lo 1 (by omega) (by omega)).symm
  split
  · exact (lo 2 (by omega) (by omega)).symm
  split
  · exact (lo 3 (by omega) (by omega)).symm
  split
  · exact (lo 4 (by omega) (by omega)).symm
  split
  · exact (lo 5 (by omega) (by omega)).symm
  split
  · exact (lo 6 (by omega) (by omega)).symm
  · exact (lo 7 (by omega) (by omega)).symm
set_option maxRecDepth 8000 in
set_option maxHeartbeats 800000 in
theorem bits_Len32_ok (x : Nat) (hx : x < 4294967296) : Pure Tryz.prog 182 [wd x] (dI (bl x)) := by
  refine Pure.intro (n := 19) tok Tryz.func182 rfl rfl rfl (Nat.le_of_ble_eq_true rfl) (by kernel_rfl) (fun B F0 w0 => ?_)
  refine AW.seq ?_
  refine AW.region ?_
  refine AOps.run tok 1 _ _ _ _ rfl ?_
  refine AOps.nil ?_
  refine AW.cut [0, 2] (fun s : Nat × Nat => [(0, .d (wd s.1)), (2, .d (dI s.2))]) (fun s => s.1 < 65536 ∧ s.2 ≤ 16 ∧ bl x = s.2 + bl s.1) ?_ (fun (y, k) ⟨hy, hk, he⟩ => ?_)
  · refine AW.seq ?_
    refine AW.region ?_
    refine AOps.run tok 2 _ _ _ _ rfl ?_
    refine AOps.nil ?_
    refine AW.cond rfl (fun h => ?_) (fun h => ?_)
    · have hge : 65536 ≤ x := by have := of_decide_eq_true h; omega
      refine AW.seq ?_
      refine AW.region ?_
      refine AOps.run tok 3 _ _ _ _ rfl ?_
      rw [shrW x 16 (by decide)]
      refine AOps.nil ?_
      refine AW.region ?_
      refine AOps.run tok 1 _ _ _ _ rfl ?_
      refine AOps.nil ?_
      exact ⟨(x / 2 ^ 16, 16), rfl, by show x / 2 ^ 16 < 65536; omega, Nat.le_refl _, bl_shift 16 x hge⟩
    · have hlt : x < 65536 := by have := of_decide_eq_false h; omega
      refine AW.skip ?_
      exact ⟨(x, 0), rfl, hlt, by simp, (Nat.zero_add _).symm⟩
  · simp only [] at hy hk he
    refine AW.cut [0, 2] (fun s : Nat × Nat => [(0, .d (wd s.1)), (2, .d (dI s.2))]) (fun s => s.1 < 256 ∧ s.2 ≤ 24 ∧ bl x = s.2 + bl s.1) ?_ (fun (y, k) ⟨hy, hk, he⟩ => ?_)
    · refine AW.seq ?_
      refine AW.region ?_
      refine AOps.run tok 2 _ _ _ _ rfl ?_
      refine AOps.nil ?_
      refine AW.cond rfl (fun h => ?_) (fun h => ?_)
      · have hge : 256 ≤ y := by have := of_decide_eq_true h; omega
        refine AW.seq ?_
        refine AW.region ?_
        refine AOps.run tok 3 _ _ _ _ rfl ?_
        rw [shrW y 8 (by decide)]
        refine AOps.nil ?_
        refine AW.region ?_
        refine AOps.run tok 3 _ _ _ _ rfl ?_
        rw [wI64 (by omega) (by omega)]
        refine AOps.nil ?_
        exact ⟨(y / 2 ^ 8, k + 8), rfl, by show y / 2 ^ 8 < 256; omega, by show k + 8 ≤ 24; omega, by simp only []; rw [he, bl_shift 8 y hge, Nat.add_assoc]⟩
      · have hlt : y < 256 := by have := of_decide_eq_false h; omega
        refine AW.skip ?_
        exact ⟨(y, k), rfl, hlt, by show k ≤ 24; omega, he⟩
    · simp only [] at hy hk he
      refine AW.seq ?_
      refine AW.region ?_
      refine AOps.run tok 3 _ _ _ _ rfl ?_
      rw [wU8 (by omega) (by omega)]
      refine AOps.strixT tok bl8 256 rfl rfl rfl rfl hy (by kernel_rfl) (by kernel_rfl) ?_
      rw [bl8_ok hy]
      refine AOps.run tok 3 _ _ _ _ rfl ?_
      have hb := bl_le_of_lt (show y < 2 ^ 8 by omega)
      rw [wI64 (x := ((bl y : Nat) : Int)) (by omega) (by omega), wI64 (by omega) (by omega)]
      refine AOps.nil ?_
      rw [he]
      exact AW.ret rfl
theorem bits_LeadingZeros32_ok (x : Nat) (hx : x < 4294967296) : Pure Tryz.prog 166 [wd x] (dI ((32 - bl x : Nat) : Int)) := by
  refine Pure.intro (n := 6) tok Tryz.func166 rfl rfl rfl (Nat.le_of_ble_eq_true rfl) (by kernel_rfl) (fun B F0 w0 => ?_)
  have hb := bl_le_of_lt (show x < 2 ^ 32 by omega)
  refine AW.seq ?_
  refine AW.region ?_
  refine AOps.run tok 1 _ _ _ _ rfl ?_
  refine AOps.nil ?_
  refine AW.seq ?_
  refine AW.region ?_
  refine AOps.run tok 1 _ _ _ _ rfl ?_
  refine AOps.call tok rfl rfl rfl rfl (bits_Len32_ok x hx) ?_
  refine AOps.run tok 2 _ _ _ _ rfl ?_
  rw [wI64 (by omega) (by omega), show (32 : Int) - ((bl x : Nat) : Int) = ((32 - bl x : Nat) : Int) by omega]
  refine AOps.nil ?_
  exact AW.ret rfl
end Lift
namespace Lift
theorem guess_dec {R top next Vl V p2 Ul U head rest guess : Nat} (hV : V = Vl + R * (next + 4294967296 * top)) (hU : U = Ul + R * (p2 + 4294967296 * head)) (hl : Ul < R) (hh : guess * top + rest = head) (hc : rest * 4294967296 + p2 < guess * next) : U < guess * V := by
  have h1 : p2 + 4294967296 * head + 1 ≤ guess * next + 4294967296 * (guess * top) := by omega
  have h2 : R * (p2 + 4294967296 * head + 1) ≤ R * (guess * next + 4294967296 * (guess * top)) := Nat.mul_le_mul_left _ h1
  have h3 : R * (guess * next + 4294967296 * (guess * top)) = guess * (R * (next + 4294967296 * top)) := by
    rw [Nat.mul_add R next, Nat.mul_add guess, Nat.mul_add R]
    congr 1 <;> ac_rfl
  have h4 : guess * V = guess * Vl + guess * (R * (next + 4294967296 * top)) := by rw [hV, Nat.mul_add]
  rw [Nat.mul_add, Nat.mul_one] at h2
  omega
theorem guess_end {R top next Vl V p2 Ul U head rest guess : Nat} (hV : V = Vl + R * (next + 4294967296 * top)) (hU : U = Ul + R * (p2 + 4294967296 * head)) (hvl : Vl < R) (ht : 0 < top) (hn : next < 4294967296) (hg : guess < 4294967296) (hh : guess * top + rest = head)
    (hc : guess * next ≤ rest * 4294967296 + p2 ∨ 4294967296 ≤ rest) : guess * V ≤ U + V := by
  have hgn : guess * next ≤ 4294967295 * 4294967295 := Nat.mul_le_mul (by omega) (by omega)
  have h1 : guess * next + 4294967296 * (guess * top) ≤ p2 + 4294967296 * head := by omega
  have h2 : R * (guess * next + 4294967296 * (guess * top)) ≤ R * (p2 + 4294967296 * head) := Nat.mul_le_mul_left _ h1
  have h3 : R * (guess * next + 4294967296 * (guess * top)) = guess * (R * (next + 4294967296 * top)) := by
    rw [Nat.mul_add R next, Nat.mul_add guess, Nat.mul_add R]
    congr 1 <;> ac_rfl
  have h4 : guess * V = guess * Vl + guess * (R * (next + 4294967296 * top)) := by rw [hV, Nat.mul_add]
  have h5 : guess * Vl ≤ 4294967296 * R := Nat.mul_le_mul (by omega) (by omega)
  have h6 : R * (4294967296 * 1) ≤ R * (next + 4294967296 * top) := Nat.mul_le_mul_left _ (by omega)
  omega
theorem guess_first {V U R Vl top next head p2 Ul : Nat} (hV : V = Vl + R * (next + 4294967296 * top)) (hU : U = Ul + R * (p2 + 4294967296 * head)) (hl : Ul < R) (hp2 : p2 < 4294967296) (ht : 0 < top) : U < (head / top + 1) * V := by
  have h0 := Nat.div_add_mod head top
  have h1 := Nat.mod_lt head ht
  have h2 : (head / top + 1) * top = top * (head / top) + top := by rw [Nat.add_mul, Nat.one_mul, Nat.mul_comm]
  have h3 : head + 1 ≤ (head / top + 1) * top := by omega
  have h4 : R * (4294967296 * (head + 1)) ≤ R * (4294967296 * ((head / top + 1) * top)) := Nat.mul_le_mul_left _ (Nat.mul_le_mul_left _ h3)
  have h5 : R * (4294967296 * ((head / top + 1) * top)) = (head / top + 1) * (R * (4294967296 * top)) := by ac_rfl
  have h6 : (head / top + 1) * (R * (4294967296 * top)) ≤ (head / top + 1) * V := Nat.mul_le_mul_left _ (by rw [hV, Nat.mul_add]; omega)
  have h7 : R * (p2 + 4294967296 * head + 1) ≤ R * (4294967296 * (head + 1)) := Nat.mul_le_mul_left _ (by omega)
  rw [Nat.mul_add, Nat.mul_one] at h7
  omega
theorem nv_top2 {v : List Nat} {n : Nat} (hn : v.length = n + 2) : nv v = nv (v.take n) + 4294967296 ^ n * (v.getD n 0 + 4294967296 * v.getD (n + 1) 0) := by
  rw [nv_take_drop v n (by omega), drop_getD v n (by omega), drop_getD v (n + 1) (by omega), List.drop_of_length_le (by omega)]
  simp [nv]
theorem nv_top3 {v : List Nat} {n : Nat} (hn : v.length = n + 3) : nv v = nv (v.take n) + 4294967296 ^ n * (v.getD n 0 + 4294967296 * (v.getD (n + 1) 0 + 4294967296 * v.getD (n + 2) 0)) := by
  rw [nv_take_drop v n (by omega), drop_getD v n (by omega), drop_getD v (n + 1) (by omega), drop_getD v (n + 2) (by omega), List.drop_of_length_le (by omega)]
  simp [nv]
theorem nv_take_lt {v : List Nat} (h : W32 v) (n : Nat) : nv (v.take n) < 4294967296 ^ n := by
  have h1 := nv_lt (h.take n)
  exact Nat.lt_of_lt_of_le h1 (pow_le (by simp; omega))
theorem nv_drop_zero {l : List Nat} (n : Nat) (h : nv l < 4294967296 ^ n) (hn : n ≤ l.length) : nv (l.drop n) = 0 := by
  have := nv_take_drop l n hn
  rcases Nat.eq_zero_or_pos (nv (l.drop n)) with h0 | h0
  · exact h0
  · have : 4294967296 ^ n * 1 ≤ 4294967296 ^ n * nv (l.drop n) := Nat.mul_le_mul_left _ h0
    omega
theorem nv_cons_drop {l : List Nat} {j : Nat} (h : j < l.length) : nv (l.drop j) = l.getD j 0 + 4294967296 * nv (l.drop (j + 1)) := by
  rw [drop_getD l j h]; rfl
theorem div_step {u w : List Nat} {j n V U r : Nat} (hu : W32 u) (hjn : j + (n + 1) ≤ u.length) (hV : V < 4294967296 ^ n) (hlt : nv (u.drop (j + 1)) < V) (hU : U = nv (win u j (n + 1))) (hw : w = dg (n + 1) r) (hr : r < V) :
    nv (u.drop j) = U ∧ U < 4294967296 * V ∧ nv ((put u j (n + 1) w).drop j) = r ∧ nv (put u j (n + 1) w) + 4294967296 ^ j * U = nv u + 4294967296 ^ j * r := by
  have hz : nv ((u.drop (j + 1)).drop n) = 0 := nv_drop_zero n (Nat.lt_trans hlt hV) (by simp; omega)
  rw [List.drop_drop, show j + 1 + n = j + (n + 1) by omega] at hz
  have h1 : nv (u.drop j) = U := by
    have := nv_take_drop (u.drop j) (n + 1) (by simp; omega)
    rw [List.drop_drop, hz, Nat.mul_zero, Nat.add_zero] at this
    rw [this, hU]; rfl
  have hwl : w.length = n + 1 := by rw [hw, dg_length]
  have hwv : nv w = r := by
    rw [hw, nv_dg]
    exact Nat.mod_eq_of_lt (Nat.lt_trans hr (Nat.lt_of_lt_of_le hV (pow_le (by omega))))
  have hpl : (put u j (n + 1) w).length = u.length := put_length hjn hwl
  have ht : (put u j (n + 1) w).take j = u.take j := by
    have : (u.take j).length = j := by simp; omega
    rw [put, List.append_assoc, List.take_append_of_le_length (by omega), List.take_of_length_le (by omega)]
  have hd : nv ((put u j (n + 1) w).drop j) = r := by
    have : (u.take j).length = j := by simp; omega
    rw [put, List.append_assoc, List.drop_append_of_le_length (by omega), List.drop_of_length_le (by omega), List.nil_append, nv_append, hz, hwv]
    omega
  refine ⟨h1, ?_, hd, ?_⟩
  · rw [← h1, nv_cons_drop (by omega)]
    have := hu.getD j
    omega
  · have e1 := nv_take_drop (put u j (n + 1) w) j (by omega)
    have e2 := nv_take_drop u j (by omega)
    rw [hd, ht] at e1
    rw [h1] at e2
    omega
end Lift
namespace Lift
open Go Go.Proofs
theorem dg_take : ∀ (k m v : Nat), k ≤ m → (dg m v).take k = dg k v
  | 0, m, v, _ => by simp [dg]
  | k + 1, 0, v, h => by omega
  | k + 1, m + 1, v, h => by simp [dg, dg_take k m (v / 4294967296) (by omega)]
theorem integer_up_pure (a : List Nat) (n : Nat) (ha : W32 a) (hla : a.length ≤ 100000000) (hn : n < 32) : Pure Tryz.prog 167 [Wd a, dI n] (Wd (dg (a.length + 1) (nv a * 2 ^ n))) := by
  have := PureO.pure tok (integer_up_ok a n ha hla hn) (te := _) rfl
  have e : (((dg (a.length + 1) (nv a * 2 ^ n)).map wd).drop 0).take (a.length + 1) = (dg (a.length + 1) (nv a * 2 ^ n)).map wd := by
    rw [List.drop_zero, List.take_of_length_le (by simp [dg_length])]
  rw [e] at this
  exact this
theorem plainWd (l : List Nat) : plainL (l.map wd) = true := by
  simp only [plainL, List.all_eq_true, flatAll]
  intro x hx
  obtain ⟨y, hy, hxy⟩ := List.mem_flatMap.1 hx
  obtain ⟨z, _, rfl⟩ := List.mem_map.1 hy
  simp [wd, D.flat] at hxy
  subst hxy
  rfl
theorem AW.norm {P : Program} {B : Nat} {F0 : Nat → Prop} {w0 : Bas} {n : Nat} {σ : St} {x : Code} {Q : Exit → St → Prop} (ks : List Nat) (σ' : St) (h : σ.keep ks = σ') (hk : AW P B F0 w0 n x Q σ') : AW P B F0 w0 n x Q σ := AW.keep ks (h ▸ hk)
theorem norm_bounds {s n B L T V : Nat} (hs : s = 32 - bl T) (hs1 : 0 < bl T) (hs2 : 2 ^ (bl T - 1) ≤ T) (hs3 : bl T ≤ 32) (h1 : B = L + 4294967296 ^ (n + 1) * T) (h2 : L < 4294967296 ^ (n + 1)) (hT : T < 4294967296) (hV : V = B * 2 ^ s) : V < 4294967296 ^ (n + 2) ∧ 4294967296 ^ (n + 2) ≤ 2 * V := by
  have h4 := lt_bl T
  have e1 : 2 ^ bl T * 2 ^ s = 4294967296 := by rw [← Nat.pow_add, hs, show bl T + (32 - bl T) = 32 by omega]
  have e2 : 2 ^ bl T = 2 ^ (bl T - 1) * 2 := by rw [← Nat.pow_succ]; congr 1; omega
  have h5 : B + 1 ≤ 4294967296 ^ (n + 1) * 2 ^ bl T := by
    have : 4294967296 ^ (n + 1) * (T + 1) ≤ 4294967296 ^ (n + 1) * 2 ^ bl T := Nat.mul_le_mul_left _ h4
    rw [Nat.mul_add, Nat.mul_one] at this
    omega
  have h6 : (B + 1) * 2 ^ s ≤ 4294967296 ^ (n + 1) * 2 ^ bl T * 2 ^ s := Nat.mul_le_mul_right _ h5
  have hp : 0 < 2 ^ s := Nat.pow_pos (by decide)
  rw [Nat.mul_assoc, e1, ← Nat.pow_succ, Nat.add_mul, Nat.one_mul] at h6
  have h7 : 4294967296 ^ (n + 1) * 2 ^ (bl T - 1) ≤ B := by
    have : 4294967296 ^ (n + 1) * 2 ^ (bl T - 1) ≤ 4294967296 ^ (n + 1) * T := Nat.mul_le_mul_left _ hs2
    omega
  have h8 : 4294967296 ^ (n + 1) * 2 ^ (bl T - 1) * 2 ^ s ≤ B * 2 ^ s := Nat.mul_le_mul_right _ h7
  refine ⟨by rw [hV]; show B * 2 ^ s < 4294967296 ^ (n + 1 + 1); omega, ?_⟩
  have e3 : 4294967296 ^ (n + 2) = 4294967296 ^ (n + 1) * 2 ^ (bl T - 1) * 2 ^ s * 2 := by
    rw [show n + 2 = n + 1 + 1 from rfl, Nat.pow_succ, ← e1, e2]
    ac_rfl
  rw [e3, hV]
  omega
theorem top_big {n V Vl nx top R : Nat} (h1 : 4294967296 ^ (n + 2) ≤ 2 * V) (h2 : V = Vl + R * (nx + 4294967296 * top)) (h3 : Vl < R) (h4 : nx < 4294967296) (hR : R = 4294967296 ^ n) : 2147483648 ≤ top := by
  rcases Nat.lt_or_ge top 2147483648 with h | h
  · exfalso
    have h5 : R * (nx + 4294967296 * top + 1) ≤ R * (4294967296 * 2147483648) := Nat.mul_le_mul_left _ (by omega)
    rw [Nat.mul_add, Nat.mul_one] at h5
    have e : 4294967296 ^ (n + 2) = R * (4294967296 * 2147483648) * 2 := by rw [hR, Nat.pow_add]; omega
    omega
  · exact h
theorem up_fits {A s N L : Nat} (h : A < 4294967296 ^ L) (hN : N = L + 1) (hs : s ≤ 32) : A * 2 ^ s < 4294967296 ^ N := by
  have h1 : 2 ^ s ≤ 2 ^ 32 := Nat.pow_le_pow_right (by decide) hs
  have h2 : A * 2 ^ s ≤ A * 4294967296 := Nat.mul_le_mul_left _ h1
  rw [hN, Nat.pow_succ]
  omega
theorem drop_start {u : List Nat} {A s n Q V L : Nat} (hu : nv u = A * 2 ^ s) (hA : A < 4294967296 ^ L) (hs : s ≤ 31) (hL : L = Q + (n + 1)) (hV : 4294967296 ^ (n + 2) ≤ 2 * V) (hl : Q ≤ u.length) : nv (u.drop Q) < V := by
  have h1 := nv_take_drop u Q hl
  have h2 : 2 ^ s ≤ 2 ^ 31 := Nat.pow_le_pow_right (by decide) hs
  have h3 : A * 2 ^ s ≤ A * 2147483648 := Nat.mul_le_mul_left _ h2
  rw [hL, Nat.pow_add] at hA
  rcases Nat.lt_or_ge (nv (u.drop Q)) V with h | h
  · exact h
  · exfalso
    have h4 : 4294967296 ^ Q * (2 * V) ≤ 4294967296 ^ Q * (2 * nv (u.drop Q)) := Nat.mul_le_mul_left _ (by omega)
    have h5 : 4294967296 ^ Q * 4294967296 ^ (n + 2) ≤ 4294967296 ^ Q * (2 * V) := Nat.mul_le_mul_left _ hV
    have e : 4294967296 ^ Q * 4294967296 ^ (n + 2) = 4294967296 ^ Q * 4294967296 ^ (n + 1) * 4294967296 := by rw [show n + 2 = n + 1 + 1 from rfl, Nat.pow_succ, Nat.mul_assoc]
    have e2 : 4294967296 ^ Q * (2 * nv (u.drop Q)) = 2 * (4294967296 ^ Q * nv (u.drop Q)) := by ac_rfl
    omega
theorem guess_small {g top r head : Nat} (h : g * top + r = head) (ht : 2147483648 ≤ top) (hh : head < 18446744073709551616) : g < 8589934592 := by
  have h1 : g * 2147483648 ≤ g * top := Nat.mul_le_mul_left _ ht
  omega
theorem guess_true {R top next Vl V p2 Ul U head rest guess : Nat} (hV : V = Vl + R * (next + 4294967296 * top)) (hU : U = Ul + R * (p2 + 4294967296 * head)) (hl : Ul < R) (hUV : U < 4294967296 * V) (hh : guess * top + rest = head) (hr : rest < 4294967296)
    (hc : 4294967296 ≤ guess ∨ rest * 4294967296 + p2 < guess * next) : 0 < guess ∧ U < guess * V := by
  rcases hc with h | h
  · have : 4294967296 * V ≤ guess * V := Nat.mul_le_mul_right _ h
    exact ⟨by omega, by omega⟩
  · refine ⟨?_, guess_dec hV hU hl hh h⟩
    rcases Nat.eq_zero_or_pos guess with h0 | h0
    · subst h0; omega
    · exact h0
theorem guess_exit {R top next Vl V p2 Ul U head rest guess : Nat} (hV : V = Vl + R * (next + 4294967296 * top)) (hU : U = Ul + R * (p2 + 4294967296 * head)) (hl : Ul < R) (hvl : Vl < R) (hUV : U < 4294967296 * V) (ht : 0 < top) (hn : next < 4294967296) (hh : guess * top + rest = head)
    (hc : 4294967296 ≤ rest ∨ (guess < 4294967296 ∧ guess * next ≤ rest * 4294967296 + p2)) : guess < 4294967296 ∧ guess * V ≤ U + V := by
  have hg : guess < 4294967296 := by
    rcases hc with h | h
    · have h1 : head < 4294967296 * (top + 1) := by
        rcases Nat.lt_or_ge head (4294967296 * (top + 1)) with h2 | h2
        · exact h2
        · exfalso
          have h3 : R * (4294967296 * (4294967296 * (top + 1))) ≤ R * (4294967296 * head) := Nat.mul_le_mul_left _ (Nat.mul_le_mul_left _ h2)
          have h4 : R * (next + 4294967296 * top + 1) ≤ R * (4294967296 * (top + 1)) := Nat.mul_le_mul_left _ (by omega)
          have h5 : R * (4294967296 * (4294967296 * (top + 1))) = 4294967296 * (R * (4294967296 * (top + 1))) := by ac_rfl
          rw [Nat.mul_add R p2] at hU
          rw [Nat.mul_add, Nat.mul_one] at h4
          omega
      rcases Nat.lt_or_ge guess 4294967296 with h2 | h2
      · exact h2
      · exfalso
        have h3 : 4294967296 * top ≤ guess * top := Nat.mul_le_mul_right _ h2
        omega
    · exact h.1
  exact ⟨hg, guess_end hV hU hvl ht hn hg hh (by rcases hc with h | h; exact .inr h; exact .inl h.2)⟩
theorem div_back {U V g B : Nat} (h1 : U < g * V) (h2 : g * V ≤ U + V) (hV : 0 < V) (hB : V ≤ B) : U + B - g * V + V = B + U % V ∧ U / V = g - 1 := by
  obtain ⟨g', rfl⟩ : ∃ g', g = g' + 1 := ⟨g - 1, by have : g ≠ 0 := (by rintro rfl; omega); omega⟩
  rw [Nat.add_mul, Nat.one_mul] at h1 h2 ⊢
  have h3 : U / V = g' := by
    refine Nat.div_eq_of_lt_le ?_ ?_
    · omega
    · rw [Nat.add_mul, Nat.one_mul]; omega
  refine ⟨?_, by omega⟩
  have h4 := Nat.div_add_mod U V
  rw [h3, Nat.mul_comm] at h4
  generalize U % V = r at h4 ⊢
  generalize g' * V = y at h1 h2 h4 ⊢
  omega
theorem div_plain {U V g : Nat} (h1 : ¬ U < g * V) (h2 : U < (g + 1) * V) (hV : 0 < V) : U - g * V = U % V ∧ U / V = g := by
  have h3 : U / V = g := Nat.div_eq_of_lt_le (by omega) h2
  have h4 := Nat.div_add_mod U V
  rw [h3, Nat.mul_comm] at h4
  exact ⟨by omega, h3⟩
theorem put_put {l w x : List Nat} {lo m : Nat} (h : lo + m ≤ l.length) (hw : w.length = m) : put (put l lo m w) lo m x = put l lo m x := by
  have h1 : (l.take lo).length = lo := by simp; omega
  simp only [put, List.append_assoc]
  rw [List.take_append_of_le_length (by omega), List.take_of_length_le (by omega), ← List.append_assoc, ← List.append_assoc (l.take lo), List.drop_append_of_le_length (by simp [hw]; omega), List.drop_of_length_le (by simp [hw]; omega)]
  simp
theorem dg_congr {k x y : Nat} (h : x % 4294967296 ^ k = y % 4294967296 ^ k) : dg k x = dg k y := nv_inj (w32_dg _ _) (w32_dg _ _) (by rw [dg_length, dg_length]) (by rw [nv_dg, nv_dg, h])
theorem nv_drop_set {l : List Nat} {j x : Nat} (h : j < l.length) : nv ((l.set j x).drop j) = x + 4294967296 * nv (l.drop (j + 1)) := by
  rw [nv_cons_drop (by simpa using h), getD_set _ _ _ _ h, if_pos rfl, drop_set_lt]
theorem div_value {u u' P P1 U r V q Z : Nat} (h : u' + P * U = u + P * r) (h1 : V * q + r = U) (hP : P1 = P * 4294967296) : u' + P * (q + 4294967296 * Z) * V = u + P1 * Z * V := by
  subst hP
  rw [← h1, Nat.mul_add] at h
  rw [Nat.mul_add, Nat.add_mul]
  have e1 : P * q * V = P * (V * q) := by ac_rfl
  have e2 : P * (4294967296 * Z) * V = P * 4294967296 * Z * V := by ac_rfl
  omega
theorem div_final {u q V b a s : Nat} (hV : V = b * 2 ^ s) (h1 : u < V) (h2 : u + q * V = a * 2 ^ s) (hs : 0 < 2 ^ s) : q = a / b ∧ u / 2 ^ s = a % b := by
  have hb : 0 < b := by
    have : b ≠ 0 := by rintro rfl; omega
    omega
  have hdv : u % 2 ^ s = 0 := by
    have : (u + q * V) % 2 ^ s = 0 := by rw [h2, Nat.mul_mod_left]
    rw [hV, ← Nat.mul_assoc, Nat.add_mul_mod_self_right] at this
    exact this
  have hu := Nat.div_add_mod u (2 ^ s)
  rw [hdv, Nat.add_zero] at hu
  obtain ⟨r, hr⟩ : ∃ r, r = u / 2 ^ s := ⟨_, rfl⟩
  rw [← hr] at hu ⊢
  have h3 : r + q * b = a := by
    have : 2 ^ s * (r + q * b) = 2 ^ s * a := by
      rw [Nat.mul_add, hu, Nat.mul_comm _ a, ← h2, hV]
      congr 1
      ac_rfl
    exact Nat.eq_of_mul_eq_mul_left hs this
  have h4 : r < b := by
    rw [← hu, hV, Nat.mul_comm] at h1
    exact Nat.lt_of_mul_lt_mul_right h1
  have h5 : a / b = q := by rw [← h3, Nat.add_mul_div_right _ _ hb, Nat.div_eq_of_lt h4, Nat.zero_add]
  have h6 : a % b = r := by rw [← h3, Nat.add_mul_mod_self_right, Nat.mod_eq_of_lt h4]
  exact ⟨h5.symm, h6.symm⟩
set_option maxHeartbeats 1600000 in
theorem integer_divide_ok (a b : List Nat) (ha : W32 a) (hb : W32 b) (na : Nm a) (nb : Nm b) (hla : a.length ≤ 50000000) (hlb : b.length ≤ 50000000) (hb0 : b ≠ []) : Pure Tryz.prog 144 [Wd a, Wd b] (.tu [Wd (tw (nv a / nv b)), Wd (tw (nv a % nv b))]) := by
  refine Pure.intro (n := 158) tok Tryz.func144 rfl rfl rfl (Nat.le_of_ble_eq_true rfl) (by kernel_rfl) (fun B F0 w0 => ?_)
  have hbpos : 0 < nv b := Nat.pos_of_ne_zero (fun e => hb0 ((nv_zero nb).1 e))
  refine AW.seq ?_
  refine AW.region ?_
  refine AOps.run tok 2 _ _ _ _ rfl ?_
  refine AOps.nil ?_
  refine AW.seq ?_
  refine AW.seq ?_
  refine AW.region ?_
  refine AOps.run tok 2 _ _ _ _ rfl ?_
  refine AOps.call tok rfl rfl rfl rfl (integer_compare_ok a b ha hb na nb (by omega)) ?_
  refine AOps.run tok 1 _ _ _ _ rfl ?_
  refine AOps.nil ?_
  refine AW.cond rfl (fun h => ?_) (fun h => ?_)
  · have hlt : nv a < nv b := by
      have h := of_decide_eq_true h
      unfold cmpN at h
      split at h
      · assumption
      · split at h <;> omega
    rw [Nat.div_eq_of_lt hlt, Nat.mod_eq_of_lt hlt, tw_zero]
    refine AW.seq ?_
    refine AW.region ?_
    refine AOps.run tok 1 _ _ _ _ rfl ?_
    refine AOps.call tok rfl rfl rfl rfl (integer_trim_ok a ha (by omega)) ?_
    refine AOps.run tok 2 _ _ _ _ rfl ?_
    refine AOps.nil ?_
    exact AW.ret rfl
  have hge : nv b ≤ nv a := by
    have h := of_decide_eq_false h
    unfold cmpN at h
    split at h
    · omega
    · omega
  refine AW.skip ?_
  refine AW.seq ?_
  refine AW.seq ?_
  refine AW.region ?_
  refine AOps.run tok 3 _ _ _ _ rfl ?_
  refine AOps.nil ?_
  refine AW.cond rfl (fun h => ?_) (fun h => ?_)
  · have hl1 : b.length = 1 := by
      have : (b.length : Int) = 1 := by simpa using h
      omega
    obtain ⟨c, rfl⟩ : ∃ c, b = [c] := List.length_eq_one_iff.1 hl1
    have hc := (W32.cons.1 hb).1
    have hnc : nv [c] = c := by simp [nv]
    rw [hnc] at hbpos hge ⊢
    refine AW.seq ?_
    refine AW.region ?_
    refine AOps.run tok 2 _ _ _ _ rfl ?_
    refine AOps.idx tok (wd c) rfl rfl rfl rfl (Int.le_refl 0) rfl ?_
    refine AOps.run tok 1 _ _ _ _ rfl ?_
    refine AOps.call tok rfl rfl rfl rfl (integer_short_ok a c ha (by omega) hc hbpos) ?_
    refine AOps.run tok 5 _ _ _ _ rfl ?_
    refine AOps.nil ?_
    refine AW.seq ?_
    refine AW.region ?_
    refine AOps.run tok 2 _ _ _ _ rfl ?_
    refine AOps.bs tok rfl rfl rfl rfl ?_
    refine AOps.frz tok 38 rfl rfl ?_
    refine AOps.call tok rfl rfl rfl rfl (integer_trim_ok [nv a % c] (W32.cons.2 ⟨Nat.lt_trans (Nat.mod_lt _ hbpos) hc, W32.nil⟩) (by simp)) ?_
    refine AOps.run tok 2 _ _ _ _ rfl ?_
    refine AOps.nil ?_
    rw [show nv [nv a % c] = nv a % c by simp [nv]]
    exact AW.ret rfl
  have hl2 : 2 ≤ b.length := by
    have h1 : ¬ (b.length : Int) = 1 := by simpa using h
    have : b.length ≠ 0 := fun e => hb0 (List.eq_nil_of_length_eq_zero e)
    omega
  obtain ⟨n, hn⟩ : ∃ n, b.length = n + 2 := ⟨b.length - 2, by omega⟩
  have hlab : n + 2 ≤ a.length := by
    rcases Nat.lt_or_ge a.length b.length with h | h
    · have := nv_len_lt ha nb h; omega
    · omega
  have hT := hb.getD (n + 1)
  have hT0 : b.getD (n + 1) 0 ≠ 0 := fun e => nb (by rw [List.getLast?_eq_getElem?, hn, show n + 2 - 1 = n + 1 by omega, List.getElem?_eq_getElem (by omega)]; simpa [List.getD, show n + 1 < b.length by omega] using e)
  obtain ⟨hs1, hs2⟩ := bl_le hT0
  have hs3 := bl_le_of_lt (show b.getD (n + 1) 0 < 2 ^ 32 by omega)
  obtain ⟨s, hs⟩ : ∃ s, s = 32 - bl (b.getD (n + 1) 0) := ⟨_, rfl⟩
  refine AW.skip ?_
  refine AW.seq ?_
  refine AW.region ?_
  refine AOps.run tok 4 _ _ _ _ rfl ?_
  rw [lenWd b, wI64 (by omega) (by omega), show (b.length : Int) - 1 = ((n + 1 : Nat) : Int) by omega]
  refine AOps.idx tok (wd (b.getD (n + 1) 0)) rfl rfl rfl rfl (Int.natCast_nonneg _) (getWd (by omega)) ?_
  refine AOps.run tok 1 _ _ _ _ rfl ?_
  refine AOps.call tok rfl rfl rfl rfl (bits_LeadingZeros32_ok _ hT) ?_
  refine AOps.run tok 1 _ _ _ _ rfl ?_
  rw [← hs]
  refine AOps.nil ?_
  refine AW.seq ?_
  refine AW.draw hmix 9 (by kernel_rfl) ?_
  refine APre.run tok 2 _ _ _ _ rfl ?_
  refine APre.call tok rfl rfl rfl rfl rfl (integer_up_pure b s hb (by omega) (by omega)) ?_
  refine APre.run tok 2 _ _ _ _ rfl ?_
  refine APre.slc tok rfl rfl rfl rfl rfl trivial (Int.natCast_nonneg _) (Nat.zero_le _) (by simp [hiN, dg_length]) ?_
  refine APre.run tok 2 _ _ _ _ rfl ?_
  refine APre.callo tok rfl rfl rfl rfl rfl (integer_up_ok a s ha (by omega) (by omega)) (plainWd _) ?_
  refine APre.nil ?_
  refine AOps.run tok 2 _ _ _ _ rfl ?_
  refine AOps.nil ?_
  obtain ⟨V, hV⟩ : ∃ V, V = nv b * 2 ^ s := ⟨_, rfl⟩
  obtain ⟨v, hv⟩ : ∃ v, v = dg (n + 2) V := ⟨_, rfl⟩
  obtain ⟨N, hN⟩ : ∃ N, N = a.length + 1 := ⟨_, rfl⟩
  obtain ⟨u0, hu0⟩ : ∃ u0, u0 = dg N (nv a * 2 ^ s) := ⟨_, rfl⟩
  have hvl : v.length = n + 2 := by rw [hv, dg_length]
  have hvw : W32 v := by rw [hv]; exact w32_dg _ _
  have hVb : V < 4294967296 ^ (n + 2) ∧ 4294967296 ^ (n + 2) ≤ 2 * V := by
    have h1 := nv_at b (n + 1) (by omega)
    rw [List.drop_of_length_le (by omega)] at h1
    simp only [nv, Nat.mul_zero, Nat.add_zero] at h1
    have h2 := nv_take_lt hb (n + 1)
    exact norm_bounds hs hs1 hs2 hs3 h1 h2 hT hV
  have hvv : nv v = V := by rw [hv, nv_dg]; exact Nat.mod_eq_of_lt hVb.1
  have e9 : D.sl 1 (((((dg (b.length + 1) (nv b * 2 ^ s)).map wd)).take (hiN ((dg (b.length + 1) (nv b * 2 ^ s)).map wd).length (some ((b.map wd).length : Int)))).drop (loN none)) = Wd v := by
    simp only [hiN, loN, List.drop_zero, Int.toNat_natCast, List.length_map, Wd, ← List.map_take]
    rw [dg_take _ _ _ (by omega), hn, ← hV, ← hv]
  refine AW.norm [8, 9, 10] [(8, .d (dI s)), (9, .d (Wd v)), (10, .wn false 141 (u0.map wd) 0 N)] (by rw [← e9, hu0, hN]; rfl) ?_
  have hul0 : u0.length = N := by rw [hu0, dg_length]
  have huw0 : W32 u0 := by rw [hu0]; exact w32_dg _ _
  obtain ⟨Q, hQ⟩ : ∃ Q, N = Q + (n + 2) := ⟨N - (n + 2), by omega⟩
  refine AW.seq ?_
  refine AW.region ?_
  refine AOps.run tok 5 _ _ _ _ rfl ?_
  refine AOps.makeW tok Q rfl rfl rfl rfl rfl rfl (by rw [lenWin (show 0 + N ≤ u0.length by omega), lenWd v, wI64 (by omega) (by omega)]; omega) rfl (by omega) ?_
  refine AOps.run tok 1 _ _ _ _ rfl ?_
  refine AOps.nil ?_
  refine AW.seq ?_
  refine AW.draw hmix 15 (by kernel_rfl) ?_
  refine APre.run tok 4 _ _ _ _ rfl ?_
  rw [lenWd v, wI64 (x := (v.length : Int) - 1) (by omega) (by omega), show (v.length : Int) - 1 = ((n + 1 : Nat) : Int) by omega]
  refine APre.idx tok (wd (v.getD (n + 1) 0)) rfl rfl rfl rfl rfl (Int.natCast_nonneg _) (getWd (by omega)) ?_
  refine APre.run tok 6 _ _ _ _ rfl ?_
  rw [lenWd v, wI64 (x := (v.length : Int) - 2) (by omega) (by omega), show (v.length : Int) - 2 = ((n : Nat) : Int) by omega]
  refine APre.idx tok (wd (v.getD n 0)) rfl rfl rfl rfl rfl (Int.natCast_nonneg _) (getWd (by omega)) ?_
  refine APre.run tok 3 _ _ _ _ rfl ?_
  refine APre.nil ?_
  refine AOps.run tok 1 _ _ _ _ rfl ?_
  have htw := hvw.getD (n + 1)
  have hnw := hvw.getD n
  rw [cvU64 (v.getD (n + 1) 0) (by omega), cvU64 (v.getD n 0) (by omega)]
  refine AOps.nil ?_
  refine AW.seq ?_
  refine AW.seq ?_
  refine AW.region ?_
  refine AOps.run tok 4 _ _ _ _ rfl ?_
  rw [lenWd, List.length_replicate, wI64 (by omega) (by omega)]
  refine AOps.nil ?_
  refine AW.block ?_
  have hv2 := nv_top2 hvl
  obtain ⟨top, htop⟩ : ∃ top, top = v.getD (n + 1) 0 := ⟨_, rfl⟩
  obtain ⟨nx, hnx⟩ : ∃ nx, nx = v.getD n 0 := ⟨_, rfl⟩
  rw [hvv, ← htop, ← hnx] at hv2
  rw [← htop] at htw
  rw [← hnx] at hnw
  rw [← htop, ← hnx]
  obtain ⟨R, hR⟩ : ∃ R, R = 4294967296 ^ n := ⟨_, rfl⟩
  have hR0 : 0 < R := by rw [hR]; exact Nat.pow_pos (by decide)
  have hvl0 : nv (v.take n) < R := by rw [hR]; exact nv_take_lt hvw n
  obtain ⟨Vl, hVl⟩ : ∃ Vl, Vl = nv (v.take n) := ⟨_, rfl⟩
  rw [← hVl, ← hR] at hv2
  rw [← hVl] at hvl0
  have htop0 : 2147483648 ≤ top := top_big hVb.2 hv2 hvl0 hnw hR
  have hVB : V < 4294967296 ^ (n + 2) := hVb.1
  have hu00 : nv u0 = nv a * 2 ^ s := by
    rw [hu0, nv_dg]
    exact Nat.mod_eq_of_lt (up_fits (nv_lt ha) hN (by omega))
  have hstart : nv (u0.drop Q) < V := drop_start hu00 (nv_lt ha) (by omega) (show a.length = Q + (n + 1) by omega) hVb.2 (by omega)
  clear hVb
  refine AW.loopS [8, 9, 10, 11, 12, 13, 14] (fun z : Nat × List Nat × List Nat => [(8, .d (dI s)), (9, .d (Wd v)), (10, .wn false 141 (z.2.1.map wd) 0 N), (11, .ow 141 (z.2.2.map wd)), (12, .d (dU top)), (13, .d (dU nx)), (14, .d (dI ((z.1 : Int) - 1)))])
    (fun z => z.1 ≤ Q ∧ z.2.1.length = N ∧ W32 z.2.1 ∧ z.2.2.length = Q ∧ W32 z.2.2 ∧ nv (z.2.1.drop z.1) < V ∧ nv z.2.1 + 4294967296 ^ z.1 * nv (z.2.2.drop z.1) * V = nv a * 2 ^ s) (fun z => z.1) (Q, u0, List.replicate Q 0) rfl
    ⟨Nat.le_refl _, hul0, huw0, by simp, W32.replicate _, hstart, by simp [nv, hu00]⟩ (fun (k, u, q) ⟨hk, hul, huw, hql, hqw, hlt, hval⟩ => ?_)
  simp only [] at hk hul huw hql hqw hlt hval
  refine AW.seq ?_
  refine AW.seq ?_
  refine AW.region ?_
  refine AOps.run tok 2 _ _ _ _ rfl ?_
  refine AOps.nil ?_
  refine AW.cond rfl (fun h => ?_) (fun h => ?_)
  · have hk0 : 0 < k := by have := of_decide_eq_true h; omega
    obtain ⟨j, rfl⟩ : ∃ j, k = j + 1 := ⟨k - 1, by omega⟩
    rw [show ((j + 1 : Nat) : Int) - 1 = (j : Int) by omega]
    refine AW.skip ?_
    refine AW.seq ?_
    refine AW.block ?_
    refine AW.seq ?_
    refine AW.region ?_
    refine AOps.run tok 7 _ _ _ _ rfl ?_
    rw [lenWd v, hvl, wI64 (x := (j : Int) + ((n + 2 : Nat) : Int)) (by omega) (by omega), wI64 (x := (j : Int) + ((n + 2 : Nat) : Int) + 1) (by omega) (by omega), show (j : Int) + ((n + 2 : Nat) : Int) + 1 = ((j + (n + 3) : Nat) : Int) by omega]
    refine AOps.slw tok rfl rfl rfl rfl (Int.natCast_nonneg _) (Int.natCast_nonneg _) (by simp only [loN, hiN, Int.toNat_natCast]; omega) (by simp only [hiN, Int.toNat_natCast]; omega) ?_
    rw [show 0 + loN (some (j : Int)) = j by simp [loN], show hiN N (some ((j + (n + 3) : Nat) : Int)) - loN (some (j : Int)) = n + 3 by simp [loN, hiN]; omega]
    refine AOps.run tok 1 _ _ _ _ rfl ?_
    refine AOps.nil ?_
    refine AW.norm [8, 9, 10, 11, 12, 13, 14, 15] [(8, .d (dI s)), (9, .d (Wd v)), (10, .wn false 141 (u.map wd) 0 N), (11, .ow 141 (q.map wd)), (12, .d (dU top)), (13, .d (dU nx)), (14, .d (dI j)), (15, .sb 10 j (n + 3))] rfl ?_
    refine AW.seq ?_
    refine AW.draw hmix 15 (by kernel_rfl) ?_
    refine APre.run tok 3 _ _ _ _ rfl ?_
    rw [lenWd v, hvl]
    have hx2 := huw.getD (j + (n + 2))
    have hx1 := huw.getD (j + (n + 1))
    have hx0 := huw.getD (j + n)
    refine APre.idxw tok rfl rfl rfl rfl rfl rfl (Int.natCast_nonneg _) (by simp only [Int.toNat_natCast]; omega) ?_
    rw [Int.toNat_natCast]
    refine APre.loadel tok (wd (u.getD (j + (n + 2)) 0)) rfl rfl rfl rfl rfl (getWd (by omega)) rfl ?_
    refine APre.run tok 6 _ _ _ _ rfl ?_
    rw [lenWd v, hvl, wI64 (x := ((n + 2 : Nat) : Int) - 1) (by omega) (by omega), show ((n + 2 : Nat) : Int) - 1 = ((n + 1 : Nat) : Int) by omega]
    refine APre.idxw tok rfl rfl rfl rfl rfl rfl (Int.natCast_nonneg _) (by simp only [Int.toNat_natCast]; omega) ?_
    rw [Int.toNat_natCast]
    refine APre.loadel tok (wd (u.getD (j + (n + 1)) 0)) rfl rfl rfl rfl rfl (getWd (by omega)) rfl ?_
    refine APre.run tok 2 _ _ _ _ rfl ?_
    refine APre.nil ?_
    refine AOps.run tok 1 _ _ _ _ rfl ?_
    obtain ⟨x2, hx2e⟩ : ∃ x, x = u.getD (j + (n + 2)) 0 := ⟨_, rfl⟩
    obtain ⟨x1, hx1e⟩ : ∃ x, x = u.getD (j + (n + 1)) 0 := ⟨_, rfl⟩
    obtain ⟨x0, hx0e⟩ : ∃ x, x = u.getD (j + n) 0 := ⟨_, rfl⟩
    rw [← hx2e] at hx2 ⊢
    rw [← hx1e] at hx1 ⊢
    rw [← hx0e] at hx0
    rw [cvU64 x2 (by omega), cvU64 x1 (by omega), shlU32 x2 hx2, orW x2 x1 hx2 hx1]
    obtain ⟨head, hhead⟩ : ∃ h, h = x2 * 4294967296 + x1 := ⟨_, rfl⟩
    rw [← hhead]
    refine AOps.nil ?_
    refine AW.norm [8, 9, 10, 11, 12, 13, 14, 15, 16] [(8, .d (dI s)), (9, .d (Wd v)), (10, .wn false 141 (u.map wd) 0 N), (11, .ow 141 (q.map wd)), (12, .d (dU top)), (13, .d (dU nx)), (14, .d (dI j)), (15, .sb 10 j (n + 3)), (16, .d (dU head))] rfl ?_
    obtain ⟨U, hU⟩ : ∃ U, U = nv (win u j (n + 3)) := ⟨_, rfl⟩
    have hUV : U < 4294967296 * V := (div_step (w := dg (n + 3) 0) (r := 0) huw (by omega) hVB hlt hU rfl (by omega)).2.1
    have hU3 : ∃ Ul, Ul < R ∧ U = Ul + R * (x0 + 4294967296 * head) := by
      have h1 := nv_top3 (win_length (l := u) (lo := j) (m := n + 3) (by omega))
      rw [getD_win _ _ _ _ (by omega), getD_win _ _ _ _ (by omega), getD_win _ _ _ _ (by omega), ← hx0e, ← hx1e, ← hx2e, ← hU, ← hR] at h1
      exact ⟨nv ((win u j (n + 3)).take n), by rw [hR]; exact nv_take_lt (huw.win _ _) n, by rw [h1, hhead, Nat.mul_comm x2, Nat.add_comm x1]⟩
    obtain ⟨Ul, hUl, hU3⟩ := hU3
    have hhd : head < 18446744073709551616 := by omega
    have hfirst := guess_first hv2 hU3 hUl hx0 (by omega)
    refine AW.seq ?_
    refine AW.draw hmix 7 (by kernel_rfl) ?_
    refine APre.run tok 2 _ _ _ _ rfl ?_
    refine APre.div tok rfl rfl rfl rfl rfl (by omega) ?_
    refine APre.run tok 2 _ _ _ _ rfl ?_
    refine APre.div tok rfl rfl rfl rfl rfl (by omega) ?_
    rw [divVq head top hhd, divVr head top]
    refine APre.run tok 1 _ _ _ _ rfl ?_
    refine APre.nil ?_
    refine AOps.run tok 1 _ _ _ _ rfl ?_
    refine AOps.nil ?_
    have hx0e' := hx0e
    clear hx2e hx1e hx0e hx1 hx2 hhead
    refine AW.cut [8, 9, 10, 11, 12, 13, 14, 15, 17] (fun g : Nat => [(8, .d (dI s)), (9, .d (Wd v)), (10, .wn false 141 (u.map wd) 0 N), (11, .ow 141 (q.map wd)), (12, .d (dU top)), (13, .d (dU nx)), (14, .d (dI j)), (15, .sb 10 j (n + 3)), (17, .d (dU g))])
      (fun g => g < 4294967296 ∧ g * V ≤ U + V ∧ U < (g + 1) * V) ?_ (fun g ⟨hg1, hg2, hg3⟩ => ?_)
    · refine AW.block ?_
      refine AW.loopS [8, 9, 10, 11, 12, 13, 14, 15, 16, 17, 18] (fun z : Nat × Nat => [(8, .d (dI s)), (9, .d (Wd v)), (10, .wn false 141 (u.map wd) 0 N), (11, .ow 141 (q.map wd)), (12, .d (dU top)), (13, .d (dU nx)), (14, .d (dI j)), (15, .sb 10 j (n + 3)), (16, .d (dU head)), (17, .d (dU z.1)), (18, .d (dU z.2))])
        (fun z => z.1 * top + z.2 = head ∧ U < (z.1 + 1) * V) (fun z => z.1) (head / top, head % top) rfl ⟨by rw [Nat.mul_comm]; exact Nat.div_add_mod head top, hfirst⟩ (fun (g, r) ⟨hg1, hg2⟩ => ?_)
      simp only [] at hg1 hg2
      have hgb : g < 8589934592 := guess_small hg1 htop0 hhd
      refine AW.seq ?_
      refine AW.cut [8, 9, 10, 11, 12, 13, 14, 15, 16, 17, 18, 133] (fun c : Bool => [(8, .d (dI s)), (9, .d (Wd v)), (10, .wn false 141 (u.map wd) 0 N), (11, .ow 141 (q.map wd)), (12, .d (dU top)), (13, .d (dU nx)), (14, .d (dI j)), (15, .sb 10 j (n + 3)), (16, .d (dU head)), (17, .d (dU g)), (18, .d (dU r)), (133, .d (dB c))])
        (fun c => (c = true → r < 4294967296 ∧ (4294967296 ≤ g ∨ r * 4294967296 + x0 < g * nx)) ∧ (c = false → 4294967296 ≤ r ∨ (g < 4294967296 ∧ g * nx ≤ r * 4294967296 + x0))) ?_ (fun c ⟨hct, hcf⟩ => ?_)
      · refine AW.region ?_
        refine AOps.run tok 3 _ _ _ _ rfl ?_
        refine AOps.split (t := 114) rfl (fun h => ?_) (fun h => ?_)
        · have hr : r < 4294967296 := by have := of_decide_eq_true h; omega
          refine AOps.run tok 3 _ _ _ _ rfl ?_
          refine AOps.split (t := 117) rfl (fun h => ?_) (fun h => ?_)
          · have hg : 4294967296 ≤ g := by have := of_decide_eq_true h; omega
            refine AOps.run tok 16 _ _ _ _ rfl ?_
            refine AOps.nil ?_
            exact ⟨true, rfl, ⟨fun _ => ⟨hr, .inl hg⟩, (fun h => by cases h)⟩⟩
          · have hg : g < 4294967296 := by have := of_decide_eq_false h; omega
            refine AOps.run tok 9 _ _ _ _ rfl ?_
            have hgn : g * nx ≤ 4294967295 * 4294967295 := Nat.mul_le_mul (by omega) (by omega)
            rw [lenWd v, hvl, wI64 (x := ((n + 2 : Nat) : Int) - 2) (by omega) (by omega), show ((n + 2 : Nat) : Int) - 2 = ((n : Nat) : Int) by omega, mulU g nx (by omega), shlU32 r hr]
            refine AOps.idxw tok rfl rfl rfl rfl (Int.natCast_nonneg _) (by simp only [Int.toNat_natCast]; omega) ?_
            rw [Int.toNat_natCast]
            refine AOps.loadel tok (wd x0) rfl rfl rfl rfl (by rw [hx0e']; exact getWd (by omega)) rfl ?_
            refine AOps.run tok 5 _ _ _ _ rfl ?_
            rw [cvU64 x0 (by omega), orW r x0 hr hx0]
            refine AOps.nil ?_
            refine ⟨_, rfl, fun h => ⟨hr, .inr ?_⟩, fun h => .inr ⟨hg, ?_⟩⟩
            · have := of_decide_eq_true h; omega
            · have := of_decide_eq_false h; omega
        · have hr : 4294967296 ≤ r := by have := of_decide_eq_false h; omega
          refine AOps.run tok 19 _ _ _ _ rfl ?_
          refine AOps.nil ?_
          exact ⟨false, rfl, ⟨(fun h => by cases h), fun _ => .inl hr⟩⟩
      · refine AW.cond rfl (fun h => ?_) (fun h => ?_)
        · subst h
          obtain ⟨hr, hc⟩ := hct rfl
          have hnew := guess_true hv2 hU3 hUl hUV hg1 hr hc
          obtain ⟨g', rfl⟩ : ∃ g', g = g' + 1 := ⟨g - 1, by omega⟩
          refine AW.skip ?_
          refine AW.block ?_
          refine AW.seq ?_
          refine AW.region ?_
          refine AOps.run tok 3 _ _ _ _ rfl ?_
          rw [show ((g' + 1 : Nat) : Int) - 1 = (g' : Int) by omega, cvU64 g' (by omega)]
          refine AOps.nil ?_
          refine AW.region ?_
          refine AOps.run tok 4 _ _ _ _ rfl ?_
          rw [addU r top (by omega)]
          refine AOps.nil ?_
          exact ⟨(g', r + top), rfl, ⟨by simp only []; rw [Nat.add_mul] at hg1; omega, hnew.2⟩, by simp only []; omega⟩
        · subst h
          have hend := guess_exit hv2 hU3 hUl hvl0 hUV (by omega) hnw hg1 (hcf rfl)
          refine AW.exit ?_
          exact ⟨g, rfl, hend.1, hend.2, hg2⟩
    obtain ⟨u', hu'⟩ : ∃ u', u' = put u j (n + 3) (dg (n + 3) (U % V)) := ⟨_, rfl⟩
    have hVp : 0 < V := by omega
    refine AW.cut [8, 9, 10, 11, 12, 13, 14, 17] (fun _ : Unit => [(8, .d (dI s)), (9, .d (Wd v)), (10, .wn false 141 (u'.map wd) 0 N), (11, .ow 141 (q.map wd)), (12, .d (dU top)), (13, .d (dU nx)), (14, .d (dI j)), (17, .d (dU (U / V : Nat)))]) (fun _ => True) ?_ (fun _ _ => ?_)
    · refine AW.seq ?_
      refine AW.region ?_
      refine AOps.run tok 3 _ _ _ _ rfl ?_
      refine AOps.callm tok rfl rfl rfl rfl (integer_remove_ok u v j (n + 3) g huw hvw hg1 (by omega) (by omega) (by omega)) (by omega) (plainWd _) rfl ?_
      refine AOps.nil ?_
      refine AW.cond rfl (fun h => ?_) (fun h => ?_)
      · have hneg := of_decide_eq_true h
        rw [hvv, ← hU] at hneg
        obtain ⟨hm1, hm2⟩ := div_back (B := 4294967296 ^ (n + 3)) hneg hg2 hVp (Nat.le_of_lt (Nat.lt_of_lt_of_le hVB (pow_le (by omega))))
        obtain ⟨g', rfl⟩ : ∃ g', g = g' + 1 := ⟨g - 1, by have : g ≠ 0 := (by rintro rfl; omega); omega⟩
        refine AW.seq ?_
        refine AW.region ?_
        refine AOps.run tok 3 _ _ _ _ rfl ?_
        rw [show ((g' + 1 : Nat) : Int) - 1 = (g' : Int) by omega, cvU64 g' (by omega)]
        refine AOps.nil ?_
        refine AW.region ?_
        refine AOps.run tok 2 _ _ _ _ rfl ?_
        rw [hvv, ← hU, if_pos hneg]
        refine AOps.callm tok rfl rfl rfl rfl (integer_back_ok (put u j (n + 3) (dg (n + 3) (U + 4294967296 ^ (n + 3) - (g' + 1) * V))) v j (n + 3) (huw.put (w32_dg _ _) _ _) hvw (by rw [put_length (by omega) (dg_length _ _)]; omega) (by omega) (by omega)) (by omega) (plainWd _) rfl ?_
        refine AOps.nil ?_
        have e1 : put (put u j (n + 3) (dg (n + 3) (U + 4294967296 ^ (n + 3) - (g' + 1) * V))) j (n + 3) (dg (n + 3) (nv (win (put u j (n + 3) (dg (n + 3) (U + 4294967296 ^ (n + 3) - (g' + 1) * V))) j (n + 3)) + nv v)) = u' := by
          rw [win_put (by omega) (dg_length _ _), put_put (by omega) (dg_length _ _), hu', hvv]
          congr 1
          refine dg_congr ?_
          rw [nv_dg, Nat.mod_add_mod, hm1, Nat.add_mod_left]
        rw [e1]
        exact ⟨(), by rw [hm2, Nat.add_sub_cancel]; rfl, trivial⟩
      · have hnn := of_decide_eq_false h
        rw [hvv, ← hU] at hnn
        obtain ⟨hm1, hm2⟩ := div_plain hnn hg3 hVp
        refine AW.skip ?_
        rw [hvv, ← hU, if_neg hnn, Nat.add_zero U, hm1, ← hu']
        exact ⟨(), by rw [hm2]; rfl, trivial⟩
    · refine AW.region ?_
      refine AOps.run tok 4 _ _ _ _ rfl ?_
      refine AOps.idxo tok rfl rfl rfl rfl (Int.natCast_nonneg _) (by simp; omega) ?_
      have hqv : U / V < 4294967296 := (Nat.div_lt_iff_lt_mul hVp).2 hUV
      refine AOps.storeW tok (U / V) rfl rfl rfl (by omega) (by rw [cvU32, Nat.mod_eq_of_lt hqv]) ?_
      refine AOps.nil ?_
      refine AW.region ?_
      refine AOps.run tok 3 _ _ _ _ rfl ?_
      rw [wI64 (x := (j : Int) - 1) (by omega) (by omega)]
      refine AOps.nil ?_
      have hr : U % V < V := Nat.mod_lt _ hVp
      obtain ⟨_, _, hd1, hd2⟩ := div_step (w := dg (n + 3) (U % V)) huw (by omega) hVB hlt hU rfl hr
      rw [← hu'] at hd1 hd2
      refine ⟨(j, u', q.set j (U / V)), rfl, ⟨by omega, by rw [hu', put_length (by omega) (dg_length _ _), hul], by rw [hu']; exact huw.put (w32_dg _ _) _ _, by simpa using hql, hqw.set _ hqv, by rw [hd1]; exact hr, ?_⟩, by simp only []; omega⟩
      simp only []
      rw [nv_drop_set (by omega), ← hval]
      exact div_value hd2 (Nat.div_add_mod U V) (Nat.pow_succ ..)
  · have hk0 : k = 0 := by have := of_decide_eq_false h; omega
    subst hk0
    simp only [List.drop_zero, Nat.pow_zero, Nat.one_mul] at hlt hval
    have hsp : 0 < 2 ^ s := Nat.pow_pos (by decide)
    obtain ⟨hq1, hr1⟩ := div_final hV hlt hval hsp
    refine AW.exit ?_
    refine AW.seq ?_
    refine AW.region ?_
    refine AOps.run tok 1 _ _ _ _ rfl ?_
    refine AOps.frz tok 11 rfl rfl ?_
    refine AOps.call tok rfl rfl rfl rfl (integer_trim_ok q hqw (by omega)) ?_
    refine AOps.run tok 2 _ _ _ _ rfl ?_
    refine AOps.frzw tok 10 rfl rfl ?_
    have eu : ((u.map wd).drop 0).take N = u.map wd := by rw [List.drop_zero, List.take_of_length_le (by simp; omega)]
    rw [eu]
    refine AOps.call tok rfl rfl rfl rfl (integer_down_ok u s huw (by omega) (by omega)) ?_
    refine AOps.run tok 2 _ _ _ _ rfl ?_
    refine AOps.nil ?_
    rw [hq1, hr1]
    exact AW.ret rfl
end Lift
namespace Lift
open Go Go.Proofs
abbrev Wh (g : Bool) (m : List Nat) : D := .ag [dB g, Wd m]
def iw (z : Int) : List Nat := tw z.natAbs
abbrev WhI (z : Int) : D := .ag [dB (decide (z < 0)), Wd (iw z)]
def L (z : Int) : Nat := (iw z).length
abbrev er (n : Int) : D := .v (.iface 55 (.int .i64 n))
abbrev nilE : D := .v .nilIface
def cmpI (a b : Int) : Int := if a < b then -1 else if a = b then 0 else 1
def sgI (a : Int) : Int := if a < 0 then -1 else if a = 0 then 0 else 1
theorem w32_iw (z : Int) : W32 (iw z) := w32_tw _
theorem nm_iw (z : Int) : Nm (iw z) := nm_tw _
theorem nv_iw (z : Int) : nv (iw z) = z.natAbs := nv_tw _
theorem iw_nil {z : Int} : iw z = [] ↔ z = 0 := by
  rw [← nv_zero (nm_iw z), nv_iw]; omega
theorem iw_zero : iw 0 = [] := tw_zero
theorem L_zero : L 0 = 0 := by simp [L, iw_zero]
theorem L_le {z : Int} {k : Nat} (h : z.natAbs < 4294967296 ^ k) : L z ≤ k := tw_length h
theorem lt_L (z : Int) : z.natAbs < 4294967296 ^ L z := lt_tw_length _
theorem L_mono {a b : Int} (h : a.natAbs ≤ b.natAbs) : L a ≤ L b := L_le (Nat.lt_of_le_of_lt h (lt_L b))
theorem L_neg (a : Int) : L (-a) = L a := by simp [L, iw]
theorem L_add (a b : Int) : L (a + b) ≤ max (L a) (L b) + 1 := by
  refine L_le ?_
  have h1 := lt_L a
  have h2 := lt_L b
  have h3 := pow_le (show L a ≤ max (L a) (L b) by omega)
  have h4 := pow_le (show L b ≤ max (L a) (L b) by omega)
  rw [Nat.pow_succ]
  omega
theorem L_mul (a b : Int) : L (a * b) ≤ L a + L b := by
  refine L_le ?_
  rw [Int.natAbs_mul, Nat.pow_add]
  exact Nat.mul_lt_mul'' (lt_L a) (lt_L b)
theorem L_one : L 1 = 1 := by
  have : iw 1 = [1] := by rw [iw, show (1 : Int).natAbs = 1 from rfl, tw_pos (by decide), show 1 / 4294967296 = 0 from rfl, tw_zero]
  rw [L, this]; rfl
theorem L_of (n : Int) (h : n.natAbs ≤ 9223372036854775808) : L n ≤ 2 := L_le (by omega)
theorem nm_last {m : List Nat} (hn : Nm m) (h : m ≠ []) : m.getD (m.length - 1) 0 ≠ 0 := fun e => hn (by
  have : 0 < m.length := List.length_pos_iff.2 h
  rw [List.getLast?_eq_getElem?, List.getElem?_eq_getElem (by omega)]
  simpa [List.getD, show m.length - 1 < m.length by omega] using e)
theorem last_nm {m : List Nat} (h : m.getD (m.length - 1) 0 ≠ 0) : Nm m := fun e => by
  rw [List.getLast?_eq_getElem?] at e
  rw [List.getD, e] at h
  simp at h
def okW (g : Bool) (m : List Nat) : Bool := if m = [] then !g else m.getD (m.length - 1) 0 != 0
theorem okW_iw (z : Int) : okW (decide (z < 0)) (iw z) = true := by
  unfold okW
  by_cases h : iw z = []
  · rw [if_pos h, iw_nil.1 h]; rfl
  · rw [if_neg h]
    simpa using nm_last (nm_iw z) h
theorem integer_Valid_ok (g : Bool) (m : List Nat) (hm : W32 m) (hl : m.length ≤ 1000000000) : Pure Tryz.prog 136 [Wh g m] (dB (okW g m)) := by
  refine Pure.intro (n := 19) tok Tryz.func136 rfl rfl rfl (Nat.le_of_ble_eq_true rfl) (by kernel_rfl) (fun B F0 w0 => ?_)
  refine AW.seq ?_
  refine AW.region ?_
  refine AOps.run tok 2 _ _ _ _ rfl ?_
  refine AOps.nil ?_
  refine AW.seq ?_
  refine AW.seq ?_
  refine AW.region ?_
  refine AOps.run tok 4 _ _ _ _ rfl ?_
  refine AOps.nil ?_
  refine AW.cond rfl (fun h => ?_) (fun h => ?_)
  · have h0 : m = [] := by simpa using h
    rw [okW, if_pos h0]
    refine AW.seq ?_
    refine AW.region ?_
    refine AOps.run tok 4 _ _ _ _ rfl ?_
    refine AOps.nil ?_
    exact AW.ret rfl
  · have h0 : m ≠ [] := by simpa using h
    have hp : 0 < m.length := List.length_pos_iff.2 h0
    rw [okW, if_neg h0]
    refine AW.skip ?_
    refine AW.seq ?_
    refine AW.region ?_
    refine AOps.run tok 6 _ _ _ _ rfl ?_
    rw [lenWd, wI64 (by omega) (by omega), show (m.length : Int) - 1 = ((m.length - 1 : Nat) : Int) by omega]
    refine AOps.idx tok (wd (m.getD (m.length - 1) 0)) rfl rfl rfl rfl (Int.natCast_nonneg _) (getWd (by omega)) ?_
    refine AOps.run tok 3 _ _ _ _ rfl ?_
    refine AOps.nil ?_
    have e : (m.getD (m.length - 1) 0 != 0) = (((m.getD (m.length - 1) 0 : Nat) : Int) != 0) := by
      rw [Bool.eq_iff_iff]; simp
    rw [e]
    exact AW.ret rfl
theorem integer_mag_ok (z : Int) (hl : L z ≤ 1000000000) : Pure Tryz.prog 101 [WhI z] (Wd (iw z)) := by
  refine Pure.intro (n := 8) tok Tryz.func101 rfl rfl rfl (Nat.le_of_ble_eq_true rfl) (by kernel_rfl) (fun B F0 w0 => ?_)
  refine AW.seq ?_
  refine AW.region ?_
  refine AOps.run tok 2 _ _ _ _ rfl ?_
  refine AOps.nil ?_
  refine AW.seq ?_
  refine AW.seq ?_
  refine AW.region ?_
  refine AOps.run tok 1 _ _ _ _ rfl ?_
  refine AOps.call tok rfl rfl rfl rfl (integer_Valid_ok (decide (z < 0)) (iw z) (w32_iw z) hl) ?_
  rw [okW_iw]
  refine AOps.run tok 1 _ _ _ _ rfl ?_
  refine AOps.nil ?_
  refine AW.condF rfl ?_
  refine AW.skip ?_
  refine AW.seq ?_
  refine AW.region ?_
  refine AOps.run tok 3 _ _ _ _ rfl ?_
  refine AOps.nil ?_
  exact AW.ret rfl
theorem integer_neg_ok (z : Int) (hl : L z ≤ 1000000000) : Pure Tryz.prog 102 [WhI z] (dB (decide (z < 0))) := by
  refine Pure.intro (n := 9) tok Tryz.func102 rfl rfl rfl (Nat.le_of_ble_eq_true rfl) (by kernel_rfl) (fun B F0 w0 => ?_)
  refine AW.seq ?_
  refine AW.region ?_
  refine AOps.run tok 2 _ _ _ _ rfl ?_
  refine AOps.nil ?_
  refine AW.seq ?_
  refine AW.region ?_
  refine AOps.run tok 1 _ _ _ _ rfl ?_
  refine AOps.call tok rfl rfl rfl rfl (integer_Valid_ok (decide (z < 0)) (iw z) (w32_iw z) hl) ?_
  rw [okW_iw]
  refine AOps.run tok 5 _ _ _ _ rfl ?_
  refine AOps.nil ?_
  exact AW.ret rfl
def sg (g : Bool) (n : Nat) : Int := if g then -(n : Int) else n
theorem sg_natAbs (g : Bool) (n : Nat) : (sg g n).natAbs = n := by unfold sg; split <;> omega
theorem iw_sg (g : Bool) (n : Nat) : iw (sg g n) = tw n := by rw [iw, sg_natAbs]
theorem sg_neg (g : Bool) (n : Nat) : decide (sg g n < 0) = (g && decide (n ≠ 0)) := by
  rw [Bool.eq_iff_iff]
  unfold sg
  cases g <;> simp
  omega
theorem sg_abs (z : Int) : sg (decide (z < 0)) z.natAbs = z := by
  unfold sg
  split
  · rename_i h; have := of_decide_eq_true h; omega
  · rename_i h; have := of_decide_eq_false (by simpa using h : decide (z < 0) = false); omega
theorem whI_sg (g : Bool) (n : Nat) : WhI (sg g n) = Wh (g && decide (n ≠ 0)) (tw n) := by
  rw [WhI, sg_neg, iw_sg]
theorem integer_whole_ok (g : Bool) (m : List Nat) (hm : W32 m) (hl : m.length ≤ 1000000000) : Pure Tryz.prog 103 [dB g, Wd m] (WhI (sg g (nv m))) := by
  refine Pure.intro (n := 15) tok Tryz.func103 rfl rfl rfl (Nat.le_of_ble_eq_true rfl) (by kernel_rfl) (fun B F0 w0 => ?_)
  refine AW.seq ?_
  refine AW.region ?_
  refine AOps.run tok 1 _ _ _ _ rfl ?_
  refine AOps.nil ?_
  refine AW.seq ?_
  refine AW.region ?_
  refine AOps.run tok 1 _ _ _ _ rfl ?_
  refine AOps.call tok rfl rfl rfl rfl (integer_trim_ok m hm hl) ?_
  refine AOps.run tok 1 _ _ _ _ rfl ?_
  refine AOps.nil ?_
  refine AW.seq ?_
  have hz : decide (((tw (nv m)).map wd).length > (0 : Int)) = decide (nv m ≠ 0) := by
    rw [Bool.eq_iff_iff, lenWd]
    have := nv_zero (nm_tw (nv m))
    rw [nv_tw] at this
    simp [this]
    exact List.length_pos_iff
  refine AW.region ?_
  refine AOps.run tok 2 _ _ _ _ rfl ?_
  refine AOps.split (t := 8) rfl (fun h => ?_) (fun h => ?_)
  · subst h
    refine AOps.run tok 7 _ _ _ _ rfl ?_
    refine AOps.nil ?_
    rw [hz, whI_sg, Bool.true_and]
    exact AW.ret rfl
  · subst h
    refine AOps.run tok 7 _ _ _ _ rfl ?_
    refine AOps.nil ?_
    rw [whI_sg, Bool.false_and]
    exact AW.ret rfl
theorem integer_whole_iw (g : Bool) (z : Int) (hl : L z ≤ 1000000000) : Pure Tryz.prog 103 [dB g, Wd (iw z)] (WhI (sg g z.natAbs)) := by
  have := integer_whole_ok g (iw z) (w32_iw z) hl
  rwa [nv_iw] at this
theorem integer_whole_tw (g : Bool) (n : Nat) (hl : (tw n).length ≤ 1000000000) : Pure Tryz.prog 103 [dB g, Wd (tw n)] (WhI (sg g n)) := by
  have := integer_whole_ok g (tw n) (w32_tw n) hl
  rwa [nv_tw] at this
theorem two_words (m : Nat) (h : m < 18446744073709551616) : nv [m % 4294967296, m / 4294967296 % 4294967296] = m := by
  simp only [nv]; omega
theorem negU (m : Nat) (h0 : 0 < m) (h : m ≤ 18446744073709551616) : IntKind.u64.wrap (0 - (m : Int)) = ((18446744073709551616 - m : Nat) : Int) := by
  simp only [IntKind.wrap, IntKind.bits, IntKind.signed]
  simp
  omega
theorem cvI64U (n : Int) (h0 : n < 0) (h : -9223372036854775808 ≤ n) : IntKind.u64.wrap n = ((18446744073709551616 - n.natAbs : Nat) : Int) := by
  simp only [IntKind.wrap, IntKind.bits, IntKind.signed]
  simp
  omega
theorem integer_Of_ok (n : Int) (h0 : -9223372036854775808 ≤ n) (h1 : n ≤ 9223372036854775807) : Pure Tryz.prog 66 [dI n] (WhI n) := by
  refine Pure.intro (n := 19) tok Tryz.func66 rfl rfl rfl (Nat.le_of_ble_eq_true rfl) (by kernel_rfl) (fun B F0 w0 => ?_)
  have hfin : ∀ (m : Nat), m < 18446744073709551616 → m = n.natAbs → Pure Tryz.prog 103 [dB (decide (n < 0)), Wd [m % 4294967296, m / 4294967296 % 4294967296]] (WhI n) := fun m hm he => by
    have := integer_whole_ok (decide (n < 0)) [m % 4294967296, m / 4294967296 % 4294967296] (W32.cons.2 ⟨Nat.mod_lt _ (by decide), W32.cons.2 ⟨Nat.mod_lt _ (by decide), W32.nil⟩⟩) (by simp)
    rw [two_words m hm, he, sg_abs] at this
    rw [he]
    exact this
  refine AW.seq ?_
  refine AW.region ?_
  refine AOps.run tok 1 _ _ _ _ rfl ?_
  refine AOps.nil ?_
  refine AW.seq ?_
  refine AW.region ?_
  refine AOps.run tok 3 _ _ _ _ rfl ?_
  refine AOps.nil ?_
  refine AW.cut [0, 2, 3] (fun _ : Unit => [(0, .d (dI n)), (2, .bx [dB false, .sl 1 []]), (3, .d (dU n.natAbs))]) (fun _ => True) ?_ (fun _ _ => ?_)
  · refine AW.seq ?_
    refine AW.region ?_
    refine AOps.run tok 2 _ _ _ _ rfl ?_
    refine AOps.nil ?_
    refine AW.cond rfl (fun h => ?_) (fun h => ?_)
    · have hn := of_decide_eq_true h
      refine AW.region ?_
      refine AOps.run tok 3 _ _ _ _ rfl ?_
      rw [cvI64U n hn h0, negU _ (by omega) (by omega), show 18446744073709551616 - (18446744073709551616 - n.natAbs) = n.natAbs by omega]
      refine AOps.nil ?_
      exact ⟨(), rfl, trivial⟩
    · have hn := of_decide_eq_false h
      refine AW.skip ?_
      rw [wU64 (x := n) (by omega) (by omega)]
      exact ⟨(), by rw [show ((n.natAbs : Nat) : Int) = n by omega]; rfl, trivial⟩
  · refine AW.seq ?_
    refine AW.region ?_
    refine AOps.run tok 7 _ _ _ _ rfl ?_
    rw [cvU32, shrU32, cvU32]
    refine AOps.bs tok rfl rfl rfl rfl ?_
    refine AOps.frz tok 17 rfl rfl ?_
    refine AOps.call tok rfl rfl rfl rfl (hfin n.natAbs (by omega) rfl) ?_
    refine AOps.run tok 1 _ _ _ _ rfl ?_
    refine AOps.nil ?_
    exact AW.ret rfl
theorem integer_Sign_ok (z : Int) (hl : L z ≤ 1000000000) : Pure Tryz.prog 67 [WhI z] (dI (sgI z)) := by
  refine Pure.intro (n := 11) tok Tryz.func67 rfl rfl rfl (Nat.le_of_ble_eq_true rfl) (by kernel_rfl) (fun B F0 w0 => ?_)
  refine AW.seq ?_
  refine AW.region ?_
  refine AOps.run tok 2 _ _ _ _ rfl ?_
  refine AOps.nil ?_
  refine AW.seq ?_
  refine AW.block ?_
  refine AW.seq ?_
  refine AW.region ?_
  refine AOps.run tok 1 _ _ _ _ rfl ?_
  refine AOps.call tok rfl rfl rfl rfl (integer_mag_ok z hl) ?_
  refine AOps.run tok 3 _ _ _ _ rfl ?_
  refine AOps.nil ?_
  refine AW.cond rfl (fun h => ?_) (fun h => ?_)
  · have h0 : z = 0 := iw_nil.1 (by simpa using h)
    rw [show sgI z = 0 by subst h0; rfl]
    refine AW.seq ?_
    refine AW.region ?_
    refine AOps.run tok 1 _ _ _ _ rfl ?_
    refine AOps.nil ?_
    exact AW.ret rfl
  · have h0 : z ≠ 0 := fun e => by rw [iw_nil.2 e] at h; cases h
    refine AW.seq ?_
    refine AW.region ?_
    refine AOps.run tok 3 _ _ _ _ rfl ?_
    refine AOps.nil ?_
    refine AW.cond rfl (fun h => ?_) (fun h => ?_)
    · have hn := of_decide_eq_true h
      rw [show sgI z = -1 by unfold sgI; rw [if_pos hn]]
      refine AW.seq ?_
      refine AW.region ?_
      refine AOps.run tok 1 _ _ _ _ rfl ?_
      refine AOps.nil ?_
      exact AW.ret rfl
    · have hn := of_decide_eq_false h
      rw [show sgI z = 1 by unfold sgI; rw [if_neg hn, if_neg h0]]
      refine AW.skip ?_
      refine AW.seq ?_
      refine AW.region ?_
      refine AOps.run tok 1 _ _ _ _ rfl ?_
      refine AOps.nil ?_
      exact AW.ret rfl
theorem cmpN_iw (x y : Int) : cmpN (nv (iw x)) (nv (iw y)) = cmpI x.natAbs y.natAbs := by
  rw [nv_iw, nv_iw]
  unfold cmpN cmpI
  repeat' split
  all_goals first | rfl | omega
theorem compare_iw (x y : Int) (hx : L x ≤ 1000000000) : Pure Tryz.prog 100 [Wd (iw x), Wd (iw y)] (dI (cmpI x.natAbs y.natAbs)) := by
  rw [← cmpN_iw]
  exact integer_compare_ok (iw x) (iw y) (w32_iw x) (w32_iw y) (nm_iw x) (nm_iw y) hx
theorem cmpI_sign {x y : Int} (h : sgI x ≠ sgI y) : cmpI x y = if sgI x < sgI y then -1 else 1 := by
  unfold sgI at h ⊢
  unfold cmpI
  repeat' split at h
  all_goals first | (exact absurd rfl h) | skip
  all_goals (repeat' split)
  all_goals first | rfl | omega
theorem cmpI_abs {x y : Int} (h : sgI x = sgI y) : cmpI x y = if x < 0 then -(cmpI x.natAbs y.natAbs) else cmpI x.natAbs y.natAbs := by
  unfold sgI at h
  unfold cmpI
  repeat' split at h
  all_goals first | (cases h; done) | skip
  all_goals (repeat' split)
  all_goals first | rfl | omega
theorem cmpI_range (x y : Int) : cmpI x y = -1 ∨ cmpI x y = 0 ∨ cmpI x y = 1 := by
  unfold cmpI; repeat' split
  all_goals simp
theorem integer_Cmp_ok (x y : Int) (hx : L x ≤ 1000000000) (hy : L y ≤ 1000000000) : Pure Tryz.prog 54 [WhI x, WhI y] (dI (cmpI x y)) := by
  refine Pure.intro (n := 28) tok Tryz.func54 rfl rfl rfl (Nat.le_of_ble_eq_true rfl) (by kernel_rfl) (fun B F0 w0 => ?_)
  refine AW.seq ?_
  refine AW.region ?_
  refine AOps.run tok 3 _ _ _ _ rfl ?_
  refine AOps.nil ?_
  refine AW.seq ?_
  refine AW.seq ?_
  refine AW.draw hmix 4 (by kernel_rfl) ?_
  refine APre.run tok 1 _ _ _ _ rfl ?_
  refine APre.call tok rfl rfl rfl rfl rfl (integer_Sign_ok x hx) ?_
  refine APre.run tok 1 _ _ _ _ rfl ?_
  refine APre.call tok rfl rfl rfl rfl rfl (integer_Sign_ok y hy) ?_
  refine APre.nil ?_
  refine AOps.run tok 2 _ _ _ _ rfl ?_
  refine AOps.nil ?_
  refine AW.seq ?_
  refine AW.region ?_
  refine AOps.run tok 3 _ _ _ _ rfl ?_
  refine AOps.nil ?_
  refine AW.cond rfl (fun h => ?_) (fun h => ?_)
  · have hne : sgI x ≠ sgI y := by simpa using h
    rw [cmpI_sign hne]
    refine AW.seq ?_
    refine AW.seq ?_
    refine AW.region ?_
    refine AOps.run tok 3 _ _ _ _ rfl ?_
    refine AOps.nil ?_
    refine AW.cond rfl (fun h => ?_) (fun h => ?_)
    · rw [if_pos (of_decide_eq_true h)]
      refine AW.seq ?_
      refine AW.region ?_
      refine AOps.run tok 1 _ _ _ _ rfl ?_
      refine AOps.nil ?_
      exact AW.ret rfl
    · rw [if_neg (of_decide_eq_false h)]
      refine AW.skip ?_
      refine AW.seq ?_
      refine AW.region ?_
      refine AOps.run tok 1 _ _ _ _ rfl ?_
      refine AOps.nil ?_
      exact AW.ret rfl
  · have heq : sgI x = sgI y := by simpa using h
    rw [cmpI_abs heq]
    refine AW.skip ?_
    refine AW.seq ?_
    refine AW.draw hmix 5 (by kernel_rfl) ?_
    refine APre.run tok 1 _ _ _ _ rfl ?_
    refine APre.call tok rfl rfl rfl rfl rfl (integer_mag_ok x hx) ?_
    refine APre.run tok 1 _ _ _ _ rfl ?_
    refine APre.call tok rfl rfl rfl rfl rfl (integer_mag_ok y hy) ?_
    refine APre.call tok rfl rfl rfl rfl rfl (compare_iw x y hx) ?_
    refine APre.nil ?_
    refine AOps.run tok 1 _ _ _ _ rfl ?_
    refine AOps.nil ?_
    refine AW.seq ?_
    refine AW.seq ?_
    refine AW.region ?_
    refine AOps.run tok 1 _ _ _ _ rfl ?_
    refine AOps.call tok rfl rfl rfl rfl (integer_neg_ok x hx) ?_
    refine AOps.nil ?_
    refine AW.cond rfl (fun h => ?_) (fun h => ?_)
    · rw [if_pos (of_decide_eq_true h)]
      refine AW.seq ?_
      refine AW.region ?_
      refine AOps.run tok 3 _ _ _ _ rfl ?_
      have hr := cmpI_range x.natAbs y.natAbs
      rw [wI64 (by omega) (by omega), Int.zero_sub]
      refine AOps.nil ?_
      exact AW.ret rfl
    · rw [if_neg (of_decide_eq_false h)]
      refine AW.skip ?_
      refine AW.seq ?_
      refine AW.region ?_
      refine AOps.run tok 2 _ _ _ _ rfl ?_
      refine AOps.nil ?_
      exact AW.ret rfl
end Lift
namespace Lift
open Go Go.Proofs
theorem sg_not (z : Int) : sg (!decide (z < 0)) z.natAbs = -z := by
  unfold sg
  by_cases h : z < 0
  · simp [h]; omega
  · simp [h]; omega
theorem integer_Neg_ok (z : Int) (hl : L z ≤ 1000000000) : Pure Tryz.prog 112 [WhI z] (WhI (-z)) := by
  refine Pure.intro (n := 9) tok Tryz.func112 rfl rfl rfl (Nat.le_of_ble_eq_true rfl) (by kernel_rfl) (fun B F0 w0 => ?_)
  refine AW.seq ?_
  refine AW.region ?_
  refine AOps.run tok 2 _ _ _ _ rfl ?_
  refine AOps.nil ?_
  refine AW.seq ?_
  refine AW.draw hmix 6 (by kernel_rfl) ?_
  refine APre.run tok 1 _ _ _ _ rfl ?_
  refine APre.call tok rfl rfl rfl rfl rfl (integer_neg_ok z hl) ?_
  refine APre.run tok 2 _ _ _ _ rfl ?_
  refine APre.call tok rfl rfl rfl rfl rfl (integer_mag_ok z hl) ?_
  refine APre.call tok rfl rfl rfl rfl rfl (integer_whole_iw (!decide (z < 0)) z hl) ?_
  refine APre.nil ?_
  refine AOps.run tok 1 _ _ _ _ rfl ?_
  refine AOps.nil ?_
  rw [sg_not]
  exact AW.ret rfl
theorem plus_iw (x y : Int) (hx : L x ≤ 100000000) (hy : L y ≤ 100000000) : Pure Tryz.prog 115 [Wd (iw x), Wd (iw y)] (Wd (tw (x.natAbs + y.natAbs))) := by
  have := integer_plus_ok (iw x) (iw y) (w32_iw x) (w32_iw y) hx hy
  rwa [nv_iw, nv_iw] at this
theorem less_iw (x y : Int) (hx : L x ≤ 100000000) (hle : y.natAbs ≤ x.natAbs) : Pure Tryz.prog 116 [Wd (iw x), Wd (iw y)] (Wd (tw (x.natAbs - y.natAbs))) := by
  have := integer_less_ok (iw x) (iw y) (w32_iw x) (w32_iw y) hx (by rwa [nv_iw, nv_iw])
  rwa [nv_iw, nv_iw] at this
theorem times_iw (x y : Int) (hx : L x ≤ 100000000) (hy : L y ≤ 100000000) : Pure Tryz.prog 104 [Wd (iw x), Wd (iw y)] (Wd (tw (x.natAbs * y.natAbs))) := by
  have := integer_times_ok (iw x) (iw y) (w32_iw x) (w32_iw y) hx hy
  rwa [nv_iw, nv_iw] at this
theorem divide_iw (x y : Int) (hx : L x ≤ 50000000) (hy : L y ≤ 50000000) (h0 : y ≠ 0) : Pure Tryz.prog 144 [Wd (iw x), Wd (iw y)] (.tu [Wd (tw (x.natAbs / y.natAbs)), Wd (tw (x.natAbs % y.natAbs))]) := by
  have := integer_divide_ok (iw x) (iw y) (w32_iw x) (w32_iw y) (nm_iw x) (nm_iw y) hx hy (fun e => h0 (iw_nil.1 e))
  rwa [nv_iw, nv_iw] at this
theorem len_tw {n : Nat} {z : Int} (h : n ≤ z.natAbs) : (tw n).length ≤ L z := tw_length (Nat.lt_of_le_of_lt h (lt_L z))
theorem len_add (x y : Int) : (tw (x.natAbs + y.natAbs)).length ≤ max (L x) (L y) + 1 := by
  have := L_add (x.natAbs : Int) (y.natAbs : Int)
  simpa [L, iw, Int.natAbs_add_of_nonneg] using this
theorem len_mul (x y : Int) : (tw (x.natAbs * y.natAbs)).length ≤ L x + L y := by
  have := L_mul x y
  rwa [L, iw, Int.natAbs_mul] at this
theorem add_same {a b : Int} (h : decide (a < 0) = decide (b < 0)) : sg (decide (a < 0)) (a.natAbs + b.natAbs) = a + b := by
  unfold sg
  by_cases ha : a < 0 <;> by_cases hb : b < 0 <;> simp [ha, hb] at h ⊢ <;> omega
theorem add_ge {a b : Int} (h : decide (a < 0) ≠ decide (b < 0)) (hc : b.natAbs ≤ a.natAbs) : sg (decide (a < 0)) (a.natAbs - b.natAbs) = a + b := by
  unfold sg
  by_cases ha : a < 0 <;> by_cases hb : b < 0 <;> simp [ha, hb] at h ⊢ <;> omega
theorem cmpI_ge {a b : Nat} (h : (0 : Int) ≤ cmpI a b) : b ≤ a := by
  unfold cmpI at h; split at h <;> omega
theorem cmpI_lt {a b : Nat} (h : ¬ (0 : Int) ≤ cmpI a b) : a < b := by
  unfold cmpI at h; split at h
  · omega
  · split at h <;> omega
set_option maxHeartbeats 400000 in
theorem integer_Add_ok (a b : Int) (ha : L a ≤ 100000000) (hb : L b ≤ 100000000) : Pure Tryz.prog 64 [WhI a, WhI b] (WhI (a + b)) := by
  refine Pure.intro (n := 40) tok Tryz.func64 rfl rfl rfl (Nat.le_of_ble_eq_true rfl) (by kernel_rfl) (fun B F0 w0 => ?_)
  refine AW.seq ?_
  refine AW.region ?_
  refine AOps.run tok 3 _ _ _ _ rfl ?_
  refine AOps.nil ?_
  refine AW.seq ?_
  refine AW.draw hmix 4 (by kernel_rfl) ?_
  refine APre.run tok 1 _ _ _ _ rfl ?_
  refine APre.call tok rfl rfl rfl rfl rfl (integer_mag_ok a (by omega)) ?_
  refine APre.run tok 1 _ _ _ _ rfl ?_
  refine APre.call tok rfl rfl rfl rfl rfl (integer_mag_ok b (by omega)) ?_
  refine APre.nil ?_
  refine AOps.run tok 2 _ _ _ _ rfl ?_
  refine AOps.nil ?_
  refine AW.norm [2, 3, 4, 5, 6] [(2, .bx [dB (decide (a < 0)), Wd (iw a)]), (3, .bx [dB (decide (b < 0)), Wd (iw b)]), (4, .bx [dB false, .sl 1 []]), (5, .d (Wd (iw a))), (6, .d (Wd (iw b)))] rfl ?_
  refine AW.seq ?_
  refine AW.block ?_
  refine AW.seq ?_
  refine AW.draw hmix 5 (by kernel_rfl) ?_
  refine APre.run tok 1 _ _ _ _ rfl ?_
  refine APre.call tok rfl rfl rfl rfl rfl (integer_neg_ok a (by omega)) ?_
  refine APre.run tok 1 _ _ _ _ rfl ?_
  refine APre.call tok rfl rfl rfl rfl rfl (integer_neg_ok b (by omega)) ?_
  refine APre.be tok rfl rfl rfl rfl rfl ?_
  refine APre.nil ?_
  refine AOps.run tok 1 _ _ _ _ rfl ?_
  refine AOps.nil ?_
  refine AW.norm [2, 3, 4, 5, 6, 11] [(2, .bx [dB (decide (a < 0)), Wd (iw a)]), (3, .bx [dB (decide (b < 0)), Wd (iw b)]), (4, .bx [dB false, .sl 1 []]), (5, .d (Wd (iw a))), (6, .d (Wd (iw b))), (11, .d (dB ((decide (a < 0) == decide (b < 0)) == true)))] rfl ?_
  refine AW.cond rfl (fun h => ?_) (fun h => ?_)
  · have he : decide (a < 0) = decide (b < 0) := by simpa using h
    rw [← add_same he]
    have hl := len_add a b
    refine AW.seq ?_
    refine AW.region ?_
    refine AOps.run tok 1 _ _ _ _ rfl ?_
    refine AOps.call tok rfl rfl rfl rfl (integer_neg_ok a (by omega)) ?_
    refine AOps.run tok 2 _ _ _ _ rfl ?_
    refine AOps.call tok rfl rfl rfl rfl (plus_iw a b ha hb) ?_
    refine AOps.call tok rfl rfl rfl rfl (integer_whole_tw (decide (a < 0)) _ (by omega)) ?_
    refine AOps.run tok 1 _ _ _ _ rfl ?_
    refine AOps.nil ?_
    exact AW.ret rfl
  · have he : decide (a < 0) ≠ decide (b < 0) := by simpa using h
    refine AW.seq ?_
    refine AW.region ?_
    refine AOps.run tok 2 _ _ _ _ rfl ?_
    refine AOps.call tok rfl rfl rfl rfl (compare_iw a b (by omega)) ?_
    refine AOps.run tok 2 _ _ _ _ rfl ?_
    refine AOps.nil ?_
    refine AW.cond rfl (fun h => ?_) (fun h => ?_)
    · have hc := cmpI_ge (of_decide_eq_true h)
      rw [← add_ge he hc]
      have hl := len_tw (z := a) (n := a.natAbs - b.natAbs) (by omega)
      refine AW.seq ?_
      refine AW.region ?_
      refine AOps.run tok 1 _ _ _ _ rfl ?_
      refine AOps.call tok rfl rfl rfl rfl (integer_neg_ok a (by omega)) ?_
      refine AOps.run tok 2 _ _ _ _ rfl ?_
      refine AOps.call tok rfl rfl rfl rfl (less_iw a b ha hc) ?_
      refine AOps.call tok rfl rfl rfl rfl (integer_whole_tw (decide (a < 0)) _ (by omega)) ?_
      refine AOps.run tok 1 _ _ _ _ rfl ?_
      refine AOps.nil ?_
      exact AW.ret rfl
    · have hc := cmpI_lt (of_decide_eq_false h)
      rw [Int.add_comm, ← add_ge (Ne.symm he) (Nat.le_of_lt hc)]
      have hl := len_tw (z := b) (n := b.natAbs - a.natAbs) (by omega)
      refine AW.skip ?_
      refine AW.seq ?_
      refine AW.region ?_
      refine AOps.run tok 1 _ _ _ _ rfl ?_
      refine AOps.call tok rfl rfl rfl rfl (integer_neg_ok b (by omega)) ?_
      refine AOps.run tok 2 _ _ _ _ rfl ?_
      refine AOps.call tok rfl rfl rfl rfl (less_iw b a hb (by omega)) ?_
      refine AOps.call tok rfl rfl rfl rfl (integer_whole_tw (decide (b < 0)) _ (by omega)) ?_
      refine AOps.run tok 1 _ _ _ _ rfl ?_
      refine AOps.nil ?_
      exact AW.ret rfl
theorem mul_sg (a b : Int) : sg ((decide (a < 0) == decide (b < 0)) == false) (a.natAbs * b.natAbs) = a * b := by
  have h := Int.natAbs_mul a b
  rw [← h]
  by_cases ha : a < 0 <;> by_cases hb : b < 0
  · have : 0 < a * b := Int.mul_pos_of_neg_of_neg ha hb
    simp [ha, hb, sg]; omega
  · have : a * b ≤ 0 := Int.mul_nonpos_of_nonpos_of_nonneg (by omega) (by omega)
    simp [ha, hb, sg]; omega
  · have : a * b ≤ 0 := Int.mul_nonpos_of_nonneg_of_nonpos (by omega) (by omega)
    simp [ha, hb, sg]; omega
  · have : 0 ≤ a * b := Int.mul_nonneg (by omega) (by omega)
    simp [ha, hb, sg]; omega
theorem integer_Mul_ok (a b : Int) (ha : L a ≤ 100000000) (hb : L b ≤ 100000000) : Pure Tryz.prog 55 [WhI a, WhI b] (WhI (a * b)) := by
  refine Pure.intro (n := 16) tok Tryz.func55 rfl rfl rfl (Nat.le_of_ble_eq_true rfl) (by kernel_rfl) (fun B F0 w0 => ?_)
  have hl := len_mul a b
  refine AW.seq ?_
  refine AW.region ?_
  refine AOps.run tok 3 _ _ _ _ rfl ?_
  refine AOps.nil ?_
  refine AW.seq ?_
  refine AW.draw hmix 11 (by kernel_rfl) ?_
  refine APre.run tok 1 _ _ _ _ rfl ?_
  refine APre.call tok rfl rfl rfl rfl rfl (integer_neg_ok a (by omega)) ?_
  refine APre.run tok 1 _ _ _ _ rfl ?_
  refine APre.call tok rfl rfl rfl rfl rfl (integer_neg_ok b (by omega)) ?_
  refine APre.be tok rfl rfl rfl rfl rfl ?_
  refine APre.run tok 1 _ _ _ _ rfl ?_
  refine APre.call tok rfl rfl rfl rfl rfl (integer_mag_ok a (by omega)) ?_
  refine APre.run tok 1 _ _ _ _ rfl ?_
  refine APre.call tok rfl rfl rfl rfl rfl (integer_mag_ok b (by omega)) ?_
  refine APre.call tok rfl rfl rfl rfl rfl (times_iw a b ha hb) ?_
  refine APre.call tok rfl rfl rfl rfl rfl (integer_whole_tw ((decide (a < 0) == decide (b < 0)) == false) _ (by omega)) ?_
  refine APre.nil ?_
  refine AOps.run tok 1 _ _ _ _ rfl ?_
  refine AOps.nil ?_
  rw [mul_sg]
  exact AW.ret rfl
theorem twLen_pos (n : Nat) : ((((tw n).map wd).length : Int) > 0) ↔ n ≠ 0 := by
  have h := nv_zero (nm_tw n)
  rw [nv_tw] at h
  rw [lenWd, Ne, h]
  exact Iff.trans (by omega) List.length_pos_iff
theorem len_succ (n : Nat) : (tw (n + 1)).length ≤ (tw n).length + 1 := tw_length (by
  have := lt_tw_length n
  rw [Nat.pow_succ]; omega)
theorem divmod {a b q r : Int} (h : b * q + r = a) (h0 : 0 ≤ r) (h1 : r < b.natAbs) : a / b = q ∧ a % b = r := by
  have key : ∀ (b q : Int), 0 < b → b * q + r = a → r < b → a / b = q ∧ a % b = r := fun b q hb h h1 => by
    subst h
    have e : (b * q + r) % b = r := by rw [Int.add_comm, Int.add_mul_emod_self_left, Int.emod_eq_of_lt h0 h1]
    refine ⟨?_, e⟩
    rw [Int.add_comm, Int.add_mul_ediv_left _ _ (by omega), Int.ediv_eq_zero_of_lt h0 h1, Int.zero_add]
  by_cases hb : 0 < b
  · exact key b q hb h (by omega)
  · have h2 := key (-b) (-q) (by omega) (by rw [Int.neg_mul_neg]; exact h) (by omega)
    rw [Int.ediv_neg, Int.emod_neg] at h2
    exact ⟨by omega, h2.2⟩
theorem div_sg {a b : Int} (hb : b ≠ 0) (m n : Nat) (h : (a < 0 ∧ a.natAbs % b.natAbs ≠ 0 ∧ m = a.natAbs / b.natAbs + 1 ∧ n = b.natAbs - a.natAbs % b.natAbs) ∨ ((0 ≤ a ∨ a.natAbs % b.natAbs = 0) ∧ m = a.natAbs / b.natAbs ∧ n = a.natAbs % b.natAbs)) :
    sg ((decide (a < 0) == decide (b < 0)) == false) m = a / b ∧ sg false n = a % b := by
  have hlt : a.natAbs % b.natAbs < b.natAbs := Nat.mod_lt _ (by omega)
  have hdm := Nat.div_add_mod a.natAbs b.natAbs
  have hnn : sg false n = (n : Int) := rfl
  rw [hnn]
  generalize a.natAbs / b.natAbs = q0 at h hdm
  generalize a.natAbs % b.natAbs = r0 at h hdm hlt
  have hs : ∀ g : Bool, b * sg g m = if ((decide (b < 0)) == g) then ((b.natAbs * m : Nat) : Int) else -((b.natAbs * m : Nat) : Int) := fun g => by
    rw [Int.natCast_mul]
    unfold sg
    by_cases h : b < 0
    · have e : b = -(b.natAbs : Int) := by omega
      cases g <;> simp [h] <;> (conv => lhs; rw [e]) <;> simp [Int.neg_mul, Int.mul_neg]
    · have e : b = (b.natAbs : Int) := by omega
      cases g <;> simp [h] <;> (conv => lhs; rw [e]) <;> simp [Int.neg_mul, Int.mul_neg]
  refine (fun h => ⟨h.1.symm, h.2.symm⟩) (divmod (q := sg ((decide (a < 0) == decide (b < 0)) == false) m) (r := (n : Int)) ?_ (by omega) ?_)
  · rw [hs]
    have hg : (decide (b < 0) == ((decide (a < 0) == decide (b < 0)) == false)) = !decide (a < 0) := by
      by_cases h1 : a < 0 <;> by_cases h2 : b < 0 <;> simp [h1, h2]
    rw [hg]
    rcases h with ⟨h1, h2, rfl, rfl⟩ | ⟨h1, rfl, rfl⟩
    · rw [Nat.mul_add, Nat.mul_one]
      generalize b.natAbs * q0 = p at hdm ⊢
      simp only [h1, decide_true, Bool.not_true, Bool.false_eq_true, if_false]
      omega
    · generalize b.natAbs * m = p at hdm ⊢
      by_cases ha : a < 0
      · simp only [ha, decide_true, Bool.not_true, Bool.false_eq_true, if_false]
        omega
      · simp only [ha, decide_false, Bool.not_false, if_true]
        omega
  · rcases h with ⟨h1, h2, rfl, rfl⟩ | ⟨h1, rfl, rfl⟩ <;> omega
set_option maxHeartbeats 800000 in
theorem integer_Div_ok (a b : Int) (ha : L a ≤ 50000000) (hb : L b ≤ 50000000) (h0 : b ≠ 0) : Pure Tryz.prog 114 [WhI a, WhI b] (.tu [WhI (a / b), WhI (a % b), nilE]) := by
  refine Pure.intro (n := 47) tok Tryz.func114 rfl rfl rfl (Nat.le_of_ble_eq_true rfl) (by kernel_rfl) (fun B F0 w0 => ?_)
  refine AW.seq ?_
  refine AW.region ?_
  refine AOps.run tok 5 _ _ _ _ rfl ?_
  refine AOps.nil ?_
  refine AW.seq ?_
  refine AW.region ?_
  refine AOps.run tok 1 _ _ _ _ rfl ?_
  refine AOps.call tok rfl rfl rfl rfl (integer_mag_ok b (by omega)) ?_
  refine AOps.run tok 1 _ _ _ _ rfl ?_
  refine AOps.nil ?_
  refine AW.seq ?_
  refine AW.seq ?_
  refine AW.region ?_
  refine AOps.run tok 3 _ _ _ _ rfl ?_
  have hne : (((iw b).map wd).length : Int) ≠ 0 := by
    have : iw b ≠ [] := fun e => h0 (iw_nil.1 e)
    have := List.length_pos_iff.2 this
    rw [lenWd]; omega
  rw [show ((((iw b).map wd).length : Int) == 0) = false by simpa using hne]
  refine AOps.nil ?_
  refine AW.condF rfl ?_
  refine AW.skip ?_
  refine AW.seq ?_
  refine AW.region ?_
  refine AOps.run tok 1 _ _ _ _ rfl ?_
  refine AOps.call tok rfl rfl rfl rfl (integer_mag_ok a (by omega)) ?_
  refine AOps.run tok 1 _ _ _ _ rfl ?_
  refine AOps.call tok rfl rfl rfl rfl (divide_iw a b ha hb h0) ?_
  refine AOps.run tok 5 _ _ _ _ rfl ?_
  refine AOps.nil ?_
  have hlt : a.natAbs % b.natAbs < b.natAbs := Nat.mod_lt _ (by omega)
  have hdl : a.natAbs / b.natAbs ≤ a.natAbs := Nat.div_le_self _ _
  have hr0 := twLen_pos (a.natAbs % b.natAbs)
  have hl1 := len_tw (z := a) hdl
  have hl2 := len_tw (z := b) (n := a.natAbs % b.natAbs) (by omega)
  refine AW.cut [2, 3, 4, 5, 8, 9] (fun s : Nat × Nat => [(2, .bx [dB (decide (a < 0)), Wd (iw a)]), (3, .bx [dB (decide (b < 0)), Wd (iw b)]), (4, .bx [dB false, .sl 1 []]), (5, .bx [dB false, .sl 1 []]), (8, .d (Wd (tw s.1))), (9, .d (Wd (tw s.2)))])
    (fun s => (tw s.1).length ≤ 50000002 ∧ (tw s.2).length ≤ 50000002 ∧ sg ((decide (a < 0) == decide (b < 0)) == false) s.1 = a / b ∧ sg false s.2 = a % b) ?_ (fun (m, n) ⟨hm, hn, hq, hr⟩ => ?_)
  · refine AW.cut [2, 3, 4, 5, 7, 8, 9, 31] (fun c : Bool => [(2, .bx [dB (decide (a < 0)), Wd (iw a)]), (3, .bx [dB (decide (b < 0)), Wd (iw b)]), (4, .bx [dB false, .sl 1 []]), (5, .bx [dB false, .sl 1 []]), (7, .d (Wd (iw b))), (8, .d (Wd (tw (a.natAbs / b.natAbs)))), (9, .d (Wd (tw (a.natAbs % b.natAbs)))), (31, .d (dB c))])
      (fun c => (c = true → a < 0 ∧ a.natAbs % b.natAbs ≠ 0) ∧ (c = false → 0 ≤ a ∨ a.natAbs % b.natAbs = 0)) ?_ (fun c ⟨ht, hf⟩ => ?_)
    · refine AW.region ?_
      refine AOps.run tok 1 _ _ _ _ rfl ?_
      refine AOps.call tok rfl rfl rfl rfl (integer_neg_ok a (by omega)) ?_
      refine AOps.run tok 1 _ _ _ _ rfl ?_
      refine AOps.split (t := 27) rfl (fun h => ?_) (fun h => ?_)
      · have hneg := of_decide_eq_true h
        refine AOps.run tok 4 _ _ _ _ rfl ?_
        refine AOps.nil ?_
        refine ⟨_, rfl, ⟨fun h => ⟨hneg, hr0.1 (of_decide_eq_true h)⟩, fun h => .inr ?_⟩⟩
        have := of_decide_eq_false h
        rw [hr0] at this
        exact Decidable.not_not.1 this
      · have hneg := of_decide_eq_false h
        refine AOps.run tok 4 _ _ _ _ rfl ?_
        refine AOps.nil ?_
        exact ⟨false, rfl, ⟨(fun h => by cases h), fun _ => .inl (by omega)⟩⟩
    · refine AW.cond rfl (fun h => ?_) (fun h => ?_)
      · subst h
        obtain ⟨hneg, hrn⟩ := ht rfl
        have hl3 := len_succ (a.natAbs / b.natAbs)
        refine AW.region ?_
        refine AOps.run tok 1 _ _ _ _ rfl ?_
        refine AOps.bs tok rfl rfl rfl rfl ?_
        refine AOps.frz tok 33 rfl rfl ?_
        refine AOps.call tok rfl rfl rfl rfl (integer_plus_ok (tw (a.natAbs / b.natAbs)) [1] (w32_tw _) (W32.cons.2 ⟨by decide, W32.nil⟩) (by omega) (by decide)) ?_
        refine AOps.run tok 2 _ _ _ _ rfl ?_
        refine AOps.call tok rfl rfl rfl rfl (integer_less_ok (iw b) (tw (a.natAbs % b.natAbs)) (w32_iw b) (w32_tw _) (Nat.le_trans hb (by decide)) (by rw [nv_tw, nv_iw]; omega)) ?_
        rw [nv_tw, nv_tw, nv_iw, show nv [1] = 1 from rfl]
        refine AOps.run tok 2 _ _ _ _ rfl ?_
        refine AOps.nil ?_
        exact ⟨(a.natAbs / b.natAbs + 1, b.natAbs - a.natAbs % b.natAbs), rfl, ⟨Nat.le_trans hl3 (by omega), Nat.le_trans (len_tw (z := b) (by simp only []; omega)) (by omega), div_sg h0 _ _ (.inl ⟨hneg, hrn, rfl, rfl⟩)⟩⟩
      · subst h
        refine AW.skip ?_
        exact ⟨(a.natAbs / b.natAbs, a.natAbs % b.natAbs), rfl, ⟨by simp only []; omega, by simp only []; omega, div_sg h0 _ _ (.inr ⟨hf rfl, rfl, rfl⟩)⟩⟩
  · simp only [] at hm hn hq hr
    refine AW.seq ?_
    refine AW.draw hmix 9 (by kernel_rfl) ?_
    refine APre.run tok 1 _ _ _ _ rfl ?_
    refine APre.call tok rfl rfl rfl rfl rfl (integer_neg_ok a (by omega)) ?_
    refine APre.run tok 1 _ _ _ _ rfl ?_
    refine APre.call tok rfl rfl rfl rfl rfl (integer_neg_ok b (by omega)) ?_
    refine APre.be tok rfl rfl rfl rfl rfl ?_
    refine APre.run tok 1 _ _ _ _ rfl ?_
    refine APre.call tok rfl rfl rfl rfl rfl (integer_whole_tw ((decide (a < 0) == decide (b < 0)) == false) m (by omega)) ?_
    refine APre.run tok 1 _ _ _ _ rfl ?_
    refine APre.call tok rfl rfl rfl rfl rfl (integer_whole_tw false n (by omega)) ?_
    refine APre.nil ?_
    refine AOps.run tok 3 _ _ _ _ rfl ?_
    refine AOps.nil ?_
    rw [hq, hr]
    exact AW.ret rfl
theorem integer_Gcd_ok (a b : Int) (ha : L a ≤ 50000000) (hb : L b ≤ 50000000) : Pure Tryz.prog 113 [WhI a, WhI b] (WhI (Nat.gcd a.natAbs b.natAbs)) := by
  refine Pure.intro (n := 26) tok Tryz.func113 rfl rfl rfl (Nat.le_of_ble_eq_true rfl) (by kernel_rfl) (fun B F0 w0 => ?_)
  refine AW.seq ?_
  refine AW.region ?_
  refine AOps.run tok 3 _ _ _ _ rfl ?_
  refine AOps.nil ?_
  refine AW.seq ?_
  refine AW.draw hmix 4 (by kernel_rfl) ?_
  refine APre.run tok 1 _ _ _ _ rfl ?_
  refine APre.call tok rfl rfl rfl rfl rfl (integer_mag_ok a (by omega)) ?_
  refine APre.run tok 1 _ _ _ _ rfl ?_
  refine APre.call tok rfl rfl rfl rfl rfl (integer_mag_ok b (by omega)) ?_
  refine APre.nil ?_
  refine AOps.run tok 2 _ _ _ _ rfl ?_
  refine AOps.nil ?_
  refine AW.seq ?_
  refine AW.block ?_
  refine AW.loopS [4, 5, 6] (fun s : Nat × Nat => [(4, .bx [dB false, .sl 1 []]), (5, .d (Wd (tw s.1))), (6, .d (Wd (tw s.2)))])
    (fun s => (tw s.1).length ≤ 50000000 ∧ (tw s.2).length ≤ 50000000 ∧ Nat.gcd s.1 s.2 = Nat.gcd a.natAbs b.natAbs) (fun s => s.2) (a.natAbs, b.natAbs) rfl ⟨ha, hb, rfl⟩ (fun (x, y) ⟨hx, hy, hg⟩ => ?_)
  simp only [] at hx hy hg
  have hy0 := twLen_pos y
  refine AW.seq ?_
  refine AW.seq ?_
  refine AW.region ?_
  refine AOps.run tok 3 _ _ _ _ rfl ?_
  refine AOps.nil ?_
  refine AW.cond rfl (fun h => ?_) (fun h => ?_)
  · have hyn := hy0.1 (of_decide_eq_true h)
    refine AW.skip ?_
    refine AW.block ?_
    refine AW.seq ?_
    refine AW.region ?_
    refine AOps.run tok 2 _ _ _ _ rfl ?_
    refine AOps.call tok rfl rfl rfl rfl (divide_iw (x : Int) (y : Int) hx hy (by omega)) ?_
    refine AOps.run tok 5 _ _ _ _ rfl ?_
    refine AOps.nil ?_
    refine AW.region ?_
    refine AOps.run tok 4 _ _ _ _ rfl ?_
    refine AOps.nil ?_
    have hlt : x % y < y := Nat.mod_lt _ (by omega)
    exact ⟨(y, x % y), rfl, ⟨hy, Nat.le_trans (len_tw (z := (y : Int)) (by simp only []; omega)) hy, by simp only []; rw [← hg, Nat.gcd_comm x y, Nat.gcd_rec y x, Nat.gcd_comm]⟩, hlt⟩
  · have hy1 : y = 0 := Decidable.not_not.1 (fun hn => (of_decide_eq_false h) (hy0.2 hn))
    subst hy1
    rw [Nat.gcd_zero_right] at hg
    refine AW.exit ?_
    refine AW.seq ?_
    refine AW.region ?_
    refine AOps.run tok 1 _ _ _ _ rfl ?_
    refine AOps.call tok rfl rfl rfl rfl (integer_whole_tw false x (by omega)) ?_
    refine AOps.run tok 1 _ _ _ _ rfl ?_
    refine AOps.nil ?_
    rw [hg]
    exact AW.ret rfl
end Lift
namespace Lift
open Go Go.Proofs
structure RD where
  g : Bool
  n : List Nat
  d : List Nat
abbrev RD.D (r : RD) : D := .ag [dB r.g, Wd r.n, Wd r.d]
def RD.w (r : RD) (k : Nat) : Prop := W32 r.n ∧ W32 r.d ∧ r.n.length ≤ k ∧ r.d.length ≤ k
def RD.okB (r : RD) : Bool := if r.n = [] ∧ r.d = [] then !r.g else decide (r.n ≠ [] ∧ r.d ≠ [] ∧ okW false r.n = true ∧ okW false r.d = true ∧ Nat.gcd (nv r.n) (nv r.d) = 1)
def RD.val (r : RD) : Rat := if r.okB = true then Rat.divInt (sg r.g (nv r.n)) (nv r.d) else 0
def Qr (q : Rat) : RD := ⟨decide (q.num < 0), iw q.num, if q.num = 0 then [] else tw q.den⟩
def LQ (q : Rat) : Nat := max (L q.num) (tw q.den).length
theorem RD.w.mono {r : RD} {k m : Nat} (h : r.w k) (hk : k ≤ m) : r.w m := ⟨h.1, h.2.1, Nat.le_trans h.2.2.1 hk, Nat.le_trans h.2.2.2 hk⟩
theorem sg_zero (g : Bool) : sg g 0 = 0 := by cases g <;> rfl
theorem RD.val_nil {r : RD} (h : r.n = []) : r.val = 0 := by
  unfold RD.val
  split
  · rw [h, show nv [] = 0 from rfl, sg_zero, Rat.zero_divInt]
  · rfl
theorem RD.val_bad {r : RD} (h : r.okB = false) : r.val = 0 := by
  unfold RD.val; rw [h]; rfl
theorem okW_nm {m : List Nat} (h : okW false m = true) : Nm m := by
  unfold okW at h
  split at h
  · rename_i h0; rw [h0]; simp [Nm]
  · exact last_nm (by simpa using h)
theorem tw_ne {m : Nat} (h : m ≠ 0) : tw m ≠ [] := fun e => h (by rw [← nv_tw m, e]; rfl)
theorem RD.parts {r : RD} {k : Nat} (hw : r.w k) (h : r.okB = true) (hn : r.n ≠ []) :
    r.val.num = sg r.g (nv r.n) ∧ r.val.den = nv r.d ∧ r.g = decide (r.val.num < 0) ∧ r.n = iw r.val.num ∧ r.d = tw r.val.den ∧ r.val.num ≠ 0 := by
  have h' := h
  unfold RD.okB at h
  rw [if_neg (fun e => hn e.1)] at h
  obtain ⟨_, hd, hok1, hok2, hg⟩ := of_decide_eq_true h
  have hv : r.val = Rat.divInt (sg r.g (nv r.n)) (nv r.d) := by
    unfold RD.val
    rw [if_pos h']
  have nn := okW_nm hok1
  have nd := okW_nm hok2
  have hd0 : nv r.d ≠ 0 := fun e => hd ((nv_zero nd).1 e)
  have hn0 : nv r.n ≠ 0 := fun e => hn ((nv_zero nn).1 e)
  have hgcd : Int.gcd (nv r.d : Int) (sg r.g (nv r.n)) = 1 := by
    rw [Int.gcd, sg_natAbs, Int.natAbs_natCast, Nat.gcd_comm]; exact hg
  have h1 : r.val.num = sg r.g (nv r.n) := by
    rw [hv, Rat.num_divInt, hgcd, Int.sign_eq_one_of_pos (by omega)]; simp
  have h2 : r.val.den = nv r.d := by
    rw [hv, Rat.den_divInt, if_neg (by omega), hgcd]; simp
  refine ⟨h1, h2, ?_, ?_, ?_, ?_⟩
  · rw [h1, sg_neg]; simp [hn0]
  · rw [h1, iw_sg, tw_nv hw.1 nn]
  · rw [h2, tw_nv hw.2.1 nd]
  · rw [h1]; intro e; have := sg_natAbs r.g (nv r.n); rw [e] at this; exact hn0 this.symm
theorem Qr_ok (q : Rat) : (Qr q).okB = true := by
  unfold Qr RD.okB
  by_cases h : q.num = 0
  · simp [h, iw_zero]
  · have h1 : iw q.num ≠ [] := fun e => h (iw_nil.1 e)
    have h2 : tw q.den ≠ [] := tw_ne q.den_nz
    simp only [h, if_false, h1, h2, false_and, ne_eq, not_false_eq_true, true_and, decide_eq_true_eq]
    have k1 : okW false (iw q.num) = true := by unfold okW; rw [if_neg h1]; simpa using nm_last (nm_iw _) h1
    have k2 : okW false (tw q.den) = true := by unfold okW; rw [if_neg h2]; simpa using nm_last (nm_tw _) h2
    exact ⟨k1, k2, by rw [nv_iw, nv_tw]; exact q.reduced⟩
theorem Qr_val (q : Rat) : (Qr q).val = q := by
  unfold RD.val
  rw [Qr_ok]
  simp only [if_true]
  show Rat.divInt (sg (decide (q.num < 0)) (nv (iw q.num))) (nv (if q.num = 0 then [] else tw q.den)) = q
  rw [nv_iw, sg_abs]
  split
  · rename_i h; rw [h, Rat.zero_divInt]; exact (Rat.num_eq_zero.1 h).symm
  · rw [nv_tw]; exact Rat.num_divInt_den q
theorem Qr_w (q : Rat) {k : Nat} (h : LQ q ≤ k) : (Qr q).w k := by
  unfold LQ L at h
  refine ⟨w32_iw _, ?_, by show (iw q.num).length ≤ k; omega, ?_⟩
  · show W32 (if q.num = 0 then [] else tw q.den)
    split
    · exact W32.nil
    · exact w32_tw _
  · show (if q.num = 0 then [] else tw q.den).length ≤ k
    split
    · simp
    · omega
theorem LQ_zero : LQ 0 = 1 := by
  have h := L_one
  rw [L, iw] at h
  unfold LQ
  rw [show (0 : Rat).num = 0 from rfl, L_zero, show (0 : Rat).den = (1 : Int).natAbs from rfl, h]; rfl
theorem LQ_val {r : RD} {k : Nat} (h : r.w k) (hk : 1 ≤ k) : LQ r.val ≤ k := by
  by_cases hn : r.n = []
  · rw [RD.val_nil hn, LQ_zero]; exact hk
  · cases ho : r.okB with
    | false => rw [RD.val_bad ho, LQ_zero]; exact hk
    | true =>
      obtain ⟨_, _, _, h4, h5, _⟩ := RD.parts h ho hn
      have h1 := h.2.2.1
      have h2 := h.2.2.2
      rw [h4] at h1
      rw [h5] at h2
      unfold LQ L
      omega
theorem Lnum (q : Rat) : L q.num ≤ LQ q := by unfold LQ; omega
theorem Lden (q : Rat) : L (q.den : Int) ≤ LQ q := by unfold LQ L iw; rw [Int.natAbs_natCast]; omega
theorem form_pos {n d : Int} (hd : 0 < d) : (Rat.divInt n d).num = n / (Nat.gcd n.natAbs d.natAbs : Int) ∧ ((Rat.divInt n d).den : Int) = d / (Nat.gcd n.natAbs d.natAbs : Int) := by
  have hg : Int.gcd d n = Nat.gcd n.natAbs d.natAbs := by rw [Int.gcd, Nat.gcd_comm]
  rw [Rat.num_divInt, Rat.den_divInt, if_neg (by omega), hg, Int.sign_eq_one_of_pos hd, Int.one_mul]
  refine ⟨rfl, ?_⟩
  rw [Int.natCast_ediv]
  congr 1
  omega
theorem LQ_divInt (n d : Int) (hd : d ≠ 0) : LQ (Rat.divInt n d) ≤ max (L n) (L d) := by
  have key : ∀ (n d : Int), 0 < d → LQ (Rat.divInt n d) ≤ max (L n) (L d) := fun n d hd => by
    obtain ⟨h1, h2⟩ := form_pos (n := n) hd
    have e1 : (Rat.divInt n d).num.natAbs ≤ n.natAbs := by rw [h1]; exact Int.natAbs_ediv_le_natAbs n _
    have e2 : ((Rat.divInt n d).den : Int).natAbs ≤ d.natAbs := by rw [h2]; exact Int.natAbs_ediv_le_natAbs d _
    have f1 := L_mono e1
    have f2 := L_mono e2
    unfold LQ
    rw [show (tw (Rat.divInt n d).den).length = L ((Rat.divInt n d).den : Int) by rw [L, iw, Int.natAbs_natCast]]
    omega
  by_cases h : 0 < d
  · exact key n d h
  · have := key (-n) (-d) (by omega)
    rw [Rat.neg_divInt_neg, L_neg, L_neg] at this
    exact this
theorem add_divInt (a b : Rat) : Rat.divInt (a.num * (b.den : Int) + b.num * (a.den : Int)) ((a.den : Int) * (b.den : Int)) = a + b := by
  rw [Rat.add_def', ← Rat.divInt_ofNat]
  congr 1
theorem mul_divInt (a b : Rat) : Rat.divInt (a.num * b.num) ((a.den : Int) * (b.den : Int)) = a * b := by
  rw [Rat.mul_def', ← Rat.divInt_ofNat]
  congr 1
theorem neg_divInt (a : Rat) : Rat.divInt (-a.num) (a.den : Int) = -a := by
  rw [← Rat.neg_divInt, Rat.num_divInt_den]
theorem of_divInt (n : Int) : Rat.divInt n 1 = (n : Rat) := by
  have := Rat.num_divInt_den (n : Rat)
  simpa using this
theorem den_ne (a : Rat) : (a.den : Int) ≠ 0 := by have := a.den_nz; omega
theorem den_mul_ne (a b : Rat) : (a.den : Int) * (b.den : Int) ≠ 0 := Int.mul_ne_zero (den_ne a) (den_ne b)
theorem LQ_add (a b : Rat) : LQ (a + b) ≤ LQ a + LQ b + 1 := by
  rw [← add_divInt]
  have h := LQ_divInt (a.num * (b.den : Int) + b.num * (a.den : Int)) ((a.den : Int) * (b.den : Int)) (den_mul_ne a b)
  have h1 := L_mul a.num b.den
  have h2 := L_mul b.num a.den
  have h3 := L_mul a.den b.den
  have h4 := L_add (a.num * (b.den : Int)) (b.num * (a.den : Int))
  have := Lnum a; have := Lnum b; have := Lden a; have := Lden b
  omega
theorem LQ_mul (a b : Rat) : LQ (a * b) ≤ LQ a + LQ b := by
  rw [← mul_divInt]
  have h := LQ_divInt (a.num * b.num) ((a.den : Int) * (b.den : Int)) (den_mul_ne a b)
  have h1 := L_mul a.num b.num
  have h3 := L_mul a.den b.den
  have := Lnum a; have := Lnum b; have := Lden a; have := Lden b
  omega
theorem LQ_neg (a : Rat) : LQ (-a) = LQ a := by
  unfold LQ
  rw [Rat.neg_num, Rat.neg_den, L_neg]
theorem LQ_sub (a b : Rat) : LQ (a - b) ≤ LQ a + LQ b + 1 := by
  rw [Rat.sub_eq_add_neg]
  have := LQ_add a (-b)
  rw [LQ_neg] at this
  exact this
theorem LQ_of (n : Int) : LQ (n : Rat) ≤ max (L n) 1 := by
  rw [← of_divInt]
  have := LQ_divInt n 1 (by decide)
  rwa [L_one] at this
theorem LQ_pos (a : Rat) : 1 ≤ LQ a := by
  have : tw a.den ≠ [] := tw_ne a.den_nz
  have := List.length_pos_iff.2 this
  unfold LQ; omega
def cmpQ (a b : Rat) : Int := if a < b then -1 else if a = b then 0 else 1
theorem cmpQ_num (a b : Rat) : cmpI (a.num * b.den) (b.num * a.den) = cmpQ a b := by
  unfold cmpI cmpQ
  have h1 := Rat.lt_iff a b
  have h2 := @Rat.eq_iff_mul_eq_mul a b
  by_cases hl : a < b
  · rw [if_pos (h1.1 hl), if_pos hl]
  · rw [if_neg (fun h => hl (h1.2 h)), if_neg hl]
    by_cases he : a = b
    · rw [if_pos (h2.1 he), if_pos he]
    · rw [if_neg (fun h => he (h2.2 h)), if_neg he]
theorem sub_eq_zero {a b : Rat} (h : a - b = 0) : a = b := by
  have := @Rat.sub_add_cancel a b
  rw [h, Rat.zero_add] at this
  exact this.symm
theorem cmpQ_sub (a b : Rat) : sgI (a - b).num = cmpQ a b := by
  unfold sgI cmpQ
  have h1 : (a - b).num < 0 ↔ a < b := by
    have e1 := @Rat.num_nonneg (a - b)
    have e2 := @Rat.not_le 0 (a - b)
    have e3 := @Rat.sub_lt_iff a 0 b
    rw [Rat.zero_add] at e3
    rw [← e3, ← e2, ← e1]
    omega
  have h2 : (a - b).num = 0 ↔ a = b := by
    rw [Rat.num_eq_zero]
    exact ⟨sub_eq_zero, fun h => by rw [h, Rat.sub_self]⟩
  by_cases hl : a < b
  · rw [if_pos (h1.2 hl), if_pos hl]
  · rw [if_neg (fun h => hl (h1.1 h)), if_neg hl]
    by_cases he : a = b
    · rw [if_pos (h2.2 he), if_pos he]
    · rw [if_neg (fun h => he (h2.1 h)), if_neg he]
end Lift
namespace Lift
open Go Go.Proofs
theorem fraction_one_ok : Pure Tryz.prog 99 [] (WhI 1) := by
  refine Pure.intro (n := 2) tok Tryz.func99 rfl rfl rfl (Nat.le_of_ble_eq_true rfl) (by kernel_rfl) (fun B F0 w0 => ?_)
  refine AW.seq ?_
  refine AW.region ?_
  refine AOps.run tok 1 _ _ _ _ rfl ?_
  refine AOps.nil ?_
  refine AW.seq ?_
  refine AW.region ?_
  refine AOps.call tok rfl rfl rfl rfl (integer_Of_ok 1 (by decide) (by decide)) ?_
  refine AOps.run tok 1 _ _ _ _ rfl ?_
  refine AOps.nil ?_
  exact AW.ret rfl
theorem len0 {m : List Nat} : (((m.map wd).length : Int) == 0) = decide (m = []) := by
  rw [lenWd, Bool.eq_iff_iff]
  simp
theorem iw_of_okW {m : List Nat} (hm : W32 m) (h : okW false m = true) : Wh false m = WhI (nv m : Nat) := by
  have h1 : decide (((nv m : Nat) : Int) < 0) = false := by simp
  have h2 : iw ((nv m : Nat) : Int) = m := by rw [iw, Int.natAbs_natCast, tw_nv hm (okW_nm h)]
  rw [WhI, h1, h2]
theorem L_of_okW {m : List Nat} (hm : W32 m) (h : okW false m = true) : L (nv m : Nat) = m.length := by
  rw [L, iw, Int.natAbs_natCast, tw_nv hm (okW_nm h)]
set_option maxHeartbeats 800000 in
theorem fraction_Valid_ok (r : RD) {k : Nat} (hw : r.w k) (hk : k ≤ 50000000) : Pure Tryz.prog 97 [r.D] (dB r.okB) := by
  obtain ⟨g, m, d⟩ := r
  obtain ⟨hm, hd, hlm, hld⟩ := hw
  simp only [] at hm hd hlm hld
  refine Pure.intro (n := 50) tok Tryz.func97 rfl rfl rfl (Nat.le_of_ble_eq_true rfl) (by kernel_rfl) (fun B F0 w0 => ?_)
  refine AW.seq ?_
  refine AW.region ?_
  refine AOps.run tok 2 _ _ _ _ rfl ?_
  refine AOps.nil ?_
  refine AW.seq ?_
  refine AW.cut [1, 14] (fun _ : Unit => [(1, .bx [dB g, Wd m, Wd d]), (14, .d (dB (decide (m = [] ∧ d = []))))]) (fun _ => True) ?_ (fun _ _ => ?_)
  · refine AW.region ?_
    refine AOps.run tok 5 _ _ _ _ rfl ?_
    rw [len0]
    refine AOps.split (t := 9) rfl (fun h => ?_) (fun h => ?_)
    · refine AOps.run tok 5 _ _ _ _ rfl ?_
      refine AOps.nil ?_
      have := of_decide_eq_true h
      exact ⟨(), by rw [show decide (m = [] ∧ d = []) = (((d.map wd).length : Int) == 0) by rw [len0, Bool.eq_iff_iff]; simp only [decide_eq_true_eq]; exact ⟨fun e => e.2, fun e => ⟨this, e⟩⟩]; rfl, trivial⟩
    · refine AOps.run tok 5 _ _ _ _ rfl ?_
      refine AOps.nil ?_
      have := of_decide_eq_false h
      exact ⟨(), by rw [show decide (m = [] ∧ d = []) = false by simp [this]]; rfl, trivial⟩
  refine AW.cond rfl (fun h => ?_) (fun h => ?_)
  · have h0 := of_decide_eq_true h
    rw [show RD.okB ⟨g, m, d⟩ = !g by unfold RD.okB; rw [if_pos h0]]
    refine AW.seq ?_
    refine AW.region ?_
    refine AOps.run tok 4 _ _ _ _ rfl ?_
    refine AOps.nil ?_
    exact AW.ret rfl
  · have h0 := of_decide_eq_false h
    have hokB : RD.okB ⟨g, m, d⟩ = decide (m ≠ [] ∧ d ≠ [] ∧ okW false m = true ∧ okW false d = true ∧ Nat.gcd (nv m) (nv d) = 1) := by unfold RD.okB; rw [if_neg h0]
    rw [hokB]
    clear hokB
    refine AW.skip ?_
    refine AW.seq ?_
    refine AW.draw3 tok hmix [(3, true), (5, false)] 8 [3, 4] (by kernel_rfl) ⟨rfl, ?_⟩
    refine APre.run tok 3 _ _ _ _ rfl ?_
    refine APre.nil ⟨rfl, ?_⟩
    refine APre.run tok 5 _ _ _ _ rfl ?_
    refine APre.nil ⟨_, StL.cons (.bx rfl) (StL.cons (.bx rfl) StL.nil), AOps.nil ?_⟩
    refine AW.norm [1, 3, 4] [(1, .bx [dB g, Wd m, Wd d]), (3, .bx [dB false, Wd m]), (4, .bx [dB false, Wd d])] rfl ?_
    refine AW.seq ?_
    refine AW.cut [1, 3, 4, 43] (fun _ : Unit => [(1, .bx [dB g, Wd m, Wd d]), (3, .bx [dB false, Wd m]), (4, .bx [dB false, Wd d]), (43, .d (dB (!decide (m ≠ [] ∧ d ≠ [] ∧ okW false m = true ∧ okW false d = true))))]) (fun _ => True) ?_ (fun _ _ => ?_)
    · refine AW.region ?_
      refine AOps.run tok 5 _ _ _ _ rfl ?_
      rw [len0]
      refine AOps.split (t := 28) rfl (fun h => ?_) (fun h => ?_)
      · have h1 := of_decide_eq_true h
        refine AOps.run tok 15 _ _ _ _ rfl ?_
        refine AOps.nil ?_
        exact ⟨(), by rw [show decide (m ≠ [] ∧ d ≠ [] ∧ okW false m = true ∧ okW false d = true) = false by simp [h1]]; rfl, trivial⟩
      · have h1 := of_decide_eq_false h
        refine AOps.run tok 6 _ _ _ _ rfl ?_
        rw [len0]
        refine AOps.split (t := 34) rfl (fun h => ?_) (fun h => ?_)
        · have h2 := of_decide_eq_true h
          refine AOps.run tok 9 _ _ _ _ rfl ?_
          refine AOps.nil ?_
          exact ⟨(), by rw [show decide (m ≠ [] ∧ d ≠ [] ∧ okW false m = true ∧ okW false d = true) = false by simp [h2]]; rfl, trivial⟩
        · have h2 := of_decide_eq_false h
          refine AOps.run tok 1 _ _ _ _ rfl ?_
          refine AOps.call tok rfl rfl rfl rfl (integer_Valid_ok false m hm (by omega)) ?_
          refine AOps.run tok 3 _ _ _ _ rfl ?_
          refine AOps.split (t := 39) rfl (fun h => ?_) (fun h => ?_)
          · have h3 : okW false m = false := by simpa using h
            refine AOps.run tok 4 _ _ _ _ rfl ?_
            refine AOps.nil ?_
            exact ⟨(), by rw [show decide (m ≠ [] ∧ d ≠ [] ∧ okW false m = true ∧ okW false d = true) = false by simp [h3]]; rfl, trivial⟩
          · have h3 : okW false m = true := by simpa using h
            refine AOps.run tok 1 _ _ _ _ rfl ?_
            refine AOps.call tok rfl rfl rfl rfl (integer_Valid_ok false d hd (by omega)) ?_
            refine AOps.run tok 2 _ _ _ _ rfl ?_
            refine AOps.nil ?_
            exact ⟨(), by rw [show decide (m ≠ [] ∧ d ≠ [] ∧ okW false m = true ∧ okW false d = true) = okW false d by simp [h1, h2, h3]]; rfl, trivial⟩
    · refine AW.cond rfl (fun h => ?_) (fun h => ?_)
      · have h1 : ¬ (m ≠ [] ∧ d ≠ [] ∧ okW false m = true ∧ okW false d = true) := fun e => by rw [decide_eq_true e] at h; cases h
        rw [show decide (m ≠ [] ∧ d ≠ [] ∧ okW false m = true ∧ okW false d = true ∧ Nat.gcd (nv m) (nv d) = 1) = false from decide_eq_false fun e => h1 ⟨e.1, e.2.1, e.2.2.1, e.2.2.2.1⟩]
        refine AW.seq ?_
        refine AW.region ?_
        refine AOps.run tok 1 _ _ _ _ rfl ?_
        refine AOps.nil ?_
        exact AW.ret rfl
      · have h1 : (m ≠ [] ∧ d ≠ [] ∧ okW false m = true ∧ okW false d = true) := by
          have : decide (m ≠ [] ∧ d ≠ [] ∧ okW false m = true ∧ okW false d = true) = true := by rw [← Bool.not_not (decide _), h]; rfl
          exact of_decide_eq_true this
        obtain ⟨hm0, hd0, ok1, ok2⟩ := h1
        have e1 := iw_of_okW hm ok1
        have e2 := iw_of_okW hd ok2
        have l1 := L_of_okW hm ok1
        have l2 := L_of_okW hd ok2
        have hgl : L ((Nat.gcd (nv m) (nv d) : Nat) : Int) ≤ 50000000 := by
          have hp : 0 < nv m := Nat.pos_of_ne_zero fun e => hm0 ((nv_zero (okW_nm ok1)).1 e)
          have := Nat.gcd_le_left (nv d) hp
          have := L_mono (a := ((Nat.gcd (nv m) (nv d) : Nat) : Int)) (b := ((nv m : Nat) : Int)) (by simpa using this)
          omega
        have hgcd := integer_Gcd_ok (nv m : Nat) (nv d : Nat) (by omega) (by omega)
        rw [← e1, ← e2, Int.natAbs_natCast, Int.natAbs_natCast] at hgcd
        refine AW.skip ?_
        refine AW.seq ?_
        refine AW.region ?_
        refine AOps.run tok 2 _ _ _ _ rfl ?_
        refine AOps.call tok rfl rfl rfl rfl hgcd ?_
        refine AOps.call tok rfl rfl rfl rfl fraction_one_ok ?_
        refine AOps.call tok rfl rfl rfl rfl (integer_Cmp_ok ((Nat.gcd (nv m) (nv d) : Nat) : Int) 1 (by omega) (by rw [L_one]; decide)) ?_
        refine AOps.run tok 2 _ _ _ _ rfl ?_
        refine AOps.nil ?_
        rw [show decide (m ≠ [] ∧ d ≠ [] ∧ okW false m = true ∧ okW false d = true ∧ Nat.gcd (nv m) (nv d) = 1) = (cmpI ((Nat.gcd (nv m) (nv d) : Nat) : Int) 1 == 0) by
          rw [Bool.eq_iff_iff]
          simp only [ne_eq, hm0, not_false_eq_true, hd0, ok1, ok2, true_and, decide_eq_true_eq, beq_iff_eq]
          unfold cmpI
          constructor
          · intro h; rw [h]; rfl
          · intro h
            split at h
            · cases h
            · split at h
              · omega
              · cases h]
        exact AW.ret rfl
theorem whI_zero : WhI 0 = .ag [dB false, .sl 1 []] := by rw [WhI, iw_zero]; rfl
theorem fraction_Parts_ok (r : RD) {k : Nat} (hw : r.w k) (hk : k ≤ 50000000) : Pure Tryz.prog 53 [r.D] (.tu [WhI r.val.num, WhI r.val.den]) := by
  refine Pure.intro (n := 28) tok Tryz.func53 rfl rfl rfl (Nat.le_of_ble_eq_true rfl) (by kernel_rfl) (fun B F0 w0 => ?_)
  refine AW.seq ?_
  refine AW.region ?_
  refine AOps.run tok 3 _ _ _ _ rfl ?_
  refine AOps.nil ?_
  refine AW.seq ?_
  refine AW.cut [1, 2, 3, 12] (fun _ : Unit => [(1, .bx [dB r.g, Wd r.n, Wd r.d]), (2, .bx [dB false, .sl 1 []]), (3, .bx [dB false, .sl 1 []]), (12, .d (dB (decide (r.okB = false ∨ r.n = []))))]) (fun _ => True) ?_ (fun _ _ => ?_)
  · refine AW.region ?_
    refine AOps.run tok 1 _ _ _ _ rfl ?_
    refine AOps.call tok rfl rfl rfl rfl (fraction_Valid_ok r hw hk) ?_
    refine AOps.run tok 2 _ _ _ _ rfl ?_
    refine AOps.split (t := 7) rfl (fun h => ?_) (fun h => ?_)
    · have h1 : r.okB = false := by simpa using h
      refine AOps.run tok 5 _ _ _ _ rfl ?_
      refine AOps.nil ?_
      exact ⟨(), by rw [show decide (r.okB = false ∨ r.n = []) = true by simp [h1]]; rfl, trivial⟩
    · have h1 : r.okB = true := by simpa using h
      refine AOps.run tok 5 _ _ _ _ rfl ?_
      rw [len0]
      refine AOps.nil ?_
      exact ⟨(), by rw [show decide (r.okB = false ∨ r.n = []) = decide (r.n = []) by simp only [h1]; simp]; rfl, trivial⟩
  refine AW.cond rfl (fun h => ?_) (fun h => ?_)
  · have h1 := of_decide_eq_true h
    have hv : r.val = 0 := by
      rcases h1 with h1 | h1
      · exact RD.val_bad h1
      · exact RD.val_nil h1
    rw [hv, show (0 : Rat).num = 0 from rfl, show (((0 : Rat).den : Nat) : Int) = 1 from rfl, whI_zero]
    refine AW.seq ?_
    refine AW.region ?_
    refine AOps.run tok 1 _ _ _ _ rfl ?_
    refine AOps.call tok rfl rfl rfl rfl fraction_one_ok ?_
    refine AOps.run tok 2 _ _ _ _ rfl ?_
    refine AOps.nil ?_
    exact AW.ret rfl
  · have h1 := of_decide_eq_false h
    have h2 : r.okB = true := by cases ho : r.okB with
      | true => rfl
      | false => exact absurd (.inl ho) h1
    obtain ⟨_, _, p3, p4, p5, _⟩ := RD.parts hw h2 (fun e => h1 (.inr e))
    have e1 : WhI r.val.num = Wh r.g r.n := by rw [WhI, ← p3, ← p4]
    have e2 : WhI (r.val.den : Nat) = Wh false r.d := by
      have : decide (((r.val.den : Nat) : Int) < 0) = false := by simp
      rw [WhI, this, iw, Int.natAbs_natCast, ← p5]
    rw [e1, e2]
    have hl1 := hw.2.2.1
    have hl2 := hw.2.2.2
    refine AW.skip ?_
    refine AW.seq ?_
    refine AW.draw hmix 7 (by kernel_rfl) ?_
    refine APre.run tok 5 _ _ _ _ rfl ?_
    refine APre.app0d tok rfl rfl rfl rfl rfl (by show ((r.n.map wd).length) * 4 ≤ _; rw [lenWd]; omega) ?_
    refine APre.run tok 1 _ _ _ _ rfl ?_
    refine APre.nil ?_
    refine AOps.run tok 1 _ _ _ _ rfl ?_
    refine AOps.nil ?_
    refine AW.seq ?_
    refine AW.norm [1, 2, 3] [(1, .bx [dB r.g, Wd r.n, Wd r.d]), (2, .bx [dB r.g, Wd r.n]), (3, .bx [dB false, .sl 1 []])] rfl ?_
    refine AW.draw3 tok hmix [(1, true), (5, false)] 6 [2, 3] (by kernel_rfl) ⟨rfl, ?_⟩
    refine APre.run tok 1 _ _ _ _ rfl ?_
    refine APre.nil ⟨rfl, ?_⟩
    refine APre.run tok 3 _ _ _ _ rfl ?_
    refine APre.app0d tok rfl rfl rfl rfl rfl (by show ((r.d.map wd).length) * 4 ≤ _; rw [lenWd]; omega) ?_
    refine APre.run tok 1 _ _ _ _ rfl ?_
    refine APre.nil ⟨_, StL.cons (.bx rfl) (StL.cons (.bx rfl) StL.nil), AOps.nil ?_⟩
    exact AW.ret rfl
theorem Qr_zero : Qr 0 = ⟨false, [], []⟩ := by
  unfold Qr
  rw [show (0 : Rat).num = 0 from rfl, iw_zero]; rfl
theorem natAbs_form {n d : Int} (hd : 0 < d) (hn : n ≠ 0) : (Qr (Rat.divInt n d)).D = .ag [dB (decide (n < 0)), Wd (iw ((n.natAbs : Int) / (Nat.gcd n.natAbs d.natAbs : Int))), Wd (iw (d / (Nat.gcd n.natAbs d.natAbs : Int)))] := by
  obtain ⟨h1, h2⟩ := form_pos (n := n) hd
  have hg : 0 < (Nat.gcd n.natAbs d.natAbs : Int) := by
    have : 0 < Nat.gcd n.natAbs d.natAbs := Nat.gcd_pos_of_pos_left _ (by omega)
    omega
  have hgn : (Nat.gcd n.natAbs d.natAbs : Int) ∣ n := Int.ofNat_dvd_left.2 (Nat.gcd_dvd_left _ _)
  obtain ⟨q, hq⟩ := hgn
  generalize (Nat.gcd n.natAbs d.natAbs : Int) = g at *
  have hnum : n / g = q := by rw [hq, Int.mul_ediv_cancel_left _ (by omega)]
  have hneg : (n / g < 0) ↔ n < 0 := by
    rw [hnum]
    constructor
    · intro h; rw [hq]; exact Int.mul_neg_of_pos_of_neg hg h
    · intro h
      rcases Int.lt_or_le q 0 with h' | h'
      · exact h'
      · have := Int.mul_nonneg (Int.le_of_lt hg) h'; omega
  have hq0 : q ≠ 0 := by rintro rfl; rw [Int.mul_zero] at hq; exact hn hq
  have habs : (n.natAbs : Int) / g = (q.natAbs : Int) := by
    have : (n.natAbs : Int) = g * (q.natAbs : Int) := by rw [hq, Int.natAbs_mul, Int.natCast_mul]; congr 1; omega
    rw [this, Int.mul_ediv_cancel_left _ (by omega)]
  have e1 : decide ((Rat.divInt n d).num < 0) = decide (n < 0) := by rw [h1]; exact decide_eq_decide.2 hneg
  have e2 : iw (Rat.divInt n d).num = iw ((n.natAbs : Int) / g) := by rw [h1, habs, hnum]; simp only [iw, Int.natAbs_natCast]
  have e3 : (if (Rat.divInt n d).num = 0 then [] else tw (Rat.divInt n d).den) = iw (d / g) := by
    rw [if_neg (by rw [h1, hnum]; exact hq0), ← h2, iw, Int.natAbs_natCast]
  show D.ag [dB (decide ((Rat.divInt n d).num < 0)), Wd (iw (Rat.divInt n d).num), Wd (if (Rat.divInt n d).num = 0 then [] else tw (Rat.divInt n d).den)] = _
  rw [e1, e2, e3]
set_option maxHeartbeats 800000 in
theorem fraction_form_ok (n d : Int) (hn : L n ≤ 50000000) (hd : L d ≤ 50000000) (h0 : d ≠ 0) : Pure Tryz.prog 63 [WhI n, WhI d] (Qr (Rat.divInt n d)).D := by
  refine Pure.intro (n := 47) tok Tryz.func63 rfl rfl rfl (Nat.le_of_ble_eq_true rfl) (by kernel_rfl) (fun B F0 w0 => ?_)
  refine AW.seq ?_
  refine AW.region ?_
  refine AOps.run tok 3 _ _ _ _ rfl ?_
  refine AOps.nil ?_
  refine AW.seq ?_
  refine AW.seq ?_
  refine AW.region ?_
  refine AOps.run tok 1 _ _ _ _ rfl ?_
  refine AOps.call tok rfl rfl rfl rfl (integer_Sign_ok n (by omega)) ?_
  refine AOps.run tok 1 _ _ _ _ rfl ?_
  refine AOps.nil ?_
  refine AW.cond rfl (fun h => ?_) (fun h => ?_)
  · have hn0 : n = 0 := by
      have : sgI n = 0 := by simpa using h
      unfold sgI at this
      repeat' split at this
      all_goals omega
    rw [hn0, Rat.zero_divInt, Qr_zero]
    refine AW.seq ?_
    refine AW.region ?_
    refine AOps.run tok 2 _ _ _ _ rfl ?_
    refine AOps.nil ?_
    exact AW.ret rfl
  · have hn0 : n ≠ 0 := by rintro rfl; simp [sgI] at h
    refine AW.skip ?_
    refine AW.cut [2, 3, 4] (fun s : Int × Int => [(2, .bx [dB (decide (s.1 < 0)), Wd (iw s.1)]), (3, .bx [dB (decide (s.2 < 0)), Wd (iw s.2)]), (4, .bx [dB false, .sl 1 [], .sl 1 []])])
      (fun s => 0 < s.2 ∧ s.1 ≠ 0 ∧ L s.1 ≤ 50000000 ∧ L s.2 ≤ 50000000 ∧ Rat.divInt s.1 s.2 = Rat.divInt n d) ?_ (fun (x, y) ⟨hy, hx, hlx, hly, he⟩ => ?_)
    · refine AW.seq ?_
      refine AW.region ?_
      refine AOps.run tok 1 _ _ _ _ rfl ?_
      refine AOps.call tok rfl rfl rfl rfl (integer_Sign_ok d (by omega)) ?_
      refine AOps.run tok 1 _ _ _ _ rfl ?_
      refine AOps.nil ?_
      refine AW.cond rfl (fun h => ?_) (fun h => ?_)
      · have hd0 : d < 0 := by
          have := of_decide_eq_true h
          unfold sgI at this
          repeat' split at this
          all_goals omega
        refine AW.draw hmix 4 (by kernel_rfl) ?_
        refine APre.run tok 1 _ _ _ _ rfl ?_
        refine APre.call tok rfl rfl rfl rfl rfl (integer_Neg_ok n (by omega)) ?_
        refine APre.run tok 1 _ _ _ _ rfl ?_
        refine APre.call tok rfl rfl rfl rfl rfl (integer_Neg_ok d (by omega)) ?_
        refine APre.nil ?_
        refine AOps.run tok 2 _ _ _ _ rfl ?_
        refine AOps.nil ?_
        exact ⟨(-n, -d), rfl, ⟨by simp only []; omega, by simp only []; omega, by rw [L_neg]; exact hn, by rw [L_neg]; exact hd, Rat.neg_divInt_neg n d⟩⟩
      · have hd0 : 0 < d := by
          have := of_decide_eq_false h
          unfold sgI at this
          repeat' split at this
          all_goals omega
        refine AW.skip ?_
        exact ⟨(n, d), rfl, ⟨hd0, hn0, hn, hd, rfl⟩⟩
    · simp only [] at hy hx hlx hly he
      rw [← he]
      have hgl : L ((Nat.gcd x.natAbs y.natAbs : Nat) : Int) ≤ 50000000 := by
        have := Nat.gcd_le_left y.natAbs (show 0 < x.natAbs by omega)
        have := L_mono (a := ((Nat.gcd x.natAbs y.natAbs : Nat) : Int)) (b := x) (by simpa using this)
        omega
      have hg0 : ((Nat.gcd x.natAbs y.natAbs : Nat) : Int) ≠ 0 := by
        have : 0 < Nat.gcd x.natAbs y.natAbs := Nat.gcd_pos_of_pos_left _ (by omega)
        omega
      rw [natAbs_form hy hx]
      have hgcd := integer_Gcd_ok x y hlx hly
      generalize ((Nat.gcd x.natAbs y.natAbs : Nat) : Int) = g at *
      have hla : L (x.natAbs : Int) ≤ 50000000 := by have := L_mono (a := (x.natAbs : Int)) (b := x) (by simp); omega
      refine AW.seq ?_
      refine AW.region ?_
      refine AOps.run tok 2 _ _ _ _ rfl ?_
      refine AOps.call tok rfl rfl rfl rfl hgcd ?_
      refine AOps.run tok 2 _ _ _ _ rfl ?_
      refine AOps.nil ?_
      refine AW.seq ?_
      refine AW.region ?_
      refine AOps.run tok 1 _ _ _ _ rfl ?_
      refine AOps.call tok rfl rfl rfl rfl (integer_Sign_ok x (by omega)) ?_
      refine AOps.run tok 2 _ _ _ _ rfl ?_
      refine AOps.nil ?_
      have hsg : decide (sgI x < 0) = decide (x < 0) := by
        unfold sgI
        repeat' split
        all_goals (rw [decide_eq_decide]; omega)
      rw [hsg]
      refine AW.cut [2, 3, 4, 5, 6] (fun _ : Unit => [(2, .bx [dB (decide ((x.natAbs : Int) < 0)), Wd (iw (x.natAbs : Int))]), (3, .bx [dB (decide (y < 0)), Wd (iw y)]), (4, .bx [dB false, .sl 1 [], .sl 1 []]), (5, .bx [dB (decide (g < 0)), Wd (iw g)]), (6, .d (dB (decide (x < 0))))]) (fun _ => True) ?_ (fun _ _ => ?_)
      · refine AW.seq ?_
        refine AW.region ?_
        refine AOps.run tok 1 _ _ _ _ rfl ?_
        refine AOps.nil ?_
        refine AW.cond rfl (fun h => ?_) (fun h => ?_)
        · have hx0 := of_decide_eq_true h
          refine AW.region ?_
          refine AOps.run tok 1 _ _ _ _ rfl ?_
          refine AOps.call tok rfl rfl rfl rfl (integer_Neg_ok x (by omega)) ?_
          refine AOps.run tok 1 _ _ _ _ rfl ?_
          refine AOps.nil ?_
          exact ⟨(), by rw [show (x.natAbs : Int) = -x by omega]; rfl, trivial⟩
        · have hx0 := of_decide_eq_false h
          refine AW.skip ?_
          exact ⟨(), by rw [show (x.natAbs : Int) = x by omega]; rfl, trivial⟩
      refine AW.seq ?_
      refine AW.region ?_
      refine AOps.run tok 2 _ _ _ _ rfl ?_
      refine AOps.call tok rfl rfl rfl rfl (integer_Div_ok (x.natAbs : Int) g hla hgl hg0) ?_
      refine AOps.run tok 5 _ _ _ _ rfl ?_
      refine AOps.nil ?_
      refine AW.seq ?_
      refine AW.region ?_
      refine AOps.run tok 2 _ _ _ _ rfl ?_
      refine AOps.call tok rfl rfl rfl rfl (integer_Div_ok y g hly hgl hg0) ?_
      refine AOps.run tok 5 _ _ _ _ rfl ?_
      refine AOps.nil ?_
      refine AW.seq ?_
      refine AW.region ?_
      refine AOps.run tok 7 _ _ _ _ rfl ?_
      refine AOps.nil ?_
      exact AW.ret rfl
theorem fraction_Neg_ok (r : RD) {k : Nat} (hw : r.w k) (hk : k ≤ 20000000) : Pure Tryz.prog 89 [r.D] (Qr (-r.val)).D := by
  refine Pure.intro (n := 14) tok Tryz.func89 rfl rfl rfl (Nat.le_of_ble_eq_true rfl) (by kernel_rfl) (fun B F0 w0 => ?_)
  have hl := LQ_val (hw.mono (Nat.le_max_left k 1)) (Nat.le_max_right k 1)
  have hn := Lnum r.val
  have hd := Lden r.val
  rw [← neg_divInt]
  refine AW.seq ?_
  refine AW.region ?_
  refine AOps.run tok 2 _ _ _ _ rfl ?_
  refine AOps.nil ?_
  refine AW.seq ?_
  refine AW.region ?_
  refine AOps.run tok 1 _ _ _ _ rfl ?_
  refine AOps.call tok rfl rfl rfl rfl (fraction_Parts_ok r hw (by omega)) ?_
  refine AOps.run tok 7 _ _ _ _ rfl ?_
  refine AOps.nil ?_
  refine AW.seq ?_
  refine AW.draw hmix 4 (by kernel_rfl) ?_
  refine APre.run tok 1 _ _ _ _ rfl ?_
  refine APre.call tok rfl rfl rfl rfl rfl (integer_Neg_ok r.val.num (by omega)) ?_
  refine APre.run tok 1 _ _ _ _ rfl ?_
  refine APre.call tok rfl rfl rfl rfl rfl (fraction_form_ok (-r.val.num) r.val.den (by rw [L_neg]; omega) (by omega) (den_ne _)) ?_
  refine APre.nil ?_
  refine AOps.run tok 1 _ _ _ _ rfl ?_
  refine AOps.nil ?_
  exact AW.ret rfl
theorem fraction_Cmp_ok (r s : RD) {k : Nat} (hr : r.w k) (hs : s.w k) (hk : k ≤ 20000000) : Pure Tryz.prog 21 [r.D, s.D] (dI (cmpQ r.val s.val)) := by
  refine Pure.intro (n := 26) tok Tryz.func21 rfl rfl rfl (Nat.le_of_ble_eq_true rfl) (by kernel_rfl) (fun B F0 w0 => ?_)
  have hl := LQ_val (hr.mono (Nat.le_max_left k 1)) (Nat.le_max_right k 1)
  have hm := LQ_val (hs.mono (Nat.le_max_left k 1)) (Nat.le_max_right k 1)
  have := Lnum r.val; have := Lden r.val; have := Lnum s.val; have := Lden s.val
  have := L_mul r.val.num s.val.den; have := L_mul s.val.num r.val.den
  rw [← cmpQ_num]
  refine AW.seq ?_
  refine AW.region ?_
  refine AOps.run tok 3 _ _ _ _ rfl ?_
  refine AOps.nil ?_
  refine AW.seq ?_
  refine AW.region ?_
  refine AOps.run tok 1 _ _ _ _ rfl ?_
  refine AOps.call tok rfl rfl rfl rfl (fraction_Parts_ok r hr (by omega)) ?_
  refine AOps.run tok 7 _ _ _ _ rfl ?_
  refine AOps.nil ?_
  refine AW.seq ?_
  refine AW.region ?_
  refine AOps.run tok 1 _ _ _ _ rfl ?_
  refine AOps.call tok rfl rfl rfl rfl (fraction_Parts_ok s hs (by omega)) ?_
  refine AOps.run tok 7 _ _ _ _ rfl ?_
  refine AOps.nil ?_
  refine AW.seq ?_
  refine AW.draw hmix 7 (by kernel_rfl) ?_
  refine APre.run tok 2 _ _ _ _ rfl ?_
  refine APre.call tok rfl rfl rfl rfl rfl (integer_Mul_ok r.val.num s.val.den (by omega) (by omega)) ?_
  refine APre.run tok 2 _ _ _ _ rfl ?_
  refine APre.call tok rfl rfl rfl rfl rfl (integer_Mul_ok s.val.num r.val.den (by omega) (by omega)) ?_
  refine APre.call tok rfl rfl rfl rfl rfl (integer_Cmp_ok (r.val.num * s.val.den) (s.val.num * r.val.den) (by omega) (by omega)) ?_
  refine APre.nil ?_
  refine AOps.run tok 1 _ _ _ _ rfl ?_
  refine AOps.nil ?_
  exact AW.ret rfl
theorem fraction_Add_ok (r s : RD) {k : Nat} (hr : r.w k) (hs : s.w k) (hk : k ≤ 20000000) : Pure Tryz.prog 27 [r.D, s.D] (Qr (r.val + s.val)).D := by
  refine Pure.intro (n := 30) tok Tryz.func27 rfl rfl rfl (Nat.le_of_ble_eq_true rfl) (by kernel_rfl) (fun B F0 w0 => ?_)
  have hl := LQ_val (hr.mono (Nat.le_max_left k 1)) (Nat.le_max_right k 1)
  have hm := LQ_val (hs.mono (Nat.le_max_left k 1)) (Nat.le_max_right k 1)
  have := Lnum r.val; have := Lden r.val; have := Lnum s.val; have := Lden s.val
  have := L_mul r.val.num s.val.den; have := L_mul s.val.num r.val.den; have := L_mul r.val.den s.val.den
  have := L_add (r.val.num * s.val.den) (s.val.num * r.val.den)
  rw [← add_divInt]
  refine AW.seq ?_
  refine AW.region ?_
  refine AOps.run tok 3 _ _ _ _ rfl ?_
  refine AOps.nil ?_
  refine AW.seq ?_
  refine AW.region ?_
  refine AOps.run tok 1 _ _ _ _ rfl ?_
  refine AOps.call tok rfl rfl rfl rfl (fraction_Parts_ok r hr (by omega)) ?_
  refine AOps.run tok 7 _ _ _ _ rfl ?_
  refine AOps.nil ?_
  refine AW.seq ?_
  refine AW.region ?_
  refine AOps.run tok 1 _ _ _ _ rfl ?_
  refine AOps.call tok rfl rfl rfl rfl (fraction_Parts_ok s hs (by omega)) ?_
  refine AOps.run tok 7 _ _ _ _ rfl ?_
  refine AOps.nil ?_
  refine AW.seq ?_
  refine AW.draw hmix 11 (by kernel_rfl) ?_
  refine APre.run tok 2 _ _ _ _ rfl ?_
  refine APre.call tok rfl rfl rfl rfl rfl (integer_Mul_ok r.val.num s.val.den (by omega) (by omega)) ?_
  refine APre.run tok 2 _ _ _ _ rfl ?_
  refine APre.call tok rfl rfl rfl rfl rfl (integer_Mul_ok s.val.num r.val.den (by omega) (by omega)) ?_
  refine APre.call tok rfl rfl rfl rfl rfl (integer_Add_ok (r.val.num * s.val.den) (s.val.num * r.val.den) (by omega) (by omega)) ?_
  refine APre.run tok 2 _ _ _ _ rfl ?_
  refine APre.call tok rfl rfl rfl rfl rfl (integer_Mul_ok r.val.den s.val.den (by omega) (by omega)) ?_
  refine APre.call tok rfl rfl rfl rfl rfl (fraction_form_ok (r.val.num * s.val.den + s.val.num * r.val.den) (r.val.den * s.val.den) (by omega) (by omega) (den_mul_ne _ _)) ?_
  refine APre.nil ?_
  refine AOps.run tok 1 _ _ _ _ rfl ?_
  refine AOps.nil ?_
  exact AW.ret rfl
theorem fraction_Mul_ok (r s : RD) {k : Nat} (hr : r.w k) (hs : s.w k) (hk : k ≤ 20000000) : Pure Tryz.prog 30 [r.D, s.D] (Qr (r.val * s.val)).D := by
  refine Pure.intro (n := 26) tok Tryz.func30 rfl rfl rfl (Nat.le_of_ble_eq_true rfl) (by kernel_rfl) (fun B F0 w0 => ?_)
  have hl := LQ_val (hr.mono (Nat.le_max_left k 1)) (Nat.le_max_right k 1)
  have hm := LQ_val (hs.mono (Nat.le_max_left k 1)) (Nat.le_max_right k 1)
  have := Lnum r.val; have := Lden r.val; have := Lnum s.val; have := Lden s.val
  have := L_mul r.val.num s.val.num; have := L_mul r.val.den s.val.den
  rw [← mul_divInt]
  refine AW.seq ?_
  refine AW.region ?_
  refine AOps.run tok 3 _ _ _ _ rfl ?_
  refine AOps.nil ?_
  refine AW.seq ?_
  refine AW.region ?_
  refine AOps.run tok 1 _ _ _ _ rfl ?_
  refine AOps.call tok rfl rfl rfl rfl (fraction_Parts_ok r hr (by omega)) ?_
  refine AOps.run tok 7 _ _ _ _ rfl ?_
  refine AOps.nil ?_
  refine AW.seq ?_
  refine AW.region ?_
  refine AOps.run tok 1 _ _ _ _ rfl ?_
  refine AOps.call tok rfl rfl rfl rfl (fraction_Parts_ok s hs (by omega)) ?_
  refine AOps.run tok 7 _ _ _ _ rfl ?_
  refine AOps.nil ?_
  refine AW.seq ?_
  refine AW.draw hmix 7 (by kernel_rfl) ?_
  refine APre.run tok 2 _ _ _ _ rfl ?_
  refine APre.call tok rfl rfl rfl rfl rfl (integer_Mul_ok r.val.num s.val.num (by omega) (by omega)) ?_
  refine APre.run tok 2 _ _ _ _ rfl ?_
  refine APre.call tok rfl rfl rfl rfl rfl (integer_Mul_ok r.val.den s.val.den (by omega) (by omega)) ?_
  refine APre.call tok rfl rfl rfl rfl rfl (fraction_form_ok (r.val.num * s.val.num) (r.val.den * s.val.den) (by omega) (by omega) (den_mul_ne _ _)) ?_
  refine APre.nil ?_
  refine AOps.run tok 1 _ _ _ _ rfl ?_
  refine AOps.nil ?_
  exact AW.ret rfl
theorem fraction_Sub_ok (r s : RD) {k : Nat} (hr : r.w k) (hs : s.w k) (hk : k ≤ 10000000) : Pure Tryz.prog 69 [r.D, s.D] (Qr (r.val - s.val)).D := by
  refine Pure.intro (n := 9) tok Tryz.func69 rfl rfl rfl (Nat.le_of_ble_eq_true rfl) (by kernel_rfl) (fun B F0 w0 => ?_)
  have hm := LQ_val (hs.mono (Nat.le_max_left k 1)) (Nat.le_max_right k 1)
  have hadd := fraction_Add_ok r (Qr (-s.val)) (k := max k 1) (hr.mono (by omega)) (Qr_w _ (by rw [LQ_neg]; omega)) (by omega)
  rw [Qr_val, ← Rat.sub_eq_add_neg] at hadd
  refine AW.seq ?_
  refine AW.region ?_
  refine AOps.run tok 3 _ _ _ _ rfl ?_
  refine AOps.nil ?_
  refine AW.seq ?_
  refine AW.draw hmix 4 (by kernel_rfl) ?_
  refine APre.run tok 2 _ _ _ _ rfl ?_
  refine APre.call tok rfl rfl rfl rfl rfl (fraction_Neg_ok s hs (by omega)) ?_
  refine APre.call tok rfl rfl rfl rfl rfl hadd ?_
  refine APre.nil ?_
  refine AOps.run tok 1 _ _ _ _ rfl ?_
  refine AOps.nil ?_
  exact AW.ret rfl
end Lift
namespace Lift
open Go Go.Proofs
theorem winMap (M : List Nat) (lo m : Nat) : ((M.map wd).drop lo).take m = (win M lo m).map wd := by
  rw [win, List.map_take, List.map_drop]
theorem mapWd_snoc (xs : List Nat) (x : Nat) : xs.map wd ++ [wd x] = (xs ++ [x]).map wd := by simp
theorem nv_snoc (xs : List Nat) (x : Nat) : nv (xs ++ [x]) = nv xs + 4294967296 ^ xs.length * x := by
  rw [nv_append]; simp [nv]
theorem getD_dg (l : List Nat) (h : W32 l) (N i : Nat) (hN : l.length ≤ N) : (dg N (nv l)).getD i 0 = l.getD i 0 := by
  have hlt : nv l < 4294967296 ^ N := Nat.lt_of_lt_of_le (nv_lt h) (pow_le hN)
  rw [nv_digit (w32_dg N (nv l)) i, nv_digit h i, nv_dg, Nat.mod_eq_of_lt hlt]
theorem nv_top_lt' {a b : List Nat} (ha : W32 a) (hb : W32 b) {i : Nat} (hib : i < b.length) (h : a.getD i 0 < b.getD i 0) (he : ∀ j, i < j → a.getD j 0 = b.getD j 0) : nv a < nv b := by
  obtain ⟨N, hN⟩ : ∃ N, N = max a.length b.length := ⟨_, rfl⟩
  have e : ∀ l : List Nat, W32 l → l.length ≤ N → nv (dg N (nv l)) = nv l := fun l hl hlen => by
    rw [nv_dg]; exact Nat.mod_eq_of_lt (Nat.lt_of_lt_of_le (nv_lt hl) (pow_le hlen))
  rw [← e a ha (by omega), ← e b hb (by omega)]
  refine nv_top_lt (w32_dg _ _) (w32_dg _ _) (i := i) (by rw [dg_length]; omega) (by rw [dg_length]; omega) ?_ ?_
  · rw [getD_dg a ha N i (by omega), getD_dg b hb N i (by omega)]; exact h
  · refine ext_getD (by simp [dg_length]) (fun j hj => ?_)
    rw [getD_drop, getD_drop, getD_dg a ha N _ (by omega), getD_dg b hb N _ (by omega)]
    exact he _ (by omega)
theorem nv_all_eq {a b : List Nat} (ha : W32 a) (hb : W32 b) (he : ∀ j, a.getD j 0 = b.getD j 0) : nv a = nv b := by
  obtain ⟨N, hN⟩ : ∃ N, N = max a.length b.length := ⟨_, rfl⟩
  have e : ∀ l : List Nat, W32 l → l.length ≤ N → nv (dg N (nv l)) = nv l := fun l hl hlen => by
    rw [nv_dg]; exact Nat.mod_eq_of_lt (Nat.lt_of_lt_of_le (nv_lt hl) (pow_le hlen))
  rw [← e a ha (by omega), ← e b hb (by omega)]
  congr 1
  refine ext_getD (by rw [dg_length, dg_length]) (fun j _ => ?_)
  rw [getD_dg a ha N j (by omega), getD_dg b hb N j (by omega)]
  exact he j
theorem subN (m n : Nat) (h : n ≤ m) (hm : m < 18446744073709551616) : IntKind.u64.wrap ((m : Int) - (n : Int)) = ((m - n : Nat) : Int) := by rw [wU64 (by omega) (by omega)]; omega
theorem addB (x : Nat) (h : x < 4294967296) : IntKind.u64.wrap (4294967296 + (x : Int)) = ((4294967296 + x : Nat) : Int) := by rw [wU64 (by omega) (by omega)]; omega
theorem subOne (x : Nat) (h : x ≤ 1) : IntKind.u64.wrap (1 - (x : Int)) = ((1 - x : Nat) : Int) := by rw [wU64 (by omega) (by omega)]; omega
theorem r01_at_ok (ws : List Nat) (hw : W32 ws) (i : Nat) : Pure Tryz.prog 171 [Wd ws, dI i] (dU (ws.getD i 0 : Nat)) := by
  refine Pure.intro (n := 14) tok Tryz.func171 rfl rfl rfl (Nat.le_of_ble_eq_true rfl) (by kernel_rfl) (fun B F0 w0 => ?_)
  refine AW.seq (AW.region ?_)
  refine AOps.run tok 1 _ _ _ _ rfl ?_
  refine AOps.nil ?_
  refine AW.seq (AW.seq (AW.region ?_))
  refine AOps.run tok 4 _ _ _ _ rfl ?_
  refine AOps.nil ?_
  refine AW.cond rfl (fun h => ?_) (fun h => ?_)
  · have h' : i < ws.length := by simpa using h
    refine AW.seq (AW.region ?_)
    refine AOps.run tok 2 _ _ _ _ rfl ?_
    refine AOps.idx tok (wd (ws.getD i 0)) rfl rfl rfl rfl (Int.natCast_nonneg i) (getWd h') ?_
    refine AOps.run tok 3 _ _ _ _ rfl ?_
    have hb := hw.getD i
    rw [wU64 (by omega) (by omega)]
    refine AOps.nil ?_
    exact AW.ret rfl
  · have h' : ws.getD i 0 = 0 := by
      have : ws.length ≤ i := by simpa using h
      simp [List.getD, List.getElem?_eq_none this]
    rw [h']
    refine AW.skip ?_
    refine AW.seq (AW.region ?_)
    refine AOps.run tok 1 _ _ _ _ rfl ?_
    refine AOps.nil ?_
    exact AW.ret rfl
theorem r01_at_win (M : List Nat) (lo m : Nat) (hw : W32 M) (i : Nat) : Pure Tryz.prog 171 [.sl 1 (((M.map wd).drop lo).take m), dI i] (dU ((win M lo m).getD i 0 : Nat)) := by
  rw [winMap]
  exact r01_at_ok _ (hw.win lo m) i
set_option maxHeartbeats 800000 in
theorem r01_trim_o (a : List Nat) (ha : W32 a) (hla : a.length ≤ 35184372088831) : PureO Tryz.prog 164 [Wd a] 141 (a.map wd) 0 (tw (nv a)).length := by
  refine PureO.intro (n := 25) tok Tryz.func164 rfl rfl rfl (Nat.le_of_ble_eq_true rfl) (by kernel_rfl) (fun B F0 w0 => ?_)
  refine AW.seq ?_
  refine AW.region ?_
  refine AOps.run tok 1 _ _ _ _ rfl ?_
  refine AOps.nil ?_
  refine AW.seq ?_
  refine AW.region ?_
  refine AOps.run tok 2 _ _ _ _ rfl ?_
  refine AOps.app0 tok rfl rfl rfl rfl (by show ((a.map wd).length) * 4 ≤ _; rw [lenWd]; omega) ?_
  refine AOps.run tok 1 _ _ _ _ rfl ?_
  refine AOps.towin 3 rfl ?_
  rw [lenWd]
  refine AOps.nil ?_
  refine AW.seq ?_
  refine AW.block ?_
  refine AW.loopS [3] (fun k : Nat => [(3, .wn false 141 (a.map wd) 0 k)]) (fun k => k ≤ a.length ∧ ∀ i, k ≤ i → a.getD i 0 = 0) (fun k => k) a.length rfl ⟨Nat.le_refl _, fun i hi => getD_of_ge hi⟩ (fun k ⟨hk, hz⟩ => ?_)
  refine AW.seq ?_
  have hwl : (((a.map wd).drop 0).take k).length = k := by simp; omega
  refine AW.cut [3, 18] (fun b : Bool => [(3, .wn false 141 (a.map wd) 0 k), (18, .d (dB b))]) (fun b => (b = true → 0 < k ∧ a.getD (k - 1) 0 = 0) ∧ (b = false → k = 0 ∨ a.getD (k - 1) 0 ≠ 0)) ?_ (fun b ⟨ht, hf⟩ => ?_)
  · refine AW.region ?_
    refine AOps.run tok 4 _ _ _ _ rfl ?_
    rw [hwl]
    refine AOps.split (t := 10) rfl (fun h => ?_) (fun h => ?_)
    · have hk0 : 0 < k := by have := of_decide_eq_true h; omega
      obtain ⟨j, rfl⟩ : ∃ j, k = j + 1 := ⟨k - 1, by omega⟩
      refine AOps.run tok 4 _ _ _ _ rfl ?_
      rw [hwl, wI64 (by omega) (by omega), show ((j + 1 : Nat) : Int) - 1 = (j : Int) by omega]
      refine AOps.idxw tok rfl rfl rfl rfl (Int.natCast_nonneg j) (by simp only [Int.toNat_natCast]; omega) ?_
      rw [Int.toNat_natCast, Nat.zero_add]
      refine AOps.loadel tok (wd (a.getD j 0)) rfl rfl rfl rfl (getWd (by omega)) rfl ?_
      refine AOps.run tok 2 _ _ _ _ rfl ?_
      refine AOps.nil ?_
      exact ⟨_, rfl, ⟨fun h => ⟨by omega, by have := of_decide_eq_true h; simp at this; simpa using this⟩, fun h => .inr (by simpa using h)⟩⟩
    · have hk0 : k = 0 := by have := of_decide_eq_false h; omega
      refine AOps.run tok 8 _ _ _ _ rfl ?_
      refine AOps.nil ?_
      exact ⟨_, rfl, ⟨fun h => by simp at h, fun h => .inl hk0⟩⟩
  · refine AW.cond rfl (fun h => ?_) (fun h => ?_)
    · obtain ⟨h0, h1⟩ := ht h
      refine AW.skip ?_
      refine AW.block ?_
      refine AW.region ?_
      refine AOps.run tok 4 _ _ _ _ rfl ?_
      rw [hwl, wI64 (by omega) (by omega), show (k : Int) - 1 = ((k - 1 : Nat) : Int) by omega]
      refine AOps.slw tok rfl rfl rfl rfl trivial (Int.natCast_nonneg _) (by simp only [loN, hiN, Int.toNat_natCast]; omega) (by simp only [hiN, Int.toNat_natCast]; omega) ?_
      rw [show 0 + loN none = 0 from rfl, show hiN k (some ((k - 1 : Nat) : Int)) - loN none = k - 1 by simp [hiN, loN]]
      refine AOps.run tok 1 _ _ _ _ rfl ?_
      refine AOps.nil ?_
      refine ⟨k - 1, rfl, ⟨by omega, fun i hi => ?_⟩, by omega⟩
      by_cases he : i = k - 1
      · rw [he, h1]
      · exact hz i (by omega)
    · have hres := tw_take ha hk hz (hf h)
      have hlen : k = (tw (nv a)).length := by rw [← hres]; simp; omega
      refine AW.exit ?_
      rw [← hlen]
      refine AW.seq ?_
      refine AW.region ?_
      refine AOps.run tok 2 _ _ _ _ rfl ?_
      refine AOps.nil ?_
      exact AW.ret rfl
theorem tw_win {a : List Nat} (ha : W32 a) : win a 0 (tw (nv a)).length = tw (nv a) := by
  have h := tw_length_le ha
  have hv : nv (a.drop (tw (nv a)).length) = 0 := nv_drop_zero _ (lt_tw_length _) h
  have h2 := nv_take_drop a (tw (nv a)).length h
  rw [hv, Nat.mul_zero, Nat.add_zero] at h2
  rw [win, List.drop_zero]
  exact nv_inj (ha.take _) (w32_tw _) (by simp; omega) (by rw [nv_tw, ← h2])
theorem r01_trim_ok (a : List Nat) (ha : W32 a) (hla : a.length ≤ 35184372088831) : Pure Tryz.prog 164 [Wd a] (Wd (tw (nv a))) := by
  have := PureO.pure tok (r01_trim_o a ha hla) (te := _) rfl
  rw [winMap, tw_win ha] at this
  exact this
set_option maxHeartbeats 800000 in
theorem r01_compare_ok (a b : List Nat) (ha : W32 a) (hb : W32 b) (hla : a.length ≤ 35184372088831) (hlb : b.length ≤ 35184372088831) : Pure Tryz.prog 147 [Wd a, Wd b] (dI (cmpN (nv a) (nv b))) := by
  refine Pure.intro (n := 30) tok Tryz.func147 rfl rfl rfl (Nat.le_of_ble_eq_true rfl) (by kernel_rfl) (fun B F0 w0 => ?_)
  obtain ⟨N, hN⟩ : ∃ N, N = max a.length b.length := ⟨_, rfl⟩
  refine AW.seq ?_
  refine AW.region ?_
  refine AOps.run tok 1 _ _ _ _ rfl ?_
  refine AOps.nil ?_
  refine AW.seq ?_
  refine AW.seq ?_
  refine AW.region ?_
  refine AOps.run tok 7 _ _ _ _ rfl ?_
  rw [lenWd, lenWd, show (if (b.length : Int) > (a.length : Int) then (b.length : Int) else (a.length : Int)) = (N : Int) by split <;> omega, wI64 (by omega) (by omega)]
  refine AOps.nil ?_
  refine AW.block ?_
  refine AW.loopS [0, 1, 5] (fun k : Nat => [(0, .d (Wd a)), (1, .d (Wd b)), (5, .d (dI ((k : Int) - 1)))]) (fun k => k ≤ N ∧ ∀ j, k ≤ j → a.getD j 0 = b.getD j 0) (fun k => k) N rfl ⟨Nat.le_refl _, fun j hj => by rw [getD_of_ge (by omega), getD_of_ge (by omega)]⟩ (fun k ⟨hk, hd⟩ => ?_)
  refine AW.seq ?_
  refine AW.seq ?_
  refine AW.region ?_
  refine AOps.run tok 2 _ _ _ _ rfl ?_
  refine AOps.nil ?_
  refine AW.cond rfl (fun h => ?_) (fun h => ?_)
  · have hk0 : 0 < k := by have := of_decide_eq_true h; omega
    obtain ⟨j, rfl⟩ : ∃ j, k = j + 1 := ⟨k - 1, by omega⟩
    rw [show ((j + 1 : Nat) : Int) - 1 = (j : Int) by omega]
    refine AW.skip ?_
    refine AW.seq ?_
    refine AW.block ?_
    refine AW.seq ?_
    refine AW.region ?_
    refine AOps.run tok 2 _ _ _ _ rfl ?_
    refine AOps.call tok rfl rfl rfl rfl (r01_at_ok a ha j) ?_
    refine AOps.run tok 2 _ _ _ _ rfl ?_
    refine AOps.call tok rfl rfl rfl rfl (r01_at_ok b hb j) ?_
    refine AOps.run tok 1 _ _ _ _ rfl ?_
    refine AOps.nil ?_
    refine AW.cond rfl (fun h => ?_) (fun h => ?_)
    · have hne : a.getD j 0 ≠ b.getD j 0 := fun e => by rw [e] at h; simp at h
      refine AW.seq ?_
      refine AW.seq ?_
      refine AW.region ?_
      refine AOps.run tok 2 _ _ _ _ rfl ?_
      refine AOps.call tok rfl rfl rfl rfl (r01_at_ok a ha j) ?_
      refine AOps.run tok 2 _ _ _ _ rfl ?_
      refine AOps.call tok rfl rfl rfl rfl (r01_at_ok b hb j) ?_
      refine AOps.run tok 1 _ _ _ _ rfl ?_
      refine AOps.nil ?_
      refine AW.cond rfl (fun h => ?_) (fun h => ?_)
      · have hlt : a.getD j 0 < b.getD j 0 := by have := of_decide_eq_true h; omega
        have hjb : j < b.length := by
          rcases Nat.lt_or_ge j b.length with h | h
          · exact h
          · rw [getD_of_ge h] at hlt; omega
        have hv := nv_top_lt' ha hb hjb hlt (fun i hi => hd i (by omega))
        rw [show cmpN (nv a) (nv b) = -1 by simp [cmpN, hv]]
        refine AW.seq ?_
        refine AW.region ?_
        refine AOps.run tok 1 _ _ _ _ rfl ?_
        refine AOps.nil ?_
        exact AW.ret rfl
      · have hlt : b.getD j 0 < a.getD j 0 := by have := of_decide_eq_false h; omega
        have hja : j < a.length := by
          rcases Nat.lt_or_ge j a.length with h | h
          · exact h
          · rw [getD_of_ge h] at hlt; omega
        have hv := nv_top_lt' hb ha hja hlt (fun i hi => (hd i (by omega)).symm)
        rw [show cmpN (nv a) (nv b) = 1 by unfold cmpN; rw [if_neg (by omega), if_neg (by omega)]]
        refine AW.skip ?_
        refine AW.seq ?_
        refine AW.region ?_
        refine AOps.run tok 1 _ _ _ _ rfl ?_
        refine AOps.nil ?_
        exact AW.ret rfl
    · have he : a.getD j 0 = b.getD j 0 := by
        have : ((a.getD j 0 : Nat) : Int) = ((b.getD j 0 : Nat) : Int) := by simpa using h
        omega
      refine AW.skip ?_
      refine AW.region ?_
      refine AOps.run tok 3 _ _ _ _ rfl ?_
      rw [wI64 (by omega) (by omega)]
      refine AOps.nil ?_
      refine ⟨j, rfl, ⟨by omega, fun i hi => ?_⟩, by omega⟩
      by_cases hij : i = j
      · rw [hij, he]
      · exact hd i (by omega)
  · have hk0 : k = 0 := by have := of_decide_eq_false h; omega
    subst hk0
    rw [show cmpN (nv a) (nv b) = 0 by rw [nv_all_eq ha hb (fun j => hd j (Nat.zero_le _))]; simp [cmpN]]
    refine AW.exit ?_
    refine AW.seq ?_
    refine AW.region ?_
    refine AOps.run tok 1 _ _ _ _ rfl ?_
    refine AOps.nil ?_
    exact AW.ret rfl
set_option maxHeartbeats 800000 in
theorem r01_plus_ok (a b : List Nat) (ha : W32 a) (hb : W32 b) (hla : a.length ≤ 35184372088830) (hlb : b.length ≤ 35184372088830) : Pure Tryz.prog 146 [Wd a, Wd b] (Wd (tw (nv a + nv b))) := by
  refine Pure.intro (n := 37) tok Tryz.func146 rfl rfl rfl (Nat.le_of_ble_eq_true rfl) (by kernel_rfl) (fun B F0 w0 => ?_)
  obtain ⟨N, hN⟩ : ∃ N, N = max a.length b.length + 1 := ⟨_, rfl⟩
  refine AW.seq ?_
  refine AW.region ?_
  refine AOps.run tok 1 _ _ _ _ rfl ?_
  refine AOps.nil ?_
  refine AW.seq ?_
  refine AW.region ?_
  refine AOps.run tok 1 _ _ _ _ rfl ?_
  refine AOps.nil ?_
  refine AW.seq ?_
  refine AW.region ?_
  refine AOps.run tok 1 _ _ _ _ rfl ?_
  refine AOps.nil ?_
  refine AW.seq ?_
  refine AW.seq ?_
  refine AW.region ?_
  refine AOps.run tok 7 _ _ _ _ rfl ?_
  rw [lenWd, lenWd, show (if (b.length : Int) > (a.length : Int) then (b.length : Int) else (a.length : Int)) = ((N - 1 : Nat) : Int) by split <;> omega, wI64 (by omega) (by omega), show ((N - 1 : Nat) : Int) + 1 = (N : Int) by omega]
  refine AOps.nil ?_
  refine AW.block ?_
  refine AW.loopS [0, 1, 5, 6, 14, 15] (fun s : Nat × List Nat × Nat => [(0, .d (Wd a)), (1, .d (Wd b)), (5, .ow 141 (s.2.1.map wd)), (6, .d (dU s.2.2)), (14, .d (dI N)), (15, .d (dI s.1))])
    (fun s => s.1 ≤ N ∧ s.2.1.length = s.1 ∧ W32 s.2.1 ∧ s.2.2 ≤ 1 ∧ nv s.2.1 + 4294967296 ^ s.1 * s.2.2 = nv (a.take s.1) + nv (b.take s.1)) (fun s => N - s.1) (0, [], 0) rfl ⟨Nat.zero_le _, rfl, W32.nil, by simp, by simp [nv]⟩ (fun (i, out, c) ⟨hi, hol, how, hc, hv⟩ => ?_)
  simp only [] at hi hol how hc hv
  refine AW.seq ?_
  refine AW.region ?_
  refine AOps.run tok 1 _ _ _ _ rfl ?_
  refine AOps.nil ?_
  refine AW.seq ?_
  refine AW.cond rfl (fun h => ?_) (fun h => ?_)
  · have hiN : i < N := by have := of_decide_eq_true h; omega
    refine AW.skip ?_
    refine AW.seq ?_
    refine AW.block ?_
    refine AW.seq ?_
    refine AW.region ?_
    refine AOps.run tok 2 _ _ _ _ rfl ?_
    refine AOps.nil ?_
    refine AW.seq ?_
    refine AW.region ?_
    refine AOps.run tok 2 _ _ _ _ rfl ?_
    refine AOps.call tok rfl rfl rfl rfl (r01_at_ok a ha i) ?_
    refine AOps.run tok 2 _ _ _ _ rfl ?_
    refine AOps.call tok rfl rfl rfl rfl (r01_at_ok b hb i) ?_
    refine AOps.run tok 4 _ _ _ _ rfl ?_
    have hx := ha.getD i
    have hy := hb.getD i
    rw [addU (a.getD i 0) (b.getD i 0) (by omega), addU (a.getD i 0 + b.getD i 0) c (by omega)]
    refine AOps.nil ?_
    obtain ⟨S, hS⟩ : ∃ S, S = a.getD i 0 + b.getD i 0 + c := ⟨_, rfl⟩
    rw [← hS]
    refine AW.region ?_
    refine AOps.run tok 3 _ _ _ _ rfl ?_
    rw [cvU32]
    refine AOps.bs tok rfl rfl rfl rfl ?_
    refine AOps.appo tok rfl rfl rfl rfl rfl rfl (by show ((out.map wd).length + 1) * 4 ≤ _; rw [lenWd]; omega) (by show (out.map wd).length + 1 ≤ _; rw [lenWd]; omega) ?_
    refine AOps.run tok 4 _ _ _ _ rfl ?_
    rw [shrU32]
    refine AOps.nil ?_
    refine AW.region ?_
    refine AOps.run tok 2 _ _ _ _ rfl ?_
    rw [wI64 (by omega) (by omega)]
    refine AOps.nil ?_
    refine ⟨(i + 1, out ++ [S % 4294967296], S / 4294967296), by rw [← mapWd_snoc]; rfl, ⟨by omega, by simp [hol], W32.append.2 ⟨how, W32.cons.2 ⟨Nat.mod_lt _ (by decide), W32.nil⟩⟩, by show S / _ ≤ 1; omega, ?_⟩, by simp only []; omega⟩
    simp only [nv_snoc, hol, nv_take_succ a i, nv_take_succ b i, Nat.pow_succ]
    have := carry_step (4294967296 ^ i) S
    have h3 : 4294967296 ^ i * S = 4294967296 ^ i * a.getD i 0 + 4294967296 ^ i * b.getD i 0 + 4294967296 ^ i * c := by rw [hS, Nat.mul_add, Nat.mul_add]
    omega
  · have hiN : i = N := by have := of_decide_eq_false h; omega
    subst hiN
    rw [List.take_of_length_le (by omega), List.take_of_length_le (by omega)] at hv
    have h1 := nv_lt ha
    have h2 := nv_lt hb
    have hc0 : c = 0 := by
      have h3 := pow_le (show a.length ≤ i - 1 by omega)
      have h4 := pow_le (show b.length ≤ i - 1 by omega)
      have h5 : 4294967296 ^ i = 4294967296 ^ (i - 1) * 4294967296 := by rw [← Nat.pow_succ]; congr 1; omega
      rcases Nat.eq_zero_or_pos c with h | h
      · exact h
      · have : 4294967296 ^ i * 1 ≤ 4294967296 ^ i * c := Nat.mul_le_mul_left _ h
        omega
    have hres : nv out = nv a + nv b := by rw [hc0] at hv; simpa using hv
    refine AW.exit ?_
    refine AW.seq ?_
    refine AW.region ?_
    refine AOps.run tok 1 _ _ _ _ rfl ?_
    refine AOps.frz tok 5 rfl rfl ?_
    refine AOps.call tok rfl rfl rfl rfl (r01_trim_ok out how (by omega)) ?_
    refine AOps.run tok 1 _ _ _ _ rfl ?_
    refine AOps.nil ?_
    rw [hres]
    exact AW.ret rfl
theorem sub_digit {x y c : Nat} (hx : x < 4294967296) (hy : y < 4294967296) (hc : c ≤ 1) : y + c ≤ 4294967296 + x ∧ (4294967296 + x - y - c) / 4294967296 ≤ 1 ∧ (4294967296 + x - y - c) % 4294967296 + y + c = x + 4294967296 * (1 - (4294967296 + x - y - c) / 4294967296) := by omega
set_option maxHeartbeats 800000 in
theorem r01_minus_ok (a b : List Nat) (ha : W32 a) (hb : W32 b) (hla : a.length ≤ 35184372088830) (hle : nv b ≤ nv a) : Pure Tryz.prog 148 [Wd a, Wd b] (Wd (tw (nv a - nv b))) := by
  refine Pure.intro (n := 35) tok Tryz.func148 rfl rfl rfl (Nat.le_of_ble_eq_true rfl) (by kernel_rfl) (fun B F0 w0 => ?_)
  obtain ⟨N, hN⟩ : ∃ N, N = a.length := ⟨_, rfl⟩
  refine AW.seq ?_
  refine AW.region ?_
  refine AOps.run tok 1 _ _ _ _ rfl ?_
  refine AOps.nil ?_
  refine AW.seq ?_
  refine AW.region ?_
  refine AOps.run tok 1 _ _ _ _ rfl ?_
  refine AOps.nil ?_
  refine AW.seq ?_
  refine AW.region ?_
  refine AOps.run tok 1 _ _ _ _ rfl ?_
  refine AOps.nil ?_
  refine AW.seq ?_
  refine AW.seq ?_
  refine AW.region ?_
  refine AOps.run tok 3 _ _ _ _ rfl ?_
  rw [lenWd, ← hN]
  refine AOps.nil ?_
  refine AW.block ?_
  refine AW.loopS [0, 1, 5, 6, 10, 11] (fun s : Nat × List Nat × Nat => [(0, .d (Wd a)), (1, .d (Wd b)), (5, .ow 141 (s.2.1.map wd)), (6, .d (dU s.2.2)), (10, .d (dI N)), (11, .d (dI s.1))])
    (fun s => s.1 ≤ N ∧ s.2.1.length = s.1 ∧ W32 s.2.1 ∧ s.2.2 ≤ 1 ∧ nv s.2.1 + nv (b.take s.1) = nv (a.take s.1) + 4294967296 ^ s.1 * s.2.2) (fun s => N - s.1) (0, [], 0) rfl ⟨Nat.zero_le _, rfl, W32.nil, by simp, by simp [nv]⟩ (fun (i, out, c) ⟨hi, hol, how, hc, hv⟩ => ?_)
  simp only [] at hi hol how hc hv
  refine AW.seq ?_
  refine AW.region ?_
  refine AOps.run tok 1 _ _ _ _ rfl ?_
  refine AOps.nil ?_
  refine AW.seq ?_
  refine AW.cond rfl (fun h => ?_) (fun h => ?_)
  · have hiN : i < N := by have := of_decide_eq_true h; omega
    refine AW.skip ?_
    refine AW.seq ?_
    refine AW.block ?_
    refine AW.seq ?_
    refine AW.region ?_
    refine AOps.run tok 2 _ _ _ _ rfl ?_
    refine AOps.nil ?_
    refine AW.seq ?_
    refine AW.region ?_
    refine AOps.run tok 2 _ _ _ _ rfl ?_
    refine AOps.call tok rfl rfl rfl rfl (r01_at_ok a ha i) ?_
    refine AOps.run tok 3 _ _ _ _ rfl ?_
    refine AOps.call tok rfl rfl rfl rfl (r01_at_ok b hb i) ?_
    refine AOps.run tok 4 _ _ _ _ rfl ?_
    have hx := ha.getD i
    have hy := hb.getD i
    obtain ⟨hd1, hd2, hd3⟩ := sub_digit hx hy hc
    rw [addB (a.getD i 0) hx, subN (4294967296 + a.getD i 0) (b.getD i 0) (by omega) (by omega), subN (4294967296 + a.getD i 0 - b.getD i 0) c (by omega) (by omega)]
    refine AOps.nil ?_
    obtain ⟨S, hS⟩ : ∃ S, S = 4294967296 + a.getD i 0 - b.getD i 0 - c := ⟨_, rfl⟩
    rw [← hS] at hd2 hd3 ⊢
    refine AW.region ?_
    refine AOps.run tok 3 _ _ _ _ rfl ?_
    rw [cvU32]
    refine AOps.bs tok rfl rfl rfl rfl ?_
    refine AOps.appo tok rfl rfl rfl rfl rfl rfl (by show ((out.map wd).length + 1) * 4 ≤ _; rw [lenWd]; omega) (by show (out.map wd).length + 1 ≤ _; rw [lenWd]; omega) ?_
    refine AOps.run tok 5 _ _ _ _ rfl ?_
    rw [shrU32, subOne (S / 4294967296) hd2]
    refine AOps.nil ?_
    refine AW.region ?_
    refine AOps.run tok 2 _ _ _ _ rfl ?_
    rw [wI64 (by omega) (by omega)]
    refine AOps.nil ?_
    refine ⟨(i + 1, out ++ [S % 4294967296], 1 - S / 4294967296), by rw [← mapWd_snoc]; rfl, ⟨by omega, by simp [hol], W32.append.2 ⟨how, W32.cons.2 ⟨Nat.mod_lt _ (by decide), W32.nil⟩⟩, by show 1 - S / _ ≤ 1; omega, ?_⟩, by simp only []; omega⟩
    simp only [nv_snoc, hol, nv_take_succ a i, nv_take_succ b i, Nat.pow_succ]
    have := congrArg (fun z => 4294967296 ^ i * z) hd3
    simp only [Nat.mul_add] at this
    rw [Nat.mul_assoc]
    omega
  · have hiN : i = N := by have := of_decide_eq_false h; omega
    subst hiN
    rw [List.take_of_length_le (l := a) (by omega)] at hv
    have h1 := nv_lt ha
    have h3 := nv_lt how
    rw [hol] at h3
    rw [← hN] at h1
    have hbt : nv (b.take i) = nv b := by
      by_cases hlb : i ≤ b.length
      · have h4 := nv_take_drop b i hlb
        rcases Nat.eq_zero_or_pos (nv (b.drop i)) with h | h
        · rw [h4, h]; omega
        · have : 4294967296 ^ i * 1 ≤ 4294967296 ^ i * nv (b.drop i) := Nat.mul_le_mul_left _ h
          omega
      · rw [List.take_of_length_le (by omega)]
    have hc0 : c = 0 := by
      rcases Nat.eq_zero_or_pos c with h | h
      · exact h
      · have : 4294967296 ^ i * 1 ≤ 4294967296 ^ i * c := Nat.mul_le_mul_left _ h
        omega
    have hres : nv out = nv a - nv b := by rw [hc0] at hv; omega
    refine AW.exit ?_
    refine AW.seq ?_
    refine AW.region ?_
    refine AOps.run tok 1 _ _ _ _ rfl ?_
    refine AOps.frz tok 5 rfl rfl ?_
    refine AOps.call tok rfl rfl rfl rfl (r01_trim_ok out how (by omega)) ?_
    refine AOps.run tok 1 _ _ _ _ rfl ?_
    refine AOps.nil ?_
    rw [hres]
    exact AW.ret rfl
end Lift
namespace Lift
open Go Go.Proofs
set_option maxHeartbeats 800000 in
theorem r01_cut_ok (L : List Nat) (lo m : Nat) (hL : W32 L) (hlm : lo + m ≤ L.length) (hm : m ≤ 35184372088831) :
    Mut Tryz.prog 174 141 (L.map wd) lo m [] (L.map wd) (.part lo (tw (nv (win L lo m))).length) := by
  refine Mut.intro (n := 21) tok Tryz.func174 rfl rfl rfl (Nat.le_of_ble_eq_true rfl) (by kernel_rfl) rfl (fun B F0 w0 => ?_)
  obtain ⟨a, ha0⟩ : ∃ a, a = win L lo m := ⟨_, rfl⟩
  have ha : W32 a := by rw [ha0]; exact hL.win _ _
  have hal : a.length = m := by rw [ha0, win_length hlm]
  have hag : ∀ j, j < m → a.getD j 0 = L.getD (lo + j) 0 := fun j hj => by rw [ha0, getD_win _ _ _ _ hj]
  rw [← ha0]
  refine AW.seq ?_
  refine AW.region ?_
  refine AOps.run tok 1 _ _ _ _ rfl ?_
  refine AOps.nil ?_
  refine AW.seq ?_
  refine AW.block ?_
  refine AW.loopS [0] (fun k : Nat => [(0, .wn true 141 (L.map wd) lo k)]) (fun k => k ≤ m ∧ ∀ i, k ≤ i → a.getD i 0 = 0) (fun k => k) m rfl ⟨Nat.le_refl _, fun i hi => getD_of_ge (by omega)⟩ (fun k ⟨hk, hz⟩ => ?_)
  refine AW.seq ?_
  have hwl : (((L.map wd).drop lo).take k).length = k := lenWin (by omega)
  refine AW.cut [0, 14] (fun b : Bool => [(0, .wn true 141 (L.map wd) lo k), (14, .d (dB b))]) (fun b => (b = true → 0 < k ∧ a.getD (k - 1) 0 = 0) ∧ (b = false → k = 0 ∨ a.getD (k - 1) 0 ≠ 0)) ?_ (fun b ⟨ht, hf⟩ => ?_)
  · refine AW.region ?_
    refine AOps.run tok 4 _ _ _ _ rfl ?_
    rw [hwl]
    refine AOps.split (t := 6) rfl (fun h => ?_) (fun h => ?_)
    · have hk0 : 0 < k := by have := of_decide_eq_true h; omega
      obtain ⟨j, rfl⟩ : ∃ j, k = j + 1 := ⟨k - 1, by omega⟩
      refine AOps.run tok 4 _ _ _ _ rfl ?_
      rw [hwl, wI64 (by omega) (by omega), show ((j + 1 : Nat) : Int) - 1 = (j : Int) by omega]
      refine AOps.idxw tok rfl rfl rfl rfl (Int.natCast_nonneg j) (by simp only [Int.toNat_natCast]; omega) ?_
      rw [Int.toNat_natCast]
      refine AOps.loadel tok (wd (L.getD (lo + j) 0)) rfl rfl rfl rfl (getWd (by omega)) rfl ?_
      refine AOps.run tok 2 _ _ _ _ rfl ?_
      refine AOps.nil ?_
      rw [← hag j (by omega)]
      exact ⟨_, rfl, ⟨fun h => ⟨by omega, by have := of_decide_eq_true h; simp at this; simpa using this⟩, fun h => .inr (by simpa using h)⟩⟩
    · have hk0 : k = 0 := by have := of_decide_eq_false h; omega
      refine AOps.run tok 8 _ _ _ _ rfl ?_
      refine AOps.nil ?_
      exact ⟨_, rfl, ⟨fun h => by simp at h, fun h => .inl hk0⟩⟩
  · refine AW.cond rfl (fun h => ?_) (fun h => ?_)
    · obtain ⟨h0, h1⟩ := ht h
      refine AW.skip ?_
      refine AW.block ?_
      refine AW.region ?_
      refine AOps.run tok 4 _ _ _ _ rfl ?_
      rw [hwl, wI64 (by omega) (by omega), show (k : Int) - 1 = ((k - 1 : Nat) : Int) by omega]
      refine AOps.slw tok rfl rfl rfl rfl trivial (Int.natCast_nonneg _) (by simp only [loN, hiN, Int.toNat_natCast]; omega) (by simp only [hiN, Int.toNat_natCast]; omega) ?_
      rw [show lo + loN none = lo from rfl, show hiN k (some ((k - 1 : Nat) : Int)) - loN none = k - 1 by simp [hiN, loN]]
      refine AOps.run tok 1 _ _ _ _ rfl ?_
      refine AOps.nil ?_
      refine ⟨k - 1, rfl, ⟨by omega, fun i hi => ?_⟩, by omega⟩
      by_cases he : i = k - 1
      · rw [he, h1]
      · exact hz i (by omega)
    · have hres := tw_take ha (by omega) hz (hf h)
      have hlen : k = (tw (nv a)).length := by rw [← hres]; simp; omega
      refine AW.exit ?_
      rw [← hlen]
      refine AW.seq ?_
      refine AW.region ?_
      refine AOps.run tok 2 _ _ _ _ rfl ?_
      refine AOps.rehome 2 0 rfl rfl rfl rfl ?_
      refine AOps.nil ?_
      exact AW.ret ⟨0, ⟨lo, k, rfl⟩, 2, rfl, _, rfl, rfl⟩
theorem half_digit (v i : Nat) : v / 2 / 4294967296 ^ i % 4294967296 = (v / 4294967296 ^ (i + 1) % 4294967296 * 4294967296 + v / 4294967296 ^ i % 4294967296) / 2 % 4294967296 := by
  have := down_digit v 1 i (by decide)
  simpa using this
theorem half_or (x y : Nat) (hx : x < 4294967296) (hy : y < 4294967296) : (x / 2 ||| y * 2147483648) % 4294967296 = (y * 4294967296 + x) / 2 % 4294967296 := by
  have h := or_add' y 31 (x / 2) (by omega)
  rw [show (2 : Nat) ^ 31 = 2147483648 from rfl] at h
  rw [h]
  omega
set_option maxHeartbeats 800000 in
theorem r01_halve_ok (L : List Nat) (lo m : Nat) (hL : W32 L) (hlm : lo + m ≤ L.length) (hm : m ≤ 35184372088830) (hm0 : 0 < m) :
    Mut Tryz.prog 172 141 (L.map wd) lo m [] ((put L lo m (dg m (nv (win L lo m) / 2))).map wd) (.part lo (tw (nv (win L lo m) / 2)).length) := by
  refine Mut.intro (n := 26) tok Tryz.func172 rfl rfl rfl (Nat.le_of_ble_eq_true rfl) (by kernel_rfl) (by rw [List.length_map, List.length_map, put_length hlm (dg_length _ _)]) (fun B F0 w0 => ?_)
  obtain ⟨V, hV⟩ : ∃ V, V = nv (win L lo m) := ⟨_, rfl⟩
  rw [← hV]
  have hVd : ∀ j, L.getD (lo + j) 0 = V / 4294967296 ^ j % 4294967296 ∨ m ≤ j := fun j => by
    rcases Nat.lt_or_ge j m with h | h
    · exact .inl (by rw [hV, ← nv_digit (hL.win lo m) j, getD_win _ _ _ _ h])
    · exact .inr h
  refine AW.seq ?_
  refine AW.region ?_
  refine AOps.run tok 1 _ _ _ _ rfl ?_
  refine AOps.nil ?_
  refine AW.seq ?_
  refine AW.seq ?_
  refine AW.region ?_
  refine AOps.run tok 3 _ _ _ _ rfl ?_
  rw [lenWin hlm]
  refine AOps.nil ?_
  refine AW.block ?_
  refine AW.loopS [0, 5, 6] (fun s : Nat × List Nat => [(0, .wn true 141 (s.2.map wd) lo m), (5, .d (dI m)), (6, .d (dI s.1))])
    (fun s => s.1 ≤ m ∧ s.2.length = L.length ∧ W32 s.2 ∧ s.2.take lo = L.take lo ∧ s.2.drop (lo + s.1) = L.drop (lo + s.1) ∧ ∀ j, j < s.1 → s.2.getD (lo + j) 0 = V / 2 / 4294967296 ^ j % 4294967296) (fun s => m - s.1) (0, L) rfl ⟨Nat.zero_le _, rfl, hL, rfl, rfl, fun j hj => by simp at hj⟩ (fun (i, M) ⟨hi, hMl, hMw, ht, hd, he⟩ => ?_)
  simp only [] at hi hMl hMw ht hd he
  refine AW.seq ?_
  refine AW.region ?_
  refine AOps.run tok 1 _ _ _ _ rfl ?_
  refine AOps.nil ?_
  refine AW.seq ?_
  refine AW.cond rfl (fun h => ?_) (fun h => ?_)
  · have hiN : i < m := by have := of_decide_eq_true h; omega
    have hx := (hMw.win lo m).getD i
    have hy := (hMw.win lo m).getD (i + 1)
    have hME := getD_of_drop hd
    refine AW.skip ?_
    refine AW.seq ?_
    refine AW.block ?_
    refine AW.seq ?_
    refine AW.region ?_
    refine AOps.run tok 2 _ _ _ _ rfl ?_
    refine AOps.nil ?_
    refine AW.region ?_
    refine AOps.run tok 4 _ _ _ _ rfl ?_
    refine AOps.calls tok rfl rfl rfl rfl (r01_at_win M lo m hMw i) rfl ?_
    refine AOps.run tok 4 _ _ _ _ rfl ?_
    rw [wI64 (x := (i : Int) + 1) (by omega) (by omega), show (i : Int) + 1 = ((i + 1 : Nat) : Int) by omega]
    refine AOps.calls tok rfl rfl rfl rfl (r01_at_win M lo m hMw (i + 1)) rfl ?_
    refine AOps.run tok 3 _ _ _ _ rfl ?_
    rw [shrU _ 1 (by decide), shlU _ 31 (by decide) (by omega), orU _ _ (by omega) (by omega), cvU32]
    refine AOps.idxw tok rfl rfl rfl rfl (Int.natCast_nonneg i) hiN ?_
    rw [Int.toNat_natCast]
    refine AOps.storeV tok (((win M lo m).getD i 0 / 2 ^ 1 ||| (win M lo m).getD (i + 1) 0 * 2 ^ 31) % 4294967296) rfl rfl rfl (by omega) rfl ?_
    refine AOps.nil ?_
    rw [show (2 : Nat) ^ 1 = 2 from rfl, show (2 : Nat) ^ 31 = 2147483648 from rfl, half_or _ _ hx hy]
    have hdig : ((win M lo m).getD (i + 1) 0 * 4294967296 + (win M lo m).getD i 0) / 2 % 4294967296 = V / 2 / 4294967296 ^ i % 4294967296 := by
      rw [half_digit]
      have e1 : (win M lo m).getD i 0 = V / 4294967296 ^ i % 4294967296 := by
        rw [getD_win _ _ _ _ hiN, hME]
        exact (hVd i).resolve_right (by omega)
      have e2 : (win M lo m).getD (i + 1) 0 = V / 4294967296 ^ (i + 1) % 4294967296 := by
        rcases Nat.lt_or_ge (i + 1) m with h | h
        · rw [getD_win _ _ _ _ h, ← Nat.add_assoc, getD_of_drop (drop_succ hd), Nat.add_assoc]
          exact (hVd (i + 1)).resolve_right (by omega)
        · rw [getD_of_ge (by rw [win_length (by omega)]; exact h)]
          have : V < 4294967296 ^ (i + 1) := by
            have := nv_lt (hL.win lo m)
            rw [win_length hlm, ← hV] at this
            exact Nat.lt_of_lt_of_le this (pow_le (by omega))
          rw [Nat.div_eq_of_lt this]
      rw [e1, e2]
    rw [hdig]
    refine AW.region ?_
    refine AOps.run tok 2 _ _ _ _ rfl ?_
    rw [wI64 (by omega) (by omega)]
    refine AOps.nil ?_
    refine ⟨(i + 1, M.set (lo + i) (V / 2 / 4294967296 ^ i % 4294967296)), rfl, ⟨by omega, by simpa using hMl, hMw.set _ (Nat.mod_lt _ (by decide)), by simp only [take_set_ge, ht], by simp only []; rw [← Nat.add_assoc, drop_set_lt, drop_succ hd], fun j hj => ?_⟩, by simp only []; omega⟩
    simp only [] at hj ⊢
    rw [getD_set _ _ _ _ (by omega)]
    split
    · rename_i hji
      have : j = i := by omega
      subst this
      rfl
    · exact he j (by omega)
  · have hiN : i = m := by have := of_decide_eq_false h; omega
    subst hiN
    have hw : win M lo i = dg i (V / 2) := by
      refine ext_getD (by rw [win_length (by omega), dg_length]) (fun j hj => ?_)
      rw [win_length (by omega)] at hj
      rw [getD_win _ _ _ _ hj, he j hj, nv_digit (w32_dg i (V / 2)) j, nv_dg]
      have hlt : V / 2 < 4294967296 ^ i := by
        have := nv_lt (hL.win lo i)
        rw [win_length hlm, ← hV] at this
        omega
      rw [Nat.mod_eq_of_lt hlt]
    have hres : put L lo i (dg i (V / 2)) = M := (eq_put ht hd hw).symm
    have hwv : nv (win M lo i) = V / 2 := by
      rw [hw, nv_dg]
      have := nv_lt (hL.win lo i)
      rw [win_length hlm, ← hV] at this
      exact Nat.mod_eq_of_lt (by omega)
    have hcut := r01_cut_ok M lo i hMw (by omega) (by omega)
    rw [hwv] at hcut
    rw [hres]
    refine AW.exit ?_
    refine AW.seq ?_
    refine AW.region ?_
    refine AOps.run tok 1 _ _ _ _ rfl ?_
    refine AOps.callp tok rfl rfl rfl rfl hcut hm0 (plainWd _) rfl ?_
    refine AOps.run tok 1 _ _ _ _ rfl ?_
    refine AOps.nil ?_
    exact AW.ret ⟨2, ⟨_, _, rfl⟩, 2, rfl, _, rfl, rfl⟩
set_option maxHeartbeats 800000 in
theorem r01_take_ok (L v : List Nat) (lo m : Nat) (hL : W32 L) (hv : W32 v) (hlm : lo + m ≤ L.length) (hm : m ≤ 35184372088830) (hle : nv v ≤ nv (win L lo m)) :
    Mut Tryz.prog 173 141 (L.map wd) lo m [Wd v] ((put L lo m (dg m (nv (win L lo m) - nv v))).map wd) (.val (.tu [])) := by
  refine Mut.intro (n := 31) tok Tryz.func173 rfl rfl rfl (Nat.le_of_ble_eq_true rfl) (by kernel_rfl) (by rw [List.length_map, List.length_map, put_length hlm (dg_length _ _)]) (fun B F0 w0 => ?_)
  refine AW.seq ?_
  refine AW.region ?_
  refine AOps.run tok 1 _ _ _ _ rfl ?_
  refine AOps.nil ?_
  refine AW.seq ?_
  refine AW.region ?_
  refine AOps.run tok 3 _ _ _ _ rfl ?_
  rw [lenWin hlm]
  refine AOps.nil ?_
  refine AW.block ?_
  refine AW.loopS [0, 1, 4, 8, 9] (fun s : Nat × List Nat × Nat => [(0, .wn true 141 (s.2.1.map wd) lo m), (1, .d (Wd v)), (4, .d (dU s.2.2)), (8, .d (dI m)), (9, .d (dI s.1))])
    (fun s => s.1 ≤ m ∧ s.2.1.length = L.length ∧ W32 s.2.1 ∧ s.2.2 ≤ 1 ∧ s.2.1.take lo = L.take lo ∧ s.2.1.drop (lo + s.1) = L.drop (lo + s.1) ∧ nv ((s.2.1.drop lo).take s.1) + nv (v.take s.1) = nv ((L.drop lo).take s.1) + 4294967296 ^ s.1 * s.2.2) (fun s => m - s.1) (0, L, 0) rfl ⟨Nat.zero_le _, rfl, hL, by simp, rfl, rfl, by simp [nv]⟩ (fun (i, M, c) ⟨hi, hMl, hMw, hc, ht, hd, he⟩ => ?_)
  simp only [] at hi hMl hMw hc ht hd he
  refine AW.seq ?_
  refine AW.region ?_
  refine AOps.run tok 1 _ _ _ _ rfl ?_
  refine AOps.nil ?_
  refine AW.seq ?_
  refine AW.cond rfl (fun h => ?_) (fun h => ?_)
  · have hiN : i < m := by have := of_decide_eq_true h; omega
    have hx := hMw.getD (lo + i)
    have hy := hv.getD i
    have hME := getD_of_drop hd
    refine AW.skip ?_
    refine AW.seq ?_
    refine AW.block ?_
    refine AW.seq ?_
    refine AW.region ?_
    refine AOps.run tok 2 _ _ _ _ rfl ?_
    refine AOps.nil ?_
    refine AW.seq ?_
    refine AW.region ?_
    refine AOps.run tok 2 _ _ _ _ rfl ?_
    refine AOps.calls tok rfl rfl rfl rfl (r01_at_win M lo m hMw i) rfl ?_
    rw [getD_win M lo m i hiN]
    refine AOps.run tok 3 _ _ _ _ rfl ?_
    refine AOps.call tok rfl rfl rfl rfl (r01_at_ok v hv i) ?_
    refine AOps.run tok 4 _ _ _ _ rfl ?_
    obtain ⟨hd1, hd2, hd3⟩ := sub_digit hx hy hc
    rw [addB (M.getD (lo + i) 0) hx, subN (4294967296 + M.getD (lo + i) 0) (v.getD i 0) (by omega) (by omega), subN (4294967296 + M.getD (lo + i) 0 - v.getD i 0) c (by omega) (by omega)]
    refine AOps.nil ?_
    obtain ⟨S, hS⟩ : ∃ S, S = 4294967296 + M.getD (lo + i) 0 - v.getD i 0 - c := ⟨_, rfl⟩
    rw [← hS] at hd2 hd3 ⊢
    refine AW.region ?_
    refine AOps.run tok 7 _ _ _ _ rfl ?_
    rw [shrU32, subOne (S / 4294967296) hd2]
    refine AOps.idxw tok rfl rfl rfl rfl (Int.natCast_nonneg i) hiN ?_
    refine AOps.storeV tok (S % 4294967296) rfl rfl rfl (by simp; omega) (cvU32 _) ?_
    refine AOps.run tok 1 _ _ _ _ rfl ?_
    refine AOps.nil ?_
    refine AW.region ?_
    refine AOps.run tok 2 _ _ _ _ rfl ?_
    rw [wI64 (by omega) (by omega)]
    refine AOps.nil ?_
    refine ⟨(i + 1, M.set (lo + i) (S % 4294967296), 1 - S / 4294967296), rfl, ⟨by omega, by simpa using hMl, hMw.set _ (by omega), by show 1 - S / 4294967296 ≤ 1; omega, ?_, ?_, ?_⟩, by simp only []; omega⟩
    · simp only [take_set_ge, ht]
    · simp only []
      rw [← Nat.add_assoc, drop_set_lt, drop_succ hd]
    · simp only []
      rw [nv_win_set (by omega), nv_take_succ (L.drop lo) i, nv_take_succ v i, getD_drop, ← hME, Nat.pow_succ]
      have := congrArg (fun z => 4294967296 ^ i * z) hd3
      simp only [Nat.mul_add] at this
      rw [Nat.mul_assoc]
      omega
  · have hiN : i = m := by have := of_decide_eq_false h; omega
    subst hiN
    have e : nv (win M lo i) + nv (v.take i) = nv (win L lo i) + 4294967296 ^ i * c := he
    have h3 : nv (win M lo i) < 4294967296 ^ i := by have := nv_lt (hMw.win lo i); rwa [win_length (by omega)] at this
    have h1 : nv (win L lo i) < 4294967296 ^ i := by have := nv_lt (hL.win lo i); rwa [win_length (by omega)] at this
    have hbt : nv (v.take i) = nv v := by
      by_cases hlb : i ≤ v.length
      · have h4 := nv_take_drop v i hlb
        rcases Nat.eq_zero_or_pos (nv (v.drop i)) with h | h
        · rw [h4, h]; omega
        · have : 4294967296 ^ i * 1 ≤ 4294967296 ^ i * nv (v.drop i) := Nat.mul_le_mul_left _ h
          omega
      · rw [List.take_of_length_le (by omega)]
    have hc0 : c = 0 := by
      rcases Nat.eq_zero_or_pos c with h | h
      · exact h
      · have : 4294967296 ^ i * 1 ≤ 4294967296 ^ i * c := Nat.mul_le_mul_left _ h
        omega
    have hres : put L lo i (dg i (nv (win L lo i) - nv v)) = M := by
      have hw : win M lo i = dg i (nv (win L lo i) - nv v) := eq_dg (hMw.win lo i) (win_length (by omega)) (by rw [hc0] at e; omega)
      exact (eq_put ht hd hw).symm
    rw [hres]
    refine AW.exit ?_
    exact ⟨⟨lo, i, rfl⟩, rfl, rfl⟩
theorem bl_top {a : List Nat} (ha : W32 a) (na : Nm a) (h0 : a ≠ []) : bl (nv a) = 32 * (a.length - 1) + bl (a.getD (a.length - 1) 0) := by
  have hl : 0 < a.length := List.length_pos_iff.2 h0
  have h1 := nv_pos na h0
  have h2 := nv_at a (a.length - 1) (by omega)
  rw [List.drop_of_length_le (by omega)] at h2
  simp only [nv, Nat.mul_zero, Nat.add_zero] at h2
  have h3 := nv_take_lt ha (a.length - 1)
  have e : (2 : Nat) ^ (32 * (a.length - 1)) = 4294967296 ^ (a.length - 1) := by rw [Nat.pow_mul]
  rw [bl_shift (32 * (a.length - 1)) (nv a) (by rw [e]; exact h1), e, h2, Nat.add_mul_div_left _ _ (pow_pos _), Nat.div_eq_of_lt h3, Nat.zero_add]
set_option maxHeartbeats 800000 in
theorem r01_bits_ok (a : List Nat) (ha : W32 a) (na : Nm a) (hla : a.length ≤ 35184372088830) : Pure Tryz.prog 181 [Wd a] (dI (bl (nv a))) := by
  refine Pure.intro (n := 25) tok Tryz.func181 rfl rfl rfl (Nat.le_of_ble_eq_true rfl) (by kernel_rfl) (fun B F0 w0 => ?_)
  refine AW.seq ?_
  refine AW.region ?_
  refine AOps.run tok 1 _ _ _ _ rfl ?_
  refine AOps.nil ?_
  refine AW.seq ?_
  refine AW.seq ?_
  refine AW.region ?_
  refine AOps.run tok 3 _ _ _ _ rfl ?_
  refine AOps.nil ?_
  refine AW.cond rfl (fun h => ?_) (fun h => ?_)
  · have h0 : a = [] := by simpa using h
    rw [h0, show nv [] = 0 from rfl, bl_zero]
    refine AW.seq ?_
    refine AW.region ?_
    refine AOps.run tok 1 _ _ _ _ rfl ?_
    refine AOps.nil ?_
    exact AW.ret rfl
  · have h0 : a ≠ [] := by simpa using h
    have hl : 0 < a.length := List.length_pos_iff.2 h0
    have hT := ha.getD (a.length - 1)
    have hbl := bl_top ha na h0
    have hb32 := bl_le_of_lt (show a.getD (a.length - 1) 0 < 2 ^ 32 by omega)
    refine AW.skip ?_
    refine AW.seq ?_
    refine AW.region ?_
    refine AOps.run tok 5 _ _ _ _ rfl ?_
    rw [lenWd, wI64 (x := (a.length : Int) - 1) (by omega) (by omega), wI64 (by omega) (by omega), show (32 : Int) * ((a.length : Int) - 1) = ((32 * (a.length - 1) : Nat) : Int) by omega]
    refine AOps.nil ?_
    refine AW.seq ?_
    refine AW.seq ?_
    refine AW.region ?_
    refine AOps.run tok 4 _ _ _ _ rfl ?_
    rw [lenWd, wI64 (x := (a.length : Int) - 1) (by omega) (by omega), show (a.length : Int) - 1 = ((a.length - 1 : Nat) : Int) by omega]
    refine AOps.idx tok (wd (a.getD (a.length - 1) 0)) rfl rfl rfl rfl (Int.natCast_nonneg _) (getWd (by omega)) ?_
    refine AOps.run tok 2 _ _ _ _ rfl ?_
    refine AOps.nil ?_
    refine AW.block ?_
    refine AW.loopS [3, 4] (fun s : Nat × Nat => [(3, .d (dI s.1)), (4, .d (wd s.2))]) (fun s => s.1 + bl s.2 = bl (nv a) ∧ s.2 < 4294967296) (fun s => s.2) (32 * (a.length - 1), a.getD (a.length - 1) 0) rfl ⟨hbl.symm, hT⟩ (fun (k, x) ⟨hk, hx⟩ => ?_)
    simp only [] at hk hx
    refine AW.seq ?_
    refine AW.seq ?_
    refine AW.region ?_
    refine AOps.run tok 2 _ _ _ _ rfl ?_
    refine AOps.nil ?_
    refine AW.cond rfl (fun h => ?_) (fun h => ?_)
    · have hx0 : x ≠ 0 := by have := of_decide_eq_true h; omega
      rw [bl_pos hx0] at hk
      refine AW.skip ?_
      refine AW.seq ?_
      refine AW.block ?_
      refine AW.region ?_
      refine AOps.run tok 3 _ _ _ _ rfl ?_
      rw [wI64 (by omega) (by omega)]
      refine AOps.nil ?_
      refine AW.region ?_
      refine AOps.run tok 3 _ _ _ _ rfl ?_
      rw [shrW x 1 (by decide)]
      refine AOps.nil ?_
      exact ⟨(k + 1, x / 2 ^ 1), rfl, ⟨by simp only [Nat.pow_one]; omega, by simp only [Nat.pow_one]; omega⟩, by simp only [Nat.pow_one]; omega⟩
    · have hx0 : x = 0 := by have := of_decide_eq_false h; omega
      subst hx0
      rw [bl_zero, Nat.add_zero] at hk
      subst hk
      refine AW.exit ?_
      refine AW.seq ?_
      refine AW.region ?_
      refine AOps.run tok 2 _ _ _ _ rfl ?_
      refine AOps.nil ?_
      exact AW.ret rfl
end Lift
namespace Lift
open Go Go.Proofs
theorem and1 (x : Nat) (h : x < 4294967296) : IntKind.u32.wrap ((BitVec.ofInt IntKind.u32.bits (x : Int) &&& BitVec.ofInt IntKind.u32.bits 1).toNat : Int) = ((x % 2 : Nat) : Int) := by
  have hb : IntKind.u32.bits = 32 := rfl
  rw [hb, BitVec.ofInt_natCast, show BitVec.ofInt 32 1 = BitVec.ofNat 32 1 from rfl, BitVec.toNat_and, BitVec.toNat_ofNat, BitVec.toNat_ofNat, Nat.mod_eq_of_lt h, Nat.mod_eq_of_lt (by decide), Nat.and_one_is_mod]
  exact wU32 (by omega) (by omega)
structure OkA (A : List Nat) (x : Nat) : Prop where
  w : W32 A
  len : A.length ≤ 35184372088830
  le : (tw x).length ≤ A.length
  win : win A 0 (tw x).length = tw x
abbrev wnA (A : List Nat) (x : Nat) : AV := .wn false 141 (A.map wd) 0 (tw x).length
theorem dg_tw {v k : Nat} (h : v < 4294967296 ^ k) : (dg k v).take (tw v).length = tw v := by
  rw [dg_take _ _ _ (tw_length h)]
  exact (eq_dg (w32_tw v) rfl (nv_tw v)).symm
theorem OkA.nv {A : List Nat} {x : Nat} (h : OkA A x) : nv (Lift.win A 0 (tw x).length) = x := by rw [h.win, nv_tw]
theorem OkA.trim {a : List Nat} (ha : W32 a) (hl : a.length ≤ 35184372088830) : OkA a (Lift.nv a) := ⟨ha, hl, tw_length_le ha, tw_win ha⟩
theorem OkA.put {A : List Nat} {x v : Nat} (h : OkA A x) (hv : v ≤ x) : OkA (put A 0 (tw x).length (dg (tw x).length v)) v := by
  have hlt : v < 4294967296 ^ (tw x).length := Nat.lt_of_le_of_lt hv (lt_tw_length x)
  have hl : (Lift.put A 0 (tw x).length (dg (tw x).length v)).length = A.length := put_length (by have := h.le; omega) (dg_length _ _)
  have hle := tw_length hlt
  refine ⟨h.w.put (w32_dg _ _) _ _, by rw [hl]; exact h.len, by rw [hl]; have := h.le; omega, ?_⟩
  have hw := win_put (l := A) (lo := 0) (m := (tw x).length) (w := dg (tw x).length v) (by have := h.le; omega) (dg_length _ _)
  rw [Lift.win, List.drop_zero] at hw ⊢
  have : ((Lift.put A 0 (tw x).length (dg (tw x).length v)).take (tw x).length).take (tw v).length = tw v := by rw [hw]; exact dg_tw hlt
  rwa [List.take_take, Nat.min_eq_left hle] at this
theorem OkA.putv {A : List Nat} {x v : Nat} (h : OkA A x) (hv : v ≤ x) : Lift.nv (Lift.win (Lift.put A 0 (tw x).length (dg (tw x).length v)) 0 (tw x).length) = v := by
  rw [win_put (by have := h.le; omega) (dg_length _ _), nv_dg]
  exact Nat.mod_eq_of_lt (Nat.lt_of_le_of_lt hv (lt_tw_length x))
theorem tw_len_pos {x : Nat} (h : 0 < x) : 0 < (tw x).length := List.length_pos_iff.2 (tw_ne (by omega))
theorem OkA.first {A : List Nat} {x : Nat} (h : OkA A x) (h0 : 0 < x) : A.getD 0 0 = x % 4294967296 := by
  have h1 := getD_win A 0 (tw x).length 0 (tw_len_pos h0)
  rw [h.win] at h1
  rw [← h1, nv_digit (w32_tw x) 0, nv_tw]; simp
theorem OkA.even {A : List Nat} {x : Nat} (h : OkA A x) (h0 : 0 < x) : (((A.getD 0 0 % 2 : Nat) : Int) == 0) = decide (x % 2 = 0) := by
  rw [h.first h0, Bool.eq_iff_iff]
  simp
  omega
theorem OkA.halve {A : List Nat} {x : Nat} (h : OkA A x) (h0 : 0 < x) : Mut Tryz.prog 172 141 (A.map wd) 0 (tw x).length [] ((Lift.put A 0 (tw x).length (dg (tw x).length (x / 2))).map wd) (.part 0 (tw (x / 2)).length) := by
  have := r01_halve_ok A 0 (tw x).length h.w (by have := h.le; omega) (by have := h.le; have := h.len; omega) (tw_len_pos h0)
  rwa [h.nv] at this
theorem OkA.take {A B : List Nat} {x y : Nat} (h : OkA A x) (k : OkA B y) (hle : y ≤ x) : Mut Tryz.prog 173 141 (A.map wd) 0 (tw x).length [.sl 1 (((B.map wd).drop 0).take (tw y).length)] ((Lift.put A 0 (tw x).length (dg (tw x).length (x - y))).map wd) (.val (.tu [])) := by
  have := r01_take_ok A (tw y) 0 (tw x).length h.w (w32_tw y) (by have := h.le; omega) (by have := h.le; have := h.len; omega) (by rw [h.nv, nv_tw]; exact hle)
  rw [h.nv, nv_tw] at this
  rw [winMap, k.win]
  exact this
theorem OkA.cut {A : List Nat} {x v : Nat} (h : OkA A x) (hv : v ≤ x) : Mut Tryz.prog 174 141 ((Lift.put A 0 (tw x).length (dg (tw x).length v)).map wd) 0 (tw x).length [] ((Lift.put A 0 (tw x).length (dg (tw x).length v)).map wd) (.part 0 (tw v).length) := by
  have hl : (Lift.put A 0 (tw x).length (dg (tw x).length v)).length = A.length := put_length (by have := h.le; omega) (dg_length _ _)
  have := r01_cut_ok (Lift.put A 0 (tw x).length (dg (tw x).length v)) 0 (tw x).length (h.w.put (w32_dg _ _) _ _) (by rw [hl]; have := h.le; omega) (by have := h.le; have := h.len; omega)
  rwa [h.putv hv] at this
theorem OkA.cmp {A B : List Nat} {x y : Nat} (h : OkA A x) (k : OkA B y) : Pure Tryz.prog 147 [.sl 1 (((A.map wd).drop 0).take (tw x).length), .sl 1 (((B.map wd).drop 0).take (tw y).length)] (dI (cmpN x y)) := by
  rw [winMap, winMap, h.win, k.win]
  have := r01_compare_ok (tw x) (tw y) (w32_tw x) (w32_tw y) (by have := h.le; have := h.len; omega) (by have := k.le; have := k.len; omega)
  rwa [nv_tw, nv_tw] at this
theorem cop2 {y : Nat} (h : y % 2 = 1) : Nat.Coprime 2 y := by
  rw [Nat.Coprime, Nat.gcd_rec, h]
  decide
theorem gcd_half_l {x y : Nat} (hx : x % 2 = 0) (hy : y % 2 = 1) : Nat.gcd (x / 2) y = Nat.gcd x y := by
  have : x = 2 * (x / 2) := by omega
  conv => rhs; rw [this]
  exact (Nat.Coprime.gcd_mul_left_cancel (x / 2) (cop2 hy)).symm
theorem gcd_half_r {x y : Nat} (hx : x % 2 = 1) (hy : y % 2 = 0) : Nat.gcd x (y / 2) = Nat.gcd x y := by
  rw [Nat.gcd_comm, gcd_half_l hy hx, Nat.gcd_comm]
theorem gcd_half_b {x y : Nat} (hx : x % 2 = 0) (hy : y % 2 = 0) : Nat.gcd x y = 2 * Nat.gcd (x / 2) (y / 2) := by
  have e1 : x = 2 * (x / 2) := by omega
  have e2 : y = 2 * (y / 2) := by omega
  conv => lhs; rw [e1, e2]
  exact Nat.gcd_mul_left 2 _ _
theorem gcd_sub {x y : Nat} (h : y ≤ x) : Nat.gcd (x - y) y = Nat.gcd x y := by
  have e : x = (x - y) + y := by omega
  conv => rhs; rw [e]
  rw [Nat.gcd_comm, Nat.gcd_comm (x - y + y)]
  exact (Nat.gcd_add_self_right y (x - y)).symm
set_option maxHeartbeats 3200000 in
theorem r01_gcd_ok (a b : List Nat) (ha : W32 a) (hb : W32 b) (hla : a.length ≤ 35184372088829) (hlb : b.length ≤ 35184372088829) : Pure Tryz.prog 150 [Wd a, Wd b] (Wd (tw (Nat.gcd (nv a) (nv b)))) := by
  refine Pure.intro (n := 72) tok Tryz.func150 rfl rfl rfl (Nat.le_of_ble_eq_true rfl) (by kernel_rfl) (fun B F0 w0 => ?_)
  have ka := OkA.trim ha (by omega)
  have kb := OkA.trim hb (by omega)
  obtain ⟨X, hX⟩ : ∃ X, X = nv a := ⟨_, rfl⟩
  obtain ⟨Y, hY⟩ : ∃ Y, Y = nv b := ⟨_, rfl⟩
  have hta := r01_trim_o a ha (by omega)
  have htb := r01_trim_o b hb (by omega)
  have hXl := nv_lt ha
  rw [← hX] at ka hta hXl ⊢
  rw [← hY] at kb htb ⊢
  refine AW.seq ?_
  refine AW.region ?_
  refine AOps.run tok 1 _ _ _ _ rfl ?_
  refine AOps.nil ?_
  refine AW.seq ?_
  refine AW.region ?_
  refine AOps.run tok 1 _ _ _ _ rfl ?_
  refine AOps.callo tok rfl rfl rfl rfl hta (plainWd _) ?_
  refine AOps.run tok 1 _ _ _ _ rfl ?_
  refine AOps.callo tok rfl rfl rfl rfl htb (plainWd _) ?_
  refine AOps.run tok 2 _ _ _ _ rfl ?_
  refine AOps.nil ?_
  refine AW.norm [0, 1] [(0, wnA a X), (1, wnA b Y)] rfl ?_
  have hlen0 : ∀ (A : List Nat) (x : Nat), OkA A x → (((((A.map wd).drop 0).take (tw x).length).length : Int) == 0) = decide (x = 0) := fun A x h => by
    rw [lenWin (by have := h.le; omega), Bool.eq_iff_iff]
    have := nv_zero (nm_tw x)
    rw [nv_tw] at this
    rw [decide_eq_true_eq, this, beq_iff_eq]
    constructor
    · intro h; exact List.eq_nil_of_length_eq_zero (by omega)
    · intro h; rw [h]; rfl
  have hdat : ∀ (A : List Nat) (x : Nat), OkA A x → D.sl 1 (((A.map wd).drop 0).take (tw x).length) = Wd (tw x) := fun A x h => by rw [winMap, h.win]; rfl
  refine AW.seq ?_
  refine AW.seq ?_
  refine AW.region ?_
  refine AOps.run tok 3 _ _ _ _ rfl ?_
  rw [hlen0 a X ka]
  refine AOps.nil ?_
  refine AW.cond rfl (fun h => ?_) (fun h => ?_)
  · have h0 := of_decide_eq_true h
    rw [h0, Nat.gcd_zero_left, ← hdat b Y kb]
    refine AW.seq ?_
    refine AW.region ?_
    refine AOps.run tok 2 _ _ _ _ rfl ?_
    refine AOps.nil ?_
    exact AW.ret rfl
  have hX0 : X ≠ 0 := of_decide_eq_false h
  refine AW.skip ?_
  refine AW.seq ?_
  refine AW.seq ?_
  refine AW.region ?_
  refine AOps.run tok 3 _ _ _ _ rfl ?_
  rw [hlen0 b Y kb]
  refine AOps.nil ?_
  refine AW.cond rfl (fun h => ?_) (fun h => ?_)
  · have h0 := of_decide_eq_true h
    rw [h0, Nat.gcd_zero_right, ← hdat a X ka]
    refine AW.seq ?_
    refine AW.region ?_
    refine AOps.run tok 2 _ _ _ _ rfl ?_
    refine AOps.nil ?_
    exact AW.ret rfl
  have hY0 : Y ≠ 0 := of_decide_eq_false h
  obtain ⟨G, hG⟩ : ∃ G, G = Nat.gcd X Y := ⟨_, rfl⟩
  rw [← hG]
  have hGX : G ≤ X := by rw [hG]; exact Nat.gcd_le_left Y (by omega)
  refine AW.skip ?_
  refine AW.seq ?_
  refine AW.region ?_
  refine AOps.run tok 1 _ _ _ _ rfl ?_
  refine AOps.nil ?_
  refine AW.cut [0, 1, 5] (fun s : (List Nat × Nat) × (List Nat × Nat) × Nat => [(0, wnA s.1.1 s.1.2), (1, wnA s.2.1.1 s.2.1.2), (5, .d (dI s.2.2))])
    (fun s => OkA s.1.1 s.1.2 ∧ OkA s.2.1.1 s.2.1.2 ∧ 0 < s.1.2 ∧ 0 < s.2.1.2 ∧ Nat.gcd s.1.2 s.2.1.2 * 2 ^ s.2.2 = G ∧ s.2.2 ≤ 32 * a.length ∧ (s.1.2 % 2 = 1 ∨ s.2.1.2 % 2 = 1)) ?_ (fun ⟨⟨A1, x1⟩, ⟨B1, y1⟩, k⟩ ⟨hA1, hB1, hx1, hy1, hg1, hk1, ho1⟩ => ?_)
  · refine AW.block ?_
    refine AW.loopS [0, 1, 5] (fun s : (List Nat × Nat) × (List Nat × Nat) × Nat => [(0, wnA s.1.1 s.1.2), (1, wnA s.2.1.1 s.2.1.2), (5, .d (dI s.2.2))])
      (fun s => OkA s.1.1 s.1.2 ∧ OkA s.2.1.1 s.2.1.2 ∧ 0 < s.1.2 ∧ 0 < s.2.1.2 ∧ Nat.gcd s.1.2 s.2.1.2 * 2 ^ s.2.2 = G ∧ s.1.2 * 2 ^ s.2.2 = X) (fun s => s.1.2) ((a, X), (b, Y), 0) rfl ⟨ka, kb, by simp only []; omega, by simp only []; omega, by simp [hG], by simp⟩ (fun ⟨⟨A, x⟩, ⟨B, y⟩, k⟩ ⟨hA, hB, hx, hy, hg, hxk⟩ => ?_)
    simp only [] at hA hB hx hy hg hxk
    have hkl : k < 32 * a.length := by
      have h1 : 2 ^ k ≤ X := by rw [← hxk]; exact Nat.le_mul_of_pos_left _ hx
      have e : (4294967296 : Nat) ^ a.length = 2 ^ (32 * a.length) := by rw [Nat.pow_mul]
      rw [e] at hXl
      exact (Nat.pow_lt_pow_iff_right (by decide : 1 < 2)).1 (Nat.lt_of_le_of_lt h1 hXl)
    refine AW.seq ?_
    refine AW.cut [0, 1, 5, 29] (fun c : Bool => [(0, wnA A x), (1, wnA B y), (5, .d (dI k)), (29, .d (dB c))]) (fun c => c = decide (x % 2 = 0 ∧ y % 2 = 0)) ?_ (fun c hc => ?_)
    · refine AW.region ?_
      refine AOps.run tok 1 _ _ _ _ rfl ?_
      refine AOps.idxw tok rfl rfl rfl rfl (Int.le_refl 0) (tw_len_pos hx) ?_
      refine AOps.loadel tok (wd (A.getD 0 0)) rfl rfl rfl rfl (getWd (by have := hA.le; have := tw_len_pos hx; simp; omega)) rfl ?_
      refine AOps.run tok 3 _ _ _ _ rfl ?_
      rw [and1 _ (hA.w.getD 0), hA.even hx]
      refine AOps.split (t := 23) rfl (fun h => ?_) (fun h => ?_)
      · have hxe := of_decide_eq_true h
        refine AOps.run tok 1 _ _ _ _ rfl ?_
        refine AOps.idxw tok rfl rfl rfl rfl (Int.le_refl 0) (tw_len_pos hy) ?_
        refine AOps.loadel tok (wd (B.getD 0 0)) rfl rfl rfl rfl (getWd (by have := hB.le; have := tw_len_pos hy; simp; omega)) rfl ?_
        refine AOps.run tok 3 _ _ _ _ rfl ?_
        rw [and1 _ (hB.w.getD 0), hB.even hy]
        refine AOps.nil ?_
        exact ⟨_, rfl, by show decide _ = decide _; rw [decide_eq_decide]; exact ⟨fun h => ⟨hxe, h⟩, fun h => h.2⟩⟩
      · have hxe := of_decide_eq_false h
        refine AOps.run tok 6 _ _ _ _ rfl ?_
        refine AOps.nil ?_
        exact ⟨false, rfl, (decide_eq_false (fun h => hxe h.1)).symm⟩
    · refine AW.cond rfl (fun h => ?_) (fun h => ?_)
      · rw [h] at hc
        obtain ⟨hxe, hye⟩ := of_decide_eq_true hc.symm
        refine AW.skip ?_
        refine AW.block ?_
        refine AW.seq ?_
        refine AW.region ?_
        refine AOps.run tok 1 _ _ _ _ rfl ?_
        refine AOps.callp tok rfl rfl rfl rfl (hA.halve hx) (tw_len_pos hx) (plainWd _) rfl ?_
        refine AOps.run tok 1 _ _ _ _ rfl ?_
        refine AOps.callp tok rfl rfl rfl rfl (hB.halve hy) (tw_len_pos hy) (plainWd _) rfl ?_
        refine AOps.run tok 2 _ _ _ _ rfl ?_
        refine AOps.nil ?_
        refine AW.region ?_
        refine AOps.run tok 3 _ _ _ _ rfl ?_
        rw [wI64 (by omega) (by omega)]
        refine AOps.nil ?_
        refine ⟨((_, x / 2), (_, y / 2), k + 1), rfl, ⟨hA.put (by omega), hB.put (by omega), by simp only []; omega, by simp only []; omega, ?_, ?_⟩, by simp only []; omega⟩
        · simp only []
          rw [← hg, gcd_half_b hxe hye, Nat.pow_succ]; ac_rfl
        · simp only []
          rw [← hxk, Nat.pow_succ, Nat.mul_comm (2 ^ k), ← Nat.mul_assoc, show x / 2 * 2 = x by omega]
      · rw [h] at hc
        have hne := of_decide_eq_false hc.symm
        refine AW.exit ?_
        exact ⟨((A, x), (B, y), k), rfl, ⟨hA, hB, hx, hy, hg, by simp only []; omega, by simp only []; omega⟩⟩
  simp only [] at hA1 hB1 hx1 hy1 hg1 hk1 ho1
  obtain ⟨g0, hg0⟩ : ∃ g0, g0 = Nat.gcd x1 y1 := ⟨_, rfl⟩
  rw [← hg0] at hg1
  refine AW.cut [1, 5] (fun s : List Nat × Nat => [(1, wnA s.1 s.2), (5, .d (dI k))]) (fun s => OkA s.1 s.2 ∧ s.2 = g0) ?_ (fun ⟨B2, y2⟩ ⟨hB2, hy2⟩ => ?_)
  · refine AW.block ?_
    refine AW.loopS [0, 1, 5] (fun s : (List Nat × Nat) × (List Nat × Nat) => [(0, wnA s.1.1 s.1.2), (1, wnA s.2.1 s.2.2), (5, .d (dI k))])
      (fun s => OkA s.1.1 s.1.2 ∧ OkA s.2.1 s.2.2 ∧ 0 < s.2.2 ∧ Nat.gcd s.1.2 s.2.2 = g0 ∧ (s.1.2 = 0 ∨ s.1.2 % 2 = 1 ∨ s.2.2 % 2 = 1)) (fun s => s.1.2 + s.2.2) ((A1, x1), (B1, y1)) rfl ⟨hA1, hB1, hy1, hg0.symm, .inr ho1⟩ (fun ⟨⟨A, x⟩, ⟨B, y⟩⟩ ⟨hA, hB, hy, hg, ho⟩ => ?_)
    simp only [] at hA hB hy hg ho
    refine AW.seq ?_
    refine AW.seq ?_
    refine AW.region ?_
    refine AOps.run tok 3 _ _ _ _ rfl ?_
    rw [lenWin (show 0 + (tw x).length ≤ A.length by have := hA.le; omega)]
    refine AOps.nil ?_
    refine AW.cond rfl (fun h => ?_) (fun h => ?_)
    · have hx : 0 < x := by
        rcases Nat.eq_zero_or_pos x with h0 | h0
        · subst h0; rw [tw_zero] at h; simp at h
        · exact h0
      have ho' : x % 2 = 1 ∨ y % 2 = 1 := ho.resolve_left (by omega)
      refine AW.skip ?_
      refine AW.block ?_
      refine AW.cut [0, 1, 5] (fun s : List Nat × Nat => [(0, wnA s.1 s.2), (1, wnA B y), (5, .d (dI k))]) (fun s => OkA s.1 s.2 ∧ s.2 % 2 = 1 ∧ s.2 ≤ x ∧ Nat.gcd s.2 y = g0) ?_ (fun ⟨A', x'⟩ ⟨hA', hxo, hxl, hg'⟩ => ?_)
      · refine AW.block ?_
        refine AW.loopS [0, 1, 5] (fun s : List Nat × Nat => [(0, wnA s.1 s.2), (1, wnA B y), (5, .d (dI k))]) (fun s => OkA s.1 s.2 ∧ 0 < s.2 ∧ s.2 ≤ x ∧ Nat.gcd s.2 y = g0 ∧ (s.2 % 2 = 1 ∨ y % 2 = 1)) (fun s => s.2) (A, x) rfl ⟨hA, hx, Nat.le_refl _, hg, ho'⟩ (fun ⟨A', x'⟩ ⟨hA', hx', hxl, hg', ho2⟩ => ?_)
        simp only [] at hA' hx' hxl hg' ho2
        refine AW.seq ?_
        refine AW.seq ?_
        refine AW.region ?_
        refine AOps.run tok 1 _ _ _ _ rfl ?_
        refine AOps.idxw tok rfl rfl rfl rfl (Int.le_refl 0) (tw_len_pos hx') ?_
        refine AOps.loadel tok (wd (A'.getD 0 0)) rfl rfl rfl rfl (getWd (by have := hA'.le; have := tw_len_pos hx'; simp; omega)) rfl ?_
        refine AOps.run tok 2 _ _ _ _ rfl ?_
        rw [and1 _ (hA'.w.getD 0), hA'.even hx']
        refine AOps.nil ?_
        refine AW.cond rfl (fun h => ?_) (fun h => ?_)
        · have hxe := of_decide_eq_true h
          refine AW.skip ?_
          refine AW.block ?_
          refine AW.region ?_
          refine AOps.run tok 1 _ _ _ _ rfl ?_
          refine AOps.callp tok rfl rfl rfl rfl (hA'.halve hx') (tw_len_pos hx') (plainWd _) rfl ?_
          refine AOps.run tok 1 _ _ _ _ rfl ?_
          refine AOps.nil ?_
          exact ⟨(_, x' / 2), rfl, ⟨hA'.put (by omega), by simp only []; omega, by simp only []; omega, by simp only []; rw [gcd_half_l hxe (by omega), hg'], by simp only []; omega⟩, by simp only []; omega⟩
        · have hxo := of_decide_eq_false h
          refine AW.exit ?_
          exact ⟨(A', x'), rfl, ⟨hA', by simp only []; omega, hxl, hg'⟩⟩
      simp only [] at hA' hxo hxl hg'
      refine AW.cut [0, 1, 5] (fun s : List Nat × Nat => [(0, wnA A' x'), (1, wnA s.1 s.2), (5, .d (dI k))]) (fun s => OkA s.1 s.2 ∧ s.2 % 2 = 1 ∧ s.2 ≤ y ∧ Nat.gcd x' s.2 = g0) ?_ (fun ⟨B', y'⟩ ⟨hB', hyo, hyl, hg2⟩ => ?_)
      · refine AW.block ?_
        refine AW.loopS [0, 1, 5] (fun s : List Nat × Nat => [(0, wnA A' x'), (1, wnA s.1 s.2), (5, .d (dI k))]) (fun s => OkA s.1 s.2 ∧ 0 < s.2 ∧ s.2 ≤ y ∧ Nat.gcd x' s.2 = g0) (fun s => s.2) (B, y) rfl ⟨hB, hy, Nat.le_refl _, hg'⟩ (fun ⟨B', y'⟩ ⟨hB', hy', hyl, hg2⟩ => ?_)
        simp only [] at hB' hy' hyl hg2
        refine AW.seq ?_
        refine AW.seq ?_
        refine AW.region ?_
        refine AOps.run tok 1 _ _ _ _ rfl ?_
        refine AOps.idxw tok rfl rfl rfl rfl (Int.le_refl 0) (tw_len_pos hy') ?_
        refine AOps.loadel tok (wd (B'.getD 0 0)) rfl rfl rfl rfl (getWd (by have := hB'.le; have := tw_len_pos hy'; simp; omega)) rfl ?_
        refine AOps.run tok 2 _ _ _ _ rfl ?_
        rw [and1 _ (hB'.w.getD 0), hB'.even hy']
        refine AOps.nil ?_
        refine AW.cond rfl (fun h => ?_) (fun h => ?_)
        · have hye := of_decide_eq_true h
          refine AW.skip ?_
          refine AW.block ?_
          refine AW.region ?_
          refine AOps.run tok 1 _ _ _ _ rfl ?_
          refine AOps.callp tok rfl rfl rfl rfl (hB'.halve hy') (tw_len_pos hy') (plainWd _) rfl ?_
          refine AOps.run tok 1 _ _ _ _ rfl ?_
          refine AOps.nil ?_
          exact ⟨(_, y' / 2), rfl, ⟨hB'.put (by omega), by simp only []; omega, by simp only []; omega, by simp only []; rw [gcd_half_r hxo hye, hg2]⟩, by simp only []; omega⟩
        · have hyo := of_decide_eq_false h
          refine AW.exit ?_
          exact ⟨(B', y'), rfl, ⟨hB', by simp only []; omega, hyl, hg2⟩⟩
      simp only [] at hB' hyo hyl hg2
      refine AW.cut [0, 1, 5] (fun s : (List Nat × Nat) × (List Nat × Nat) => [(0, wnA s.1.1 s.1.2), (1, wnA s.2.1 s.2.2), (5, .d (dI k))]) (fun s => OkA s.1.1 s.1.2 ∧ OkA s.2.1 s.2.2 ∧ s.2.2 ≤ s.1.2 ∧ s.1.2 % 2 = 1 ∧ s.2.2 % 2 = 1 ∧ Nat.gcd s.1.2 s.2.2 = g0 ∧ s.1.2 + s.2.2 ≤ x + y) ?_ (fun ⟨⟨A3, x3⟩, ⟨B3, y3⟩⟩ ⟨hA3, hB3, hle, hx3, hy3, hg3, hsum⟩ => ?_)
      · refine AW.seq ?_
        refine AW.region ?_
        refine AOps.run tok 2 _ _ _ _ rfl ?_
        refine AOps.calls tok rfl rfl rfl rfl (hA'.cmp hB') rfl ?_
        refine AOps.run tok 1 _ _ _ _ rfl ?_
        refine AOps.nil ?_
        refine AW.cond rfl (fun h => ?_) (fun h => ?_)
        · have hlt : x' < y' := by
            have := of_decide_eq_true h
            unfold cmpN at this
            split at this
            · assumption
            · split at this <;> omega
          refine AW.region ?_
          refine AOps.run tok 2 _ _ _ _ rfl ?_
          refine AOps.rehome 1 57 rfl rfl rfl rfl ?_
          refine AOps.rehome 0 58 rfl rfl rfl rfl ?_
          refine AOps.run tok 2 _ _ _ _ rfl ?_
          refine AOps.nil ?_
          exact ⟨((B', y'), (A', x')), rfl, ⟨hB', hA', by simp only []; omega, hyo, hxo, by simp only []; rw [Nat.gcd_comm, hg2], by simp only []; omega⟩⟩
        · have hlt : y' ≤ x' := by
            have := of_decide_eq_false h
            unfold cmpN at this
            split at this
            · omega
            · omega
          refine AW.skip ?_
          exact ⟨((A', x'), (B', y')), rfl, ⟨hA', hB', hlt, hxo, hyo, hg2, by simp only []; omega⟩⟩
      simp only [] at hA3 hB3 hle hx3 hy3 hg3 hsum
      have hx3p : 0 < x3 := by omega
      refine AW.seq ?_
      refine AW.region ?_
      refine AOps.run tok 2 _ _ _ _ rfl ?_
      refine AOps.callm tok rfl rfl rfl rfl (hA3.take hB3 hle) (tw_len_pos hx3p) (plainWd _) rfl ?_
      refine AOps.nil ?_
      refine AW.region ?_
      refine AOps.run tok 1 _ _ _ _ rfl ?_
      refine AOps.callp tok rfl rfl rfl rfl (hA3.cut (v := x3 - y3) (by omega)) (tw_len_pos hx3p) (plainWd _) rfl ?_
      refine AOps.run tok 1 _ _ _ _ rfl ?_
      refine AOps.nil ?_
      exact ⟨((_, x3 - y3), (B3, y3)), rfl, ⟨hA3.put (by omega), hB3, by simp only []; omega, by simp only []; rw [gcd_sub hle, hg3], .inr (.inr hy3)⟩, by simp only []; omega⟩
    · have hx : x = 0 := by
        rcases Nat.eq_zero_or_pos x with h0 | h0
        · exact h0
        · have := tw_len_pos h0
          have := of_decide_eq_false h
          omega
      subst hx
      rw [Nat.gcd_zero_left] at hg
      refine AW.exit ?_
      exact ⟨(B, y), rfl, ⟨hB, hg⟩⟩
  simp only [] at hB2 hy2
  have hgy := hg1
  rw [← hy2] at hgy
  have hlz : ∀ j, j ≤ k → (tw (y2 * 2 ^ j)).length ≤ a.length := fun j hj => tw_length (by
    have : 2 ^ j ≤ 2 ^ k := Nat.pow_le_pow_right (by decide) hj
    have : y2 * 2 ^ j ≤ y2 * 2 ^ k := Nat.mul_le_mul_left _ this
    omega)
  refine AW.frzw tok 1 rfl rfl ?_
  rw [show D.sl (TI.size ⟨1, 4, false, [.v (.int .u32 0)], [], 0, 2, .u32⟩) (((B2.map wd).drop 0).take (tw y2).length) = Wd (tw y2) from hdat B2 y2 hB2]
  refine AW.seq ?_
  refine AW.seq ?_
  refine AW.region ?_
  refine AOps.run tok 2 _ _ _ _ rfl ?_
  refine AOps.nil ?_
  refine AW.block ?_
  refine AW.loopS [1, 64, 65] (fun s : Nat => [(1, .d (Wd (tw (y2 * 2 ^ s)))), (64, .d (dI k)), (65, .d (dI s))]) (fun s => s ≤ k) (fun s => k - s) 0 (by rw [Nat.pow_zero, Nat.mul_one]; rfl) (Nat.zero_le _) (fun j hj => ?_)
  refine AW.seq ?_
  refine AW.region ?_
  refine AOps.run tok 1 _ _ _ _ rfl ?_
  refine AOps.nil ?_
  refine AW.seq ?_
  refine AW.cond rfl (fun h => ?_) (fun h => ?_)
  · have hjk : j < k := by have := of_decide_eq_true h; omega
    have hl := hlz j hj
    have hplus := r01_plus_ok (tw (y2 * 2 ^ j)) (tw (y2 * 2 ^ j)) (w32_tw _) (w32_tw _) (by omega) (by omega)
    rw [nv_tw, show y2 * 2 ^ j + y2 * 2 ^ j = y2 * 2 ^ (j + 1) by rw [Nat.pow_succ, ← Nat.mul_assoc]; omega] at hplus
    refine AW.skip ?_
    refine AW.seq ?_
    refine AW.block ?_
    refine AW.region ?_
    refine AOps.run tok 2 _ _ _ _ rfl ?_
    refine AOps.call tok rfl rfl rfl rfl hplus ?_
    refine AOps.run tok 1 _ _ _ _ rfl ?_
    refine AOps.nil ?_
    refine AW.region ?_
    refine AOps.run tok 2 _ _ _ _ rfl ?_
    rw [wI64 (by omega) (by omega)]
    refine AOps.nil ?_
    exact ⟨j + 1, rfl, hjk, by omega⟩
  · have hjk : j = k := by have := of_decide_eq_false h; omega
    subst hjk
    refine AW.exit ?_
    refine AW.seq ?_
    refine AW.region ?_
    refine AOps.run tok 2 _ _ _ _ rfl ?_
    refine AOps.nil ?_
    rw [← hgy]
    exact AW.ret rfl
end Lift
namespace Lift
open Go Go.Proofs
theorem divIq (i c : Nat) (hc : 0 < c) (h : i ≤ 9223372036854775807) : divV true .i64 (i : Int) (c : Int) = .int .i64 ((i / c : Nat) : Int) := by
  have e : ((i : Int).tdiv (c : Int)) = ((i / c : Nat) : Int) := rfl
  have : i / c ≤ i := Nat.div_le_self i c
  generalize i / c = q at e this ⊢
  simp only [divV, e, wI64 (x := (q : Int)) (by omega) (by omega)]
theorem divIr (i c : Nat) : divV false .i64 (i : Int) (c : Int) = .int .i64 ((i % c : Nat) : Int) := rfl
theorem bit_of (A i : Nat) : A / 4294967296 ^ (i / 32) % 4294967296 / 2 ^ (i % 32) % 2 = A / 2 ^ i % 2 := by
  have e : (2 : Nat) ^ i = 4294967296 ^ (i / 32) * 2 ^ (i % 32) := by
    rw [show (4294967296 : Nat) = 2 ^ 32 from rfl, ← Nat.pow_mul, ← Nat.pow_add]; congr 1; omega
  rw [e, ← Nat.div_div_eq_div_mul]
  generalize A / 4294967296 ^ (i / 32) = w
  have h32 : (4294967296 : Nat) = 2 ^ (i % 32) * (2 * 2 ^ (31 - i % 32)) := by
    rw [show 2 * 2 ^ (31 - i % 32) = 2 ^ (32 - i % 32) by rw [← Nat.pow_succ']; congr 1; omega, ← Nat.pow_add, show i % 32 + (32 - i % 32) = 32 by omega]
  have h1 : w = 4294967296 * (w / 4294967296) + w % 4294967296 := by omega
  conv => rhs; rw [h1, h32, Nat.mul_assoc, Nat.mul_add_div (Nat.pow_pos (by decide)), Nat.mul_assoc, Nat.mul_add_mod, ← h32]
theorem dbl_digit {x c : Nat} (hx : x < 4294967296) (hc : c ≤ 1) : (x * 2 % 4294967296 ||| c) = x * 2 % 4294967296 + c ∧ x * 2 % 4294967296 + c < 4294967296 ∧ x * 2 % 4294967296 + c + 4294967296 * (x / 2147483648) = 2 * x + c := by
  have h := or_add (x % 2147483648) 1 c (by omega)
  rw [show x % 2147483648 * 2 ^ 1 = x * 2 % 4294967296 by omega] at h
  exact ⟨h, by omega, by omega⟩
theorem set_bit {q : List Nat} {i m : Nat} (hw : W32 q) (hq : nv q = 2 ^ (i + 1) * m) (hi : i / 32 < q.length) :
    (q.getD (i / 32) 0 ||| 2 ^ (i % 32)) = q.getD (i / 32) 0 + 2 ^ (i % 32) ∧ q.getD (i / 32) 0 + 2 ^ (i % 32) < 4294967296 ∧ nv (q.set (i / 32) (q.getD (i / 32) 0 + 2 ^ (i % 32))) = nv q + 2 ^ i := by
  have e : (2 : Nat) ^ i = 4294967296 ^ (i / 32) * 2 ^ (i % 32) := by
    rw [show (4294967296 : Nat) = 2 ^ 32 from rfl, ← Nat.pow_mul, ← Nat.pow_add]; congr 1; omega
  have hd := nv_digit hw (i / 32)
  have hd2 : nv q / 4294967296 ^ (i / 32) = 2 ^ (i % 32 + 1) * m := by
    rw [hq, Nat.pow_succ, e, show 4294967296 ^ (i / 32) * 2 ^ (i % 32) * 2 * m = 4294967296 ^ (i / 32) * (2 ^ (i % 32 + 1) * m) by rw [Nat.pow_succ]; ac_rfl]
    exact Nat.mul_div_cancel_left _ (pow_pos _)
  have h32 : (4294967296 : Nat) = 2 ^ (i % 32 + 1) * 2 ^ (31 - i % 32) := by
    rw [← Nat.pow_add, show i % 32 + 1 + (31 - i % 32) = 32 by omega]
  have hdig : q.getD (i / 32) 0 = 2 ^ (i % 32 + 1) * (m % 2 ^ (31 - i % 32)) := by
    rw [hd, hd2]
    conv => lhs; rw [h32]
    exact Nat.mul_mod_mul_left _ _ _
  have hml : m % 2 ^ (31 - i % 32) + 1 ≤ 2 ^ (31 - i % 32) := Nat.mod_lt _ (Nat.pow_pos (by decide))
  have hmm : 2 ^ (i % 32 + 1) * (m % 2 ^ (31 - i % 32) + 1) ≤ 2 ^ (i % 32 + 1) * 2 ^ (31 - i % 32) := Nat.mul_le_mul_left _ hml
  rw [← h32, Nat.mul_add, Nat.mul_one, ← hdig] at hmm
  have hp : (2 : Nat) ^ (i % 32 + 1) = 2 ^ (i % 32) * 2 := Nat.pow_succ ..
  have hp0 : 0 < (2 : Nat) ^ (i % 32) := Nat.pow_pos (by decide)
  have hlt : q.getD (i / 32) 0 + 2 ^ (i % 32) < 4294967296 := by omega
  refine ⟨?_, hlt, ?_⟩
  · rw [hdig, Nat.mul_comm]
    exact or_add _ _ _ (by omega)
  · have h1 := nv_set_add (l := q) (i := i / 32) (x := q.getD (i / 32) 0 + 2 ^ (i % 32)) hi
    rw [Nat.mul_add, ← e] at h1
    omega
theorem divmod_add {n V Q R : Nat} (h : n = V * Q + R) (h1 : V ≤ R) (h2 : R < V + V) : n / V = Q + 1 ∧ n % V = R - V := by
  have e : n = V * (Q + 1) + (R - V) := by rw [h, Nat.mul_add, Nat.mul_one]; omega
  rw [e, Nat.mul_add_div (by omega), Nat.mul_add_mod, Nat.div_eq_of_lt (by omega), Nat.mod_eq_of_lt (by omega)]
  exact ⟨rfl, rfl⟩
set_option maxHeartbeats 1600000 in
theorem r01_divide_ok (a b : List Nat) (ha : W32 a) (hb : W32 b) (na : Nm a) (hla : a.length ≤ 50000000) (hlb : b.length ≤ 50000000) (hb0 : nv b ≠ 0) : Pure Tryz.prog 163 [Wd a, Wd b] (.tu [Wd (tw (nv a / nv b)), Wd (tw (nv a % nv b))]) := by
  refine Pure.intro (n := 76) tok Tryz.func163 rfl rfl rfl (Nat.le_of_ble_eq_true rfl) (by kernel_rfl) (fun B F0 w0 => ?_)
  obtain ⟨V, hV⟩ : ∃ V, V = nv b := ⟨_, rfl⟩
  obtain ⟨A, hA⟩ : ∃ A, A = nv a := ⟨_, rfl⟩
  have hVl := nv_lt hb
  have hAl := nv_lt ha
  have hbits := r01_bits_ok a ha na (by omega)
  rw [← hV] at hb0 hVl ⊢
  rw [← hA] at hAl hbits ⊢
  have hbl : bl A ≤ 32 * a.length := bl_le_of_lt (by rw [Nat.pow_mul]; exact hAl)
  have hdA : ∀ j, a.getD j 0 = A / 4294967296 ^ j % 4294967296 := fun j => by rw [hA]; exact nv_digit ha j
  refine AW.seq ?_
  refine AW.region ?_
  refine AOps.run tok 2 _ _ _ _ rfl ?_
  refine AOps.nil ?_
  refine AW.seq ?_
  refine AW.region ?_
  refine AOps.run tok 2 _ _ _ _ rfl ?_
  refine AOps.makeW tok a.length rfl rfl rfl rfl rfl rfl (by rw [lenWd]) rfl (by omega) ?_
  refine AOps.run tok 1 _ _ _ _ rfl ?_
  refine AOps.nil ?_
  refine AW.seq ?_
  refine AW.region ?_
  refine AOps.run tok 3 _ _ _ _ rfl ?_
  refine AOps.makeW tok (b.length + 1) rfl rfl rfl rfl rfl rfl (by rw [lenWd, wI64 (by omega) (by omega)]; omega) rfl (by omega) ?_
  refine AOps.run tok 1 _ _ _ _ rfl ?_
  refine AOps.nil ?_
  refine AW.seq ?_
  refine AW.seq ?_
  refine AW.region ?_
  refine AOps.run tok 1 _ _ _ _ rfl ?_
  refine AOps.call tok rfl rfl rfl rfl hbits ?_
  refine AOps.run tok 2 _ _ _ _ rfl ?_
  rw [wI64 (x := (bl A : Int) - 1) (by omega) (by omega)]
  refine AOps.nil ?_
  refine AW.block ?_
  have hAbl : A / 2 ^ bl A = 0 := Nat.div_eq_of_lt (lt_bl A)
  refine AW.loopS [0, 1, 6, 7, 8] (fun s : Nat × List Nat × List Nat => [(0, .d (Wd a)), (1, .d (Wd b)), (6, .ow 141 (s.2.1.map wd)), (7, .ow 141 (s.2.2.map wd)), (8, .d (dI ((s.1 : Int) - 1)))])
    (fun s => s.1 ≤ bl A ∧ s.2.1.length = a.length ∧ W32 s.2.1 ∧ s.2.2.length = b.length + 1 ∧ W32 s.2.2 ∧ nv s.2.1 = 2 ^ s.1 * (A / 2 ^ s.1 / V) ∧ nv s.2.2 = A / 2 ^ s.1 % V) (fun s => s.1) (bl A, List.replicate a.length 0, List.replicate (b.length + 1) 0) rfl
    ⟨Nat.le_refl _, by simp, W32.replicate _, by simp, W32.replicate _, by simp [nv_replicate, hAbl], by simp [nv_replicate, hAbl]⟩ (fun (k, q, r) ⟨hk, hql, hqw, hrl, hrw, hqv, hrv⟩ => ?_)
  simp only [] at hk hql hqw hrl hrw hqv hrv
  refine AW.seq ?_
  refine AW.seq ?_
  refine AW.region ?_
  refine AOps.run tok 2 _ _ _ _ rfl ?_
  refine AOps.nil ?_
  refine AW.cond rfl (fun h => ?_) (fun h => ?_)
  · have hk0 : 0 < k := by have := of_decide_eq_true h; omega
    obtain ⟨i, rfl⟩ : ∃ i, k = i + 1 := ⟨k - 1, by omega⟩
    rw [show ((i + 1 : Nat) : Int) - 1 = (i : Int) by omega]
    have hi32 : i / 32 < a.length := by omega
    obtain ⟨bit, hbit⟩ : ∃ bit, bit = A / 2 ^ i % 2 := ⟨_, rfl⟩
    have hbit1 : bit ≤ 1 := by omega
    refine AW.skip ?_
    refine AW.seq ?_
    refine AW.block ?_
    refine AW.seq ?_
    refine AW.region ?_
    refine AOps.run tok 2 _ _ _ _ rfl ?_
    refine AOps.div tok rfl rfl rfl rfl (by decide) ?_
    rw [show divV true .i64 (i : Int) 32 = .int .i64 ((i / 32 : Nat) : Int) from divIq i 32 (by decide) (by omega)]
    refine AOps.idx tok (wd (a.getD (i / 32) 0)) rfl rfl rfl rfl (Int.natCast_nonneg _) (getWd hi32) ?_
    refine AOps.run tok 2 _ _ _ _ rfl ?_
    refine AOps.div tok rfl rfl rfl rfl (by decide) ?_
    rw [show divV false .i64 (i : Int) 32 = .int .i64 ((i % 32 : Nat) : Int) from divIr i 32]
    refine AOps.run tok 3 _ _ _ _ rfl ?_
    have hsh : ((a.getD (i / 32) 0 : Nat) : Int).fdiv (2 ^ (min (i % 32) IntKind.u32.bits)) = ((a.getD (i / 32) 0 / 2 ^ (i % 32) : Nat) : Int) := shrW _ _ (by omega)
    rw [hsh, and1 _ (Nat.lt_of_le_of_lt (Nat.div_le_self _ _) (ha.getD _)), hdA, bit_of, ← hbit]
    refine AOps.nil ?_
    refine AW.norm [0, 1, 6, 7, 8, 9] [(0, .d (Wd a)), (1, .d (Wd b)), (6, .ow 141 (q.map wd)), (7, .ow 141 (r.map wd)), (8, .d (dI i)), (9, .d (wd bit))] rfl ?_
    obtain ⟨r0, hr0⟩ : ∃ r0, r0 = nv r := ⟨_, rfl⟩
    have hr0V : r0 < V := by rw [hr0, hrv]; exact Nat.mod_lt _ (by omega)
    refine AW.cut [0, 1, 6, 7, 8] (fun s : List Nat => [(0, .d (Wd a)), (1, .d (Wd b)), (6, .ow 141 (q.map wd)), (7, .ow 141 (s.map wd)), (8, .d (dI i))]) (fun s => s.length = b.length + 1 ∧ W32 s ∧ nv s = 2 * r0 + bit) ?_ (fun r' ⟨hrl', hrw', hrv'⟩ => ?_)
    · as_aux_lemma =>
      refine AW.seq ?_
      refine AW.region ?_
      refine AOps.run tok 3 _ _ _ _ rfl ?_
      rw [lenWd, hrl]
      refine AOps.nil ?_
      refine AW.block ?_
      refine AW.loopS [0, 1, 6, 7, 8, 9, 35, 36] (fun s : Nat × List Nat × Nat => [(0, .d (Wd a)), (1, .d (Wd b)), (6, .ow 141 (q.map wd)), (7, .ow 141 (s.2.1.map wd)), (8, .d (dI i)), (9, .d (wd s.2.2)), (35, .d (dI (b.length + 1 : Nat))), (36, .d (dI s.1))])
        (fun s => s.1 ≤ b.length + 1 ∧ s.2.1.length = b.length + 1 ∧ W32 s.2.1 ∧ s.2.2 ≤ 1 ∧ s.2.1.drop s.1 = r.drop s.1 ∧ nv (s.2.1.take s.1) + 4294967296 ^ s.1 * s.2.2 = 2 * nv (r.take s.1) + bit) (fun s => b.length + 1 - s.1) (0, r, bit) rfl ⟨Nat.zero_le _, hrl, hrw, hbit1, rfl, by simp [nv]⟩ (fun (j, M, c) ⟨hj, hMl, hMw, hc, hd, hv⟩ => ?_)
      simp only [] at hj hMl hMw hc hd hv
      refine AW.seq ?_
      refine AW.region ?_
      refine AOps.run tok 1 _ _ _ _ rfl ?_
      refine AOps.nil ?_
      refine AW.seq ?_
      refine AW.cond rfl (fun h => ?_) (fun h => ?_)
      · have hjN : j < b.length + 1 := by have := of_decide_eq_true h; omega
        have hx := hMw.getD j
        have hME := getD_of_drop hd
        obtain ⟨hor, hlt, hkey⟩ := dbl_digit hx hc
        refine AW.skip ?_
        refine AW.seq ?_
        refine AW.block ?_
        refine AW.seq ?_
        refine AW.region ?_
        refine AOps.run tok 2 _ _ _ _ rfl ?_
        refine AOps.nil ?_
        refine AW.draw3 tok hmix [(13, true), (1, false), (1, true)] 15 [7] (by kernel_rfl) ⟨rfl, ?_⟩
        refine APre.run tok 4 _ _ _ _ rfl ?_
        refine APre.idxo tok rfl rfl rfl rfl rfl rfl (Int.natCast_nonneg j) (by simp; omega) ?_
        refine APre.loadel tok (wd (M.getD j 0)) rfl rfl rfl rfl rfl (getWd (by simp; omega)) rfl ?_
        refine APre.run tok 5 _ _ _ _ rfl ?_
        refine APre.idxo tok rfl rfl rfl rfl rfl rfl (Int.natCast_nonneg j) (by simp; omega) ?_
        refine APre.loadel tok (wd (M.getD j 0)) rfl rfl rfl rfl rfl (getWd (by simp; omega)) rfl ?_
        refine APre.nil ⟨rfl, ?_⟩
        refine APre.run tok 1 _ _ _ _ rfl ?_
        refine APre.nil ⟨rfl, ?_⟩
        refine APre.idxo tok rfl rfl rfl rfl rfl rfl (Int.natCast_nonneg j) (by simp; omega) ?_
        have hshl : IntKind.u32.wrap (((M.getD j 0 : Nat) : Int) * 2 ^ (min 1 IntKind.u32.bits)) = ((M.getD j 0 * 2 % 4294967296 : Nat) : Int) := by
          rw [show ((M.getD j 0 : Nat) : Int) * 2 ^ (min 1 IntKind.u32.bits) = ((M.getD j 0 * 2 : Nat) : Int) by rw [show min 1 IntKind.u32.bits = 1 from rfl]; push_cast; rfl]
          exact cvU32 _
        have hshr : ((M.getD j 0 : Nat) : Int).fdiv (2 ^ (min 31 IntKind.u32.bits)) = ((M.getD j 0 / 2147483648 : Nat) : Int) := shrW _ 31 (by decide)
        rw [hshl, hshr, orU32 _ c (Nat.mod_lt _ (by decide)) (by omega), hor]
        refine APre.nil ⟨_, StL.cons (StOk.elW (M.getD j 0 * 2 % 4294967296 + c) rfl (by omega) rfl) StL.nil, ?_⟩
        refine AOps.run tok 1 _ _ _ _ rfl ?_
        refine AOps.nil ?_
        refine AW.region ?_
        refine AOps.run tok 2 _ _ _ _ rfl ?_
        rw [wI64 (by omega) (by omega)]
        refine AOps.nil ?_
        refine ⟨(j + 1, M.set j (M.getD j 0 * 2 % 4294967296 + c), M.getD j 0 / 2147483648), rfl, ⟨by omega, by simpa using hMl, hMw.set _ hlt, by show _ / _ ≤ 1; omega, ?_, ?_⟩, by simp only []; omega⟩
        · simp only []
          rw [drop_set_lt, drop_succ hd]
        · simp only []
          rw [nv_take_set (by omega), nv_take_succ r j, ← hME, Nat.pow_succ, Nat.mul_assoc]
          have h2 := congrArg (fun z => 4294967296 ^ j * z) hkey
          simp only [Nat.mul_add] at h2
          have h3 : 4294967296 ^ j * (2 * M.getD j 0) = 2 * (4294967296 ^ j * M.getD j 0) := by ac_rfl
          rw [Nat.mul_add]
          omega
      · have hjN : j = b.length + 1 := by have := of_decide_eq_false h; omega
        subst hjN
        rw [List.take_of_length_le (by omega), List.take_of_length_le (by omega), ← hr0] at hv
        have hc0 : c = 0 := by
          rw [Nat.pow_succ] at hv
          rcases Nat.eq_zero_or_pos c with h | h
          · exact h
          · have : 4294967296 ^ b.length * 4294967296 * 1 ≤ 4294967296 ^ b.length * 4294967296 * c := Nat.mul_le_mul_left _ h
            omega
        rw [hc0, Nat.mul_zero, Nat.add_zero] at hv
        refine AW.exit ?_
        exact ⟨M, rfl, ⟨hMl, hMw, hv⟩⟩
    · have hAi : A / 2 ^ i = V * (2 * (A / 2 ^ (i + 1) / V)) + (2 * r0 + bit) := by
        have e1 : A / 2 ^ i = 2 * (A / 2 ^ (i + 1)) + bit := by
          rw [hbit, Nat.pow_succ, ← Nat.div_div_eq_div_mul]; omega
        have e2 := Nat.div_add_mod (A / 2 ^ (i + 1)) V
        rw [← hrv, ← hr0] at e2
        have e3 : V * (2 * (A / 2 ^ (i + 1) / V)) = 2 * (V * (A / 2 ^ (i + 1) / V)) := by ac_rfl
        omega
      have hq1 : 2 ^ (i + 1) * (A / 2 ^ (i + 1) / V) = 2 ^ i * (2 * (A / 2 ^ (i + 1) / V)) := by rw [Nat.pow_succ]; ac_rfl
      refine AW.seq ?_
      refine AW.region ?_
      refine AOps.run tok 2 _ _ _ _ rfl ?_
      refine AOps.calls tok rfl rfl rfl rfl (r01_compare_ok r' b hrw' hb (by omega) (by omega)) rfl ?_
      refine AOps.run tok 1 _ _ _ _ rfl ?_
      refine AOps.nil ?_
      rw [hrv', ← hV]
      refine AW.cond rfl (fun h => ?_) (fun h => ?_)
      · as_aux_lemma =>
        have hge : V ≤ 2 * r0 + bit := by
          have := of_decide_eq_true h
          unfold cmpN at this
          split at this <;> omega
        have hdm := divmod_add (n := A / 2 ^ i) (V := V) (Q := 2 * (A / 2 ^ (i + 1) / V)) (R := 2 * r0 + bit) hAi hge (by omega)
        obtain ⟨hs1, hs2, hs3⟩ := set_bit hqw hqv (show i / 32 < q.length by omega)
        have hwn : win r' 0 (b.length + 1) = r' := by rw [win, List.drop_zero, List.take_of_length_le (by omega)]
        have htake := r01_take_ok r' b 0 (b.length + 1) hrw' hb (by omega) (by omega) (by rw [hwn, hrv', ← hV]; exact hge)
        rw [hwn, hrv', ← hV] at htake
        obtain ⟨r2, hr2⟩ : ∃ r2, r2 = put r' 0 (b.length + 1) (dg (b.length + 1) (2 * r0 + bit - V)) := ⟨_, rfl⟩
        have hr2l : r2.length = b.length + 1 := by rw [hr2, put_length (by omega) (dg_length _ _)]; exact hrl'
        have hr2w : W32 r2 := by rw [hr2]; exact hrw'.put (w32_dg _ _) _ _
        have hr2v : nv r2 = 2 * r0 + bit - V := by
          have h1 := win_put (l := r') (lo := 0) (m := b.length + 1) (w := dg (b.length + 1) (2 * r0 + bit - V)) (by omega) (dg_length _ _)
          rw [← hr2, win, List.drop_zero, List.take_of_length_le (by omega)] at h1
          rw [h1, nv_dg]
          refine Nat.mod_eq_of_lt ?_
          rw [Nat.pow_succ]; omega
        rw [← hr2] at htake
        have hml : (r'.map wd).length = b.length + 1 := by rw [lenWd]; exact hrl'
        rw [← hml] at htake
        refine AW.seq ?_
        refine AW.region ?_
        refine AOps.run tok 2 _ _ _ _ rfl ?_
        refine AOps.callm tok rfl rfl rfl rfl htake (by rw [hml]; omega) (plainWd _) rfl ?_
        refine AOps.nil ?_
        refine AW.norm [0, 1, 6, 7, 8] [(0, .d (Wd a)), (1, .d (Wd b)), (6, .ow 141 (q.map wd)), (7, .ow 141 (r2.map wd)), (8, .d (dI i))] rfl ?_
        refine AW.draw hmix 10 (by kernel_rfl) ?_
        refine APre.run tok 2 _ _ _ _ rfl ?_
        refine APre.div tok rfl rfl rfl rfl rfl (by decide) ?_
        rw [show divV true .i64 (i : Int) 32 = .int .i64 ((i / 32 : Nat) : Int) from divIq i 32 (by decide) (by omega)]
        refine APre.idxo tok rfl rfl rfl rfl rfl rfl (Int.natCast_nonneg _) (by simp; omega) ?_
        refine APre.loadel tok (wd (q.getD (i / 32) 0)) rfl rfl rfl rfl rfl (getWd (by simp; omega)) rfl ?_
        refine APre.run tok 1 _ _ _ _ rfl ?_
        refine APre.div tok rfl rfl rfl rfl rfl (by decide) ?_
        rw [show divV false .i64 (i : Int) 32 = .int .i64 ((i % 32 : Nat) : Int) from divIr i 32]
        refine APre.run tok 2 _ _ _ _ rfl ?_
        refine APre.idxo tok rfl rfl rfl rfl rfl rfl (Int.natCast_nonneg _) (by simp; omega) ?_
        refine APre.nil ?_
        have hpw : 2 ^ (i % 32) < 4294967296 := by omega
        have hshl : IntKind.u32.wrap (1 * 2 ^ (min (i % 32) IntKind.u32.bits)) = ((2 ^ (i % 32) : Nat) : Int) := by
          rw [show min (i % 32) IntKind.u32.bits = i % 32 from Nat.min_eq_left (by show i % 32 ≤ 32; omega), Int.one_mul]
          have e : (2 : Int) ^ (i % 32) = ((2 ^ (i % 32) : Nat) : Int) := by push_cast; rfl
          rw [e]
          rw [cvU32, Nat.mod_eq_of_lt hpw]
        rw [hshl, orU32 _ _ (hqw.getD _) hpw, hs1]
        refine AOps.storeW tok (q.getD (i / 32) 0 + 2 ^ (i % 32)) rfl rfl rfl (by simp; omega) rfl ?_
        refine AOps.nil ?_
        refine AW.region ?_
        refine AOps.run tok 3 _ _ _ _ rfl ?_
        rw [wI64 (x := (i : Int) - 1) (by omega) (by omega)]
        refine AOps.nil ?_
        refine ⟨(i, q.set (i / 32) (q.getD (i / 32) 0 + 2 ^ (i % 32)), r2), rfl, ⟨by simp only []; omega, by simpa using hql, hqw.set _ hs2, hr2l, hr2w, ?_, ?_⟩, by simp only []; omega⟩
        · simp only []
          rw [hs3, hdm.1, hqv, hq1, Nat.mul_add, Nat.mul_one]
        · simp only []
          rw [hdm.2, hr2v]
      · have hlt : 2 * r0 + bit < V := by
          have := of_decide_eq_false h
          unfold cmpN at this
          split at this <;> omega
        have e1 : A / 2 ^ i / V = 2 * (A / 2 ^ (i + 1) / V) := by rw [hAi, Nat.mul_add_div (by omega), Nat.div_eq_of_lt hlt, Nat.add_zero]
        have e2 : A / 2 ^ i % V = 2 * r0 + bit := by rw [hAi, Nat.mul_add_mod, Nat.mod_eq_of_lt hlt]
        refine AW.skip ?_
        refine AW.region ?_
        refine AOps.run tok 3 _ _ _ _ rfl ?_
        rw [wI64 (x := (i : Int) - 1) (by omega) (by omega)]
        refine AOps.nil ?_
        exact ⟨(i, q, r'), rfl, ⟨by simp only []; omega, hql, hqw, hrl', hrw', by simp only []; rw [e1, hqv, hq1], by simp only []; rw [e2, hrv']⟩, by simp only []; omega⟩
  · have hk0 : k = 0 := by have := of_decide_eq_false h; omega
    subst hk0
    simp only [Nat.pow_zero, Nat.div_one, Nat.one_mul] at hqv hrv
    refine AW.exit ?_
    refine AW.seq ?_
    refine AW.region ?_
    refine AOps.run tok 1 _ _ _ _ rfl ?_
    refine AOps.frz tok 6 rfl rfl ?_
    refine AOps.call tok rfl rfl rfl rfl (r01_trim_ok q hqw (by omega)) ?_
    refine AOps.run tok 1 _ _ _ _ rfl ?_
    refine AOps.frz tok 7 rfl rfl ?_
    refine AOps.call tok rfl rfl rfl rfl (r01_trim_ok r hrw (by omega)) ?_
    refine AOps.run tok 2 _ _ _ _ rfl ?_
    refine AOps.nil ?_
    rw [hqv, hrv]
    exact AW.ret rfl
end Lift
namespace Lift
open Go Go.Proofs
theorem r01_Valid_ok (g : Bool) (m : List Nat) (hm : W32 m) (hl : m.length ≤ 35184372088831) : Pure Tryz.prog 158 [Wh g m] (dB (okW g m)) := by
  refine Pure.intro (n := 19) tok Tryz.func158 rfl rfl rfl (Nat.le_of_ble_eq_true rfl) (by kernel_rfl) (fun B F0 w0 => ?_)
  refine AW.seq ?_
  refine AW.region ?_
  refine AOps.run tok 2 _ _ _ _ rfl ?_
  refine AOps.nil ?_
  refine AW.seq ?_
  refine AW.seq ?_
  refine AW.region ?_
  refine AOps.run tok 4 _ _ _ _ rfl ?_
  refine AOps.nil ?_
  refine AW.cond rfl (fun h => ?_) (fun h => ?_)
  · have h0 : m = [] := by simpa using h
    rw [okW, if_pos h0]
    refine AW.seq ?_
    refine AW.region ?_
    refine AOps.run tok 4 _ _ _ _ rfl ?_
    refine AOps.nil ?_
    exact AW.ret rfl
  · have h0 : m ≠ [] := by simpa using h
    have hp : 0 < m.length := List.length_pos_iff.2 h0
    rw [okW, if_neg h0]
    refine AW.skip ?_
    refine AW.seq ?_
    refine AW.region ?_
    refine AOps.run tok 6 _ _ _ _ rfl ?_
    rw [lenWd, wI64 (by omega) (by omega), show (m.length : Int) - 1 = ((m.length - 1 : Nat) : Int) by omega]
    refine AOps.idx tok (wd (m.getD (m.length - 1) 0)) rfl rfl rfl rfl (Int.natCast_nonneg _) (getWd (by omega)) ?_
    refine AOps.run tok 3 _ _ _ _ rfl ?_
    refine AOps.nil ?_
    have e : (m.getD (m.length - 1) 0 != 0) = (((m.getD (m.length - 1) 0 : Nat) : Int) != 0) := by
      rw [Bool.eq_iff_iff]; simp
    rw [e]
    exact AW.ret rfl
theorem r01_mag_ok (z : Int) (hl : L z ≤ 35184372088831) : Pure Tryz.prog 130 [WhI z] (Wd (iw z)) := by
  refine Pure.intro (n := 8) tok Tryz.func130 rfl rfl rfl (Nat.le_of_ble_eq_true rfl) (by kernel_rfl) (fun B F0 w0 => ?_)
  refine AW.seq ?_
  refine AW.region ?_
  refine AOps.run tok 2 _ _ _ _ rfl ?_
  refine AOps.nil ?_
  refine AW.seq ?_
  refine AW.seq ?_
  refine AW.region ?_
  refine AOps.run tok 1 _ _ _ _ rfl ?_
  refine AOps.call tok rfl rfl rfl rfl (r01_Valid_ok (decide (z < 0)) (iw z) (w32_iw z) hl) ?_
  rw [okW_iw]
  refine AOps.run tok 1 _ _ _ _ rfl ?_
  refine AOps.nil ?_
  refine AW.condF rfl ?_
  refine AW.skip ?_
  refine AW.seq ?_
  refine AW.region ?_
  refine AOps.run tok 3 _ _ _ _ rfl ?_
  refine AOps.nil ?_
  exact AW.ret rfl
theorem r01_neg_ok (z : Int) (hl : L z ≤ 35184372088831) : Pure Tryz.prog 131 [WhI z] (dB (decide (z < 0))) := by
  refine Pure.intro (n := 9) tok Tryz.func131 rfl rfl rfl (Nat.le_of_ble_eq_true rfl) (by kernel_rfl) (fun B F0 w0 => ?_)
  refine AW.seq ?_
  refine AW.region ?_
  refine AOps.run tok 2 _ _ _ _ rfl ?_
  refine AOps.nil ?_
  refine AW.seq ?_
  refine AW.region ?_
  refine AOps.run tok 1 _ _ _ _ rfl ?_
  refine AOps.call tok rfl rfl rfl rfl (r01_Valid_ok (decide (z < 0)) (iw z) (w32_iw z) hl) ?_
  rw [okW_iw]
  refine AOps.run tok 5 _ _ _ _ rfl ?_
  refine AOps.nil ?_
  exact AW.ret rfl
theorem r01_form_ok (g : Bool) (m : List Nat) (hm : W32 m) (hl : m.length ≤ 35184372088831) : Pure Tryz.prog 142 [dB g, Wd m] (WhI (sg g (nv m))) := by
  refine Pure.intro (n := 14) tok Tryz.func142 rfl rfl rfl (Nat.le_of_ble_eq_true rfl) (by kernel_rfl) (fun B F0 w0 => ?_)
  refine AW.seq ?_
  refine AW.region ?_
  refine AOps.run tok 1 _ _ _ _ rfl ?_
  refine AOps.nil ?_
  refine AW.seq ?_
  refine AW.region ?_
  refine AOps.run tok 1 _ _ _ _ rfl ?_
  refine AOps.call tok rfl rfl rfl rfl (r01_trim_ok m hm hl) ?_
  refine AOps.run tok 1 _ _ _ _ rfl ?_
  refine AOps.nil ?_
  have hz := nv_zero (nm_tw (nv m))
  rw [nv_tw] at hz
  rw [whI_sg]
  refine AW.seq ?_
  refine AW.seq ?_
  refine AW.region ?_
  refine AOps.run tok 3 _ _ _ _ rfl ?_
  rw [len0]
  refine AOps.nil ?_
  refine AW.cond rfl (fun h => ?_) (fun h => ?_)
  · have h0 := of_decide_eq_true h
    rw [hz.2 h0, tw_zero, show (g && decide ((0 : Nat) ≠ 0)) = false by simp]
    refine AW.seq ?_
    refine AW.region ?_
    refine AOps.run tok 2 _ _ _ _ rfl ?_
    refine AOps.nil ?_
    exact AW.ret rfl
  · have h0 := of_decide_eq_false h
    rw [show (g && decide (nv m ≠ 0)) = g by simp [mt hz.1 h0]]
    refine AW.skip ?_
    refine AW.seq ?_
    refine AW.region ?_
    refine AOps.run tok 4 _ _ _ _ rfl ?_
    refine AOps.nil ?_
    exact AW.ret rfl
theorem r01_form_iw (g : Bool) (z : Int) (hl : L z ≤ 35184372088831) : Pure Tryz.prog 142 [dB g, Wd (iw z)] (WhI (sg g z.natAbs)) := by
  have := r01_form_ok g (iw z) (w32_iw z) hl
  rwa [nv_iw] at this
theorem r01_form_tw (g : Bool) (n : Nat) (hl : (tw n).length ≤ 35184372088831) : Pure Tryz.prog 142 [dB g, Wd (tw n)] (WhI (sg g n)) := by
  have := r01_form_ok g (tw n) (w32_tw n) hl
  rwa [nv_tw] at this
theorem r01_Of_ok (n : Int) (h0 : -9223372036854775808 ≤ n) (h1 : n ≤ 9223372036854775807) : Pure Tryz.prog 124 [dI n] (WhI n) := by
  refine Pure.intro (n := 19) tok Tryz.func124 rfl rfl rfl (Nat.le_of_ble_eq_true rfl) (by kernel_rfl) (fun B F0 w0 => ?_)
  have hfin : ∀ (m : Nat), m < 18446744073709551616 → m = n.natAbs → Pure Tryz.prog 142 [dB (decide (n < 0)), Wd [m % 4294967296, m / 4294967296 % 4294967296]] (WhI n) := fun m hm he => by
    have := r01_form_ok (decide (n < 0)) [m % 4294967296, m / 4294967296 % 4294967296] (W32.cons.2 ⟨Nat.mod_lt _ (by decide), W32.cons.2 ⟨Nat.mod_lt _ (by decide), W32.nil⟩⟩) (by simp)
    rw [two_words m hm, he, sg_abs] at this
    rw [he]
    exact this
  refine AW.seq ?_
  refine AW.region ?_
  refine AOps.run tok 1 _ _ _ _ rfl ?_
  refine AOps.nil ?_
  refine AW.seq ?_
  refine AW.region ?_
  refine AOps.run tok 3 _ _ _ _ rfl ?_
  refine AOps.nil ?_
  refine AW.cut [0, 2, 3] (fun _ : Unit => [(0, .d (dI n)), (2, .bx [dB false, .sl 1 []]), (3, .d (dU n.natAbs))]) (fun _ => True) ?_ (fun _ _ => ?_)
  · refine AW.seq ?_
    refine AW.region ?_
    refine AOps.run tok 2 _ _ _ _ rfl ?_
    refine AOps.nil ?_
    refine AW.cond rfl (fun h => ?_) (fun h => ?_)
    · have hn := of_decide_eq_true h
      refine AW.region ?_
      refine AOps.run tok 3 _ _ _ _ rfl ?_
      rw [cvI64U n hn h0, negU _ (by omega) (by omega), show 18446744073709551616 - (18446744073709551616 - n.natAbs) = n.natAbs by omega]
      refine AOps.nil ?_
      exact ⟨(), rfl, trivial⟩
    · have hn := of_decide_eq_false h
      refine AW.skip ?_
      rw [wU64 (x := n) (by omega) (by omega)]
      exact ⟨(), by rw [show ((n.natAbs : Nat) : Int) = n by omega]; rfl, trivial⟩
  · refine AW.seq ?_
    refine AW.region ?_
    refine AOps.run tok 7 _ _ _ _ rfl ?_
    rw [cvU32, shrU32, cvU32]
    refine AOps.bs tok rfl rfl rfl rfl ?_
    refine AOps.frz tok 17 rfl rfl ?_
    refine AOps.call tok rfl rfl rfl rfl (hfin n.natAbs (by omega) rfl) ?_
    refine AOps.run tok 1 _ _ _ _ rfl ?_
    refine AOps.nil ?_
    exact AW.ret rfl
theorem r01_Sign_ok (z : Int) (hl : L z ≤ 35184372088831) : Pure Tryz.prog 83 [WhI z] (dI (sgI z)) := by
  refine Pure.intro (n := 9) tok Tryz.func83 rfl rfl rfl (Nat.le_of_ble_eq_true rfl) (by kernel_rfl) (fun B F0 w0 => ?_)
  refine AW.seq ?_
  refine AW.region ?_
  refine AOps.run tok 2 _ _ _ _ rfl ?_
  refine AOps.nil ?_
  refine AW.seq ?_
  refine AW.seq ?_
  refine AW.region ?_
  refine AOps.run tok 1 _ _ _ _ rfl ?_
  refine AOps.call tok rfl rfl rfl rfl (r01_mag_ok z hl) ?_
  refine AOps.run tok 2 _ _ _ _ rfl ?_
  rw [len0]
  refine AOps.nil ?_
  refine AW.cond rfl (fun h => ?_) (fun h => ?_)
  · have h0 : z = 0 := iw_nil.1 (of_decide_eq_true h)
    rw [show sgI z = 0 by subst h0; rfl]
    refine AW.seq ?_
    refine AW.region ?_
    refine AOps.run tok 1 _ _ _ _ rfl ?_
    refine AOps.nil ?_
    exact AW.ret rfl
  · have h0 : z ≠ 0 := fun e => (of_decide_eq_false h) (iw_nil.2 e)
    refine AW.skip ?_
    refine AW.seq ?_
    refine AW.seq ?_
    refine AW.region ?_
    refine AOps.run tok 1 _ _ _ _ rfl ?_
    refine AOps.call tok rfl rfl rfl rfl (r01_neg_ok z hl) ?_
    refine AOps.nil ?_
    refine AW.cond rfl (fun h => ?_) (fun h => ?_)
    · have hn := of_decide_eq_true h
      rw [show sgI z = -1 by unfold sgI; rw [if_pos hn]]
      refine AW.seq ?_
      refine AW.region ?_
      refine AOps.run tok 1 _ _ _ _ rfl ?_
      refine AOps.nil ?_
      exact AW.ret rfl
    · have hn := of_decide_eq_false h
      rw [show sgI z = 1 by unfold sgI; rw [if_neg hn, if_neg h0]]
      refine AW.skip ?_
      refine AW.seq ?_
      refine AW.region ?_
      refine AOps.run tok 1 _ _ _ _ rfl ?_
      refine AOps.nil ?_
      exact AW.ret rfl
theorem r01_Neg_ok (z : Int) (hl : L z ≤ 35184372088831) : Pure Tryz.prog 140 [WhI z] (WhI (-z)) := by
  refine Pure.intro (n := 9) tok Tryz.func140 rfl rfl rfl (Nat.le_of_ble_eq_true rfl) (by kernel_rfl) (fun B F0 w0 => ?_)
  refine AW.seq ?_
  refine AW.region ?_
  refine AOps.run tok 2 _ _ _ _ rfl ?_
  refine AOps.nil ?_
  refine AW.seq ?_
  refine AW.draw hmix 6 (by kernel_rfl) ?_
  refine APre.run tok 1 _ _ _ _ rfl ?_
  refine APre.call tok rfl rfl rfl rfl rfl (r01_neg_ok z hl) ?_
  refine APre.run tok 2 _ _ _ _ rfl ?_
  refine APre.call tok rfl rfl rfl rfl rfl (r01_mag_ok z hl) ?_
  refine APre.call tok rfl rfl rfl rfl rfl (r01_form_iw (!decide (z < 0)) z hl) ?_
  refine APre.nil ?_
  refine AOps.run tok 1 _ _ _ _ rfl ?_
  refine AOps.nil ?_
  rw [sg_not]
  exact AW.ret rfl
theorem r01_divide_iw (x y : Int) (hx : L x ≤ 50000000) (hy : L y ≤ 50000000) (h0 : y ≠ 0) : Pure Tryz.prog 163 [Wd (iw x), Wd (iw y)] (.tu [Wd (tw (x.natAbs / y.natAbs)), Wd (tw (x.natAbs % y.natAbs))]) := by
  have := r01_divide_ok (iw x) (iw y) (w32_iw x) (w32_iw y) (nm_iw x) hx hy (by rw [nv_iw]; omega)
  rwa [nv_iw, nv_iw] at this
theorem r01_Gcd_ok (a b : Int) (ha : L a ≤ 35184372088829) (hb : L b ≤ 35184372088829) : Pure Tryz.prog 120 [WhI a, WhI b] (WhI (Nat.gcd a.natAbs b.natAbs)) := by
  refine Pure.intro (n := 11) tok Tryz.func120 rfl rfl rfl (Nat.le_of_ble_eq_true rfl) (by kernel_rfl) (fun B F0 w0 => ?_)
  have hgcd := r01_gcd_ok (iw a) (iw b) (w32_iw a) (w32_iw b) ha hb
  rw [nv_iw, nv_iw] at hgcd
  have hgl : (tw (Nat.gcd a.natAbs b.natAbs)).length ≤ 35184372088829 := by
    rcases Nat.eq_zero_or_pos a.natAbs with h | h
    · rw [h, Nat.gcd_zero_left]; exact hb
    · exact Nat.le_trans (len_tw (z := a) (Nat.gcd_le_left _ h)) ha
  refine AW.seq ?_
  refine AW.region ?_
  refine AOps.run tok 3 _ _ _ _ rfl ?_
  refine AOps.nil ?_
  refine AW.seq ?_
  refine AW.draw hmix 6 (by kernel_rfl) ?_
  refine APre.run tok 1 _ _ _ _ rfl ?_
  refine APre.call tok rfl rfl rfl rfl rfl (r01_mag_ok a (by omega)) ?_
  refine APre.run tok 1 _ _ _ _ rfl ?_
  refine APre.call tok rfl rfl rfl rfl rfl (r01_mag_ok b (by omega)) ?_
  refine APre.call tok rfl rfl rfl rfl rfl hgcd ?_
  refine APre.call tok rfl rfl rfl rfl rfl (r01_form_tw false _ (by omega)) ?_
  refine APre.nil ?_
  refine AOps.run tok 1 _ _ _ _ rfl ?_
  refine AOps.nil ?_
  exact AW.ret rfl
set_option maxHeartbeats 800000 in
theorem r01_Div_ok (a b : Int) (ha : L a ≤ 50000000) (hb : L b ≤ 50000000) (h0 : b ≠ 0) : Pure Tryz.prog 141 [WhI a, WhI b] (.tu [WhI (a / b), WhI (a % b), dI 0]) := by
  refine Pure.intro (n := 45) tok Tryz.func141 rfl rfl rfl (Nat.le_of_ble_eq_true rfl) (by kernel_rfl) (fun B F0 w0 => ?_)
  refine AW.seq ?_
  refine AW.region ?_
  refine AOps.run tok 5 _ _ _ _ rfl ?_
  refine AOps.nil ?_
  refine AW.seq ?_
  refine AW.seq ?_
  refine AW.region ?_
  refine AOps.run tok 1 _ _ _ _ rfl ?_
  refine AOps.call tok rfl rfl rfl rfl (r01_Sign_ok b (by omega)) ?_
  refine AOps.run tok 1 _ _ _ _ rfl ?_
  rw [show (sgI b == 0) = false by unfold sgI; (repeat' split) <;> first | rfl | (exact absurd ‹_› h0)]
  refine AOps.nil ?_
  refine AW.condF rfl ?_
  refine AW.skip ?_
  refine AW.seq ?_
  refine AW.draw hmix 9 (by kernel_rfl) ?_
  refine APre.run tok 1 _ _ _ _ rfl ?_
  refine APre.call tok rfl rfl rfl rfl rfl (r01_mag_ok a (by omega)) ?_
  refine APre.run tok 1 _ _ _ _ rfl ?_
  refine APre.call tok rfl rfl rfl rfl rfl (r01_mag_ok b (by omega)) ?_
  refine APre.call tok rfl rfl rfl rfl rfl (r01_divide_iw a b ha hb h0) ?_
  refine APre.run tok 4 _ _ _ _ rfl ?_
  refine APre.nil ?_
  refine AOps.run tok 1 _ _ _ _ rfl ?_
  refine AOps.nil ?_
  have hlt : a.natAbs % b.natAbs < b.natAbs := Nat.mod_lt _ (by omega)
  have hdl : a.natAbs / b.natAbs ≤ a.natAbs := Nat.div_le_self _ _
  have hr0 := twLen_pos (a.natAbs % b.natAbs)
  have hl1 := len_tw (z := a) hdl
  have hl2 := len_tw (z := b) (n := a.natAbs % b.natAbs) (by omega)
  refine AW.cut [2, 3, 4, 5, 7, 8] (fun s : Nat × Nat => [(2, .bx [dB (decide (a < 0)), Wd (iw a)]), (3, .bx [dB (decide (b < 0)), Wd (iw b)]), (4, .bx [dB false, .sl 1 []]), (5, .bx [dB false, .sl 1 []]), (7, .d (Wd (tw s.1))), (8, .d (Wd (tw s.2)))])
    (fun s => (tw s.1).length ≤ 50000002 ∧ (tw s.2).length ≤ 50000002 ∧ sg ((decide (a < 0) == decide (b < 0)) == false) s.1 = a / b ∧ sg false s.2 = a % b) ?_ (fun (m, n) ⟨hm, hn, hq, hr⟩ => ?_)
  · refine AW.cut [2, 3, 4, 5, 7, 8, 28] (fun c : Bool => [(2, .bx [dB (decide (a < 0)), Wd (iw a)]), (3, .bx [dB (decide (b < 0)), Wd (iw b)]), (4, .bx [dB false, .sl 1 []]), (5, .bx [dB false, .sl 1 []]), (7, .d (Wd (tw (a.natAbs / b.natAbs)))), (8, .d (Wd (tw (a.natAbs % b.natAbs)))), (28, .d (dB c))])
      (fun c => (c = true → a < 0 ∧ a.natAbs % b.natAbs ≠ 0) ∧ (c = false → 0 ≤ a ∨ a.natAbs % b.natAbs = 0)) ?_ (fun c ⟨ht, hf⟩ => ?_)
    · refine AW.region ?_
      refine AOps.run tok 1 _ _ _ _ rfl ?_
      refine AOps.call tok rfl rfl rfl rfl (r01_neg_ok a (by omega)) ?_
      refine AOps.run tok 1 _ _ _ _ rfl ?_
      refine AOps.split (t := 24) rfl (fun h => ?_) (fun h => ?_)
      · have hneg := of_decide_eq_true h
        refine AOps.run tok 4 _ _ _ _ rfl ?_
        refine AOps.nil ?_
        refine ⟨_, rfl, ⟨fun h => ⟨hneg, hr0.1 (of_decide_eq_true h)⟩, fun h => .inr ?_⟩⟩
        have := of_decide_eq_false h
        rw [hr0] at this
        exact Decidable.not_not.1 this
      · have hneg := of_decide_eq_false h
        refine AOps.run tok 4 _ _ _ _ rfl ?_
        refine AOps.nil ?_
        exact ⟨false, rfl, ⟨(fun h => by cases h), fun _ => .inl (by omega)⟩⟩
    · refine AW.cond rfl (fun h => ?_) (fun h => ?_)
      · subst h
        obtain ⟨hneg, hrn⟩ := ht rfl
        have hl3 := len_succ (a.natAbs / b.natAbs)
        have hp := r01_plus_ok (tw (a.natAbs / b.natAbs)) [1] (w32_tw _) (W32.cons.2 ⟨by decide, W32.nil⟩) (by omega) (by decide)
        have hm := r01_minus_ok (iw b) (tw (a.natAbs % b.natAbs)) (w32_iw b) (w32_tw _) (Nat.le_trans hb (by decide)) (by rw [nv_tw, nv_iw]; omega)
        rw [nv_tw, show nv [1] = 1 from rfl] at hp
        rw [nv_tw, nv_iw] at hm
        refine AW.draw hmix 7 (by kernel_rfl) ?_
        refine APre.run tok 1 _ _ _ _ rfl ?_
        refine APre.bsd tok rfl rfl rfl rfl rfl rfl ?_
        refine APre.call tok rfl rfl rfl rfl rfl hp ?_
        refine APre.run tok 1 _ _ _ _ rfl ?_
        refine APre.call tok rfl rfl rfl rfl rfl (r01_mag_ok b (by omega)) ?_
        refine APre.run tok 1 _ _ _ _ rfl ?_
        refine APre.call tok rfl rfl rfl rfl rfl hm ?_
        refine APre.nil ?_
        refine AOps.run tok 2 _ _ _ _ rfl ?_
        refine AOps.nil ?_
        exact ⟨(a.natAbs / b.natAbs + 1, b.natAbs - a.natAbs % b.natAbs), rfl, ⟨Nat.le_trans hl3 (by omega), Nat.le_trans (len_tw (z := b) (by simp only []; omega)) (by omega), div_sg h0 _ _ (.inl ⟨hneg, hrn, rfl, rfl⟩)⟩⟩
      · subst h
        refine AW.skip ?_
        exact ⟨(a.natAbs / b.natAbs, a.natAbs % b.natAbs), rfl, ⟨by simp only []; omega, by simp only []; omega, div_sg h0 _ _ (.inr ⟨hf rfl, rfl, rfl⟩)⟩⟩
  · simp only [] at hm hn hq hr
    refine AW.seq ?_
    refine AW.draw hmix 9 (by kernel_rfl) ?_
    refine APre.run tok 1 _ _ _ _ rfl ?_
    refine APre.call tok rfl rfl rfl rfl rfl (r01_neg_ok a (by omega)) ?_
    refine APre.run tok 1 _ _ _ _ rfl ?_
    refine APre.call tok rfl rfl rfl rfl rfl (r01_neg_ok b (by omega)) ?_
    refine APre.be tok rfl rfl rfl rfl rfl ?_
    refine APre.run tok 1 _ _ _ _ rfl ?_
    refine APre.call tok rfl rfl rfl rfl rfl (r01_form_tw ((decide (a < 0) == decide (b < 0)) == false) m (by omega)) ?_
    refine APre.run tok 1 _ _ _ _ rfl ?_
    refine APre.call tok rfl rfl rfl rfl rfl (r01_form_tw false n (by omega)) ?_
    refine APre.nil ?_
    refine AOps.run tok 3 _ _ _ _ rfl ?_
    refine AOps.nil ?_
    rw [hq, hr]
    exact AW.ret rfl
end Lift
namespace Lift
open Go Go.Proofs
theorem r02_one_ok : Pure Tryz.prog 121 [] (WhI 1) := by
  refine Pure.intro (n := 2) tok Tryz.func121 rfl rfl rfl (Nat.le_of_ble_eq_true rfl) (by kernel_rfl) (fun B F0 w0 => ?_)
  refine AW.seq ?_
  refine AW.region ?_
  refine AOps.run tok 1 _ _ _ _ rfl ?_
  refine AOps.nil ?_
  refine AW.seq ?_
  refine AW.region ?_
  refine AOps.call tok rfl rfl rfl rfl (r01_Of_ok 1 (by decide) (by decide)) ?_
  refine AOps.run tok 1 _ _ _ _ rfl ?_
  refine AOps.nil ?_
  exact AW.ret rfl
theorem Qr_form {n d : Int} (hd : 0 < d) (hn : n ≠ 0) : (Qr (Rat.divInt n d)).D = .ag [dB (decide (n / (Nat.gcd n.natAbs d.natAbs : Int) < 0)), Wd (iw (n / (Nat.gcd n.natAbs d.natAbs : Int))), Wd (iw (d / (Nat.gcd n.natAbs d.natAbs : Int)))] := by
  obtain ⟨h1, h2⟩ := form_pos (n := n) hd
  have hnz : (Rat.divInt n d).num ≠ 0 := by
    intro e
    rw [h1] at e
    exact hn (Int.eq_zero_of_ediv_eq_zero (Int.ofNat_dvd_left.2 (Nat.gcd_dvd_left _ _)) e)
  show D.ag [dB (decide ((Rat.divInt n d).num < 0)), Wd (iw (Rat.divInt n d).num), Wd (if (Rat.divInt n d).num = 0 then [] else tw (Rat.divInt n d).den)] = _
  rw [if_neg hnz, h1, ← h2, iw, iw, Int.natAbs_natCast]
set_option maxHeartbeats 800000 in
theorem r02_form_ok (n d : Int) (hn : L n ≤ 50000000) (hd : L d ≤ 50000000) (h0 : d ≠ 0) : Pure Tryz.prog 110 [WhI n, WhI d] (Qr (Rat.divInt n d)).D := by
  refine Pure.intro (n := 47) tok Tryz.func110 rfl rfl rfl (Nat.le_of_ble_eq_true rfl) (by kernel_rfl) (fun B F0 w0 => ?_)
  refine AW.seq ?_
  refine AW.region ?_
  refine AOps.run tok 3 _ _ _ _ rfl ?_
  refine AOps.nil ?_
  refine AW.seq ?_
  refine AW.seq ?_
  refine AW.region ?_
  refine AOps.run tok 1 _ _ _ _ rfl ?_
  refine AOps.call tok rfl rfl rfl rfl (r01_Sign_ok n (by omega)) ?_
  refine AOps.run tok 1 _ _ _ _ rfl ?_
  refine AOps.nil ?_
  refine AW.cond rfl (fun h => ?_) (fun h => ?_)
  · have hn0 : n = 0 := by
      have : sgI n = 0 := by simpa using h
      unfold sgI at this
      repeat' split at this
      all_goals omega
    rw [hn0, Rat.zero_divInt, Qr_zero]
    refine AW.seq ?_
    refine AW.region ?_
    refine AOps.run tok 2 _ _ _ _ rfl ?_
    refine AOps.nil ?_
    exact AW.ret rfl
  · have hn0 : n ≠ 0 := by rintro rfl; simp [sgI] at h
    refine AW.skip ?_
    refine AW.cut [2, 3, 4] (fun s : Int × Int => [(2, .bx [dB (decide (s.1 < 0)), Wd (iw s.1)]), (3, .bx [dB (decide (s.2 < 0)), Wd (iw s.2)]), (4, .bx [dB false, .sl 1 [], .sl 1 []])])
      (fun s => 0 < s.2 ∧ s.1 ≠ 0 ∧ L s.1 ≤ 50000000 ∧ L s.2 ≤ 50000000 ∧ Rat.divInt s.1 s.2 = Rat.divInt n d) ?_ (fun (x, y) ⟨hy, hx, hlx, hly, he⟩ => ?_)
    · refine AW.seq ?_
      refine AW.region ?_
      refine AOps.run tok 1 _ _ _ _ rfl ?_
      refine AOps.call tok rfl rfl rfl rfl (r01_Sign_ok d (by omega)) ?_
      refine AOps.run tok 1 _ _ _ _ rfl ?_
      refine AOps.nil ?_
      refine AW.cond rfl (fun h => ?_) (fun h => ?_)
      · have hd0 : d < 0 := by
          have := of_decide_eq_true h
          unfold sgI at this
          repeat' split at this
          all_goals omega
        refine AW.draw hmix 4 (by kernel_rfl) ?_
        refine APre.run tok 1 _ _ _ _ rfl ?_
        refine APre.call tok rfl rfl rfl rfl rfl (r01_Neg_ok n (by omega)) ?_
        refine APre.run tok 1 _ _ _ _ rfl ?_
        refine APre.call tok rfl rfl rfl rfl rfl (r01_Neg_ok d (by omega)) ?_
        refine APre.nil ?_
        refine AOps.run tok 2 _ _ _ _ rfl ?_
        refine AOps.nil ?_
        exact ⟨(-n, -d), rfl, ⟨by simp only []; omega, by simp only []; omega, by rw [L_neg]; exact hn, by rw [L_neg]; exact hd, Rat.neg_divInt_neg n d⟩⟩
      · have hd0 : 0 < d := by
          have := of_decide_eq_false h
          unfold sgI at this
          repeat' split at this
          all_goals omega
        refine AW.skip ?_
        exact ⟨(n, d), rfl, ⟨hd0, hn0, hn, hd, rfl⟩⟩
    · simp only [] at hy hx hlx hly he
      rw [← he]
      have hgl : L ((Nat.gcd x.natAbs y.natAbs : Nat) : Int) ≤ 50000000 := by
        have := Nat.gcd_le_left y.natAbs (show 0 < x.natAbs by omega)
        have := L_mono (a := ((Nat.gcd x.natAbs y.natAbs : Nat) : Int)) (b := x) (by simpa using this)
        omega
      have hg0 : ((Nat.gcd x.natAbs y.natAbs : Nat) : Int) ≠ 0 := by
        have : 0 < Nat.gcd x.natAbs y.natAbs := Nat.gcd_pos_of_pos_left _ (by omega)
        omega
      rw [Qr_form hy hx]
      have hgcd := r01_Gcd_ok x y (by omega) (by omega)
      generalize ((Nat.gcd x.natAbs y.natAbs : Nat) : Int) = g at *
      refine AW.seq ?_
      refine AW.region ?_
      refine AOps.run tok 2 _ _ _ _ rfl ?_
      refine AOps.call tok rfl rfl rfl rfl hgcd ?_
      refine AOps.run tok 2 _ _ _ _ rfl ?_
      refine AOps.nil ?_
      refine AW.seq ?_
      refine AW.region ?_
      refine AOps.run tok 2 _ _ _ _ rfl ?_
      refine AOps.call tok rfl rfl rfl rfl (r01_Div_ok x g hlx hgl hg0) ?_
      refine AOps.run tok 9 _ _ _ _ rfl ?_
      refine AOps.nil ?_
      refine AW.seq ?_
      refine AW.region ?_
      refine AOps.run tok 2 _ _ _ _ rfl ?_
      refine AOps.call tok rfl rfl rfl rfl (r01_Div_ok y g hly hgl hg0) ?_
      refine AOps.run tok 9 _ _ _ _ rfl ?_
      refine AOps.nil ?_
      refine AW.seq ?_
      refine AW.region ?_
      refine AOps.run tok 8 _ _ _ _ rfl ?_
      refine AOps.nil ?_
      exact AW.ret rfl
theorem r02_Of_ok (n : Int) (h0 : -9223372036854775808 ≤ n) (h1 : n ≤ 9223372036854775807) : Pure Tryz.prog 75 [dI n] (Qr n).D := by
  refine Pure.intro (n := 7) tok Tryz.func75 rfl rfl rfl (Nat.le_of_ble_eq_true rfl) (by kernel_rfl) (fun B F0 w0 => ?_)
  have hl := L_of n (by omega)
  have hf := r02_form_ok n 1 (by omega) (by rw [L_one]; decide) (by decide)
  rw [of_divInt] at hf
  refine AW.seq ?_
  refine AW.region ?_
  refine AOps.run tok 1 _ _ _ _ rfl ?_
  refine AOps.nil ?_
  refine AW.seq ?_
  refine AW.region ?_
  refine AOps.run tok 1 _ _ _ _ rfl ?_
  refine AOps.call tok rfl rfl rfl rfl (r01_Of_ok n h0 h1) ?_
  refine AOps.call tok rfl rfl rfl rfl r02_one_ok ?_
  refine AOps.call tok rfl rfl rfl rfl hf ?_
  refine AOps.run tok 1 _ _ _ _ rfl ?_
  refine AOps.nil ?_
  exact AW.ret rfl
end Lift
namespace Lift
open Go Go.Proofs
abbrev d8 (c : Nat) : D := .v (.int .u8 (c : Int))
abbrev dS (s : ByteArray) : D := .v (.string s)
end Lift
namespace Lift
open Go Go.Proofs
instance : Inhabited RD := ⟨⟨false, [], []⟩⟩
structure Mark where
  nm : ByteArray
  x : RD
  y : RD
deriving Inhabited
structure Body where
  nm : ByteArray
  pts : List Mark
deriving Inhabited
structure Joint where
  nm : ByteArray
  kind : Int
  a : Int
  pt : Int
  b : Int
  on : Int
  to : Int
deriving Inhabited
structure Driver where
  nm : ByteArray
  body : Int
deriving Inhabited
structure Lkg where
  nm : ByteArray
  bodies : List Body
  joints : List Joint
  drivers : List Driver
deriving Inhabited
abbrev Mark.D (p : Mark) : D := .ag [dS p.nm, dB p.x.g, Wd p.x.n, Wd p.x.d, dB p.y.g, Wd p.y.n, Wd p.y.d]
abbrev PtsD (l : List Mark) : D := .sl 7 (l.map Mark.D)
abbrev Body.D (b : Body) : D := .ag [dS b.nm, PtsD b.pts]
abbrev Joint.D (j : Joint) : D := .ag [dS j.nm, dI j.kind, dI j.a, dI j.pt, dI j.b, dI j.on, dI j.to]
abbrev Driver.D (d : Driver) : D := .ag [dS d.nm, dI d.body]
abbrev BodiesD (l : List Body) : D := .sl 2 (l.map Body.D)
abbrev JointsD (l : List Joint) : D := .sl 7 (l.map Joint.D)
abbrev DriversD (l : List Driver) : D := .sl 2 (l.map Driver.D)
abbrev Lkg.D (l : Lkg) : D := .ag [dS l.nm, BodiesD l.bodies, JointsD l.joints, DriversD l.drivers]
def big : Nat := 1000000000000000
def Mark.ok (k : Nat) (p : Mark) : Prop := p.nm.size ≤ big ∧ p.x.w k ∧ p.y.w k
def Body.ok (k : Nat) (b : Body) : Prop := b.nm.size ≤ big ∧ b.pts.length ≤ big ∧ ∀ i, (b.pts.getD i default).ok k
structure Lkg.ok (k : Nat) (l : Lkg) : Prop where
  nm : l.nm.size ≤ big
  nb : l.bodies.length ≤ big
  nj : l.joints.length ≤ big
  nd : l.drivers.length ≤ big
  b : ∀ i, (l.bodies.getD i default).ok k
  j : ∀ i, (l.joints.getD i default).nm.size ≤ big
  d : ∀ i, (l.drivers.getD i default).nm.size ≤ big
def fE (f : Nat → Nat) : Nat → Nat → Nat
  | 0, _ => 0
  | m + 1, i => if f i = 0 then fE f m (i + 1) else f i
theorem fE_hit {f : Nat → Nat} {n i : Nat} (h : i < n) (h0 : f i ≠ 0) : fE f (n - i) i = f i := by
  rw [show n - i = (n - (i + 1)) + 1 by omega, fE, if_neg h0]
theorem fE_miss {f : Nat → Nat} {n i : Nat} (h : i < n) (h0 : f i = 0) : fE f (n - i) i = fE f (n - (i + 1)) (i + 1) := by
  rw [show n - i = (n - (i + 1)) + 1 by omega, fE, if_pos h0]
theorem fE_end {f : Nat → Nat} {n i : Nat} (h : ¬ i < n) : fE f (n - i) i = 0 := by
  rw [show n - i = 0 by omega, fE]
theorem getM {α : Type} [Inhabited α] (f : α → D) {l : List α} {i : Nat} (h : i < l.length) : (l.map f)[i]? = some (f (l.getD i default)) := by
  simp [h]
def erV (n : Nat) : D := match n with
  | 0 => nilE
  | m + 1 => er ((m + 1 : Nat) : Int)
end Lift
