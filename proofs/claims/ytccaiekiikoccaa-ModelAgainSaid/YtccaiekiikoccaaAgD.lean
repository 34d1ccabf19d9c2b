/- Parts of the proof, one behind the other: the logic, the contracts of the functions that the statement reaches. -/
import Derived.Test.YtccaiekiikoccaaAgC
import Derived.Laws.Strings
import Derived.Test.YtccaiekiikoccaaRows
set_option linter.unusedVariables false
set_option linter.unusedSimpArgs false
/- The reference's integers: division bit by bit. -/
namespace Lift
open Go Go.Proofs

theorem divIq (i c : Nat) (hc : 0 < c) (h : i ≤ 9223372036854775807) : divV true .i64 (i : Int) (c : Int) = .int .i64 ((i / c : Nat) : Int) := by
  have e : ((i : Int).tdiv (c : Int)) = ((i / c : Nat) : Int) := rfl
  have : i / c ≤ i := Nat.div_le_self i c
  generalize i / c = q at e this ⊢
  simp only [divV, e, wI64 (x := (q : Int)) (by omega) (by omega)]
theorem divIr (i c : Nat) : divV false .i64 (i : Int) (c : Int) = .int .i64 ((i % c : Nat) : Int) := rfl
theorem bit_of (A i : Nat) : A / 4294967296 ^ (i / 32) % 4294967296 / 2 ^ (i % 32) % 2 = A / 2 ^ i % 2 := by
  have e : (2 : Nat) ^ i = 4294967296 ^ (i / 32) * 2 ^ (i % 32) := by
    rw [show (4294967296 : Nat) = 2 ^ 32 from rfl, ← Nat.pow_mul, ← Nat.pow_add]; congr 1; omega
  rw [e, ← Nat.div_div_eq_div_mul]
  generalize A / 4294967296 ^ (i / 32) = w
  have h32 : (4294967296 : Nat) = 2 ^ (i % 32) * (2 * 2 ^ (31 - i % 32)) := by
    rw [show 2 * 2 ^ (31 - i % 32) = 2 ^ (32 - i % 32) by rw [← Nat.pow_succ']; congr 1; omega, ← Nat.pow_add, show i % 32 + (32 - i % 32) = 32 by omega]
  have h1 : w = 4294967296 * (w / 4294967296) + w % 4294967296 := by omega
  conv => rhs; rw [h1, h32, Nat.mul_assoc, Nat.mul_add_div (Nat.pow_pos (by decide)), Nat.mul_assoc, Nat.mul_add_mod, ← h32]
theorem dbl_digit {x c : Nat} (hx : x < 4294967296) (hc : c ≤ 1) : (x * 2 % 4294967296 ||| c) = x * 2 % 4294967296 + c ∧ x * 2 % 4294967296 + c < 4294967296 ∧ x * 2 % 4294967296 + c + 4294967296 * (x / 2147483648) = 2 * x + c := by
  have h := or_add (x % 2147483648) 1 c (by omega)
  rw [show x % 2147483648 * 2 ^ 1 = x * 2 % 4294967296 by omega] at h
  exact ⟨h, by omega, by omega⟩
/-- A bit is set that is not set yet. -/
theorem set_bit {q : List Nat} {i m : Nat} (hw : W32 q) (hq : nv q = 2 ^ (i + 1) * m) (hi : i / 32 < q.length) :
    (q.getD (i / 32) 0 ||| 2 ^ (i % 32)) = q.getD (i / 32) 0 + 2 ^ (i % 32) ∧ q.getD (i / 32) 0 + 2 ^ (i % 32) < 4294967296 ∧ nv (q.set (i / 32) (q.getD (i / 32) 0 + 2 ^ (i % 32))) = nv q + 2 ^ i := by
  have e : (2 : Nat) ^ i = 4294967296 ^ (i / 32) * 2 ^ (i % 32) := by
    rw [show (4294967296 : Nat) = 2 ^ 32 from rfl, ← Nat.pow_mul, ← Nat.pow_add]; congr 1; omega
  have hd := nv_digit hw (i / 32)
  have hd2 : nv q / 4294967296 ^ (i / 32) = 2 ^ (i % 32 + 1) * m := by
    rw [hq, Nat.pow_succ, e, show 4294967296 ^ (i / 32) * 2 ^ (i % 32) * 2 * m = 4294967296 ^ (i / 32) * (2 ^ (i % 32 + 1) * m) by rw [Nat.pow_succ]; ac_rfl]
    exact Nat.mul_div_cancel_left _ (pow_pos _)
  have h32 : (4294967296 : Nat) = 2 ^ (i % 32 + 1) * 2 ^ (31 - i % 32) := by
    rw [← Nat.pow_add, show i % 32 + 1 + (31 - i % 32) = 32 by omega]
  have hdig : q.getD (i / 32) 0 = 2 ^ (i % 32 + 1) * (m % 2 ^ (31 - i % 32)) := by
    rw [hd, hd2]
    conv => lhs; rw [h32]
    exact Nat.mul_mod_mul_left _ _ _
  have hml : m % 2 ^ (31 - i % 32) + 1 ≤ 2 ^ (31 - i % 32) := Nat.mod_lt _ (Nat.pow_pos (by decide))
  have hmm : 2 ^ (i % 32 + 1) * (m % 2 ^ (31 - i % 32) + 1) ≤ 2 ^ (i % 32 + 1) * 2 ^ (31 - i % 32) := Nat.mul_le_mul_left _ hml
  rw [← h32, Nat.mul_add, Nat.mul_one, ← hdig] at hmm
  have hp : (2 : Nat) ^ (i % 32 + 1) = 2 ^ (i % 32) * 2 := Nat.pow_succ ..
  have hp0 : 0 < (2 : Nat) ^ (i % 32) := Nat.pow_pos (by decide)
  have hlt : q.getD (i / 32) 0 + 2 ^ (i % 32) < 4294967296 := by omega
  refine ⟨?_, hlt, ?_⟩
  · rw [hdig, Nat.mul_comm]
    exact or_add _ _ _ (by omega)
  · have h1 := nv_set_add (l := q) (i := i / 32) (x := q.getD (i / 32) 0 + 2 ^ (i % 32)) hi
    rw [Nat.mul_add, ← e] at h1
    omega

theorem divmod_add {n V Q R : Nat} (h : n = V * Q + R) (h1 : V ≤ R) (h2 : R < V + V) : n / V = Q + 1 ∧ n % V = R - V := by
  have e : n = V * (Q + 1) + (R - V) := by rw [h, Nat.mul_add, Nat.mul_one]; omega
  rw [e, Nat.mul_add_div (by omega), Nat.mul_add_mod, Nat.div_eq_of_lt (by omega), Nat.mod_eq_of_lt (by omega)]
  exact ⟨rfl, rfl⟩
set_option maxHeartbeats 1600000 in
theorem r01_divide_ok (a b : List Nat) (ha : W32 a) (hb : W32 b) (na : Nm a) (hla : a.length ≤ 50000000) (hlb : b.length ≤ 50000000) (hb0 : nv b ≠ 0) : Pure Try.prog 76 [Wd a, Wd b] (.tu [Wd (tw (nv a / nv b)), Wd (tw (nv a % nv b))]) := by
  refine Pure.intro (n := 76) tok Try.func76 rfl rfl rfl (Nat.le_of_ble_eq_true rfl) (by kernel_rfl) (fun B F0 w0 => ?_)
  obtain ⟨V, hV⟩ : ∃ V, V = nv b := ⟨_, rfl⟩
  obtain ⟨A, hA⟩ : ∃ A, A = nv a := ⟨_, rfl⟩
  have hVl := nv_lt hb
  have hAl := nv_lt ha
  have hbits := r01_bits_ok a ha na (by omega)
  rw [← hV] at hb0 hVl ⊢
  rw [← hA] at hAl hbits ⊢
  have hbl : bl A ≤ 32 * a.length := bl_le_of_lt (by rw [Nat.pow_mul]; exact hAl)
  have hdA : ∀ j, a.getD j 0 = A / 4294967296 ^ j % 4294967296 := fun j => by rw [hA]; exact nv_digit ha j
  refine AW.seq ?_
  refine AW.region ?_   -- 138
  refine AOps.run tok 2 _ _ _ _ rfl ?_
  refine AOps.nil ?_
  refine AW.seq ?_
  refine AW.region ?_   -- 139
  refine AOps.run tok 2 _ _ _ _ rfl ?_
  refine AOps.makeW tok a.length rfl rfl rfl rfl rfl rfl (by rw [lenWd]) rfl (by omega) ?_
  refine AOps.run tok 1 _ _ _ _ rfl ?_
  refine AOps.nil ?_
  refine AW.seq ?_
  refine AW.region ?_   -- 140
  refine AOps.run tok 3 _ _ _ _ rfl ?_
  refine AOps.makeW tok (b.length + 1) rfl rfl rfl rfl rfl rfl (by rw [lenWd, wI64 (by omega) (by omega)]; omega) rfl (by omega) ?_
  refine AOps.run tok 1 _ _ _ _ rfl ?_
  refine AOps.nil ?_
  refine AW.seq ?_
  refine AW.seq ?_
  refine AW.region ?_   -- 141
  refine AOps.run tok 1 _ _ _ _ rfl ?_
  refine AOps.call tok rfl rfl rfl rfl hbits ?_
  refine AOps.run tok 2 _ _ _ _ rfl ?_
  rw [wI64 (x := (bl A : Int) - 1) (by omega) (by omega)]
  refine AOps.nil ?_
  refine AW.block ?_   -- block 0
  have hAbl : A / 2 ^ bl A = 0 := Nat.div_eq_of_lt (lt_bl A)
  refine AW.loopS [0, 1, 6, 7, 8] (fun s : Nat × List Nat × List Nat => [(0, .d (Wd a)), (1, .d (Wd b)), (6, .ow 83 (s.2.1.map wd)), (7, .ow 83 (s.2.2.map wd)), (8, .d (dI ((s.1 : Int) - 1)))])
    (fun s => s.1 ≤ bl A ∧ s.2.1.length = a.length ∧ W32 s.2.1 ∧ s.2.2.length = b.length + 1 ∧ W32 s.2.2 ∧ nv s.2.1 = 2 ^ s.1 * (A / 2 ^ s.1 / V) ∧ nv s.2.2 = A / 2 ^ s.1 % V) (fun s => s.1) (bl A, List.replicate a.length 0, List.replicate (b.length + 1) 0) rfl
    ⟨Nat.le_refl _, by simp, W32.replicate _, by simp, W32.replicate _, by simp [nv_replicate, hAbl], by simp [nv_replicate, hAbl]⟩ (fun (k, q, r) ⟨hk, hql, hqw, hrl, hrw, hqv, hrv⟩ => ?_)
  simp only [] at hk hql hqw hrl hrw hqv hrv
  refine AW.seq ?_
  refine AW.seq ?_
  refine AW.region ?_   -- 141
  refine AOps.run tok 2 _ _ _ _ rfl ?_
  refine AOps.nil ?_
  refine AW.cond rfl (fun h => ?_) (fun h => ?_)
  · have hk0 : 0 < k := by have := of_decide_eq_true h; omega
    obtain ⟨i, rfl⟩ : ∃ i, k = i + 1 := ⟨k - 1, by omega⟩
    rw [show ((i + 1 : Nat) : Int) - 1 = (i : Int) by omega]
    have hi32 : i / 32 < a.length := by omega
    obtain ⟨bit, hbit⟩ : ∃ bit, bit = A / 2 ^ i % 2 := ⟨_, rfl⟩
    have hbit1 : bit ≤ 1 := by omega
    refine AW.skip ?_
    refine AW.seq ?_
    refine AW.block ?_   -- block 1
    refine AW.seq ?_
    refine AW.region ?_   -- 143
    refine AOps.run tok 2 _ _ _ _ rfl ?_
    refine AOps.div tok rfl rfl rfl rfl (by decide) ?_
    rw [show divV true .i64 (i : Int) 32 = .int .i64 ((i / 32 : Nat) : Int) from divIq i 32 (by decide) (by omega)]
    refine AOps.idx tok (wd (a.getD (i / 32) 0)) rfl rfl rfl rfl (Int.natCast_nonneg _) (getWd hi32) ?_
    refine AOps.run tok 2 _ _ _ _ rfl ?_
    refine AOps.div tok rfl rfl rfl rfl (by decide) ?_
    rw [show divV false .i64 (i : Int) 32 = .int .i64 ((i % 32 : Nat) : Int) from divIr i 32]
    refine AOps.run tok 3 _ _ _ _ rfl ?_
    have hsh : ((a.getD (i / 32) 0 : Nat) : Int).fdiv (2 ^ (min (i % 32) IntKind.u32.bits)) = ((a.getD (i / 32) 0 / 2 ^ (i % 32) : Nat) : Int) := shrW _ _ (by omega)
    rw [hsh, and1 _ (Nat.lt_of_le_of_lt (Nat.div_le_self _ _) (ha.getD _)), hdA, bit_of, ← hbit]
    refine AOps.nil ?_
    refine AW.norm [0, 1, 6, 7, 8, 9] [(0, .d (Wd a)), (1, .d (Wd b)), (6, .ow 83 (q.map wd)), (7, .ow 83 (r.map wd)), (8, .d (dI i)), (9, .d (wd bit))] rfl ?_
    obtain ⟨r0, hr0⟩ : ∃ r0, r0 = nv r := ⟨_, rfl⟩
    have hr0V : r0 < V := by rw [hr0, hrv]; exact Nat.mod_lt _ (by omega)
    refine AW.cut [0, 1, 6, 7, 8] (fun s : List Nat => [(0, .d (Wd a)), (1, .d (Wd b)), (6, .ow 83 (q.map wd)), (7, .ow 83 (s.map wd)), (8, .d (dI i))]) (fun s => s.length = b.length + 1 ∧ W32 s ∧ nv s = 2 * r0 + bit) ?_ (fun r' ⟨hrl', hrw', hrv'⟩ => ?_)
    · as_aux_lemma =>
      refine AW.seq ?_
      refine AW.region ?_   -- 144
      refine AOps.run tok 3 _ _ _ _ rfl ?_
      rw [lenWd, hrl]
      refine AOps.nil ?_
      refine AW.block ?_   -- block 2
      refine AW.loopS [0, 1, 6, 7, 8, 9, 35, 36] (fun s : Nat × List Nat × Nat => [(0, .d (Wd a)), (1, .d (Wd b)), (6, .ow 83 (q.map wd)), (7, .ow 83 (s.2.1.map wd)), (8, .d (dI i)), (9, .d (wd s.2.2)), (35, .d (dI (b.length + 1 : Nat))), (36, .d (dI s.1))])
        (fun s => s.1 ≤ b.length + 1 ∧ s.2.1.length = b.length + 1 ∧ W32 s.2.1 ∧ s.2.2 ≤ 1 ∧ s.2.1.drop s.1 = r.drop s.1 ∧ nv (s.2.1.take s.1) + 4294967296 ^ s.1 * s.2.2 = 2 * nv (r.take s.1) + bit) (fun s => b.length + 1 - s.1) (0, r, bit) rfl ⟨Nat.zero_le _, hrl, hrw, hbit1, rfl, by simp [nv]⟩ (fun (j, M, c) ⟨hj, hMl, hMw, hc, hd, hv⟩ => ?_)
      simp only [] at hj hMl hMw hc hd hv
      refine AW.seq ?_
      refine AW.region ?_   -- 144
      refine AOps.run tok 1 _ _ _ _ rfl ?_
      refine AOps.nil ?_
      refine AW.seq ?_
      refine AW.cond rfl (fun h => ?_) (fun h => ?_)
      · have hjN : j < b.length + 1 := by have := of_decide_eq_true h; omega
        have hx := hMw.getD j
        have hME := getD_of_drop hd
        obtain ⟨hor, hlt, hkey⟩ := dbl_digit hx hc
        refine AW.skip ?_
        refine AW.seq ?_
        refine AW.block ?_   -- block 3
        refine AW.seq ?_
        refine AW.region ?_   -- 144
        refine AOps.run tok 2 _ _ _ _ rfl ?_
        refine AOps.nil ?_
        refine AW.draw3 tok hmix [(13, true), (1, false), (1, true)] 15 [7] (by kernel_rfl) ⟨rfl, ?_⟩   -- 145
        refine APre.run tok 4 _ _ _ _ rfl ?_
        refine APre.idxo tok rfl rfl rfl rfl rfl rfl (Int.natCast_nonneg j) (by simp; omega) ?_
        refine APre.loadel tok (wd (M.getD j 0)) rfl rfl rfl rfl rfl (getWd (by simp; omega)) rfl ?_
        refine APre.run tok 5 _ _ _ _ rfl ?_
        refine APre.idxo tok rfl rfl rfl rfl rfl rfl (Int.natCast_nonneg j) (by simp; omega) ?_
        refine APre.loadel tok (wd (M.getD j 0)) rfl rfl rfl rfl rfl (getWd (by simp; omega)) rfl ?_
        refine APre.nil ⟨rfl, ?_⟩
        refine APre.run tok 1 _ _ _ _ rfl ?_
        refine APre.nil ⟨rfl, ?_⟩
        refine APre.idxo tok rfl rfl rfl rfl rfl rfl (Int.natCast_nonneg j) (by simp; omega) ?_
        have hshl : IntKind.u32.wrap (((M.getD j 0 : Nat) : Int) * 2 ^ (min 1 IntKind.u32.bits)) = ((M.getD j 0 * 2 % 4294967296 : Nat) : Int) := by
          rw [show ((M.getD j 0 : Nat) : Int) * 2 ^ (min 1 IntKind.u32.bits) = ((M.getD j 0 * 2 : Nat) : Int) by rw [show min 1 IntKind.u32.bits = 1 from rfl]; push_cast; rfl]
          exact cvU32 _
        have hshr : ((M.getD j 0 : Nat) : Int).fdiv (2 ^ (min 31 IntKind.u32.bits)) = ((M.getD j 0 / 2147483648 : Nat) : Int) := shrW _ 31 (by decide)
        rw [hshl, hshr, orU32 _ c (Nat.mod_lt _ (by decide)) (by omega), hor]
        refine APre.nil ⟨_, StL.cons (StOk.elW (M.getD j 0 * 2 % 4294967296 + c) rfl (by omega) rfl) StL.nil, ?_⟩
        refine AOps.run tok 1 _ _ _ _ rfl ?_
        refine AOps.nil ?_
        refine AW.region ?_   -- 144
        refine AOps.run tok 2 _ _ _ _ rfl ?_
        rw [wI64 (by omega) (by omega)]
        refine AOps.nil ?_
        refine ⟨(j + 1, M.set j (M.getD j 0 * 2 % 4294967296 + c), M.getD j 0 / 2147483648), rfl, ⟨by omega, by simpa using hMl, hMw.set _ hlt, by show _ / _ ≤ 1; omega, ?_, ?_⟩, by simp only []; omega⟩
        · simp only []
          rw [drop_set_lt, drop_succ hd]
        · simp only []
          rw [nv_take_set (by omega), nv_take_succ r j, ← hME, Nat.pow_succ, Nat.mul_assoc]
          have h2 := congrArg (fun z => 4294967296 ^ j * z) hkey
          simp only [Nat.mul_add] at h2
          have h3 : 4294967296 ^ j * (2 * M.getD j 0) = 2 * (4294967296 ^ j * M.getD j 0) := by ac_rfl
          rw [Nat.mul_add]
          omega
      · have hjN : j = b.length + 1 := by have := of_decide_eq_false h; omega
        subst hjN
        rw [List.take_of_length_le (by omega), List.take_of_length_le (by omega), ← hr0] at hv
        have hc0 : c = 0 := by
          rw [Nat.pow_succ] at hv
          rcases Nat.eq_zero_or_pos c with h | h
          · exact h
          · have : 4294967296 ^ b.length * 4294967296 * 1 ≤ 4294967296 ^ b.length * 4294967296 * c := Nat.mul_le_mul_left _ h
            omega
        rw [hc0, Nat.mul_zero, Nat.add_zero] at hv
        refine AW.exit ?_
        exact ⟨M, rfl, ⟨hMl, hMw, hv⟩⟩
    · have hAi : A / 2 ^ i = V * (2 * (A / 2 ^ (i + 1) / V)) + (2 * r0 + bit) := by
        have e1 : A / 2 ^ i = 2 * (A / 2 ^ (i + 1)) + bit := by
          rw [hbit, Nat.pow_succ, ← Nat.div_div_eq_div_mul]; omega
        have e2 := Nat.div_add_mod (A / 2 ^ (i + 1)) V
        rw [← hrv, ← hr0] at e2
        have e3 : V * (2 * (A / 2 ^ (i + 1) / V)) = 2 * (V * (A / 2 ^ (i + 1) / V)) := by ac_rfl
        omega
      have hq1 : 2 ^ (i + 1) * (A / 2 ^ (i + 1) / V) = 2 ^ i * (2 * (A / 2 ^ (i + 1) / V)) := by rw [Nat.pow_succ]; ac_rfl
      refine AW.seq ?_
      refine AW.region ?_   -- 147
      refine AOps.run tok 2 _ _ _ _ rfl ?_
      refine AOps.calls tok rfl rfl rfl rfl (r01_compare_ok r' b hrw' hb (by omega) (by omega)) rfl ?_
      refine AOps.run tok 1 _ _ _ _ rfl ?_
      refine AOps.nil ?_
      rw [hrv', ← hV]
      refine AW.cond rfl (fun h => ?_) (fun h => ?_)
      · as_aux_lemma =>
        have hge : V ≤ 2 * r0 + bit := by
          have := of_decide_eq_true h
          unfold cmpN at this
          split at this <;> omega
        have hdm := divmod_add (n := A / 2 ^ i) (V := V) (Q := 2 * (A / 2 ^ (i + 1) / V)) (R := 2 * r0 + bit) hAi hge (by omega)
        obtain ⟨hs1, hs2, hs3⟩ := set_bit hqw hqv (show i / 32 < q.length by omega)
        have hwn : win r' 0 (b.length + 1) = r' := by rw [win, List.drop_zero, List.take_of_length_le (by omega)]
        have htake := r01_take_ok r' b 0 (b.length + 1) hrw' hb (by omega) (by omega) (by rw [hwn, hrv', ← hV]; exact hge)
        rw [hwn, hrv', ← hV] at htake
        obtain ⟨r2, hr2⟩ : ∃ r2, r2 = put r' 0 (b.length + 1) (dg (b.length + 1) (2 * r0 + bit - V)) := ⟨_, rfl⟩
        have hr2l : r2.length = b.length + 1 := by rw [hr2, put_length (by omega) (dg_length _ _)]; exact hrl'
        have hr2w : W32 r2 := by rw [hr2]; exact hrw'.put (w32_dg _ _) _ _
        have hr2v : nv r2 = 2 * r0 + bit - V := by
          have h1 := win_put (l := r') (lo := 0) (m := b.length + 1) (w := dg (b.length + 1) (2 * r0 + bit - V)) (by omega) (dg_length _ _)
          rw [← hr2, win, List.drop_zero, List.take_of_length_le (by omega)] at h1
          rw [h1, nv_dg]
          refine Nat.mod_eq_of_lt ?_
          rw [Nat.pow_succ]; omega
        rw [← hr2] at htake
        have hml : (r'.map wd).length = b.length + 1 := by rw [lenWd]; exact hrl'
        rw [← hml] at htake
        refine AW.seq ?_
        refine AW.region ?_   -- 148
        refine AOps.run tok 2 _ _ _ _ rfl ?_
        refine AOps.callm tok rfl rfl rfl rfl htake (by rw [hml]; omega) (plainWd _) rfl ?_
        refine AOps.nil ?_
        refine AW.norm [0, 1, 6, 7, 8] [(0, .d (Wd a)), (1, .d (Wd b)), (6, .ow 83 (q.map wd)), (7, .ow 83 (r2.map wd)), (8, .d (dI i))] rfl ?_
        refine AW.draw hmix 10 (by kernel_rfl) ?_   -- 149
        refine APre.run tok 2 _ _ _ _ rfl ?_
        refine APre.div tok rfl rfl rfl rfl rfl (by decide) ?_
        rw [show divV true .i64 (i : Int) 32 = .int .i64 ((i / 32 : Nat) : Int) from divIq i 32 (by decide) (by omega)]
        refine APre.idxo tok rfl rfl rfl rfl rfl rfl (Int.natCast_nonneg _) (by simp; omega) ?_
        refine APre.loadel tok (wd (q.getD (i / 32) 0)) rfl rfl rfl rfl rfl (getWd (by simp; omega)) rfl ?_
        refine APre.run tok 1 _ _ _ _ rfl ?_
        refine APre.div tok rfl rfl rfl rfl rfl (by decide) ?_
        rw [show divV false .i64 (i : Int) 32 = .int .i64 ((i % 32 : Nat) : Int) from divIr i 32]
        refine APre.run tok 2 _ _ _ _ rfl ?_
        refine APre.idxo tok rfl rfl rfl rfl rfl rfl (Int.natCast_nonneg _) (by simp; omega) ?_
        refine APre.nil ?_
        have hpw : 2 ^ (i % 32) < 4294967296 := by omega
        have hshl : IntKind.u32.wrap (1 * 2 ^ (min (i % 32) IntKind.u32.bits)) = ((2 ^ (i % 32) : Nat) : Int) := by
          rw [show min (i % 32) IntKind.u32.bits = i % 32 from Nat.min_eq_left (by show i % 32 ≤ 32; omega), Int.one_mul]
          have e : (2 : Int) ^ (i % 32) = ((2 ^ (i % 32) : Nat) : Int) := by push_cast; rfl
          rw [e]
          rw [cvU32, Nat.mod_eq_of_lt hpw]
        rw [hshl, orU32 _ _ (hqw.getD _) hpw, hs1]
        refine AOps.storeW tok (q.getD (i / 32) 0 + 2 ^ (i % 32)) rfl rfl rfl (by simp; omega) rfl ?_
        refine AOps.nil ?_
        refine AW.region ?_   -- 141
        refine AOps.run tok 3 _ _ _ _ rfl ?_
        rw [wI64 (x := (i : Int) - 1) (by omega) (by omega)]
        refine AOps.nil ?_
        refine ⟨(i, q.set (i / 32) (q.getD (i / 32) 0 + 2 ^ (i % 32)), r2), rfl, ⟨by simp only []; omega, by simpa using hql, hqw.set _ hs2, hr2l, hr2w, ?_, ?_⟩, by simp only []; omega⟩
        · simp only []
          rw [hs3, hdm.1, hqv, hq1, Nat.mul_add, Nat.mul_one]
        · simp only []
          rw [hdm.2, hr2v]
      · have hlt : 2 * r0 + bit < V := by
          have := of_decide_eq_false h
          unfold cmpN at this
          split at this <;> omega
        have e1 : A / 2 ^ i / V = 2 * (A / 2 ^ (i + 1) / V) := by rw [hAi, Nat.mul_add_div (by omega), Nat.div_eq_of_lt hlt, Nat.add_zero]
        have e2 : A / 2 ^ i % V = 2 * r0 + bit := by rw [hAi, Nat.mul_add_mod, Nat.mod_eq_of_lt hlt]
        refine AW.skip ?_
        refine AW.region ?_   -- 141
        refine AOps.run tok 3 _ _ _ _ rfl ?_
        rw [wI64 (x := (i : Int) - 1) (by omega) (by omega)]
        refine AOps.nil ?_
        exact ⟨(i, q, r'), rfl, ⟨by simp only []; omega, hql, hqw, hrl', hrw', by simp only []; rw [e1, hqv, hq1], by simp only []; rw [e2, hrv']⟩, by simp only []; omega⟩
  · have hk0 : k = 0 := by have := of_decide_eq_false h; omega
    subst hk0
    simp only [Nat.pow_zero, Nat.div_one, Nat.one_mul] at hqv hrv
    refine AW.exit ?_
    refine AW.seq ?_
    refine AW.region ?_   -- 152
    refine AOps.run tok 1 _ _ _ _ rfl ?_
    refine AOps.frz tok 6 rfl rfl ?_
    refine AOps.call tok rfl rfl rfl rfl (r01_trim_ok q hqw (by omega)) ?_
    refine AOps.run tok 1 _ _ _ _ rfl ?_
    refine AOps.frz tok 7 rfl rfl ?_
    refine AOps.call tok rfl rfl rfl rfl (r01_trim_ok r hrw (by omega)) ?_
    refine AOps.run tok 2 _ _ _ _ rfl ?_
    refine AOps.nil ?_
    rw [hqv, hrv]
    exact AW.ret rfl
end Lift
/- The reference's integers with a sign. -/
namespace Lift
open Go Go.Proofs

theorem r01_Valid_ok (g : Bool) (m : List Nat) (hm : W32 m) (hl : m.length ≤ 1000000000) : Pure Try.prog 74 [Wh g m] (dB (okW g m)) := by
  refine Pure.intro (n := 19) tok Try.func74 rfl rfl rfl (Nat.le_of_ble_eq_true rfl) (by kernel_rfl) (fun B F0 w0 => ?_)
  refine AW.seq ?_
  refine AW.region ?_   --
  refine AOps.run tok 2 _ _ _ _ rfl ?_
  refine AOps.nil ?_
  refine AW.seq ?_
  refine AW.seq ?_
  refine AW.region ?_   --
  refine AOps.run tok 4 _ _ _ _ rfl ?_
  refine AOps.nil ?_
  refine AW.cond rfl (fun h => ?_) (fun h => ?_)
  · have h0 : m = [] := by simpa using h
    rw [okW, if_pos h0]
    refine AW.seq ?_
    refine AW.region ?_   --
    refine AOps.run tok 4 _ _ _ _ rfl ?_
    refine AOps.nil ?_
    exact AW.ret rfl
  · have h0 : m ≠ [] := by simpa using h
    have hp : 0 < m.length := List.length_pos_iff.2 h0
    rw [okW, if_neg h0]
    refine AW.skip ?_
    refine AW.seq ?_
    refine AW.region ?_   --
    refine AOps.run tok 6 _ _ _ _ rfl ?_
    rw [lenWd, wI64 (by omega) (by omega), show (m.length : Int) - 1 = ((m.length - 1 : Nat) : Int) by omega]
    refine AOps.idx tok (wd (m.getD (m.length - 1) 0)) rfl rfl rfl rfl (Int.natCast_nonneg _) (getWd (by omega)) ?_
    refine AOps.run tok 3 _ _ _ _ rfl ?_
    refine AOps.nil ?_
    have e : (m.getD (m.length - 1) 0 != 0) = (((m.getD (m.length - 1) 0 : Nat) : Int) != 0) := by
      rw [Bool.eq_iff_iff]; simp
    rw [e]
    exact AW.ret rfl
theorem r01_mag_ok (z : Int) (hl : L z ≤ 1000000000) : Pure Try.prog 47 [WhI z] (Wd (iw z)) := by
  refine Pure.intro (n := 8) tok Try.func47 rfl rfl rfl (Nat.le_of_ble_eq_true rfl) (by kernel_rfl) (fun B F0 w0 => ?_)
  refine AW.seq ?_
  refine AW.region ?_   --
  refine AOps.run tok 2 _ _ _ _ rfl ?_
  refine AOps.nil ?_
  refine AW.seq ?_
  refine AW.seq ?_
  refine AW.region ?_   --
  refine AOps.run tok 1 _ _ _ _ rfl ?_
  refine AOps.call tok rfl rfl rfl rfl (r01_Valid_ok (decide (z < 0)) (iw z) (w32_iw z) hl) ?_
  rw [okW_iw]
  refine AOps.run tok 1 _ _ _ _ rfl ?_
  refine AOps.nil ?_
  refine AW.condF rfl ?_
  refine AW.skip ?_
  refine AW.seq ?_
  refine AW.region ?_   --
  refine AOps.run tok 3 _ _ _ _ rfl ?_
  refine AOps.nil ?_
  exact AW.ret rfl
theorem r01_neg_ok (z : Int) (hl : L z ≤ 1000000000) : Pure Try.prog 48 [WhI z] (dB (decide (z < 0))) := by
  refine Pure.intro (n := 9) tok Try.func48 rfl rfl rfl (Nat.le_of_ble_eq_true rfl) (by kernel_rfl) (fun B F0 w0 => ?_)
  refine AW.seq ?_
  refine AW.region ?_   --
  refine AOps.run tok 2 _ _ _ _ rfl ?_
  refine AOps.nil ?_
  refine AW.seq ?_
  refine AW.region ?_   --   -- GUARDS
  refine AOps.run tok 1 _ _ _ _ rfl ?_
  refine AOps.call tok rfl rfl rfl rfl (r01_Valid_ok (decide (z < 0)) (iw z) (w32_iw z) hl) ?_
  rw [okW_iw]
  refine AOps.run tok 5 _ _ _ _ rfl ?_
  refine AOps.nil ?_
  exact AW.ret rfl


theorem r01_form_ok (g : Bool) (m : List Nat) (hm : W32 m) (hl : m.length ≤ 1000000000) : Pure Try.prog 52 [dB g, Wd m] (WhI (sg g (nv m))) := by
  refine Pure.intro (n := 14) tok Try.func52 rfl rfl rfl (Nat.le_of_ble_eq_true rfl) (by kernel_rfl) (fun B F0 w0 => ?_)
  refine AW.seq ?_
  refine AW.region ?_   -- 35
  refine AOps.run tok 1 _ _ _ _ rfl ?_
  refine AOps.nil ?_
  refine AW.seq ?_
  refine AW.region ?_   -- 36
  refine AOps.run tok 1 _ _ _ _ rfl ?_
  refine AOps.call tok rfl rfl rfl rfl (r01_trim_ok m hm hl) ?_
  refine AOps.run tok 1 _ _ _ _ rfl ?_
  refine AOps.nil ?_
  have hz := nv_zero (nm_tw (nv m))
  rw [nv_tw] at hz
  rw [whI_sg]
  refine AW.seq ?_
  refine AW.seq ?_
  refine AW.region ?_   -- 37
  refine AOps.run tok 3 _ _ _ _ rfl ?_
  rw [len0]
  refine AOps.nil ?_
  refine AW.cond rfl (fun h => ?_) (fun h => ?_)
  · have h0 := of_decide_eq_true h
    rw [hz.2 h0, tw_zero, show (g && decide ((0 : Nat) ≠ 0)) = false by simp]
    refine AW.seq ?_
    refine AW.region ?_   -- 38
    refine AOps.run tok 2 _ _ _ _ rfl ?_
    refine AOps.nil ?_
    exact AW.ret rfl
  · have h0 := of_decide_eq_false h
    rw [show (g && decide (nv m ≠ 0)) = g by simp [mt hz.1 h0]]
    refine AW.skip ?_
    refine AW.seq ?_
    refine AW.region ?_   -- 40
    refine AOps.run tok 4 _ _ _ _ rfl ?_
    refine AOps.nil ?_
    exact AW.ret rfl
theorem r01_form_iw (g : Bool) (z : Int) (hl : L z ≤ 1000000000) : Pure Try.prog 52 [dB g, Wd (iw z)] (WhI (sg g z.natAbs)) := by
  have := r01_form_ok g (iw z) (w32_iw z) hl
  rwa [nv_iw] at this
theorem r01_form_tw (g : Bool) (n : Nat) (hl : (tw n).length ≤ 1000000000) : Pure Try.prog 52 [dB g, Wd (tw n)] (WhI (sg g n)) := by
  have := r01_form_ok g (tw n) (w32_tw n) hl
  rwa [nv_tw] at this

theorem r01_Of_ok (n : Int) (h0 : -9223372036854775808 ≤ n) (h1 : n ≤ 9223372036854775807) : Pure Try.prog 34 [dI n] (WhI n) := by
  refine Pure.intro (n := 19) tok Try.func34 rfl rfl rfl (Nat.le_of_ble_eq_true rfl) (by kernel_rfl) (fun B F0 w0 => ?_)
  have hfin : ∀ (m : Nat), m < 18446744073709551616 → m = n.natAbs → Pure Try.prog 52 [dB (decide (n < 0)), Wd [m % 4294967296, m / 4294967296 % 4294967296]] (WhI n) := fun m hm he => by
    have := r01_form_ok (decide (n < 0)) [m % 4294967296, m / 4294967296 % 4294967296] (W32.cons.2 ⟨Nat.mod_lt _ (by decide), W32.cons.2 ⟨Nat.mod_lt _ (by decide), W32.nil⟩⟩) (by simp)
    rw [two_words m hm, he, sg_abs] at this
    rw [he]
    exact this
  refine AW.seq ?_
  refine AW.region ?_   --
  refine AOps.run tok 1 _ _ _ _ rfl ?_
  refine AOps.nil ?_
  refine AW.seq ?_
  refine AW.region ?_   --
  refine AOps.run tok 3 _ _ _ _ rfl ?_
  refine AOps.nil ?_
  refine AW.cut [0, 2, 3] (fun _ : Unit => [(0, .d (dI n)), (2, .bx [dB false, .sl 1 []]), (3, .d (dU n.natAbs))]) (fun _ => True) ?_ (fun _ _ => ?_)
  · refine AW.seq ?_
    refine AW.region ?_   --
    refine AOps.run tok 2 _ _ _ _ rfl ?_
    refine AOps.nil ?_
    refine AW.cond rfl (fun h => ?_) (fun h => ?_)
    · have hn := of_decide_eq_true h
      refine AW.region ?_   --
      refine AOps.run tok 3 _ _ _ _ rfl ?_
      rw [cvI64U n hn h0, negU _ (by omega) (by omega), show 18446744073709551616 - (18446744073709551616 - n.natAbs) = n.natAbs by omega]
      refine AOps.nil ?_
      exact ⟨(), rfl, trivial⟩
    · have hn := of_decide_eq_false h
      refine AW.skip ?_
      rw [wU64 (x := n) (by omega) (by omega)]
      exact ⟨(), by rw [show ((n.natAbs : Nat) : Int) = n by omega]; rfl, trivial⟩
  · refine AW.seq ?_
    refine AW.region ?_   --
    refine AOps.run tok 7 _ _ _ _ rfl ?_
    rw [cvU32, shrU32, cvU32]
    refine AOps.bs tok rfl rfl rfl rfl ?_
    refine AOps.frz tok 17 rfl rfl ?_
    refine AOps.call tok rfl rfl rfl rfl (hfin n.natAbs (by omega) rfl) ?_
    refine AOps.run tok 1 _ _ _ _ rfl ?_
    refine AOps.nil ?_
    exact AW.ret rfl


theorem r01_Sign_ok (z : Int) (hl : L z ≤ 1000000000) : Pure Try.prog 31 [WhI z] (dI (sgI z)) := by
  refine Pure.intro (n := 9) tok Try.func31 rfl rfl rfl (Nat.le_of_ble_eq_true rfl) (by kernel_rfl) (fun B F0 w0 => ?_)
  refine AW.seq ?_
  refine AW.region ?_   -- 215
  refine AOps.run tok 2 _ _ _ _ rfl ?_
  refine AOps.nil ?_
  refine AW.seq ?_
  refine AW.seq ?_
  refine AW.region ?_   -- 216
  refine AOps.run tok 1 _ _ _ _ rfl ?_
  refine AOps.call tok rfl rfl rfl rfl (r01_mag_ok z hl) ?_
  refine AOps.run tok 2 _ _ _ _ rfl ?_
  rw [len0]
  refine AOps.nil ?_
  refine AW.cond rfl (fun h => ?_) (fun h => ?_)
  · have h0 : z = 0 := iw_nil.1 (of_decide_eq_true h)
    rw [show sgI z = 0 by subst h0; rfl]
    refine AW.seq ?_
    refine AW.region ?_   -- 217
    refine AOps.run tok 1 _ _ _ _ rfl ?_
    refine AOps.nil ?_
    exact AW.ret rfl
  · have h0 : z ≠ 0 := fun e => (of_decide_eq_false h) (iw_nil.2 e)
    refine AW.skip ?_
    refine AW.seq ?_
    refine AW.seq ?_
    refine AW.region ?_   -- 219
    refine AOps.run tok 1 _ _ _ _ rfl ?_
    refine AOps.call tok rfl rfl rfl rfl (r01_neg_ok z hl) ?_
    refine AOps.nil ?_
    refine AW.cond rfl (fun h => ?_) (fun h => ?_)
    · have hn := of_decide_eq_true h
      rw [show sgI z = -1 by unfold sgI; rw [if_pos hn]]
      refine AW.seq ?_
      refine AW.region ?_   -- 220
      refine AOps.run tok 1 _ _ _ _ rfl ?_
      refine AOps.nil ?_
      exact AW.ret rfl
    · have hn := of_decide_eq_false h
      rw [show sgI z = 1 by unfold sgI; rw [if_neg hn, if_neg h0]]
      refine AW.skip ?_
      refine AW.seq ?_
      refine AW.region ?_   -- 222
      refine AOps.run tok 1 _ _ _ _ rfl ?_
      refine AOps.nil ?_
      exact AW.ret rfl
theorem r01_compare_iw (x y : Int) (hx : L x ≤ 1000000000) (hy : L y ≤ 1000000000) : Pure Try.prog 85 [Wd (iw x), Wd (iw y)] (dI (cmpI x.natAbs y.natAbs)) := by
  rw [← cmpN_iw]
  exact r01_compare_ok (iw x) (iw y) (w32_iw x) (w32_iw y) hx hy
theorem r01_Neg_ok (z : Int) (hl : L z ≤ 1000000000) : Pure Try.prog 49 [WhI z] (WhI (-z)) := by
  refine Pure.intro (n := 9) tok Try.func49 rfl rfl rfl (Nat.le_of_ble_eq_true rfl) (by kernel_rfl) (fun B F0 w0 => ?_)
  refine AW.seq ?_
  refine AW.region ?_   --
  refine AOps.run tok 2 _ _ _ _ rfl ?_
  refine AOps.nil ?_
  refine AW.seq ?_
  refine AW.draw hmix 6 (by kernel_rfl) ?_   --
  refine APre.run tok 1 _ _ _ _ rfl ?_
  refine APre.call tok rfl rfl rfl rfl rfl (r01_neg_ok z hl) ?_
  refine APre.run tok 2 _ _ _ _ rfl ?_
  refine APre.call tok rfl rfl rfl rfl rfl (r01_mag_ok z hl) ?_
  refine APre.call tok rfl rfl rfl rfl rfl (r01_form_iw (!decide (z < 0)) z hl) ?_
  refine APre.nil ?_
  refine AOps.run tok 1 _ _ _ _ rfl ?_
  refine AOps.nil ?_
  rw [sg_not]
  exact AW.ret rfl

theorem r01_plus_iw (x y : Int) (hx : L x ≤ 100000000) (hy : L y ≤ 100000000) : Pure Try.prog 77 [Wd (iw x), Wd (iw y)] (Wd (tw (x.natAbs + y.natAbs))) := by
  have := r01_plus_ok (iw x) (iw y) (w32_iw x) (w32_iw y) hx hy
  rwa [nv_iw, nv_iw] at this
theorem r01_minus_iw (x y : Int) (hx : L x ≤ 100000000) (hle : y.natAbs ≤ x.natAbs) : Pure Try.prog 78 [Wd (iw x), Wd (iw y)] (Wd (tw (x.natAbs - y.natAbs))) := by
  have := r01_minus_ok (iw x) (iw y) (w32_iw x) (w32_iw y) hx (by rwa [nv_iw, nv_iw])
  rwa [nv_iw, nv_iw] at this
theorem r01_times_iw (x y : Int) (hx : L x ≤ 100000000) (hy : L y ≤ 100000000) : Pure Try.prog 86 [Wd (iw x), Wd (iw y)] (Wd (tw (x.natAbs * y.natAbs))) := by
  have := r01_times_ok (iw x) (iw y) (w32_iw x) (w32_iw y) hx hy
  rwa [nv_iw, nv_iw] at this
theorem r01_divide_iw (x y : Int) (hx : L x ≤ 50000000) (hy : L y ≤ 50000000) (h0 : y ≠ 0) : Pure Try.prog 76 [Wd (iw x), Wd (iw y)] (.tu [Wd (tw (x.natAbs / y.natAbs)), Wd (tw (x.natAbs % y.natAbs))]) := by
  have := r01_divide_ok (iw x) (iw y) (w32_iw x) (w32_iw y) (nm_iw x) hx hy (by rw [nv_iw]; omega)
  rwa [nv_iw, nv_iw] at this
set_option maxHeartbeats 400000 in
theorem r01_Add_ok (a b : Int) (ha : L a ≤ 100000000) (hb : L b ≤ 100000000) : Pure Try.prog 70 [WhI a, WhI b] (WhI (a + b)) := by
  refine Pure.intro (n := 38) tok Try.func70 rfl rfl rfl (Nat.le_of_ble_eq_true rfl) (by kernel_rfl) (fun B F0 w0 => ?_)
  refine AW.seq ?_
  refine AW.region ?_   -- 229
  refine AOps.run tok 3 _ _ _ _ rfl ?_
  refine AOps.nil ?_
  refine AW.seq ?_
  refine AW.draw hmix 4 (by kernel_rfl) ?_   -- 230
  refine APre.run tok 1 _ _ _ _ rfl ?_
  refine APre.call tok rfl rfl rfl rfl rfl (r01_mag_ok a (by omega)) ?_
  refine APre.run tok 1 _ _ _ _ rfl ?_
  refine APre.call tok rfl rfl rfl rfl rfl (r01_mag_ok b (by omega)) ?_
  refine APre.nil ?_
  refine AOps.run tok 2 _ _ _ _ rfl ?_
  refine AOps.nil ?_
  refine AW.norm [2, 3, 4, 5, 6] [(2, .bx [dB (decide (a < 0)), Wd (iw a)]), (3, .bx [dB (decide (b < 0)), Wd (iw b)]), (4, .bx [dB false, .sl 1 []]), (5, .d (Wd (iw a))), (6, .d (Wd (iw b)))] rfl ?_
  refine AW.seq ?_
  refine AW.seq ?_
  refine AW.draw hmix 5 (by kernel_rfl) ?_   -- 231
  refine APre.run tok 1 _ _ _ _ rfl ?_
  refine APre.call tok rfl rfl rfl rfl rfl (r01_neg_ok a (by omega)) ?_
  refine APre.run tok 1 _ _ _ _ rfl ?_
  refine APre.call tok rfl rfl rfl rfl rfl (r01_neg_ok b (by omega)) ?_
  refine APre.be tok rfl rfl rfl rfl rfl ?_
  refine APre.nil ?_
  refine AOps.nil ?_
  refine AW.norm [2, 3, 4, 5, 6, 15] [(2, .bx [dB (decide (a < 0)), Wd (iw a)]), (3, .bx [dB (decide (b < 0)), Wd (iw b)]), (4, .bx [dB false, .sl 1 []]), (5, .d (Wd (iw a))), (6, .d (Wd (iw b))), (15, .d (dB ((decide (a < 0) == decide (b < 0)) == true)))] rfl ?_
  refine AW.cond rfl (fun h => ?_) (fun h => ?_)
  · have he : decide (a < 0) = decide (b < 0) := by simpa using h
    rw [← add_same he]
    have hl := len_add a b
    refine AW.seq ?_
    refine AW.region ?_   -- 232
    refine AOps.run tok 1 _ _ _ _ rfl ?_
    refine AOps.call tok rfl rfl rfl rfl (r01_neg_ok a (by omega)) ?_
    refine AOps.run tok 2 _ _ _ _ rfl ?_
    refine AOps.call tok rfl rfl rfl rfl (r01_plus_iw a b ha hb) ?_
    refine AOps.call tok rfl rfl rfl rfl (r01_form_tw (decide (a < 0)) _ (by omega)) ?_
    refine AOps.run tok 1 _ _ _ _ rfl ?_
    refine AOps.nil ?_
    exact AW.ret rfl
  · have he : decide (a < 0) ≠ decide (b < 0) := by simpa using h
    refine AW.skip ?_
    refine AW.seq ?_
    refine AW.seq ?_
    refine AW.region ?_   -- 234
    refine AOps.run tok 2 _ _ _ _ rfl ?_
    refine AOps.call tok rfl rfl rfl rfl (r01_compare_iw a b (by omega) (by omega)) ?_
    refine AOps.run tok 1 _ _ _ _ rfl ?_
    refine AOps.nil ?_
    refine AW.cond rfl (fun h => ?_) (fun h => ?_)
    · have hc := cmpI_ge (of_decide_eq_true h)
      rw [← add_ge he hc]
      have hl := len_tw (z := a) (n := a.natAbs - b.natAbs) (by omega)
      refine AW.seq ?_
      refine AW.region ?_   -- 235
      refine AOps.run tok 1 _ _ _ _ rfl ?_
      refine AOps.call tok rfl rfl rfl rfl (r01_neg_ok a (by omega)) ?_
      refine AOps.run tok 2 _ _ _ _ rfl ?_
      refine AOps.call tok rfl rfl rfl rfl (r01_minus_iw a b ha hc) ?_
      refine AOps.call tok rfl rfl rfl rfl (r01_form_tw (decide (a < 0)) _ (by omega)) ?_
      refine AOps.run tok 1 _ _ _ _ rfl ?_
      refine AOps.nil ?_
      exact AW.ret rfl
    · have hc := cmpI_lt (of_decide_eq_false h)
      rw [Int.add_comm, ← add_ge (Ne.symm he) (Nat.le_of_lt hc)]
      have hl := len_tw (z := b) (n := b.natAbs - a.natAbs) (by omega)
      refine AW.skip ?_
      refine AW.seq ?_
      refine AW.region ?_   -- 237
      refine AOps.run tok 1 _ _ _ _ rfl ?_
      refine AOps.call tok rfl rfl rfl rfl (r01_neg_ok b (by omega)) ?_
      refine AOps.run tok 2 _ _ _ _ rfl ?_
      refine AOps.call tok rfl rfl rfl rfl (r01_minus_iw b a hb (by omega)) ?_
      refine AOps.call tok rfl rfl rfl rfl (r01_form_tw (decide (b < 0)) _ (by omega)) ?_
      refine AOps.run tok 1 _ _ _ _ rfl ?_
      refine AOps.nil ?_
      exact AW.ret rfl
theorem r01_Mul_ok (a b : Int) (ha : L a ≤ 100000000) (hb : L b ≤ 100000000) : Pure Try.prog 71 [WhI a, WhI b] (WhI (a * b)) := by
  refine Pure.intro (n := 16) tok Try.func71 rfl rfl rfl (Nat.le_of_ble_eq_true rfl) (by kernel_rfl) (fun B F0 w0 => ?_)
  have hl := len_mul a b
  refine AW.seq ?_
  refine AW.region ?_   --
  refine AOps.run tok 3 _ _ _ _ rfl ?_
  refine AOps.nil ?_
  refine AW.seq ?_
  refine AW.draw hmix 11 (by kernel_rfl) ?_   --
  refine APre.run tok 1 _ _ _ _ rfl ?_
  refine APre.call tok rfl rfl rfl rfl rfl (r01_neg_ok a (by omega)) ?_
  refine APre.run tok 1 _ _ _ _ rfl ?_
  refine APre.call tok rfl rfl rfl rfl rfl (r01_neg_ok b (by omega)) ?_
  refine APre.be tok rfl rfl rfl rfl rfl ?_
  refine APre.run tok 1 _ _ _ _ rfl ?_
  refine APre.call tok rfl rfl rfl rfl rfl (r01_mag_ok a (by omega)) ?_
  refine APre.run tok 1 _ _ _ _ rfl ?_
  refine APre.call tok rfl rfl rfl rfl rfl (r01_mag_ok b (by omega)) ?_
  refine APre.call tok rfl rfl rfl rfl rfl (r01_times_iw a b ha hb) ?_
  refine APre.call tok rfl rfl rfl rfl rfl (r01_form_tw ((decide (a < 0) == decide (b < 0)) == false) _ (by omega)) ?_
  refine APre.nil ?_
  refine AOps.run tok 1 _ _ _ _ rfl ?_
  refine AOps.nil ?_
  rw [mul_sg]
  exact AW.ret rfl

theorem r01_Sub_ok (a b : Int) (ha : L a ≤ 100000000) (hb : L b ≤ 100000000) : Pure Try.prog 87 [WhI a, WhI b] (WhI (a - b)) := by
  refine Pure.intro (n := 9) tok Try.func87 rfl rfl rfl (Nat.le_of_ble_eq_true rfl) (by kernel_rfl) (fun B F0 w0 => ?_)
  rw [Int.sub_eq_add_neg]
  refine AW.seq ?_
  refine AW.region ?_   -- 241
  refine AOps.run tok 3 _ _ _ _ rfl ?_
  refine AOps.nil ?_
  refine AW.seq ?_
  refine AW.draw hmix 4 (by kernel_rfl) ?_   -- 241
  refine APre.run tok 2 _ _ _ _ rfl ?_
  refine APre.call tok rfl rfl rfl rfl rfl (r01_Neg_ok b (by omega)) ?_
  refine APre.call tok rfl rfl rfl rfl rfl (r01_Add_ok a (-b) ha (by rw [L_neg]; exact hb)) ?_
  refine APre.nil ?_
  refine AOps.run tok 1 _ _ _ _ rfl ?_
  refine AOps.nil ?_
  exact AW.ret rfl
theorem sgI_sub (a b : Int) : sgI (a - b) = cmpI a b := by
  unfold sgI cmpI
  repeat' split
  all_goals first | rfl | omega
theorem L_sub (a b : Int) : L (a - b) ≤ max (L a) (L b) + 1 := by
  have := L_add a (-b)
  rwa [L_neg, ← Int.sub_eq_add_neg] at this
theorem r01_Cmp_ok (a b : Int) (ha : L a ≤ 100000000) (hb : L b ≤ 100000000) : Pure Try.prog 73 [WhI a, WhI b] (dI (cmpI a b)) := by
  refine Pure.intro (n := 9) tok Try.func73 rfl rfl rfl (Nat.le_of_ble_eq_true rfl) (by kernel_rfl) (fun B F0 w0 => ?_)
  have hl := L_sub a b
  rw [← sgI_sub]
  refine AW.seq ?_
  refine AW.region ?_   -- 244
  refine AOps.run tok 3 _ _ _ _ rfl ?_
  refine AOps.nil ?_
  refine AW.seq ?_
  refine AW.region ?_   -- 244
  refine AOps.run tok 2 _ _ _ _ rfl ?_
  refine AOps.call tok rfl rfl rfl rfl (r01_Sub_ok a b ha hb) ?_
  refine AOps.call tok rfl rfl rfl rfl (r01_Sign_ok (a - b) (by omega)) ?_
  refine AOps.run tok 1 _ _ _ _ rfl ?_
  refine AOps.nil ?_
  exact AW.ret rfl
theorem r01_Gcd_ok (a b : Int) (ha : L a ≤ 50000000) (hb : L b ≤ 50000000) : Pure Try.prog 50 [WhI a, WhI b] (WhI (Nat.gcd a.natAbs b.natAbs)) := by
  refine Pure.intro (n := 11) tok Try.func50 rfl rfl rfl (Nat.le_of_ble_eq_true rfl) (by kernel_rfl) (fun B F0 w0 => ?_)
  have hgcd := r01_gcd_ok (iw a) (iw b) (w32_iw a) (w32_iw b) ha hb
  rw [nv_iw, nv_iw] at hgcd
  have hgl : (tw (Nat.gcd a.natAbs b.natAbs)).length ≤ 50000000 := by
    rcases Nat.eq_zero_or_pos a.natAbs with h | h
    · rw [h, Nat.gcd_zero_left]; exact hb
    · exact Nat.le_trans (len_tw (z := a) (Nat.gcd_le_left _ h)) ha
  refine AW.seq ?_
  refine AW.region ?_   -- 263
  refine AOps.run tok 3 _ _ _ _ rfl ?_
  refine AOps.nil ?_
  refine AW.seq ?_
  refine AW.draw hmix 6 (by kernel_rfl) ?_   -- 263
  refine APre.run tok 1 _ _ _ _ rfl ?_
  refine APre.call tok rfl rfl rfl rfl rfl (r01_mag_ok a (by omega)) ?_
  refine APre.run tok 1 _ _ _ _ rfl ?_
  refine APre.call tok rfl rfl rfl rfl rfl (r01_mag_ok b (by omega)) ?_
  refine APre.call tok rfl rfl rfl rfl rfl hgcd ?_
  refine APre.call tok rfl rfl rfl rfl rfl (r01_form_tw false _ (by omega)) ?_
  refine APre.nil ?_
  refine AOps.run tok 1 _ _ _ _ rfl ?_
  refine AOps.nil ?_
  exact AW.ret rfl
set_option maxHeartbeats 800000 in
theorem r01_Div_ok (a b : Int) (ha : L a ≤ 50000000) (hb : L b ≤ 50000000) (h0 : b ≠ 0) : Pure Try.prog 51 [WhI a, WhI b] (.tu [WhI (a / b), WhI (a % b), dI 0]) := by
  refine Pure.intro (n := 45) tok Try.func51 rfl rfl rfl (Nat.le_of_ble_eq_true rfl) (by kernel_rfl) (fun B F0 w0 => ?_)
  refine AW.seq ?_
  refine AW.region ?_   -- 250
  refine AOps.run tok 5 _ _ _ _ rfl ?_
  refine AOps.nil ?_
  refine AW.seq ?_
  refine AW.seq ?_
  refine AW.region ?_   -- 251
  refine AOps.run tok 1 _ _ _ _ rfl ?_
  refine AOps.call tok rfl rfl rfl rfl (r01_Sign_ok b (by omega)) ?_
  refine AOps.run tok 1 _ _ _ _ rfl ?_
  rw [show (sgI b == 0) = false by unfold sgI; (repeat' split) <;> first | rfl | (exact absurd ‹_› h0)]
  refine AOps.nil ?_
  refine AW.condF rfl ?_
  refine AW.skip ?_
  refine AW.seq ?_
  refine AW.draw hmix 9 (by kernel_rfl) ?_   -- 254
  refine APre.run tok 1 _ _ _ _ rfl ?_
  refine APre.call tok rfl rfl rfl rfl rfl (r01_mag_ok a (by omega)) ?_
  refine APre.run tok 1 _ _ _ _ rfl ?_
  refine APre.call tok rfl rfl rfl rfl rfl (r01_mag_ok b (by omega)) ?_
  refine APre.call tok rfl rfl rfl rfl rfl (r01_divide_iw a b ha hb h0) ?_
  refine APre.run tok 4 _ _ _ _ rfl ?_
  refine APre.nil ?_
  refine AOps.run tok 1 _ _ _ _ rfl ?_
  refine AOps.nil ?_
  have hlt : a.natAbs % b.natAbs < b.natAbs := Nat.mod_lt _ (by omega)
  have hdl : a.natAbs / b.natAbs ≤ a.natAbs := Nat.div_le_self _ _
  have hr0 := twLen_pos (a.natAbs % b.natAbs)
  have hl1 := len_tw (z := a) hdl
  have hl2 := len_tw (z := b) (n := a.natAbs % b.natAbs) (by omega)
  refine AW.cut [2, 3, 4, 5, 7, 8] (fun s : Nat × Nat => [(2, .bx [dB (decide (a < 0)), Wd (iw a)]), (3, .bx [dB (decide (b < 0)), Wd (iw b)]), (4, .bx [dB false, .sl 1 []]), (5, .bx [dB false, .sl 1 []]), (7, .d (Wd (tw s.1))), (8, .d (Wd (tw s.2)))])
    (fun s => (tw s.1).length ≤ 50000002 ∧ (tw s.2).length ≤ 50000002 ∧ sg ((decide (a < 0) == decide (b < 0)) == false) s.1 = a / b ∧ sg false s.2 = a % b) ?_ (fun (m, n) ⟨hm, hn, hq, hr⟩ => ?_)
  · refine AW.cut [2, 3, 4, 5, 7, 8, 28] (fun c : Bool => [(2, .bx [dB (decide (a < 0)), Wd (iw a)]), (3, .bx [dB (decide (b < 0)), Wd (iw b)]), (4, .bx [dB false, .sl 1 []]), (5, .bx [dB false, .sl 1 []]), (7, .d (Wd (tw (a.natAbs / b.natAbs)))), (8, .d (Wd (tw (a.natAbs % b.natAbs)))), (28, .d (dB c))])
      (fun c => (c = true → a < 0 ∧ a.natAbs % b.natAbs ≠ 0) ∧ (c = false → 0 ≤ a ∨ a.natAbs % b.natAbs = 0)) ?_ (fun c ⟨ht, hf⟩ => ?_)
    · refine AW.region ?_   --   -- GUARDS
      refine AOps.run tok 1 _ _ _ _ rfl ?_
      refine AOps.call tok rfl rfl rfl rfl (r01_neg_ok a (by omega)) ?_
      refine AOps.run tok 1 _ _ _ _ rfl ?_
      refine AOps.split (t := 24) rfl (fun h => ?_) (fun h => ?_)
      · have hneg := of_decide_eq_true h
        refine AOps.run tok 4 _ _ _ _ rfl ?_
        refine AOps.nil ?_
        refine ⟨_, rfl, ⟨fun h => ⟨hneg, hr0.1 (of_decide_eq_true h)⟩, fun h => .inr ?_⟩⟩
        have := of_decide_eq_false h
        rw [hr0] at this
        exact Decidable.not_not.1 this
      · have hneg := of_decide_eq_false h
        refine AOps.run tok 4 _ _ _ _ rfl ?_
        refine AOps.nil ?_
        exact ⟨false, rfl, ⟨(fun h => by cases h), fun _ => .inl (by omega)⟩⟩
    · refine AW.cond rfl (fun h => ?_) (fun h => ?_)
      · subst h
        obtain ⟨hneg, hrn⟩ := ht rfl
        have hl3 := len_succ (a.natAbs / b.natAbs)
        have hp := r01_plus_ok (tw (a.natAbs / b.natAbs)) [1] (w32_tw _) (W32.cons.2 ⟨by decide, W32.nil⟩) (by omega) (by decide)
        have hm := r01_minus_ok (iw b) (tw (a.natAbs % b.natAbs)) (w32_iw b) (w32_tw _) (Nat.le_trans hb (by decide)) (by rw [nv_tw, nv_iw]; omega)
        rw [nv_tw, show nv [1] = 1 from rfl] at hp
        rw [nv_tw, nv_iw] at hm
        refine AW.draw hmix 7 (by kernel_rfl) ?_   -- 257
        refine APre.run tok 1 _ _ _ _ rfl ?_
        refine APre.bsd tok rfl rfl rfl rfl rfl rfl ?_
        refine APre.call tok rfl rfl rfl rfl rfl hp ?_
        refine APre.run tok 1 _ _ _ _ rfl ?_
        refine APre.call tok rfl rfl rfl rfl rfl (r01_mag_ok b (by omega)) ?_
        refine APre.run tok 1 _ _ _ _ rfl ?_
        refine APre.call tok rfl rfl rfl rfl rfl hm ?_
        refine APre.nil ?_
        refine AOps.run tok 2 _ _ _ _ rfl ?_
        refine AOps.nil ?_
        exact ⟨(a.natAbs / b.natAbs + 1, b.natAbs - a.natAbs % b.natAbs), rfl, ⟨Nat.le_trans hl3 (by omega), Nat.le_trans (len_tw (z := b) (by simp only []; omega)) (by omega), div_sg h0 _ _ (.inl ⟨hneg, hrn, rfl, rfl⟩)⟩⟩
      · subst h
        refine AW.skip ?_
        exact ⟨(a.natAbs / b.natAbs, a.natAbs % b.natAbs), rfl, ⟨by simp only []; omega, by simp only []; omega, div_sg h0 _ _ (.inr ⟨hf rfl, rfl, rfl⟩)⟩⟩
  · simp only [] at hm hn hq hr
    refine AW.seq ?_
    refine AW.draw hmix 9 (by kernel_rfl) ?_   --
    refine APre.run tok 1 _ _ _ _ rfl ?_
    refine APre.call tok rfl rfl rfl rfl rfl (r01_neg_ok a (by omega)) ?_
    refine APre.run tok 1 _ _ _ _ rfl ?_
    refine APre.call tok rfl rfl rfl rfl rfl (r01_neg_ok b (by omega)) ?_
    refine APre.be tok rfl rfl rfl rfl rfl ?_
    refine APre.run tok 1 _ _ _ _ rfl ?_
    refine APre.call tok rfl rfl rfl rfl rfl (r01_form_tw ((decide (a < 0) == decide (b < 0)) == false) m (by omega)) ?_
    refine APre.run tok 1 _ _ _ _ rfl ?_
    refine APre.call tok rfl rfl rfl rfl rfl (r01_form_tw false n (by omega)) ?_
    refine APre.nil ?_
    refine AOps.run tok 3 _ _ _ _ rfl ?_
    refine AOps.nil ?_
    rw [hq, hr]
    exact AW.ret rfl

end Lift
/- The reference's fractions. -/
namespace Lift
open Go Go.Proofs


theorem r02_one_ok : Pure Try.prog 35 [] (WhI 1) := by
  refine Pure.intro (n := 2) tok Try.func35 rfl rfl rfl (Nat.le_of_ble_eq_true rfl) (by kernel_rfl) (fun B F0 w0 => ?_)
  refine AW.seq ?_
  refine AW.region ?_   -- "fraction.go:21"
  refine AOps.run tok 1 _ _ _ _ rfl ?_
  refine AOps.nil ?_
  refine AW.seq ?_
  refine AW.region ?_   -- "fraction.go:21"
  refine AOps.call tok rfl rfl rfl rfl (r01_Of_ok 1 (by decide) (by decide)) ?_
  refine AOps.run tok 1 _ _ _ _ rfl ?_
  refine AOps.nil ?_
  exact AW.ret rfl



theorem r02_plain_ok (m : List Nat) (hm : W32 m) (hl : m.length ≤ 1000000000) : Pure Try.prog 72 [Wd m] (dB (decide (m ≠ [] ∧ okW false m = true))) := by
  refine Pure.intro (n := 15) tok Try.func72 rfl rfl rfl (Nat.le_of_ble_eq_true rfl) (by kernel_rfl) (fun B F0 w0 => ?_)
  refine AW.seq ?_
  refine AW.region ?_   -- "ref.go:14"
  refine AOps.run tok 1 _ _ _ _ rfl ?_
  refine AOps.nil ?_
  refine AW.seq ?_
  refine AW.region ?_   -- "ref.go:14"   -- GUARDS
  refine AOps.run tok 3 _ _ _ _ rfl ?_
  rw [lenWd]
  refine AOps.split (t := 5) rfl (fun h => ?_) (fun h => ?_)
  · have h1 : m ≠ [] := by
      have := of_decide_eq_true h
      intro e; subst e; simp at this
    have hl0 : 0 < m.length := List.length_pos_iff.2 h1
    refine AOps.run tok 5 _ _ _ _ rfl ?_
    rw [lenWd, wI64 (x := (m.length : Int) - 1) (by omega) (by omega), show (m.length : Int) - 1 = ((m.length - 1 : Nat) : Int) by omega]
    refine AOps.idx tok (wd (m.getD (m.length - 1) 0)) rfl rfl rfl rfl (Int.natCast_nonneg _) (getWd (by omega)) ?_   -- guarded
    refine AOps.run tok 4 _ _ _ _ rfl ?_
    refine AOps.nil ?_
    rw [show decide (m ≠ [] ∧ okW false m = true) = (((m.getD (m.length - 1) 0 : Nat) : Int) != 0) by
      unfold okW
      rw [if_neg h1, Bool.eq_iff_iff]
      simp [h1]]
    exact AW.ret rfl
  · have h1 : m = [] := by
      have := of_decide_eq_false h
      exact List.length_eq_zero_iff.1 (by omega)
    refine AOps.run tok 10 _ _ _ _ rfl ?_
    refine AOps.nil ?_
    rw [show decide (m ≠ [] ∧ okW false m = true) = false by simp [h1]]
    exact AW.ret rfl

set_option maxHeartbeats 800000 in
theorem r02_Valid_ok (r : RD) {k : Nat} (hw : r.w k) (hk : k ≤ 50000000) : Pure Try.prog 46 [r.D] (dB r.okB) := by
  obtain ⟨g, m, d⟩ := r
  obtain ⟨hm, hd, hlm, hld⟩ := hw
  simp only [] at hm hd hlm hld
  refine Pure.intro (n := 36) tok Try.func46 rfl rfl rfl (Nat.le_of_ble_eq_true rfl) (by kernel_rfl) (fun B F0 w0 => ?_)
  refine AW.seq ?_
  refine AW.region ?_   -- "ref.go:17"
  refine AOps.run tok 2 _ _ _ _ rfl ?_
  refine AOps.nil ?_
  refine AW.seq ?_
  refine AW.cut [1, 12] (fun _ : Unit => [(1, .bx [dB g, Wd m, Wd d]), (12, .d (dB (decide (m = [] ∧ d = []))))]) (fun _ => True) ?_ (fun _ _ => ?_)
  · refine AW.region ?_   -- "ref.go:18"   -- GUARDS
    refine AOps.run tok 4 _ _ _ _ rfl ?_
    rw [len0]
    refine AOps.split (t := 6) rfl (fun h => ?_) (fun h => ?_)
    · refine AOps.run tok 6 _ _ _ _ rfl ?_
      refine AOps.nil ?_
      have := of_decide_eq_true h
      exact ⟨(), by rw [show decide (m = [] ∧ d = []) = (((d.map wd).length : Int) == 0) by rw [len0, Bool.eq_iff_iff]; simp only [decide_eq_true_eq]; exact ⟨fun e => e.2, fun e => ⟨this, e⟩⟩]; rfl, trivial⟩
    · refine AOps.run tok 6 _ _ _ _ rfl ?_
      refine AOps.nil ?_
      have := of_decide_eq_false h
      exact ⟨(), by rw [show decide (m = [] ∧ d = []) = false by simp [this]]; rfl, trivial⟩
  refine AW.cond rfl (fun h => ?_) (fun h => ?_)
  · have h0 := of_decide_eq_true h
    rw [show RD.okB ⟨g, m, d⟩ = !g by unfold RD.okB; rw [if_pos h0]]
    refine AW.seq ?_
    refine AW.region ?_   -- "ref.go:19"
    refine AOps.run tok 4 _ _ _ _ rfl ?_
    refine AOps.nil ?_
    exact AW.ret rfl
  · have h0 := of_decide_eq_false h
    have hokB : RD.okB ⟨g, m, d⟩ = decide (m ≠ [] ∧ d ≠ [] ∧ okW false m = true ∧ okW false d = true ∧ Nat.gcd (nv m) (nv d) = 1) := by unfold RD.okB; rw [if_neg h0]
    rw [hokB]
    clear hokB
    refine AW.skip ?_
    refine AW.seq ?_
    refine AW.region ?_   -- "ref.go:21"   -- GUARDS
    refine AOps.run tok 2 _ _ _ _ rfl ?_
    refine AOps.call tok rfl rfl rfl rfl (r02_plain_ok m hm (by omega)) ?_
    refine AOps.split (t := 18) rfl (fun h => ?_) (fun h => ?_)
    · obtain ⟨hm0, ok1⟩ := of_decide_eq_true h
      refine AOps.run tok 3 _ _ _ _ rfl ?_
      refine AOps.call tok rfl rfl rfl rfl (r02_plain_ok d hd (by omega)) ?_   -- guarded
      refine AOps.run tok 1 _ _ _ _ rfl ?_
      refine AOps.split (t := 23) rfl (fun h => ?_) (fun h => ?_)
      · obtain ⟨hd0, ok2⟩ := of_decide_eq_true h
        have e1 := iw_of_okW hm ok1
        have e2 := iw_of_okW hd ok2
        have l1 := L_of_okW hm ok1
        have l2 := L_of_okW hd ok2
        have hgl : L ((Nat.gcd (nv m) (nv d) : Nat) : Int) ≤ 50000000 := by
          have hp : 0 < nv m := Nat.pos_of_ne_zero fun e => hm0 ((nv_zero (okW_nm ok1)).1 e)
          have := Nat.gcd_le_left (nv d) hp
          have := L_mono (a := ((Nat.gcd (nv m) (nv d) : Nat) : Int)) (b := ((nv m : Nat) : Int)) (by simpa using this)
          omega
        have hgcd := r01_Gcd_ok (nv m : Nat) (nv d : Nat) (by omega) (by omega)
        rw [← e1, ← e2, Int.natAbs_natCast, Int.natAbs_natCast] at hgcd
        refine AOps.run tok 7 _ _ _ _ rfl ?_
        refine AOps.call tok rfl rfl rfl rfl hgcd ?_   -- guarded
        refine AOps.call tok rfl rfl rfl rfl r02_one_ok ?_   -- guarded
        refine AOps.call tok rfl rfl rfl rfl (r01_Cmp_ok ((Nat.gcd (nv m) (nv d) : Nat) : Int) 1 (by omega) (by rw [L_one]; decide)) ?_   -- guarded
        refine AOps.run tok 3 _ _ _ _ rfl ?_
        refine AOps.nil ?_
        rw [show decide (m ≠ [] ∧ d ≠ [] ∧ okW false m = true ∧ okW false d = true ∧ Nat.gcd (nv m) (nv d) = 1) = (cmpI ((Nat.gcd (nv m) (nv d) : Nat) : Int) 1 == 0) by
          rw [Bool.eq_iff_iff]
          simp only [ne_eq, hm0, not_false_eq_true, hd0, ok1, ok2, true_and, decide_eq_true_eq, beq_iff_eq]
          unfold cmpI
          constructor
          · intro h; rw [h]; rfl
          · intro h
            split at h
            · cases h
            · split at h
              · omega
              · cases h]
        exact AW.ret rfl
      · have h2 := of_decide_eq_false h
        refine AOps.run tok 13 _ _ _ _ rfl ?_
        refine AOps.nil ?_
        rw [show decide (m ≠ [] ∧ d ≠ [] ∧ okW false m = true ∧ okW false d = true ∧ Nat.gcd (nv m) (nv d) = 1) = false from decide_eq_false fun e => h2 ⟨e.2.1, e.2.2.2.1⟩]
        exact AW.ret rfl
    · have h1 := of_decide_eq_false h
      refine AOps.run tok 5 _ _ _ _ rfl ?_
      refine AOps.run tok 13 _ _ _ _ rfl ?_
      refine AOps.nil ?_
      rw [show decide (m ≠ [] ∧ d ≠ [] ∧ okW false m = true ∧ okW false d = true ∧ Nat.gcd (nv m) (nv d) = 1) = false from decide_eq_false fun e => h1 ⟨e.1, e.2.2.1⟩]
      exact AW.ret rfl


theorem r02_Parts_ok (r : RD) {k : Nat} (hw : r.w k) (hk : k ≤ 50000000) : Pure Try.prog 30 [r.D] (.tu [WhI r.val.num, WhI r.val.den]) := by
  refine Pure.intro (n := 23) tok Try.func30 rfl rfl rfl (Nat.le_of_ble_eq_true rfl) (by kernel_rfl) (fun B F0 w0 => ?_)
  refine AW.seq ?_
  refine AW.region ?_   -- "fraction.go:36"
  refine AOps.run tok 3 _ _ _ _ rfl ?_
  refine AOps.nil ?_
  refine AW.seq ?_
  refine AW.cut [1, 2, 3, 12] (fun _ : Unit => [(1, .bx [dB r.g, Wd r.n, Wd r.d]), (2, .bx [dB false, .sl 1 []]), (3, .bx [dB false, .sl 1 []]), (12, .d (dB (decide (r.okB = false ∨ r.n = []))))]) (fun _ => True) ?_ (fun _ _ => ?_)
  · refine AW.region ?_   -- "fraction.go:37"   -- GUARDS
    refine AOps.run tok 1 _ _ _ _ rfl ?_
    refine AOps.call tok rfl rfl rfl rfl (r02_Valid_ok r hw hk) ?_
    refine AOps.run tok 2 _ _ _ _ rfl ?_
    refine AOps.split (t := 7) rfl (fun h => ?_) (fun h => ?_)
    · have h1 : r.okB = false := by simpa using h
      refine AOps.run tok 5 _ _ _ _ rfl ?_
      refine AOps.nil ?_
      exact ⟨(), by rw [show decide (r.okB = false ∨ r.n = []) = true by simp [h1]]; rfl, trivial⟩
    · have h1 : r.okB = true := by simpa using h
      refine AOps.run tok 5 _ _ _ _ rfl ?_
      rw [len0]
      refine AOps.nil ?_
      exact ⟨(), by rw [show decide (r.okB = false ∨ r.n = []) = decide (r.n = []) by simp only [h1]; simp]; rfl, trivial⟩
  refine AW.cond rfl (fun h => ?_) (fun h => ?_)
  · have h1 := of_decide_eq_true h
    have hv : r.val = 0 := by
      rcases h1 with h1 | h1
      · exact RD.val_bad h1
      · exact RD.val_nil h1
    rw [hv, show (0 : Rat).num = 0 from rfl, show (((0 : Rat).den : Nat) : Int) = 1 from rfl, whI_zero]
    refine AW.seq ?_
    refine AW.region ?_   -- "fraction.go:38"
    refine AOps.run tok 1 _ _ _ _ rfl ?_
    refine AOps.call tok rfl rfl rfl rfl r02_one_ok ?_
    refine AOps.run tok 2 _ _ _ _ rfl ?_
    refine AOps.nil ?_
    exact AW.ret rfl
  · have h1 := of_decide_eq_false h
    have h2 : r.okB = true := by cases ho : r.okB with
      | true => rfl
      | false => exact absurd (.inl ho) h1
    obtain ⟨_, _, p3, p4, p5, _⟩ := RD.parts hw h2 (fun e => h1 (.inr e))
    have e1 : WhI r.val.num = Wh r.g r.n := by rw [WhI, ← p3, ← p4]
    have e2 : WhI (r.val.den : Nat) = Wh false r.d := by
      have : decide (((r.val.den : Nat) : Int) < 0) = false := by simp
      rw [WhI, this, iw, Int.natAbs_natCast, ← p5]
    rw [e1, e2]
    have hl1 := hw.2.2.1
    have hl2 := hw.2.2.2
    refine AW.skip ?_
    refine AW.seq ?_
    refine AW.draw3 tok hmix [(5, true), (3, false)] 8 [2, 3] (by kernel_rfl) ⟨rfl, ?_⟩   -- "ref.go:29"
    refine APre.run tok 5 _ _ _ _ rfl ?_
    refine APre.nil ⟨rfl, ?_⟩
    refine APre.run tok 3 _ _ _ _ rfl ?_
    refine APre.nil ⟨_, StL.cons (.bx rfl) (StL.cons (.bx rfl) StL.nil), AOps.nil ?_⟩
    exact AW.ret rfl


theorem Qr_form {n d : Int} (hd : 0 < d) (hn : n ≠ 0) : (Qr (Rat.divInt n d)).D = .ag [dB (decide (n / (Nat.gcd n.natAbs d.natAbs : Int) < 0)), Wd (iw (n / (Nat.gcd n.natAbs d.natAbs : Int))), Wd (iw (d / (Nat.gcd n.natAbs d.natAbs : Int)))] := by
  obtain ⟨h1, h2⟩ := form_pos (n := n) hd
  have hnz : (Rat.divInt n d).num ≠ 0 := by
    intro e
    rw [h1] at e
    exact hn (Int.eq_zero_of_ediv_eq_zero (Int.ofNat_dvd_left.2 (Nat.gcd_dvd_left _ _)) e)
  show D.ag [dB (decide ((Rat.divInt n d).num < 0)), Wd (iw (Rat.divInt n d).num), Wd (if (Rat.divInt n d).num = 0 then [] else tw (Rat.divInt n d).den)] = _
  rw [if_neg hnz, h1, ← h2, iw, iw, Int.natAbs_natCast]

set_option maxHeartbeats 800000 in
theorem r02_form_ok (n d : Int) (hn : L n ≤ 50000000) (hd : L d ≤ 50000000) (h0 : d ≠ 0) : Pure Try.prog 33 [WhI n, WhI d] (Qr (Rat.divInt n d)).D := by
  refine Pure.intro (n := 47) tok Try.func33 rfl rfl rfl (Nat.le_of_ble_eq_true rfl) (by kernel_rfl) (fun B F0 w0 => ?_)
  refine AW.seq ?_
  refine AW.region ?_   -- "fraction.go:45"
  refine AOps.run tok 3 _ _ _ _ rfl ?_
  refine AOps.nil ?_
  refine AW.seq ?_
  refine AW.seq ?_
  refine AW.region ?_   -- "fraction.go:46"
  refine AOps.run tok 1 _ _ _ _ rfl ?_
  refine AOps.call tok rfl rfl rfl rfl (r01_Sign_ok n (by omega)) ?_
  refine AOps.run tok 1 _ _ _ _ rfl ?_
  refine AOps.nil ?_
  refine AW.cond rfl (fun h => ?_) (fun h => ?_)
  · have hn0 : n = 0 := by
      have : sgI n = 0 := by simpa using h
      unfold sgI at this
      repeat' split at this
      all_goals omega
    rw [hn0, Rat.zero_divInt, Qr_zero]
    refine AW.seq ?_
    refine AW.region ?_   -- "fraction.go:47"
    refine AOps.run tok 2 _ _ _ _ rfl ?_
    refine AOps.nil ?_
    exact AW.ret rfl
  · have hn0 : n ≠ 0 := by rintro rfl; simp [sgI] at h
    refine AW.skip ?_
    refine AW.cut [2, 3, 4] (fun s : Int × Int => [(2, .bx [dB (decide (s.1 < 0)), Wd (iw s.1)]), (3, .bx [dB (decide (s.2 < 0)), Wd (iw s.2)]), (4, .bx [dB false, .sl 1 [], .sl 1 []])])
      (fun s => 0 < s.2 ∧ s.1 ≠ 0 ∧ L s.1 ≤ 50000000 ∧ L s.2 ≤ 50000000 ∧ Rat.divInt s.1 s.2 = Rat.divInt n d) ?_ (fun (x, y) ⟨hy, hx, hlx, hly, he⟩ => ?_)
    · refine AW.seq ?_
      refine AW.region ?_   -- "fraction.go:49"
      refine AOps.run tok 1 _ _ _ _ rfl ?_
      refine AOps.call tok rfl rfl rfl rfl (r01_Sign_ok d (by omega)) ?_
      refine AOps.run tok 1 _ _ _ _ rfl ?_
      refine AOps.nil ?_
      refine AW.cond rfl (fun h => ?_) (fun h => ?_)
      · have hd0 : d < 0 := by
          have := of_decide_eq_true h
          unfold sgI at this
          repeat' split at this
          all_goals omega
        refine AW.draw hmix 4 (by kernel_rfl) ?_   -- "fraction.go:50"
        refine APre.run tok 1 _ _ _ _ rfl ?_
        refine APre.call tok rfl rfl rfl rfl rfl (r01_Neg_ok n (by omega)) ?_
        refine APre.run tok 1 _ _ _ _ rfl ?_
        refine APre.call tok rfl rfl rfl rfl rfl (r01_Neg_ok d (by omega)) ?_
        refine APre.nil ?_
        refine AOps.run tok 2 _ _ _ _ rfl ?_
        refine AOps.nil ?_
        exact ⟨(-n, -d), rfl, ⟨by simp only []; omega, by simp only []; omega, by rw [L_neg]; exact hn, by rw [L_neg]; exact hd, Rat.neg_divInt_neg n d⟩⟩
      · have hd0 : 0 < d := by
          have := of_decide_eq_false h
          unfold sgI at this
          repeat' split at this
          all_goals omega
        refine AW.skip ?_
        exact ⟨(n, d), rfl, ⟨hd0, hn0, hn, hd, rfl⟩⟩
    · simp only [] at hy hx hlx hly he
      rw [← he]
      have hgl : L ((Nat.gcd x.natAbs y.natAbs : Nat) : Int) ≤ 50000000 := by
        have := Nat.gcd_le_left y.natAbs (show 0 < x.natAbs by omega)
        have := L_mono (a := ((Nat.gcd x.natAbs y.natAbs : Nat) : Int)) (b := x) (by simpa using this)
        omega
      have hg0 : ((Nat.gcd x.natAbs y.natAbs : Nat) : Int) ≠ 0 := by
        have : 0 < Nat.gcd x.natAbs y.natAbs := Nat.gcd_pos_of_pos_left _ (by omega)
        omega
      rw [Qr_form hy hx]
      have hgcd := r01_Gcd_ok x y hlx hly
      generalize ((Nat.gcd x.natAbs y.natAbs : Nat) : Int) = g at *
      refine AW.seq ?_
      refine AW.region ?_   -- "fraction.go:52"
      refine AOps.run tok 2 _ _ _ _ rfl ?_
      refine AOps.call tok rfl rfl rfl rfl hgcd ?_
      refine AOps.run tok 2 _ _ _ _ rfl ?_
      refine AOps.nil ?_
      refine AW.seq ?_
      refine AW.region ?_   -- "ref.go:41"
      refine AOps.run tok 2 _ _ _ _ rfl ?_
      refine AOps.call tok rfl rfl rfl rfl (r01_Div_ok x g hlx hgl hg0) ?_
      refine AOps.run tok 9 _ _ _ _ rfl ?_
      refine AOps.nil ?_
      refine AW.seq ?_
      refine AW.region ?_   -- "ref.go:42"
      refine AOps.run tok 2 _ _ _ _ rfl ?_
      refine AOps.call tok rfl rfl rfl rfl (r01_Div_ok y g hly hgl hg0) ?_
      refine AOps.run tok 9 _ _ _ _ rfl ?_
      refine AOps.nil ?_
      refine AW.seq ?_
      refine AW.region ?_   -- "ref.go:43"
      refine AOps.run tok 8 _ _ _ _ rfl ?_
      refine AOps.nil ?_
      exact AW.ret rfl


theorem r02_Of_ok (n : Int) (h0 : -9223372036854775808 ≤ n) (h1 : n ≤ 9223372036854775807) : Pure Try.prog 19 [dI n] (Qr n).D := by
  refine Pure.intro (n := 7) tok Try.func19 rfl rfl rfl (Nat.le_of_ble_eq_true rfl) (by kernel_rfl) (fun B F0 w0 => ?_)
  have hl := L_of n (by omega)
  have hf := r02_form_ok n 1 (by omega) (by rw [L_one]; decide) (by decide)
  rw [of_divInt] at hf
  refine AW.seq ?_
  refine AW.region ?_   -- "ref.go:47"
  refine AOps.run tok 1 _ _ _ _ rfl ?_
  refine AOps.nil ?_
  refine AW.seq ?_
  refine AW.region ?_   -- "ref.go:47"
  refine AOps.run tok 1 _ _ _ _ rfl ?_
  refine AOps.call tok rfl rfl rfl rfl (r01_Of_ok n h0 h1) ?_
  refine AOps.call tok rfl rfl rfl rfl r02_one_ok ?_
  refine AOps.call tok rfl rfl rfl rfl hf ?_
  refine AOps.run tok 1 _ _ _ _ rfl ?_
  refine AOps.nil ?_
  exact AW.ret rfl

theorem r02_Neg_ok (r : RD) {k : Nat} (hw : r.w k) (hk : k ≤ 20000000) : Pure Try.prog 45 [r.D] (Qr (-r.val)).D := by
  refine Pure.intro (n := 14) tok Try.func45 rfl rfl rfl (Nat.le_of_ble_eq_true rfl) (by kernel_rfl) (fun B F0 w0 => ?_)
  have hl := LQ_val (hw.mono (Nat.le_max_left k 1)) (Nat.le_max_right k 1)
  have hn := Lnum r.val
  have hd := Lden r.val
  rw [← neg_divInt]
  refine AW.seq ?_
  refine AW.region ?_   -- "fraction.go:77"
  refine AOps.run tok 2 _ _ _ _ rfl ?_
  refine AOps.nil ?_
  refine AW.seq ?_
  refine AW.region ?_   -- "fraction.go:78"
  refine AOps.run tok 1 _ _ _ _ rfl ?_
  refine AOps.call tok rfl rfl rfl rfl (r02_Parts_ok r hw (by omega)) ?_
  refine AOps.run tok 7 _ _ _ _ rfl ?_
  refine AOps.nil ?_
  refine AW.seq ?_
  refine AW.draw hmix 4 (by kernel_rfl) ?_   -- "fraction.go:79"
  refine APre.run tok 1 _ _ _ _ rfl ?_
  refine APre.call tok rfl rfl rfl rfl rfl (r01_Neg_ok r.val.num (by omega)) ?_
  refine APre.run tok 1 _ _ _ _ rfl ?_
  refine APre.call tok rfl rfl rfl rfl rfl (r02_form_ok (-r.val.num) r.val.den (by rw [L_neg]; omega) (by omega) (den_ne _)) ?_
  refine APre.nil ?_
  refine AOps.run tok 1 _ _ _ _ rfl ?_
  refine AOps.nil ?_
  exact AW.ret rfl

theorem r02_Sign_ok (r : RD) {k : Nat} (hr : r.w k) (hk : k ≤ 20000000) : Pure Try.prog 13 [r.D] (dI (sgI r.val.num)) := by
  refine Pure.intro (n := 12) tok Try.func13 rfl rfl rfl (Nat.le_of_ble_eq_true rfl) (by kernel_rfl) (fun B F0 w0 => ?_)
  have hl := LQ_val (hr.mono (Nat.le_max_left k 1)) (Nat.le_max_right k 1)
  have := Lnum r.val
  refine AW.seq ?_
  refine AW.region ?_   -- "ref.go:67"
  refine AOps.run tok 2 _ _ _ _ rfl ?_
  refine AOps.nil ?_
  refine AW.seq ?_
  refine AW.region ?_   -- "ref.go:68"
  refine AOps.run tok 1 _ _ _ _ rfl ?_
  refine AOps.call tok rfl rfl rfl rfl (r02_Parts_ok r hr (by omega)) ?_
  refine AOps.run tok 7 _ _ _ _ rfl ?_
  refine AOps.nil ?_
  refine AW.seq ?_
  refine AW.region ?_   -- "ref.go:69"
  refine AOps.run tok 1 _ _ _ _ rfl ?_
  refine AOps.call tok rfl rfl rfl rfl (r01_Sign_ok r.val.num (by omega)) ?_
  refine AOps.run tok 1 _ _ _ _ rfl ?_
  refine AOps.nil ?_
  exact AW.ret rfl

theorem r02_Add_ok (r s : RD) {k : Nat} (hr : r.w k) (hs : s.w k) (hk : k ≤ 20000000) : Pure Try.prog 44 [r.D, s.D] (Qr (r.val + s.val)).D := by
  refine Pure.intro (n := 30) tok Try.func44 rfl rfl rfl (Nat.le_of_ble_eq_true rfl) (by kernel_rfl) (fun B F0 w0 => ?_)
  have hl := LQ_val (hr.mono (Nat.le_max_left k 1)) (Nat.le_max_right k 1)
  have hm := LQ_val (hs.mono (Nat.le_max_left k 1)) (Nat.le_max_right k 1)
  have := Lnum r.val; have := Lden r.val; have := Lnum s.val; have := Lden s.val
  have := L_mul r.val.num s.val.den; have := L_mul s.val.num r.val.den; have := L_mul r.val.den s.val.den
  have := L_add (r.val.num * s.val.den) (s.val.num * r.val.den)
  rw [← add_divInt]
  refine AW.seq ?_
  refine AW.region ?_   -- "fraction.go:120"
  refine AOps.run tok 3 _ _ _ _ rfl ?_
  refine AOps.nil ?_
  refine AW.seq ?_
  refine AW.region ?_   -- "fraction.go:121"
  refine AOps.run tok 1 _ _ _ _ rfl ?_
  refine AOps.call tok rfl rfl rfl rfl (r02_Parts_ok r hr (by omega)) ?_
  refine AOps.run tok 7 _ _ _ _ rfl ?_
  refine AOps.nil ?_
  refine AW.seq ?_
  refine AW.region ?_   -- "fraction.go:122"
  refine AOps.run tok 1 _ _ _ _ rfl ?_
  refine AOps.call tok rfl rfl rfl rfl (r02_Parts_ok s hs (by omega)) ?_
  refine AOps.run tok 7 _ _ _ _ rfl ?_
  refine AOps.nil ?_
  refine AW.seq ?_
  refine AW.draw hmix 11 (by kernel_rfl) ?_   -- "fraction.go:123"
  refine APre.run tok 2 _ _ _ _ rfl ?_
  refine APre.call tok rfl rfl rfl rfl rfl (r01_Mul_ok r.val.num s.val.den (by omega) (by omega)) ?_
  refine APre.run tok 2 _ _ _ _ rfl ?_
  refine APre.call tok rfl rfl rfl rfl rfl (r01_Mul_ok s.val.num r.val.den (by omega) (by omega)) ?_
  refine APre.call tok rfl rfl rfl rfl rfl (r01_Add_ok (r.val.num * s.val.den) (s.val.num * r.val.den) (by omega) (by omega)) ?_
  refine APre.run tok 2 _ _ _ _ rfl ?_
  refine APre.call tok rfl rfl rfl rfl rfl (r01_Mul_ok r.val.den s.val.den (by omega) (by omega)) ?_
  refine APre.call tok rfl rfl rfl rfl rfl (r02_form_ok (r.val.num * s.val.den + s.val.num * r.val.den) (r.val.den * s.val.den) (by omega) (by omega) (den_mul_ne _ _)) ?_
  refine APre.nil ?_
  refine AOps.run tok 1 _ _ _ _ rfl ?_
  refine AOps.nil ?_
  exact AW.ret rfl

theorem r02_Sub_ok (r s : RD) {k : Nat} (hr : r.w k) (hs : s.w k) (hk : k ≤ 10000000) : Pure Try.prog 28 [r.D, s.D] (Qr (r.val - s.val)).D := by
  refine Pure.intro (n := 9) tok Try.func28 rfl rfl rfl (Nat.le_of_ble_eq_true rfl) (by kernel_rfl) (fun B F0 w0 => ?_)
  have hm := LQ_val (hs.mono (Nat.le_max_left k 1)) (Nat.le_max_right k 1)
  have hadd := r02_Add_ok r (Qr (-s.val)) (k := max k 1) (hr.mono (by omega)) (Qr_w _ (by rw [LQ_neg]; omega)) (by omega)
  rw [Qr_val, ← Rat.sub_eq_add_neg] at hadd
  refine AW.seq ?_
  refine AW.region ?_   -- "fraction.go:127"
  refine AOps.run tok 3 _ _ _ _ rfl ?_
  refine AOps.nil ?_
  refine AW.seq ?_
  refine AW.draw hmix 4 (by kernel_rfl) ?_   -- "fraction.go:127"
  refine APre.run tok 2 _ _ _ _ rfl ?_
  refine APre.call tok rfl rfl rfl rfl rfl (r02_Neg_ok s hs (by omega)) ?_
  refine APre.call tok rfl rfl rfl rfl rfl hadd ?_
  refine APre.nil ?_
  refine AOps.run tok 1 _ _ _ _ rfl ?_
  refine AOps.nil ?_
  exact AW.ret rfl

theorem sgI_cmpQ (a b : Rat) : sgI (a - b).num = cmpQ a b := by
  rw [← cmpQ_sub]
theorem r02_Cmp_ok (r s : RD) {k : Nat} (hr : r.w k) (hs : s.w k) (hk : k ≤ 5000000) : Pure Try.prog 11 [r.D, s.D] (dI (cmpQ r.val s.val)) := by
  refine Pure.intro (n := 9) tok Try.func11 rfl rfl rfl (Nat.le_of_ble_eq_true rfl) (by kernel_rfl) (fun B F0 w0 => ?_)
  have hl := LQ_val (hr.mono (Nat.le_max_left k 1)) (Nat.le_max_right k 1)
  have hm := LQ_val (hs.mono (Nat.le_max_left k 1)) (Nat.le_max_right k 1)
  have hq := LQ_sub r.val s.val
  have hsg := r02_Sign_ok (Qr (r.val - s.val)) (Qr_w _ (Nat.le_refl _)) (by omega)
  rw [Qr_val, sgI_cmpQ] at hsg
  refine AW.seq ?_
  refine AW.region ?_   -- "ref.go:105"
  refine AOps.run tok 3 _ _ _ _ rfl ?_
  refine AOps.nil ?_
  refine AW.seq ?_
  refine AW.region ?_   -- "ref.go:105"
  refine AOps.run tok 2 _ _ _ _ rfl ?_
  refine AOps.call tok rfl rfl rfl rfl (r02_Sub_ok r s hr hs (by omega)) ?_
  refine AOps.call tok rfl rfl rfl rfl hsg ?_
  refine AOps.run tok 1 _ _ _ _ rfl ?_
  refine AOps.nil ?_
  exact AW.ret rfl
end Lift
/- Names: what the program and the reference take for one. -/
namespace Lift
open Go Go.Proofs

def isL (c : Nat) : Bool := (decide (97 ≤ c) && decide (c ≤ 122)) || (decide (65 ≤ c) && decide (c ≤ 90))
def isDg (c : Nat) : Bool := decide (48 ≤ c) && decide (c ≤ 57)
def isP (c : Nat) : Bool := isL c || isDg c || decide (c = 95)
abbrev d8 (c : Nat) : D := .v (.int .u8 (c : Int))
abbrev dS (s : ByteArray) : D := .v (.string s)
def bsl (s : ByteArray) : List Nat := s.data.toList.map UInt8.toNat
theorem bsl_len (s : ByteArray) : (bsl s).length = s.size := by simp [bsl]
theorem bsl_getD (s : ByteArray) (i : Nat) : (s.data.toList.getD i 0).toNat = (bsl s).getD i 0 := by
  simp only [bsl, List.getD_eq_getElem?_getD, List.getElem?_map]
  cases s.data.toList[i]? <;> rfl
/-- The bytes of the word at the beginning. -/
def wlen (l : List Nat) : Nat := if isL (l.getD 0 0) = true then (l.takeWhile isP).length else 0
def nameB (s : ByteArray) : Bool := decide (0 < wlen (bsl s) ∧ wlen (bsl s) = s.size ∧ s.size ≤ 24)
theorem isP0 : isP 0 = false := by decide
theorem isP_L {c : Nat} (h : isL c = true) : isP c = true := by simp [isP, h]
theorem takeWhile_of {l : List Nat} {n : Nat} (h1 : n ≤ l.length) (h2 : ∀ i, i < n → isP (l.getD i 0) = true) (h3 : isP (l.getD n 0) = false) : (l.takeWhile isP).length = n := by
  induction l generalizing n with
  | nil => simp at h1; subst h1; rfl
  | cons a r ih =>
    cases n with
    | zero =>
      have : isP a = false := by simpa using h3
      simp [List.takeWhile, this]
    | succ m =>
      have ha : isP a = true := by simpa using h2 0 (by omega)
      have := ih (n := m) (by simpa using h1) (fun i hi => by simpa using h2 (i + 1) (by omega)) (by simpa using h3)
      simp [List.takeWhile, ha, this]
theorem getD_end {l : List Nat} {n : Nat} (h : l.length ≤ n) : l.getD n 0 = 0 := by
  rw [List.getD_eq_getElem?_getD, List.getElem?_eq_none h]; rfl

theorem token_digit_ok (c : Nat) : Pure Try.prog 80 [d8 c] (dB (isDg c)) := by
  refine Pure.intro (n := 9) tok Try.func80 rfl rfl rfl (Nat.le_of_ble_eq_true rfl) (by kernel_rfl) (fun B F0 w0 => ?_)
  refine AW.seq ?_
  refine AW.region ?_   -- "token.go:25"
  refine AOps.run tok 1 _ _ _ _ rfl ?_
  refine AOps.nil ?_
  refine AW.seq ?_
  refine AW.region ?_   -- "token.go:25"   -- GUARDS
  refine AOps.run tok 2 _ _ _ _ rfl ?_
  refine AOps.split (t := 4) rfl (fun h => ?_) (fun h => ?_)
  · have h1 := of_decide_eq_true h
    refine AOps.run tok 5 _ _ _ _ rfl ?_
    refine AOps.nil ?_
    rw [show isDg c = decide ((c : Int) ≤ 57) by unfold isDg; rw [Bool.eq_iff_iff]; simp <;> omega]
    exact AW.ret rfl
  · have h1 := of_decide_eq_false h
    refine AOps.run tok 5 _ _ _ _ rfl ?_
    refine AOps.nil ?_
    rw [show isDg c = false by unfold isDg; rw [Bool.eq_iff_iff]; simp <;> omega]
    exact AW.ret rfl

theorem token_letter_ok (c : Nat) : Pure Try.prog 53 [d8 c] (dB (isL c)) := by
  refine Pure.intro (n := 17) tok Try.func53 rfl rfl rfl (Nat.le_of_ble_eq_true rfl) (by kernel_rfl) (fun B F0 w0 => ?_)
  refine AW.seq ?_
  refine AW.region ?_   -- "token.go:23"
  refine AOps.run tok 1 _ _ _ _ rfl ?_
  refine AOps.nil ?_
  refine AW.seq ?_
  refine AW.region ?_   -- "token.go:23"   -- GUARDS
  refine AOps.run tok 2 _ _ _ _ rfl ?_
  refine AOps.split (t := 4) rfl (fun h => ?_) (fun h => ?_)
  · have h1 := of_decide_eq_true h
    refine AOps.run tok 5 _ _ _ _ rfl ?_
    refine AOps.split (t := 9) rfl (fun h => ?_) (fun h => ?_)
    · have h2 := of_decide_eq_true h
      refine AOps.run tok 8 _ _ _ _ rfl ?_
      refine AOps.nil ?_
      rw [show isL c = true by unfold isL; rw [Bool.eq_iff_iff]; simp <;> omega]
      exact AW.ret rfl
    · have h2 := of_decide_eq_false h
      refine AOps.run tok 2 _ _ _ _ rfl ?_
      refine AOps.split (t := 11) rfl (fun h => ?_) (fun h => ?_)
      · have h3 := of_decide_eq_true h
        refine AOps.run tok 6 _ _ _ _ rfl ?_
        refine AOps.nil ?_
        rw [show isL c = decide ((c : Int) ≤ 90) by unfold isL; rw [Bool.eq_iff_iff]; simp <;> omega]
        exact AW.ret rfl
      · have h3 := of_decide_eq_false h
        refine AOps.run tok 6 _ _ _ _ rfl ?_
        refine AOps.nil ?_
        rw [show isL c = false by unfold isL; rw [Bool.eq_iff_iff]; simp <;> omega]
        exact AW.ret rfl
  · have h1 := of_decide_eq_false h
    refine AOps.run tok 7 _ _ _ _ rfl ?_
    refine AOps.split (t := 11) rfl (fun h => ?_) (fun h => ?_)
    · have h3 := of_decide_eq_true h
      refine AOps.run tok 6 _ _ _ _ rfl ?_
      refine AOps.nil ?_
      rw [show isL c = decide ((c : Int) ≤ 90) by unfold isL; rw [Bool.eq_iff_iff]; simp <;> omega]
      exact AW.ret rfl
    · have h3 := of_decide_eq_false h
      refine AOps.run tok 6 _ _ _ _ rfl ?_
      refine AOps.nil ?_
      rw [show isL c = false by unfold isL; rw [Bool.eq_iff_iff]; simp <;> omega]
      exact AW.ret rfl

theorem token_part_ok (c : Nat) : Pure Try.prog 54 [d8 c] (dB (isP c)) := by
  refine Pure.intro (n := 13) tok Try.func54 rfl rfl rfl (Nat.le_of_ble_eq_true rfl) (by kernel_rfl) (fun B F0 w0 => ?_)
  refine AW.seq ?_
  refine AW.region ?_   -- "token.go:27"
  refine AOps.run tok 1 _ _ _ _ rfl ?_
  refine AOps.nil ?_
  refine AW.seq ?_
  refine AW.region ?_   -- "token.go:27"   -- GUARDS
  refine AOps.run tok 1 _ _ _ _ rfl ?_
  refine AOps.call tok rfl rfl rfl rfl (token_letter_ok c) ?_
  refine AOps.split (t := 4) rfl (fun h => ?_) (fun h => ?_)
  · refine AOps.run tok 9 _ _ _ _ rfl ?_
    refine AOps.nil ?_
    rw [show isP c = true by simp [isP, h]]
    exact AW.ret rfl
  · refine AOps.run tok 2 _ _ _ _ rfl ?_
    refine AOps.call tok rfl rfl rfl rfl (token_digit_ok c) ?_   -- guarded
    refine AOps.run tok 2 _ _ _ _ rfl ?_
    refine AOps.split (t := 9) rfl (fun h2 => ?_) (fun h2 => ?_)
    · refine AOps.run tok 4 _ _ _ _ rfl ?_
      refine AOps.nil ?_
      rw [show isP c = true by simp [isP, h2]]
      exact AW.ret rfl
    · refine AOps.run tok 4 _ _ _ _ rfl ?_
      refine AOps.nil ?_
      rw [show isP c = ((c : Int) == 95) by unfold isP; rw [h, h2, Bool.eq_iff_iff]; simp <;> omega]
      exact AW.ret rfl

theorem str_eq (a b : ByteArray) : (a.toList == b.toList) = decide (a = b) := by
  rw [ByteArray.toList_eq, ByteArray.toList_eq, Bool.eq_iff_iff]
  simp only [beq_iff_eq, decide_eq_true_eq]
  exact ⟨fun h => Go.WideShapes.bytes_inj h, fun h => by rw [h]⟩
theorem str_empty (s : ByteArray) : (s.toList == (⟨#[]⟩ : ByteArray).toList) = decide (s.size = 0) := by
  rw [str_eq, Bool.eq_iff_iff]
  simp only [decide_eq_true_eq]
  constructor
  · intro h; rw [h]; rfl
  · intro h; exact Go.WideShapes.bytes_inj (by
      have : s.data.toList.length = 0 := h
      rw [List.length_eq_zero_iff.1 this])
set_option maxHeartbeats 400000 in
theorem token_word_ok (s : ByteArray) (hs : s.size ≤ 1000000000000000) : Pure Try.prog 36 [dS s] (dI (wlen (bsl s) : Nat)) := by
  refine Pure.intro (n := 25) tok Try.func36 rfl rfl rfl (Nat.le_of_ble_eq_true rfl) (by kernel_rfl) (fun B F0 w0 => ?_)
  refine AW.seq ?_
  refine AW.region ?_   -- "token.go:30"
  refine AOps.run tok 1 _ _ _ _ rfl ?_
  refine AOps.nil ?_
  refine AW.seq ?_
  have hl := bsl_len s
  refine AW.cut [0, 11] (fun _ : Unit => [(0, .d (dS s)), (11, .d (dB (!isL ((bsl s).getD 0 0))))]) (fun _ => True) ?_ (fun _ _ => ?_)
  · refine AW.region ?_   -- "token.go:31"   -- GUARDS
    refine AOps.run tok 2 _ _ _ _ rfl ?_
    rw [str_empty]
    refine AOps.split (t := 5) rfl (fun h => ?_) (fun h => ?_)
    · have h1 := of_decide_eq_true h
      refine AOps.run tok 6 _ _ _ _ rfl ?_
      refine AOps.nil ?_
      refine ⟨(), ?_, trivial⟩
      rw [getD_end (by omega)]
      rfl
    · have h1 := of_decide_eq_false h
      refine AOps.run tok 2 _ _ _ _ rfl ?_
      refine AOps.strix tok rfl rfl rfl rfl (Int.le_refl 0) (Nat.pos_of_ne_zero h1) ?_   -- guarded
      rw [show (0 : Int).toNat = 0 from rfl, bsl_getD]
      refine AOps.call tok rfl rfl rfl rfl (token_letter_ok ((bsl s).getD 0 0)) ?_   -- guarded
      refine AOps.run tok 2 _ _ _ _ rfl ?_
      refine AOps.nil ?_
      exact ⟨(), rfl, trivial⟩
  refine AW.cond rfl (fun h => ?_) (fun h => ?_)
  · have h1 : isL ((bsl s).getD 0 0) = false := by simpa using h
    rw [wlen, h1]
    refine AW.seq ?_
    refine AW.region ?_   -- "token.go:32"
    refine AOps.run tok 1 _ _ _ _ rfl ?_
    refine AOps.nil ?_
    exact AW.ret rfl
  · have h1 : isL ((bsl s).getD 0 0) = true := by simpa using h
    rw [wlen, if_pos h1]
    have hs0 : 0 < s.size := by
      rcases Nat.eq_zero_or_pos s.size with e | e
      · rw [getD_end (by omega)] at h1; cases h1
      · exact e
    refine AW.skip ?_
    refine AW.seq ?_
    refine AW.region ?_   -- "token.go:34"
    refine AOps.run tok 1 _ _ _ _ rfl ?_
    refine AOps.nil ?_
    refine AW.seq ?_
    refine AW.block ?_   -- block 0
    refine AW.loopS [0, 3] (fun k : Nat => [(0, .d (dS s)), (3, .d (dI k))]) (fun k => k ≤ s.size ∧ ∀ i, i < k → isP ((bsl s).getD i 0) = true) (fun k => s.size - k) 1 rfl
      ⟨hs0, fun i hi => by rw [show i = 0 by omega]; exact isP_L h1⟩ (fun k ⟨hk, hp⟩ => ?_)
    refine AW.seq ?_
    refine AW.cut [0, 3, 21] (fun _ : Unit => [(0, .d (dS s)), (3, .d (dI k)), (21, .d (dB (isP ((bsl s).getD k 0))))]) (fun _ => True) ?_ (fun _ _ => ?_)
    · refine AW.region ?_   -- "token.go:35"   -- GUARDS
      refine AOps.run tok 4 _ _ _ _ rfl ?_
      refine AOps.split (t := 15) rfl (fun h => ?_) (fun h => ?_)
      · have h2 := of_decide_eq_true h
        refine AOps.run tok 3 _ _ _ _ rfl ?_
        refine AOps.strix tok rfl rfl rfl rfl (Int.natCast_nonneg k) (by simp only [Int.toNat_natCast]; omega) ?_   -- guarded
        rw [Int.toNat_natCast, bsl_getD]
        refine AOps.call tok rfl rfl rfl rfl (token_part_ok ((bsl s).getD k 0)) ?_   -- guarded
        refine AOps.run tok 1 _ _ _ _ rfl ?_
        refine AOps.nil ?_
        exact ⟨(), rfl, trivial⟩
      · have h2 := of_decide_eq_false h
        refine AOps.run tok 6 _ _ _ _ rfl ?_
        refine AOps.nil ?_
        refine ⟨(), ?_, trivial⟩
        rw [getD_end (by omega)]
        rfl
    refine AW.cond rfl (fun h => ?_) (fun h => ?_)
    · have hks : k < s.size := by
        rcases Nat.lt_or_ge k s.size with e | e
        · exact e
        · rw [getD_end (by omega)] at h; cases h
      refine AW.skip ?_
      refine AW.block ?_   -- block 1
      refine AW.region ?_   -- "token.go:36"
      refine AOps.run tok 3 _ _ _ _ rfl ?_
      rw [wI64 (x := (k : Int) + 1) (by omega) (by omega)]
      refine AOps.nil ?_
      refine ⟨k + 1, rfl, ⟨hks, fun i hi => ?_⟩, by omega⟩
      rcases Nat.lt_or_ge i k with e | e
      · exact hp i e
      · rw [show i = k by omega]; exact h
    · rw [takeWhile_of (by omega) hp h]
      refine AW.exit ?_
      refine AW.seq ?_
      refine AW.region ?_   -- "token.go:38"
      refine AOps.run tok 2 _ _ _ _ rfl ?_
      refine AOps.nil ?_
      exact AW.ret rfl

theorem token_Name_ok (s : ByteArray) (hs : s.size ≤ 1000000000000000) : Pure Try.prog 20 [dS s] (dB (nameB s)) := by
  refine Pure.intro (n := 18) tok Try.func20 rfl rfl rfl (Nat.le_of_ble_eq_true rfl) (by kernel_rfl) (fun B F0 w0 => ?_)
  refine AW.seq ?_
  refine AW.region ?_   -- "token.go:125"
  refine AOps.run tok 1 _ _ _ _ rfl ?_
  refine AOps.nil ?_
  refine AW.seq ?_
  refine AW.region ?_   -- "token.go:126"
  refine AOps.run tok 1 _ _ _ _ rfl ?_
  refine AOps.call tok rfl rfl rfl rfl (token_word_ok s hs) ?_
  refine AOps.run tok 1 _ _ _ _ rfl ?_
  refine AOps.nil ?_
  refine AW.seq ?_
  refine AW.region ?_   -- "token.go:127"   -- GUARDS
  refine AOps.run tok 2 _ _ _ _ rfl ?_
  unfold nameB
  generalize wlen (bsl s) = n
  refine AOps.split (t := 7) rfl (fun h => ?_) (fun h => ?_)
  · have h1 := of_decide_eq_true h
    refine AOps.run tok 6 _ _ _ _ rfl ?_
    refine AOps.split (t := 13) rfl (fun h => ?_) (fun h => ?_)
    · have h2 : (n : Int) = s.size := by simpa using h
      refine AOps.run tok 5 _ _ _ _ rfl ?_
      refine AOps.nil ?_
      rw [show decide (0 < n ∧ n = s.size ∧ s.size ≤ 24) = decide ((n : Int) ≤ 24) by rw [Bool.eq_iff_iff]; simp only [decide_eq_true_eq]; omega]
      exact AW.ret rfl
    · have h2 : ¬ (n : Int) = s.size := by simpa using h
      refine AOps.run tok 5 _ _ _ _ rfl ?_
      refine AOps.nil ?_
      rw [show decide (0 < n ∧ n = s.size ∧ s.size ≤ 24) = false by rw [Bool.eq_iff_iff]; simp <;> omega]
      exact AW.ret rfl
  · have h1 := of_decide_eq_false h
    refine AOps.run tok 11 _ _ _ _ rfl ?_
    refine AOps.nil ?_
    rw [show decide (0 < n ∧ n = s.size ∧ s.size ≤ 24) = false by rw [Bool.eq_iff_iff]; simp <;> omega]
    exact AW.ret rfl

end Lift
/- Linkages: their data, and what is wrong with one, in plain Lean. -/
namespace Lift
open Go Go.Proofs

instance : Inhabited RD := ⟨⟨false, [], []⟩⟩
structure Mark where
  nm : ByteArray
  x : RD
  y : RD
deriving Inhabited
structure Body where
  nm : ByteArray
  pts : List Mark
deriving Inhabited
structure Joint where
  nm : ByteArray
  kind : Int
  a : Int
  pt : Int
  b : Int
  on : Int
  to : Int
deriving Inhabited
structure Driver where
  nm : ByteArray
  body : Int
deriving Inhabited
structure Lkg where
  nm : ByteArray
  bodies : List Body
  joints : List Joint
  drivers : List Driver
deriving Inhabited
abbrev Mark.D (p : Mark) : D := .ag [dS p.nm, dB p.x.g, Wd p.x.n, Wd p.x.d, dB p.y.g, Wd p.y.n, Wd p.y.d]
abbrev PtsD (l : List Mark) : D := .sl 7 (l.map Mark.D)
abbrev Body.D (b : Body) : D := .ag [dS b.nm, PtsD b.pts]
abbrev Joint.D (j : Joint) : D := .ag [dS j.nm, dI j.kind, dI j.a, dI j.pt, dI j.b, dI j.on, dI j.to]
abbrev Driver.D (d : Driver) : D := .ag [dS d.nm, dI d.body]
abbrev BodiesD (l : List Body) : D := .sl 2 (l.map Body.D)
abbrev JointsD (l : List Joint) : D := .sl 7 (l.map Joint.D)
abbrev DriversD (l : List Driver) : D := .sl 2 (l.map Driver.D)
abbrev Lkg.D (l : Lkg) : D := .ag [dS l.nm, BodiesD l.bodies, JointsD l.joints, DriversD l.drivers]

def big : Nat := 1000000000000000
/-- The sizes that are asked for. -/
def Mark.ok (k : Nat) (p : Mark) : Prop := p.nm.size ≤ big ∧ p.x.w k ∧ p.y.w k
def Body.ok (k : Nat) (b : Body) : Prop := b.nm.size ≤ big ∧ b.pts.length ≤ big ∧ ∀ i, (b.pts.getD i default).ok k
structure Lkg.ok (k : Nat) (l : Lkg) : Prop where
  nm : l.nm.size ≤ big
  nb : l.bodies.length ≤ big
  nj : l.joints.length ≤ big
  nd : l.drivers.length ≤ big
  b : ∀ i, (l.bodies.getD i default).ok k
  j : ∀ i, (l.joints.getD i default).nm.size ≤ big
  d : ∀ i, (l.drivers.getD i default).nm.size ≤ big

/-- Whether g holds of one of i, i + 1, .. (m of them). -/
def anyF (g : Nat → Bool) : Nat → Nat → Bool
  | 0, _ => false
  | m + 1, i => g i || anyF g m (i + 1)
/-- The first that is not 0 of f i, f (i + 1), .. (m of them). -/
def fE (f : Nat → Nat) : Nat → Nat → Nat
  | 0, _ => 0
  | m + 1, i => if f i = 0 then fE f m (i + 1) else f i
theorem fE_hit {f : Nat → Nat} {n i : Nat} (h : i < n) (h0 : f i ≠ 0) : fE f (n - i) i = f i := by
  rw [show n - i = (n - (i + 1)) + 1 by omega, fE, if_neg h0]
theorem fE_miss {f : Nat → Nat} {n i : Nat} (h : i < n) (h0 : f i = 0) : fE f (n - i) i = fE f (n - (i + 1)) (i + 1) := by
  rw [show n - i = (n - (i + 1)) + 1 by omega, fE, if_pos h0]
theorem fE_end {f : Nat → Nat} {n i : Nat} (h : ¬ i < n) : fE f (n - i) i = 0 := by
  rw [show n - i = 0 by omega, fE]
theorem anyF_hit {f : Nat → Bool} {n i : Nat} (h : i < n) (h0 : f i = true) : anyF f (n - i) i = true := by
  rw [show n - i = (n - (i + 1)) + 1 by omega, anyF, h0]; rfl
theorem anyF_miss {f : Nat → Bool} {n i : Nat} (h : i < n) (h0 : f i = false) : anyF f (n - i) i = anyF f (n - (i + 1)) (i + 1) := by
  rw [show n - i = (n - (i + 1)) + 1 by omega, anyF, h0]; rfl
theorem anyF_end {f : Nat → Bool} {n i : Nat} (h : ¬ i < n) : anyF f (n - i) i = false := by
  rw [show n - i = 0 by omega, anyF]
theorem getM {α : Type} [Inhabited α] (f : α → D) {l : List α} {i : Nat} (h : i < l.length) : (l.map f)[i]? = some (f (l.getD i default)) := by
  simp [h]
theorem getT {α : Type} [Inhabited α] (f : α → D) {l : List α} {i k : Nat} (h : k < l.length) (hk : k < i) : ((l.map f).take i)[k]? = some (f (l.getD k default)) := by
  rw [List.getElem?_take_of_lt hk, getM f h]
theorem slcLen {l : List D} {i : Nat} (h : i ≤ l.length) : ((l.take (hiN l.length (some (i : Int)))).drop (loN none)).length = i := by
  show ((l.take i).drop 0).length = i
  rw [List.drop_zero, List.length_take]; omega

def dupM (l : List Mark) (i : Nat) : Bool := anyF (fun k => decide ((l.getD k default).nm = (l.getD i default).nm)) i 0
def dupB (l : List Body) (i : Nat) : Bool := anyF (fun k => decide ((l.getD k default).nm = (l.getD i default).nm)) i 0
def dupJ (l : List Joint) (i : Nat) : Bool := anyF (fun k => decide ((l.getD k default).nm = (l.getD i default).nm)) i 0
def dupD (l : List Driver) (i : Nat) : Bool := anyF (fun k => decide ((l.getD k default).nm = (l.getD i default).nm)) i 0
def dupT (l : List Driver) (i : Nat) : Bool := anyF (fun k => decide ((l.getD k default).body = (l.getD i default).body)) i 0
def ptE (l : List Mark) (i : Nat) : Nat := if nameB (l.getD i default).nm = false then 5 else if dupM l i = true then 6 else
  if (l.getD i default).x.okB = true ∧ (l.getD i default).y.okB = true then 0 else 3
def ptsE (l : List Mark) : Nat := if 8 < l.length then 4 else fE (ptE l) l.length 0
def bodyE (l : List Body) (i : Nat) : Nat := if nameB (l.getD i default).nm = false then 5 else if dupB l i = true then 6 else ptsE (l.getD i default).pts
def bodiesE (l : List Body) : Nat := fE (bodyE l) l.length 0
def inB (i : Int) (n : Nat) : Bool := decide (0 ≤ i ∧ i < n)
def sameM (p q : Mark) : Bool := decide (p.x.val = q.x.val ∧ p.y.val = q.y.val)
def jE (l : List Body) (j : Joint) : Nat :=
  if j.kind ≠ 0 ∧ j.kind ≠ 1 then 7 else if (inB j.a l.length && inB j.b l.length) = false then 9 else if j.a = j.b then 13 else
  if (inB j.pt (l.getD j.a.toNat default).pts.length && inB j.on (l.getD j.b.toNat default).pts.length) = false then 9 else
  if j.kind = 0 then (if j.to = 0 then 0 else 2) else if inB j.to (l.getD j.b.toNat default).pts.length = false then 9 else
  if sameM ((l.getD j.b.toNat default).pts.getD j.on.toNat default) ((l.getD j.b.toNat default).pts.getD j.to.toNat default) = true then 8 else 0
def jointE (b : List Body) (l : List Joint) (i : Nat) : Nat := if nameB (l.getD i default).nm = false then 5 else if dupJ l i = true then 6 else jE b (l.getD i default)
def jointsE (b : List Body) (l : List Joint) : Nat := if 16 < l.length then 4 else fE (jointE b l) l.length 0
def driverE (n : Nat) (l : List Driver) (i : Nat) : Nat := if nameB (l.getD i default).nm = false then 5 else if dupD l i = true then 6 else
  if inB (l.getD i default).body n = false then 9 else if (l.getD i default).body = 0 then 7 else if dupT l i = true then 6 else 0
def driversE (n : Nat) (l : List Driver) : Nat := if 2 < l.length then 4 else fE (driverE n l) l.length 0
/-- The number of the first error of a linkage; 0 if there is none. -/
def chk (l : Lkg) : Nat := if nameB l.nm = false then 5 else if l.bodies = [] then 10 else if 8 < l.bodies.length then 4 else
  if bodiesE l.bodies ≠ 0 then bodiesE l.bodies else if jointsE l.bodies l.joints ≠ 0 then jointsE l.bodies l.joints else driversE l.bodies.length l.drivers
/-- A number as an error. -/
def erV (n : Nat) : D := match n with
  | 0 => nilE
  | m + 1 => er ((m + 1 : Nat) : Int)
end Lift
/- Linkages as they are handed to a function. -/
namespace Lift
open Go Go.Proofs

theorem u_bool : RT Try.prog 4 Bool (fun b => [dB b]) (fun _ => True) := RT.bool (by kernel_rfl) (by kernel_rfl)
theorem u_int : RT Try.prog 3 Int (fun n => [dI n]) (fun n => (Lit.int .i64 n).wf = true) := RT.int (by kernel_rfl) (by kernel_rfl)
theorem u_string : RT Try.prog 9 ByteArray (fun s => [dS s]) (fun s => s.size ≤ reachBytes) := RT.string (by kernel_rfl) (by kernel_rfl)
theorem u_word : RT Try.prog 83 Nat (fun n => [wd n]) (fun n => n < 4294967296) := by
  refine (RT.int (k := .u32) (by kernel_rfl) (by kernel_rfl)).map Int.toNat (fun n h => ?_) (fun n h => ?_) (fun v => ⟨by kernel_rfl, fun d hd => by simp at hd; subst hd; rfl⟩)
  · have : 0 ≤ n ∧ n ≤ 4294967295 := by simpa [Lit.wf, IntKind.min, IntKind.max, IntKind.signed, IntKind.bits] using h
    rw [wd, Int.toNat_of_nonneg this.1]
  · have : 0 ≤ n ∧ n ≤ 4294967295 := by simpa [Lit.wf, IntKind.min, IntKind.max, IntKind.signed, IntKind.bits] using h
    omega
theorem u_words : RT Try.prog 34 (List Nat) (fun l => [Wd l]) (fun l => W32 l ∧ l.length ≤ reachBytes) :=
  (RT.slice (el := wd) (s := 1) (by kernel_rfl) (by kernel_rfl) (by kernel_rfl) (by decide) (Nat.le_of_ble_eq_true (by kernel_rfl)) u_word (fun v => rfl)).map id (fun l h => rfl) (fun l h => ⟨h.2, h.1⟩) (fun v => ⟨by kernel_rfl, fun d hd => by simp at hd; subst hd; rfl⟩)
theorem u_rat : RT Try.prog 36 RD (fun r => [dB r.g, Wd r.n, Wd r.d]) (fun r => r.w reachBytes) := by
  have h := RT.struct (P := Try.prog) (t := 36) (m := 3) Try.underlying36 (by kernel_rfl) (RTF.cons (by kernel_rfl) u_bool (RTF.cons (by kernel_rfl) u_words (RTF.cons (by kernel_rfl) u_words RTF.nil))) (fun v => rfl)
  exact h.map (fun v => ⟨v.1, v.2.1, v.2.2.1⟩) (fun v h => rfl) (fun v h => ⟨h.2.1.1, h.2.2.1.1, h.2.1.2, h.2.2.1.2⟩) (fun v => ⟨by kernel_rfl, fun d hd => by
    simp only [List.mem_cons, List.mem_nil_iff, or_false] at hd
    rcases hd with rfl | rfl | rfl <;> rfl⟩)
theorem u_mark : RT Try.prog 43 Mark (fun p => p.D.flat) (fun p => p.ok reachBytes) := by
  have h := RT.struct (P := Try.prog) (t := 43) (m := 7) Try.underlying43 (by kernel_rfl) (RTF.cons (by kernel_rfl) u_string (RTF.cons (by kernel_rfl) u_rat (RTF.cons (by kernel_rfl) u_rat RTF.nil))) (fun v => rfl)
  exact h.map (fun v => ⟨v.1, v.2.1, v.2.2.1⟩) (fun v h => rfl) (fun v h => ⟨Nat.le_trans h.1 (by decide), h.2.1, h.2.2.1⟩) (fun v => ⟨by kernel_rfl, fun d hd => by
    simp only [D.flat, List.mem_cons, List.mem_nil_iff, or_false] at hd
    rcases hd with rfl | rfl | rfl | rfl | rfl | rfl | rfl <;> rfl⟩)
theorem u_marks : RT Try.prog 39 (List Mark) (fun l => [PtsD l]) (fun l => l.length ≤ reachBytes ∧ ∀ v ∈ l, v.ok reachBytes) :=
  RT.slice (el := Mark.D) (s := 7) (by kernel_rfl) (by kernel_rfl) (by kernel_rfl) (by decide) (Nat.le_of_ble_eq_true (by kernel_rfl)) u_mark (fun v => rfl)
theorem getD_ok {α : Type} [Inhabited α] {p : α → Prop} {l : List α} (h : ∀ v ∈ l, p v) (h0 : p default) (i : Nat) : p (l.getD i default) := by
  rw [List.getD_eq_getElem?_getD]
  rcases Nat.lt_or_ge i l.length with hi | hi
  · rw [List.getElem?_eq_getElem hi]; exact h _ (List.getElem_mem hi)
  · rw [List.getElem?_eq_none hi]; exact h0
theorem mark_def (k : Nat) : (default : Mark).ok k := ⟨by decide, ⟨W32.nil, W32.nil, Nat.zero_le _, Nat.zero_le _⟩, ⟨W32.nil, W32.nil, Nat.zero_le _, Nat.zero_le _⟩⟩
theorem body_def (k : Nat) : (default : Body).ok k := ⟨by decide, by decide, fun i => getD_ok (l := []) (fun v h => by cases h) (mark_def k) i⟩
theorem u_body : RT Try.prog 41 Body (fun b => b.D.flat) (fun b => b.ok reachBytes) := by
  have h := RT.struct (P := Try.prog) (t := 41) (m := 2) Try.underlying41 (by kernel_rfl) (RTF.cons (by kernel_rfl) u_string (RTF.cons (by kernel_rfl) u_marks RTF.nil)) (fun v => rfl)
  exact h.map (fun v => ⟨v.1, v.2.1⟩) (fun v h => rfl) (fun v h => ⟨Nat.le_trans h.1 (by decide), Nat.le_trans h.2.1.1 (by decide), getD_ok h.2.1.2 (mark_def _)⟩) (fun v => ⟨by kernel_rfl, fun d hd => by
    simp only [D.flat, List.mem_cons, List.mem_nil_iff, or_false] at hd
    rcases hd with rfl | rfl <;> rfl⟩)
theorem u_bodies : RT Try.prog 22 (List Body) (fun l => [BodiesD l]) (fun l => l.length ≤ reachBytes ∧ ∀ v ∈ l, v.ok reachBytes) :=
  RT.slice (el := Body.D) (s := 2) (by kernel_rfl) (by kernel_rfl) (by kernel_rfl) (by decide) (Nat.le_of_ble_eq_true (by kernel_rfl)) u_body (fun v => rfl)
theorem u_joint : RT Try.prog 51 Joint (fun j => j.D.flat) (fun j => j.nm.size ≤ big) := by
  have h := RT.struct (P := Try.prog) (t := 51) (m := 7) Try.underlying51 (by kernel_rfl) (RTF.cons (by kernel_rfl) u_string (RTF.cons (by kernel_rfl) u_int (RTF.cons (by kernel_rfl) u_int (RTF.cons (by kernel_rfl) u_int (RTF.cons (by kernel_rfl) u_int (RTF.cons (by kernel_rfl) u_int (RTF.cons (by kernel_rfl) u_int RTF.nil))))))) (fun v => rfl)
  exact h.map (fun v => ⟨v.1, v.2.1, v.2.2.1, v.2.2.2.1, v.2.2.2.2.1, v.2.2.2.2.2.1, v.2.2.2.2.2.2.1⟩) (fun v h => rfl) (fun v h => Nat.le_trans h.1 (by decide)) (fun v => ⟨by kernel_rfl, fun d hd => by
    simp only [D.flat, List.mem_cons, List.mem_nil_iff, or_false] at hd
    rcases hd with rfl | rfl | rfl | rfl | rfl | rfl | rfl <;> rfl⟩)
theorem u_joints : RT Try.prog 23 (List Joint) (fun l => [JointsD l]) (fun l => l.length ≤ reachBytes ∧ ∀ v ∈ l, v.nm.size ≤ big) :=
  RT.slice (el := Joint.D) (s := 7) (by kernel_rfl) (by kernel_rfl) (by kernel_rfl) (by decide) (Nat.le_of_ble_eq_true (by kernel_rfl)) u_joint (fun v => rfl)
theorem u_driver : RT Try.prog 49 Driver (fun d => d.D.flat) (fun d => d.nm.size ≤ big) := by
  have h := RT.struct (P := Try.prog) (t := 49) (m := 2) Try.underlying49 (by kernel_rfl) (RTF.cons (by kernel_rfl) u_string (RTF.cons (by kernel_rfl) u_int RTF.nil)) (fun v => rfl)
  exact h.map (fun v => ⟨v.1, v.2.1⟩) (fun v h => rfl) (fun v h => Nat.le_trans h.1 (by decide)) (fun v => ⟨by kernel_rfl, fun d hd => by
    simp only [D.flat, List.mem_cons, List.mem_nil_iff, or_false] at hd
    rcases hd with rfl | rfl <;> rfl⟩)
theorem u_drivers : RT Try.prog 24 (List Driver) (fun l => [DriversD l]) (fun l => l.length ≤ reachBytes ∧ ∀ v ∈ l, v.nm.size ≤ big) :=
  RT.slice (el := Driver.D) (s := 2) (by kernel_rfl) (by kernel_rfl) (by kernel_rfl) (by decide) (Nat.le_of_ble_eq_true (by kernel_rfl)) u_driver (fun v => rfl)
theorem Lkg.ok.mono {l : Lkg} {k m : Nat} (h : l.ok k) (hk : k ≤ m) : l.ok m :=
  ⟨h.nm, h.nb, h.nj, h.nd, fun i => ⟨(h.b i).1, (h.b i).2.1, fun j => ⟨((h.b i).2.2 j).1, ((h.b i).2.2 j).2.1.mono hk, ((h.b i).2.2 j).2.2.mono hk⟩⟩, h.j, h.d⟩
theorem u_linkage : RT Try.prog 26 Lkg (fun l => l.D.flat) (fun l => l.ok big) := by
  have h := RT.struct (P := Try.prog) (t := 26) (m := 4) Try.underlying26 (by kernel_rfl) (RTF.cons (by kernel_rfl) u_string (RTF.cons (by kernel_rfl) u_bodies (RTF.cons (by kernel_rfl) u_joints (RTF.cons (by kernel_rfl) u_drivers RTF.nil)))) (fun v => rfl)
  exact h.map (fun v => ⟨v.1, v.2.1, v.2.2.1, v.2.2.2.1⟩) (fun v h => rfl) (fun v h => Lkg.ok.mono (k := reachBytes) ⟨Nat.le_trans h.1 (by decide), Nat.le_trans h.2.1.1 (by decide), Nat.le_trans h.2.2.1.1 (by decide), Nat.le_trans h.2.2.2.1.1 (by decide),
    getD_ok h.2.1.2 (body_def _), getD_ok (p := fun j : Joint => j.nm.size ≤ big) h.2.2.1.2 (by decide), getD_ok (p := fun d : Driver => d.nm.size ≤ big) h.2.2.2.1.2 (by decide)⟩ (by decide)) (fun v => ⟨by kernel_rfl, fun d hd => by
    simp only [D.flat, List.mem_cons, List.mem_nil_iff, or_false] at hd
    rcases hd with rfl | rfl | rfl | rfl <;> rfl⟩)
end Lift
/- What the rows ask of the program; the arguments of the statements. -/
namespace Go.Proofs.Ytccaiekiikoccaa
open Lift Go

theorem Try.own : ownKnob Try.prog.godebug = none := by kernel_rfl
theorem Try.laidOut : laidOutB Try.prog = true := by kernel_rfl
theorem a_linkage : RA Try.prog 26 Lkg (fun l => l.D) (fun l => l.ok big) := RA.agg Try.underlying26 u_linkage
theorem a_string : RA Try.prog 9 ByteArray (fun s => dS s) (fun _ => True) := RA.cell (one_string (by kernel_rfl)) (u_string.map id (fun _ _ => rfl) (fun _ _ => trivial) u_string.1)
end Go.Proofs.Ytccaiekiikoccaa
/- The model's checks: numbers, bodies. -/
namespace Lift
open Go Go.Proofs

theorem model_in_ok (i : Int) (n : Nat) : Pure Try.prog 24 [dI i, dI n] (dB (inB i n)) := by
  refine Pure.intro (n := 12) tok Try.func24 rfl rfl rfl (Nat.le_of_ble_eq_true rfl) (by kernel_rfl) (fun B F0 w0 => ?_)
  refine AW.seq ?_
  refine AW.region ?_   -- "model.go:42"
  refine AOps.run tok 1 _ _ _ _ rfl ?_
  refine AOps.nil ?_
  refine AW.seq ?_
  refine AW.region ?_   -- "model.go:42"   -- GUARDS
  refine AOps.run tok 2 _ _ _ _ rfl ?_
  refine AOps.split (t := 6) rfl (fun h => ?_) (fun h => ?_)
  · have h1 := of_decide_eq_true h
    refine AOps.run tok 6 _ _ _ _ rfl ?_
    refine AOps.nil ?_
    rw [show inB i n = decide (i < n) by unfold inB; rw [decide_eq_decide]; omega]
    exact AW.ret rfl
  · have h1 := of_decide_eq_false h
    refine AOps.run tok 6 _ _ _ _ rfl ?_
    refine AOps.nil ?_
    rw [show inB i n = false by unfold inB; rw [decide_eq_false_iff_not]; omega]
    exact AW.ret rfl

set_option maxHeartbeats 1600000 in
theorem model_bodies_ok (bs : List Body) {K : Nat} (hn : bs.length ≤ big) (hb : ∀ i, (bs.getD i default).ok K) (hK : K ≤ 50000000) : Pure Try.prog 21 [BodiesD bs] (erV (bodiesE bs)) := by
  refine Pure.intro (n := 85) tok Try.func21 rfl rfl rfl (Nat.le_of_ble_eq_true rfl) (by kernel_rfl) (fun B F0 w0 => ?_)
  unfold big at hn
  refine AW.seq ?_
  refine AW.region ?_   -- "model.go:11"
  refine AOps.run tok 1 _ _ _ _ rfl ?_
  refine AOps.nil ?_
  refine AW.seq ?_
  refine AW.seq ?_
  refine AW.region ?_   -- "model.go:12"
  refine AOps.run tok 3 _ _ _ _ rfl ?_
  rw [List.length_map]
  refine AOps.nil ?_
  refine AW.block ?_   -- block 0
  refine AW.loopS [0, 11, 12, 13] (fun i : Nat => [(0, .d (BodiesD bs)), (11, .d (BodiesD bs)), (12, .d (dI bs.length)), (13, .d (dI i))])
    (fun i => i ≤ bs.length ∧ bodiesE bs = fE (bodyE bs) (bs.length - i) i) (fun i => bs.length - i) 0 rfl ⟨Nat.zero_le _, rfl⟩ (fun i ⟨hi, hE⟩ => ?_)
  refine AW.seq ?_
  refine AW.region ?_   -- "model.go:12"
  refine AOps.run tok 1 _ _ _ _ rfl ?_
  refine AOps.nil ?_
  refine AW.seq ?_
  refine AW.cond rfl (fun h => ?_) (fun h => ?_)
  · have hin : i < bs.length := by have := of_decide_eq_true h; omega
    obtain ⟨bok1, bok2, bok3⟩ := hb i
    have hbE : bodyE bs i ≠ 0 → bodiesE bs = bodyE bs i := fun h0 => hE.trans (fE_hit hin h0)
    have hbM : bodyE bs i = 0 → bodiesE bs = fE (bodyE bs) (bs.length - (i + 1)) (i + 1) := fun h0 => hE.trans (fE_miss hin h0)
    obtain ⟨b, hbe⟩ : ∃ b, b = bs.getD i default := ⟨_, rfl⟩
    rw [← hbe] at bok1 bok2 bok3
    unfold big at bok1 bok2
    have hdup : dupB bs i = anyF (fun k => decide ((bs.getD k default).nm = b.nm)) i 0 := by rw [hbe]; rfl
    have hbd : bodyE bs i = if nameB b.nm = false then 5 else if dupB bs i = true then 6 else ptsE b.pts := by rw [hbe]; rfl
    refine AW.skip ?_
    refine AW.seq ?_
    refine AW.block ?_   -- block 1
    refine AW.seq ?_
    refine AW.region ?_   -- "model.go:12"
    refine AOps.run tok 1 _ _ _ _ rfl ?_
    refine AOps.idx tok b.D rfl rfl rfl rfl (Int.natCast_nonneg i) (by rw [hbe]; exact getM Body.D hin) ?_
    refine AOps.run tok 4 _ _ _ _ rfl ?_
    refine AOps.nil ?_
    refine AW.seq ?_
    refine AW.seq ?_
    refine AW.region ?_   -- "model.go:13"
    refine AOps.run tok 2 _ _ _ _ rfl ?_
    refine AOps.call tok rfl rfl rfl rfl (token_Name_ok b.nm bok1) ?_
    refine AOps.run tok 1 _ _ _ _ rfl ?_
    refine AOps.nil ?_
    refine AW.cond rfl (fun h => ?_) (fun h => ?_)
    · have hnm : nameB b.nm = false := by simpa using h
      have h5 : bodyE bs i = 5 := by rw [hbd, hnm]; rfl
      rw [show bodiesE bs = 5 by rw [hbE (by omega), h5]]
      refine AW.seq ?_
      refine AW.region ?_   -- "model.go:14"
      refine AOps.run tok 2 _ _ _ _ rfl ?_
      refine AOps.nil ?_
      exact AW.ret rfl
    · have hnm : nameB b.nm = true := by simpa using h
      rw [hnm, if_neg (by decide)] at hbd
      refine AW.skip ?_
      refine AW.seq ?_
      refine AW.seq ?_
      refine AW.region ?_   -- "model.go:16"
      refine AOps.run tok 2 _ _ _ _ rfl ?_
      refine AOps.slc tok rfl rfl rfl rfl trivial (Int.natCast_nonneg i) (Nat.zero_le _) (by show i ≤ _; rw [List.length_map]; omega) ?_
      refine AOps.run tok 2 _ _ _ _ rfl ?_
      rw [slcLen (by rw [List.length_map]; omega)]
      refine AOps.nil ?_
      refine AW.block ?_   -- block 2
      refine AW.loopS [0, 3, 4, 11, 12, 13, 25, 26, 27] (fun k : Nat => [(0, .d (BodiesD bs)), (3, .d (dI i)), (4, .bx [dS b.nm, PtsD b.pts]), (11, .d (BodiesD bs)), (12, .d (dI bs.length)), (13, .d (dI i)), (25, .d (.sl 2 ((bs.map Body.D).take i))), (26, .d (dI i)), (27, .d (dI k))])
        (fun k => k ≤ i ∧ dupB bs i = anyF (fun k => decide ((bs.getD k default).nm = b.nm)) (i - k) k) (fun k => i - k) 0 rfl ⟨Nat.zero_le _, hdup⟩ (fun k ⟨hk, hD⟩ => ?_)
      refine AW.seq ?_
      refine AW.region ?_   -- "model.go:16"
      refine AOps.run tok 1 _ _ _ _ rfl ?_
      refine AOps.nil ?_
      refine AW.seq ?_
      refine AW.cond rfl (fun h => ?_) (fun h => ?_)
      · have hki : k < i := by have := of_decide_eq_true h; omega
        refine AW.skip ?_
        refine AW.seq ?_
        refine AW.block ?_   -- block 3
        refine AW.seq ?_
        refine AW.region ?_   -- "model.go:16"
        refine AOps.idx tok (bs.getD k default).D rfl rfl rfl rfl (Int.natCast_nonneg k) (getT Body.D (by omega) hki) ?_
        refine AOps.run tok 3 _ _ _ _ rfl ?_
        refine AOps.nil ?_
        refine AW.seq ?_
        refine AW.region ?_   -- "model.go:17"
        refine AOps.run tok 5 _ _ _ _ rfl ?_
        rw [str_eq]
        refine AOps.nil ?_
        refine AW.cond rfl (fun h => ?_) (fun h => ?_)
        · have h6 : bodyE bs i = 6 := by rw [hbd, hD.trans (anyF_hit hki h)]; rfl
          rw [show bodiesE bs = 6 by rw [hbE (by omega), h6]]
          refine AW.seq ?_
          refine AW.region ?_   -- "model.go:18"
          refine AOps.run tok 2 _ _ _ _ rfl ?_
          refine AOps.nil ?_
          exact AW.ret rfl
        · refine AW.skip ?_
          refine AW.region ?_   -- "model.go:16"
          refine AOps.run tok 2 _ _ _ _ rfl ?_
          rw [wI64 (x := (k : Int) + 1) (by omega) (by omega)]
          refine AOps.nil ?_
          exact ⟨k + 1, rfl, ⟨hki, hD.trans (anyF_miss hki h)⟩, by omega⟩
      · have hki : ¬ k < i := by have := of_decide_eq_false h; omega
        rw [hD.trans (anyF_end hki), if_neg (by decide)] at hbd
        refine AW.exit ?_
        refine AW.seq ?_
        refine AW.seq ?_
        refine AW.region ?_   -- "model.go:21"
        refine AOps.run tok 4 _ _ _ _ rfl ?_
        rw [List.length_map]
        refine AOps.nil ?_
        refine AW.cond rfl (fun h => ?_) (fun h => ?_)
        · have h8 : 8 < b.pts.length := by have := of_decide_eq_true h; omega
          have h4 : bodyE bs i = 4 := by rw [hbd, ptsE, if_pos h8]
          rw [show bodiesE bs = 4 by rw [hbE (by omega), h4]]
          refine AW.seq ?_
          refine AW.region ?_   -- "model.go:22"
          refine AOps.run tok 2 _ _ _ _ rfl ?_
          refine AOps.nil ?_
          exact AW.ret rfl
        · have h8 : ¬ 8 < b.pts.length := by have := of_decide_eq_false h; omega
          rw [ptsE, if_neg h8] at hbd
          refine AW.skip ?_
          refine AW.seq ?_
          refine AW.region ?_   -- "model.go:24"
          refine AOps.run tok 4 _ _ _ _ rfl ?_
          rw [List.length_map]
          refine AOps.nil ?_
          refine AW.block ?_   -- block 4
          refine AW.loopS [0, 4, 11, 12, 13, 44, 45, 46] (fun p : Nat => [(0, .d (BodiesD bs)), (4, .bx [dS b.nm, PtsD b.pts]), (11, .d (BodiesD bs)), (12, .d (dI bs.length)), (13, .d (dI i)), (44, .d (PtsD b.pts)), (45, .d (dI b.pts.length)), (46, .d (dI p))])
            (fun p => p ≤ b.pts.length ∧ bodyE bs i = fE (ptE b.pts) (b.pts.length - p) p) (fun p => b.pts.length - p) 0 rfl ⟨Nat.zero_le _, hbd⟩ (fun p ⟨hp, hP⟩ => ?_)
          refine AW.seq ?_
          refine AW.region ?_   -- "model.go:24"
          refine AOps.run tok 1 _ _ _ _ rfl ?_
          refine AOps.nil ?_
          refine AW.seq ?_
          refine AW.cond rfl (fun h => ?_) (fun h => ?_)
          · have hpn : p < b.pts.length := by have := of_decide_eq_true h; omega
            obtain ⟨mok1, mok2, mok3⟩ := bok3 p
            have hpE : ptE b.pts p ≠ 0 → bodiesE bs = ptE b.pts p := fun h0 => by
              have := hP.trans (fE_hit hpn h0)
              rw [hbE (by omega), this]
            have hpM : ptE b.pts p = 0 → bodyE bs i = fE (ptE b.pts) (b.pts.length - (p + 1)) (p + 1) := fun h0 => hP.trans (fE_miss hpn h0)
            obtain ⟨m, hm⟩ : ∃ m, m = b.pts.getD p default := ⟨_, rfl⟩
            rw [← hm] at mok1 mok2 mok3
            unfold big at mok1
            have hdup2 : dupM b.pts p = anyF (fun k => decide ((b.pts.getD k default).nm = m.nm)) p 0 := by rw [hm]; rfl
            have hpd : ptE b.pts p = if nameB m.nm = false then 5 else if dupM b.pts p = true then 6 else if m.x.okB = true ∧ m.y.okB = true then 0 else 3 := by rw [hm]; rfl
            refine AW.skip ?_
            refine AW.seq ?_
            refine AW.block ?_   -- block 5
            refine AW.seq ?_
            refine AW.region ?_   -- "model.go:24"
            refine AOps.run tok 1 _ _ _ _ rfl ?_
            refine AOps.idx tok m.D rfl rfl rfl rfl (Int.natCast_nonneg p) (by rw [hm]; exact getM Mark.D hpn) ?_
            refine AOps.run tok 4 _ _ _ _ rfl ?_
            refine AOps.nil ?_
            refine AW.seq ?_
            refine AW.seq ?_
            refine AW.region ?_   -- "model.go:25"
            refine AOps.run tok 2 _ _ _ _ rfl ?_
            refine AOps.call tok rfl rfl rfl rfl (token_Name_ok m.nm mok1) ?_
            refine AOps.run tok 1 _ _ _ _ rfl ?_
            refine AOps.nil ?_
            refine AW.cond rfl (fun h => ?_) (fun h => ?_)
            · have hnm2 : nameB m.nm = false := by simpa using h
              have h5 : ptE b.pts p = 5 := by rw [hpd, hnm2]; rfl
              rw [show bodiesE bs = 5 by rw [hpE (by omega), h5]]
              refine AW.seq ?_
              refine AW.region ?_   -- "model.go:26"
              refine AOps.run tok 2 _ _ _ _ rfl ?_
              refine AOps.nil ?_
              exact AW.ret rfl
            · have hnm2 : nameB m.nm = true := by simpa using h
              rw [hnm2, if_neg (by decide)] at hpd
              refine AW.skip ?_
              refine AW.seq ?_
              refine AW.seq ?_
              refine AW.region ?_   -- "model.go:28"
              refine AOps.run tok 3 _ _ _ _ rfl ?_
              refine AOps.slc tok rfl rfl rfl rfl trivial (Int.natCast_nonneg p) (Nat.zero_le _) (by show p ≤ _; rw [List.length_map]; omega) ?_
              refine AOps.run tok 2 _ _ _ _ rfl ?_
              rw [slcLen (by rw [List.length_map]; omega)]
              refine AOps.nil ?_
              refine AW.block ?_   -- block 6
              refine AW.loopS [0, 4, 8, 11, 12, 13, 44, 45, 46, 59, 60, 61] (fun k : Nat => [(0, .d (BodiesD bs)), (4, .bx [dS b.nm, PtsD b.pts]), (8, .bx [dS m.nm, dB m.x.g, Wd m.x.n, Wd m.x.d, dB m.y.g, Wd m.y.n, Wd m.y.d]), (11, .d (BodiesD bs)), (12, .d (dI bs.length)), (13, .d (dI i)), (44, .d (PtsD b.pts)), (45, .d (dI b.pts.length)), (46, .d (dI p)), (59, .d (.sl 7 ((b.pts.map Mark.D).take p))), (60, .d (dI p)), (61, .d (dI k))])
                (fun k => k ≤ p ∧ dupM b.pts p = anyF (fun k => decide ((b.pts.getD k default).nm = m.nm)) (p - k) k) (fun k => p - k) 0 rfl ⟨Nat.zero_le _, hdup2⟩ (fun k ⟨hk, hD2⟩ => ?_)
              refine AW.seq ?_
              refine AW.region ?_   -- "model.go:28"
              refine AOps.run tok 1 _ _ _ _ rfl ?_
              refine AOps.nil ?_
              refine AW.seq ?_
              refine AW.cond rfl (fun h => ?_) (fun h => ?_)
              · have hkp : k < p := by have := of_decide_eq_true h; omega
                refine AW.skip ?_
                refine AW.seq ?_
                refine AW.block ?_   -- block 7
                refine AW.seq ?_
                refine AW.region ?_   -- "model.go:28"
                refine AOps.idx tok (b.pts.getD k default).D rfl rfl rfl rfl (Int.natCast_nonneg k) (getT Mark.D (by omega) hkp) ?_
                refine AOps.run tok 3 _ _ _ _ rfl ?_
                refine AOps.nil ?_
                refine AW.seq ?_
                refine AW.region ?_   -- "model.go:29"
                refine AOps.run tok 5 _ _ _ _ rfl ?_
                rw [str_eq]
                refine AOps.nil ?_
                refine AW.cond rfl (fun h => ?_) (fun h => ?_)
                · have h6 : ptE b.pts p = 6 := by rw [hpd, hD2.trans (anyF_hit hkp h)]; rfl
                  rw [show bodiesE bs = 6 by rw [hpE (by omega), h6]]
                  refine AW.seq ?_
                  refine AW.region ?_   -- "model.go:30"
                  refine AOps.run tok 2 _ _ _ _ rfl ?_
                  refine AOps.nil ?_
                  exact AW.ret rfl
                · refine AW.skip ?_
                  refine AW.region ?_   -- "model.go:28"
                  refine AOps.run tok 2 _ _ _ _ rfl ?_
                  rw [wI64 (x := (k : Int) + 1) (by omega) (by omega)]
                  refine AOps.nil ?_
                  exact ⟨k + 1, rfl, ⟨hkp, hD2.trans (anyF_miss hkp h)⟩, by omega⟩
              · have hkp : ¬ k < p := by have := of_decide_eq_false h; omega
                rw [hD2.trans (anyF_end hkp), if_neg (by decide)] at hpd
                refine AW.exit ?_
                refine AW.cut [0, 4, 11, 12, 13, 44, 45, 46, 81] (fun _ : Unit => [(0, .d (BodiesD bs)), (4, .bx [dS b.nm, PtsD b.pts]), (11, .d (BodiesD bs)), (12, .d (dI bs.length)), (13, .d (dI i)), (44, .d (PtsD b.pts)), (45, .d (dI b.pts.length)), (46, .d (dI p)), (81, .d (dB (!decide (m.x.okB = true ∧ m.y.okB = true))))]) (fun _ => True) ?_ (fun _ _ => ?_)
                · refine AW.region ?_   -- "model.go:33"   -- GUARDS
                  refine AOps.run tok 2 _ _ _ _ rfl ?_
                  refine AOps.call tok rfl rfl rfl rfl (fraction_Valid_ok m.x mok2 hK) ?_
                  refine AOps.split (t := 74) rfl (fun h => ?_) (fun h => ?_)
                  · refine AOps.run tok 4 _ _ _ _ rfl ?_
                    refine AOps.call tok rfl rfl rfl rfl (fraction_Valid_ok m.y mok3 hK) ?_   -- guarded
                    refine AOps.run tok 2 _ _ _ _ rfl ?_
                    refine AOps.nil ?_
                    exact ⟨(), by rw [show decide (m.x.okB = true ∧ m.y.okB = true) = m.y.okB by simp [h]]; rfl, trivial⟩
                  · refine AOps.run tok 7 _ _ _ _ rfl ?_
                    refine AOps.nil ?_
                    exact ⟨(), by rw [show decide (m.x.okB = true ∧ m.y.okB = true) = false by simp [h]]; rfl, trivial⟩
                refine AW.cond rfl (fun h => ?_) (fun h => ?_)
                · have hno : ¬ (m.x.okB = true ∧ m.y.okB = true) := fun e => by rw [decide_eq_true e] at h; cases h
                  have h3 : ptE b.pts p = 3 := by rw [hpd, if_neg hno]
                  rw [show bodiesE bs = 3 by rw [hpE (by omega), h3]]
                  refine AW.seq ?_
                  refine AW.region ?_   -- "model.go:34"
                  refine AOps.run tok 2 _ _ _ _ rfl ?_
                  refine AOps.nil ?_
                  exact AW.ret rfl
                · have hyes : m.x.okB = true ∧ m.y.okB = true := by simpa using h
                  rw [if_pos hyes] at hpd
                  refine AW.skip ?_
                  refine AW.region ?_   -- "model.go:24"
                  refine AOps.run tok 2 _ _ _ _ rfl ?_
                  rw [wI64 (x := (p : Int) + 1) (by omega) (by omega)]
                  refine AOps.nil ?_
                  exact ⟨p + 1, rfl, ⟨hpn, hpM hpd⟩, by omega⟩
          · have hpn : ¬ p < b.pts.length := by have := of_decide_eq_false h; omega
            have h0 : bodyE bs i = 0 := hP.trans (fE_end hpn)
            refine AW.exit ?_
            refine AW.region ?_   -- "model.go:12"
            refine AOps.run tok 2 _ _ _ _ rfl ?_
            rw [wI64 (x := (i : Int) + 1) (by omega) (by omega)]
            refine AOps.nil ?_
            exact ⟨i + 1, rfl, ⟨hin, hbM h0⟩, by omega⟩
  · have hin : ¬ i < bs.length := by have := of_decide_eq_false h; omega
    rw [hE, fE_end hin]
    refine AW.exit ?_
    refine AW.seq ?_
    refine AW.region ?_   -- "model.go:38"
    refine AOps.run tok 1 _ _ _ _ rfl ?_
    refine AOps.nil ?_
    exact AW.ret rfl
end Lift
/- The model's check of a joint. -/
namespace Lift
open Go Go.Proofs

theorem cmpQ_zero (a b : Rat) : (cmpQ a b == 0) = decide (a = b) := by
  unfold cmpQ
  by_cases h : a < b
  · rw [if_pos h]
    have hne : a ≠ b := fun e => by rw [e] at h; exact absurd h Rat.lt_irrefl
    rw [decide_eq_false hne]; rfl
  · rw [if_neg h]
    by_cases he : a = b
    · rw [if_pos he, decide_eq_true he]; rfl
    · rw [if_neg he, decide_eq_false he]; rfl
theorem not_t {b : Bool} (h : (!b) = true) : b = false := by cases b <;> simp_all
theorem inB_t {i : Int} {n : Nat} (h : inB i n = true) : 0 ≤ i ∧ i.toNat < n := by
  have := of_decide_eq_true h; omega

set_option maxHeartbeats 1600000 in
theorem model_joint_ok (l : Lkg) (j : Joint) {K : Nat} (hl : l.ok K) (hK : K ≤ 20000000) : Pure Try.prog 38 [l.D, j.D] (erV (jE l.bodies j)) := by
  refine Pure.intro (n := 107) tok Try.func38 rfl rfl rfl (Nat.le_of_ble_eq_true rfl) (by kernel_rfl) (fun B F0 w0 => ?_)
  obtain ⟨ln, bs, js, ds⟩ := l
  have hb := hl.b
  simp only [] at hb ⊢
  obtain ⟨nm, kind, a, pt, b, on, to⟩ := j
  have hj : jE bs ⟨nm, kind, a, pt, b, on, to⟩ = if kind ≠ 0 ∧ kind ≠ 1 then 7 else if (inB a bs.length && inB b bs.length) = false then 9 else if a = b then 13 else
    if (inB pt (bs.getD a.toNat default).pts.length && inB on (bs.getD b.toNat default).pts.length) = false then 9 else
    if kind = 0 then (if to = 0 then 0 else 2) else if inB to (bs.getD b.toNat default).pts.length = false then 9 else
    if sameM ((bs.getD b.toNat default).pts.getD on.toNat default) ((bs.getD b.toNat default).pts.getD to.toNat default) = true then 8 else 0 := rfl
  generalize jE bs ⟨nm, kind, a, pt, b, on, to⟩ = E at *
  refine AW.seq ?_
  refine AW.region ?_   -- "model.go:45"
  refine AOps.run tok 3 _ _ _ _ rfl ?_
  refine AOps.nil ?_
  refine AW.seq ?_
  refine AW.cut [2, 3, 15] (fun _ : Unit => [(2, .bx [dS ln, BodiesD bs, JointsD js, DriversD ds]), (3, .bx [dS nm, dI kind, dI a, dI pt, dI b, dI on, dI to]), (15, .d (dB (decide (kind ≠ 0 ∧ kind ≠ 1))))]) (fun _ => True) ?_ (fun _ _ => ?_)
  · refine AW.region ?_   -- "model.go:46"   -- GUARDS
    refine AOps.run tok 3 _ _ _ _ rfl ?_
    refine AOps.split (t := 10) rfl (fun h => ?_) (fun h => ?_)
    · have h1 : kind ≠ 0 := by simpa using h
      refine AOps.run tok 5 _ _ _ _ rfl ?_
      refine AOps.nil ?_
      exact ⟨(), by rw [show decide (kind ≠ 0 ∧ kind ≠ 1) = (kind != 1) by rw [Bool.eq_iff_iff]; simp [h1]]; rfl, trivial⟩
    · have h1 : kind = 0 := by simpa using h
      refine AOps.run tok 5 _ _ _ _ rfl ?_
      refine AOps.nil ?_
      exact ⟨(), by rw [show decide (kind ≠ 0 ∧ kind ≠ 1) = false by simp [h1]]; rfl, trivial⟩
  refine AW.cond rfl (fun h => ?_) (fun h => ?_)
  · rw [if_pos (of_decide_eq_true h)] at hj
    rw [hj]
    refine AW.seq ?_
    refine AW.region ?_   -- "model.go:47"
    refine AOps.run tok 2 _ _ _ _ rfl ?_
    refine AOps.nil ?_
    exact AW.ret rfl
  rw [if_neg (of_decide_eq_false h)] at hj
  refine AW.skip ?_
  refine AW.seq ?_
  refine AW.cut [2, 3, 32] (fun _ : Unit => [(2, .bx [dS ln, BodiesD bs, JointsD js, DriversD ds]), (3, .bx [dS nm, dI kind, dI a, dI pt, dI b, dI on, dI to]), (32, .d (dB (!(inB a bs.length && inB b bs.length))))]) (fun _ => True) ?_ (fun _ _ => ?_)
  · refine AW.region ?_   -- "model.go:49"   -- GUARDS
    refine AOps.run tok 5 _ _ _ _ rfl ?_
    rw [List.length_map]
    refine AOps.call tok rfl rfl rfl rfl (model_in_ok a bs.length) ?_
    refine AOps.split (t := 22) rfl (fun h => ?_) (fun h => ?_)
    · refine AOps.run tok 7 _ _ _ _ rfl ?_
      rw [List.length_map]
      refine AOps.call tok rfl rfl rfl rfl (model_in_ok b bs.length) ?_   -- guarded
      refine AOps.run tok 2 _ _ _ _ rfl ?_
      refine AOps.nil ?_
      exact ⟨(), by rw [h]; rfl, trivial⟩
    · refine AOps.run tok 10 _ _ _ _ rfl ?_
      refine AOps.nil ?_
      exact ⟨(), by rw [h]; rfl, trivial⟩
  refine AW.cond rfl (fun h => ?_) (fun h => ?_)
  · rw [if_pos (not_t h)] at hj
    rw [hj]
    refine AW.seq ?_
    refine AW.region ?_   -- "model.go:50"
    refine AOps.run tok 2 _ _ _ _ rfl ?_
    refine AOps.nil ?_
    exact AW.ret rfl
  have hab : inB a bs.length = true ∧ inB b bs.length = true := by simpa using h
  rw [if_neg (by simp [hab])] at hj
  obtain ⟨ha0, ha1⟩ := inB_t hab.1
  obtain ⟨hb0, hb1⟩ := inB_t hab.2
  obtain ⟨Bb, hBb⟩ : ∃ x, x = bs.getD b.toNat default := ⟨_, rfl⟩
  obtain ⟨Ba, hBa⟩ : ∃ x, x = bs.getD a.toNat default := ⟨_, rfl⟩
  have okb := hb b.toNat
  rw [← hBb] at hj okb
  rw [← hBa] at hj
  refine AW.skip ?_
  refine AW.seq ?_
  refine AW.seq ?_
  refine AW.region ?_   -- "model.go:52"
  refine AOps.run tok 5 _ _ _ _ rfl ?_
  refine AOps.nil ?_
  refine AW.cond rfl (fun h => ?_) (fun h => ?_)
  · rw [if_pos (by simpa using h)] at hj
    rw [hj]
    refine AW.seq ?_
    refine AW.region ?_   -- "model.go:53"
    refine AOps.run tok 2 _ _ _ _ rfl ?_
    refine AOps.nil ?_
    exact AW.ret rfl
  rw [if_neg (by simpa using h)] at hj
  refine AW.skip ?_
  refine AW.seq ?_
  refine AW.region ?_   -- "model.go:55"
  refine AOps.run tok 4 _ _ _ _ rfl ?_
  refine AOps.idx tok Bb.D rfl rfl rfl rfl hb0 (by rw [hBb]; exact getM Body.D hb1) ?_
  refine AOps.run tok 3 _ _ _ _ rfl ?_
  refine AOps.nil ?_
  refine AW.seq ?_
  refine AW.cut [2, 3, 5, 66] (fun _ : Unit => [(2, .bx [dS ln, BodiesD bs, JointsD js, DriversD ds]), (3, .bx [dS nm, dI kind, dI a, dI pt, dI b, dI on, dI to]), (5, .d (PtsD Bb.pts)), (66, .d (dB (!(inB pt Ba.pts.length && inB on Bb.pts.length))))]) (fun _ => True) ?_ (fun _ _ => ?_)
  · have c1 := model_in_ok pt Ba.pts.length
    cases hq : inB pt Ba.pts.length with
    | true =>
      rw [hq] at c1
      refine AW.draw hmix 20 (by kernel_rfl) ?_   -- "model.go:56"   -- GUARDS
      refine APre.run tok 6 _ _ _ _ rfl ?_
      refine APre.idx tok Ba.D rfl rfl rfl rfl rfl ha0 (by rw [hBa]; exact getM Body.D ha1) ?_
      refine APre.run tok 3 _ _ _ _ rfl ?_
      rw [List.length_map]
      refine APre.call tok rfl rfl rfl rfl rfl c1 ?_
      refine APre.run tok 6 _ _ _ _ rfl ?_
      rw [List.length_map]
      refine APre.call tok rfl rfl rfl rfl rfl (model_in_ok on Bb.pts.length) ?_   -- guarded
      refine APre.run tok 2 _ _ _ _ rfl ?_
      refine APre.nil ?_
      refine AOps.nil ?_
      exact ⟨(), rfl, trivial⟩
    | false =>
      rw [hq] at c1
      refine AW.draw hmix 20 (by kernel_rfl) ?_   -- "model.go:56"   -- GUARDS
      refine APre.run tok 6 _ _ _ _ rfl ?_
      refine APre.idx tok Ba.D rfl rfl rfl rfl rfl ha0 (by rw [hBa]; exact getM Body.D ha1) ?_
      refine APre.run tok 3 _ _ _ _ rfl ?_
      rw [List.length_map]
      refine APre.call tok rfl rfl rfl rfl rfl c1 ?_
      refine APre.run tok 9 _ _ _ _ rfl ?_
      refine APre.nil ?_
      refine AOps.nil ?_
      exact ⟨(), rfl, trivial⟩
  refine AW.cond rfl (fun h => ?_) (fun h => ?_)
  · rw [if_pos (not_t h)] at hj
    rw [hj]
    refine AW.seq ?_
    refine AW.region ?_   -- "model.go:57"
    refine AOps.run tok 2 _ _ _ _ rfl ?_
    refine AOps.nil ?_
    exact AW.ret rfl
  have hpo : inB pt Ba.pts.length = true ∧ inB on Bb.pts.length = true := by simpa using h
  rw [if_neg (by simp [hpo])] at hj
  obtain ⟨ho0, ho1⟩ := inB_t hpo.2
  refine AW.skip ?_
  refine AW.seq ?_
  refine AW.seq ?_
  refine AW.region ?_   -- "model.go:59"
  refine AOps.run tok 3 _ _ _ _ rfl ?_
  refine AOps.nil ?_
  refine AW.cond rfl (fun h => ?_) (fun h => ?_)
  · rw [if_pos (by simpa using h)] at hj
    refine AW.seq ?_
    refine AW.seq ?_
    refine AW.region ?_   -- "model.go:60"
    refine AOps.run tok 3 _ _ _ _ rfl ?_
    refine AOps.nil ?_
    refine AW.cond rfl (fun h => ?_) (fun h => ?_)
    · rw [if_neg (by simpa using h)] at hj
      rw [hj]
      refine AW.seq ?_
      refine AW.region ?_   -- "model.go:61"
      refine AOps.run tok 2 _ _ _ _ rfl ?_
      refine AOps.nil ?_
      exact AW.ret rfl
    · rw [if_pos (by simpa using h)] at hj
      rw [hj]
      refine AW.skip ?_
      refine AW.seq ?_
      refine AW.region ?_   -- "model.go:63"
      refine AOps.run tok 1 _ _ _ _ rfl ?_
      refine AOps.nil ?_
      exact AW.ret rfl
  rw [if_neg (by simpa using h)] at hj
  refine AW.skip ?_
  refine AW.seq ?_
  refine AW.seq ?_
  refine AW.region ?_   -- "model.go:65"
  refine AOps.run tok 4 _ _ _ _ rfl ?_
  rw [List.length_map]
  refine AOps.call tok rfl rfl rfl rfl (model_in_ok to Bb.pts.length) ?_
  refine AOps.run tok 1 _ _ _ _ rfl ?_
  refine AOps.nil ?_
  refine AW.cond rfl (fun h => ?_) (fun h => ?_)
  · rw [if_pos (by simpa using h)] at hj
    rw [hj]
    refine AW.seq ?_
    refine AW.region ?_   -- "model.go:66"
    refine AOps.run tok 2 _ _ _ _ rfl ?_
    refine AOps.nil ?_
    exact AW.ret rfl
  have hto : inB to Bb.pts.length = true := by simpa using h
  rw [if_neg (by simp [hto])] at hj
  obtain ⟨ht0, ht1⟩ := inB_t hto
  obtain ⟨p, hp⟩ : ∃ x, x = Bb.pts.getD on.toNat default := ⟨_, rfl⟩
  obtain ⟨q, hq⟩ : ∃ x, x = Bb.pts.getD to.toNat default := ⟨_, rfl⟩
  have okp := okb.2.2 on.toNat
  have okq := okb.2.2 to.toNat
  rw [← hp] at hj okp
  rw [← hq] at hj okq
  refine AW.skip ?_
  refine AW.seq ?_
  refine AW.draw3 tok hmix [(5, true), (5, false), (2, true)] 12 [6, 7] (by kernel_rfl) ⟨rfl, ?_⟩   -- "model.go:68"
  refine APre.run tok 3 _ _ _ _ rfl ?_
  refine APre.idx tok p.D rfl rfl rfl rfl rfl ho0 (by rw [hp]; exact getM Mark.D ho1) ?_
  refine APre.run tok 1 _ _ _ _ rfl ?_
  refine APre.nil ⟨rfl, ?_⟩
  refine APre.run tok 3 _ _ _ _ rfl ?_
  refine APre.idx tok q.D rfl rfl rfl rfl rfl ht0 (by rw [hq]; exact getM Mark.D ht1) ?_
  refine APre.run tok 1 _ _ _ _ rfl ?_
  refine APre.nil ⟨rfl, ?_⟩
  refine APre.run tok 2 _ _ _ _ rfl ?_
  refine APre.nil ⟨_, StL.cons (.bx rfl) (StL.cons (.bx rfl) (StL.nil)), ?_⟩
  refine AOps.nil ?_
  refine AW.seq ?_
  refine AW.cut [105] (fun _ : Unit => [(105, .d (dB (sameM p q)))]) (fun _ => True) ?_ (fun _ _ => ?_)
  · refine AW.region ?_   -- "model.go:69"   -- GUARDS
    refine AOps.run tok 4 _ _ _ _ rfl ?_
    refine AOps.call tok rfl rfl rfl rfl (fraction_Cmp_ok p.x q.x okp.2.1 okq.2.1 hK) ?_
    refine AOps.run tok 1 _ _ _ _ rfl ?_
    rw [cmpQ_zero]
    refine AOps.split (t := 97) rfl (fun h => ?_) (fun h => ?_)
    · have h1 := of_decide_eq_true h
      refine AOps.run tok 5 _ _ _ _ rfl ?_
      refine AOps.call tok rfl rfl rfl rfl (fraction_Cmp_ok p.y q.y okp.2.2 okq.2.2 hK) ?_   -- guarded
      refine AOps.run tok 2 _ _ _ _ rfl ?_
      rw [cmpQ_zero]
      refine AOps.nil ?_
      exact ⟨(), by rw [show sameM p q = decide (p.y.val = q.y.val) by unfold sameM; simp [h1]]; rfl, trivial⟩
    · have h1 := of_decide_eq_false h
      refine AOps.run tok 8 _ _ _ _ rfl ?_
      refine AOps.nil ?_
      exact ⟨(), by rw [show sameM p q = false by unfold sameM; simp [h1]]; rfl, trivial⟩
  refine AW.cond rfl (fun h => ?_) (fun h => ?_)
  · rw [if_pos h] at hj
    rw [hj]
    refine AW.seq ?_
    refine AW.region ?_   -- "model.go:70"
    refine AOps.run tok 2 _ _ _ _ rfl ?_
    refine AOps.nil ?_
    exact AW.ret rfl
  · rw [if_neg (by rw [h]; decide)] at hj
    rw [hj]
    refine AW.skip ?_
    refine AW.seq ?_
    refine AW.region ?_   -- "model.go:72"
    refine AOps.run tok 1 _ _ _ _ rfl ?_
    refine AOps.nil ?_
    exact AW.ret rfl
end Lift
/- The model's checks: joints, drivers, the whole. -/
namespace Lift
open Go Go.Proofs

set_option maxHeartbeats 1600000 in
theorem model_joints_ok (l : Lkg) {K : Nat} (hl : l.ok K) (hK : K ≤ 20000000) : Pure Try.prog 22 [l.D] (erV (jointsE l.bodies l.joints)) := by
  refine Pure.intro (n := 49) tok Try.func22 rfl rfl rfl (Nat.le_of_ble_eq_true rfl) (by kernel_rfl) (fun B F0 w0 => ?_)
  have hjoint := fun j => model_joint_ok l j hl hK
  obtain ⟨ln, bs, js, ds⟩ := l
  have hj := hl.j
  have hn := hl.nj
  simp only [] at hj hn hjoint ⊢
  show AW _ _ _ _ _ _ _ (initSt 0 [D.ag [dS ln, BodiesD bs, JointsD js, DriversD ds]])
  unfold big at hn
  refine AW.seq ?_
  refine AW.region ?_   -- "model.go:76"
  refine AOps.run tok 2 _ _ _ _ rfl ?_
  refine AOps.nil ?_
  refine AW.seq ?_
  refine AW.seq ?_
  refine AW.region ?_   -- "model.go:77"
  refine AOps.run tok 4 _ _ _ _ rfl ?_
  rw [List.length_map]
  refine AOps.nil ?_
  refine AW.cond rfl (fun h => ?_) (fun h => ?_)
  · have h16 : 16 < js.length := by have := of_decide_eq_true h; omega
    rw [jointsE, if_pos h16]
    refine AW.seq ?_
    refine AW.region ?_   -- "model.go:78"
    refine AOps.run tok 2 _ _ _ _ rfl ?_
    refine AOps.nil ?_
    exact AW.ret rfl
  have h16 : ¬ 16 < js.length := by have := of_decide_eq_false h; omega
  rw [jointsE, if_neg h16]
  refine AW.skip ?_
  refine AW.seq ?_
  refine AW.seq ?_
  refine AW.region ?_   -- "model.go:80"
  refine AOps.run tok 4 _ _ _ _ rfl ?_
  rw [List.length_map]
  refine AOps.nil ?_
  refine AW.block ?_   -- block 0
  refine AW.loopS [1, 14, 15, 16] (fun i : Nat => [(1, .bx [dS ln, BodiesD bs, JointsD js, DriversD ds]), (14, .d (JointsD js)), (15, .d (dI js.length)), (16, .d (dI i))])
    (fun i => i ≤ js.length ∧ fE (jointE bs js) js.length 0 = fE (jointE bs js) (js.length - i) i) (fun i => js.length - i) 0 rfl ⟨Nat.zero_le _, rfl⟩ (fun i ⟨hi, hE⟩ => ?_)
  refine AW.seq ?_
  refine AW.region ?_   -- "model.go:80"
  refine AOps.run tok 1 _ _ _ _ rfl ?_
  refine AOps.nil ?_
  refine AW.seq ?_
  refine AW.cond rfl (fun h => ?_) (fun h => ?_)
  · have hin : i < js.length := by have := of_decide_eq_true h; omega
    have jok := hj i
    have hbE : jointE bs js i ≠ 0 → fE (jointE bs js) js.length 0 = jointE bs js i := fun h0 => hE.trans (fE_hit hin h0)
    have hbM : jointE bs js i = 0 → fE (jointE bs js) js.length 0 = fE (jointE bs js) (js.length - (i + 1)) (i + 1) := fun h0 => hE.trans (fE_miss hin h0)
    generalize fE (jointE bs js) js.length 0 = E at *
    obtain ⟨j, hje⟩ : ∃ j, j = js.getD i default := ⟨_, rfl⟩
    rw [← hje] at jok
    unfold big at jok
    have hdup : dupJ js i = anyF (fun k => decide ((js.getD k default).nm = j.nm)) i 0 := by rw [hje]; rfl
    have hbd : jointE bs js i = if nameB j.nm = false then 5 else if dupJ js i = true then 6 else jE bs j := by rw [hje]; rfl
    refine AW.skip ?_
    refine AW.seq ?_
    refine AW.block ?_   -- block 1
    refine AW.seq ?_
    refine AW.region ?_   -- "model.go:80"
    refine AOps.run tok 1 _ _ _ _ rfl ?_
    refine AOps.idx tok j.D rfl rfl rfl rfl (Int.natCast_nonneg i) (by rw [hje]; exact getM Joint.D hin) ?_
    refine AOps.run tok 4 _ _ _ _ rfl ?_
    refine AOps.nil ?_
    refine AW.seq ?_
    refine AW.seq ?_
    refine AW.region ?_   -- "model.go:81"
    refine AOps.run tok 2 _ _ _ _ rfl ?_
    refine AOps.call tok rfl rfl rfl rfl (token_Name_ok j.nm jok) ?_
    refine AOps.run tok 1 _ _ _ _ rfl ?_
    refine AOps.nil ?_
    refine AW.cond rfl (fun h => ?_) (fun h => ?_)
    · have hnm : nameB j.nm = false := not_t h
      have h5 : jointE bs js i = 5 := by rw [hbd, hnm]; rfl
      rw [show E = 5 by rw [hbE (by omega), h5]]
      refine AW.seq ?_
      refine AW.region ?_   -- "model.go:82"
      refine AOps.run tok 2 _ _ _ _ rfl ?_
      refine AOps.nil ?_
      exact AW.ret rfl
    have hnm : nameB j.nm = true := by simpa using h
    rw [hnm, if_neg (by decide)] at hbd
    refine AW.skip ?_
    refine AW.seq ?_
    refine AW.seq ?_
    refine AW.region ?_   -- "model.go:84"
    refine AOps.run tok 3 _ _ _ _ rfl ?_
    refine AOps.slc tok rfl rfl rfl rfl trivial (Int.natCast_nonneg i) (Nat.zero_le _) (by show i ≤ _; rw [List.length_map]; omega) ?_
    refine AOps.run tok 2 _ _ _ _ rfl ?_
    rw [slcLen (by rw [List.length_map]; omega)]
    refine AOps.nil ?_
    refine AW.block ?_   -- block 2
    refine AW.loopS [1, 4, 14, 15, 16, 29, 30, 31] (fun k : Nat => [(1, .bx [dS ln, BodiesD bs, JointsD js, DriversD ds]), (4, .bx [dS j.nm, dI j.kind, dI j.a, dI j.pt, dI j.b, dI j.on, dI j.to]), (14, .d (JointsD js)), (15, .d (dI js.length)), (16, .d (dI i)), (29, .d (.sl 7 ((js.map Joint.D).take i))), (30, .d (dI i)), (31, .d (dI k))])
      (fun k => k ≤ i ∧ dupJ js i = anyF (fun k => decide ((js.getD k default).nm = j.nm)) (i - k) k) (fun k => i - k) 0 rfl ⟨Nat.zero_le _, hdup⟩ (fun k ⟨hk, hD⟩ => ?_)
    refine AW.seq ?_
    refine AW.region ?_   -- "model.go:84"
    refine AOps.run tok 1 _ _ _ _ rfl ?_
    refine AOps.nil ?_
    refine AW.seq ?_
    refine AW.cond rfl (fun h => ?_) (fun h => ?_)
    · have hki : k < i := by have := of_decide_eq_true h; omega
      refine AW.skip ?_
      refine AW.seq ?_
      refine AW.block ?_   -- block 3
      refine AW.seq ?_
      refine AW.region ?_   -- "model.go:84"
      refine AOps.idx tok (js.getD k default).D rfl rfl rfl rfl (Int.natCast_nonneg k) (getT Joint.D (by omega) hki) ?_
      refine AOps.run tok 3 _ _ _ _ rfl ?_
      refine AOps.nil ?_
      refine AW.seq ?_
      refine AW.region ?_   -- "model.go:85"
      refine AOps.run tok 5 _ _ _ _ rfl ?_
      rw [str_eq]
      refine AOps.nil ?_
      refine AW.cond rfl (fun h => ?_) (fun h => ?_)
      · have h6 : jointE bs js i = 6 := by rw [hbd, hD.trans (anyF_hit hki h)]; rfl
        rw [show E = 6 by rw [hbE (by omega), h6]]
        refine AW.seq ?_
        refine AW.region ?_   -- "model.go:86"
        refine AOps.run tok 2 _ _ _ _ rfl ?_
        refine AOps.nil ?_
        exact AW.ret rfl
      · refine AW.skip ?_
        refine AW.region ?_   -- "model.go:84"
        refine AOps.run tok 2 _ _ _ _ rfl ?_
        rw [wI64 (x := (k : Int) + 1) (by omega) (by omega)]
        refine AOps.nil ?_
        exact ⟨k + 1, rfl, ⟨hki, hD.trans (anyF_miss hki h)⟩, by omega⟩
    · have hki : ¬ k < i := by have := of_decide_eq_false h; omega
      rw [hD.trans (anyF_end hki), if_neg (by decide)] at hbd
      refine AW.exit ?_
      have c := hjoint j
      cases he : jE bs j with
      | zero =>
        rw [he] at hbd c
        refine AW.seq ?_
        refine AW.region ?_   -- "model.go:89"
        refine AOps.run tok 2 _ _ _ _ rfl ?_
        refine AOps.call tok rfl rfl rfl rfl c ?_
        refine AOps.run tok 1 _ _ _ _ rfl ?_
        refine AOps.nil ?_
        refine AW.seq ?_
        refine AW.region ?_   -- "model.go:89"
        refine AOps.run tok 1 _ _ _ _ rfl ?_
        refine AOps.err tok rfl rfl rfl rfl rfl ?_
        refine AOps.nil ?_
        refine AW.condF rfl ?_
        refine AW.skip ?_
        refine AW.region ?_   -- "model.go:80"
        refine AOps.run tok 2 _ _ _ _ rfl ?_
        rw [wI64 (x := (i : Int) + 1) (by omega) (by omega)]
        refine AOps.nil ?_
        exact ⟨i + 1, rfl, ⟨hin, hbM hbd⟩, by omega⟩
      | succ m =>
        rw [he] at hbd c
        rw [show E = m + 1 by rw [hbE (by omega), hbd]]
        refine AW.seq ?_
        refine AW.region ?_   -- "model.go:89"
        refine AOps.run tok 2 _ _ _ _ rfl ?_
        refine AOps.call tok rfl rfl rfl rfl c ?_
        refine AOps.run tok 1 _ _ _ _ rfl ?_
        refine AOps.nil ?_
        refine AW.seq ?_
        refine AW.region ?_   -- "model.go:89"
        refine AOps.run tok 1 _ _ _ _ rfl ?_
        refine AOps.err tok rfl rfl rfl rfl rfl ?_
        refine AOps.nil ?_
        refine AW.condT rfl ?_
        refine AW.seq ?_
        refine AW.region ?_   -- "model.go:90"
        refine AOps.run tok 2 _ _ _ _ rfl ?_
        refine AOps.nil ?_
        exact AW.ret rfl
  · have hin : ¬ i < js.length := by have := of_decide_eq_false h; omega
    rw [hE, fE_end hin]
    refine AW.exit ?_
    refine AW.seq ?_
    refine AW.region ?_   -- "model.go:93"
    refine AOps.run tok 1 _ _ _ _ rfl ?_
    refine AOps.nil ?_
    exact AW.ret rfl

set_option maxHeartbeats 1600000 in
theorem model_drivers_ok (l : Lkg) {K : Nat} (hl : l.ok K) : Pure Try.prog 23 [l.D] (erV (driversE l.bodies.length l.drivers)) := by
  refine Pure.intro (n := 72) tok Try.func23 rfl rfl rfl (Nat.le_of_ble_eq_true rfl) (by kernel_rfl) (fun B F0 w0 => ?_)
  obtain ⟨ln, bs, js, ds⟩ := l
  have hd := hl.d
  have hn := hl.nd
  simp only [] at hd hn ⊢
  show AW _ _ _ _ _ _ _ (initSt 0 [D.ag [dS ln, BodiesD bs, JointsD js, DriversD ds]])
  unfold big at hn
  refine AW.seq ?_
  refine AW.region ?_   -- "model.go:97"
  refine AOps.run tok 2 _ _ _ _ rfl ?_
  refine AOps.nil ?_
  refine AW.seq ?_
  refine AW.seq ?_
  refine AW.region ?_   -- "model.go:98"
  refine AOps.run tok 4 _ _ _ _ rfl ?_
  rw [List.length_map]
  refine AOps.nil ?_
  refine AW.cond rfl (fun h => ?_) (fun h => ?_)
  · have h2 : 2 < ds.length := by have := of_decide_eq_true h; omega
    rw [driversE, if_pos h2]
    refine AW.seq ?_
    refine AW.region ?_   -- "model.go:99"
    refine AOps.run tok 2 _ _ _ _ rfl ?_
    refine AOps.nil ?_
    exact AW.ret rfl
  have h2 : ¬ 2 < ds.length := by have := of_decide_eq_false h; omega
  rw [driversE, if_neg h2]
  refine AW.skip ?_
  refine AW.seq ?_
  refine AW.seq ?_
  refine AW.region ?_   -- "model.go:101"
  refine AOps.run tok 4 _ _ _ _ rfl ?_
  rw [List.length_map]
  refine AOps.nil ?_
  refine AW.block ?_   -- block 0
  refine AW.loopS [1, 15, 16, 17] (fun i : Nat => [(1, .bx [dS ln, BodiesD bs, JointsD js, DriversD ds]), (15, .d (DriversD ds)), (16, .d (dI ds.length)), (17, .d (dI i))])
    (fun i => i ≤ ds.length ∧ fE (driverE bs.length ds) ds.length 0 = fE (driverE bs.length ds) (ds.length - i) i) (fun i => ds.length - i) 0 rfl ⟨Nat.zero_le _, rfl⟩ (fun i ⟨hi, hE⟩ => ?_)
  refine AW.seq ?_
  refine AW.region ?_   -- "model.go:101"
  refine AOps.run tok 1 _ _ _ _ rfl ?_
  refine AOps.nil ?_
  refine AW.seq ?_
  refine AW.cond rfl (fun h => ?_) (fun h => ?_)
  · have hin : i < ds.length := by have := of_decide_eq_true h; omega
    have dok := hd i
    have hbE : driverE bs.length ds i ≠ 0 → fE (driverE bs.length ds) ds.length 0 = driverE bs.length ds i := fun h0 => hE.trans (fE_hit hin h0)
    have hbM : driverE bs.length ds i = 0 → fE (driverE bs.length ds) ds.length 0 = fE (driverE bs.length ds) (ds.length - (i + 1)) (i + 1) := fun h0 => hE.trans (fE_miss hin h0)
    generalize fE (driverE bs.length ds) ds.length 0 = E at *
    obtain ⟨d, hde⟩ : ∃ d, d = ds.getD i default := ⟨_, rfl⟩
    rw [← hde] at dok
    unfold big at dok
    have hdup : dupD ds i = anyF (fun k => decide ((ds.getD k default).nm = d.nm)) i 0 := by rw [hde]; rfl
    have hdup2 : dupT ds i = anyF (fun k => decide ((ds.getD k default).body = d.body)) i 0 := by rw [hde]; rfl
    have hbd : driverE bs.length ds i = if nameB d.nm = false then 5 else if dupD ds i = true then 6 else if inB d.body bs.length = false then 9 else if d.body = 0 then 7 else if dupT ds i = true then 6 else 0 := by rw [hde]; rfl
    refine AW.skip ?_
    refine AW.seq ?_
    refine AW.block ?_   -- block 1
    refine AW.seq ?_
    refine AW.region ?_   -- "model.go:101"
    refine AOps.run tok 1 _ _ _ _ rfl ?_
    refine AOps.idx tok d.D rfl rfl rfl rfl (Int.natCast_nonneg i) (by rw [hde]; exact getM Driver.D hin) ?_
    refine AOps.run tok 4 _ _ _ _ rfl ?_
    refine AOps.nil ?_
    refine AW.seq ?_
    refine AW.seq ?_
    refine AW.region ?_   -- "model.go:102"
    refine AOps.run tok 2 _ _ _ _ rfl ?_
    refine AOps.call tok rfl rfl rfl rfl (token_Name_ok d.nm dok) ?_
    refine AOps.run tok 1 _ _ _ _ rfl ?_
    refine AOps.nil ?_
    refine AW.cond rfl (fun h => ?_) (fun h => ?_)
    · have hnm : nameB d.nm = false := not_t h
      have h5 : driverE bs.length ds i = 5 := by rw [hbd, hnm]; rfl
      rw [show E = 5 by rw [hbE (by omega), h5]]
      refine AW.seq ?_
      refine AW.region ?_   -- "model.go:103"
      refine AOps.run tok 2 _ _ _ _ rfl ?_
      refine AOps.nil ?_
      exact AW.ret rfl
    have hnm : nameB d.nm = true := by simpa using h
    rw [hnm, if_neg (by decide)] at hbd
    refine AW.skip ?_
    refine AW.seq ?_
    refine AW.seq ?_
    refine AW.region ?_   -- "model.go:105"
    refine AOps.run tok 3 _ _ _ _ rfl ?_
    refine AOps.slc tok rfl rfl rfl rfl trivial (Int.natCast_nonneg i) (Nat.zero_le _) (by show i ≤ _; rw [List.length_map]; omega) ?_
    refine AOps.run tok 2 _ _ _ _ rfl ?_
    rw [slcLen (by rw [List.length_map]; omega)]
    refine AOps.nil ?_
    refine AW.block ?_   -- block 2
    refine AW.loopS [1, 3, 4, 15, 16, 17, 30, 31, 32] (fun k : Nat => [(1, .bx [dS ln, BodiesD bs, JointsD js, DriversD ds]), (3, .d (dI i)), (4, .bx [dS d.nm, dI d.body]), (15, .d (DriversD ds)), (16, .d (dI ds.length)), (17, .d (dI i)), (30, .d (.sl 2 ((ds.map Driver.D).take i))), (31, .d (dI i)), (32, .d (dI k))])
      (fun k => k ≤ i ∧ dupD ds i = anyF (fun k => decide ((ds.getD k default).nm = d.nm)) (i - k) k) (fun k => i - k) 0 rfl ⟨Nat.zero_le _, hdup⟩ (fun k ⟨hk, hD⟩ => ?_)
    refine AW.seq ?_
    refine AW.region ?_   -- "model.go:105"
    refine AOps.run tok 1 _ _ _ _ rfl ?_
    refine AOps.nil ?_
    refine AW.seq ?_
    refine AW.cond rfl (fun h => ?_) (fun h => ?_)
    · have hki : k < i := by have := of_decide_eq_true h; omega
      refine AW.skip ?_
      refine AW.seq ?_
      refine AW.block ?_   -- block 3
      refine AW.seq ?_
      refine AW.region ?_   -- "model.go:105"
      refine AOps.idx tok (ds.getD k default).D rfl rfl rfl rfl (Int.natCast_nonneg k) (getT Driver.D (by omega) hki) ?_
      refine AOps.run tok 3 _ _ _ _ rfl ?_
      refine AOps.nil ?_
      refine AW.seq ?_
      refine AW.region ?_   -- "model.go:106"
      refine AOps.run tok 5 _ _ _ _ rfl ?_
      rw [str_eq]
      refine AOps.nil ?_
      refine AW.cond rfl (fun h => ?_) (fun h => ?_)
      · have h6 : driverE bs.length ds i = 6 := by rw [hbd, hD.trans (anyF_hit hki h)]; rfl
        rw [show E = 6 by rw [hbE (by omega), h6]]
        refine AW.seq ?_
        refine AW.region ?_   -- "model.go:107"
        refine AOps.run tok 2 _ _ _ _ rfl ?_
        refine AOps.nil ?_
        exact AW.ret rfl
      · refine AW.skip ?_
        refine AW.region ?_   -- "model.go:105"
        refine AOps.run tok 2 _ _ _ _ rfl ?_
        rw [wI64 (x := (k : Int) + 1) (by omega) (by omega)]
        refine AOps.nil ?_
        exact ⟨k + 1, rfl, ⟨hki, hD.trans (anyF_miss hki h)⟩, by omega⟩
    · have hki : ¬ k < i := by have := of_decide_eq_false h; omega
      rw [hD.trans (anyF_end hki), if_neg (by decide)] at hbd
      refine AW.exit ?_
      refine AW.seq ?_
      refine AW.seq ?_
      refine AW.region ?_   -- "model.go:110"
      refine AOps.run tok 5 _ _ _ _ rfl ?_
      rw [List.length_map]
      refine AOps.call tok rfl rfl rfl rfl (model_in_ok d.body bs.length) ?_
      refine AOps.run tok 1 _ _ _ _ rfl ?_
      refine AOps.nil ?_
      refine AW.cond rfl (fun h => ?_) (fun h => ?_)
      · rw [if_pos (not_t h)] at hbd
        rw [show E = 9 by rw [hbE (by omega), hbd]]
        refine AW.seq ?_
        refine AW.region ?_   -- "model.go:111"
        refine AOps.run tok 2 _ _ _ _ rfl ?_
        refine AOps.nil ?_
        exact AW.ret rfl
      have hinb : inB d.body bs.length = true := by simpa using h
      rw [if_neg (by simp [hinb])] at hbd
      refine AW.skip ?_
      refine AW.seq ?_
      refine AW.seq ?_
      refine AW.region ?_   -- "model.go:113"
      refine AOps.run tok 3 _ _ _ _ rfl ?_
      refine AOps.nil ?_
      refine AW.cond rfl (fun h => ?_) (fun h => ?_)
      · rw [if_pos (by simpa using h)] at hbd
        rw [show E = 7 by rw [hbE (by omega), hbd]]
        refine AW.seq ?_
        refine AW.region ?_   -- "model.go:114"
        refine AOps.run tok 2 _ _ _ _ rfl ?_
        refine AOps.nil ?_
        exact AW.ret rfl
      rw [if_neg (by simpa using h)] at hbd
      refine AW.skip ?_
      refine AW.seq ?_
      refine AW.region ?_   -- "model.go:116"
      refine AOps.run tok 3 _ _ _ _ rfl ?_
      refine AOps.slc tok rfl rfl rfl rfl trivial (Int.natCast_nonneg i) (Nat.zero_le _) (by show i ≤ _; rw [List.length_map]; omega) ?_
      refine AOps.run tok 2 _ _ _ _ rfl ?_
      rw [slcLen (by rw [List.length_map]; omega)]
      refine AOps.nil ?_
      refine AW.block ?_   -- block 4
      refine AW.loopS [1, 4, 15, 16, 17, 58, 59, 60] (fun k : Nat => [(1, .bx [dS ln, BodiesD bs, JointsD js, DriversD ds]), (4, .bx [dS d.nm, dI d.body]), (15, .d (DriversD ds)), (16, .d (dI ds.length)), (17, .d (dI i)), (58, .d (.sl 2 ((ds.map Driver.D).take i))), (59, .d (dI i)), (60, .d (dI k))])
        (fun k => k ≤ i ∧ dupT ds i = anyF (fun k => decide ((ds.getD k default).body = d.body)) (i - k) k) (fun k => i - k) 0 rfl ⟨Nat.zero_le _, hdup2⟩ (fun k ⟨hk, hD⟩ => ?_)
      refine AW.seq ?_
      refine AW.region ?_   -- "model.go:116"
      refine AOps.run tok 1 _ _ _ _ rfl ?_
      refine AOps.nil ?_
      refine AW.seq ?_
      refine AW.cond rfl (fun h => ?_) (fun h => ?_)
      · have hki : k < i := by have := of_decide_eq_true h; omega
        refine AW.skip ?_
        refine AW.seq ?_
        refine AW.block ?_   -- block 5
        refine AW.seq ?_
        refine AW.region ?_   -- "model.go:116"
        refine AOps.idx tok (ds.getD k default).D rfl rfl rfl rfl (Int.natCast_nonneg k) (getT Driver.D (by omega) hki) ?_
        refine AOps.run tok 3 _ _ _ _ rfl ?_
        refine AOps.nil ?_
        refine AW.seq ?_
        refine AW.region ?_   -- "model.go:117"
        refine AOps.run tok 5 _ _ _ _ rfl ?_
        refine AOps.nil ?_
        refine AW.cond rfl (fun h => ?_) (fun h => ?_)
        · have h' : decide ((ds.getD k default).body = d.body) = true := by simpa using h
          rw [hD.trans (anyF_hit hki h')] at hbd
          rw [show E = 6 by rw [hbE (by rw [hbd]; decide), hbd]; rfl]
          refine AW.seq ?_
          refine AW.region ?_   -- "model.go:118"
          refine AOps.run tok 2 _ _ _ _ rfl ?_
          refine AOps.nil ?_
          exact AW.ret rfl
        · have h' : decide ((ds.getD k default).body = d.body) = false := by simpa using h
          refine AW.skip ?_
          refine AW.region ?_   -- "model.go:116"
          refine AOps.run tok 2 _ _ _ _ rfl ?_
          rw [wI64 (x := (k : Int) + 1) (by omega) (by omega)]
          refine AOps.nil ?_
          exact ⟨k + 1, rfl, ⟨hki, hD.trans (anyF_miss hki h')⟩, by omega⟩
      · have hki : ¬ k < i := by have := of_decide_eq_false h; omega
        rw [hD.trans (anyF_end hki), if_neg (by decide)] at hbd
        refine AW.exit ?_
        refine AW.region ?_   -- "model.go:101"
        refine AOps.run tok 2 _ _ _ _ rfl ?_
        rw [wI64 (x := (i : Int) + 1) (by omega) (by omega)]
        refine AOps.nil ?_
        exact ⟨i + 1, rfl, ⟨hin, hbM hbd⟩, by omega⟩
  · have hin : ¬ i < ds.length := by have := of_decide_eq_false h; omega
    rw [hE, fE_end hin]
    refine AW.exit ?_
    refine AW.seq ?_
    refine AW.region ?_   -- "model.go:122"
    refine AOps.run tok 1 _ _ _ _ rfl ?_
    refine AOps.nil ?_
    exact AW.ret rfl

set_option maxHeartbeats 1600000 in
theorem model_Check_ok (l : Lkg) {K : Nat} (hl : l.ok K) (hK : K ≤ 20000000) : Pure Try.prog 9 [l.D] (erV (chk l)) := by
  refine Pure.intro (n := 33) tok Try.func9 rfl rfl rfl (Nat.le_of_ble_eq_true rfl) (by kernel_rfl) (fun B F0 w0 => ?_)
  have c1 := model_bodies_ok l.bodies hl.nb hl.b (by omega)
  have c2 := model_joints_ok l hl hK
  have c3 := model_drivers_ok l hl
  have hcd : chk l = if nameB l.nm = false then 5 else if l.bodies = [] then 10 else if 8 < l.bodies.length then 4 else
    if bodiesE l.bodies ≠ 0 then bodiesE l.bodies else if jointsE l.bodies l.joints ≠ 0 then jointsE l.bodies l.joints else driversE l.bodies.length l.drivers := rfl
  generalize chk l = E at *
  obtain ⟨ln, bs, js, ds⟩ := l
  have hnm := hl.nm
  have hnb := hl.nb
  simp only [] at hcd c1 c2 c3 hnm hnb ⊢
  show AW _ _ _ _ _ _ _ (initSt 0 [D.ag [dS ln, BodiesD bs, JointsD js, DriversD ds]])
  unfold big at hnm hnb
  refine AW.seq ?_
  refine AW.region ?_   -- "model.go:126"
  refine AOps.run tok 2 _ _ _ _ rfl ?_
  refine AOps.nil ?_
  refine AW.seq ?_
  refine AW.seq ?_
  refine AW.region ?_   -- "model.go:127"
  refine AOps.run tok 2 _ _ _ _ rfl ?_
  refine AOps.call tok rfl rfl rfl rfl (token_Name_ok ln hnm) ?_
  refine AOps.run tok 1 _ _ _ _ rfl ?_
  refine AOps.nil ?_
  refine AW.cond rfl (fun h => ?_) (fun h => ?_)
  · rw [if_pos (not_t h)] at hcd
    rw [hcd]
    refine AW.seq ?_
    refine AW.region ?_   -- "model.go:128"
    refine AOps.run tok 2 _ _ _ _ rfl ?_
    refine AOps.nil ?_
    exact AW.ret rfl
  rw [if_neg (by simpa using h)] at hcd
  refine AW.skip ?_
  refine AW.seq ?_
  refine AW.seq ?_
  refine AW.region ?_   -- "model.go:130"
  refine AOps.run tok 4 _ _ _ _ rfl ?_
  rw [List.length_map]
  refine AOps.nil ?_
  refine AW.cond rfl (fun h => ?_) (fun h => ?_)
  · have h0 : bs = [] := List.length_eq_zero_iff.1 (by have : (bs.length : Int) = 0 := by simpa using h
                                                       omega)
    rw [if_pos h0] at hcd
    rw [hcd]
    refine AW.seq ?_
    refine AW.region ?_   -- "model.go:131"
    refine AOps.run tok 2 _ _ _ _ rfl ?_
    refine AOps.nil ?_
    exact AW.ret rfl
  have h0 : bs ≠ [] := by rintro rfl; simp at h
  rw [if_neg h0] at hcd
  refine AW.skip ?_
  refine AW.seq ?_
  refine AW.seq ?_
  refine AW.region ?_   -- "model.go:133"
  refine AOps.run tok 4 _ _ _ _ rfl ?_
  rw [List.length_map]
  refine AOps.nil ?_
  refine AW.cond rfl (fun h => ?_) (fun h => ?_)
  · have h8 : 8 < bs.length := by have := of_decide_eq_true h; omega
    rw [if_pos h8] at hcd
    rw [hcd]
    refine AW.seq ?_
    refine AW.region ?_   -- "model.go:134"
    refine AOps.run tok 2 _ _ _ _ rfl ?_
    refine AOps.nil ?_
    exact AW.ret rfl
  have h8 : ¬ 8 < bs.length := by have := of_decide_eq_false h; omega
  rw [if_neg h8] at hcd
  refine AW.skip ?_
  cases he : bodiesE bs with
  | succ m =>
    rw [he] at hcd c1
    rw [show E = m + 1 by rw [hcd, if_pos (by omega)]]
    refine AW.seq ?_
    refine AW.seq ?_
    refine AW.region ?_   -- "model.go:136"
    refine AOps.run tok 2 _ _ _ _ rfl ?_
    refine AOps.call tok rfl rfl rfl rfl c1 ?_
    refine AOps.run tok 1 _ _ _ _ rfl ?_
    refine AOps.nil ?_
    refine AW.seq ?_
    refine AW.region ?_   -- "model.go:136"
    refine AOps.run tok 1 _ _ _ _ rfl ?_
    refine AOps.err tok rfl rfl rfl rfl rfl ?_
    refine AOps.nil ?_
    refine AW.condT rfl ?_
    refine AW.seq ?_
    refine AW.region ?_   -- "model.go:137"
    refine AOps.run tok 2 _ _ _ _ rfl ?_
    refine AOps.nil ?_
    exact AW.ret rfl
  | zero =>
    rw [he] at hcd c1
    rw [if_neg (by omega)] at hcd
    refine AW.seq ?_
    refine AW.seq ?_
    refine AW.region ?_   -- "model.go:136"
    refine AOps.run tok 2 _ _ _ _ rfl ?_
    refine AOps.call tok rfl rfl rfl rfl c1 ?_
    refine AOps.run tok 1 _ _ _ _ rfl ?_
    refine AOps.nil ?_
    refine AW.seq ?_
    refine AW.region ?_   -- "model.go:136"
    refine AOps.run tok 1 _ _ _ _ rfl ?_
    refine AOps.err tok rfl rfl rfl rfl rfl ?_
    refine AOps.nil ?_
    refine AW.condF rfl ?_
    refine AW.skip ?_
    cases he2 : jointsE bs js with
    | succ m =>
      rw [he2] at hcd c2
      rw [show E = m + 1 by rw [hcd, if_pos (by omega)]]
      refine AW.seq ?_
      refine AW.seq ?_
      refine AW.region ?_   -- "model.go:139"
      refine AOps.run tok 1 _ _ _ _ rfl ?_
      refine AOps.call tok rfl rfl rfl rfl c2 ?_
      refine AOps.run tok 1 _ _ _ _ rfl ?_
      refine AOps.nil ?_
      refine AW.seq ?_
      refine AW.region ?_   -- "model.go:139"
      refine AOps.run tok 1 _ _ _ _ rfl ?_
      refine AOps.err tok rfl rfl rfl rfl rfl ?_
      refine AOps.nil ?_
      refine AW.condT rfl ?_
      refine AW.seq ?_
      refine AW.region ?_   -- "model.go:140"
      refine AOps.run tok 2 _ _ _ _ rfl ?_
      refine AOps.nil ?_
      exact AW.ret rfl
    | zero =>
      rw [he2] at hcd c2
      rw [if_neg (by omega)] at hcd
      rw [hcd]
      refine AW.seq ?_
      refine AW.seq ?_
      refine AW.region ?_   -- "model.go:139"
      refine AOps.run tok 1 _ _ _ _ rfl ?_
      refine AOps.call tok rfl rfl rfl rfl c2 ?_
      refine AOps.run tok 1 _ _ _ _ rfl ?_
      refine AOps.nil ?_
      refine AW.seq ?_
      refine AW.region ?_   -- "model.go:139"
      refine AOps.run tok 1 _ _ _ _ rfl ?_
      refine AOps.err tok rfl rfl rfl rfl rfl ?_
      refine AOps.nil ?_
      refine AW.condF rfl ?_
      refine AW.skip ?_
      refine AW.seq ?_
      refine AW.region ?_   -- "model.go:142"
      refine AOps.run tok 1 _ _ _ _ rfl ?_
      refine AOps.call tok rfl rfl rfl rfl c3 ?_
      refine AOps.run tok 1 _ _ _ _ rfl ?_
      refine AOps.nil ?_
      exact AW.ret rfl
end Lift
/- The model's reading: points, squares of distances. -/
namespace Lift
open Go Go.Proofs

/-- The first i, i + 1, .. (m of them) of which g says something. -/
def fO {α : Type} (g : Nat → Option α) : Nat → Nat → Option (Nat × α)
  | 0, _ => none
  | m + 1, i => match g i with
    | some x => some (i, x)
    | none => fO g m (i + 1)
theorem fO_hit {α : Type} {g : Nat → Option α} {n i : Nat} {x : α} (h : i < n) (h0 : g i = some x) : fO g (n - i) i = some (i, x) := by
  rw [show n - i = (n - (i + 1)) + 1 by omega, fO, h0]
theorem fO_miss {α : Type} {g : Nat → Option α} {n i : Nat} (h : i < n) (h0 : g i = none) : fO g (n - i) i = fO g (n - (i + 1)) (i + 1) := by
  rw [show n - i = (n - (i + 1)) + 1 by omega, fO, h0]
theorem fO_end {α : Type} {g : Nat → Option α} {n i : Nat} (h : ¬ i < n) : fO g (n - i) i = none := by
  rw [show n - i = 0 by omega, fO]
/-- The full name of a point. -/
def fullN (a b : ByteArray) : ByteArray := a ++ (⟨#[46]⟩ : ByteArray) ++ b
def ptI (l : List Mark) (a name : ByteArray) (k : Nat) : Option Unit := if fullN a (l.getD k default).nm = name then some () else none
def ptsI (bs : List Body) (name : ByteArray) (i : Nat) : Option (Nat × Unit) := fO (ptI (bs.getD i default).pts (bs.getD i default).nm name) (bs.getD i default).pts.length 0
def pointI (bs : List Body) (name : ByteArray) : Option (Nat × Nat × Unit) := fO (ptsI bs name) bs.length 0
def pointD (bs : List Body) (name : ByteArray) : D := match pointI bs name with
  | some (i, k, _) => .tu [dI i, dI k, nilE]
  | none => .tu [dI 0, dI 0, er 5]
def modelPointD (l : Lkg) (name : ByteArray) : D := if chk l = 0 then pointD l.bodies name else .tu [dI 0, dI 0, erV (chk l)]

set_option maxHeartbeats 1600000 in
theorem model_Point_ok (l : Lkg) (name : ByteArray) {K : Nat} (hl : l.ok K) (hK : K ≤ 20000000) : Pure Try.prog 16 [l.D, dS name] (modelPointD l name) := by
  refine Pure.intro (n := 46) tok Try.func16 rfl rfl rfl (Nat.le_of_ble_eq_true rfl) (by kernel_rfl) (fun B F0 w0 => ?_)
  have c := model_Check_ok l hl hK
  obtain ⟨ln, bs, js, ds⟩ := l
  have hb := hl.b
  have hn := hl.nb
  simp only [] at hb hn
  unfold big at hn
  unfold modelPointD
  generalize chk ⟨ln, bs, js, ds⟩ = E at *
  show AW _ _ _ _ _ _ _ (initSt 0 [D.ag [dS ln, BodiesD bs, JointsD js, DriversD ds], dS name])
  refine AW.seq ?_
  refine AW.region ?_   -- "model.go:159"
  refine AOps.run tok 4 _ _ _ _ rfl ?_
  refine AOps.nil ?_
  cases E with
  | succ m =>
    rw [if_neg (by omega)]
    refine AW.seq ?_
    refine AW.seq ?_
    refine AW.region ?_   -- "model.go:160"
    refine AOps.run tok 1 _ _ _ _ rfl ?_
    refine AOps.call tok rfl rfl rfl rfl c ?_
    refine AOps.run tok 1 _ _ _ _ rfl ?_
    refine AOps.nil ?_
    refine AW.seq ?_
    refine AW.region ?_   -- "model.go:160"
    refine AOps.run tok 1 _ _ _ _ rfl ?_
    refine AOps.err tok rfl rfl rfl rfl rfl ?_
    refine AOps.nil ?_
    refine AW.condT rfl ?_
    refine AW.seq ?_
    refine AW.region ?_   -- "model.go:161"
    refine AOps.run tok 4 _ _ _ _ rfl ?_
    refine AOps.nil ?_
    exact AW.ret rfl
  | zero =>
    rw [if_pos rfl]
    refine AW.seq ?_
    refine AW.seq ?_
    refine AW.region ?_   -- "model.go:160"
    refine AOps.run tok 1 _ _ _ _ rfl ?_
    refine AOps.call tok rfl rfl rfl rfl c ?_
    refine AOps.run tok 1 _ _ _ _ rfl ?_
    refine AOps.nil ?_
    refine AW.seq ?_
    refine AW.region ?_   -- "model.go:160"
    refine AOps.run tok 1 _ _ _ _ rfl ?_
    refine AOps.err tok rfl rfl rfl rfl rfl ?_
    refine AOps.nil ?_
    refine AW.condF rfl ?_
    refine AW.skip ?_
    refine AW.seq ?_
    refine AW.seq ?_
    refine AW.region ?_   -- "model.go:163"
    refine AOps.run tok 4 _ _ _ _ rfl ?_
    rw [List.length_map]
    refine AOps.nil ?_
    refine AW.block ?_   -- block 0
    refine AW.loopS [1, 18, 19, 20] (fun i : Nat => [(1, .d (dS name)), (18, .d (BodiesD bs)), (19, .d (dI bs.length)), (20, .d (dI i))])
      (fun i => i ≤ bs.length ∧ pointI bs name = fO (ptsI bs name) (bs.length - i) i) (fun i => bs.length - i) 0 rfl ⟨Nat.zero_le _, rfl⟩ (fun i ⟨hi, hE⟩ => ?_)
    refine AW.seq ?_
    refine AW.region ?_   -- "model.go:163"
    refine AOps.run tok 1 _ _ _ _ rfl ?_
    refine AOps.nil ?_
    refine AW.seq ?_
    refine AW.cond rfl (fun h => ?_) (fun h => ?_)
    · have hin : i < bs.length := by have := of_decide_eq_true h; omega
      obtain ⟨bok1, bok2, bok3⟩ := hb i
      obtain ⟨b, hbe⟩ : ∃ b, b = bs.getD i default := ⟨_, rfl⟩
      rw [← hbe] at bok1 bok2 bok3
      unfold big at bok1 bok2
      have hpi : ptsI bs name i = fO (ptI b.pts b.nm name) b.pts.length 0 := by rw [hbe]; rfl
      refine AW.skip ?_
      refine AW.seq ?_
      refine AW.block ?_   -- block 1
      refine AW.seq ?_
      refine AW.region ?_   -- "model.go:163"
      refine AOps.run tok 1 _ _ _ _ rfl ?_
      refine AOps.idx tok b.D rfl rfl rfl rfl (Int.natCast_nonneg i) (by rw [hbe]; exact getM Body.D hin) ?_
      refine AOps.run tok 4 _ _ _ _ rfl ?_
      refine AOps.nil ?_
      refine AW.seq ?_
      refine AW.region ?_   -- "model.go:164"
      refine AOps.run tok 4 _ _ _ _ rfl ?_
      rw [List.length_map]
      refine AOps.nil ?_
      refine AW.block ?_   -- block 2
      refine AW.loopS [1, 8, 9, 18, 19, 20, 26, 27, 28] (fun k : Nat => [(1, .d (dS name)), (8, .d (dI i)), (9, .bx [dS b.nm, PtsD b.pts]), (18, .d (BodiesD bs)), (19, .d (dI bs.length)), (20, .d (dI i)), (26, .d (PtsD b.pts)), (27, .d (dI b.pts.length)), (28, .d (dI k))])
        (fun k => k ≤ b.pts.length ∧ ptsI bs name i = fO (ptI b.pts b.nm name) (b.pts.length - k) k) (fun k => b.pts.length - k) 0 rfl ⟨Nat.zero_le _, hpi⟩ (fun k ⟨hk, hP⟩ => ?_)
      refine AW.seq ?_
      refine AW.region ?_   -- "model.go:164"
      refine AOps.run tok 1 _ _ _ _ rfl ?_
      refine AOps.nil ?_
      refine AW.seq ?_
      refine AW.cond rfl (fun h => ?_) (fun h => ?_)
      · have hkn : k < b.pts.length := by have := of_decide_eq_true h; omega
        obtain ⟨mok1, mok2, mok3⟩ := bok3 k
        obtain ⟨m, hm⟩ : ∃ m, m = b.pts.getD k default := ⟨_, rfl⟩
        rw [← hm] at mok1
        unfold big at mok1
        have hpt : ptI b.pts b.nm name k = if fullN b.nm m.nm = name then some () else none := by rw [hm]; rfl
        refine AW.skip ?_
        refine AW.seq ?_
        refine AW.block ?_   -- block 3
        refine AW.seq ?_
        refine AW.region ?_   -- "model.go:164"
        refine AOps.run tok 1 _ _ _ _ rfl ?_
        refine AOps.idx tok m.D rfl rfl rfl rfl (Int.natCast_nonneg k) (by rw [hm]; exact getM Mark.D hkn) ?_
        refine AOps.run tok 4 _ _ _ _ rfl ?_
        refine AOps.nil ?_
        refine AW.seq ?_
        refine AW.region ?_   -- "model.go:165"
        refine AOps.run tok 2 _ _ _ _ rfl ?_
        refine AOps.cat tok rfl rfl rfl rfl (by show b.nm.size + 1 ≤ _; omega) ?_
        refine AOps.run tok 2 _ _ _ _ rfl ?_
        refine AOps.cat tok rfl rfl rfl rfl (by rw [ByteArray.size_append]; show b.nm.size + 1 + m.nm.size ≤ _; omega) ?_
        refine AOps.run tok 2 _ _ _ _ rfl ?_
        rw [str_eq]
        refine AOps.nil ?_
        refine AW.cond rfl (fun h => ?_) (fun h => ?_)
        · have h1 : fullN b.nm m.nm = name := of_decide_eq_true h
          rw [if_pos h1] at hpt
          have : pointI bs name = some (i, k, ()) := hE.trans (fO_hit hin (hP.trans (fO_hit hkn hpt)))
          rw [show pointD bs name = .tu [dI i, dI k, nilE] by unfold pointD; rw [this]]
          refine AW.seq ?_
          refine AW.region ?_   -- "model.go:166"
          refine AOps.run tok 5 _ _ _ _ rfl ?_
          refine AOps.nil ?_
          exact AW.ret rfl
        · have h1 : ¬ fullN b.nm m.nm = name := of_decide_eq_false h
          rw [if_neg h1] at hpt
          refine AW.skip ?_
          refine AW.region ?_   -- "model.go:164"
          refine AOps.run tok 2 _ _ _ _ rfl ?_
          rw [wI64 (x := (k : Int) + 1) (by omega) (by omega)]
          refine AOps.nil ?_
          exact ⟨k + 1, rfl, ⟨hkn, hP.trans (fO_miss hkn hpt)⟩, by omega⟩
      · have hkn : ¬ k < b.pts.length := by have := of_decide_eq_false h; omega
        refine AW.exit ?_
        refine AW.region ?_   -- "model.go:163"
        refine AOps.run tok 2 _ _ _ _ rfl ?_
        rw [wI64 (x := (i : Int) + 1) (by omega) (by omega)]
        refine AOps.nil ?_
        exact ⟨i + 1, rfl, ⟨hin, hE.trans (fO_miss hin (hP.trans (fO_end hkn)))⟩, by omega⟩
    · have hin : ¬ i < bs.length := by have := of_decide_eq_false h; omega
      rw [show pointD bs name = .tu [dI 0, dI 0, er 5] by unfold pointD; rw [hE.trans (fO_end hin)]]
      refine AW.exit ?_
      refine AW.seq ?_
      refine AW.region ?_   -- "model.go:170"
      refine AOps.run tok 4 _ _ _ _ rfl ?_
      refine AOps.nil ?_
      exact AW.ret rfl

/-- The square of the distance of two points. -/
def sqQ (p q : Mark) : Rat := (p.x.val - q.x.val) * (p.x.val - q.x.val) + (p.y.val - q.y.val) * (p.y.val - q.y.val)
abbrev ratZ : D := .ag [dB false, .sl 1 [], .sl 1 []]
def sqOk (bs : List Body) (b p q : Int) : Bool := inB b bs.length && (inB p (bs.getD b.toNat default).pts.length && inB q (bs.getD b.toNat default).pts.length)
def sqV (bs : List Body) (b p q : Int) : Rat := sqQ ((bs.getD b.toNat default).pts.getD p.toNat default) ((bs.getD b.toNat default).pts.getD q.toNat default)
def modelSquareD (l : Lkg) (b p q : Int) : D := if chk l = 0 then (if sqOk l.bodies b p q = true then .tu [(Qr (sqV l.bodies b p q)).D, nilE] else .tu [ratZ, er 9]) else .tu [ratZ, erV (chk l)]
theorem Qwl (q : Rat) {k : Nat} (h : LQ q ≤ k) : (Qr q).w k := Qr_w q h

set_option maxHeartbeats 1600000 in
theorem model_Square_ok (l : Lkg) (b p q : Int) {K : Nat} (hl : l.ok K) (hK : K ≤ 100000) : Pure Try.prog 10 [l.D, dI b, dI p, dI q] (modelSquareD l b p q) := by
  refine Pure.intro (n := 77) tok Try.func10 rfl rfl rfl (Nat.le_of_ble_eq_true rfl) (by kernel_rfl) (fun B F0 w0 => ?_)
  have c := model_Check_ok l hl (by omega)
  obtain ⟨ln, bs, js, ds⟩ := l
  have hb := hl.b
  have hn := hl.nb
  simp only [] at hb hn
  unfold big at hn
  unfold modelSquareD
  generalize chk ⟨ln, bs, js, ds⟩ = E at *
  show AW _ _ _ _ _ _ _ (initSt 0 [D.ag [dS ln, BodiesD bs, JointsD js, DriversD ds], dI b, dI p, dI q])
  refine AW.seq ?_
  refine AW.region ?_   -- "model.go:174"
  refine AOps.run tok 3 _ _ _ _ rfl ?_
  refine AOps.nil ?_
  cases E with
  | succ m =>
    rw [if_neg (by omega)]
    refine AW.seq ?_
    refine AW.seq ?_
    refine AW.region ?_   -- "model.go:175"
    refine AOps.run tok 1 _ _ _ _ rfl ?_
    refine AOps.call tok rfl rfl rfl rfl c ?_
    refine AOps.run tok 1 _ _ _ _ rfl ?_
    refine AOps.nil ?_
    refine AW.seq ?_
    refine AW.region ?_   -- "model.go:175"
    refine AOps.run tok 1 _ _ _ _ rfl ?_
    refine AOps.err tok rfl rfl rfl rfl rfl ?_
    refine AOps.nil ?_
    refine AW.condT rfl ?_
    refine AW.seq ?_
    refine AW.region ?_   -- "model.go:176"
    refine AOps.run tok 4 _ _ _ _ rfl ?_
    refine AOps.nil ?_
    exact AW.ret rfl
  | zero =>
    rw [if_pos rfl]
    refine AW.seq ?_
    refine AW.seq ?_
    refine AW.region ?_   -- "model.go:175"
    refine AOps.run tok 1 _ _ _ _ rfl ?_
    refine AOps.call tok rfl rfl rfl rfl c ?_
    refine AOps.run tok 1 _ _ _ _ rfl ?_
    refine AOps.nil ?_
    refine AW.seq ?_
    refine AW.region ?_   -- "model.go:175"
    refine AOps.run tok 1 _ _ _ _ rfl ?_
    refine AOps.err tok rfl rfl rfl rfl rfl ?_
    refine AOps.nil ?_
    refine AW.condF rfl ?_
    refine AW.skip ?_
    refine AW.seq ?_
    refine AW.seq ?_
    refine AW.region ?_   -- "model.go:178"
    refine AOps.run tok 4 _ _ _ _ rfl ?_
    rw [List.length_map]
    refine AOps.call tok rfl rfl rfl rfl (model_in_ok b bs.length) ?_
    refine AOps.run tok 1 _ _ _ _ rfl ?_
    refine AOps.nil ?_
    refine AW.cond rfl (fun h => ?_) (fun h => ?_)
    · rw [if_neg (by unfold sqOk; rw [not_t h]; simp)]
      refine AW.seq ?_
      refine AW.region ?_   -- "model.go:179"
      refine AOps.run tok 4 _ _ _ _ rfl ?_
      refine AOps.nil ?_
      exact AW.ret rfl
    have hib : inB b bs.length = true := by simpa using h
    have hsq : sqOk bs b p q = (inB p (bs.getD b.toNat default).pts.length && inB q (bs.getD b.toNat default).pts.length) := by unfold sqOk; rw [hib]; rfl
    have hsv : sqV bs b p q = sqQ ((bs.getD b.toNat default).pts.getD p.toNat default) ((bs.getD b.toNat default).pts.getD q.toNat default) := rfl
    obtain ⟨hb0, hb1⟩ := inB_t hib
    have okb := hb b.toNat
    obtain ⟨Bb, hBb⟩ : ∃ x, x = bs.getD b.toNat default := ⟨_, rfl⟩
    rw [← hBb] at hsq hsv okb
    rw [hsq]
    refine AW.skip ?_
    refine AW.seq ?_
    refine AW.region ?_   -- "model.go:181"
    refine AOps.run tok 3 _ _ _ _ rfl ?_
    refine AOps.idx tok Bb.D rfl rfl rfl rfl hb0 (by rw [hBb]; exact getM Body.D hb1) ?_
    refine AOps.run tok 3 _ _ _ _ rfl ?_
    refine AOps.nil ?_
    refine AW.seq ?_
    refine AW.cut [2, 3, 8, 9, 11, 45] (fun _ : Unit => [(2, .d (dI p)), (3, .d (dI q)), (8, .bx [dB false, .sl 1 [], .sl 1 []]), (9, .d nilE), (11, .d (PtsD Bb.pts)), (45, .d (dB (!(inB p Bb.pts.length && inB q Bb.pts.length))))]) (fun _ => True) ?_ (fun _ _ => ?_)
    · refine AW.region ?_   -- "model.go:182"   -- GUARDS
      refine AOps.run tok 3 _ _ _ _ rfl ?_
      rw [List.length_map]
      refine AOps.call tok rfl rfl rfl rfl (model_in_ok p Bb.pts.length) ?_
      refine AOps.split (t := 37) rfl (fun h => ?_) (fun h => ?_)
      · refine AOps.run tok 5 _ _ _ _ rfl ?_
        rw [List.length_map]
        refine AOps.call tok rfl rfl rfl rfl (model_in_ok q Bb.pts.length) ?_   -- guarded
        refine AOps.run tok 2 _ _ _ _ rfl ?_
        refine AOps.nil ?_
        exact ⟨(), by rw [h]; rfl, trivial⟩
      · refine AOps.run tok 8 _ _ _ _ rfl ?_
        refine AOps.nil ?_
        exact ⟨(), by rw [h]; rfl, trivial⟩
    refine AW.cond rfl (fun h => ?_) (fun h => ?_)
    · rw [if_neg (by rw [not_t h]; decide)]
      refine AW.seq ?_
      refine AW.region ?_   -- "model.go:183"
      refine AOps.run tok 4 _ _ _ _ rfl ?_
      refine AOps.nil ?_
      exact AW.ret rfl
    have hpq : inB p Bb.pts.length = true ∧ inB q Bb.pts.length = true := by simpa using h
    obtain ⟨hp0, hp1⟩ := inB_t hpq.1
    obtain ⟨hq0, hq1⟩ := inB_t hpq.2
    rw [if_pos (by rw [hpq.1, hpq.2]; rfl), hsv]
    have okp := okb.2.2 p.toNat
    have okq := okb.2.2 q.toNat
    obtain ⟨P, hP⟩ : ∃ x, x = Bb.pts.getD p.toNat default := ⟨_, rfl⟩
    obtain ⟨Q, hQ⟩ : ∃ x, x = Bb.pts.getD q.toNat default := ⟨_, rfl⟩
    rw [← hP] at okp
    rw [← hQ] at okq
    rw [← hP, ← hQ]
    have kx := (okp.2.1).mono (Nat.le_max_left K 1)
    have ky := (okp.2.2).mono (Nat.le_max_left K 1)
    have kx' := (okq.2.1).mono (Nat.le_max_left K 1)
    have ky' := (okq.2.2).mono (Nat.le_max_left K 1)
    have l1 := LQ_val kx (Nat.le_max_right K 1)
    have l2 := LQ_val ky (Nat.le_max_right K 1)
    have l3 := LQ_val kx' (Nat.le_max_right K 1)
    have l4 := LQ_val ky' (Nat.le_max_right K 1)
    have s1 := LQ_sub P.x.val Q.x.val
    have s2 := LQ_sub P.y.val Q.y.val
    have m1 := LQ_mul (P.x.val - Q.x.val) (P.x.val - Q.x.val)
    have m2 := LQ_mul (P.y.val - Q.y.val) (P.y.val - Q.y.val)
    unfold sqQ
    generalize hX : P.x.val - Q.x.val = X at *
    generalize hY : P.y.val - Q.y.val = Y at *
    have cx := fraction_Sub_ok P.x Q.x kx kx' (by omega)
    have cy := fraction_Sub_ok P.y Q.y ky ky' (by omega)
    rw [hX] at cx
    rw [hY] at cy
    have cm1 := fraction_Mul_ok (Qr X) (Qr X) (k := 1000000) (Qwl X (by omega)) (Qwl X (by omega)) (by omega)
    have cm2 := fraction_Mul_ok (Qr Y) (Qr Y) (k := 1000000) (Qwl Y (by omega)) (Qwl Y (by omega)) (by omega)
    rw [Qr_val] at cm1 cm2
    have ca := fraction_Add_ok (Qr (X * X)) (Qr (Y * Y)) (k := 1000000) (Qwl _ (by omega)) (Qwl _ (by omega)) (by omega)
    rw [Qr_val, Qr_val] at ca
    refine AW.skip ?_
    refine AW.seq ?_
    refine AW.draw hmix 12 (by kernel_rfl) ?_   -- "model.go:185"
    refine APre.run tok 2 _ _ _ _ rfl ?_
    refine APre.idx tok P.D rfl rfl rfl rfl rfl hp0 (by rw [hP]; exact getM Mark.D hp1) ?_
    refine APre.run tok 4 _ _ _ _ rfl ?_
    refine APre.idx tok Q.D rfl rfl rfl rfl rfl hq0 (by rw [hQ]; exact getM Mark.D hq1) ?_
    refine APre.run tok 2 _ _ _ _ rfl ?_
    refine APre.call tok rfl rfl rfl rfl rfl cx ?_
    refine APre.run tok 1 _ _ _ _ rfl ?_
    refine APre.nil ?_
    refine AOps.run tok 1 _ _ _ _ rfl ?_
    refine AOps.nil ?_
    refine AW.seq ?_
    refine AW.draw hmix 12 (by kernel_rfl) ?_   -- "model.go:186"
    refine APre.run tok 2 _ _ _ _ rfl ?_
    refine APre.idx tok P.D rfl rfl rfl rfl rfl hp0 (by rw [hP]; exact getM Mark.D hp1) ?_
    refine APre.run tok 4 _ _ _ _ rfl ?_
    refine APre.idx tok Q.D rfl rfl rfl rfl rfl hq0 (by rw [hQ]; exact getM Mark.D hq1) ?_
    refine APre.run tok 2 _ _ _ _ rfl ?_
    refine APre.call tok rfl rfl rfl rfl rfl cy ?_
    refine APre.run tok 1 _ _ _ _ rfl ?_
    refine APre.nil ?_
    refine AOps.run tok 1 _ _ _ _ rfl ?_
    refine AOps.nil ?_
    refine AW.seq ?_
    refine AW.draw hmix 7 (by kernel_rfl) ?_   -- "model.go:187"
    refine APre.run tok 2 _ _ _ _ rfl ?_
    refine APre.call tok rfl rfl rfl rfl rfl cm1 ?_
    refine APre.run tok 2 _ _ _ _ rfl ?_
    refine APre.call tok rfl rfl rfl rfl rfl cm2 ?_
    refine APre.call tok rfl rfl rfl rfl rfl ca ?_
    refine APre.nil ?_
    refine AOps.run tok 2 _ _ _ _ rfl ?_
    refine AOps.nil ?_
    exact AW.ret rfl
end Lift
/- The statements' helpers: numbers of errors, equal words, equal fractions, sizes. -/
namespace Lift
open Go Go.Proofs

theorem base_Num_ok (n : Nat) : Pure Try.prog 32 [erV n] (dI n) := by
  refine Pure.intro (n := 15) tok Try.func32 rfl rfl rfl (Nat.le_of_ble_eq_true rfl) (by kernel_rfl) (fun B F0 w0 => ?_)
  cases n with
  | zero =>
    refine AW.seq ?_
    refine AW.region ?_   -- "base.go:10"
    refine AOps.run tok 1 _ _ _ _ rfl ?_
    refine AOps.nil ?_
    refine AW.seq ?_
    refine AW.seq ?_
    refine AW.region ?_   -- "base.go:11"
    refine AOps.run tok 1 _ _ _ _ rfl ?_
    refine AOps.err tok rfl rfl rfl rfl rfl ?_
    refine AOps.nil ?_
    refine AW.condT rfl ?_
    refine AW.seq ?_
    refine AW.region ?_   -- "base.go:12"
    refine AOps.run tok 1 _ _ _ _ rfl ?_
    refine AOps.nil ?_
    exact AW.ret rfl
  | succ m =>
    refine AW.seq ?_
    refine AW.region ?_   -- "base.go:10"
    refine AOps.run tok 1 _ _ _ _ rfl ?_
    refine AOps.nil ?_
    refine AW.seq ?_
    refine AW.seq ?_
    refine AW.region ?_   -- "base.go:11"
    refine AOps.run tok 1 _ _ _ _ rfl ?_
    refine AOps.err tok rfl rfl rfl rfl rfl ?_
    refine AOps.nil ?_
    refine AW.condF rfl ?_
    refine AW.skip ?_
    refine AW.seq ?_
    refine AW.region ?_   -- "base.go:14"
    refine AOps.run tok 1 _ _ _ _ rfl ?_
    refine AOps.ta tok rfl rfl rfl rfl ?_
    refine AOps.run tok 5 _ _ _ _ rfl ?_
    refine AOps.nil ?_
    refine AW.seq ?_
    refine AW.seq ?_
    refine AW.region ?_   -- "base.go:15"
    refine AOps.run tok 2 _ _ _ _ rfl ?_
    refine AOps.nil ?_
    refine AW.condF rfl ?_
    refine AW.skip ?_
    refine AW.seq ?_
    refine AW.region ?_   -- "base.go:18"
    refine AOps.run tok 2 _ _ _ _ rfl ?_
    refine AOps.nil ?_
    exact AW.ret rfl

theorem base_Is_ok (n m : Nat) : Pure Try.prog 14 [erV n, dI m] (dB (decide (n = m))) := by
  refine Pure.intro (n := 9) tok Try.func14 rfl rfl rfl (Nat.le_of_ble_eq_true rfl) (by kernel_rfl) (fun B F0 w0 => ?_)
  refine AW.seq ?_
  refine AW.region ?_   -- "base.go:7"
  refine AOps.run tok 1 _ _ _ _ rfl ?_
  refine AOps.nil ?_
  refine AW.seq ?_
  refine AW.region ?_   -- "base.go:7"
  refine AOps.run tok 1 _ _ _ _ rfl ?_
  refine AOps.call tok rfl rfl rfl rfl (base_Num_ok n) ?_
  refine AOps.run tok 3 _ _ _ _ rfl ?_
  refine AOps.nil ?_
  rw [show decide (n = m) = ((n : Int) == (m : Int)) by rw [Bool.eq_iff_iff]; simp only [decide_eq_true_eq, beq_iff_eq]; omega]
  exact AW.ret rfl

theorem eq_of_take {a b : List Nat} {n : Nat} (hl : a.length = b.length) (hn : a.length ≤ n) (h : ∀ i, i < n → a.getD i 0 = b.getD i 0) : a = b := by
  apply List.ext_getElem hl
  intro i h1 h2
  have := h i (by omega)
  simpa [h1, h2] using this

theorem base_Words_ok (a b : List Nat) (ha : a.length ≤ big) : Pure Try.prog 29 [Wd a, Wd b] (dB (decide (a = b))) := by
  refine Pure.intro (n := 26) tok Try.func29 rfl rfl rfl (Nat.le_of_ble_eq_true rfl) (by kernel_rfl) (fun B F0 w0 => ?_)
  unfold big at ha
  refine AW.seq ?_
  refine AW.region ?_   -- "base.go:61"
  refine AOps.run tok 1 _ _ _ _ rfl ?_
  refine AOps.nil ?_
  refine AW.seq ?_
  refine AW.seq ?_
  refine AW.region ?_   -- "base.go:62"
  refine AOps.run tok 5 _ _ _ _ rfl ?_
  rw [lenWd, lenWd]
  refine AOps.nil ?_
  refine AW.cond rfl (fun h => ?_) (fun h => ?_)
  · have hne : a ≠ b := by rintro rfl; simp at h
    rw [decide_eq_false hne]
    refine AW.seq ?_
    refine AW.region ?_   -- "base.go:63"
    refine AOps.run tok 1 _ _ _ _ rfl ?_
    refine AOps.nil ?_
    exact AW.ret rfl
  have hlen : a.length = b.length := by
    have : (a.length : Int) = b.length := by simpa using h
    omega
  refine AW.skip ?_
  refine AW.seq ?_
  refine AW.seq ?_
  refine AW.region ?_   -- "base.go:65"
  refine AOps.run tok 1 _ _ _ _ rfl ?_
  refine AOps.nil ?_
  refine AW.block ?_   -- block 0
  refine AW.loopS [0, 1, 5] (fun i : Nat => [(0, .d (Wd a)), (1, .d (Wd b)), (5, .d (dI i))]) (fun i => i ≤ a.length ∧ ∀ k, k < i → a.getD k 0 = b.getD k 0) (fun i => a.length - i) 0 rfl
    ⟨Nat.zero_le _, fun k hk => by omega⟩ (fun i ⟨hi, hI⟩ => ?_)
  refine AW.seq ?_
  refine AW.seq ?_
  refine AW.region ?_   -- "base.go:65"
  refine AOps.run tok 4 _ _ _ _ rfl ?_
  rw [lenWd]
  refine AOps.nil ?_
  refine AW.cond rfl (fun h => ?_) (fun h => ?_)
  · have hin : i < a.length := by have := of_decide_eq_true h; omega
    refine AW.skip ?_
    refine AW.seq ?_
    refine AW.block ?_   -- block 1
    refine AW.seq ?_
    refine AW.draw hmix 9 (by kernel_rfl) ?_   -- "base.go:66"
    refine APre.run tok 2 _ _ _ _ rfl ?_
    refine APre.idx tok (wd (a.getD i 0)) rfl rfl rfl rfl rfl (Int.natCast_nonneg i) (getWd hin) ?_
    refine APre.run tok 3 _ _ _ _ rfl ?_
    refine APre.idx tok (wd (b.getD i 0)) rfl rfl rfl rfl rfl (Int.natCast_nonneg i) (getWd (by omega)) ?_
    refine APre.run tok 2 _ _ _ _ rfl ?_
    refine APre.nil ?_
    refine AOps.nil ?_
    refine AW.cond rfl (fun h => ?_) (fun h => ?_)
    · have hne : a ≠ b := by rintro rfl; simp at h
      rw [decide_eq_false hne]
      refine AW.seq ?_
      refine AW.region ?_   -- "base.go:67"
      refine AOps.run tok 1 _ _ _ _ rfl ?_
      refine AOps.nil ?_
      exact AW.ret rfl
    · have he : a.getD i 0 = b.getD i 0 := by
        have : ((a.getD i 0 : Nat) : Int) = (b.getD i 0 : Nat) := by
          rcases Decidable.em (((a.getD i 0 : Nat) : Int) = (b.getD i 0 : Nat)) with e | e
          · exact e
          · rw [bne_iff_ne.2 e] at h; cases h
        omega
      refine AW.skip ?_
      refine AW.region ?_   -- "base.go:65"
      refine AOps.run tok 3 _ _ _ _ rfl ?_
      rw [wI64 (x := (i : Int) + 1) (by omega) (by omega)]
      refine AOps.nil ?_
      refine ⟨i + 1, rfl, ⟨hin, fun k hk => ?_⟩, by omega⟩
      rcases Nat.lt_or_ge k i with e | e
      · exact hI k e
      · rw [show k = i by omega]; exact he
  · have hin : ¬ i < a.length := by have := of_decide_eq_false h; omega
    rw [decide_eq_true (eq_of_take hlen (by omega) hI)]
    refine AW.exit ?_
    refine AW.seq ?_
    refine AW.region ?_   -- "base.go:70"
    refine AOps.run tok 1 _ _ _ _ rfl ?_
    refine AOps.nil ?_
    exact AW.ret rfl

def eqR (r s : RD) : Bool := decide (r.g = s.g ∧ r.n = s.n ∧ r.d = s.d)
theorem eqR_self (r : RD) : eqR r r = true := by simp [eqR]
theorem base_Rat_ok (r s : RD) {k : Nat} (hr : r.w k) (hk : k ≤ big) : Pure Try.prog 12 [r.D, s.D] (dB (eqR r s)) := by
  refine Pure.intro (n := 24) tok Try.func12 rfl rfl rfl (Nat.le_of_ble_eq_true rfl) (by kernel_rfl) (fun B F0 w0 => ?_)
  have h1 := hr.2.2.1
  have h2 := hr.2.2.2
  refine AW.seq ?_
  refine AW.region ?_   -- "base.go:74"
  refine AOps.run tok 3 _ _ _ _ rfl ?_
  refine AOps.nil ?_
  refine AW.seq ?_
  refine AW.region ?_   -- "base.go:74"   -- GUARDS
  refine AOps.run tok 4 _ _ _ _ rfl ?_
  refine AOps.be tok rfl rfl rfl rfl ?_
  refine AOps.split (t := 9) rfl (fun h => ?_) (fun h => ?_)
  · have e1 : r.g = s.g := by simpa using h
    refine AOps.run tok 5 _ _ _ _ rfl ?_
    refine AOps.call tok rfl rfl rfl rfl (base_Words_ok r.n s.n (by omega)) ?_   -- guarded
    refine AOps.run tok 1 _ _ _ _ rfl ?_
    refine AOps.split (t := 16) rfl (fun h => ?_) (fun h => ?_)
    · have e2 := of_decide_eq_true h
      refine AOps.run tok 5 _ _ _ _ rfl ?_
      refine AOps.call tok rfl rfl rfl rfl (base_Words_ok r.d s.d (by omega)) ?_   -- guarded
      refine AOps.run tok 2 _ _ _ _ rfl ?_
      refine AOps.nil ?_
      rw [show eqR r s = decide (r.d = s.d) by unfold eqR; simp [e1, e2]]
      exact AW.ret rfl
    · have e2 := of_decide_eq_false h
      refine AOps.run tok 8 _ _ _ _ rfl ?_
      refine AOps.nil ?_
      rw [show eqR r s = false by unfold eqR; simp [e2]]
      exact AW.ret rfl
  · have e1 : ¬ r.g = s.g := by simpa using h
    refine AOps.run tok 15 _ _ _ _ rfl ?_
    refine AOps.nil ?_
    rw [show eqR r s = false by unfold eqR; simp [e1]]
    exact AW.ret rfl

def ptL (p : Mark) : Bool := decide (12 < p.x.n.length + p.x.d.length + p.y.n.length + p.y.d.length)
def bdL (b : Body) : Bool := decide (40 < b.pts.length) || anyF (fun k => ptL (b.pts.getD k default)) b.pts.length 0
def bsL (bs : List Body) : Bool := anyF (fun i => bdL (bs.getD i default)) bs.length 0
def largeB (l : Lkg) : Bool := decide (40 < l.bodies.length ∨ 60 < l.joints.length ∨ 40 < l.drivers.length) || bsL l.bodies
theorem anyF_false {g : Nat → Bool} : ∀ {m i : Nat}, anyF g m i = false → ∀ k, i ≤ k → k < i + m → g k = false
  | 0, i, _, k, h1, h2 => by omega
  | m + 1, i, h, k, h1, h2 => by
    rw [anyF, Bool.or_eq_false_iff] at h
    rcases Nat.eq_or_lt_of_le h1 with e | e
    · rw [← e]; exact h.1
    · exact anyF_false h.2 k e (by omega)
theorem Lkg.ok.small {l : Lkg} {K : Nat} (hl : l.ok K) (h : largeB l = false) : l.ok 12 := by
  unfold largeB at h
  rw [Bool.or_eq_false_iff] at h
  have h2 := h.2
  refine ⟨hl.nm, hl.nb, hl.nj, hl.nd, fun i => ?_, hl.j, hl.d⟩
  obtain ⟨b1, b2, b3⟩ := hl.b i
  refine ⟨b1, b2, fun k => ?_⟩
  obtain ⟨p1, p2, p3⟩ := b3 k
  have hdef : (default : Mark).ok 12 := ⟨by decide, ⟨W32.nil, W32.nil, by decide, by decide⟩, ⟨W32.nil, W32.nil, by decide, by decide⟩⟩
  by_cases hi : i < l.bodies.length
  · have h3 := anyF_false h2 i (Nat.zero_le _) (by omega)
    unfold bdL at h3
    rw [Bool.or_eq_false_iff] at h3
    by_cases hk : k < (l.bodies.getD i default).pts.length
    · have h4 := of_decide_eq_false (anyF_false h3.2 k (Nat.zero_le _) (by omega))
      exact ⟨p1, ⟨p2.1, p2.2.1, by omega, by omega⟩, ⟨p3.1, p3.2.1, by omega, by omega⟩⟩
    · rw [show (l.bodies.getD i default).pts.getD k default = default by rw [List.getD_eq_getElem?_getD, List.getElem?_eq_none (by omega)]; rfl]
      exact hdef
  · rw [show l.bodies.getD i default = default by rw [List.getD_eq_getElem?_getD, List.getElem?_eq_none (by omega)]; rfl]
    exact hdef
end Lift
/- The statements' own parts: what is too large. -/
namespace Lift
open Go Go.Proofs

set_option maxHeartbeats 1600000 in
theorem law_large_ok (l : Lkg) {K : Nat} (hl : l.ok K) (hK : K ≤ big) : Pure Try.prog 8 [l.D] (dB (largeB l)) := by
  refine Pure.intro (n := 77) tok Try.func8 rfl rfl rfl (Nat.le_of_ble_eq_true rfl) (by kernel_rfl) (fun B F0 w0 => ?_)
  obtain ⟨ln, bs, js, ds⟩ := l
  have hb := hl.b
  have hn := hl.nb
  have hL : largeB ⟨ln, bs, js, ds⟩ = (decide (40 < bs.length ∨ 60 < js.length ∨ 40 < ds.length) || bsL bs) := rfl
  generalize largeB ⟨ln, bs, js, ds⟩ = E at *
  simp only [] at hb hn
  unfold big at hn hK
  show AW _ _ _ _ _ _ _ (initSt 0 [D.ag [dS ln, BodiesD bs, JointsD js, DriversD ds]])
  refine AW.seq ?_
  refine AW.region ?_   -- "law.go:36"
  refine AOps.run tok 2 _ _ _ _ rfl ?_
  refine AOps.nil ?_
  refine AW.seq ?_
  refine AW.cut [1, 21] (fun _ : Unit => [(1, .bx [dS ln, BodiesD bs, JointsD js, DriversD ds]), (21, .d (dB (decide (40 < bs.length ∨ 60 < js.length ∨ 40 < ds.length))))]) (fun _ => True) ?_ (fun _ _ => ?_)
  · refine AW.region ?_   -- "law.go:37"   -- GUARDS
    refine AOps.run tok 4 _ _ _ _ rfl ?_
    rw [List.length_map]
    refine AOps.split (t := 9) rfl (fun h => ?_) (fun h => ?_)
    · have h1 := of_decide_eq_true h
      refine AOps.run tok 12 _ _ _ _ rfl ?_
      refine AOps.nil ?_
      exact ⟨(), by rw [show decide (40 < bs.length ∨ 60 < js.length ∨ 40 < ds.length) = true by rw [decide_eq_true_eq]; omega]; rfl, trivial⟩
    · have h1 := of_decide_eq_false h
      refine AOps.run tok 6 _ _ _ _ rfl ?_
      rw [List.length_map]
      refine AOps.split (t := 15) rfl (fun h => ?_) (fun h => ?_)
      · have h2 := of_decide_eq_true h
        refine AOps.run tok 6 _ _ _ _ rfl ?_
        refine AOps.nil ?_
        exact ⟨(), by rw [show decide (40 < bs.length ∨ 60 < js.length ∨ 40 < ds.length) = true by rw [decide_eq_true_eq]; omega]; rfl, trivial⟩
      · have h2 := of_decide_eq_false h
        refine AOps.run tok 6 _ _ _ _ rfl ?_
        rw [List.length_map]
        refine AOps.nil ?_
        exact ⟨(), by rw [show decide (40 < bs.length ∨ 60 < js.length ∨ 40 < ds.length) = decide ((ds.length : Int) > 40) by rw [decide_eq_decide]; omega]; rfl, trivial⟩
  refine AW.cond rfl (fun h => ?_) (fun h => ?_)
  · rw [h, Bool.true_or] at hL
    rw [hL]
    refine AW.seq ?_
    refine AW.region ?_   -- "law.go:38"
    refine AOps.run tok 1 _ _ _ _ rfl ?_
    refine AOps.nil ?_
    exact AW.ret rfl
  rw [h, Bool.false_or] at hL
  refine AW.skip ?_
  refine AW.seq ?_
  refine AW.seq ?_
  refine AW.region ?_   -- "law.go:40"
  refine AOps.run tok 1 _ _ _ _ rfl ?_
  refine AOps.nil ?_
  refine AW.block ?_   -- block 0
  refine AW.loopS [1, 3] (fun i : Nat => [(1, .bx [dS ln, BodiesD bs, JointsD js, DriversD ds]), (3, .d (dI i))])
    (fun i => i ≤ bs.length ∧ E = anyF (fun i => bdL (bs.getD i default)) (bs.length - i) i) (fun i => bs.length - i) 0 rfl ⟨Nat.zero_le _, hL⟩ (fun i ⟨hi, hE⟩ => ?_)
  refine AW.seq ?_
  refine AW.seq ?_
  refine AW.region ?_   -- "law.go:40"
  refine AOps.run tok 5 _ _ _ _ rfl ?_
  rw [List.length_map]
  refine AOps.nil ?_
  refine AW.cond rfl (fun h => ?_) (fun h => ?_)
  · have hin : i < bs.length := by have := of_decide_eq_true h; omega
    obtain ⟨_, bok2, bok3⟩ := hb i
    have hbd : bdL (bs.getD i default) = true → E = true := fun e => hE.trans (anyF_hit hin e)
    have hbm : bdL (bs.getD i default) = false → E = anyF (fun i => bdL (bs.getD i default)) (bs.length - (i + 1)) (i + 1) := fun e => hE.trans (anyF_miss hin e)
    obtain ⟨b, hbe⟩ : ∃ b, b = bs.getD i default := ⟨_, rfl⟩
    rw [← hbe] at bok2 bok3 hbd hbm
    unfold big at bok2
    have hbl : bdL b = (decide (40 < b.pts.length) || anyF (fun k => ptL (b.pts.getD k default)) b.pts.length 0) := rfl
    refine AW.skip ?_
    refine AW.seq ?_
    refine AW.block ?_   -- block 1
    refine AW.seq ?_
    refine AW.seq ?_
    refine AW.region ?_   -- "law.go:41"
    refine AOps.run tok 3 _ _ _ _ rfl ?_
    refine AOps.idx tok b.D rfl rfl rfl rfl (Int.natCast_nonneg i) (by rw [hbe]; exact getM Body.D hin) ?_
    refine AOps.run tok 4 _ _ _ _ rfl ?_
    rw [List.length_map]
    refine AOps.nil ?_
    refine AW.cond rfl (fun h => ?_) (fun h => ?_)
    · have h40 : 40 < b.pts.length := by have := of_decide_eq_true h; omega
      rw [hbd (by rw [hbl, decide_eq_true h40]; rfl)]
      refine AW.seq ?_
      refine AW.region ?_   -- "law.go:42"
      refine AOps.run tok 1 _ _ _ _ rfl ?_
      refine AOps.nil ?_
      exact AW.ret rfl
    have h40 : ¬ 40 < b.pts.length := by have := of_decide_eq_false h; omega
    rw [decide_eq_false h40, Bool.false_or] at hbl
    refine AW.skip ?_
    refine AW.seq ?_
    refine AW.region ?_   -- "law.go:44"
    refine AOps.run tok 1 _ _ _ _ rfl ?_
    refine AOps.nil ?_
    refine AW.block ?_   -- block 2
    refine AW.loopS [1, 3, 4] (fun k : Nat => [(1, .bx [dS ln, BodiesD bs, JointsD js, DriversD ds]), (3, .d (dI i)), (4, .d (dI k))])
      (fun k => k ≤ b.pts.length ∧ bdL b = anyF (fun k => ptL (b.pts.getD k default)) (b.pts.length - k) k) (fun k => b.pts.length - k) 0 rfl ⟨Nat.zero_le _, hbl⟩ (fun k ⟨hk, hP⟩ => ?_)
    refine AW.seq ?_
    refine AW.seq ?_
    refine AW.region ?_   -- "law.go:44"
    refine AOps.run tok 4 _ _ _ _ rfl ?_
    refine AOps.idx tok b.D rfl rfl rfl rfl (Int.natCast_nonneg i) (by rw [hbe]; exact getM Body.D hin) ?_
    refine AOps.run tok 4 _ _ _ _ rfl ?_
    rw [List.length_map]
    refine AOps.nil ?_
    refine AW.cond rfl (fun h => ?_) (fun h => ?_)
    · have hkn : k < b.pts.length := by have := of_decide_eq_true h; omega
      obtain ⟨_, p2, p3⟩ := bok3 k
      have hph : ptL (b.pts.getD k default) = true → bdL b = true := fun e => hP.trans (anyF_hit hkn e)
      have hpm : ptL (b.pts.getD k default) = false → bdL b = anyF (fun k => ptL (b.pts.getD k default)) (b.pts.length - (k + 1)) (k + 1) := fun e => hP.trans (anyF_miss hkn e)
      obtain ⟨p, hp⟩ : ∃ p, p = b.pts.getD k default := ⟨_, rfl⟩
      rw [← hp] at p2 p3 hph hpm
      obtain ⟨_, _, q1, q2⟩ := p2
      obtain ⟨_, _, q3, q4⟩ := p3
      refine AW.skip ?_
      refine AW.seq ?_
      refine AW.block ?_   -- block 3
      refine AW.seq ?_
      refine AW.region ?_   -- "law.go:45"
      refine AOps.run tok 3 _ _ _ _ rfl ?_
      refine AOps.idx tok b.D rfl rfl rfl rfl (Int.natCast_nonneg i) (by rw [hbe]; exact getM Body.D hin) ?_
      refine AOps.run tok 3 _ _ _ _ rfl ?_
      refine AOps.idx tok p.D rfl rfl rfl rfl (Int.natCast_nonneg k) (by rw [hp]; exact getM Mark.D hkn) ?_
      refine AOps.run tok 3 _ _ _ _ rfl ?_
      refine AOps.nil ?_
      refine AW.seq ?_
      refine AW.region ?_   -- "law.go:46"
      refine AOps.run tok 20 _ _ _ _ rfl ?_
      rw [lenWd, lenWd, lenWd, lenWd, wI64 (x := (p.x.n.length : Int) + p.x.d.length) (by omega) (by omega), wI64 (x := (p.x.n.length : Int) + p.x.d.length + p.y.n.length) (by omega) (by omega), wI64 (x := (p.x.n.length : Int) + p.x.d.length + p.y.n.length + p.y.d.length) (by omega) (by omega)]
      refine AOps.nil ?_
      refine AW.cond rfl (fun h => ?_) (fun h => ?_)
      · have h1 := of_decide_eq_true h
        rw [hbd (hph (decide_eq_true (by omega)))]
        refine AW.seq ?_
        refine AW.region ?_   -- "law.go:47"
        refine AOps.run tok 1 _ _ _ _ rfl ?_
        refine AOps.nil ?_
        exact AW.ret rfl
      · have h1 := of_decide_eq_false h
        refine AW.skip ?_
        refine AW.region ?_   -- "law.go:44"
        refine AOps.run tok 3 _ _ _ _ rfl ?_
        rw [wI64 (x := (k : Int) + 1) (by omega) (by omega)]
        refine AOps.nil ?_
        exact ⟨k + 1, rfl, ⟨hkn, hpm (decide_eq_false (by omega))⟩, by omega⟩
    · have hkn : ¬ k < b.pts.length := by have := of_decide_eq_false h; omega
      refine AW.exit ?_
      refine AW.region ?_   -- "law.go:40"
      refine AOps.run tok 3 _ _ _ _ rfl ?_
      rw [wI64 (x := (i : Int) + 1) (by omega) (by omega)]
      refine AOps.nil ?_
      exact ⟨i + 1, rfl, ⟨hin, hbm (hP.trans (anyF_end hkn))⟩, by omega⟩
  have hin : ¬ i < bs.length := by have := of_decide_eq_false h; omega
  rw [hE.trans (anyF_end hin)]
  refine AW.exit ?_
  refine AW.seq ?_
  refine AW.region ?_   -- "law.go:51"
  refine AOps.run tok 1 _ _ _ _ rfl ?_
  refine AOps.nil ?_
  exact AW.ret rfl
end Lift
/- The example of the statements: what makes it; that its joint's cells are its own. -/
namespace Lift
open Go Go.Proofs
open Go.RowKit (Below)

abbrev rz : RD := ⟨false, [], []⟩
abbrev q4 : RD := Qr ((4 : Int) : Rat)
abbrev q1 : RD := Qr ((1 : Int) : Rat)
abbrev crankB : List Body := [⟨⟨#[102, 114, 97, 109, 101]⟩, [⟨⟨#[79]⟩, rz, rz⟩, ⟨⟨#[67]⟩, q4, rz⟩]⟩, ⟨⟨#[99, 114, 97, 110, 107]⟩, [⟨⟨#[79]⟩, rz, rz⟩, ⟨⟨#[65]⟩, q1, rz⟩]⟩]
abbrev crankJ (b : Int) : Joint := ⟨⟨#[106]⟩, 0, 1, 0, b, 0, 0⟩
abbrev crankD : List Driver := [⟨⟨#[100]⟩, 1⟩]
abbrev crankL (b : Int) : Lkg := ⟨⟨#[109]⟩, crankB, [crankJ b], crankD⟩

/-- What Crank hands back: the example, with a slice of its own for the joint. -/
def CrankRes (w w' : World) (v : Value) : Prop :=
  ∃ b cap cs, w.heap.size ≤ b ∧ b < w'.heap.size ∧ 1 ≤ cap ∧ (cap ≤ maxLen ∧ cap * Try.prog.cellsOf 51 ≤ cs.size) ∧ w'.heap[b]? = some (.cells cs 51 (0, 0)) ∧
    (∀ (i : Nat) (d : D), (crankJ 0).D.flat[i]? = some d → d.isCell = true ∧ ∃ u, cs[i]? = some u ∧ Rd w' (fun c => c ≠ b ∧ w.heap.size ≤ c ∧ c < w'.heap.size) d u) ∧
    Rd w' (fun c => c ≠ b ∧ w.heap.size ≤ c ∧ c < w'.heap.size) (.ag [dS ⟨#[109]⟩, BodiesD crankB, .v (.slice (some ⟨b, 0, none⟩) 1 cap), DriversD crankD]) v

set_option maxHeartbeats 1600000 in
theorem Crank_raw (w : World) : Calls Try.prog 18 #[] w (fun ee w' => ∃ v, ee = .returned v ∧ Below w.heap.size w w' ∧ CrankRes w w' v) := by
  refine calls_of_wp Try.func18 rfl ?_
  have hR0 : Rel Try.prog w.heap.size (fun _ => False) ⟨w, fun _ => False⟩ 29 (initSt 0 []) { tmps := #[] ++ Array.replicate (29 - 0) undef, defers := [] } w :=
    ⟨.refl _ _ _, Nat.le_refl _, ⟨fun b h => h.elim, fun b h => h.elim⟩, rfl, by simp, fun _ => none, fun b t hb => by simp at hb, fun t av hav => by simp [initSt, St.get] at hav⟩
  refine AW.step [0] [(0, .bx [dS ⟨#[]⟩, .sl 2 [], .sl 7 [], .sl 2 []])] hR0 ?_ (fun a wa hR => ?_)
  · refine AW.region ?_   -- "law.go:13"
    refine AOps.run tok 1 _ _ _ _ rfl ?_
    exact AOps.nil ⟨rfl, rfl⟩
  refine AW.step [0, 1, 2, 3] [(0, .bx [dS ⟨#[]⟩, .sl 2 [], .sl 7 [], .sl 2 []]), (1, .bx [dB false, Wd [], Wd []]), (2, .bx [dB q4.g, Wd q4.n, Wd q4.d]), (3, .bx [dB q1.g, Wd q1.n, Wd q1.d])] hR ?_ (fun a wb hR => ?_)
  · refine AW.region ?_   -- "law.go:14"
    refine AOps.run tok 1 _ _ _ _ rfl ?_
    refine AOps.call tok rfl rfl rfl rfl (r02_Of_ok 4 (by decide) (by decide)) ?_
    refine AOps.call tok rfl rfl rfl rfl (r02_Of_ok 1 (by decide) (by decide)) ?_
    refine AOps.run tok 6 _ _ _ _ rfl ?_
    exact AOps.nil ⟨rfl, rfl⟩
  refine wp_seq (wp_region_list ?_)
  refine AOps.part [0, 23, 25, 27] [(0, .bx [dS ⟨#[]⟩, .sl 2 [], .sl 7 [], .sl 2 []]), (23, .d (BodiesD crankB)), (25, .ow 51 [(crankJ 0).D]), (27, .d (DriversD crankD))] [_, _, _, _, _, _, _, _, _, _, _, _, _, _, _, _, _, _, _, _, _] [_, _] hR ?_ (fun a w1 hR => ?_)
  · refine AOps.run tok 6 _ _ _ _ rfl ?_
    refine AOps.bsd tok rfl rfl rfl rfl rfl ?_
    refine AOps.run tok 7 _ _ _ _ rfl ?_
    refine AOps.bsd tok rfl rfl rfl rfl rfl ?_
    refine AOps.run tok 1 _ _ _ _ rfl ?_
    refine AOps.bsd tok rfl rfl rfl rfl rfl ?_
    refine AOps.run tok 1 _ _ _ _ rfl ?_
    refine AOps.bs tok rfl rfl rfl rfl ?_
    refine AOps.run tok 1 _ _ _ _ rfl ?_
    refine AOps.bsd tok rfl rfl rfl rfl rfl ?_
    exact AOps.nil rfl
  -- the struct is built over a new base, the joint's slice as it is
  have hsz1 : w.heap.size ≤ w1.heap.size := hR.below.size
  obtain ⟨O, hOr, hO⟩ := hR.own
  obtain ⟨v25, t25, h25⟩ := hO 25 _ rfl
  rcases h25 with ⟨_, _, h⟩ | ⟨b, cap, cs, rfl, hOb, hheap, hcap1, hcap2, hcsz, hflat, hcells⟩
  · cases h
  obtain ⟨_, t0, b0, c0, e0, rfl, hO0, hh0, hrd0⟩ := hO 0 _ rfl
  obtain ⟨v23, t23, h23⟩ := hO 23 _ rfl
  obtain ⟨v27, t27, h27⟩ := hO 27 _ rfl
  have hne : b ≠ b0 := fun e => by rw [e, hO0] at hOb; cases hOb
  have hb := hOr b 25 hOb
  have hb0 := hOr b0 0 hO0
  have hb2 : b < w1.heap.size := hb.2
  have hb02 : b0 < w1.heap.size := hb0.2
  have hbB : w.heap.size ≤ b := by rcases hb.1 with g | g; exact g; exact g.elim
  have hb0B : w.heap.size ≤ b0 := by rcases hb0.1 with g | g; exact g; exact g.elim
  have hFree : ∀ c, Free O (FW w.heap.size (fun _ => False) w1) c → c ≠ b ∧ c ≠ b0 ∧ w.heap.size ≤ c ∧ c < w1.heap.size := fun c hc => by
    refine ⟨fun e => ?_, fun e => ?_, ?_⟩
    · rw [e, Free, hOb] at hc; cases hc.1
    · rw [e, Free, hO0] at hc; cases hc.1
    · rcases hc.2 with g | g
      · exact g.elim
      · exact g
  let F1 : Nat → Prop := fun c => c = b0 ∨ (c ≠ b ∧ c ≠ b0 ∧ w.heap.size ≤ c ∧ c < w1.heap.size)
  let O1 : Nat → Option Nat := fun c => if c = b0 then some 0 else none
  have hO1 : ∀ c t, O1 c = some t → c = b0 ∧ t = 0 := fun c t h => by
    simp only [O1] at h
    split at h
    · rename_i e; exact ⟨e, by simpa using h.symm⟩
    · cases h
  have hFr : ∀ c, Free O (FW w.heap.size (fun _ => False) w1) c → Free O1 (FW w1.heap.size F1 w1) c := fun c hc => by
    have := hFree c hc
    exact ⟨by simp only [O1]; rw [if_neg this.2.1], .inl (.inr this)⟩
  have hR1 : Rel Try.prog w1.heap.size F1 ⟨w1, fun c => c = b0⟩ 29 [(0, .bx [dS ⟨#[]⟩, .sl 2 [], .sl 7 [], .sl 2 []]), (23, .d (BodiesD crankB)), (25, .d (.v (.slice (some ⟨b, 0, none⟩) 1 cap))), (27, .d (DriversD crankD))] a w1 := by
    refine ⟨.refl _ _ _, Nat.le_refl _, ⟨fun c hc => ?_, fun c hc => .inl hc⟩, hR.defers, hR.size, O1, fun c t hc => ?_, AllP.get ⟨?_, ?_, ?_, ?_, trivial⟩⟩
    · rcases hc with rfl | hc
      · exact hb0.2
      · exact hc.2.2.2
    · obtain ⟨rfl, rfl⟩ := hO1 c t hc
      exact ⟨.inr rfl, hb0.2⟩
    · exact ⟨_, t0, b0, c0, e0, rfl, by simp [O1], hh0, hrd0.mono hFr (fun _ _ => rfl)⟩
    · exact ⟨_, t23, Rd.mono h23 hFr (fun _ _ => rfl)⟩
    · exact ⟨_, t25, .v rfl⟩
    · exact ⟨_, t27, Rd.mono h27 hFr (fun _ _ => rfl)⟩
  refine AOps.part (σ := [(0, .bx [dS ⟨#[]⟩, .sl 2 [], .sl 7 [], .sl 2 []]), (23, .d (BodiesD crankB)), (25, .d (.v (.slice (some ⟨b, 0, none⟩) 1 cap))), (27, .d (DriversD crankD))]) [0] [(0, .bx [dS ⟨#[109]⟩, BodiesD crankB, .v (.slice (some ⟨b, 0, none⟩) 1 cap), DriversD crankD])] [_, _] [] hR1 ?_ (fun a w2 hR2 => ?_)
  · refine AOps.run tok 2 _ _ _ _ rfl ?_
    exact AOps.nil rfl
  show Code.wp _ .ret _ a w2
  refine wp_ret ?_
  have hsz2 : w1.heap.size ≤ w2.heap.size := hR2.below.size
  obtain ⟨v, hrun, hrd⟩ := resOne_sound tok hR2 (r := .cell 0 26) (d := .ag [dS ⟨#[109]⟩, BodiesD crankB, .v (.slice (some ⟨b, 0, none⟩) 1 cap), DriversD crankD]) rfl
  have hkeep : ∀ c, w.heap.size ≤ c → c ≠ b0 → c < w1.heap.size → w2.heap[c]? = w1.heap[c]? := fun c _ h2 h3 => hR2.below.block c h3 h2
  refine ⟨hR2.defers, v, ?_, v, rfl, ?_, b, cap, cs, hbB, by omega, hcap1, ⟨hcap2, by omega⟩, ?_, fun i d hd => ?_, ?_⟩
  · rw [results_eq]
    have hrs : (Try.f18).results.toList = [.cell 0 26] := rfl
    simp only [Sem.run_bind, Array.mapM_eq_mapM_toList, hrs, Sem.run_map, List.mapM_cons, List.mapM_nil, Sem.run_pure, hrun, Result.andThen_ok]
    rfl
  · refine ⟨hR2.below.os.trans hR.below.os, hR2.below.tape.trans hR.below.tape, hR2.below.output.trans hR.below.output, Nat.le_trans hsz1 hsz2, fun k hk => ?_⟩
    exact (hR2.below.block k (by show k < w1.heap.size; omega) (fun e => by have e : k = b0 := e; omega)).trans (hR.below.block k hk (fun h => h))
  · rw [hR2.below.block b hb.2 hne]; exact hheap
  · obtain ⟨g1, u, g2, g3⟩ := hcells i d (by simpa [flatAll] using hd)
    refine ⟨g1, u, g2, g3.mono (fun c hc => ?_) (fun c hc => ?_)⟩
    · have := hFree c hc
      exact ⟨this.1, this.2.2.1, by omega⟩
    · have := hFree c hc
      exact hR2.below.block c this.2.2.2 this.2.1
  · refine hrd.mono (fun c hc => ?_) (fun _ _ => rfl)
    rcases hc with (rfl | hc) | ⟨h1, h2⟩
    · exact ⟨Ne.symm hne, hb0B, by have := hb0.2; omega⟩
    · exact ⟨hc.1, hc.2.2.1, by omega⟩
    · exact ⟨fun e => by omega, by omega, h2⟩
end Lift
/- The example is what the statements say of it. -/
namespace Lift
open Go Go.Proofs
open Go.RowKit (Below)

/-- The example, its joint's cells changed to those of another joint. -/
theorem crank_cells {w : World} {F F' : Nat → Prop} {b cap : Nat} {cs : Array Value} {e : TypeId} {j : Joint} {vs : List Value} (hheap : w.heap[b]? = some (.cells cs e (0, 0))) (h1 : 1 ≤ cap) (h2 : cap ≤ maxLen)
    (hc : ∀ (i : Nat) (d : D), j.D.flat[i]? = some d → d.isCell = true ∧ ∃ u, cs[i]? = some u ∧ Rd w F' d u) (hF : ∀ c, F c → F' c) (hb : F' b)
    (hr : RdL w F [dS ⟨#[109]⟩, BodiesD crankB, .v (.slice (some ⟨b, 0, none⟩) 1 cap), DriversD crankD] vs) : RdL w F' [dS ⟨#[109]⟩, BodiesD crankB, JointsD [j], DriversD crankD] vs := by
  refine ⟨hr.1, fun i d u hd hu => ?_⟩
  match i, hd with
  | 0, hd => cases hd; exact ⟨rfl, ((hr.2 0 _ u rfl hu).2).mono hF (fun _ _ => rfl)⟩
  | 1, hd => cases hd; exact ⟨rfl, ((hr.2 1 _ u rfl hu).2).mono hF (fun _ _ => rfl)⟩
  | 2, hd =>
    cases hd
    have hv := (Rd.v_eq (hr.2 2 _ u rfl hu).2).1
    subst hv
    refine ⟨rfl, Rd.sl_mk (l := [j.D]) (off := 0) hb hheap h1 h2 (fun x hx => ?_) (fun i d hd => ?_)⟩
    · simp at hx; subst hx; rfl
    · obtain ⟨g1, u, g2, g3⟩ := hc i d (by simpa [flatAll] using hd)
      exact ⟨g1, u, by simpa using g2, g3⟩
  | 3, hd => cases hd; exact ⟨rfl, ((hr.2 3 _ u rfl hu).2).mono hF (fun _ _ => rfl)⟩
theorem crank_read {w : World} {F F' : Nat → Prop} {b cap : Nat} {cs : Array Value} {e : TypeId} {j : Joint} {v : Value} (hheap : w.heap[b]? = some (.cells cs e (0, 0))) (h1 : 1 ≤ cap) (h2 : cap ≤ maxLen)
    (hc : ∀ (i : Nat) (d : D), j.D.flat[i]? = some d → d.isCell = true ∧ ∃ u, cs[i]? = some u ∧ Rd w F' d u) (hF : ∀ c, F c → F' c) (hb : F' b)
    (hr : Rd w F (.ag [dS ⟨#[109]⟩, BodiesD crankB, .v (.slice (some ⟨b, 0, none⟩) 1 cap), DriversD crankD]) v) : Rd w F' (.ag [dS ⟨#[109]⟩, BodiesD crankB, JointsD [j], DriversD crankD]) v := by
  obtain ⟨vs, rfl, hl⟩ := hr.ag_eq
  have h := crank_cells hheap h1 h2 hc hF hb hl
  exact .ag h.1 (fun d hd => by
    simp only [List.mem_cons, List.mem_nil_iff, or_false] at hd
    rcases hd with rfl | rfl | rfl | rfl <;> rfl) (fun i d u hd hu => (h.2 i d u hd hu).2)

theorem crank_call : CallOk Try.prog 18 := ⟨_, Try.func18, by kernel_rfl, rfl⟩
theorem Crank_ok : Pure Try.prog 18 [] (crankL 0).D := by
  refine ⟨crank_call, fun w F vs hF hl _ => ?_⟩
  obtain rfl : vs = [] := List.length_eq_zero_iff.1 hl
  refine (Crank_raw w).mono fun e w' ⟨v, he, hb, b, cap, cs, g1, g2, g3, ⟨g4, g4s⟩, g5, g6, g7⟩ => ⟨v, he, hb, ?_⟩
  refine crank_read g5 g3 g4 (fun i d hd => ?_) (fun c hc => .inr hc.2) (.inr ⟨g1, g2⟩) g7
  obtain ⟨k1, u, k2, k3⟩ := g6 i d hd
  exact ⟨k1, u, k2, k3.mono (fun c hc => .inr hc.2) (fun _ _ => rfl)⟩

/-! What is wrong with the example: nothing; with its joint at one body: that. -/
theorem rz_ok : rz.okB = true := by decide
theorem n_m : nameB ⟨#[109]⟩ = true := by decide +kernel
theorem n_frame : nameB ⟨#[102, 114, 97, 109, 101]⟩ = true := by decide +kernel
theorem n_crank : nameB ⟨#[99, 114, 97, 110, 107]⟩ = true := by decide +kernel
theorem n_O : nameB ⟨#[79]⟩ = true := by decide +kernel
theorem n_C : nameB ⟨#[67]⟩ = true := by decide +kernel
theorem n_A : nameB ⟨#[65]⟩ = true := by decide +kernel
theorem n_j : nameB ⟨#[106]⟩ = true := by decide +kernel
theorem n_d : nameB ⟨#[100]⟩ = true := by decide +kernel
theorem crank_bodies : bodiesE crankB = 0 := by
  have h4 : q4.okB = true := Qr_ok _
  have h1 : q1.okB = true := Qr_ok _
  have p1 : ptsE [⟨⟨#[79]⟩, rz, rz⟩, ⟨⟨#[67]⟩, q4, rz⟩] = 0 := by
    have e0 : ptE [⟨⟨#[79]⟩, rz, rz⟩, ⟨⟨#[67]⟩, q4, rz⟩] 0 = 0 := by
      show (if nameB ⟨#[79]⟩ = false then 5 else if dupM _ 0 = true then 6 else if rz.okB = true ∧ rz.okB = true then 0 else 3) = 0
      rw [n_O, if_neg (by decide), if_neg (by intro h; cases h), if_pos ⟨rz_ok, rz_ok⟩]
    have e1 : ptE [⟨⟨#[79]⟩, rz, rz⟩, ⟨⟨#[67]⟩, q4, rz⟩] 1 = 0 := by
      show (if nameB ⟨#[67]⟩ = false then 5 else if (decide ((⟨#[79]⟩ : ByteArray) = ⟨#[67]⟩) || false) = true then 6 else if q4.okB = true ∧ rz.okB = true then 0 else 3) = 0
      rw [n_C, if_neg (by decide), if_neg (by decide), if_pos ⟨h4, rz_ok⟩]
    show (if 8 < 2 then 4 else fE _ 2 0) = 0
    rw [if_neg (by decide), fE, if_pos e0, fE, if_pos e1, fE]
  have p2 : ptsE [⟨⟨#[79]⟩, rz, rz⟩, ⟨⟨#[65]⟩, q1, rz⟩] = 0 := by
    have e0 : ptE [⟨⟨#[79]⟩, rz, rz⟩, ⟨⟨#[65]⟩, q1, rz⟩] 0 = 0 := by
      show (if nameB ⟨#[79]⟩ = false then 5 else if dupM _ 0 = true then 6 else if rz.okB = true ∧ rz.okB = true then 0 else 3) = 0
      rw [n_O, if_neg (by decide), if_neg (by intro h; cases h), if_pos ⟨rz_ok, rz_ok⟩]
    have e1 : ptE [⟨⟨#[79]⟩, rz, rz⟩, ⟨⟨#[65]⟩, q1, rz⟩] 1 = 0 := by
      show (if nameB ⟨#[65]⟩ = false then 5 else if (decide ((⟨#[79]⟩ : ByteArray) = ⟨#[65]⟩) || false) = true then 6 else if q1.okB = true ∧ rz.okB = true then 0 else 3) = 0
      rw [n_A, if_neg (by decide), if_neg (by decide), if_pos ⟨h1, rz_ok⟩]
    show (if 8 < 2 then 4 else fE _ 2 0) = 0
    rw [if_neg (by decide), fE, if_pos e0, fE, if_pos e1, fE]
  have b0 : bodyE crankB 0 = 0 := by
    show (if nameB ⟨#[102, 114, 97, 109, 101]⟩ = false then 5 else if dupB _ 0 = true then 6 else ptsE [⟨⟨#[79]⟩, rz, rz⟩, ⟨⟨#[67]⟩, q4, rz⟩]) = 0
    rw [n_frame, if_neg (by decide), if_neg (by intro h; cases h), p1]
  have b1 : bodyE crankB 1 = 0 := by
    show (if nameB ⟨#[99, 114, 97, 110, 107]⟩ = false then 5 else if (decide ((⟨#[102, 114, 97, 109, 101]⟩ : ByteArray) = ⟨#[99, 114, 97, 110, 107]⟩) || false) = true then 6 else ptsE [⟨⟨#[79]⟩, rz, rz⟩, ⟨⟨#[65]⟩, q1, rz⟩]) = 0
    rw [n_crank, if_neg (by decide), if_neg (by decide), p2]
  show fE _ 2 0 = 0
  rw [fE, if_pos b0, fE, if_pos b1, fE]
theorem crank_j0 : jE crankB (crankJ 0) = 0 := by decide +kernel
theorem crank_j1 : jE crankB (crankJ 1) = 13 := by decide +kernel
theorem crank_joints0 : jointsE crankB [crankJ 0] = 0 := by
  have e0 : jointE crankB [crankJ 0] 0 = 0 := by
    show (if nameB ⟨#[106]⟩ = false then 5 else if dupJ _ 0 = true then 6 else jE crankB (crankJ 0)) = 0
    rw [n_j, if_neg (by decide), if_neg (by intro h; cases h), crank_j0]
  show (if 16 < 1 then 4 else fE _ 1 0) = 0
  rw [if_neg (by decide), fE, if_pos e0, fE]
theorem crank_joints1 : jointsE crankB [crankJ 1] = 13 := by
  have e0 : jointE crankB [crankJ 1] 0 = 13 := by
    show (if nameB ⟨#[106]⟩ = false then 5 else if dupJ _ 0 = true then 6 else jE crankB (crankJ 1)) = 13
    rw [n_j, if_neg (by decide), if_neg (by intro h; cases h), crank_j1]
  show (if 16 < 1 then 4 else fE _ 1 0) = 13
  rw [if_neg (by decide), fE, if_neg (by rw [e0]; decide), e0]
theorem crank_drivers : driversE 2 crankD = 0 := by
  have e0 : driverE 2 crankD 0 = 0 := by
    show (if nameB ⟨#[100]⟩ = false then 5 else if dupD _ 0 = true then 6 else if inB 1 2 = false then 9 else if (1 : Int) = 0 then 7 else if dupT _ 0 = true then 6 else 0) = 0
    rw [n_d, if_neg (by decide), if_neg (by intro h; cases h), if_neg (by decide), if_neg (by decide), if_neg (by intro h; cases h)]
  show (if 2 < 1 then 4 else fE _ 1 0) = 0
  rw [if_neg (by decide), fE, if_pos e0, fE]
theorem chk_crank0 : chk (crankL 0) = 0 := by
  show (if nameB ⟨#[109]⟩ = false then 5 else if crankB = [] then 10 else if 8 < 2 then 4 else if bodiesE crankB ≠ 0 then bodiesE crankB else if jointsE crankB [crankJ 0] ≠ 0 then jointsE crankB [crankJ 0] else driversE 2 crankD) = 0
  rw [n_m, if_neg (by decide), if_neg (by intro h; cases h), if_neg (by decide), crank_bodies, if_neg (by decide), crank_joints0, if_neg (by decide), crank_drivers]
theorem chk_crank1 : chk (crankL 1) = 13 := by
  show (if nameB ⟨#[109]⟩ = false then 5 else if crankB = [] then 10 else if 8 < 2 then 4 else if bodiesE crankB ≠ 0 then bodiesE crankB else if jointsE crankB [crankJ 1] ≠ 0 then jointsE crankB [crankJ 1] else driversE 2 crankD) = 13
  rw [n_m, if_neg (by decide), if_neg (by intro h; cases h), if_neg (by decide), crank_bodies, if_neg (by decide), crank_joints1, if_pos (by decide)]
theorem crank_point : modelPointD (crankL 0) ⟨#[99, 114, 97, 110, 107, 46, 65]⟩ = .tu [dI 1, dI 1, nilE] := by
  rw [modelPointD, chk_crank0, if_pos rfl]
  have : pointI crankB ⟨#[99, 114, 97, 110, 107, 46, 65]⟩ = some (1, 1, ()) := by decide +kernel
  show pointD crankB _ = _
  rw [pointD, this]
  rfl
theorem crank_sq : sqV crankB 0 0 1 = ((16 : Int) : Rat) := by
  show ((rz.val - q4.val) * (rz.val - q4.val) + (rz.val - rz.val) * (rz.val - rz.val)) = _
  rw [RD.val_nil (r := rz) rfl, Qr_val]
  decide +kernel
theorem crank_square : modelSquareD (crankL 0) 0 0 1 = .tu [(Qr ((16 : Int) : Rat)).D, nilE] := by
  rw [modelSquareD, chk_crank0, if_pos rfl]
  show (if sqOk crankB 0 0 1 = true then D.tu [(Qr (sqV crankB 0 0 1)).D, nilE] else _) = _
  rw [if_pos (by rfl), crank_sq]
theorem crank_ok (b : Int) : (crankL b).ok 2 := by
  have hz : rz.w 2 := ⟨W32.nil, W32.nil, by decide, by decide⟩
  have h4 : q4.w 2 := Qr_w _ (by have := LQ_of 4; have := L_of 4 (by decide); omega)
  have h1 : q1.w 2 := Qr_w _ (by have := LQ_of 1; have := L_of 1 (by decide); omega)
  have hdM : (default : Mark).ok 2 := ⟨by decide, ⟨W32.nil, W32.nil, by decide, by decide⟩, ⟨W32.nil, W32.nil, by decide, by decide⟩⟩
  have hdB : (default : Body).ok 2 := ⟨by decide, by decide, fun i => by rw [show (default : Body).pts.getD i default = default from by cases i <;> rfl]; exact hdM⟩
  have two : ∀ (nm : ByteArray) (p q : Mark), nm.size ≤ big → p.ok 2 → q.ok 2 → (⟨nm, [p, q]⟩ : Body).ok 2 := fun nm p q hn hp hq => ⟨hn, (by show 2 ≤ big; decide), fun i => by
    match i with
    | 0 => exact hp
    | 1 => exact hq
    | i + 2 => exact hdM⟩
  refine ⟨(by show 1 ≤ big; decide), (by show 2 ≤ big; decide), (by show 1 ≤ big; decide), (by show 1 ≤ big; decide), fun i => ?_, fun i => ?_, fun i => ?_⟩
  · match i with
    | 0 => exact two _ _ _ (by decide) ⟨by decide, hz, hz⟩ ⟨by decide, h4, hz⟩
    | 1 => exact two _ _ _ (by decide) ⟨by decide, hz, hz⟩ ⟨by decide, h1, hz⟩
    | i + 2 => exact hdB
  · match i with
    | 0 => show 1 ≤ big; decide
    | i + 1 => show (default : ByteArray).size ≤ big; decide
  · match i with
    | 0 => show 1 ≤ big; decide
    | i + 1 => show (default : ByteArray).size ≤ big; decide

def awakeQ (e : Exit) (σ : St) : Prop := e = .ret ∧ σ.get 0 = some (.d (dB true))
set_option maxHeartbeats 3200000 in
theorem law_awake_ok : Pure Try.prog 7 [] (dB true) := by
  refine Pure.intro (n := 52) tok Try.func7 rfl rfl rfl (Nat.le_of_ble_eq_true rfl) (by kernel_rfl) (fun B F0 w0 => ?_)
  have cP := model_Point_ok (crankL 0) ⟨#[99, 114, 97, 110, 107, 46, 65]⟩ (crank_ok 0) (by decide)
  rw [crank_point] at cP
  have cS := model_Square_ok (crankL 0) 0 0 1 (crank_ok 0) (by decide)
  rw [crank_square] at cS
  have cC := model_Check_ok (crankL 0) (crank_ok 0) (by decide)
  rw [chk_crank0] at cC
  have cD := model_Check_ok (crankL 1) (crank_ok 1) (by decide)
  rw [chk_crank1] at cD
  have h16 : (Qr ((16 : Int) : Rat)).w 2 := Qr_w _ (by have := LQ_of 16; have := L_of 16 (by decide); omega)
  have cR := base_Rat_ok (Qr ((16 : Int) : Rat)) (Qr ((16 : Int) : Rat)) h16 (by decide)
  rw [eqR_self] at cR
  have cI := base_Is_ok 13 13
  have cO := r02_Of_ok 16 (by decide) (by decide)
  generalize Qr ((16 : Int) : Rat) = q16 at *
  refine AW.seq ?_
  refine AW.region ?_   -- "law.go:27"
  refine AOps.run tok 1 _ _ _ _ rfl ?_
  refine AOps.nil ?_
  refine AW.seq ?_
  refine AW.region ?_   -- "law.go:28"
  refine AOps.call tok rfl rfl rfl rfl Crank_ok ?_
  refine AOps.call tok rfl rfl rfl rfl cP ?_
  refine AOps.run tok 7 _ _ _ _ rfl ?_
  refine AOps.nil ?_
  refine AW.seq ?_
  refine AW.region ?_   -- "law.go:29"
  refine AOps.call tok rfl rfl rfl rfl Crank_ok ?_
  refine AOps.call tok rfl rfl rfl rfl cS ?_
  refine AOps.run tok 6 _ _ _ _ rfl ?_
  refine AOps.nil ?_
  refine AW.norm [1, 2, 3, 4, 5] [(1, .d (dI 1)), (2, .d (dI 1)), (3, .d nilE), (4, .bx [dB q16.g, Wd q16.n, Wd q16.d]), (5, .d nilE)] rfl ?_
  refine AW.mono (Q := awakeQ) ?_ (fun e σ h => by
    obtain ⟨rfl, h⟩ := h
    have h1 : resAll tys σ [ResultVar.tmp 0] = some [dB true] := by simp only [resAll, resOne, ex, h]; rfl
    show resD tys σ (Try.f7).results.toList = _
    unfold resD
    rw [show (Try.f7).results.toList = [ResultVar.tmp 0] from rfl, h1])
  intro a w hR
  obtain ⟨O, hOr, hO⟩ := hR.own
  obtain ⟨x1, t1, r1⟩ := hO 1 _ rfl
  obtain ⟨x2, t2, r2⟩ := hO 2 _ rfl
  obtain ⟨x3, t3, r3⟩ := hO 3 _ rfl
  obtain ⟨x5, t5, r5⟩ := hO 5 _ rfl
  obtain ⟨x4, t4, b4, c4, e4, rfl, hO4, hh4, r4⟩ := hO 4 _ rfl
  have hb4 := hOr b4 4 hO4
  have hb42 : b4 < w.heap.size := hb4.2
  -- the example is made
  refine wp_seq (wp_region_list ?_)
  unfold wpList
  rw [if_pos (by rfl)]
  refine .inl ?_
  unfold Oper.wp
  rw [exec_call crank_call, Array.map_empty]
  show Calls _ _ _ w _
  refine Calls.mono (Crank_raw w) (fun e w' hcr => ?_)
  obtain ⟨v, he, hbel, b, cap, cs, g1, g2, g3, ⟨g4, g4s⟩, g5, g6, g7⟩ := hcr
  subst he
  have hsz : w.heap.size ≤ w'.heap.size := hbel.size
  have hBw : B ≤ w.heap.size := hR.base
  let F1 : Nat → Prop := fun c => Free O (FW B F0 w) c ∨ c = b4 ∨ (c ≠ b ∧ w.heap.size ≤ c ∧ c < w'.heap.size)
  have hF1 : ∀ c, F1 c → c < w'.heap.size ∧ c ≠ b := fun c hc => by
    rcases hc with hc | rfl | hc
    · have := (FW.step hR.f0 hR.base (Nat.le_refl _) c hc.2).1
      exact ⟨by omega, by omega⟩
    · exact ⟨by omega, by omega⟩
    · exact ⟨hc.2.2, hc.1⟩
  have fr : ∀ c, Free O (FW B F0 w) c → Free (fun _ => none) (FW w'.heap.size F1 w') c := fun c hc => ⟨rfl, .inl (.inl hc)⟩
  have old : ∀ c, Free O (FW B F0 w) c → w'.heap[c]? = w.heap[c]? := fun c hc => hbel.block c (FW.step hR.f0 hR.base (Nat.le_refl _) c hc.2).1
  have hR1 : Rel Try.prog w'.heap.size F1 ⟨w', fun _ => False⟩ 52 [(1, .d (dI 1)), (2, .d (dI 1)), (3, .d nilE), (4, .rf [dB q16.g, Wd q16.n, Wd q16.d]), (5, .d nilE), (18, .d (.ag [dS ⟨#[109]⟩, BodiesD crankB, .v (.slice (some ⟨b, 0, none⟩) 1 cap), DriversD crankD]))] (a.put (some 18) v) w' := by
    refine ⟨.refl _ _ _, Nat.le_refl _, ⟨fun c hc => (hF1 c hc).1, fun c hc => hc.elim⟩, by simp [Act.put, hR.defers], by simp [Act.put, hR.size], fun _ => none, (fun c t hc => by cases hc), AllP.get ⟨?_, ?_, ?_, ?_, ?_, ?_, trivial⟩⟩
    · exact ⟨_, (put_get (by decide)).trans t1, Rd.mono r1 fr old⟩
    · exact ⟨_, (put_get (by decide)).trans t2, Rd.mono r2 fr old⟩
    · exact ⟨_, (put_get (by decide)).trans t3, Rd.mono r3 fr old⟩
    · refine ⟨_, (put_get (by decide)).trans t4, b4, 0, c4, e4, (0, 0), rfl, ⟨rfl, .inl (.inr (.inl rfl))⟩, (hbel.block b4 hb42).trans hh4, fun i d hd => ?_⟩
      obtain ⟨k1, u, k2, k3⟩ := r4.get hd
      exact ⟨k1, u, by simpa using k2, Rd.mono k3 fr old⟩
    · exact ⟨_, (put_get (by decide)).trans t5, Rd.mono r5 fr old⟩
    · exact ⟨_, put_get_same (by rw [hR.size]; decide), Rd.mono g7 (fun c hc => ⟨rfl, .inl (.inr (.inr hc))⟩) (fun _ _ => rfl)⟩
  refine AOps.part (σ := [(1, .d (dI 1)), (2, .d (dI 1)), (3, .d nilE), (4, .rf [dB q16.g, Wd q16.n, Wd q16.d]), (5, .d nilE), (18, .d (.ag [dS ⟨#[109]⟩, BodiesD crankB, .v (.slice (some ⟨b, 0, none⟩) 1 cap), DriversD crankD]))]) [1, 2, 3, 4, 5, 6]
    [(1, .d (dI 1)), (2, .d (dI 1)), (3, .d nilE), (4, .rf [dB q16.g, Wd q16.n, Wd q16.d]), (5, .d nilE), (6, .bx [dS ⟨#[109]⟩, BodiesD crankB, .v (.slice (some ⟨b, 0, none⟩) 1 cap), DriversD crankD])] [_, _] [] hR1 ?_ (fun a1 wa hRa => ?_)
  · refine AOps.run tok 2 _ _ _ _ rfl ?_
    exact AOps.nil rfl
  show Code.wp _ (.seq _ _) _ a1 wa
  refine wp_seq (wp_region_list ?_)
  refine AOps.part [1, 2, 3, 4, 5, 6, 20]
    [(1, .d (dI 1)), (2, .d (dI 1)), (3, .d nilE), (4, .rf [dB q16.g, Wd q16.n, Wd q16.d]), (5, .d nilE), (6, .bx [dS ⟨#[109]⟩, BodiesD crankB, .v (.slice (some ⟨b, 0, none⟩) 1 cap), DriversD crankD]), (20, .d (.v (.slice (some ⟨b, 0, none⟩) 1 cap)))] [_, _] [_, _, _] hRa ?_ (fun a2 w2 hR2 => ?_)
  · refine AOps.run tok 2 _ _ _ _ rfl ?_
    exact AOps.nil rfl
  -- the joint's slice becomes one that is written
  have hsz2 : w'.heap.size ≤ w2.heap.size := hR2.below.size
  have hheap2 : w2.heap[b]? = some (.cells cs 51 (0, 0)) := (hR2.below.block b g2 (fun h => h)).trans g5
  obtain ⟨O2, hOr2, hO2⟩ := hR2.own
  obtain ⟨y1, s1, q1'⟩ := hO2 1 _ rfl
  obtain ⟨y2, s2, q2'⟩ := hO2 2 _ rfl
  obtain ⟨y3, s3, q3'⟩ := hO2 3 _ rfl
  obtain ⟨y4, s4, d4, o4, k4, f4, z4, rfl, hF4, hk4, q4'⟩ := hO2 4 _ rfl
  obtain ⟨y5, s5, q5'⟩ := hO2 5 _ rfl
  obtain ⟨y6, s6, b6, c6, e6, rfl, hO6, hh6, q6'⟩ := hO2 6 _ rfl
  obtain ⟨y20, s20, q20⟩ := hO2 20 _ rfl
  have q20 := (Rd.v_eq q20).1
  subst q20
  have hb6 := hOr2 b6 6 hO6
  have hb61 : w'.heap.size ≤ b6 := by
    rcases hb6.1 with h | h
    · exact h
    · exact h.elim
  have hb62 : b6 < w2.heap.size := hb6.2
  have nb : ∀ c, FW w'.heap.size F1 w2 c → c ≠ b ∧ c < w2.heap.size := fun c hc => by
    rcases hc with hc | ⟨h1, h2⟩
    · have := hF1 c hc
      exact ⟨this.2, by omega⟩
    · exact ⟨fun e => by omega, h2⟩
  let F2 : Nat → Prop := fun c => FW w'.heap.size F1 w2 c ∨ c = b
  let O3 : Nat → Option Nat := fun c => if c = b then some 20 else none
  have fr2 : ∀ c, Free O2 (FW w'.heap.size F1 w2) c → Free O3 (FW w2.heap.size F2 w2) c := fun c hc => ⟨by simp only [O3]; rw [if_neg (nb c hc.2).1], .inl (.inl hc.2)⟩
  have hR3 : Rel Try.prog w2.heap.size F2 ⟨w2, fun c => c = b⟩ 52 [(1, .d (dI 1)), (2, .d (dI 1)), (3, .d nilE), (4, .rf [dB q16.g, Wd q16.n, Wd q16.d]), (5, .d nilE), (6, .rf [dS ⟨#[109]⟩, BodiesD crankB, .v (.slice (some ⟨b, 0, none⟩) 1 cap), DriversD crankD]), (20, .wn true 51 [(crankJ 0).D] 0 1)] a2 w2 := by
    refine ⟨.refl _ _ _, Nat.le_refl _, ⟨fun c hc => ?_, fun c hc => .inr hc⟩, hR2.defers, hR2.size, O3, fun c t hc => ?_, AllP.get ⟨?_, ?_, ?_, ?_, ?_, ?_, ?_, trivial⟩⟩
    · rcases hc with hc | rfl
      · exact (nb c hc).2
      · omega
    · simp only [O3] at hc
      split at hc
      · rename_i e; exact ⟨.inr e, by omega⟩
      · cases hc
    · exact ⟨_, s1, Rd.mono q1' fr2 (fun _ _ => rfl)⟩
    · exact ⟨_, s2, Rd.mono q2' fr2 (fun _ _ => rfl)⟩
    · exact ⟨_, s3, Rd.mono q3' fr2 (fun _ _ => rfl)⟩
    · refine ⟨_, s4, d4, o4, k4, f4, z4, rfl, fr2 _ hF4, hk4, fun i d hd => ?_⟩
      obtain ⟨k1, u, k2, k3⟩ := q4' i d hd
      exact ⟨k1, u, k2, Rd.mono k3 fr2 (fun _ _ => rfl)⟩
    · exact ⟨_, s5, Rd.mono q5' fr2 (fun _ _ => rfl)⟩
    · refine ⟨_, s6, b6, 0, c6, e6, (0, 0), rfl, ⟨by simp only [O3]; rw [if_neg (by omega)], .inl (.inl (.inr ⟨hb61, hb62⟩))⟩, hh6, fun i d hd => ?_⟩
      obtain ⟨k1, u, k2, k3⟩ := q6'.get hd
      exact ⟨k1, u, by simpa using k2, Rd.mono k3 fr2 (fun _ _ => rfl)⟩
    · refine ⟨_, s20, .inr ⟨b, 0, cap, cs, fun _ => rfl, rfl, ⟨.inr (by omega), .inr (by omega), by omega⟩, by simp [O3], hheap2, Nat.le_refl _, g3, g4, fun x hx => ?_, fun i d hd => ?_⟩⟩
      · simp only [List.mem_cons, List.mem_nil_iff, or_false] at hx
        subst hx
        kernel_rfl
      · obtain ⟨k1, u, k2, k3⟩ := g6 i d (by simpa [flatAll] using hd)
        refine ⟨k1, u, k2, Rd.mono k3 (fun c hc => ⟨by simp only [O3]; rw [if_neg hc.1], .inl (.inl (.inl (.inr (.inr hc))))⟩) (fun c hc => hR2.below.block c hc.2.2 (fun h => h))⟩
  refine AOps.part (σ := [(1, .d (dI 1)), (2, .d (dI 1)), (3, .d nilE), (4, .rf [dB q16.g, Wd q16.n, Wd q16.d]), (5, .d nilE), (6, .rf [dS ⟨#[109]⟩, BodiesD crankB, .v (.slice (some ⟨b, 0, none⟩) 1 cap), DriversD crankD]), (20, .wn true 51 [(crankJ 0).D] 0 1)]) [1, 2, 3, 4, 5, 6, 20]
    [(1, .d (dI 1)), (2, .d (dI 1)), (3, .d nilE), (4, .rf [dB q16.g, Wd q16.n, Wd q16.d]), (5, .d nilE), (6, .rf [dS ⟨#[109]⟩, BodiesD crankB, .v (.slice (some ⟨b, 0, none⟩) 1 cap), DriversD crankD]), (20, .wn true 51 [(crankJ 1).D] 0 1)] [_, _, _] [] hR3 ?_ (fun a3 w3 hR4 => ?_)
  · refine AOps.idxw tok rfl rfl rfl rfl (Int.le_refl 0) (by decide) ?_
    refine AOps.run tok 1 _ _ _ _ rfl ?_
    refine AOps.storewn tok (crankJ 0).D rfl rfl rfl rfl rfl ?_
    exact AOps.nil rfl
  -- the slice is data again
  show Code.wp _ (.seq _ _) _ a3 w3
  have hsz3 : w2.heap.size ≤ w3.heap.size := hR4.below.size
  obtain ⟨O4, hOr4, hO4'⟩ := hR4.own
  obtain ⟨z1, u1, p1⟩ := hO4' 1 _ rfl
  obtain ⟨z2, u2, p2⟩ := hO4' 2 _ rfl
  obtain ⟨z3, u3, p3⟩ := hO4' 3 _ rfl
  obtain ⟨z4, u4, d4', o4', k4', f4', y4', rfl, hF4', hk4', p4⟩ := hO4' 4 _ rfl
  obtain ⟨z5, u5, p5⟩ := hO4' 5 _ rfl
  obtain ⟨z6, u6, d6, o6, k6, f6, y6', rfl, hF6, hk6, p6⟩ := hO4' 6 _ rfl
  obtain ⟨z20, u20, p20⟩ := hO4' 20 _ rfl
  rcases p20 with ⟨h, _⟩ | ⟨bb, ob, capb, csb, hX, _, _, hOb, hheapb, _, hcb1, hcb2, _, hcellb⟩
  · cases h
  obtain rfl : bb = b := hX rfl
  let F3 : Nat → Prop := FW w2.heap.size F2 w3
  have fr3 : ∀ c, Free O4 (FW w2.heap.size F2 w3) c → Free (fun _ => none) (FW w3.heap.size F3 w3) c := fun c hc => ⟨rfl, .inl hc.2⟩
  have hR5 : Rel Try.prog w3.heap.size F3 ⟨w3, fun _ => False⟩ 52 [(1, .d (dI 1)), (2, .d (dI 1)), (3, .d nilE), (4, .rf [dB q16.g, Wd q16.n, Wd q16.d]), (5, .d nilE), (6, .rf [dS ⟨#[109]⟩, BodiesD crankB, JointsD [crankJ 1], DriversD crankD])] a3 w3 := by
    refine ⟨.refl _ _ _, Nat.le_refl _, ⟨fun c hc => (FW.step hR4.f0 hR4.base (Nat.le_refl _) c hc).1, fun c hc => hc.elim⟩, hR4.defers, hR4.size, fun _ => none, (fun c t hc => by cases hc), AllP.get ⟨?_, ?_, ?_, ?_, ?_, ?_, trivial⟩⟩
    · exact ⟨_, u1, Rd.mono p1 fr3 (fun _ _ => rfl)⟩
    · exact ⟨_, u2, Rd.mono p2 fr3 (fun _ _ => rfl)⟩
    · exact ⟨_, u3, Rd.mono p3 fr3 (fun _ _ => rfl)⟩
    · refine ⟨_, u4, d4', o4', k4', f4', y4', rfl, fr3 _ hF4', hk4', fun i d hd => ?_⟩
      obtain ⟨k1, u, k2, k3⟩ := p4 i d hd
      exact ⟨k1, u, k2, Rd.mono k3 fr3 (fun _ _ => rfl)⟩
    · exact ⟨_, u5, Rd.mono p5 fr3 (fun _ _ => rfl)⟩
    · refine ⟨_, u6, d6, o6, k6, f6, y6', rfl, fr3 _ hF6, hk6, fun i d hd => ?_⟩
      match i, hd with
      | 0, hd => cases hd; obtain ⟨k1, u, k2, k3⟩ := p6 0 _ rfl; exact ⟨rfl, u, k2, Rd.mono k3 fr3 (fun _ _ => rfl)⟩
      | 1, hd => cases hd; obtain ⟨k1, u, k2, k3⟩ := p6 1 _ rfl; exact ⟨rfl, u, k2, Rd.mono k3 fr3 (fun _ _ => rfl)⟩
      | 2, hd =>
        cases hd
        obtain ⟨k1, u, k2, k3⟩ := p6 2 _ rfl
        have hv := (Rd.v_eq k3).1
        subst hv
        refine ⟨rfl, _, k2, Rd.sl_mk (l := [(crankJ 1).D]) (off := 0) (F := Free (fun _ => none) (FW w3.heap.size F3 w3)) ⟨rfl, .inl (.inl (.inr rfl))⟩ hheapb g3 g4 (fun x hx => ?_) (fun i d hd => ?_)⟩
        · simp at hx; subst hx; rfl
        · obtain ⟨m1, u, m2, m3⟩ := hcellb i d hd
          exact ⟨m1, u, by simpa using m2, Rd.mono m3 fr3 (fun _ _ => rfl)⟩
      | 3, hd => cases hd; obtain ⟨k1, u, k2, k3⟩ := p6 3 _ rfl; exact ⟨rfl, u, k2, Rd.mono k3 fr3 (fun _ _ => rfl)⟩
  have hA : ∀ c, AW Try.prog w3.heap.size F3 ⟨w3, fun _ => False⟩ 52 c awakeQ [(1, .d (dI 1)), (2, .d (dI 1)), (3, .d nilE), (4, .rf [dB q16.g, Wd q16.n, Wd q16.d]), (5, .d nilE), (6, .rf [dS ⟨#[109]⟩, BodiesD crankB, JointsD [crankJ 1], DriversD crankD])] →
      c.wp Try.prog (fun e a' w' => ∃ σ', awakeQ e σ' ∧ Rel Try.prog w3.heap.size F3 ⟨w3, fun _ => False⟩ 52 σ' a' w') a3 w3 := fun c h => h a3 w3 hR5
  refine wp_mono (hA _ ?_) fun e a' w4 hq => ?_
  · refine AW.seq ?_
    refine AW.draw hmix 29 (by kernel_rfl) ?_   -- "law.go:32"   -- GUARDS
    refine APre.run tok 1 _ _ _ _ rfl ?_
    refine APre.err tok rfl rfl rfl rfl rfl rfl ?_
    refine APre.run tok 2 _ _ _ _ rfl ?_
    refine APre.err tok rfl rfl rfl rfl rfl rfl ?_   -- guarded
    refine APre.run tok 2 _ _ _ _ rfl ?_
    refine APre.call tok rfl rfl rfl rfl rfl Crank_ok ?_   -- guarded
    refine APre.call tok rfl rfl rfl rfl rfl cC ?_   -- guarded
    refine APre.err tok rfl rfl rfl rfl rfl rfl ?_   -- guarded
    refine APre.run tok 11 _ _ _ _ rfl ?_
    refine APre.call tok rfl rfl rfl rfl rfl cO ?_   -- guarded
    refine APre.call tok rfl rfl rfl rfl rfl cR ?_   -- guarded
    refine APre.run tok 3 _ _ _ _ rfl ?_
    refine APre.call tok rfl rfl rfl rfl rfl cD ?_   -- guarded
    refine APre.call tok rfl rfl rfl rfl rfl cI ?_   -- guarded
    refine APre.run tok 1 _ _ _ _ rfl ?_
    refine APre.nil ?_
    refine AOps.run tok 1 _ _ _ _ rfl ?_
    refine AOps.nil ?_
    exact AW.ret ⟨rfl, rfl⟩
  obtain ⟨σ', ⟨he, h0⟩, hR'⟩ := hq
  refine ⟨[(0, .d (dB true))], ⟨he, rfl⟩, ?_⟩
  have hk := hR'.keep [0]
  rw [show σ'.keep [0] = [(0, .d (dB true))] by simp only [St.keep, h0]] at hk
  have m1 : BelY B w0 w0.w w' := hR.below.trans (.of hbel hR.base)
  have m2 : BelY B w0 w0.w w2 := m1.back (w1 := ⟨w', fun _ => False⟩) (by omega) (fun _ h => h.elim) hR2.below
  have m3 : BelY B w0 w0.w w3 := m2.back (w1 := ⟨w2, fun c => c = bb⟩) (by omega) (fun c hc => .inl (by have hc : c = bb := hc; omega)) hR4.below
  refine Rel.back (w1 := ⟨w3, fun _ => False⟩) m3 hR.f0 (by omega) (fun c hc => ?_) (fun c hc => hc.elim) (AllP.get ⟨rfl, trivial⟩) hk
  rcases hc with (((hc | rfl | hc) | hc) | rfl) | hc
  · rcases hc.2 with h | h
    · exact .inl h
    · exact .inr ⟨h.1, by show _ < w3.heap.size; omega⟩
  · rcases hb4.fw hR.f0 with h | h
    · exact .inl h
    · exact .inr ⟨h.1, by show _ < w3.heap.size; omega⟩
  · exact .inr ⟨by omega, by show _ < w3.heap.size; omega⟩
  · exact .inr ⟨by omega, by show _ < w3.heap.size; omega⟩
  · exact .inr ⟨by omega, by show _ < w3.heap.size; omega⟩
  · exact .inr ⟨by omega, hc.2⟩
end Lift
/- The model's reading, more: bodies by name, joints and driver of a body; lists of numbers compared. -/
namespace Lift
open Go Go.Proofs

abbrev IsD (l : List Int) : D := .sl 1 (l.map (fun n => dI n))
def bdI (bs : List Body) (name : ByteArray) (i : Nat) : Option Unit := if (bs.getD i default).nm = name then some () else none
def bodyV (bs : List Body) (name : ByteArray) : Nat × Nat := match fO (bdI bs name) bs.length 0 with
  | some (i, _) => (i, 0)
  | none => (0, 5)
def drI (ds : List Driver) (b : Int) (i : Nat) : Option Unit := if (ds.getD i default).body = b then some () else none
def drvV (ds : List Driver) (b : Int) : Int := match fO (drI ds b) ds.length 0 with
  | some (i, _) => i
  | none => -1
def jtP (js : List Joint) (b : Int) (i : Nat) : Bool := decide ((js.getD i default).a = b) || decide ((js.getD i default).b = b)
def jtsP (js : List Joint) (b : Int) (i : Nat) : List Int := ((List.range i).filter (jtP js b)).map (fun i : Nat => (i : Int))
def jtsV (js : List Joint) (b : Int) : List Int := jtsP js b js.length
theorem jtsP_succ (js : List Joint) (b : Int) (i : Nat) : jtsP js b (i + 1) = jtsP js b i ++ (if jtP js b i = true then [(i : Int)] else []) := by
  unfold jtsP
  rw [List.range_succ, List.filter_append, List.map_append, List.filter_cons]
  split <;> rfl
theorem jtsP_len (js : List Joint) (b : Int) (i : Nat) : (jtsP js b i).length ≤ i := by
  unfold jtsP
  rw [List.length_map]
  have := List.length_filter_le (jtP js b) (List.range i)
  rw [List.length_range] at this
  exact this
theorem jtsP_hit {js : List Joint} {b : Int} {i : Nat} (h : jtP js b i = true) : (jtsP js b i).map (fun n => dI n) ++ [dI i] = (jtsP js b (i + 1)).map (fun n => dI n) := by
  rw [jtsP_succ, if_pos h, List.map_append]; rfl
theorem jtsP_miss {js : List Joint} {b : Int} {i : Nat} (h : ¬ jtP js b i = true) : jtsP js b (i + 1) = jtsP js b i := by
  rw [jtsP_succ, if_neg h, List.append_nil]
theorem getI {l : List Int} {i : Nat} (h : i < l.length) : (l.map (fun n => dI n))[((i : Int)).toNat]? = some (dI (l.getD i 0)) := by
  simp [h]
theorem ext_getI {a b : List Int} (hl : a.length = b.length) (h : ∀ k, k < a.length → a.getD k 0 = b.getD k 0) : a = b := by
  refine List.ext_getElem hl (fun k h1 h2 => ?_)
  have := h k h1
  simpa [h1, h2] using this
/-- What follows where nothing is wrong. -/
theorem chk_all {l : Lkg} (h : chk l = 0) : nameB l.nm = true ∧ l.bodies ≠ [] ∧ l.bodies.length ≤ 8 ∧ bodiesE l.bodies = 0 ∧ jointsE l.bodies l.joints = 0 ∧ driversE l.bodies.length l.drivers = 0 := by
  unfold chk at h
  split at h
  · cases h
  rename_i h1
  split at h
  · cases h
  rename_i h2
  split at h
  · cases h
  rename_i h3
  split at h
  · omega
  rename_i h4
  split at h
  · omega
  rename_i h5
  exact ⟨by simpa using h1, h2, by omega, by omega, by omega, h⟩
theorem chk_js {l : Lkg} (h : chk l = 0) : l.joints.length ≤ 16 := by
  obtain ⟨_, _, _, _, h5, _⟩ := chk_all h
  unfold jointsE at h5
  split at h5
  · cases h5
  · omega
theorem chk_ds {l : Lkg} (h : chk l = 0) : l.drivers.length ≤ 2 := by
  obtain ⟨_, _, _, _, _, h6⟩ := chk_all h
  unfold driversE at h6
  split at h6
  · cases h6
  · omega
def modelBodyD (l : Lkg) (name : ByteArray) : D := if chk l = 0 then .tu [dI (bodyV l.bodies name).1, erV (bodyV l.bodies name).2] else .tu [dI 0, erV (chk l)]
def modelDriverD (l : Lkg) (b : Int) : D := if chk l = 0 then (if inB b l.bodies.length = true then .tu [dI (drvV l.drivers b), nilE] else .tu [dI 0, er 9]) else .tu [dI 0, erV (chk l)]
def modelJointsD (l : Lkg) (b : Int) : D := if chk l = 0 then (if inB b l.bodies.length = true then .tu [IsD (jtsV l.joints b), nilE] else .tu [IsD [], er 9]) else .tu [IsD [], erV (chk l)]

set_option maxHeartbeats 800000 in
theorem model_Body_ok (l : Lkg) (name : ByteArray) {K : Nat} (hl : l.ok K) (hK : K ≤ 20000000) : Pure Try.prog 15 [l.D, dS name] (modelBodyD l name) := by
  refine Pure.intro (n := 29) tok Try.func15 rfl rfl rfl (Nat.le_of_ble_eq_true rfl) (by kernel_rfl) (fun B F0 w0 => ?_)
  have c := model_Check_ok l hl hK
  obtain ⟨ln, bs, js, ds⟩ := l
  have hn := hl.nb
  simp only [] at hn
  unfold big at hn
  unfold modelBodyD
  generalize chk ⟨ln, bs, js, ds⟩ = E at *
  show AW _ _ _ _ _ _ _ (initSt 0 [D.ag [dS ln, BodiesD bs, JointsD js, DriversD ds], dS name])
  refine AW.seq ?_
  refine AW.region ?_   -- "model.go:146"
  refine AOps.run tok 3 _ _ _ _ rfl ?_
  refine AOps.nil ?_
  refine AW.seq ?_
  refine AW.seq ?_
  refine AW.region ?_   -- "model.go:147"
  refine AOps.run tok 1 _ _ _ _ rfl ?_
  refine AOps.call tok rfl rfl rfl rfl c ?_
  refine AOps.run tok 1 _ _ _ _ rfl ?_
  refine AOps.nil ?_
  refine AW.seq ?_
  refine AW.region ?_   -- "model.go:147"
  refine AOps.run tok 1 _ _ _ _ rfl ?_
  rcases E with _ | m
  rotate_left
  · refine AOps.err tok rfl rfl rfl rfl rfl ?_
    refine AOps.nil ?_
    refine AW.condT rfl ?_
    refine AW.seq ?_
    refine AW.region ?_
    refine AOps.run tok 3 _ _ _ _ rfl ?_
    refine AOps.nil ?_
    rw [if_neg (Nat.succ_ne_zero m)]
    exact AW.ret rfl
  refine AOps.err tok rfl rfl rfl rfl rfl ?_
  refine AOps.nil ?_
  refine AW.condF rfl ?_
  · rw [if_pos rfl]
    refine AW.skip ?_
    refine AW.seq ?_
    refine AW.seq ?_
    refine AW.region ?_   -- "model.go:150"
    refine AOps.run tok 4 _ _ _ _ rfl ?_
    rw [List.length_map]
    refine AOps.nil ?_
    refine AW.block ?_   -- block 0
    refine AW.loopS [1, 15, 16, 17] (fun i : Nat => [(1, .d (dS name)), (15, .d (BodiesD bs)), (16, .d (dI bs.length)), (17, .d (dI i))])
      (fun i => i ≤ bs.length ∧ fO (bdI bs name) bs.length 0 = fO (bdI bs name) (bs.length - i) i) (fun i => bs.length - i) 0 rfl ⟨Nat.zero_le _, rfl⟩ (fun i ⟨hi, hE⟩ => ?_)
    · skip
      refine AW.seq ?_
      refine AW.region ?_   -- "model.go:150"
      refine AOps.run tok 1 _ _ _ _ rfl ?_
      refine AOps.nil ?_
      refine AW.seq ?_
      refine AW.cond rfl (fun h => ?_) (fun h => ?_)
      · have hin : i < bs.length := by have := of_decide_eq_true h; omega
        obtain ⟨b, hbe⟩ : ∃ b, b = bs.getD i default := ⟨_, rfl⟩
        have hpt : bdI bs name i = if b.nm = name then some () else none := by rw [hbe]; rfl
        refine AW.skip ?_
        refine AW.seq ?_
        refine AW.block ?_   -- block 1
        refine AW.seq ?_
        refine AW.region ?_   -- "model.go:150"
        refine AOps.run tok 1 _ _ _ _ rfl ?_
        refine AOps.idx tok b.D rfl rfl rfl rfl (Int.natCast_nonneg i) (by rw [hbe]; exact getM Body.D hin) ?_
        refine AOps.run tok 4 _ _ _ _ rfl ?_
        refine AOps.nil ?_
        refine AW.seq ?_
        refine AW.region ?_   -- "model.go:151"
        refine AOps.run tok 4 _ _ _ _ rfl ?_
        rw [str_eq]
        refine AOps.nil ?_
        refine AW.cond rfl (fun h => ?_) (fun h => ?_)
        · have h1 : b.nm = name := of_decide_eq_true h
          rw [if_pos h1] at hpt
          rw [show bodyV bs name = (i, 0) by unfold bodyV; rw [hE.trans (fO_hit hin hpt)]]
          refine AW.seq ?_
          refine AW.region ?_   -- "model.go:152"
          refine AOps.run tok 3 _ _ _ _ rfl ?_
          refine AOps.nil ?_
          exact AW.ret rfl
        · have h1 : ¬ b.nm = name := of_decide_eq_false h
          rw [if_neg h1] at hpt
          refine AW.skip ?_
          refine AW.region ?_   -- "model.go:150"
          refine AOps.run tok 2 _ _ _ _ rfl ?_
          rw [wI64 (x := (i : Int) + 1) (by omega) (by omega)]
          refine AOps.nil ?_
          exact ⟨i + 1, rfl, ⟨hin, hE.trans (fO_miss hin hpt)⟩, by omega⟩
      · have hin : ¬ i < bs.length := by have := of_decide_eq_false h; omega
        rw [show bodyV bs name = (0, 5) by unfold bodyV; rw [hE.trans (fO_end hin)]]
        refine AW.exit ?_
        refine AW.seq ?_
        refine AW.region ?_
        refine AOps.run tok 3 _ _ _ _ rfl ?_
        refine AOps.nil ?_
        exact AW.ret rfl

set_option maxHeartbeats 800000 in
theorem model_Joints_ok (l : Lkg) (b : Int) {K : Nat} (hl : l.ok K) (hK : K ≤ 20000000) : Pure Try.prog 17 [l.D, dI b] (modelJointsD l b) := by
  refine Pure.intro (n := 46) tok Try.func17 rfl rfl rfl (Nat.le_of_ble_eq_true rfl) (by kernel_rfl) (fun B F0 w0 => ?_)
  have c := model_Check_ok l hl hK
  obtain ⟨ln, bs, js, ds⟩ := l
  have hn := hl.nj
  simp only [] at hn
  unfold big at hn
  unfold modelJointsD
  have h16 := @chk_js ⟨ln, bs, js, ds⟩
  simp only [] at h16
  generalize chk ⟨ln, bs, js, ds⟩ = E at *
  show AW _ _ _ _ _ _ _ (initSt 0 [D.ag [dS ln, BodiesD bs, JointsD js, DriversD ds], dI b])
  refine AW.seq ?_
  refine AW.region ?_   -- "model.go:191"
  refine AOps.run tok 3 _ _ _ _ rfl ?_
  refine AOps.nil ?_
  refine AW.seq ?_
  refine AW.seq ?_
  refine AW.region ?_   -- "model.go:192"
  refine AOps.run tok 1 _ _ _ _ rfl ?_
  refine AOps.call tok rfl rfl rfl rfl c ?_
  refine AOps.run tok 1 _ _ _ _ rfl ?_
  refine AOps.nil ?_
  refine AW.seq ?_
  refine AW.region ?_   -- "model.go:192"
  refine AOps.run tok 1 _ _ _ _ rfl ?_
  rcases E with _ | m
  rotate_left
  · refine AOps.err tok rfl rfl rfl rfl rfl ?_
    refine AOps.nil ?_
    refine AW.condT rfl ?_
    refine AW.seq ?_
    refine AW.region ?_
    refine AOps.run tok 3 _ _ _ _ rfl ?_
    refine AOps.nil ?_
    rw [if_neg (Nat.succ_ne_zero m)]
    exact AW.ret rfl
  refine AOps.err tok rfl rfl rfl rfl rfl ?_
  refine AOps.nil ?_
  refine AW.condF rfl ?_
  · rw [if_pos rfl]
    have h16 := h16 rfl
    refine AW.skip ?_
    refine AW.seq ?_
    refine AW.seq ?_
    refine AW.region ?_   -- "model.go:195"
    refine AOps.run tok 4 _ _ _ _ rfl ?_
    rw [List.length_map]
    refine AOps.call tok rfl rfl rfl rfl (model_in_ok b bs.length) ?_
    refine AOps.run tok 1 _ _ _ _ rfl ?_
    refine AOps.nil ?_
    refine AW.cond rfl (fun h => ?_) (fun h => ?_)
    · rw [if_neg (by rw [not_t h]; decide)]
      refine AW.seq ?_
      refine AW.region ?_   -- "model.go:196"
      refine AOps.run tok 3 _ _ _ _ rfl ?_
      refine AOps.nil ?_
      exact AW.ret rfl
    · rw [if_pos (by simpa using h)]
      refine AW.skip ?_
      refine AW.seq ?_
      refine AW.region ?_   -- "model.go:198"
      refine AOps.run tok 1 _ _ _ _ rfl ?_
      refine AOps.nil ?_
      refine AW.seq ?_
      refine AW.seq ?_
      refine AW.region ?_   -- "model.go:199"
      refine AOps.run tok 4 _ _ _ _ rfl ?_
      rw [List.length_map]
      refine AOps.nil ?_
      refine AW.block ?_   -- block 0
      refine AW.loopS [1, 7, 23, 24, 25] (fun i : Nat => [(1, .d (dI b)), (7, .ow 3 ((jtsP js b i).map (fun n => dI n))), (23, .d (JointsD js)), (24, .d (dI js.length)), (25, .d (dI i))])
        (fun i => i ≤ js.length) (fun i => js.length - i) 0 rfl (Nat.zero_le _) (fun i hi => ?_)
      · skip
        refine AW.seq ?_
        refine AW.region ?_   -- "model.go:199"
        refine AOps.run tok 1 _ _ _ _ rfl ?_
        refine AOps.nil ?_
        refine AW.seq ?_
        refine AW.cond rfl (fun h => ?_) (fun h => ?_)
        · have hin : i < js.length := by have := of_decide_eq_true h; omega
          have hpl := jtsP_len js b i
          obtain ⟨j, hje⟩ : ∃ j, j = js.getD i default := ⟨_, rfl⟩
          have hpt : jtP js b i = (decide (j.a = b) || decide (j.b = b)) := by rw [hje]; rfl
          refine AW.skip ?_
          refine AW.seq ?_
          refine AW.block ?_   -- block 1
          refine AW.seq ?_
          refine AW.region ?_   -- "model.go:199"
          refine AOps.run tok 1 _ _ _ _ rfl ?_
          refine AOps.idx tok j.D rfl rfl rfl rfl (Int.natCast_nonneg i) (by rw [hje]; exact getM Joint.D hin) ?_
          refine AOps.run tok 4 _ _ _ _ rfl ?_
          refine AOps.nil ?_
          refine AW.cut [1, 7, 8, 23, 24, 25, 39] (fun _ : Unit => [(1, .d (dI b)), (7, .ow 3 ((jtsP js b i).map (fun n => dI n))), (8, .d (dI i)), (23, .d (JointsD js)), (24, .d (dI js.length)), (25, .d (dI i)), (39, .d (dB (jtP js b i)))]) (fun _ => True) ?_ (fun _ _ => ?_)
          · refine AW.region ?_
            refine AOps.run tok 5 _ _ _ _ rfl ?_
            refine AOps.split (t := 34) rfl (fun h => ?_) (fun h => ?_)
            · refine AOps.run tok 5 _ _ _ _ rfl ?_
              refine AOps.nil ?_
              exact ⟨(), by rw [hpt, show decide (j.a = b) = true by simpa using h]; rfl, trivial⟩
            · refine AOps.run tok 5 _ _ _ _ rfl ?_
              refine AOps.nil ?_
              exact ⟨(), by rw [hpt, show decide (j.a = b) = false by simpa using h]; rfl, trivial⟩
          refine AW.cond rfl (fun h => ?_) (fun h => ?_)
          · skip
            refine AW.region ?_   -- "model.go:201"
            refine AOps.run tok 2 _ _ _ _ rfl ?_
            refine AOps.bs tok rfl rfl rfl rfl ?_
            refine AOps.appo tok rfl rfl rfl rfl rfl rfl (by show ((((jtsP js b i).map (fun n => dI n))).length + 1) * 8 ≤ _; rw [List.length_map]; omega) (by show ((jtsP js b i).map (fun n => dI n)).length + 1 ≤ _; rw [List.length_map]; omega) ?_
            refine AOps.run tok 1 _ _ _ _ rfl ?_
            refine AOps.nil ?_
            refine AW.region ?_   -- "model.go:199"
            refine AOps.run tok 2 _ _ _ _ rfl ?_
            rw [wI64 (x := (i : Int) + 1) (by omega) (by omega)]
            refine AOps.nil ?_
            exact ⟨i + 1, by rw [← jtsP_hit h]; rfl, hin, by omega⟩
          · skip
            refine AW.skip ?_
            refine AW.region ?_   -- "model.go:199"
            refine AOps.run tok 2 _ _ _ _ rfl ?_
            rw [wI64 (x := (i : Int) + 1) (by omega) (by omega)]
            refine AOps.nil ?_
            exact ⟨i + 1, by rw [jtsP_miss (by rw [h]; decide)]; rfl, hin, by omega⟩
        · have hin : i = js.length := by have := of_decide_eq_false h; omega
          subst hin
          refine AW.exit ?_
          refine AW.seq ?_
          refine AW.region ?_
          refine AOps.frz tok 7 rfl rfl ?_
          refine AOps.run tok 3 _ _ _ _ rfl ?_
          refine AOps.nil ?_
          exact AW.ret rfl

end Lift
/- Rows of the call's own that no slot is the home of: they are known by their value. -/
namespace Lift
open Go
open Go.RowKit (Below)

abbrev LR := Value × AV
section
variable {P : Program} {T : Ty} {B : Nat} {F0 : Nat → Prop} {w0 : Bas} {n : Nat} {σ σ' : St} {R R' : List LR} {a : Act} {w : World}

def LooseAt (P : Program) (w : World) (O : Nat → Option Nat) (F : Nat → Prop) (t : Nat) (r : LR) : Prop :=
  r.2 = .junk ∨ r.2.row.isSome = true ∧ r.2.tag = false ∧ AVR P (fun _ => False) w O F (fun _ => none) (fun _ => none) t r.2 r.1

structure RelZ (P : Program) (B : Nat) (F0 : Nat → Prop) (w0 : Bas) (n : Nat) (R : List LR) (σ : St) (a : Act) (w : World) : Prop where
  below : BelY B w0 w0.w w
  base : B ≤ w.heap.size
  f0 : F0ok B F0 w0
  defers : a.defers = []
  size : a.tmps.size = n
  own : ∃ O : Nat → Option Nat, (∀ b t, O b = some t → OwnR B w0 w b) ∧ (∀ t av, σ.get t = some av → ∃ v, a.tmps[t]? = some v ∧ AVR P w0.X w O (FW B F0 w) σ.get (fun h => a.tmps[h]?) t av v) ∧
    ∀ i r, R[i]? = some r → LooseAt P w O (FW B F0 w) (n + i) r

theorem RelZ.rel (h : RelZ P B F0 w0 n R σ a w) : Rel P B F0 w0 n σ a w := by
  obtain ⟨O, h1, h2, _⟩ := h.own
  exact ⟨h.below, h.base, h.f0, h.defers, h.size, O, h1, h2⟩
theorem Rel.z (h : Rel P B F0 w0 n σ a w) : RelZ P B F0 w0 n [] σ a w := by
  obtain ⟨O, h1, h2⟩ := h.own
  exact ⟨h.below, h.base, h.f0, h.defers, h.size, O, h1, h2, fun i r hr => by simp at hr⟩

theorem AVR.reX {X X' : Nat → Prop} {O : Nat → Option Nat} {F : Nat → Prop} {hm : Nat → Option AV} {tm : Nat → Option Value} {t : Nat} {av : AV} {v : Value} (h : AVR P X w O F hm tm t av v)
    (hx : av.tag = true → ∀ b, O b = some t → X' b) : AVR P X' w O F hm tm t av v := by
  cases av with
  | wn q e l lo m =>
    rcases h with h | ⟨b, o, cap, cs, hq, h1, h0, h2, h3⟩
    · exact .inl h
    · exact .inr ⟨b, o, cap, cs, fun e => hx e b h2, h1, h0, h2, h3⟩
  | _ => exact h
/-- A row's owner gets another number. -/
theorem AVR.owner {X X' : Nat → Prop} {O O' : Nat → Option Nat} {F F' : Nat → Prop} {hm hm' : Nat → Option AV} {tm tm' : Nat → Option Value} {s t : Nat} {av : AV} {v : Value} (h : AVR P X w O F hm tm s av v) (hrow : av.row.isSome = true) (htag : av.tag = false)
    (hO : ∀ c, O c = some s → O' c = some t) (hF : ∀ c, Free O F c → Free O' F' c) : AVR P X' w O' F' hm' tm' t av v := by
  cases av <;> simp [AV.row] at hrow
  · rcases h with h | ⟨b, cap, cs, h1, h2, h3, h4, h5, h6, h7, h8⟩
    · exact .inl h
    · exact .inr ⟨b, cap, cs, h1, hO b h2, h3, h4, h5, h6, h7, fun i d hd => ⟨(h8 i d hd).1, let ⟨u, hu, hr⟩ := (h8 i d hd).2; ⟨u, hu, hr.mono hF (fun _ _ => rfl)⟩⟩⟩
  · simp only [AV.tag] at htag
    subst htag
    rcases h with h | ⟨b, o, cap, cs, _, h1, h0, h2, h3, h4, h5, h6, h7, h8⟩
    · exact .inl h
    · exact .inr ⟨b, o, cap, cs, (fun e => by cases e), h1, h0, hO b h2, h3, h4, h5, h6, h7, fun i d hd => ⟨(h8 i d hd).1, let ⟨u, hu, hr⟩ := (h8 i d hd).2; ⟨u, hu, hr.mono hF (fun _ _ => rfl)⟩⟩⟩

/-- No slot holds a row that the call was handed. -/
def St.noTag : St → Bool
  | [] => true
  | (_, a) :: r => match a.tag with
    | true => false
    | false => St.noTag r
theorem St.noTag_get : ∀ {σ : St}, σ.noTag = true → ∀ (t : Nat) (av : AV), σ.get t = some av → av.tag = false
  | [], _, t, av, h => by cases h
  | (k, a) :: r, hn, t, av, h => by
    rw [St.get_cons] at h
    simp only [St.noTag] at hn
    split at hn
    · cases hn
    · rename_i ha
      split at h
      · cases h; exact ha
      · exact St.noTag_get hn t av h

/-- The loose rows out of sight: a new base; and back. -/
theorem RelZ.sub (hR : RelZ P B F0 w0 n R σ a w) : ∃ B1 F1 w1, Rel P B1 F1 w1 n σ a w ∧ ∀ σ' a' w', σ'.noTag = true → Rel P B1 F1 w1 n σ' a' w' → RelZ P B F0 w0 n R σ' a' w' := by
  obtain ⟨O, hOr, hO, hL⟩ := hR.own
  let X1 : Nat → Prop := fun b => ∃ t, t < n ∧ O b = some t
  let F1 : Nat → Prop := fun b => FW B F0 w b ∧ ∀ t, O b = some t → t < n
  let O1 : Nat → Option Nat := fun b => match O b with
    | some t => if t < n then some t else none
    | none => none
  have hO1 : ∀ b t, O1 b = some t ↔ O b = some t ∧ t < n := fun b t => by
    simp only [O1]
    split
    · rename_i t' ht'
      rw [ht']
      split
      · rename_i hlt
        constructor
        · intro h; cases h; exact ⟨rfl, hlt⟩
        · intro h; exact h.1
      · rename_i hlt
        constructor
        · intro h; cases h
        · intro h; obtain ⟨h, h'⟩ := h; cases h; exact absurd h' hlt
    · rename_i ht'; rw [ht']; simp
  have hO1z : ∀ b, O b = none → O1 b = none := fun b hb => by simp only [O1, hb]
  have hlt : ∀ t av, σ.get t = some av → t < n := fun t av h => by
    obtain ⟨v, hv, _⟩ := hO t av h
    rw [← hR.size]
    exact (Array.getElem?_eq_some_iff.1 hv).1
  have hFlt : ∀ b, FW B F0 w b → b < w.heap.size := fun b hb => (FW.step hR.f0 hR.base (Nat.le_refl _) b hb).1
  have hFree : ∀ c, Free O (FW B F0 w) c → Free O1 (FW w.heap.size F1 w) c := fun c hc => ⟨hO1z c hc.1, .inl ⟨hc.2, fun t ht => by rw [hc.1] at ht; cases ht⟩⟩
  refine ⟨w.heap.size, F1, ⟨w, X1⟩, ⟨.refl _ _ _, Nat.le_refl _, ⟨fun b hb => hFlt b hb.1, fun b hb => ?_⟩, hR.defers, hR.size, O1, fun b t hb => ?_, fun t av hav => ?_⟩, ?_⟩
  · obtain ⟨t, h1, h2⟩ := hb
    exact ⟨(hOr b t h2).fw hR.f0, fun t' h' => by rw [h2] at h'; cases h'; exact h1⟩
  · have := (hO1 b t).1 hb
    exact ⟨.inr ⟨t, this.2, this.1⟩, (hOr b t this.1).2⟩
  · obtain ⟨v, hv, hr⟩ := hO t av hav
    refine ⟨v, hv, AVR.reX (hr.move (fun c hc => ⟨hFree c hc, rfl⟩) (fun _ c hc => ⟨(hO1 c t).2 ⟨hc, hlt t av hav⟩, rfl⟩) (fun k _ x _ hk => ⟨hk, rfl⟩)) (fun _ b hb => ?_)⟩
    have := (hO1 b t).1 hb
    exact ⟨t, this.2, this.1⟩
  · intro σ' a' w' htag h2
    have htag := St.noTag_get htag
    obtain ⟨O2, hOr2, hO2⟩ := h2.own
    have hsz : w.heap.size ≤ w'.heap.size := h2.below.size
    have hX1 : ∀ b, X1 b → B ≤ b ∨ w0.X b := fun b ⟨t, _, h⟩ => (hOr b t h).1
    have k1 : ∀ b t t', O2 b = some t → O b = some t' → t' < n := fun b t t' h h' => by
      rcases (hOr2 b t h).1 with g | ⟨t2, g1, g2⟩
      · have g : w.heap.size ≤ b := g
        have h1 : b < w.heap.size := (hOr b t' h').2
        omega
      · rw [h'] at g2; cases g2; exact g1
    let O3 : Nat → Option Nat := fun b => match O b with
      | some t => if t < n then O2 b else some t
      | none => O2 b
    have k2 : ∀ b t, O2 b = some t → O3 b = some t := fun b t h => by
      simp only [O3]
      split
      · rename_i t' ht'
        rw [if_pos (k1 b t t' h ht')]; exact h
      · exact h
    have k3 : ∀ c, Free O2 (FW w.heap.size F1 w') c → Free O3 (FW B F0 w') c := fun c hc => by
      rcases hc.2 with g | ⟨g1, g2⟩
      · refine ⟨?_, ?_⟩
        · simp only [O3]
          split
          · rename_i t' ht'
            rw [if_pos (g.2 t' ht')]; exact hc.1
          · exact hc.1
        · rcases g.1 with g | ⟨g1, g2⟩
          · exact .inl g
          · exact .inr ⟨g1, Nat.lt_of_lt_of_le g2 hsz⟩
      · refine ⟨?_, .inr ⟨Nat.le_trans hR.base g1, g2⟩⟩
        simp only [O3]
        split
        · rename_i t' ht'
          have : c < w.heap.size := (hOr c t' ht').2
          omega
        · exact hc.1
    refine ⟨hR.below.back hR.base hX1 h2.below, Nat.le_trans hR.base hsz, hR.f0, h2.defers, h2.size, O3, fun b t hb => ?_, fun t av hav => ?_, fun i r hr => ?_⟩
    · simp only [O3] at hb
      have e2 : O2 b = some t → OwnR B w0 w' b := fun h => by
        refine ⟨?_, (hOr2 b t h).2⟩
        rcases (hOr2 b t h).1 with g | g
        · exact .inl (Nat.le_trans hR.base g)
        · exact hX1 b g
      split at hb
      · rename_i t' ht'
        split at hb
        · exact e2 hb
        · exact ⟨(hOr b t' ht').1, Nat.lt_of_lt_of_le (hOr b t' ht').2 hsz⟩
      · exact e2 hb
    · obtain ⟨v, hv, hr⟩ := hO2 t av hav
      refine ⟨v, hv, AVR.reX (hr.move (fun c hc => ⟨k3 c hc, rfl⟩) (fun _ c hc => ⟨k2 c t hc, rfl⟩) (fun k _ x _ hk => ⟨hk, rfl⟩)) (fun e => ?_)⟩
      rw [htag t av hav] at e; cases e
    · rcases hL i r hr with h | ⟨h1, h2', h3⟩
      · exact .inl h
      refine .inr ⟨h1, h2', h3.move (fun c hc => ?_) (fun _ c hc => ?_) (fun k _ x _ hk => by cases hk)⟩
      · have hc' := hFlt c hc.2
        have hnx : ¬ X1 c := fun ⟨t, _, h⟩ => by rw [hc.1] at h; cases h
        refine ⟨⟨?_, ?_⟩, h2.below.block c hc' hnx⟩
        · simp only [O3, hc.1]
          cases h : O2 c with
          | none => rfl
          | some t =>
            exfalso
            rcases (hOr2 c t h).1 with g | g
            · have g : w.heap.size ≤ c := g
              omega
            · exact hnx g
        · rcases hc.2 with g | ⟨g1, g2⟩
          · exact .inl g
          · exact .inr ⟨g1, Nat.lt_of_lt_of_le g2 hsz⟩
      · have hnx : ¬ X1 c := fun ⟨t, h, h'⟩ => by rw [hc] at h'; cases h'; omega
        refine ⟨?_, h2.below.block c (hOr c _ hc).2 hnx⟩
        simp only [O3, hc]
        rw [if_neg (by omega)]

theorem set_other {R : List LR} {i j : Nat} {x r : LR} (hj : j ≠ i) (h : (R.set i x)[j]? = some r) : R[j]? = some r := by
  rw [List.getElem?_set_ne (Ne.symm hj)] at h; exact h

/-- Slot s takes the place of slot s' as an owner's number; what the other slots hold. -/
theorem AVR.swap {X : Nat → Prop} {O : Nat → Option Nat} {F : Nat → Prop} {u t : Nat} {tm : Nat → Option Value} {x : AV} {v : Value} {av : AV} {k : Nat} (hk : k ≠ t) (hku : k ≠ u) (h : AVR P X w O F σ.get tm k x v) (ha : av.home = true → True) :
    AVR P X w (swO O u t) F (St.get ((t, av) :: σ.kill t)) tm k (x.kill t) v := by
  rcases AV.kill_or t x with ⟨h1, h2⟩ | h1
  · rw [h1]
    refine h.move (fun c hc => ⟨⟨swO_none.2 hc.1, hc.2⟩, rfl⟩) (fun _ c hc => ⟨swO_other hc hku hk, rfl⟩) (fun j hj y hy hg => ?_)
    have hjt : j ≠ t := fun e => h2 (e ▸ hj)
    rw [St.get_cons, if_neg (Ne.symm hjt), St.get_kill] at hg
    cases hgj : σ.get j with
    | none => simp [hgj] at hg
    | some y' =>
      simp only [hgj, Option.map_some, Option.some.injEq] at hg
      subst hg
      rw [kill_home' hy]
      exact ⟨rfl, rfl⟩
  · rw [h1]; trivial

/-- A slot that holds a loose row's value becomes its home. -/
theorem RelZ.adopt {t i : Nat} {V : Value} {av : AV} (hR : RelZ P B F0 w0 n R σ a w) (hi : R[i]? = some (V, av)) (hrow : av.row.isSome = true) (ht : σ.get t = some (.d (.v V))) :
    RelZ P B F0 w0 n (R.set i (V, .junk)) ((t, av) :: σ.kill t) a w := by
  obtain ⟨O, hOr, hO, hL⟩ := hR.own
  obtain ⟨v, hv, hr⟩ := hO t _ ht
  have hvV := (Rd.v_eq hr).1
  subst hvV
  have htn : t < n := by rw [← hR.size]; exact (Array.getElem?_eq_some_iff.1 hv).1
  refine ⟨hR.below, hR.base, hR.f0, hR.defers, hR.size, swO O (n + i) t, swO_lt hOr, fun k x hk => ?_, fun j r hr' => ?_⟩
  · rw [St.get_cons] at hk
    split at hk
    · rename_i e
      subst e
      cases hk
      rcases hL i _ hi with h | ⟨h1, h2, h3⟩
      · simp only at h; subst h; cases hrow
      exact ⟨v, hv, h3.owner h1 h2 (fun c hc => by simp [swO, hc]) (fun c hc => ⟨swO_none.2 hc.1, hc.2⟩)⟩
    · rename_i hkt
      rw [St.get_kill] at hk
      cases hg : σ.get k with
      | none => simp [hg] at hk
      | some y =>
        simp only [hg, Option.map_some, Option.some.injEq] at hk
        subst hk
        obtain ⟨z, hz, hzr⟩ := hO k y hg
        have hkn : k < n := by rw [← hR.size]; exact (Array.getElem?_eq_some_iff.1 hz).1
        exact ⟨z, hz, hzr.swap (Ne.symm hkt) (by omega) (fun _ => trivial)⟩
  · by_cases hj : j = i
    · subst hj
      have hlt : j < R.length := (List.getElem?_eq_some_iff.1 hi).1
      rw [List.getElem?_set_self hlt] at hr'
      cases hr'
      exact .inl rfl
    · have := set_other hj hr'
      rcases hL j r this with h | ⟨h1, h2, h3⟩
      · exact .inl h
      · exact .inr ⟨h1, h2, h3.move (fun c hc => ⟨⟨swO_none.2 hc.1, hc.2⟩, rfl⟩) (fun _ c hc => ⟨swO_other hc (by omega) (by omega), rfl⟩) (fun k _ x _ hk => by cases hk)⟩

/-- A home's row is let loose; the slot keeps its value. -/
theorem RelZ.loosen {t i : Nat} {V : Value} {av : AV} (hR : RelZ P B F0 w0 n R σ a w) (ht : σ.get t = some av) (hrow : av.row.isSome = true) (htag : av.tag = false) (hV : a.tmps[t]? = some V)
    (hi : R'[i]? = some (V, av)) (hj : ∀ j r, j ≠ i → R'[j]? = some r → R[j]? = some r) : RelZ P B F0 w0 n R' ((t, .d (.v V)) :: σ.kill t) a w := by
  obtain ⟨O, hOr, hO, hL⟩ := hR.own
  obtain ⟨v, hv, hr⟩ := hO t _ ht
  rw [hV] at hv
  cases hv
  have htn : t < n := by rw [← hR.size]; exact (Array.getElem?_eq_some_iff.1 hV).1
  refine ⟨hR.below, hR.base, hR.f0, hR.defers, hR.size, swO O (n + i) t, swO_lt hOr, fun k x hk => ?_, fun j r hr' => ?_⟩
  · rw [St.get_cons] at hk
    split at hk
    · rename_i e
      subst e
      cases hk
      refine ⟨V, hV, .v ?_⟩
      cases av <;> simp [AV.row] at hrow
      · rcases hr with ⟨_, rfl, _⟩ | ⟨_, _, _, rfl, _⟩ <;> rfl
      · rcases hr with ⟨_, _, rfl, _⟩ | ⟨_, _, _, _, _, rfl, _⟩ <;> rfl
    · rename_i hkt
      rw [St.get_kill] at hk
      cases hg : σ.get k with
      | none => simp [hg] at hk
      | some y =>
        simp only [hg, Option.map_some, Option.some.injEq] at hk
        subst hk
        obtain ⟨z, hz, hzr⟩ := hO k y hg
        have hkn : k < n := by rw [← hR.size]; exact (Array.getElem?_eq_some_iff.1 hz).1
        exact ⟨z, hz, hzr.swap (Ne.symm hkt) (by omega) (fun _ => trivial)⟩
  · by_cases hji : j = i
    · subst hji
      rw [hi] at hr'
      cases hr'
      refine .inr ⟨hrow, htag, hr.owner hrow htag (fun c hc => ?_) (fun c hc => ⟨swO_none.2 hc.1, hc.2⟩)⟩
      simp only [swO]
      rw [if_neg (by rw [hc]; intro e; cases e; omega), if_pos hc]
    · rcases hL j r (hj j r hji hr') with h | ⟨h1, h2, h3⟩
      · exact .inl h
      · exact .inr ⟨h1, h2, h3.move (fun c hc => ⟨⟨swO_none.2 hc.1, hc.2⟩, rfl⟩) (fun _ c hc => ⟨swO_other hc (by omega) (by omega), rfl⟩) (fun k _ x _ hk => by cases hk)⟩

theorem RelZ.keep (ks : List Nat) (hR : RelZ P B F0 w0 n R σ a w) : RelZ P B F0 w0 n R (σ.keep ks) a w := by
  obtain ⟨O, hOr, hO, hL⟩ := hR.own
  refine ⟨hR.below, hR.base, hR.f0, hR.defers, hR.size, O, hOr, fun t av h => ?_, hL⟩
  rw [St.get_keep] at h
  split at h <;> try (cases h; done)
  obtain ⟨v, hv, hr⟩ := hO t av h
  refine ⟨v, hv, hr.move (fun c hc => ⟨hc, rfl⟩) (fun _ c hc => ⟨hc, rfl⟩) (fun k hk x hx hg => ?_)⟩
  rw [St.get_keep] at hg
  split at hg
  · exact ⟨hg, rfl⟩
  · cases hg
/-- Loose rows are forgotten: they are free to read from here on, or unknown. -/
theorem RelZ.drop (hR : RelZ P B F0 w0 n R σ a w) (h : ∀ (i : Nat) (r : LR), R'[i]? = some r → R[i]? = some r ∨ r.2 = .junk) : RelZ P B F0 w0 n R' σ a w := by
  obtain ⟨O, hOr, hO, hL⟩ := hR.own
  refine ⟨hR.below, hR.base, hR.f0, hR.defers, hR.size, O, hOr, hO, fun i r hr => ?_⟩
  rcases h i r hr with g | g
  · exact hL i r g
  · exact .inl g
end
end Lift
/- Operations, regions and code over states with loose rows. -/
namespace Lift
open Go
open Go.RowKit (Below)

section
variable {P : Program} {T : Ty} {B : Nat} {F0 : Nat → Prop} {w0 : Bas} {n : Nat} {σ σ' : St} {R R' : List LR} {all : Array Oper} {l : List Oper} {o : Oper}

/-! ### A slot that no operation names as its own keeps its value -/
theorem upon_keep {o : Oper} {a : Act} {next next' : Act → World → Prop} {Q Q' : Exit → Act → World → Prop} (hp : ∀ c a w, Q (.panic c) a w → Q' (.panic c) a w) (ho : LetsOut Q → LetsOut Q')
    (hn : ∀ v d w, next ({ a with defers := d }.put o.dst v) w → next' ({ a with defers := d }.put o.dst v) w) {r : Result Next} (h : o.upon P a next Q r) : o.upon P a next' Q' r := by
  cases r with
  | ok x w' =>
    cases x <;> simp only [Oper.upon] at h ⊢
    · exact hn _ a.defers _ h
    · exact hn _ a.defers _ h
    · exact Calls.mono h (fun e w'' he => by cases e <;> first | exact hn _ a.defers _ he | exact hp _ _ _ he | exact ho he)
    · exact hn _ _ _ h
    · exact Rows.mono h (fun v w'' he => hn _ a.defers _ he)
  | halt x w' => cases x <;> simp only [Oper.upon] at h ⊢ <;> exact hp _ _ _ h
def keepQ (t : Nat) (x : Option Value) (Q : Exit → Act → World → Prop) : Exit → Act → World → Prop := fun e a w => Q e a w ∧ (e = .normal → a.tmps[t]? = x)
theorem wpList_keep {t : Nat} {x : Option Value} {Q : Exit → Act → World → Prop} : ∀ (l : List Oper) (a : Act) (w : World), (∀ o, o ∈ l → o.dst ≠ some t) → a.tmps[t]? = x → wpList P all Q l a w → wpList P all (keepQ t x Q) l a w
  | [], a, w, _, hx, h => ⟨h, fun _ => hx⟩
  | o :: l, a, w, hd, hx, h => by
    have hput : ∀ v d, ({ a with defers := d }.put o.dst v).tmps[t]? = x := fun v d => by
      cases hdst : o.dst with
      | none => exact hx
      | some k =>
        have : k ≠ t := fun e => hd o (by simp) (by rw [hdst, e])
        rw [put_get (Ne.symm this)]; exact hx
    unfold wpList at h ⊢
    split at h
    · rw [if_pos (by assumption)]
      rcases h with h | ⟨h1, a1, w1, h2⟩
      · exact .inl (upon_keep (fun c a w h => ⟨h, fun e => by cases e⟩) (fun ⟨a, w, h⟩ => ⟨a, w, h, fun e => by cases e⟩) (fun v d w h => wpList_keep l _ _ (fun o ho => hd o (by simp [ho])) (hput v d) h) h)
      · exact .inr ⟨h1, a1, w1, h2, fun e => by cases e⟩
    · rw [if_neg (by assumption)]
      exact wpList_keep l _ _ (fun o ho => hd o (by simp [ho])) (hput undef a.defers) h

theorem wpList_mono {Q Q' : Exit → Act → World → Prop} (hq : ∀ e a w, Q e a w → Q' e a w) : ∀ {l : List Oper} {a : Act} {w : World}, wpList P all Q l a w → wpList P all Q' l a w
  | [], a, w, h => hq _ _ _ h
  | o :: l, a, w, h => by
    unfold wpList at h ⊢
    split at h
    · rw [if_pos (by assumption)]
      rcases h with h | ⟨h1, a1, w1, h2⟩
      · exact .inl (upon_keep (fun c a w h => hq _ _ _ h) (fun ⟨a, w, h⟩ => ⟨a, w, hq _ _ _ h⟩) (fun v d w h => wpList_mono hq h) h)
      · exact .inr ⟨h1, a1, w1, hq _ _ _ h2⟩
    · rw [if_neg (by assumption)]
      exact wpList_mono hq h

abbrev Pins := List (Nat × Value)
def PinsOk (p : Pins) (a : Act) : Prop := ∀ e, e ∈ p → a.tmps[e.1]? = some e.2
def dstNe (t : Nat) : List Oper → Bool
  | [] => true
  | o :: r => match o.dst with
    | some d => match Nat.beq d t with
      | true => false
      | false => dstNe t r
    | none => dstNe t r
theorem dstNe_ok {t : Nat} : ∀ {l : List Oper}, dstNe t l = true → ∀ o, o ∈ l → o.dst ≠ some t
  | [], _, o, ho => by cases ho
  | x :: r, h, o, ho => by
    simp only [dstNe] at h
    rcases List.mem_cons.1 ho with rfl | ho
    · split at h
      · rename_i d hd
        split at h
        · cases h
        · rename_i hb
          rw [hd]
          intro e
          cases e
          exact Nat.ne_of_beq_eq_false hb rfl
      · rename_i hd; rw [hd]; intro e; cases e
    · split at h
      · split at h
        · cases h
        · exact dstNe_ok h o ho
      · exact dstNe_ok h o ho
def pinsB (p : Pins) (l : List Oper) : Bool := match p with
  | [] => true
  | (t, _) :: r => match dstNe t l with
    | true => pinsB r l
    | false => false
theorem pinsB_ok : ∀ {p : Pins} {l : List Oper}, pinsB p l = true → ∀ e, e ∈ p → ∀ o, o ∈ l → o.dst ≠ some e.1
  | [], l, _, e, he => by cases he
  | (t, V) :: r, l, h, e, he => by
    simp only [pinsB] at h
    split at h
    · rename_i h1
      rcases List.mem_cons.1 he with rfl | he
      · exact dstNe_ok h1
      · exact pinsB_ok h e he
    · cases h
theorem wpList_pins {Q : Exit → Act → World → Prop} {a : Act} {w : World} : ∀ {p : Pins}, PinsOk p a → (∀ e, e ∈ p → ∀ o, o ∈ l → o.dst ≠ some e.1) → wpList P all Q l a w → wpList P all (fun e a w => Q e a w ∧ (e = .normal → PinsOk p a)) l a w
  | [], _, _, h => wpList_mono (fun e a w h => ⟨h, fun _ e he => by cases he⟩) h
  | (t, V) :: r, hp, hd, h => by
    have h1 := wpList_pins (p := r) (fun e he => hp e (by simp [he])) (fun e he => hd e (by simp [he])) h
    have h2 := wpList_keep l a w (hd (t, V) (by simp)) (hp (t, V) (by simp)) h1
    refine wpList_mono (fun e a w ⟨⟨h1, h2⟩, h3⟩ => ⟨h1, fun he e' he' => ?_⟩) h2
    rcases List.mem_cons.1 he' with rfl | he'
    · exact h3 he
    · exact h2 he e' he'

/-! ### Operations -/
def AZOps (P : Program) (B : Nat) (F0 : Nat → Prop) (w0 : Bas) (n : Nat) (all : Array Oper) (l : List Oper) (K : List LR → St → Prop) (p : Pins) (R : List LR) (σ : St) : Prop :=
  ∀ (a : Act) (w : World), RelZ P B F0 w0 n R σ a w → PinsOk p a → ∀ Q : Exit → Act → World → Prop, (∀ a w R' σ', K R' σ' → RelZ P B F0 w0 n R' σ' a w → Q .normal a w) → wpList P all Q l a w

variable {K : List LR → St → Prop} {p : Pins}
theorem AZOps.nil (h : K R σ) : AZOps P B F0 w0 n all [] K p R σ := fun a w hR _ Q hQ => hQ a w R σ h hR
/-- The next k operations by the logic, over whatever base. -/
theorem AZOps.cut (k : Nat) (hp : pinsB p (l.take k) = true) (h : ∀ B1 F1 w1, AOps P B1 F1 w1 n all (l.take k) (fun σ' => σ'.noTag = true ∧ AZOps P B F0 w0 n all (l.drop k) K p R σ') σ) : AZOps P B F0 w0 n all l K p R σ := by
  intro a w hR hpin Q hQ
  obtain ⟨B1, F1, w1, hR1, hback⟩ := hR.sub
  rw [← List.take_append_drop k l]
  refine wpList_append (l.drop k) (l.take k) a w ?_
  have h1 := h B1 F1 w1 a w hR1 (fun e a' w' => e = .normal ∧ ∃ σ', σ'.noTag = true ∧ AZOps P B F0 w0 n all (l.drop k) K p R σ' ∧ RelZ P B F0 w0 n R σ' a' w') (fun a' w' σ' ⟨h1, h2⟩ hR' => ⟨rfl, σ', h1, h2, hback σ' a' w' h1 hR'⟩)
  refine wpList_mono (fun e a' w' ⟨⟨he, σ', _, h2, h3⟩, h4⟩ => ?_) (wpList_pins hpin (pinsB_ok hp) h1)
  subst he
  exact h2 a' w' h3 (h4 rfl) Q hQ
/-- A slot that holds a loose row's value becomes the row's home. -/
theorem AZOps.adopt (t i : Nat) {V : Value} {av : AV} (hi : R[i]? = some (V, av)) (ht : σ.get t = some (.d (.v V))) (hrow : av.row.isSome = true) (h : AZOps P B F0 w0 n all l K ((t, V) :: p) (R.set i (V, .junk)) ((t, av) :: σ.kill t)) : AZOps P B F0 w0 n all l K p R σ := by
  intro a w hR hpin Q hQ
  refine h a w (hR.adopt hi hrow ht) (fun e he => ?_) Q hQ
  rcases List.mem_cons.1 he with rfl | he
  · obtain ⟨O, _, hO, _⟩ := hR.own
    obtain ⟨v, hv, hr⟩ := hO t _ ht
    rw [hv, (Rd.v_eq hr).1]
  · exact hpin e he
/-- The row is let loose again. -/
theorem AZOps.back (t i : Nat) {V V' : Value} {av av' : AV} (ht : σ.get t = some av) (hrow : av.row.isSome = true) (htag : av.tag = false) (hp : (t, V) ∈ p) (hi : R[i]? = some (V', av')) (h : AZOps P B F0 w0 n all l K p (R.set i (V, av)) ((t, .d (.v V)) :: σ.kill t)) : AZOps P B F0 w0 n all l K p R σ := by
  intro a w hR hpin Q hQ
  exact h a w (hR.loosen ht hrow htag (hpin _ hp) (List.getElem?_set_self (List.getElem?_eq_some_iff.1 hi).1) (fun j r hj hr => set_other hj hr)) hpin Q hQ
/-- A row of the call's own is let loose: it gets a name. -/
theorem AZOps.loosen (t : Nat) {av : AV} (ht : σ.get t = some av) (hrow : av.row.isSome = true) (htag : av.tag = false) (h : ∀ V : Value, AZOps P B F0 w0 n all l K p (R ++ [(V, av)]) ((t, .d (.v V)) :: σ.kill t)) : AZOps P B F0 w0 n all l K p R σ := by
  intro a w hR hpin Q hQ
  obtain ⟨O, _, hO, _⟩ := hR.own
  obtain ⟨V, hV, _⟩ := hO t _ ht
  refine h V a w (hR.loosen (i := R.length) ht hrow htag hV (by simp) (fun j r hj hr => ?_)) hpin Q hQ
  rcases Nat.lt_or_ge j R.length with hlt | hge
  · rw [List.getElem?_append_left hlt] at hr; exact hr
  · rw [List.getElem?_append_right hge] at hr
    have : j - R.length ≠ 0 := by omega
    cases hj' : j - R.length with
    | zero => omega
    | succ m => rw [hj'] at hr; simp at hr
theorem AZOps.keep (ks : List Nat) (h : AZOps P B F0 w0 n all l K p R (σ.keep ks)) : AZOps P B F0 w0 n all l K p R σ := fun a w hR => h a w (hR.keep ks)
theorem AZOps.conv (h : σ = σ') (hk : AZOps P B F0 w0 n all l K p R σ') : AZOps P B F0 w0 n all l K p R σ := h ▸ hk
theorem AZOps.convR (h : R = R') (hk : AZOps P B F0 w0 n all l K p R' σ) : AZOps P B F0 w0 n all l K p R σ := h ▸ hk

/-! ### Code -/
def AZ (P : Program) (B : Nat) (F0 : Nat → Prop) (w0 : Bas) (n : Nat) (c : Code) (Q : Exit → List LR → St → Prop) (R : List LR) (σ : St) : Prop :=
  ∀ (a : Act) (w : World), RelZ P B F0 w0 n R σ a w → c.wp P (fun e a' w' => ∃ R' σ', Q e R' σ' ∧ RelZ P B F0 w0 n R' σ' a' w') a w

variable {Q : Exit → List LR → St → Prop} {x y : Code}
def thenZ (K : List LR → St → Prop) (Q : Exit → List LR → St → Prop) : Exit → List LR → St → Prop
  | .normal, R, σ => K R σ
  | .exit i, R, σ => Q (.exit i) R σ
  | .goto i, R, σ => Q (.goto i) R σ
  | .ret, R, σ => Q .ret R σ
  | .panic c, R, σ => Q (.panic c) R σ
  | .outgrown, R, σ => Q .outgrown R σ
def blockZ (id : Nat) (Q : Exit → List LR → St → Prop) : Exit → List LR → St → Prop
  | .normal, R, σ => Q .normal R σ
  | .exit i, R, σ => match Nat.beq i id with
    | true => Q .normal R σ
    | false => Q (.exit i) R σ
  | .goto i, R, σ => Q (.goto i) R σ
  | .ret, R, σ => Q .ret R σ
  | .panic c, R, σ => Q (.panic c) R σ
  | .outgrown, R, σ => Q .outgrown R σ
theorem AZ.skip (h : Q .normal R σ) : AZ P B F0 w0 n .skip Q R σ := fun a w hR => wp_skip ⟨R, σ, h, hR⟩
theorem AZ.exit {id : Nat} (h : Q (.exit id) R σ) : AZ P B F0 w0 n (.exit id) Q R σ := fun a w hR => wp_exit ⟨R, σ, h, hR⟩
theorem AZ.ret (h : Q .ret R σ) : AZ P B F0 w0 n .ret Q R σ := fun a w hR => wp_ret ⟨R, σ, h, hR⟩
theorem AZ.seq (h : AZ P B F0 w0 n x (thenZ (AZ P B F0 w0 n y Q) Q) R σ) : AZ P B F0 w0 n (.seq x y) Q R σ := by
  intro a w hR
  refine wp_seq (wp_mono (h a w hR) fun e a' w' ⟨R', σ', hq, hR'⟩ => ?_)
  cases e <;> first | exact hq a' w' hR' | exact ⟨R', σ', hq, hR'⟩
theorem AZ.block {id : Nat} (h : AZ P B F0 w0 n x (blockZ id Q) R σ) : AZ P B F0 w0 n (.block id x) Q R σ := by
  intro a w hR
  refine wp_block (wp_mono (h a w hR) fun e a' w' ⟨R', σ', hq, hR'⟩ => ?_)
  cases e with
  | exit i =>
    simp only [blockZ] at hq
    simp only [Exit.inBlock]
    split at hq
    · rename_i hb
      rw [if_pos (Nat.eq_of_beq_eq_true hb)]
      exact ⟨R', σ', hq, hR'⟩
    · rename_i hb
      rw [if_neg (Nat.ne_of_beq_eq_false hb)]
      exact ⟨R', σ', hq, hR'⟩
  | _ => exact ⟨R', σ', hq, hR'⟩
theorem AZ.cond {c : Operand} {b : Bool} (hc : boolAt σ c = some b) (h1 : b = true → AZ P B F0 w0 n x Q R σ) (h2 : b = false → AZ P B F0 w0 n y Q R σ) : AZ P B F0 w0 n (.cond c x y) Q R σ := by
  intro a w hR
  have he : a.eval c = .bool b := by
    unfold boolAt at hc
    split at hc <;> try (cases hc; done)
    · split at hc <;> simp at hc
      rename_i hg
      subst hc
      obtain ⟨O, hOr, hO, _⟩ := hR.own
      obtain ⟨v, hv, hr⟩ := hO _ _ hg
      have := (Rd.v_eq hr).1
      subst this
      exact eval_tmp hv
    · simp at hc; subst hc; rfl
  refine wp_cond he ?_
  cases b with
  | true => exact h1 rfl a w hR
  | false => exact h2 rfl a w hR
theorem AZ.condT {c : Operand} (hc : boolAt σ c = some true) (h1 : AZ P B F0 w0 n x Q R σ) : AZ P B F0 w0 n (.cond c x y) Q R σ := AZ.cond hc (fun _ => h1) (fun h => by cases h)
theorem AZ.condF {c : Operand} (hc : boolAt σ c = some false) (h1 : AZ P B F0 w0 n y Q R σ) : AZ P B F0 w0 n (.cond c x y) Q R σ := AZ.cond hc (fun h => by cases h) (fun _ => h1)
theorem AZ.region {id : Nat} {ops : Array Oper} (h : AZOps P B F0 w0 n ops ops.toList (Q .normal) [] R σ) : AZ P B F0 w0 n (.region id ops false) Q R σ :=
  fun a w hR => wp_region_list (h a w hR (fun e he => by cases he) _ fun a' w' R' σ' hk hR' => ⟨R', σ', hk, hR'⟩)
/-- Code by the logic, the loose rows out of sight. -/
theorem AZ.frame (h : ∀ B1 F1 w1, AW P B1 F1 w1 n x (fun e σ' => σ'.noTag = true ∧ Q e R σ') σ) : AZ P B F0 w0 n x Q R σ := by
  intro a w hR
  obtain ⟨B1, F1, w1, hR1, hback⟩ := hR.sub
  exact wp_mono (h B1 F1 w1 a w hR1) fun e a' w' ⟨σ', ⟨h1, h2⟩, hR'⟩ => ⟨R, σ', h2, hback σ' a' w' h1 hR'⟩
theorem AZ.keep (ks : List Nat) (h : AZ P B F0 w0 n x Q R (σ.keep ks)) : AZ P B F0 w0 n x Q R σ := fun a w hR => h a w (hR.keep ks)
theorem AZ.conv (h : σ = σ') (hk : AZ P B F0 w0 n x Q R σ') : AZ P B F0 w0 n x Q R σ := h ▸ hk
theorem AZ.convR (h : R = R') (hk : AZ P B F0 w0 n x Q R' σ) : AZ P B F0 w0 n x Q R σ := h ▸ hk
theorem AZ.mono {Q' : Exit → List LR → St → Prop} (h : AZ P B F0 w0 n x Q R σ) (hq : ∀ e R σ, Q e R σ → Q' e R σ) : AZ P B F0 w0 n x Q' R σ := fun a w hR => wp_mono (h a w hR) fun e a' w' ⟨R', σ', h1, h2⟩ => ⟨R', σ', hq _ _ _ h1, h2⟩
/-- A row of the call's own is let loose. -/
theorem AZ.loosen (t : Nat) {av : AV} (ht : σ.get t = some av) (hrow : av.row.isSome = true) (htag : av.tag = false) (h : ∀ V : Value, AZ P B F0 w0 n x Q (R ++ [(V, av)]) ((t, .d (.v V)) :: σ.kill t)) : AZ P B F0 w0 n x Q R σ := by
  intro a w hR
  obtain ⟨O, _, hO, _⟩ := hR.own
  obtain ⟨V, hV, _⟩ := hO t _ ht
  refine h V a w (hR.loosen (i := R.length) ht hrow htag hV (by simp) (fun j r hj hr => ?_))
  rcases Nat.lt_or_ge j R.length with hlt | hge
  · rw [List.getElem?_append_left hlt] at hr; exact hr
  · rw [List.getElem?_append_right hge] at hr
    have : j - R.length ≠ 0 := by omega
    cases hj' : j - R.length with
    | zero => omega
    | succ m => rw [hj'] at hr; simp at hr
theorem AZ.adopt (t i : Nat) {V : Value} {av : AV} (hi : R[i]? = some (V, av)) (ht : σ.get t = some (.d (.v V))) (hrow : av.row.isSome = true) (h : AZ P B F0 w0 n x Q (R.set i (V, .junk)) ((t, av) :: σ.kill t)) : AZ P B F0 w0 n x Q R σ :=
  fun a w hR => h a w (hR.adopt hi hrow ht)
/-- A loop: at every round's head the kept slots, and the loose rows, are what mk says of a datum s that meets I. -/
theorem AZ.loopS {S : Type} (ks : List Nat) (mk : S → List LR × St) (I : S → Prop) (μ : S → Nat) (s0 : S) (h0 : (R, σ.keep ks) = mk s0) (hI : I s0)
    (hb : ∀ s, I s → AZ P B F0 w0 n x (thenZ (fun R' σ' => ∃ s', (R', σ'.keep ks) = mk s' ∧ I s' ∧ μ s' < μ s) Q) (mk s).1 (mk s).2) : AZ P B F0 w0 n (.loop x) Q R σ := by
  intro a w hR
  let G : Act → World → S → Prop := fun a w s => I s ∧ RelZ P B F0 w0 n (mk s).1 (mk s).2 a w
  have hex : ∀ a w, (∃ s, G a w s) → ∃ m, (∃ s, μ s = m ∧ G a w s) ∧ ∀ s, G a w s → m ≤ μ s := fun a w ⟨s, h1⟩ => by
    let q : Nat → Prop := fun m => ∃ s, μ s = m ∧ G a w s
    have key : ∀ k m, m ≤ k → q m → ∃ m0, q m0 ∧ ∀ m', q m' → m0 ≤ m' := by
      intro k
      induction k with
      | zero => intro m hm hp; exact ⟨m, hp, fun m' _ => by omega⟩
      | succ k ih =>
        intro m hm hp
        by_cases hlt : ∃ m', m' ≤ k ∧ q m'
        · obtain ⟨m', h1, h2⟩ := hlt; exact ih m' h1 h2
        · exact ⟨m, hp, fun m' hp' => by
            rcases Nat.lt_or_ge k m' with h | h
            · omega
            · exact absurd ⟨m', h, hp'⟩ hlt⟩
    obtain ⟨m0, h3, h4⟩ := key (μ s) (μ s) (Nat.le_refl _) ⟨s, rfl, h1⟩
    exact ⟨m0, h3, fun s' g => h4 _ ⟨s', rfl, g⟩⟩
  let M : Act → World → Nat := fun a w => open Classical in if h : ∃ s, G a w s then Classical.choose (hex a w h) else 0
  have hM : ∀ a w, (∃ s, G a w s) → (∃ s, μ s = M a w ∧ G a w s) ∧ ∀ s, G a w s → M a w ≤ μ s := fun a w h => by
    have := Classical.choose_spec (hex a w h)
    simp only [M, dif_pos h]
    exact this
  have hG0 : G a w s0 := ⟨hI, by rw [← h0]; exact hR.keep ks⟩
  refine wp_loop (fun a w => ∃ s, G a w s) M ⟨s0, hG0⟩ (fun a w hg => ?_)
  obtain ⟨⟨s1, hm, hI1, hR1⟩, _⟩ := hM a w hg
  refine wp_mono (hb s1 hI1 a w hR1) fun e a' w' ⟨R', σ', hq, hR'⟩ => ?_
  cases e with
  | normal =>
    obtain ⟨s', h1, h2, h3⟩ := hq
    have hg' : G a' w' s' := ⟨h2, by rw [← h1]; exact hR'.keep ks⟩
    refine ⟨⟨s', hg'⟩, ?_⟩
    have := (hM a' w' ⟨s', hg'⟩).2 s' hg'
    omega
  | _ => exact ⟨R', σ', hq, hR'⟩
def cutZ {S : Type} (ks : List Nat) (mk : S → List LR × St) (I : S → Prop) (Q : Exit → List LR → St → Prop) : Exit → List LR → St → Prop
  | .normal, R, σ => ∃ s, (R, σ.keep ks) = mk s ∧ I s
  | .exit i, R, σ => Q (.exit i) R σ
  | .goto i, R, σ => Q (.goto i) R σ
  | .ret, R, σ => Q .ret R σ
  | .panic c, R, σ => Q (.panic c) R σ
  | .outgrown, R, σ => Q .outgrown R σ
/-- Ways that meet. -/
theorem AZ.cut {S : Type} (ks : List Nat) (mk : S → List LR × St) (I : S → Prop) (hx : AZ P B F0 w0 n x (cutZ ks mk I Q) R σ) (hy : ∀ s, I s → AZ P B F0 w0 n y Q (mk s).1 (mk s).2) : AZ P B F0 w0 n (.seq x y) Q R σ := by
  refine AZ.seq (AZ.mono hx fun e R' σ' hq => ?_)
  cases e with
  | normal =>
    obtain ⟨s, h1, h2⟩ := hq
    have h1' := Prod.mk.inj (h1.trans (Prod.eta (mk s)).symm)
    refine AZ.convR h1'.1 (AZ.keep ks (AZ.conv h1'.2 (hy s h2)))
  | _ => exact hq
end
end Lift
