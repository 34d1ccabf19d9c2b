/- Parts of the proof, one behind the other: the logic, the contracts of the functions that the statement reaches. -/
import Derived.Test.YtjjebjajjjjcjaaGreatGzE
set_option linter.unusedVariables false
set_option linter.unusedSimpArgs false
/- Groups: the reference's Rest and Split. -/
namespace Lift
open Go Go.Proofs

theorem win_len (l : List Bool) {n : Nat} (h : l.length = n) : (((l.map (fun b => dB b)).drop 0).take n).length = n := by
  rw [List.drop_zero, List.length_take, List.length_map, h, Nat.min_self]
set_option maxHeartbeats 3200000 in
theorem r25_Rest_ok (l : Lkg) (h : chk l = 0) : Pure Tryz.prog 15 [l.D] (.tu [IsDG (misF (findF l).kn), IsDG (misF (findF l).us)]) := by
  refine Pure.intro (n := 82) tok Tryz.func15 rfl rfl rfl (Nat.le_of_ble_eq_true rfl) (by kernel_rfl) (fun B F0 w0 => ?_)
  obtain ⟨hl, hb8, hj16, _⟩ := chk_in h
  have hb1 := hl.b1
  have cF := r25_Find_ok l hl
  have hF := FOk.find hl (fD_zero h)
  have hgl := (findF_gs l).2
  have hkl := (findF_len l).1
  have hul := (findF_len l).2
  obtain ⟨hgs, hke, hue, _⟩ := hF
  generalize (findF l).kn = kn at *
  generalize (findF l).us = us at *
  generalize (findF l).gs = gs at *
  refine AW.seq ?_
  refine AW.region ?_   -- "ref.go:111"
  refine AOps.run tok 3 _ _ _ _ rfl ?_
  refine AOps.nil ?_
  refine AW.cut [1, 2, 3, 4, 5] (fun _ : Unit => [(1, .bx l.D.flat), (2, .ow 3 (IsL [])), (3, .ow 3 (IsL [])), (4, .wn false 4 (((List.replicate l.bodies.length false).set 0 true).map (fun b => dB b)) 0 l.bodies.length), (5, .ow 4 ((List.replicate l.joints.length false).map (fun b => dB b)))]) (fun _ => True) ?_ (fun _ _ => ?_)
  · refine AZ.aw ?_
    refine AZ.any hmix (ZH.any (β := [(1, [dS l.nm, BodiesD l.bodies, JointsD l.joints, DriversD l.drivers])]) ?_)
    refine ZH.meet 0 #[true, true, true, true, true, true, true, true] (fun V => []) (fun V => [(1, .bx [dS l.nm, BodiesD l.bodies, JointsD l.joints, DriversD l.drivers]), (2, .ow 3 (IsL [])), (3, .ow 3 (IsL [])), (4, .wn false 4 (((List.replicate l.bodies.length false).set 0 true).map (fun b => dB b)) 0 l.bodies.length), (5, .ow 4 (List.replicate l.joints.length (dB false)))]) (fun V => ?_) (fun N3_4_1 => ?_)
    · refine ZH.done (by kernel_rfl) ⟨rfl, trivial⟩ ?_
      exact ⟨(), by rw [List.map_replicate]; rfl, trivial⟩
    refine ZH.meet 1 #[true, true, true, true, true, true, true, false] (fun V => []) (fun V => [(1, .bx [dS l.nm, BodiesD l.bodies, JointsD l.joints, DriversD l.drivers]), (2, .ow 3 (IsL [])), (3, .ow 3 (IsL [])), (4, .wn false 4 (((List.replicate l.bodies.length false).set 0 true).map (fun b => dB b)) 0 l.bodies.length), (21, .ow 4 (List.replicate l.joints.length (dB false)))]) (fun V => ?_) (fun N3_4_0 => ?_)
    · refine ZH.all 7 (by kernel_rfl) rfl rfl (fun _ => rfl) ⟨rfl, trivial⟩ ?_
      refine one_step (fun B1 F1 w1 => ?_)
      refine AOps.run tok 1 _ _ _ _ rfl ?_
      refine AOps.nil ⟨rfl, ?_⟩
      refine ZH.to [1, 2, 3, 4, 5] [(1, .bx [dS l.nm, BodiesD l.bodies, JointsD l.joints, DriversD l.drivers]), (2, .ow 3 (IsL [])), (3, .ow 3 (IsL [])), (4, .wn false 4 (((List.replicate l.bodies.length false).set 0 true).map (fun b => dB b)) 0 l.bodies.length), (5, .ow 4 (List.replicate l.joints.length (dB false)))] rfl ⟨rfl, trivial⟩ ?_
      exact ZH.ls _ (by kernel_rfl) (N3_4_1 V)
    refine ZH.meet 2 #[true, true, true, true, true, true, false, false] (fun V => []) (fun V => [(1, .bx [dS l.nm, BodiesD l.bodies, JointsD l.joints, DriversD l.drivers]), (2, .ow 3 (IsL [])), (3, .ow 3 (IsL [])), (17, .wn false 4 (((List.replicate l.bodies.length false).set 0 true).map (fun b => dB b)) 0 l.bodies.length), (21, .ow 4 (List.replicate l.joints.length (dB false)))]) (fun V => ?_) (fun N2_4_0 => ?_)
    · refine ZH.all 6 (by kernel_rfl) rfl rfl (fun _ => rfl) ⟨rfl, trivial⟩ ?_
      refine one_step (fun B1 F1 w1 => ?_)
      refine AOps.run tok 1 _ _ _ _ rfl ?_
      refine AOps.nil ⟨rfl, ?_⟩
      refine ZH.to [1, 2, 3, 4, 21] [(1, .bx [dS l.nm, BodiesD l.bodies, JointsD l.joints, DriversD l.drivers]), (2, .ow 3 (IsL [])), (3, .ow 3 (IsL [])), (4, .wn false 4 (((List.replicate l.bodies.length false).set 0 true).map (fun b => dB b)) 0 l.bodies.length), (21, .ow 4 (List.replicate l.joints.length (dB false)))] rfl ⟨rfl, trivial⟩ ?_
      exact ZH.ls _ (by kernel_rfl) (N3_4_0 V)
    refine ZH.meet 2 #[true, true, true, true, true, false, true, false] (fun V => []) (fun V => [(1, .bx [dS l.nm, BodiesD l.bodies, JointsD l.joints, DriversD l.drivers]), (2, .ow 3 (IsL [])), (3, .ow 3 (IsL [])), (4, .wn false 4 (((List.replicate l.bodies.length false).set 0 true).map (fun b => dB b)) 0 l.bodies.length), (20, .d (dI l.joints.length))]) (fun V => ?_) (fun N3_3_0 => ?_)
    · refine ZH.all 5 (by kernel_rfl) rfl rfl (fun _ => rfl) ⟨rfl, trivial⟩ ?_
      refine one_step (fun B1 F1 w1 => ?_)
      refine AOps.make tok rfl rfl rfl rfl rfl (Int.natCast_nonneg _) (by show (1 : Int) * _ ≤ _; omega) (by omega) ?_
      refine AOps.nil ⟨rfl, ?_⟩
      refine ZH.to [1, 2, 3, 4, 21] [(1, .bx [dS l.nm, BodiesD l.bodies, JointsD l.joints, DriversD l.drivers]), (2, .ow 3 (IsL [])), (3, .ow 3 (IsL [])), (4, .wn false 4 (((List.replicate l.bodies.length false).set 0 true).map (fun b => dB b)) 0 l.bodies.length), (21, .ow 4 (List.replicate l.joints.length (dB false)))] rfl ⟨rfl, trivial⟩ ?_
      exact ZH.ls _ (by kernel_rfl) (N3_4_0 V)
    refine ZH.meet 3 #[true, false, true, true, true, true, false, false] (fun V => []) (fun V => [(1, .bx [dS l.nm, BodiesD l.bodies, JointsD l.joints, DriversD l.drivers]), (2, .ow 3 (IsL [])), (3, .ow 3 (IsL [])), (16, .d l.D), (21, .ow 4 (List.replicate l.joints.length (dB false)))]) (fun V => ?_) (fun N1_4_0 => ?_)
    · refine ZH.all 1 (by kernel_rfl) rfl rfl (fun _ => rfl) ⟨rfl, trivial⟩ ?_
      refine one_step (fun B1 F1 w1 => ?_)
      refine AOps.callo tok rfl rfl rfl rfl (r25_only_ok l hl 0 hb1) (plain_bsl _) ?_
      refine AOps.nil ⟨rfl, ?_⟩
      refine ZH.to [1, 2, 3, 17, 21] [(1, .bx [dS l.nm, BodiesD l.bodies, JointsD l.joints, DriversD l.drivers]), (2, .ow 3 (IsL [])), (3, .ow 3 (IsL [])), (17, .wn false 4 (((List.replicate l.bodies.length false).set 0 true).map (fun b => dB b)) 0 l.bodies.length), (21, .ow 4 (List.replicate l.joints.length (dB false)))] rfl ⟨rfl, trivial⟩ ?_
      exact ZH.ls _ (by kernel_rfl) (N2_4_0 V)
    refine ZH.meet 3 #[true, true, true, true, true, false, false, false] (fun V => []) (fun V => [(1, .bx [dS l.nm, BodiesD l.bodies, JointsD l.joints, DriversD l.drivers]), (2, .ow 3 (IsL [])), (3, .ow 3 (IsL [])), (17, .wn false 4 (((List.replicate l.bodies.length false).set 0 true).map (fun b => dB b)) 0 l.bodies.length), (20, .d (dI l.joints.length))]) (fun V => ?_) (fun N2_3_0 => ?_)
    · refine ZH.two 5 6 (by kernel_rfl) rfl rfl rfl rfl (fun _ => rfl) (fun _ => rfl) ⟨rfl, trivial⟩ ?_ ?_
      · refine one_step (fun B1 F1 w1 => ?_)
        refine AOps.make tok rfl rfl rfl rfl rfl (Int.natCast_nonneg _) (by show (1 : Int) * _ ≤ _; omega) (by omega) ?_
        refine AOps.nil ⟨rfl, ?_⟩
        refine ZH.to [1, 2, 3, 17, 21] [(1, .bx [dS l.nm, BodiesD l.bodies, JointsD l.joints, DriversD l.drivers]), (2, .ow 3 (IsL [])), (3, .ow 3 (IsL [])), (17, .wn false 4 (((List.replicate l.bodies.length false).set 0 true).map (fun b => dB b)) 0 l.bodies.length), (21, .ow 4 (List.replicate l.joints.length (dB false)))] rfl ⟨rfl, trivial⟩ ?_
        exact ZH.ls _ (by kernel_rfl) (N2_4_0 V)
      · refine one_step (fun B1 F1 w1 => ?_)
        refine AOps.run tok 1 _ _ _ _ rfl ?_
        refine AOps.nil ⟨rfl, ?_⟩
        refine ZH.to [1, 2, 3, 4, 20] [(1, .bx [dS l.nm, BodiesD l.bodies, JointsD l.joints, DriversD l.drivers]), (2, .ow 3 (IsL [])), (3, .ow 3 (IsL [])), (4, .wn false 4 (((List.replicate l.bodies.length false).set 0 true).map (fun b => dB b)) 0 l.bodies.length), (20, .d (dI l.joints.length))] rfl ⟨rfl, trivial⟩ ?_
        exact ZH.ls _ (by kernel_rfl) (N3_3_0 V)
    refine ZH.meet 3 #[true, true, true, true, false, false, true, false] (fun V => []) (fun V => [(1, .bx [dS l.nm, BodiesD l.bodies, JointsD l.joints, DriversD l.drivers]), (2, .ow 3 (IsL [])), (3, .ow 3 (IsL [])), (4, .wn false 4 (((List.replicate l.bodies.length false).set 0 true).map (fun b => dB b)) 0 l.bodies.length), (19, .d (JointsD l.joints))]) (fun V => ?_) (fun N3_2_0 => ?_)
    · refine ZH.all 4 (by kernel_rfl) rfl rfl (fun _ => rfl) ⟨rfl, trivial⟩ ?_
      refine one_step (fun B1 F1 w1 => ?_)
      refine AOps.run tok 1 _ _ _ _ rfl ?_
      rw [List.length_map]
      refine AOps.nil ⟨rfl, ?_⟩
      refine ZH.to [1, 2, 3, 4, 20] [(1, .bx [dS l.nm, BodiesD l.bodies, JointsD l.joints, DriversD l.drivers]), (2, .ow 3 (IsL [])), (3, .ow 3 (IsL [])), (4, .wn false 4 (((List.replicate l.bodies.length false).set 0 true).map (fun b => dB b)) 0 l.bodies.length), (20, .d (dI l.joints.length))] rfl ⟨rfl, trivial⟩ ?_
      exact ZH.ls _ (by kernel_rfl) (N3_3_0 V)
    refine ZH.meet 4 #[false, false, true, true, true, true, false, false] (fun V => []) (fun V => [(1, .bx [dS l.nm, BodiesD l.bodies, JointsD l.joints, DriversD l.drivers]), (2, .ow 3 (IsL [])), (3, .ow 3 (IsL [])), (21, .ow 4 (List.replicate l.joints.length (dB false)))]) (fun V => ?_) (fun N0_4_0 => ?_)
    · refine ZH.all 0 (by kernel_rfl) rfl rfl (fun _ => rfl) ⟨rfl, trivial⟩ ?_
      refine one_step (fun B1 F1 w1 => ?_)
      refine AOps.run tok 1 _ _ _ _ rfl ?_
      refine AOps.nil ⟨rfl, ?_⟩
      refine ZH.to [1, 2, 3, 16, 21] [(1, .bx [dS l.nm, BodiesD l.bodies, JointsD l.joints, DriversD l.drivers]), (2, .ow 3 (IsL [])), (3, .ow 3 (IsL [])), (16, .d l.D), (21, .ow 4 (List.replicate l.joints.length (dB false)))] rfl ⟨rfl, trivial⟩ ?_
      exact ZH.ls _ (by kernel_rfl) (N1_4_0 V)
    refine ZH.meet 4 #[true, false, true, true, true, false, false, false] (fun V => []) (fun V => [(1, .bx [dS l.nm, BodiesD l.bodies, JointsD l.joints, DriversD l.drivers]), (2, .ow 3 (IsL [])), (3, .ow 3 (IsL [])), (16, .d l.D), (20, .d (dI l.joints.length))]) (fun V => ?_) (fun N1_3_0 => ?_)
    · refine ZH.two 1 5 (by kernel_rfl) rfl rfl rfl rfl (fun _ => rfl) (fun _ => rfl) ⟨rfl, trivial⟩ ?_ ?_
      · refine one_step (fun B1 F1 w1 => ?_)
        refine AOps.callo tok rfl rfl rfl rfl (r25_only_ok l hl 0 hb1) (plain_bsl _) ?_
        refine AOps.nil ⟨rfl, ?_⟩
        refine ZH.to [1, 2, 3, 17, 20] [(1, .bx [dS l.nm, BodiesD l.bodies, JointsD l.joints, DriversD l.drivers]), (2, .ow 3 (IsL [])), (3, .ow 3 (IsL [])), (17, .wn false 4 (((List.replicate l.bodies.length false).set 0 true).map (fun b => dB b)) 0 l.bodies.length), (20, .d (dI l.joints.length))] rfl ⟨rfl, trivial⟩ ?_
        exact ZH.ls _ (by kernel_rfl) (N2_3_0 V)
      · refine one_step (fun B1 F1 w1 => ?_)
        refine AOps.make tok rfl rfl rfl rfl rfl (Int.natCast_nonneg _) (by show (1 : Int) * _ ≤ _; omega) (by omega) ?_
        refine AOps.nil ⟨rfl, ?_⟩
        refine ZH.to [1, 2, 3, 16, 21] [(1, .bx [dS l.nm, BodiesD l.bodies, JointsD l.joints, DriversD l.drivers]), (2, .ow 3 (IsL [])), (3, .ow 3 (IsL [])), (16, .d l.D), (21, .ow 4 (List.replicate l.joints.length (dB false)))] rfl ⟨rfl, trivial⟩ ?_
        exact ZH.ls _ (by kernel_rfl) (N1_4_0 V)
    refine ZH.meet 4 #[true, true, true, true, false, false, false, false] (fun V => []) (fun V => [(1, .bx [dS l.nm, BodiesD l.bodies, JointsD l.joints, DriversD l.drivers]), (2, .ow 3 (IsL [])), (3, .ow 3 (IsL [])), (17, .wn false 4 (((List.replicate l.bodies.length false).set 0 true).map (fun b => dB b)) 0 l.bodies.length), (19, .d (JointsD l.joints))]) (fun V => ?_) (fun N2_2_0 => ?_)
    · refine ZH.two 4 6 (by kernel_rfl) rfl rfl rfl rfl (fun _ => rfl) (fun _ => rfl) ⟨rfl, trivial⟩ ?_ ?_
      · refine one_step (fun B1 F1 w1 => ?_)
        refine AOps.run tok 1 _ _ _ _ rfl ?_
        rw [List.length_map]
        refine AOps.nil ⟨rfl, ?_⟩
        refine ZH.to [1, 2, 3, 17, 20] [(1, .bx [dS l.nm, BodiesD l.bodies, JointsD l.joints, DriversD l.drivers]), (2, .ow 3 (IsL [])), (3, .ow 3 (IsL [])), (17, .wn false 4 (((List.replicate l.bodies.length false).set 0 true).map (fun b => dB b)) 0 l.bodies.length), (20, .d (dI l.joints.length))] rfl ⟨rfl, trivial⟩ ?_
        exact ZH.ls _ (by kernel_rfl) (N2_3_0 V)
      · refine one_step (fun B1 F1 w1 => ?_)
        refine AOps.run tok 1 _ _ _ _ rfl ?_
        refine AOps.nil ⟨rfl, ?_⟩
        refine ZH.to [1, 2, 3, 4, 19] [(1, .bx [dS l.nm, BodiesD l.bodies, JointsD l.joints, DriversD l.drivers]), (2, .ow 3 (IsL [])), (3, .ow 3 (IsL [])), (4, .wn false 4 (((List.replicate l.bodies.length false).set 0 true).map (fun b => dB b)) 0 l.bodies.length), (19, .d (JointsD l.joints))] rfl ⟨rfl, trivial⟩ ?_
        exact ZH.ls _ (by kernel_rfl) (N3_2_0 V)
    refine ZH.meet 4 #[true, true, true, false, false, false, true, false] (fun V => []) (fun V => [(1, .bx [dS l.nm, BodiesD l.bodies, JointsD l.joints, DriversD l.drivers]), (2, .ow 3 (IsL [])), (3, .ow 3 (IsL [])), (4, .wn false 4 (((List.replicate l.bodies.length false).set 0 true).map (fun b => dB b)) 0 l.bodies.length), (18, .pt 1 2)]) (fun V => ?_) (fun N3_1_0 => ?_)
    · refine ZH.all 3 (by kernel_rfl) rfl rfl (fun _ => rfl) ⟨rfl, trivial⟩ ?_
      refine one_step (fun B1 F1 w1 => ?_)
      refine AOps.run tok 1 _ _ _ _ rfl ?_
      refine AOps.nil ⟨rfl, ?_⟩
      refine ZH.to [1, 2, 3, 4, 19] [(1, .bx [dS l.nm, BodiesD l.bodies, JointsD l.joints, DriversD l.drivers]), (2, .ow 3 (IsL [])), (3, .ow 3 (IsL [])), (4, .wn false 4 (((List.replicate l.bodies.length false).set 0 true).map (fun b => dB b)) 0 l.bodies.length), (19, .d (JointsD l.joints))] rfl ⟨rfl, trivial⟩ ?_
      exact ZH.ls _ (by kernel_rfl) (N3_2_0 V)
    refine ZH.meet 5 #[false, false, true, true, true, false, false, false] (fun V => []) (fun V => [(1, .bx [dS l.nm, BodiesD l.bodies, JointsD l.joints, DriversD l.drivers]), (2, .ow 3 (IsL [])), (3, .ow 3 (IsL [])), (20, .d (dI l.joints.length))]) (fun V => ?_) (fun N0_3_0 => ?_)
    · refine ZH.two 0 5 (by kernel_rfl) rfl rfl rfl rfl (fun _ => rfl) (fun _ => rfl) ⟨rfl, trivial⟩ ?_ ?_
      · refine one_step (fun B1 F1 w1 => ?_)
        refine AOps.run tok 1 _ _ _ _ rfl ?_
        refine AOps.nil ⟨rfl, ?_⟩
        refine ZH.to [1, 2, 3, 16, 20] [(1, .bx [dS l.nm, BodiesD l.bodies, JointsD l.joints, DriversD l.drivers]), (2, .ow 3 (IsL [])), (3, .ow 3 (IsL [])), (16, .d l.D), (20, .d (dI l.joints.length))] rfl ⟨rfl, trivial⟩ ?_
        exact ZH.ls _ (by kernel_rfl) (N1_3_0 V)
      · refine one_step (fun B1 F1 w1 => ?_)
        refine AOps.make tok rfl rfl rfl rfl rfl (Int.natCast_nonneg _) (by show (1 : Int) * _ ≤ _; omega) (by omega) ?_
        refine AOps.nil ⟨rfl, ?_⟩
        refine ZH.to [1, 2, 3, 21] [(1, .bx [dS l.nm, BodiesD l.bodies, JointsD l.joints, DriversD l.drivers]), (2, .ow 3 (IsL [])), (3, .ow 3 (IsL [])), (21, .ow 4 (List.replicate l.joints.length (dB false)))] rfl ⟨rfl, trivial⟩ ?_
        exact ZH.ls _ (by kernel_rfl) (N0_4_0 V)
    refine ZH.meet 5 #[true, false, true, true, false, false, false, false] (fun V => []) (fun V => [(1, .bx [dS l.nm, BodiesD l.bodies, JointsD l.joints, DriversD l.drivers]), (2, .ow 3 (IsL [])), (3, .ow 3 (IsL [])), (16, .d l.D), (19, .d (JointsD l.joints))]) (fun V => ?_) (fun N1_2_0 => ?_)
    · refine ZH.two 1 4 (by kernel_rfl) rfl rfl rfl rfl (fun _ => rfl) (fun _ => rfl) ⟨rfl, trivial⟩ ?_ ?_
      · refine one_step (fun B1 F1 w1 => ?_)
        refine AOps.callo tok rfl rfl rfl rfl (r25_only_ok l hl 0 hb1) (plain_bsl _) ?_
        refine AOps.nil ⟨rfl, ?_⟩
        refine ZH.to [1, 2, 3, 17, 19] [(1, .bx [dS l.nm, BodiesD l.bodies, JointsD l.joints, DriversD l.drivers]), (2, .ow 3 (IsL [])), (3, .ow 3 (IsL [])), (17, .wn false 4 (((List.replicate l.bodies.length false).set 0 true).map (fun b => dB b)) 0 l.bodies.length), (19, .d (JointsD l.joints))] rfl ⟨rfl, trivial⟩ ?_
        exact ZH.ls _ (by kernel_rfl) (N2_2_0 V)
      · refine one_step (fun B1 F1 w1 => ?_)
        refine AOps.run tok 1 _ _ _ _ rfl ?_
        rw [List.length_map]
        refine AOps.nil ⟨rfl, ?_⟩
        refine ZH.to [1, 2, 3, 16, 20] [(1, .bx [dS l.nm, BodiesD l.bodies, JointsD l.joints, DriversD l.drivers]), (2, .ow 3 (IsL [])), (3, .ow 3 (IsL [])), (16, .d l.D), (20, .d (dI l.joints.length))] rfl ⟨rfl, trivial⟩ ?_
        exact ZH.ls _ (by kernel_rfl) (N1_3_0 V)
    refine ZH.meet 5 #[true, true, true, false, false, false, false, false] (fun V => []) (fun V => [(1, .bx [dS l.nm, BodiesD l.bodies, JointsD l.joints, DriversD l.drivers]), (2, .ow 3 (IsL [])), (3, .ow 3 (IsL [])), (17, .wn false 4 (((List.replicate l.bodies.length false).set 0 true).map (fun b => dB b)) 0 l.bodies.length), (18, .pt 1 2)]) (fun V => ?_) (fun N2_1_0 => ?_)
    · refine ZH.two 3 6 (by kernel_rfl) rfl rfl rfl rfl (fun _ => rfl) (fun _ => rfl) ⟨rfl, trivial⟩ ?_ ?_
      · refine one_step (fun B1 F1 w1 => ?_)
        refine AOps.run tok 1 _ _ _ _ rfl ?_
        refine AOps.nil ⟨rfl, ?_⟩
        refine ZH.to [1, 2, 3, 17, 19] [(1, .bx [dS l.nm, BodiesD l.bodies, JointsD l.joints, DriversD l.drivers]), (2, .ow 3 (IsL [])), (3, .ow 3 (IsL [])), (17, .wn false 4 (((List.replicate l.bodies.length false).set 0 true).map (fun b => dB b)) 0 l.bodies.length), (19, .d (JointsD l.joints))] rfl ⟨rfl, trivial⟩ ?_
        exact ZH.ls _ (by kernel_rfl) (N2_2_0 V)
      · refine one_step (fun B1 F1 w1 => ?_)
        refine AOps.run tok 1 _ _ _ _ rfl ?_
        refine AOps.nil ⟨rfl, ?_⟩
        refine ZH.to [1, 2, 3, 4, 18] [(1, .bx [dS l.nm, BodiesD l.bodies, JointsD l.joints, DriversD l.drivers]), (2, .ow 3 (IsL [])), (3, .ow 3 (IsL [])), (4, .wn false 4 (((List.replicate l.bodies.length false).set 0 true).map (fun b => dB b)) 0 l.bodies.length), (18, .pt 1 2)] rfl ⟨rfl, trivial⟩ ?_
        exact ZH.ls _ (by kernel_rfl) (N3_1_0 V)
    refine ZH.meet 5 #[true, true, false, false, false, false, true, false] (fun V => []) (fun V => [(1, .bx [dS l.nm, BodiesD l.bodies, JointsD l.joints, DriversD l.drivers]), (2, .ow 3 (IsL [])), (3, .ow 3 (IsL [])), (4, .wn false 4 (((List.replicate l.bodies.length false).set 0 true).map (fun b => dB b)) 0 l.bodies.length)]) (fun V => ?_) (fun N3_0_0 => ?_)
    · refine ZH.all 2 (by kernel_rfl) rfl rfl (fun _ => rfl) ⟨rfl, trivial⟩ ?_
      refine one_step (fun B1 F1 w1 => ?_)
      refine AOps.run tok 1 _ _ _ _ rfl ?_
      refine AOps.nil ⟨rfl, ?_⟩
      refine ZH.to [1, 2, 3, 4, 18] [(1, .bx [dS l.nm, BodiesD l.bodies, JointsD l.joints, DriversD l.drivers]), (2, .ow 3 (IsL [])), (3, .ow 3 (IsL [])), (4, .wn false 4 (((List.replicate l.bodies.length false).set 0 true).map (fun b => dB b)) 0 l.bodies.length), (18, .pt 1 2)] rfl ⟨rfl, trivial⟩ ?_
      exact ZH.ls _ (by kernel_rfl) (N3_1_0 V)
    refine ZH.meet 6 #[false, false, true, true, false, false, false, false] (fun V => []) (fun V => [(1, .bx [dS l.nm, BodiesD l.bodies, JointsD l.joints, DriversD l.drivers]), (2, .ow 3 (IsL [])), (3, .ow 3 (IsL [])), (19, .d (JointsD l.joints))]) (fun V => ?_) (fun N0_2_0 => ?_)
    · refine ZH.two 0 4 (by kernel_rfl) rfl rfl rfl rfl (fun _ => rfl) (fun _ => rfl) ⟨rfl, trivial⟩ ?_ ?_
      · refine one_step (fun B1 F1 w1 => ?_)
        refine AOps.run tok 1 _ _ _ _ rfl ?_
        refine AOps.nil ⟨rfl, ?_⟩
        refine ZH.to [1, 2, 3, 16, 19] [(1, .bx [dS l.nm, BodiesD l.bodies, JointsD l.joints, DriversD l.drivers]), (2, .ow 3 (IsL [])), (3, .ow 3 (IsL [])), (16, .d l.D), (19, .d (JointsD l.joints))] rfl ⟨rfl, trivial⟩ ?_
        exact ZH.ls _ (by kernel_rfl) (N1_2_0 V)
      · refine one_step (fun B1 F1 w1 => ?_)
        refine AOps.run tok 1 _ _ _ _ rfl ?_
        rw [List.length_map]
        refine AOps.nil ⟨rfl, ?_⟩
        refine ZH.to [1, 2, 3, 20] [(1, .bx [dS l.nm, BodiesD l.bodies, JointsD l.joints, DriversD l.drivers]), (2, .ow 3 (IsL [])), (3, .ow 3 (IsL [])), (20, .d (dI l.joints.length))] rfl ⟨rfl, trivial⟩ ?_
        exact ZH.ls _ (by kernel_rfl) (N0_3_0 V)
    refine ZH.meet 6 #[true, false, true, false, false, false, false, false] (fun V => []) (fun V => [(1, .bx [dS l.nm, BodiesD l.bodies, JointsD l.joints, DriversD l.drivers]), (2, .ow 3 (IsL [])), (3, .ow 3 (IsL [])), (16, .d l.D), (18, .pt 1 2)]) (fun V => ?_) (fun N1_1_0 => ?_)
    · refine ZH.two 1 3 (by kernel_rfl) rfl rfl rfl rfl (fun _ => rfl) (fun _ => rfl) ⟨rfl, trivial⟩ ?_ ?_
      · refine one_step (fun B1 F1 w1 => ?_)
        refine AOps.callo tok rfl rfl rfl rfl (r25_only_ok l hl 0 hb1) (plain_bsl _) ?_
        refine AOps.nil ⟨rfl, ?_⟩
        refine ZH.to [1, 2, 3, 17, 18] [(1, .bx [dS l.nm, BodiesD l.bodies, JointsD l.joints, DriversD l.drivers]), (2, .ow 3 (IsL [])), (3, .ow 3 (IsL [])), (17, .wn false 4 (((List.replicate l.bodies.length false).set 0 true).map (fun b => dB b)) 0 l.bodies.length), (18, .pt 1 2)] rfl ⟨rfl, trivial⟩ ?_
        exact ZH.ls _ (by kernel_rfl) (N2_1_0 V)
      · refine one_step (fun B1 F1 w1 => ?_)
        refine AOps.run tok 1 _ _ _ _ rfl ?_
        refine AOps.nil ⟨rfl, ?_⟩
        refine ZH.to [1, 2, 3, 16, 19] [(1, .bx [dS l.nm, BodiesD l.bodies, JointsD l.joints, DriversD l.drivers]), (2, .ow 3 (IsL [])), (3, .ow 3 (IsL [])), (16, .d l.D), (19, .d (JointsD l.joints))] rfl ⟨rfl, trivial⟩ ?_
        exact ZH.ls _ (by kernel_rfl) (N1_2_0 V)
    refine ZH.meet 6 #[true, true, false, false, false, false, false, false] (fun V => []) (fun V => [(1, .bx [dS l.nm, BodiesD l.bodies, JointsD l.joints, DriversD l.drivers]), (2, .ow 3 (IsL [])), (3, .ow 3 (IsL [])), (17, .wn false 4 (((List.replicate l.bodies.length false).set 0 true).map (fun b => dB b)) 0 l.bodies.length)]) (fun V => ?_) (fun N2_0_0 => ?_)
    · refine ZH.two 2 6 (by kernel_rfl) rfl rfl rfl rfl (fun _ => rfl) (fun _ => rfl) ⟨rfl, trivial⟩ ?_ ?_
      · refine one_step (fun B1 F1 w1 => ?_)
        refine AOps.run tok 1 _ _ _ _ rfl ?_
        refine AOps.nil ⟨rfl, ?_⟩
        refine ZH.to [1, 2, 3, 17, 18] [(1, .bx [dS l.nm, BodiesD l.bodies, JointsD l.joints, DriversD l.drivers]), (2, .ow 3 (IsL [])), (3, .ow 3 (IsL [])), (17, .wn false 4 (((List.replicate l.bodies.length false).set 0 true).map (fun b => dB b)) 0 l.bodies.length), (18, .pt 1 2)] rfl ⟨rfl, trivial⟩ ?_
        exact ZH.ls _ (by kernel_rfl) (N2_1_0 V)
      · refine one_step (fun B1 F1 w1 => ?_)
        refine AOps.run tok 1 _ _ _ _ rfl ?_
        refine AOps.nil ⟨rfl, ?_⟩
        refine ZH.to [1, 2, 3, 4] [(1, .bx [dS l.nm, BodiesD l.bodies, JointsD l.joints, DriversD l.drivers]), (2, .ow 3 (IsL [])), (3, .ow 3 (IsL [])), (4, .wn false 4 (((List.replicate l.bodies.length false).set 0 true).map (fun b => dB b)) 0 l.bodies.length)] rfl ⟨rfl, trivial⟩ ?_
        exact ZH.ls _ (by kernel_rfl) (N3_0_0 V)
    refine ZH.meet 7 #[false, false, true, false, false, false, false, false] (fun V => []) (fun V => [(1, .bx [dS l.nm, BodiesD l.bodies, JointsD l.joints, DriversD l.drivers]), (2, .ow 3 (IsL [])), (3, .ow 3 (IsL [])), (18, .pt 1 2)]) (fun V => ?_) (fun N0_1_0 => ?_)
    · refine ZH.two 0 3 (by kernel_rfl) rfl rfl rfl rfl (fun _ => rfl) (fun _ => rfl) ⟨rfl, trivial⟩ ?_ ?_
      · refine one_step (fun B1 F1 w1 => ?_)
        refine AOps.run tok 1 _ _ _ _ rfl ?_
        refine AOps.nil ⟨rfl, ?_⟩
        refine ZH.to [1, 2, 3, 16, 18] [(1, .bx [dS l.nm, BodiesD l.bodies, JointsD l.joints, DriversD l.drivers]), (2, .ow 3 (IsL [])), (3, .ow 3 (IsL [])), (16, .d l.D), (18, .pt 1 2)] rfl ⟨rfl, trivial⟩ ?_
        exact ZH.ls _ (by kernel_rfl) (N1_1_0 V)
      · refine one_step (fun B1 F1 w1 => ?_)
        refine AOps.run tok 1 _ _ _ _ rfl ?_
        refine AOps.nil ⟨rfl, ?_⟩
        refine ZH.to [1, 2, 3, 19] [(1, .bx [dS l.nm, BodiesD l.bodies, JointsD l.joints, DriversD l.drivers]), (2, .ow 3 (IsL [])), (3, .ow 3 (IsL [])), (19, .d (JointsD l.joints))] rfl ⟨rfl, trivial⟩ ?_
        exact ZH.ls _ (by kernel_rfl) (N0_2_0 V)
    refine ZH.meet 7 #[true, false, false, false, false, false, false, false] (fun V => []) (fun V => [(1, .bx [dS l.nm, BodiesD l.bodies, JointsD l.joints, DriversD l.drivers]), (2, .ow 3 (IsL [])), (3, .ow 3 (IsL [])), (16, .d l.D)]) (fun V => ?_) (fun N1_0_0 => ?_)
    · refine ZH.two 1 2 (by kernel_rfl) rfl rfl rfl rfl (fun _ => rfl) (fun _ => rfl) ⟨rfl, trivial⟩ ?_ ?_
      · refine one_step (fun B1 F1 w1 => ?_)
        refine AOps.callo tok rfl rfl rfl rfl (r25_only_ok l hl 0 hb1) (plain_bsl _) ?_
        refine AOps.nil ⟨rfl, ?_⟩
        refine ZH.to [1, 2, 3, 17] [(1, .bx [dS l.nm, BodiesD l.bodies, JointsD l.joints, DriversD l.drivers]), (2, .ow 3 (IsL [])), (3, .ow 3 (IsL [])), (17, .wn false 4 (((List.replicate l.bodies.length false).set 0 true).map (fun b => dB b)) 0 l.bodies.length)] rfl ⟨rfl, trivial⟩ ?_
        exact ZH.ls _ (by kernel_rfl) (N2_0_0 V)
      · refine one_step (fun B1 F1 w1 => ?_)
        refine AOps.run tok 1 _ _ _ _ rfl ?_
        refine AOps.nil ⟨rfl, ?_⟩
        refine ZH.to [1, 2, 3, 16, 18] [(1, .bx [dS l.nm, BodiesD l.bodies, JointsD l.joints, DriversD l.drivers]), (2, .ow 3 (IsL [])), (3, .ow 3 (IsL [])), (16, .d l.D), (18, .pt 1 2)] rfl ⟨rfl, trivial⟩ ?_
        exact ZH.ls _ (by kernel_rfl) (N1_1_0 V)
    refine ZH.meet 8 #[false, false, false, false, false, false, false, false] (fun V => []) (fun V => [(1, .bx [dS l.nm, BodiesD l.bodies, JointsD l.joints, DriversD l.drivers]), (2, .ow 3 (IsL [])), (3, .ow 3 (IsL []))]) (fun V => ?_) (fun N0_0_0 => ?_)
    · refine ZH.two 0 2 (by kernel_rfl) rfl rfl rfl rfl (fun _ => rfl) (fun _ => rfl) ⟨rfl, trivial⟩ ?_ ?_
      · refine one_step (fun B1 F1 w1 => ?_)
        refine AOps.run tok 1 _ _ _ _ rfl ?_
        refine AOps.nil ⟨rfl, ?_⟩
        refine ZH.to [1, 2, 3, 16] [(1, .bx [dS l.nm, BodiesD l.bodies, JointsD l.joints, DriversD l.drivers]), (2, .ow 3 (IsL [])), (3, .ow 3 (IsL [])), (16, .d l.D)] rfl ⟨rfl, trivial⟩ ?_
        exact ZH.ls _ (by kernel_rfl) (N1_0_0 V)
      · refine one_step (fun B1 F1 w1 => ?_)
        refine AOps.run tok 1 _ _ _ _ rfl ?_
        refine AOps.nil ⟨rfl, ?_⟩
        refine ZH.to [1, 2, 3, 18] [(1, .bx [dS l.nm, BodiesD l.bodies, JointsD l.joints, DriversD l.drivers]), (2, .ow 3 (IsL [])), (3, .ow 3 (IsL [])), (18, .pt 1 2)] rfl ⟨rfl, trivial⟩ ?_
        exact ZH.ls _ (by kernel_rfl) (N0_1_0 V)
    refine ZH.to [1, 2, 3] [(1, .bx [dS l.nm, BodiesD l.bodies, JointsD l.joints, DriversD l.drivers]), (2, .ow 3 (IsL [])), (3, .ow 3 (IsL []))] rfl ⟨rfl, trivial⟩ ?_
    exact ZH.ls _ (by kernel_rfl) (N0_0_0 nilS)
  refine AW.seq ?_
  refine AW.seq ?_
  refine AW.region ?_   -- "ref.go:113"
  refine AOps.run tok 1 _ _ _ _ rfl ?_
  refine AOps.call tok rfl rfl rfl rfl cF ?_
  refine AOps.run tok 1 _ _ _ _ rfl ?_
  rw [List.length_map]
  refine AOps.run tok 1 _ _ _ _ rfl ?_
  refine AOps.nil ?_
  refine AW.block ?_   -- block 0
  refine AW.loopS [2, 3, 4, 5, 23, 24, 25] (fun m : Nat => [(2, .ow 3 (IsL [])), (3, .ow 3 (IsL [])), (4, .wn false 4 ((knA l gs m).map (fun b => dB b)) 0 l.bodies.length), (5, .ow 4 ((usA l gs m).map (fun b => dB b))), (23, .d (GrpsD gs)), (24, .d (dI gs.length)), (25, .d (dI m))]) (fun m => m ≤ gs.length) (fun m => gs.length - m) 0 rfl (Nat.zero_le _) (fun m hm => ?_)
  · skip
    refine AW.seq ?_
    refine AW.region ?_   -- "ref.go:113"
    refine AOps.run tok 1 _ _ _ _ rfl ?_
    refine AOps.nil ?_
    refine AW.seq ?_
    refine AW.cond rfl (fun h => ?_) (fun h => ?_)
    · have hin : m < gs.length := by have := of_decide_eq_true h; omega
      obtain ⟨A, hg⟩ := hgs m hin
      have hKl := knA_len l gs m
      have hUl := usA_len l gs m
      have hgg := getG hin
      have hK2 : knA l gs (m + 1) = setTs (knA l gs m) (gs.getD m default).bs := rfl
      have hU2 : usA l gs (m + 1) = setTs (usA l gs m) (gs.getD m default).js := rfl
      generalize knA l gs m = K at *
      generalize usA l gs m = U at *
      generalize gs.getD m default = g at *
      have hb2 : g.bs.length ≤ 2 ∧ g.js.length ≤ 3 := by
        have e1 := hg.nb
        have e2 := hg.nj
        have hk := hg.kd
        have : g.kind = 0 ∨ g.kind = 1 ∨ g.kind = 2 ∨ g.kind = 3 := by omega
        rcases this with e | e | e | e <;> rw [e] at e1 e2 <;> simp at e1 e2 <;> omega
      refine AW.skip ?_
      refine AW.seq ?_
      refine AW.block ?_   -- block 1
      refine AW.seq ?_
      refine AW.region ?_   -- "ref.go:113"
      refine AOps.idx tok g.D rfl rfl rfl rfl (Int.natCast_nonneg m) hgg ?_
      refine AOps.run tok 3 _ _ _ _ rfl ?_
      refine AOps.nil ?_
      refine AW.seq ?_
      refine AW.seq ?_
      refine AW.region ?_   -- "ref.go:114"
      refine AOps.run tok 3 _ _ _ _ rfl ?_
      rw [List.length_map]
      refine AOps.run tok 1 _ _ _ _ rfl ?_
      refine AOps.nil ?_
      refine AW.block ?_   -- block 2
      refine AW.loopS [2, 3, 4, 5, 7, 23, 24, 25, 30, 31, 32] (fun i : Nat => [(2, .ow 3 (IsL [])), (3, .ow 3 (IsL [])), (4, .wn false 4 ((setTs K (g.bs.take i)).map (fun b => dB b)) 0 l.bodies.length), (5, .ow 4 ((U).map (fun b => dB b))), (7, .bx g.D.flat), (23, .d (GrpsD gs)), (24, .d (dI gs.length)), (25, .d (dI m)), (30, .d (IsDG g.bs)), (31, .d (dI g.bs.length)), (32, .d (dI i))]) (fun i => i ≤ g.bs.length) (fun i => g.bs.length - i) 0 rfl (Nat.zero_le _) (fun i hi => ?_)
      · skip
        refine AW.seq ?_
        refine AW.region ?_   -- "ref.go:114"
        refine AOps.run tok 1 _ _ _ _ rfl ?_
        refine AOps.nil ?_
        refine AW.seq ?_
        refine AW.cond rfl (fun h => ?_) (fun h => ?_)
        · have hii : i < g.bs.length := by have := of_decide_eq_true h; omega
          obtain ⟨j0, j1, _⟩ := hg.b i hii
          have hjj := getIs hii
          have hset := setTs_take (l := K) hii
          have hVl : (setTs K (g.bs.take i)).length = l.bodies.length := by rw [setTs_length, hKl]
          generalize setTs K (g.bs.take i) = V at *
          generalize g.bs.getD i 0 = j at *
          refine AW.skip ?_
          refine AW.seq ?_
          refine AW.block ?_   -- block 3
          refine AW.seq ?_
          refine AW.region ?_   -- "ref.go:114"
          refine AOps.idx tok (dI j) rfl rfl rfl rfl (Int.natCast_nonneg i) hjj ?_
          refine AOps.run tok 2 _ _ _ _ rfl ?_
          refine AOps.nil ?_
          refine AW.region ?_   -- "ref.go:115"
          refine AOps.run tok 2 _ _ _ _ rfl ?_
          refine AOps.idxw tok rfl rfl rfl rfl j0 (by omega) ?_
          rw [Nat.zero_add]
          refine AOps.storeWT tok rfl rfl rfl (by rw [hVl]; exact j1) ?_
          refine AOps.nil ?_
          rw [hset]
          refine AW.region ?_   -- "ref.go:114"
          refine AOps.run tok 1 _ _ _ _ rfl ?_
          rw [wI64 (x := (i : Int) + 1) (by omega) (by omega)]
          refine AOps.run tok 1 _ _ _ _ rfl ?_
          refine AOps.nil ?_
          exact ⟨i + 1, rfl, hii, by omega⟩
        have hii : i = g.bs.length := by have := of_decide_eq_false h; omega
        subst hii
        rw [List.take_length, ← hK2]
        refine AW.exit ?_
        -- END OF BODY; what follows the loop (from its exit):
        refine AW.seq ?_
        refine AW.region ?_   -- "ref.go:117"
        refine AOps.run tok 3 _ _ _ _ rfl ?_
        rw [List.length_map]
        refine AOps.run tok 1 _ _ _ _ rfl ?_
        refine AOps.nil ?_
        refine AW.block ?_   -- block 4
        refine AW.loopS [2, 3, 4, 5, 23, 24, 25, 41, 42, 43] (fun i : Nat => [(2, .ow 3 (IsL [])), (3, .ow 3 (IsL [])), (4, .wn false 4 ((knA l gs (m + 1)).map (fun b => dB b)) 0 l.bodies.length), (5, .ow 4 ((setTs U (g.js.take i)).map (fun b => dB b))), (23, .d (GrpsD gs)), (24, .d (dI gs.length)), (25, .d (dI m)), (41, .d (IsDG g.js)), (42, .d (dI g.js.length)), (43, .d (dI i))]) (fun i => i ≤ g.js.length) (fun i => g.js.length - i) 0 rfl (Nat.zero_le _) (fun i hi => ?_)
        · skip
          refine AW.seq ?_
          refine AW.region ?_   -- "ref.go:117"
          refine AOps.run tok 1 _ _ _ _ rfl ?_
          refine AOps.nil ?_
          refine AW.seq ?_
          refine AW.cond rfl (fun h => ?_) (fun h => ?_)
          · have hii : i < g.js.length := by have := of_decide_eq_true h; omega
            obtain ⟨j0, j1, _⟩ := hg.j i hii
            have hjj := getIs hii
            have hset := setTs_take (l := U) hii
            have hVl : (setTs U (g.js.take i)).length = l.joints.length := by rw [setTs_length, hUl]
            generalize setTs U (g.js.take i) = V at *
            generalize g.js.getD i 0 = j at *
            refine AW.skip ?_
            refine AW.seq ?_
            refine AW.block ?_   -- block 5
            refine AW.seq ?_
            refine AW.region ?_   -- "ref.go:117"
            refine AOps.idx tok (dI j) rfl rfl rfl rfl (Int.natCast_nonneg i) hjj ?_
            refine AOps.run tok 2 _ _ _ _ rfl ?_
            refine AOps.nil ?_
            refine AW.region ?_   -- "ref.go:118"
            refine AOps.run tok 2 _ _ _ _ rfl ?_
            refine AOps.idxo tok rfl rfl rfl rfl j0 (by rw [List.length_map, hVl]; exact j1) ?_
            refine AOps.storeT tok rfl rfl rfl (by rw [hVl]; exact j1) ?_
            refine AOps.nil ?_
            rw [hset]
            refine AW.region ?_   -- "ref.go:117"
            refine AOps.run tok 1 _ _ _ _ rfl ?_
            rw [wI64 (x := (i : Int) + 1) (by omega) (by omega)]
            refine AOps.run tok 1 _ _ _ _ rfl ?_
            refine AOps.nil ?_
            exact ⟨i + 1, rfl, hii, by omega⟩
          have hii : i = g.js.length := by have := of_decide_eq_false h; omega
          subst hii
          rw [List.take_length, ← hU2]
          refine AW.exit ?_
          -- END OF BODY; what follows the loop (from its exit):
          refine AW.region ?_   -- "ref.go:113"
          refine AOps.run tok 1 _ _ _ _ rfl ?_
          rw [wI64 (x := (m : Int) + 1) (by omega) (by omega)]
          refine AOps.run tok 1 _ _ _ _ rfl ?_
          refine AOps.nil ?_
          exact ⟨m + 1, rfl, hin, by omega⟩
    have hin : m = gs.length := by have := of_decide_eq_false h; omega
    subst hin
    rw [hke, hue]
    refine AW.exit ?_
    -- END OF BODY; what follows the loop (from its exit):
    refine AW.seq ?_
    refine AW.seq ?_
    refine AW.region ?_   -- "ref.go:121"
    refine AOps.run tok 2 _ _ _ _ rfl ?_
    rw [win_len kn hkl]
    refine AOps.run tok 1 _ _ _ _ rfl ?_
    refine AOps.nil ?_
    refine AW.block ?_   -- block 6
    refine AW.loopS [2, 3, 4, 5, 52, 53, 54] (fun i : Nat => [(2, .ow 3 (IsL (misP kn i))), (3, .ow 3 (IsL [])), (4, .wn false 4 ((kn).map (fun b => dB b)) 0 l.bodies.length), (5, .ow 4 ((us).map (fun b => dB b))), (52, .al 4), (53, .d (dI l.bodies.length)), (54, .d (dI i))]) (fun i => i ≤ l.bodies.length) (fun i => l.bodies.length - i) 0 rfl (Nat.zero_le _) (fun i hi => ?_)
    · skip
      refine AW.seq ?_
      refine AW.region ?_   -- "ref.go:121"
      refine AOps.run tok 1 _ _ _ _ rfl ?_
      refine AOps.nil ?_
      refine AW.seq ?_
      refine AW.cond rfl (fun h => ?_) (fun h => ?_)
      · have hii : i < l.bodies.length := by have := of_decide_eq_true h; omega
        have hml := misP_len kn i
        have hms : misP kn (i + 1) = misP kn i ++ (if kn.getD i false = true then [] else [(i : Int)]) := rfl
        refine AW.skip ?_
        refine AW.seq ?_
        refine AW.block ?_   -- block 7
        refine AW.seq ?_
        refine AW.region ?_   -- "ref.go:121"
        refine AOps.run tok 1 _ _ _ _ rfl ?_
        refine AOps.idxw tok rfl rfl rfl rfl (Int.natCast_nonneg i) (by rw [Int.toNat_natCast]; exact hii) ?_
        rw [Nat.zero_add, Int.toNat_natCast]
        refine AOps.loadel tok (dB (kn.getD i false)) rfl rfl rfl rfl (getBs (by omega)) rfl ?_
        refine AOps.run tok 2 _ _ _ _ rfl ?_
        refine AOps.nil ?_
        refine AW.seq ?_
        refine AW.region ?_   -- "ref.go:122"
        refine AOps.run tok 2 _ _ _ _ rfl ?_
        cases hv : kn.getD i false with
        | false =>
          rw [hv] at hms
          have hms : misP kn (i + 1) = misP kn i ++ [(i : Int)] := hms
          refine AOps.nil ?_
          refine AW.condT rfl ?_
          refine AW.region ?_
          refine AOps.run tok 2 _ _ _ _ rfl ?_
          refine AOps.bs tok rfl rfl rfl rfl ?_
          refine AOps.appo tok rfl rfl rfl rfl rfl rfl (by show ((IsL (misP kn i)).length + 1) * 8 ≤ _; rw [List.length_map]; omega) (by show (IsL (misP kn i)).length + 1 ≤ _; rw [List.length_map]; omega) ?_
          refine AOps.run tok 1 _ _ _ _ rfl ?_
          refine AOps.nil ?_
          refine AW.region ?_
          refine AOps.run tok 1 _ _ _ _ rfl ?_
          rw [wI64 (x := (i : Int) + 1) (by omega) (by omega)]
          refine AOps.run tok 1 _ _ _ _ rfl ?_
          refine AOps.nil ?_
          exact ⟨i + 1, by rw [hms, show IsL (misP kn i ++ [(i : Int)]) = IsL (misP kn i) ++ [dI (i : Int)] from List.map_append]; rfl, hii, by omega⟩
        | true =>
          rw [hv] at hms
          have hms : misP kn (i + 1) = misP kn i := hms.trans (List.append_nil _)
          refine AOps.nil ?_
          refine AW.condF rfl ?_
          refine AW.skip ?_
          refine AW.region ?_
          refine AOps.run tok 1 _ _ _ _ rfl ?_
          rw [wI64 (x := (i : Int) + 1) (by omega) (by omega)]
          refine AOps.run tok 1 _ _ _ _ rfl ?_
          refine AOps.nil ?_
          exact ⟨i + 1, by rw [hms]; rfl, hii, by omega⟩
      have hii : i = l.bodies.length := by have := of_decide_eq_false h; omega
      subst hii
      have hm1 : misP kn l.bodies.length = misF kn := by unfold misF; rw [hkl]
      rw [hm1]
      refine AW.exit ?_
      -- END OF BODY; what follows the loop (from its exit):
      refine AW.seq ?_
      refine AW.seq ?_
      refine AW.region ?_   -- "ref.go:126"
      refine AOps.run tok 2 _ _ _ _ rfl ?_
      rw [List.length_map, hul]
      refine AOps.run tok 1 _ _ _ _ rfl ?_
      refine AOps.nil ?_
      refine AW.block ?_   -- block 8
      refine AW.loopS [2, 3, 5, 66, 67, 68] (fun i : Nat => [(2, .ow 3 (IsL (misF kn))), (3, .ow 3 (IsL (misP us i))), (5, .ow 4 ((us).map (fun b => dB b))), (66, .al 5), (67, .d (dI l.joints.length)), (68, .d (dI i))]) (fun i => i ≤ l.joints.length) (fun i => l.joints.length - i) 0 rfl (Nat.zero_le _) (fun i hi => ?_)
      · skip
        refine AW.seq ?_
        refine AW.region ?_   -- "ref.go:126"
        refine AOps.run tok 1 _ _ _ _ rfl ?_
        refine AOps.nil ?_
        refine AW.seq ?_
        refine AW.cond rfl (fun h => ?_) (fun h => ?_)
        · have hii : i < l.joints.length := by have := of_decide_eq_true h; omega
          have hml := misP_len us i
          have hms : misP us (i + 1) = misP us i ++ (if us.getD i false = true then [] else [(i : Int)]) := rfl
          refine AW.skip ?_
          refine AW.seq ?_
          refine AW.block ?_   -- block 9
          refine AW.seq ?_
          refine AW.region ?_   -- "ref.go:126"
          refine AOps.run tok 1 _ _ _ _ rfl ?_
          refine AOps.idxo tok rfl rfl rfl rfl (Int.natCast_nonneg i) (by rw [List.length_map, hul]; exact hii) ?_
          rw [Int.toNat_natCast]
          refine AOps.loadel tok (dB (us.getD i false)) rfl rfl rfl rfl (getBs (by omega)) rfl ?_
          refine AOps.run tok 2 _ _ _ _ rfl ?_
          refine AOps.nil ?_
          refine AW.seq ?_
          refine AW.region ?_   -- "ref.go:127"
          refine AOps.run tok 2 _ _ _ _ rfl ?_
          cases hv : us.getD i false with
          | false =>
            rw [hv] at hms
            have hms : misP us (i + 1) = misP us i ++ [(i : Int)] := hms
            refine AOps.nil ?_
            refine AW.condT rfl ?_
            refine AW.region ?_
            refine AOps.run tok 2 _ _ _ _ rfl ?_
            refine AOps.bs tok rfl rfl rfl rfl ?_
            refine AOps.appo tok rfl rfl rfl rfl rfl rfl (by show ((IsL (misP us i)).length + 1) * 8 ≤ _; rw [List.length_map]; omega) (by show (IsL (misP us i)).length + 1 ≤ _; rw [List.length_map]; omega) ?_
            refine AOps.run tok 1 _ _ _ _ rfl ?_
            refine AOps.nil ?_
            refine AW.region ?_
            refine AOps.run tok 1 _ _ _ _ rfl ?_
            rw [wI64 (x := (i : Int) + 1) (by omega) (by omega)]
            refine AOps.run tok 1 _ _ _ _ rfl ?_
            refine AOps.nil ?_
            exact ⟨i + 1, by rw [hms, show IsL (misP us i ++ [(i : Int)]) = IsL (misP us i) ++ [dI (i : Int)] from List.map_append]; rfl, hii, by omega⟩
          | true =>
            rw [hv] at hms
            have hms : misP us (i + 1) = misP us i := hms.trans (List.append_nil _)
            refine AOps.nil ?_
            refine AW.condF rfl ?_
            refine AW.skip ?_
            refine AW.region ?_
            refine AOps.run tok 1 _ _ _ _ rfl ?_
            rw [wI64 (x := (i : Int) + 1) (by omega) (by omega)]
            refine AOps.run tok 1 _ _ _ _ rfl ?_
            refine AOps.nil ?_
            exact ⟨i + 1, by rw [hms]; rfl, hii, by omega⟩
        have hii : i = l.joints.length := by have := of_decide_eq_false h; omega
        subst hii
        have hm1 : misP us l.joints.length = misF us := by unfold misF; rw [hul]
        rw [hm1]
        refine AW.exit ?_
        -- END OF BODY; what follows the loop (from its exit):
        refine AW.seq ?_
        refine AW.region ?_   -- "ref.go:131"
        refine AOps.frz tok 2 rfl rfl ?_
        refine AOps.frz tok 3 rfl rfl ?_
        refine AOps.run tok 4 _ _ _ _ rfl ?_
        refine AOps.nil ?_
        exact AW.ret rfl
theorem misP_nil {l : List Bool} : ∀ i, (∀ k, k < i → l.getD k false = true) → misP l i = []
  | 0, _ => rfl
  | i + 1, h => by
    rw [misP, misP_nil i (fun k hk => h k (by omega)), h i (by omega), if_pos rfl]; rfl
theorem misP_some {l : List Bool} : ∀ i k, k < i → l.getD k false = false → 0 < (misP l i).length
  | 0, k, hk, _ => by omega
  | i + 1, k, hk, h => by
    rw [misP, List.length_append]
    by_cases e : k = i
    · subst e
      rw [h, if_neg (by simp)]
      simp
    · have := misP_some i k (by omega) h
      omega
theorem misF_any (l : List Bool) : (0 < (misF l).length) = (anyN l = true) := by
  refine propext ⟨fun h => ?_, fun h => ?_⟩
  · cases hv : anyN l
    · exfalso
      have e := anyN_all hv
      have : misF l = [] := misP_nil _ (fun k hk => by
        rw [e, List.getD_eq_getElem?_getD, List.getElem?_replicate, if_pos (by rw [e, List.length_replicate] at hk; simpa using hk)]; rfl)
      rw [this] at h
      simp at h
    · rfl
  · have h0 : 0 ≤ fIx (fun i => false == l.getD i false) l.length 0 := of_decide_eq_true h
    obtain ⟨_, h2, h3⟩ := fIx_lt h0
    have h3 : l.getD (fIx (fun i => false == l.getD i false) l.length 0).toNat false = false := by
      cases hv : l.getD (fIx (fun i => false == l.getD i false) l.length 0).toNat false
      · rfl
      · rw [hv] at h3; cases h3
    exact misP_some _ _ (by omega) h3
def rspD (l : Lkg) : D := if (anyN (findF l).kn || anyN (findF l).us) = true then .tu [.sl 4 [], dI 7] else .tu [GrpsD (findF l).gs, dI 0]
theorem r25_Split_ok (l : Lkg) (h : chk l = 0) : Pure Tryz.prog 16 [l.D] (rspD l) := by
  refine Pure.intro (n := 19) tok Tryz.func16 rfl rfl rfl (Nat.le_of_ble_eq_true rfl) (by kernel_rfl) (fun B F0 w0 => ?_)
  obtain ⟨hl, hb8, hj16, _⟩ := chk_in h
  have cR := r25_Rest_ok l h
  have cF := r25_Find_ok l hl
  have hkl := (findF_len l).1
  have hul := (findF_len l).2
  have m1 := misF_any (findF l).kn
  have m2 := misF_any (findF l).us
  have n1 := misP_len (findF l).kn (findF l).kn.length
  have n2 := misP_len (findF l).us (findF l).us.length
  change (misF (findF l).kn).length ≤ _ at n1
  change (misF (findF l).us).length ≤ _ at n2
  unfold rspD
  generalize anyN (findF l).kn = A at m1 ⊢
  generalize anyN (findF l).us = B' at m2 ⊢
  generalize misF (findF l).kn = M at *
  generalize misF (findF l).us = M' at *
  refine AW.seq ?_
  refine AW.region ?_   -- "ref.go:135"
  refine AOps.run tok 3 _ _ _ _ rfl ?_
  refine AOps.nil ?_
  refine AW.seq ?_
  refine AW.seq ?_
  refine AW.region ?_   -- "ref.go:136"
  refine AOps.run tok 1 _ _ _ _ rfl ?_
  refine AOps.call tok rfl rfl rfl rfl cR ?_
  refine AOps.run tok 5 _ _ _ _ rfl ?_
  refine AOps.nil ?_
  refine AW.seq ?_
  refine AW.region ?_   -- "ref.go:136"
  refine AOps.run tok 2 _ _ _ _ rfl ?_
  rw [List.length_map]
  refine AOps.run tok 2 _ _ _ _ rfl ?_
  rw [List.length_map]
  refine AOps.run tok 1 _ _ _ _ rfl ?_
  rw [wI64 (x := (M.length : Int) + (M'.length : Int)) (by omega) (by omega)]
  refine AOps.run tok 1 _ _ _ _ rfl ?_
  by_cases hp : 0 < M.length + M'.length
  · rw [show decide ((0 : Int) < (M.length : Int) + (M'.length : Int)) = true from decide_eq_true (by omega)]
    have hab : (A || B') = true := by
      rw [Bool.or_eq_true]
      rcases Nat.lt_or_ge 0 M.length with q | q
      · exact .inl (m1 ▸ q)
      · exact .inr (m2 ▸ (by omega : 0 < M'.length))
    rw [if_pos hab]
    refine AOps.nil ?_
    refine AW.condT rfl ?_
    refine AW.seq ?_
    refine AW.region ?_
    refine AOps.run tok 2 _ _ _ _ rfl ?_
    refine AOps.nil ?_
    exact AW.ret rfl
  · rw [show decide ((0 : Int) < (M.length : Int) + (M'.length : Int)) = false from decide_eq_false (by omega)]
    have hab : ¬ (A || B') = true := fun hab => by
      rw [Bool.or_eq_true] at hab
      rcases hab with q | q
      · have : 0 < M.length := m1 ▸ q
        omega
      · have : 0 < M'.length := m2 ▸ q
        omega
    rw [if_neg hab]
    refine AOps.nil ?_
    refine AW.condF rfl ?_
    refine AW.skip ?_
    refine AW.seq ?_
    refine AW.region ?_
    refine AOps.run tok 1 _ _ _ _ rfl ?_
    refine AOps.call tok rfl rfl rfl rfl cF ?_
    refine AOps.run tok 2 _ _ _ _ rfl ?_
    refine AOps.nil ?_
    exact AW.ret rfl
end Lift
/- The model's reading: points, squares of distances. -/
namespace Lift
open Go Go.Proofs

abbrev ratZ : D := .ag [dB false, .sl 1 [], .sl 1 []]
end Lift
/- The statements' helpers: numbers of errors, equal words, equal fractions, sizes. -/
namespace Lift
open Go Go.Proofs

theorem base_Num_ok (n : Nat) : Pure Tryz.prog 9 [erV n] (dI n) := by
  refine Pure.intro (n := 15) tok Tryz.func9 rfl rfl rfl (Nat.le_of_ble_eq_true rfl) (by kernel_rfl) (fun B F0 w0 => ?_)
  cases n with
  | zero =>
    refine AW.seq ?_
    refine AW.region ?_   -- "base.go:10"
    refine AOps.run tok 1 _ _ _ _ rfl ?_
    refine AOps.nil ?_
    refine AW.seq ?_
    refine AW.seq ?_
    refine AW.region ?_   -- "base.go:11"
    refine AOps.run tok 1 _ _ _ _ rfl ?_
    refine AOps.err tok rfl rfl rfl rfl rfl ?_
    refine AOps.nil ?_
    refine AW.condT rfl ?_
    refine AW.seq ?_
    refine AW.region ?_   -- "base.go:12"
    refine AOps.run tok 1 _ _ _ _ rfl ?_
    refine AOps.nil ?_
    exact AW.ret rfl
  | succ m =>
    refine AW.seq ?_
    refine AW.region ?_   -- "base.go:10"
    refine AOps.run tok 1 _ _ _ _ rfl ?_
    refine AOps.nil ?_
    refine AW.seq ?_
    refine AW.seq ?_
    refine AW.region ?_   -- "base.go:11"
    refine AOps.run tok 1 _ _ _ _ rfl ?_
    refine AOps.err tok rfl rfl rfl rfl rfl ?_
    refine AOps.nil ?_
    refine AW.condF rfl ?_
    refine AW.skip ?_
    refine AW.seq ?_
    refine AW.region ?_   -- "base.go:14"
    refine AOps.run tok 1 _ _ _ _ rfl ?_
    refine AOps.ta tok rfl rfl rfl rfl ?_
    refine AOps.run tok 5 _ _ _ _ rfl ?_
    refine AOps.nil ?_
    refine AW.seq ?_
    refine AW.seq ?_
    refine AW.region ?_   -- "base.go:15"
    refine AOps.run tok 2 _ _ _ _ rfl ?_
    refine AOps.nil ?_
    refine AW.condF rfl ?_
    refine AW.skip ?_
    refine AW.seq ?_
    refine AW.region ?_   -- "base.go:18"
    refine AOps.run tok 2 _ _ _ _ rfl ?_
    refine AOps.nil ?_
    exact AW.ret rfl

def ptL (p : Mark) : Bool := decide (12 < p.x.n.length + p.x.d.length + p.y.n.length + p.y.d.length)
def bdL (b : Body) : Bool := decide (40 < b.pts.length) || anyF (fun k => ptL (b.pts.getD k default)) b.pts.length 0
def bsL (bs : List Body) : Bool := anyF (fun i => bdL (bs.getD i default)) bs.length 0
def largeB (l : Lkg) : Bool := decide (40 < l.bodies.length ∨ 60 < l.joints.length ∨ 40 < l.drivers.length) || bsL l.bodies
theorem anyF_false {g : Nat → Bool} : ∀ {m i : Nat}, anyF g m i = false → ∀ k, i ≤ k → k < i + m → g k = false
  | 0, i, _, k, h1, h2 => by omega
  | m + 1, i, h, k, h1, h2 => by
    rw [anyF, Bool.or_eq_false_iff] at h
    rcases Nat.eq_or_lt_of_le h1 with e | e
    · rw [← e]; exact h.1
    · exact anyF_false h.2 k e (by omega)
theorem Lkg.ok.small {l : Lkg} {K : Nat} (hl : l.ok K) (h : largeB l = false) : l.ok 12 := by
  unfold largeB at h
  rw [Bool.or_eq_false_iff] at h
  have h2 := h.2
  refine ⟨hl.nm, hl.nb, hl.nj, hl.nd, fun i => ?_, hl.j, hl.d⟩
  obtain ⟨b1, b2, b3⟩ := hl.b i
  refine ⟨b1, b2, fun k => ?_⟩
  obtain ⟨p1, p2, p3⟩ := b3 k
  have hdef : (default : Mark).ok 12 := ⟨by decide, ⟨W32.nil, W32.nil, by decide, by decide⟩, ⟨W32.nil, W32.nil, by decide, by decide⟩⟩
  by_cases hi : i < l.bodies.length
  · have h3 := anyF_false h2 i (Nat.zero_le _) (by omega)
    unfold bdL at h3
    rw [Bool.or_eq_false_iff] at h3
    by_cases hk : k < (l.bodies.getD i default).pts.length
    · have h4 := of_decide_eq_false (anyF_false h3.2 k (Nat.zero_le _) (by omega))
      exact ⟨p1, ⟨p2.1, p2.2.1, by omega, by omega⟩, ⟨p3.1, p3.2.1, by omega, by omega⟩⟩
    · rw [show (l.bodies.getD i default).pts.getD k default = default by rw [List.getD_eq_getElem?_getD, List.getElem?_eq_none (by omega)]; rfl]
      exact hdef
  · rw [show l.bodies.getD i default = default by rw [List.getD_eq_getElem?_getD, List.getElem?_eq_none (by omega)]; rfl]
    exact hdef
end Lift
/- Groups: what is short enough. -/
namespace Lift
open Go Go.Proofs

def lgP (p : Mark) : Bool := decide (4 < p.x.n.length ∨ 4 < p.x.d.length ∨ 4 < p.y.n.length ∨ 4 < p.y.d.length)
def lgB (b : Body) : Bool := decide (30 < b.pts.length) || anyF (fun k => lgP (b.pts.getD k default)) b.pts.length 0
def lightB (l : Lkg) : Bool := !(anyF (fun i => lgB (l.bodies.getD i default)) l.bodies.length 0) && decide (l.bodies.length ≤ 30 ∧ l.joints.length ≤ 60 ∧ l.drivers.length ≤ 30)
set_option maxHeartbeats 1600000 in
theorem law25_Light_ok (l : Lkg) {K : Nat} (hl : l.ok K) (hK : K ≤ big) : Pure Tryz.prog 6 [l.D] (dB (lightB l)) := by
  refine Pure.intro (n := 69) tok Tryz.func6 rfl rfl rfl (Nat.le_of_ble_eq_true rfl) (by kernel_rfl) (fun B F0 w0 => ?_)
  obtain ⟨ln, bs, js, ds⟩ := l
  have hb := hl.b
  have hn := hl.nb
  have hL : lightB ⟨ln, bs, js, ds⟩ = (!(anyF (fun i => lgB (bs.getD i default)) bs.length 0) && decide (bs.length ≤ 30 ∧ js.length ≤ 60 ∧ ds.length ≤ 30)) := rfl
  generalize lightB ⟨ln, bs, js, ds⟩ = E at *
  simp only [] at hb hn
  unfold big at hn hK
  show AW _ _ _ _ _ _ _ (initSt 0 [D.ag [dS ln, BodiesD bs, JointsD js, DriversD ds]])
  refine AW.seq ?_
  refine AW.region ?_   -- "law.go:44"
  refine AOps.run tok 2 _ _ _ _ rfl ?_
  refine AOps.nil ?_
  refine AW.seq ?_
  refine AW.seq ?_
  refine AW.region ?_   -- "law.go:45"
  refine AOps.run tok 3 _ _ _ _ rfl ?_
  rw [List.length_map]
  refine AOps.run tok 1 _ _ _ _ rfl ?_
  refine AOps.nil ?_
  refine AW.block ?_   -- block 0
  refine AW.loopS [1, 8, 9, 10] (fun i : Nat => [(1, .bx [dS ln, BodiesD bs, JointsD js, DriversD ds]), (8, .d (BodiesD bs)), (9, .d (dI bs.length)), (10, .d (dI i))])
     (fun i => i ≤ bs.length ∧ E = (!(anyF (fun i => lgB (bs.getD i default)) (bs.length - i) i) && decide (bs.length ≤ 30 ∧ js.length ≤ 60 ∧ ds.length ≤ 30))) (fun i => bs.length - i) 0 rfl ⟨Nat.zero_le _, hL⟩ (fun i ⟨hi, hE⟩ => ?_)
  · skip
    refine AW.seq ?_
    refine AW.region ?_   -- "law.go:45"
    refine AOps.run tok 1 _ _ _ _ rfl ?_
    refine AOps.nil ?_
    refine AW.seq ?_
    refine AW.cond rfl (fun h => ?_) (fun h => ?_)
    · have hin : i < bs.length := by have := of_decide_eq_true h; omega
      obtain ⟨_, bok2, bok3⟩ := hb i
      have hgt := getM Body.D hin
      have hbd : lgB (bs.getD i default) = true → E = false := fun e => by rw [hE, anyF_hit (f := fun i => lgB (bs.getD i default)) hin e]; rfl
      have hbm : lgB (bs.getD i default) = false → E = (!(anyF (fun i => lgB (bs.getD i default)) (bs.length - (i + 1)) (i + 1)) && decide (bs.length ≤ 30 ∧ js.length ≤ 60 ∧ ds.length ≤ 30)) := fun e => by rw [hE, anyF_miss (f := fun i => lgB (bs.getD i default)) hin e]
      generalize bs.getD i default = b at bok2 bok3 hbd hbm hgt
      unfold big at bok2
      have hbl : lgB b = (decide (30 < b.pts.length) || anyF (fun k => lgP (b.pts.getD k default)) b.pts.length 0) := rfl
      refine AW.skip ?_
      refine AW.seq ?_
      refine AW.block ?_   -- block 1
      refine AW.seq ?_
      refine AW.region ?_   -- "law.go:45"
      refine AOps.idx tok b.D rfl rfl rfl rfl (Int.natCast_nonneg i) hgt ?_
      refine AOps.run tok 3 _ _ _ _ rfl ?_
      refine AOps.nil ?_
      refine AW.seq ?_
      refine AW.seq ?_
      refine AW.region ?_   -- "law.go:46"
      refine AOps.run tok 3 _ _ _ _ rfl ?_
      rw [List.length_map]
      refine AOps.run tok 1 _ _ _ _ rfl ?_
      refine AOps.nil ?_
      refine AW.cond rfl (fun h => ?_) (fun h => ?_)
      · have h40 : 30 < b.pts.length := by have := of_decide_eq_true h; omega
        rw [hbd (by rw [hbl, decide_eq_true h40]; rfl)]
        refine AW.seq ?_
        refine AW.region ?_   -- "law.go:47"
        refine AOps.run tok 1 _ _ _ _ rfl ?_
        refine AOps.nil ?_
        exact AW.ret rfl
      · have h40 : ¬ 30 < b.pts.length := by have := of_decide_eq_false h; omega
        rw [decide_eq_false h40, Bool.false_or] at hbl
        refine AW.skip ?_
        refine AW.seq ?_
        refine AW.region ?_   -- "law.go:49"
        refine AOps.run tok 3 _ _ _ _ rfl ?_
        rw [List.length_map]
        refine AOps.run tok 1 _ _ _ _ rfl ?_
        refine AOps.nil ?_
        refine AW.block ?_   -- block 2
        refine AW.loopS [1, 8, 9, 10, 19, 20, 21] (fun k : Nat => [(1, .bx [dS ln, BodiesD bs, JointsD js, DriversD ds]), (8, .d (BodiesD bs)), (9, .d (dI bs.length)), (10, .d (dI i)), (19, .d (PtsD b.pts)), (20, .d (dI b.pts.length)), (21, .d (dI k))])
           (fun k => k ≤ b.pts.length ∧ lgB b = anyF (fun k => lgP (b.pts.getD k default)) (b.pts.length - k) k) (fun k => b.pts.length - k) 0 rfl ⟨Nat.zero_le _, hbl⟩ (fun k ⟨hk, hP⟩ => ?_)
        · skip
          refine AW.seq ?_
          refine AW.region ?_   -- "law.go:49"
          refine AOps.run tok 1 _ _ _ _ rfl ?_
          refine AOps.nil ?_
          refine AW.seq ?_
          refine AW.cond rfl (fun h => ?_) (fun h => ?_)
          · have hkn : k < b.pts.length := by have := of_decide_eq_true h; omega
            have hpt := getM Mark.D hkn
            have hph : lgP (b.pts.getD k default) = true → lgB b = true := fun e => hP.trans (anyF_hit hkn e)
            have hpm : lgP (b.pts.getD k default) = false → lgB b = anyF (fun k => lgP (b.pts.getD k default)) (b.pts.length - (k + 1)) (k + 1) := fun e => hP.trans (anyF_miss hkn e)
            generalize b.pts.getD k default = p at hpt hph hpm
            have hlp : lgP p = decide (4 < p.x.n.length ∨ 4 < p.x.d.length ∨ 4 < p.y.n.length ∨ 4 < p.y.d.length) := rfl
            generalize lgP p = q at hph hpm hlp
            refine AW.skip ?_
            refine AW.seq ?_
            refine AW.block ?_   -- block 3
            refine AW.seq ?_
            refine AW.region ?_   -- "law.go:49"
            refine AOps.idx tok p.D rfl rfl rfl rfl (Int.natCast_nonneg k) hpt ?_
            refine AOps.run tok 3 _ _ _ _ rfl ?_
            refine AOps.nil ?_
            refine AW.cut [1, 8, 9, 10, 19, 20, 21, 50] (fun _ : Unit => [(1, .bx [dS ln, BodiesD bs, JointsD js, DriversD ds]), (8, .d (BodiesD bs)), (9, .d (dI bs.length)), (10, .d (dI i)), (19, .d (PtsD b.pts)), (20, .d (dI b.pts.length)), (21, .d (dI k)), (50, .d (dB q))]) (fun _ => True) ?_ (fun _ _ => ?_)
            · refine AW.region ?_
              refine AOps.run tok 6 _ _ _ _ rfl ?_
              rw [lenWd]
              refine AOps.split (t := 30) rfl (fun h => ?_) (fun h => ?_)
              · have h1 := of_decide_eq_true h
                refine AOps.run tok 20 _ _ _ _ rfl ?_
                refine AOps.nil ?_
                exact ⟨(), by rw [show q = true by rw [hlp, decide_eq_true_eq]; omega]; rfl, trivial⟩
              have h1 := of_decide_eq_false h
              refine AOps.run tok 7 _ _ _ _ rfl ?_
              rw [lenWd]
              refine AOps.split (t := 37) rfl (fun h => ?_) (fun h => ?_)
              · have h2 := of_decide_eq_true h
                refine AOps.run tok 13 _ _ _ _ rfl ?_
                refine AOps.nil ?_
                exact ⟨(), by rw [show q = true by rw [hlp, decide_eq_true_eq]; omega]; rfl, trivial⟩
              have h2 := of_decide_eq_false h
              refine AOps.run tok 7 _ _ _ _ rfl ?_
              rw [lenWd]
              refine AOps.split (t := 44) rfl (fun h => ?_) (fun h => ?_)
              · have h3 := of_decide_eq_true h
                refine AOps.run tok 6 _ _ _ _ rfl ?_
                refine AOps.nil ?_
                exact ⟨(), by rw [show q = true by rw [hlp, decide_eq_true_eq]; omega]; rfl, trivial⟩
              have h3 := of_decide_eq_false h
              refine AOps.run tok 6 _ _ _ _ rfl ?_
              rw [lenWd]
              refine AOps.nil ?_
              exact ⟨(), by rw [show q = decide ((p.y.d.length : Int) > 4) by rw [hlp, decide_eq_decide]; omega]; rfl, trivial⟩
            refine AW.cond rfl (fun h => ?_) (fun h => ?_)
            · rw [hbd (hph h)]
              refine AW.seq ?_
              refine AW.region ?_   -- "law.go:51"
              refine AOps.run tok 1 _ _ _ _ rfl ?_
              refine AOps.nil ?_
              exact AW.ret rfl
            · skip
              refine AW.skip ?_
              refine AW.region ?_   -- "law.go:49"
              refine AOps.run tok 1 _ _ _ _ rfl ?_
              rw [wI64 (x := (k : Int) + 1) (by omega) (by omega)]
              refine AOps.run tok 1 _ _ _ _ rfl ?_
              refine AOps.nil ?_
              exact ⟨k + 1, rfl, ⟨hkn, hpm h⟩, by omega⟩
          have hkn : ¬ k < b.pts.length := by have := of_decide_eq_false h; omega
          refine AW.exit ?_
            -- exit 2
          -- END OF BODY; what follows the loop (from its exit):
          refine AW.region ?_   -- "law.go:45"
          refine AOps.run tok 1 _ _ _ _ rfl ?_
          rw [wI64 (x := (i : Int) + 1) (by omega) (by omega)]
          refine AOps.run tok 1 _ _ _ _ rfl ?_
          refine AOps.nil ?_
          exact ⟨i + 1, rfl, ⟨hin, hbm (hP.trans (anyF_end hkn))⟩, by omega⟩
    have hin : ¬ i < bs.length := by have := of_decide_eq_false h; omega
    have hE2 : E = decide (bs.length ≤ 30 ∧ js.length ≤ 60 ∧ ds.length ≤ 30) := by rw [hE, anyF_end (f := fun i => lgB (bs.getD i default)) hin]; rfl
    refine AW.exit ?_
      -- exit 0
    -- END OF BODY; what follows the loop (from its exit):
    refine AW.seq ?_
    refine AW.region ?_   -- "law.go:55"   -- GUARDS
    refine AOps.run tok 3 _ _ _ _ rfl ?_
    rw [List.length_map]
    refine AOps.run tok 2 _ _ _ _ rfl ?_
    refine AOps.split (t := 57) rfl (fun h => ?_) (fun h => ?_)
    rotate_left
    · have h1 := of_decide_eq_false h
      rw [hE2, show decide (bs.length ≤ 30 ∧ js.length ≤ 60 ∧ ds.length ≤ 30) = false by rw [decide_eq_false_iff_not]; omega]
      refine AOps.run tok 12 _ _ _ _ rfl ?_
      refine AOps.nil ?_
      exact AW.ret rfl
    have h1 := of_decide_eq_true h
    refine AOps.run tok 3 _ _ _ _ rfl ?_
    rw [List.length_map]
    refine AOps.run tok 3 _ _ _ _ rfl ?_
    refine AOps.split (t := 63) rfl (fun h => ?_) (fun h => ?_)
    rotate_left
    · have h2 := of_decide_eq_false h
      rw [hE2, show decide (bs.length ≤ 30 ∧ js.length ≤ 60 ∧ ds.length ≤ 30) = false by rw [decide_eq_false_iff_not]; omega]
      refine AOps.run tok 6 _ _ _ _ rfl ?_
      refine AOps.nil ?_
      exact AW.ret rfl
    have h2 := of_decide_eq_true h
    refine AOps.run tok 3 _ _ _ _ rfl ?_
    rw [List.length_map]
    refine AOps.run tok 3 _ _ _ _ rfl ?_
    rw [hE2, show decide (bs.length ≤ 30 ∧ js.length ≤ 60 ∧ ds.length ≤ 30) = decide ((ds.length : Int) ≤ 30) by rw [decide_eq_decide]; omega]
    refine AOps.nil ?_
    exact AW.ret rfl
end Lift
/- The model's reading, more: bodies by name, joints and driver of a body; lists of numbers compared. -/
namespace Lift
open Go Go.Proofs

abbrev IsD (l : List Int) : D := .sl 1 (l.map (fun n => dI n))
theorem getI {l : List Int} {i : Nat} (h : i < l.length) : (l.map (fun n => dI n))[((i : Int)).toNat]? = some (dI (l.getD i 0)) := by
  simp [h]
theorem ext_getI {a b : List Int} (hl : a.length = b.length) (h : ∀ k, k < a.length → a.getD k 0 = b.getD k 0) : a = b := by
  refine List.ext_getElem hl (fun k h1 h2 => ?_)
  have := h k h1
  simpa [h1, h2] using this
set_option maxHeartbeats 800000 in
theorem base_Ints_ok (a b : List Int) (ha : a.length ≤ big) : Pure Tryz.prog 11 [IsD a, IsD b] (dB (decide (a = b))) := by
  refine Pure.intro (n := 26) tok Tryz.func11 rfl rfl rfl (Nat.le_of_ble_eq_true rfl) (by kernel_rfl) (fun B F0 w0 => ?_)
  unfold big at ha
  refine AW.seq ?_
  refine AW.region ?_   -- "base.go:22"
  refine AOps.run tok 1 _ _ _ _ rfl ?_
  refine AOps.nil ?_
  refine AW.seq ?_
  refine AW.seq ?_
  refine AW.region ?_   -- "base.go:23"
  refine AOps.run tok 5 _ _ _ _ rfl ?_
  rw [List.length_map, List.length_map]
  refine AOps.nil ?_
  refine AW.cond rfl (fun h => ?_) (fun h => ?_)
  · have hne : a ≠ b := by rintro rfl; simp at h
    rw [decide_eq_false hne]
    refine AW.seq ?_
    refine AW.region ?_   -- "base.go:24"
    refine AOps.run tok 1 _ _ _ _ rfl ?_
    refine AOps.nil ?_
    exact AW.ret rfl
  · have hlen : a.length = b.length := by
      have : (a.length : Int) = b.length := by simpa using h
      omega
    refine AW.skip ?_
    refine AW.seq ?_
    refine AW.seq ?_
    refine AW.region ?_   -- "base.go:26"
    refine AOps.run tok 1 _ _ _ _ rfl ?_
    refine AOps.nil ?_
    refine AW.block ?_   -- block 0
    refine AW.loopS [0, 1, 5] (fun i : Nat => [(0, .d (IsD a)), (1, .d (IsD b)), (5, .d (dI i))]) (fun i => i ≤ a.length ∧ ∀ k, k < i → a.getD k 0 = b.getD k 0) (fun i => a.length - i) 0 rfl
      ⟨Nat.zero_le _, fun k hk => by omega⟩ (fun i ⟨hi, hI⟩ => ?_)
    · skip
      refine AW.seq ?_
      refine AW.seq ?_
      refine AW.region ?_   -- "base.go:26"
      refine AOps.run tok 4 _ _ _ _ rfl ?_
      rw [List.length_map]
      refine AOps.nil ?_
      refine AW.cond rfl (fun h => ?_) (fun h => ?_)
      · have hin : i < a.length := by have := of_decide_eq_true h; omega
        refine AW.skip ?_
        refine AW.seq ?_
        refine AW.block ?_   -- block 1
        refine AW.seq ?_
        refine AW.draw hmix 9 (by kernel_rfl) ?_   -- "base.go:27"
        refine APre.run tok 2 _ _ _ _ rfl ?_
        refine APre.idx tok (dI (a.getD i 0)) rfl rfl rfl rfl rfl (Int.natCast_nonneg i) (getI hin) ?_
        refine APre.run tok 3 _ _ _ _ rfl ?_
        refine APre.idx tok (dI (b.getD i 0)) rfl rfl rfl rfl rfl (Int.natCast_nonneg i) (getI (by omega)) ?_
        refine APre.run tok 2 _ _ _ _ rfl ?_
        refine APre.nil ?_
        refine AOps.nil ?_
        refine AW.cond rfl (fun h => ?_) (fun h => ?_)
        · have hne : a ≠ b := by rintro rfl; simp at h
          rw [decide_eq_false hne]
          refine AW.seq ?_
          refine AW.region ?_   -- "base.go:28"
          refine AOps.run tok 1 _ _ _ _ rfl ?_
          refine AOps.nil ?_
          exact AW.ret rfl
        · have he : a.getD i 0 = b.getD i 0 := by simpa using h
          refine AW.skip ?_
          refine AW.region ?_   -- "base.go:26"
          refine AOps.run tok 3 _ _ _ _ rfl ?_
          rw [wI64 (x := (i : Int) + 1) (by omega) (by omega)]
          refine AOps.nil ?_
          refine ⟨i + 1, rfl, ⟨hin, fun k hk => ?_⟩, by omega⟩
          rcases Nat.lt_or_ge k i with e | e
          · exact hI k e
          · rw [show k = i by omega]; exact he
      · have hin : ¬ i < a.length := by have := of_decide_eq_false h; omega
        have hab : a = b := ext_getI hlen (fun k hk => hI k (by omega))
        rw [decide_eq_true hab]
        refine AW.exit ?_
        refine AW.seq ?_
        refine AW.region ?_
        refine AOps.run tok 1 _ _ _ _ rfl ?_
        refine AOps.nil ?_
        exact AW.ret rfl
end Lift
/- Groups: two lists of groups are the same. -/
namespace Lift
open Go Go.Proofs

def eqG (x y : Grp) : Bool := decide (x.kind = y.kind ∧ x.dr = y.dr ∧ x.bs = y.bs ∧ x.js = y.js)
def sameG (a b : List Grp) : Bool := decide (a.length = b.length) && !(anyF (fun i => !(eqG (a.getD i default) (b.getD i default))) a.length 0)
/-- The lists of a group are short enough. -/
def Grp.ok (g : Grp) : Prop := g.bs.length ≤ big ∧ g.js.length ≤ big
theorem bneT {a b : Int} (h : (a != b) = true) : a ≠ b := bne_iff_ne.1 h
theorem bneG {a b : Int} (h : (a != b) = false) : a = b := by
  by_cases e : a = b
  · exact e
  · rw [bne_iff_ne.2 e] at h; cases h
theorem notFG {b : Bool} (h : (!b) = false) : b = true := by cases b <;> simp_all
set_option maxHeartbeats 1600000 in
theorem r25_Same_ok (a b : List Grp) (hla : a.length ≤ big) (ha : ∀ i, (a.getD i default).ok) : Pure Tryz.prog 17 [GrpsD a, GrpsD b] (dB (sameG a b)) := by
  refine Pure.intro (n := 53) tok Tryz.func17 rfl rfl rfl (Nat.le_of_ble_eq_true rfl) (by kernel_rfl) (fun B F0 w0 => ?_)
  have hL : sameG a b = (decide (a.length = b.length) && !(anyF (fun i => !(eqG (a.getD i default) (b.getD i default))) a.length 0)) := rfl
  generalize sameG a b = E at hL ⊢
  unfold big at hla
  refine AW.seq ?_
  refine AW.region ?_   -- "ref.go:167"
  refine AOps.run tok 1 _ _ _ _ rfl ?_
  refine AOps.nil ?_
  refine AW.seq ?_
  refine AW.seq ?_
  refine AW.region ?_   -- "ref.go:168"
  refine AOps.run tok 5 _ _ _ _ rfl ?_
  rw [List.length_map, List.length_map]
  refine AOps.nil ?_
  refine AW.cond rfl (fun h => ?_) (fun h => ?_)
  · have hne : a.length ≠ b.length := fun e => by
      rw [e] at h
      simp at h
    rw [hL, decide_eq_false hne, Bool.false_and]
    refine AW.seq ?_
    refine AW.region ?_   -- "ref.go:169"
    refine AOps.run tok 1 _ _ _ _ rfl ?_
    refine AOps.nil ?_
    exact AW.ret rfl
  · have hne : a.length = b.length := by
      by_cases e : (a.length : Int) = b.length
      · omega
      · simp [e] at h
    rw [decide_eq_true hne, Bool.true_and] at hL
    refine AW.skip ?_
    refine AW.seq ?_
    refine AW.seq ?_
    refine AW.region ?_   -- "ref.go:171"
    refine AOps.run tok 2 _ _ _ _ rfl ?_
    rw [List.length_map]
    refine AOps.run tok 1 _ _ _ _ rfl ?_
    refine AOps.nil ?_
    refine AW.block ?_   -- block 0
    refine AW.loopS [1, 13, 14, 15] (fun i : Nat => [(1, .d (GrpsD b)), (13, .d (GrpsD a)), (14, .d (dI a.length)), (15, .d (dI i))]) (fun i => i ≤ a.length ∧ E = !(anyF (fun i => !(eqG (a.getD i default) (b.getD i default))) (a.length - i) i)) (fun i => a.length - i) 0 rfl ⟨Nat.zero_le _, hL⟩ (fun i ⟨hi, hE⟩ => ?_)
    · skip
      refine AW.seq ?_
      refine AW.region ?_   -- "ref.go:171"
      refine AOps.run tok 1 _ _ _ _ rfl ?_
      refine AOps.nil ?_
      refine AW.seq ?_
      refine AW.cond rfl (fun h => ?_) (fun h => ?_)
      · have hin : i < a.length := by have := of_decide_eq_true h; omega
        have hga := getG hin
        have hgb := getG (gs := b) (i := i) (by omega)
        obtain ⟨ho1, ho2⟩ := ha i
        have hbd : eqG (a.getD i default) (b.getD i default) = false → E = false := fun e => by rw [hE, anyF_hit (f := fun i => !(eqG (a.getD i default) (b.getD i default))) hin (by rw [e]; rfl)]; rfl
        have hbm : eqG (a.getD i default) (b.getD i default) = true → E = !(anyF (fun i => !(eqG (a.getD i default) (b.getD i default))) (a.length - (i + 1)) (i + 1)) := fun e => by rw [hE, anyF_miss (f := fun i => !(eqG (a.getD i default) (b.getD i default))) hin (by rw [e]; rfl)]
        generalize a.getD i default = x at hga ho1 ho2 hbd hbm
        generalize b.getD i default = y at hgb hbd hbm
        have hq : eqG x y = decide (x.kind = y.kind ∧ x.dr = y.dr ∧ x.bs = y.bs ∧ x.js = y.js) := rfl
        generalize eqG x y = q at hbd hbm hq
        have c1 := base_Ints_ok x.bs y.bs ho1
        have c2 := base_Ints_ok x.js y.js ho2
        refine AW.skip ?_
        refine AW.seq ?_
        refine AW.block ?_   -- block 1
        refine AW.seq ?_
        refine AW.region ?_   -- "ref.go:171"
        refine AOps.run tok 1 _ _ _ _ rfl ?_
        refine AOps.idx tok x.D rfl rfl rfl rfl (Int.natCast_nonneg i) hga ?_
        refine AOps.run tok 4 _ _ _ _ rfl ?_
        refine AOps.nil ?_
        refine AW.seq ?_
        refine AW.region ?_   -- "ref.go:172"
        refine AOps.run tok 2 _ _ _ _ rfl ?_
        refine AOps.idx tok y.D rfl rfl rfl rfl (Int.natCast_nonneg i) hgb ?_
        refine AOps.run tok 3 _ _ _ _ rfl ?_
        refine AOps.nil ?_
        refine AW.cut [1, 13, 14, 15, 51] (fun _ : Unit => [(1, .d (GrpsD b)), (13, .d (GrpsD a)), (14, .d (dI a.length)), (15, .d (dI i)), (51, .d (dB (!q)))]) (fun _ => True) ?_ (fun _ _ => ?_)
        · refine AW.region ?_
          refine AOps.run tok 6 _ _ _ _ rfl ?_
          refine AOps.split (t := 29) rfl (fun h => ?_) (fun h => ?_)
          · have h1 : x.kind ≠ y.kind := bneT h
            refine AOps.run tok 22 _ _ _ _ rfl ?_
            refine AOps.nil ?_
            exact ⟨(), by rw [show q = false by rw [hq, decide_eq_false_iff_not]; exact fun e => h1 e.1]; rfl, trivial⟩
          have h1 : x.kind = y.kind := bneG h
          refine AOps.run tok 7 _ _ _ _ rfl ?_
          refine AOps.split (t := 36) rfl (fun h => ?_) (fun h => ?_)
          · have h2 : x.dr ≠ y.dr := bneT h
            refine AOps.run tok 15 _ _ _ _ rfl ?_
            refine AOps.nil ?_
            exact ⟨(), by rw [show q = false by rw [hq, decide_eq_false_iff_not]; exact fun e => h2 e.2.1]; rfl, trivial⟩
          have h2 : x.dr = y.dr := bneG h
          refine AOps.run tok 4 _ _ _ _ rfl ?_
          refine AOps.call tok rfl rfl rfl rfl c1 ?_
          refine AOps.run tok 3 _ _ _ _ rfl ?_
          refine AOps.split (t := 44) rfl (fun h => ?_) (fun h => ?_)
          · have h3 : x.bs ≠ y.bs := of_decide_eq_false (notT h)
            refine AOps.run tok 7 _ _ _ _ rfl ?_
            refine AOps.nil ?_
            exact ⟨(), by rw [show q = false by rw [hq, decide_eq_false_iff_not]; exact fun e => h3 e.2.2.1]; rfl, trivial⟩
          have h3 : x.bs = y.bs := of_decide_eq_true (notFG h)
          refine AOps.run tok 4 _ _ _ _ rfl ?_
          refine AOps.call tok rfl rfl rfl rfl c2 ?_
          refine AOps.run tok 2 _ _ _ _ rfl ?_
          refine AOps.nil ?_
          exact ⟨(), by rw [show q = decide (x.js = y.js) by rw [hq, decide_eq_decide]; exact ⟨fun e => e.2.2.2, fun e => ⟨h1, h2, h3, e⟩⟩]; rfl, trivial⟩
        refine AW.cond rfl (fun h => ?_) (fun h => ?_)
        · have hqf : q = false := notT h
          rw [hbd hqf]
          refine AW.seq ?_
          refine AW.region ?_   -- "ref.go:173"
          refine AOps.run tok 1 _ _ _ _ rfl ?_
          refine AOps.nil ?_
          exact AW.ret rfl
        · have hqt : q = true := notFG h
          refine AW.skip ?_
          refine AW.region ?_   -- "ref.go:171"
          refine AOps.run tok 1 _ _ _ _ rfl ?_
          rw [wI64 (x := (i : Int) + 1) (by omega) (by omega)]
          refine AOps.run tok 1 _ _ _ _ rfl ?_
          refine AOps.nil ?_
          exact ⟨i + 1, rfl, ⟨hin, hbm hqt⟩, by omega⟩
      have hin : ¬ i < a.length := by have := of_decide_eq_false h; omega
      have hE2 : E = true := by rw [hE, anyF_end (f := fun i => !(eqG (a.getD i default) (b.getD i default))) hin]; rfl
      rw [hE2]
      refine AW.exit ?_
        -- exit 0
      -- END OF BODY; what follows the loop (from its exit):
      refine AW.seq ?_
      refine AW.region ?_   -- "ref.go:176"
      refine AOps.run tok 1 _ _ _ _ rfl ?_
      refine AOps.nil ?_
      exact AW.ret rfl
end Lift
/- Groups: the four-bar. -/
namespace Lift
open Go Go.Proofs

abbrev plcM (nm : ByteArray) (x y : Int) : Mark := ⟨nm, Qr (x : Rat), Qr (y : Rat)⟩
theorem law25_place_ok (nm : ByteArray) (x y : Int) (hx : -1000 ≤ x ∧ x ≤ 1000) (hy : -1000 ≤ y ∧ y ≤ 1000) : Pure Tryz.prog 45 [dS nm, dI x, dI y] (plcM nm x y).D := by
  refine Pure.intro (n := 13) tok Tryz.func45 rfl rfl rfl (Nat.le_of_ble_eq_true rfl) (by kernel_rfl) (fun B F0 w0 => ?_)
  have c1 := r02_Of_ok x (by omega) (by omega)
  have c2 := r02_Of_ok y (by omega) (by omega)
  unfold plcM
  generalize Qr (x : Rat) = p at c1 ⊢
  generalize Qr (y : Rat) = q at c2 ⊢
  refine AW.seq ?_
  refine AW.region ?_
  refine AOps.run tok 1 _ _ _ _ rfl ?_
  refine AOps.nil ?_
  refine AW.seq ?_
  refine AW.region ?_
  refine AOps.run tok 2 _ _ _ _ rfl ?_
  refine AOps.call tok rfl rfl rfl rfl c1 ?_
  refine AOps.run tok 1 _ _ _ _ rfl ?_
  refine AOps.call tok rfl rfl rfl rfl c2 ?_
  refine AOps.run tok 2 _ _ _ _ rfl ?_
  refine AOps.nil ?_
  exact AW.ret rfl
abbrev barB (nm : ByteArray) (n : Int) : Body := ⟨nm, [plcM ⟨#[97]⟩ 0 0, plcM ⟨#[98]⟩ n 0]⟩
theorem law25_bar_ok (nm : ByteArray) (n : Int) (hn : -1000 ≤ n ∧ n ≤ 1000) : Pure Tryz.prog 30 [dS nm, dI n] (barB nm n).D := by
  refine Pure.intro (n := 11) tok Tryz.func30 rfl rfl rfl (Nat.le_of_ble_eq_true rfl) (by kernel_rfl) (fun B F0 w0 => ?_)
  have c1 := law25_place_ok ⟨#[97]⟩ 0 0 (by omega) (by omega)
  have c2 := law25_place_ok ⟨#[98]⟩ n 0 hn (by omega)
  unfold barB
  generalize plcM ⟨#[97]⟩ 0 0 = p at c1 ⊢
  generalize plcM ⟨#[98]⟩ n 0 = q at c2 ⊢
  refine AW.seq ?_
  refine AW.region ?_
  refine AOps.run tok 1 _ _ _ _ rfl ?_
  refine AOps.nil ?_
  refine AW.seq ?_
  refine AW.region ?_
  refine AOps.run tok 1 _ _ _ _ rfl ?_
  refine AOps.call tok rfl rfl rfl rfl c1 ?_
  refine AOps.run tok 1 _ _ _ _ rfl ?_
  refine AOps.call tok rfl rfl rfl rfl c2 ?_
  refine AOps.bsd tok rfl rfl rfl rfl rfl ?_
  refine AOps.run tok 2 _ _ _ _ rfl ?_
  refine AOps.nil ?_
  exact AW.ret rfl
abbrev fourB : List Body := [barB ⟨#[102, 114, 97, 109, 101]⟩ 4, barB ⟨#[99, 114, 97, 110, 107]⟩ 3, barB ⟨#[99, 111, 117, 112, 108, 101, 114]⟩ 5, barB ⟨#[114, 111, 99, 107, 101, 114]⟩ 6]
abbrev fourJ : List Joint := [⟨⟨#[111]⟩, 0, 1, 0, 0, 0, 0⟩, ⟨⟨#[112]⟩, 0, 2, 0, 1, 1, 0⟩, ⟨⟨#[113]⟩, 0, 3, 0, 0, 1, 0⟩, ⟨⟨#[114]⟩, 0, 2, 1, 3, 1, 0⟩]
abbrev fourDr : List Driver := [⟨⟨#[100]⟩, 1⟩]
abbrev fourL : Lkg := ⟨⟨#[102, 111, 117, 114, 98, 97, 114]⟩, fourB, fourJ, fourDr⟩
theorem law25_FourBar_ok : Pure Tryz.prog 18 [] fourL.D := by
  refine Pure.intro (n := 14) tok Tryz.func18 rfl rfl rfl (Nat.le_of_ble_eq_true rfl) (by kernel_rfl) (fun B F0 w0 => ?_)
  have c1 := law25_bar_ok ⟨#[102, 114, 97, 109, 101]⟩ 4 (by omega)
  have c2 := law25_bar_ok ⟨#[99, 114, 97, 110, 107]⟩ 3 (by omega)
  have c3 := law25_bar_ok ⟨#[99, 111, 117, 112, 108, 101, 114]⟩ 5 (by omega)
  have c4 := law25_bar_ok ⟨#[114, 111, 99, 107, 101, 114]⟩ 6 (by omega)
  unfold fourL fourB
  generalize barB ⟨#[102, 114, 97, 109, 101]⟩ 4 = b1 at c1 ⊢
  generalize barB ⟨#[99, 114, 97, 110, 107]⟩ 3 = b2 at c2 ⊢
  generalize barB ⟨#[99, 111, 117, 112, 108, 101, 114]⟩ 5 = b3 at c3 ⊢
  generalize barB ⟨#[114, 111, 99, 107, 101, 114]⟩ 6 = b4 at c4 ⊢
  refine AW.seq ?_
  refine AW.region ?_
  refine AOps.run tok 1 _ _ _ _ rfl ?_
  refine AOps.nil ?_
  refine AW.seq ?_
  refine AW.region ?_
  refine AOps.call tok rfl rfl rfl rfl c1 ?_
  refine AOps.call tok rfl rfl rfl rfl c2 ?_
  refine AOps.call tok rfl rfl rfl rfl c3 ?_
  refine AOps.call tok rfl rfl rfl rfl c4 ?_
  refine AOps.bsd tok rfl rfl rfl rfl rfl ?_
  refine AOps.run tok 4 _ _ _ _ rfl ?_
  refine AOps.bsd tok rfl rfl rfl rfl rfl ?_
  refine AOps.run tok 1 _ _ _ _ rfl ?_
  refine AOps.bsd tok rfl rfl rfl rfl rfl ?_
  refine AOps.run tok 2 _ _ _ _ rfl ?_
  refine AOps.nil ?_
  exact AW.ret rfl
/-- Its groups. -/
abbrev fourG : List Grp := [⟨0, [1], [0], 0⟩, ⟨1, [2, 3], [1, 2, 3], 0⟩]
instance : DecidableEq Grp := fun a b => if h : a.kind = b.kind ∧ a.bs = b.bs ∧ a.js = b.js ∧ a.dr = b.dr then isTrue (by
    cases a; cases b; obtain ⟨h1, h2, h3, h4⟩ := h; simp only [] at h1 h2 h3 h4; subst h1; subst h2; subst h3; subst h4; rfl) else isFalse (fun e => h (by subst e; exact ⟨rfl, rfl, rfl, rfl⟩))
theorem four_find : (findF fourL).gs = fourG ∧ (findF fourL).kn = [true, true, true, true] ∧ (findF fourL).us = [true, true, true, true] := by
  refine ⟨?_, ?_, ?_⟩ <;> decide +kernel
theorem four_chk : chk fourL = 0 := by decide +kernel
end Lift
/- Groups: the fixed fact of the statements. -/
namespace Lift
open Go Go.Proofs

theorem LQ_small (n : Int) (h : -1000 ≤ n ∧ n ≤ 1000) : LQ (n : Rat) ≤ 2 := by
  have h1 := LQ_of n
  have h2 := L_of n (by omega)
  omega
theorem four_ok : fourL.ok 2 := by
  have hw : ∀ n : Int, -1000 ≤ n ∧ n ≤ 1000 → (Qr (n : Rat)).w 2 := fun n hn => Qr_w _ (LQ_small n hn)
  have hdM : (default : Mark).ok 2 := ⟨by decide, ⟨W32.nil, W32.nil, by decide, by decide⟩, ⟨W32.nil, W32.nil, by decide, by decide⟩⟩
  have hdB : (default : Body).ok 2 := ⟨by decide, by decide, fun i => by rw [show (default : Body).pts.getD i default = default from by cases i <;> rfl]; exact hdM⟩
  have two : ∀ (nm : ByteArray) (n : Int), nm.size ≤ big → -1000 ≤ n ∧ n ≤ 1000 → (barB nm n).ok 2 := fun nm n hn hb => ⟨hn, (by show 2 ≤ big; decide), fun i => by
    match i with
    | 0 => exact ⟨by show 1 ≤ big; decide, hw 0 (by omega), hw 0 (by omega)⟩
    | 1 => exact ⟨by show 1 ≤ big; decide, hw n hb, hw 0 (by omega)⟩
    | i + 2 => exact hdM⟩
  refine ⟨(by show 7 ≤ big; decide), (by show 4 ≤ big; decide), (by show 4 ≤ big; decide), (by show 1 ≤ big; decide), fun i => ?_, fun i => ?_, fun i => ?_⟩
  · match i with
    | 0 => exact two _ 4 (by decide) (by omega)
    | 1 => exact two _ 3 (by decide) (by omega)
    | 2 => exact two _ 5 (by decide) (by omega)
    | 3 => exact two _ 6 (by decide) (by omega)
    | i + 4 => exact hdB
  · match i with
    | 0 => show 1 ≤ big; decide
    | 1 => show 1 ≤ big; decide
    | 2 => show 1 ≤ big; decide
    | 3 => show 1 ≤ big; decide
    | i + 4 => show (default : ByteArray).size ≤ big; decide
  · match i with
    | 0 => show 1 ≤ big; decide
    | i + 1 => show (default : ByteArray).size ≤ big; decide
theorem four_split : splitD fourL = .tu [GrpsD fourG, nilE] := by
  unfold splitD
  rw [four_chk, if_pos rfl, four_find.1, four_find.2.1, four_find.2.2]
  rfl
theorem four_same : Pure Tryz.prog 17 [GrpsD fourG, GrpsD fourG] (dB true) := by
  have := r25_Same_ok fourG fourG (by show 2 ≤ big; decide) (fun i => by
    match i with
    | 0 => exact ⟨by show 1 ≤ big; decide, by show 1 ≤ big; decide⟩
    | 1 => exact ⟨by show 2 ≤ big; decide, by show 3 ≤ big; decide⟩
    | i + 2 => exact ⟨by show 0 ≤ big; decide, by show 0 ≤ big; decide⟩)
  rw [show sameG fourG fourG = true by decide] at this
  exact this
theorem law25_awake_ok : Pure Tryz.prog 5 [] (dB true) := by
  refine Pure.intro (n := 21) tok Tryz.func5 rfl rfl rfl (Nat.le_of_ble_eq_true rfl) (by kernel_rfl) (fun B F0 w0 => ?_)
  have cF := law25_FourBar_ok
  have cS := groups_Split_ok fourL four_ok (by decide)
  rw [four_split] at cS
  have cE := four_same
  generalize fourL = l at cF cS
  refine AW.seq ?_
  refine AW.region ?_
  refine AOps.run tok 1 _ _ _ _ rfl ?_
  refine AOps.nil ?_
  refine AW.seq ?_
  refine AW.region ?_
  refine AOps.call tok rfl rfl rfl rfl cF ?_
  refine AOps.call tok rfl rfl rfl rfl cS ?_
  refine AOps.run tok 5 _ _ _ _ rfl ?_
  refine AOps.nil ?_
  refine AW.seq ?_
  refine AW.region ?_
  refine AOps.run tok 1 _ _ _ _ rfl ?_
  refine AOps.err tok rfl rfl rfl rfl rfl ?_
  refine AOps.run tok 2 _ _ _ _ rfl ?_
  refine AOps.bsd tok rfl rfl rfl rfl rfl ?_
  refine AOps.bsd tok rfl rfl rfl rfl rfl ?_
  refine AOps.run tok 1 _ _ _ _ rfl ?_
  refine AOps.bsd tok rfl rfl rfl rfl rfl ?_
  refine AOps.bsd tok rfl rfl rfl rfl rfl ?_
  refine AOps.run tok 1 _ _ _ _ rfl ?_
  refine AOps.bsd tok rfl rfl rfl rfl rfl ?_
  refine AOps.call tok rfl rfl rfl rfl cE ?_
  refine AOps.run tok 2 _ _ _ _ rfl ?_
  refine AOps.nil ?_
  exact AW.ret rfl
end Lift
/- Groups: the statement GroupsCount. -/
namespace Lift
open Go Go.Proofs

/-- What Light lets pass is small. -/
theorem Lkg.ok.light {l : Lkg} (hl : l.ok big) (h : lightB l = true) : l.ok 4 := by
  unfold lightB at h
  rw [Bool.and_eq_true, Bool.not_eq_true'] at h
  refine ⟨hl.nm, hl.nb, hl.nj, hl.nd, fun i => ?_, hl.j, hl.d⟩
  obtain ⟨h1, h2, h3⟩ := hl.b i
  refine ⟨h1, h2, fun k => ?_⟩
  obtain ⟨p1, p2, p3⟩ := h3 k
  have hdM : (default : Mark).ok 4 := ⟨by decide, ⟨W32.nil, W32.nil, by decide, by decide⟩, ⟨W32.nil, W32.nil, by decide, by decide⟩⟩
  rcases Nat.lt_or_ge i l.bodies.length with hi | hi
  · have hb := anyF_noG h.1 i (Nat.zero_le _) (by omega)
    unfold lgB at hb
    rw [Bool.or_eq_false_iff] at hb
    rcases Nat.lt_or_ge k (l.bodies.getD i default).pts.length with hk | hk
    · have hp := of_decide_eq_false (anyF_noG hb.2 k (Nat.zero_le _) (by omega))
      exact ⟨p1, ⟨p2.1, p2.2.1, by omega, by omega⟩, ⟨p3.1, p3.2.1, by omega, by omega⟩⟩
    · rw [show (l.bodies.getD i default).pts.getD k default = default from by rw [List.getD_eq_getElem?_getD, List.getElem?_eq_none hk]; rfl]
      exact hdM
  · rw [show l.bodies.getD i default = default from by rw [List.getD_eq_getElem?_getD, List.getElem?_eq_none hi]; rfl]
    rw [show (default : Body).pts.getD k default = default from by cases k <;> rfl]
    exact hdM
end Lift
/- The reference's check of a linkage. -/
namespace Lift
open Go Go.Proofs

theorem r19_index_ok (i : Int) (n : Nat) : Pure Tryz.prog 38 [dI i, dI n] (dB (inB i n)) := by
  refine Pure.intro (n := 12) tok Tryz.func38 rfl rfl rfl (Nat.le_of_ble_eq_true rfl) (by kernel_rfl) (fun B F0 w0 => ?_)
  refine AW.seq ?_
  refine AW.region ?_   -- "model.go:42"
  refine AOps.run tok 1 _ _ _ _ rfl ?_
  refine AOps.nil ?_
  refine AW.seq ?_
  refine AW.region ?_   -- "model.go:42"   -- GUARDS
  refine AOps.run tok 2 _ _ _ _ rfl ?_
  refine AOps.split (t := 6) rfl (fun h => ?_) (fun h => ?_)
  · have h1 := of_decide_eq_true h
    refine AOps.run tok 6 _ _ _ _ rfl ?_
    refine AOps.nil ?_
    rw [show inB i n = decide (i < n) by unfold inB; rw [decide_eq_decide]; omega]
    exact AW.ret rfl
  · have h1 := of_decide_eq_false h
    refine AOps.run tok 6 _ _ _ _ rfl ?_
    refine AOps.nil ?_
    rw [show inB i n = false by unfold inB; rw [decide_eq_false_iff_not]; omega]
    exact AW.ret rfl

set_option maxHeartbeats 1600000 in
theorem r19_points_ok (b : Body) {K : Nat} (hb : b.ok K) (hK : K ≤ 50000000) : Pure Tryz.prog 37 [b.D] (dI (ptsE b.pts : Nat)) := by
  refine Pure.intro (n := 50) tok Tryz.func37 rfl rfl rfl (Nat.le_of_ble_eq_true rfl) (by kernel_rfl) (fun B F0 w0 => ?_)
  obtain ⟨bn, ps⟩ := b
  obtain ⟨_, hn, hm⟩ := hb
  simp only [] at hn hm
  unfold big at hn
  show AW _ _ _ _ _ _ _ (initSt 0 [D.ag [dS bn, PtsD ps]])
  simp only []
  refine AW.seq ?_
  refine AW.region ?_   -- "ref.go:14"
  refine AOps.run tok 2 _ _ _ _ rfl ?_
  refine AOps.nil ?_
  refine AW.seq ?_
  refine AW.seq ?_
  refine AW.region ?_   -- "ref.go:15"
  refine AOps.run tok 4 _ _ _ _ rfl ?_
  rw [List.length_map]
  refine AOps.nil ?_
  refine AW.cond rfl (fun h => ?_) (fun h => ?_)
  · have h8 : 8 < ps.length := by have := of_decide_eq_true h; omega
    rw [ptsE, if_pos h8]
    refine AW.seq ?_
    refine AW.region ?_   -- "ref.go:16"
    refine AOps.run tok 1 _ _ _ _ rfl ?_
    refine AOps.nil ?_
    exact AW.ret rfl
  have h8 : ¬ 8 < ps.length := by have := of_decide_eq_false h; omega
  rw [ptsE, if_neg h8]
  refine AW.skip ?_
  refine AW.seq ?_
  refine AW.seq ?_
  refine AW.region ?_   -- "ref.go:18"
  refine AOps.run tok 1 _ _ _ _ rfl ?_
  refine AOps.nil ?_
  refine AW.block ?_   -- block 0
  refine AW.loopS [1, 3] (fun i : Nat => [(1, .bx [dS bn, PtsD ps]), (3, .d (dI i))])
    (fun i => i ≤ ps.length ∧ fE (ptE ps) ps.length 0 = fE (ptE ps) (ps.length - i) i) (fun i => ps.length - i) 0 rfl ⟨Nat.zero_le _, rfl⟩ (fun i ⟨hi, hE⟩ => ?_)
  refine AW.seq ?_
  refine AW.seq ?_
  refine AW.region ?_   -- "ref.go:18"
  refine AOps.run tok 5 _ _ _ _ rfl ?_
  rw [List.length_map]
  refine AOps.nil ?_
  refine AW.cond rfl (fun h => ?_) (fun h => ?_)
  · have hin : i < ps.length := by have := of_decide_eq_true h; omega
    obtain ⟨mok1, mok2, mok3⟩ := hm i
    have hbE : ptE ps i ≠ 0 → fE (ptE ps) ps.length 0 = ptE ps i := fun h0 => hE.trans (fE_hit hin h0)
    have hbM : ptE ps i = 0 → fE (ptE ps) ps.length 0 = fE (ptE ps) (ps.length - (i + 1)) (i + 1) := fun h0 => hE.trans (fE_miss hin h0)
    generalize fE (ptE ps) ps.length 0 = E at *
    obtain ⟨m, hme⟩ : ∃ m, m = ps.getD i default := ⟨_, rfl⟩
    rw [← hme] at mok1 mok2 mok3
    unfold big at mok1
    have hdup : dupM ps i = anyF (fun k => decide ((ps.getD k default).nm = m.nm)) i 0 := by rw [hme]; rfl
    have hbd : ptE ps i = if nameB m.nm = false then 5 else if dupM ps i = true then 6 else if m.x.okB = true ∧ m.y.okB = true then 0 else 3 := by rw [hme]; rfl
    refine AW.skip ?_
    refine AW.seq ?_
    refine AW.block ?_   -- block 1
    refine AW.seq ?_
    refine AW.region ?_   -- "ref.go:19"
    refine AOps.run tok 3 _ _ _ _ rfl ?_
    refine AOps.idx tok m.D rfl rfl rfl rfl (Int.natCast_nonneg i) (by rw [hme]; exact getM Mark.D hin) ?_
    refine AOps.run tok 3 _ _ _ _ rfl ?_
    refine AOps.nil ?_
    refine AW.seq ?_
    refine AW.seq ?_
    refine AW.region ?_   -- "ref.go:20"
    refine AOps.run tok 2 _ _ _ _ rfl ?_
    refine AOps.call tok rfl rfl rfl rfl (r18_Name_ok m.nm mok1) ?_
    refine AOps.run tok 1 _ _ _ _ rfl ?_
    refine AOps.nil ?_
    refine AW.cond rfl (fun h => ?_) (fun h => ?_)
    · have hnm : nameB m.nm = false := not_t h
      have h5 : ptE ps i = 5 := by rw [hbd, hnm]; rfl
      rw [show E = 5 by rw [hbE (by omega), h5]]
      refine AW.seq ?_
      refine AW.region ?_   -- "ref.go:21"
      refine AOps.run tok 1 _ _ _ _ rfl ?_
      refine AOps.nil ?_
      exact AW.ret rfl
    have hnm : nameB m.nm = true := by simpa using h
    rw [hnm, if_neg (by decide)] at hbd
    refine AW.skip ?_
    refine AW.seq ?_
    refine AW.seq ?_
    refine AW.region ?_   -- "ref.go:23"
    refine AOps.run tok 1 _ _ _ _ rfl ?_
    refine AOps.nil ?_
    refine AW.block ?_   -- block 2
    refine AW.loopS [1, 3, 4, 5] (fun k : Nat => [(1, .bx [dS bn, PtsD ps]), (3, .d (dI i)), (4, .bx [dS m.nm, dB m.x.g, Wd m.x.n, Wd m.x.d, dB m.y.g, Wd m.y.n, Wd m.y.d]), (5, .d (dI k))])
      (fun k => k ≤ i ∧ dupM ps i = anyF (fun k => decide ((ps.getD k default).nm = m.nm)) (i - k) k) (fun k => i - k) 0 rfl ⟨Nat.zero_le _, hdup⟩ (fun k ⟨hk, hD⟩ => ?_)
    refine AW.seq ?_
    refine AW.seq ?_
    refine AW.region ?_   -- "ref.go:23"
    refine AOps.run tok 3 _ _ _ _ rfl ?_
    refine AOps.nil ?_
    refine AW.cond rfl (fun h => ?_) (fun h => ?_)
    · have hki : k < i := by have := of_decide_eq_true h; omega
      refine AW.skip ?_
      refine AW.seq ?_
      refine AW.block ?_   -- block 3
      refine AW.seq ?_
      refine AW.draw hmix 9 (by kernel_rfl) ?_   -- "ref.go:24"
      refine APre.run tok 3 _ _ _ _ rfl ?_
      refine APre.idx tok (ps.getD k default).D rfl rfl rfl rfl rfl (Int.natCast_nonneg k) (getM Mark.D (by omega)) ?_
      refine APre.run tok 5 _ _ _ _ rfl ?_
      rw [str_eq]
      refine APre.nil ?_
      refine AOps.nil ?_
      refine AW.cond rfl (fun h => ?_) (fun h => ?_)
      · have h6 : ptE ps i = 6 := by rw [hbd, hD.trans (anyF_hit hki h)]; rfl
        rw [show E = 6 by rw [hbE (by omega), h6]]
        refine AW.seq ?_
        refine AW.region ?_   -- "ref.go:25"
        refine AOps.run tok 1 _ _ _ _ rfl ?_
        refine AOps.nil ?_
        exact AW.ret rfl
      · refine AW.skip ?_
        refine AW.region ?_   -- "ref.go:23"
        refine AOps.run tok 3 _ _ _ _ rfl ?_
        rw [wI64 (x := (k : Int) + 1) (by omega) (by omega)]
        refine AOps.nil ?_
        exact ⟨k + 1, rfl, ⟨hki, hD.trans (anyF_miss hki h)⟩, by omega⟩
    · have hki : ¬ k < i := by have := of_decide_eq_false h; omega
      rw [hD.trans (anyF_end hki), if_neg (by decide)] at hbd
      refine AW.exit ?_
      refine AW.cut [1, 3, 49] (fun _ : Unit => [(1, .bx [dS bn, PtsD ps]), (3, .d (dI i)), (49, .d (dB (!decide (m.x.okB = true ∧ m.y.okB = true))))]) (fun _ => True) ?_ (fun _ _ => ?_)
      · refine AW.region ?_   -- "ref.go:28"   -- GUARDS
        refine AOps.run tok 2 _ _ _ _ rfl ?_
        refine AOps.call tok rfl rfl rfl rfl (r02_Valid_ok m.x mok2 (by omega)) ?_
        refine AOps.split (t := 42) rfl (fun h => ?_) (fun h => ?_)
        · refine AOps.run tok 4 _ _ _ _ rfl ?_
          refine AOps.call tok rfl rfl rfl rfl (r02_Valid_ok m.y mok3 (by omega)) ?_   -- guarded
          refine AOps.run tok 2 _ _ _ _ rfl ?_
          refine AOps.nil ?_
          exact ⟨(), by rw [show decide (m.x.okB = true ∧ m.y.okB = true) = m.y.okB by simp [h]]; rfl, trivial⟩
        · refine AOps.run tok 7 _ _ _ _ rfl ?_
          refine AOps.nil ?_
          exact ⟨(), by rw [show decide (m.x.okB = true ∧ m.y.okB = true) = false by simp [h]]; rfl, trivial⟩
      refine AW.cond rfl (fun h => ?_) (fun h => ?_)
      · have hno : ¬ (m.x.okB = true ∧ m.y.okB = true) := fun e => by rw [decide_eq_true e] at h; cases h
        have h3 : ptE ps i = 3 := by rw [hbd, if_neg hno]
        rw [show E = 3 by rw [hbE (by omega), h3]]
        refine AW.seq ?_
        refine AW.region ?_   -- "ref.go:29"
        refine AOps.run tok 1 _ _ _ _ rfl ?_
        refine AOps.nil ?_
        exact AW.ret rfl
      · have hyes : m.x.okB = true ∧ m.y.okB = true := by simpa using h
        rw [if_pos hyes] at hbd
        refine AW.skip ?_
        refine AW.region ?_   -- "ref.go:18"
        refine AOps.run tok 3 _ _ _ _ rfl ?_
        rw [wI64 (x := (i : Int) + 1) (by omega) (by omega)]
        refine AOps.nil ?_
        exact ⟨i + 1, rfl, ⟨hin, hbM hbd⟩, by omega⟩
  · have hin : ¬ i < ps.length := by have := of_decide_eq_false h; omega
    rw [hE, fE_end hin]
    refine AW.exit ?_
    refine AW.seq ?_
    refine AW.region ?_   -- "ref.go:32"
    refine AOps.run tok 1 _ _ _ _ rfl ?_
    refine AOps.nil ?_
    exact AW.ret rfl

set_option maxHeartbeats 1600000 in
theorem r19_bodies_ok (l : Lkg) {K : Nat} (hl : l.ok K) (hK : K ≤ 50000000) : Pure Tryz.prog 22 [l.D] (dI (bodiesE l.bodies : Nat)) := by
  refine Pure.intro (n := 48) tok Tryz.func22 rfl rfl rfl (Nat.le_of_ble_eq_true rfl) (by kernel_rfl) (fun B F0 w0 => ?_)
  obtain ⟨ln, bs, js, ds⟩ := l
  have hb := hl.b
  have hn := hl.nb
  simp only [] at hb hn ⊢
  unfold big at hn
  show AW _ _ _ _ _ _ _ (initSt 0 [D.ag [dS ln, BodiesD bs, JointsD js, DriversD ds]])
  refine AW.seq ?_
  refine AW.region ?_   -- "ref.go:36"
  refine AOps.run tok 2 _ _ _ _ rfl ?_
  refine AOps.nil ?_
  refine AW.seq ?_
  refine AW.seq ?_
  refine AW.region ?_   -- "ref.go:37"
  refine AOps.run tok 1 _ _ _ _ rfl ?_
  refine AOps.nil ?_
  refine AW.block ?_   -- block 0
  refine AW.loopS [1, 3] (fun i : Nat => [(1, .bx [dS ln, BodiesD bs, JointsD js, DriversD ds]), (3, .d (dI i))])
    (fun i => i ≤ bs.length ∧ bodiesE bs = fE (bodyE bs) (bs.length - i) i) (fun i => bs.length - i) 0 rfl ⟨Nat.zero_le _, rfl⟩ (fun i ⟨hi, hE⟩ => ?_)
  refine AW.seq ?_
  refine AW.seq ?_
  refine AW.region ?_   -- "ref.go:37"
  refine AOps.run tok 5 _ _ _ _ rfl ?_
  rw [List.length_map]
  refine AOps.nil ?_
  refine AW.cond rfl (fun h => ?_) (fun h => ?_)
  · have hin : i < bs.length := by have := of_decide_eq_true h; omega
    have hbi := hb i
    have hbE : bodyE bs i ≠ 0 → bodiesE bs = bodyE bs i := fun h0 => hE.trans (fE_hit hin h0)
    have hbM : bodyE bs i = 0 → bodiesE bs = fE (bodyE bs) (bs.length - (i + 1)) (i + 1) := fun h0 => hE.trans (fE_miss hin h0)
    generalize bodiesE bs = E at *
    obtain ⟨b, hbe⟩ : ∃ b, b = bs.getD i default := ⟨_, rfl⟩
    rw [← hbe] at hbi
    have bok := hbi.1
    unfold big at bok
    have hdup : dupB bs i = anyF (fun k => decide ((bs.getD k default).nm = b.nm)) i 0 := by rw [hbe]; rfl
    have hbd : bodyE bs i = if nameB b.nm = false then 5 else if dupB bs i = true then 6 else ptsE b.pts := by rw [hbe]; rfl
    refine AW.skip ?_
    refine AW.seq ?_
    refine AW.block ?_   -- block 1
    refine AW.seq ?_
    refine AW.seq ?_
    refine AW.region ?_   -- "ref.go:38"
    refine AOps.run tok 3 _ _ _ _ rfl ?_
    refine AOps.idx tok b.D rfl rfl rfl rfl (Int.natCast_nonneg i) (by rw [hbe]; exact getM Body.D hin) ?_
    refine AOps.run tok 2 _ _ _ _ rfl ?_
    refine AOps.call tok rfl rfl rfl rfl (r18_Name_ok b.nm bok) ?_
    refine AOps.run tok 1 _ _ _ _ rfl ?_
    refine AOps.nil ?_
    refine AW.cond rfl (fun h => ?_) (fun h => ?_)
    · have hnm : nameB b.nm = false := not_t h
      have h5 : bodyE bs i = 5 := by rw [hbd, hnm]; rfl
      rw [show E = 5 by rw [hbE (by omega), h5]]
      refine AW.seq ?_
      refine AW.region ?_   -- "ref.go:39"
      refine AOps.run tok 1 _ _ _ _ rfl ?_
      refine AOps.nil ?_
      exact AW.ret rfl
    have hnm : nameB b.nm = true := by simpa using h
    rw [hnm, if_neg (by decide)] at hbd
    refine AW.skip ?_
    refine AW.seq ?_
    refine AW.seq ?_
    refine AW.region ?_   -- "ref.go:41"
    refine AOps.run tok 1 _ _ _ _ rfl ?_
    refine AOps.nil ?_
    refine AW.block ?_   -- block 2
    refine AW.loopS [1, 3, 4] (fun k : Nat => [(1, .bx [dS ln, BodiesD bs, JointsD js, DriversD ds]), (3, .d (dI i)), (4, .d (dI k))])
      (fun k => k ≤ i ∧ dupB bs i = anyF (fun k => decide ((bs.getD k default).nm = b.nm)) (i - k) k) (fun k => i - k) 0 rfl ⟨Nat.zero_le _, hdup⟩ (fun k ⟨hk, hD⟩ => ?_)
    refine AW.seq ?_
    refine AW.seq ?_
    refine AW.region ?_   -- "ref.go:41"
    refine AOps.run tok 3 _ _ _ _ rfl ?_
    refine AOps.nil ?_
    refine AW.cond rfl (fun h => ?_) (fun h => ?_)
    · have hki : k < i := by have := of_decide_eq_true h; omega
      refine AW.skip ?_
      refine AW.seq ?_
      refine AW.block ?_   -- block 3
      refine AW.seq ?_
      refine AW.draw hmix 13 (by kernel_rfl) ?_   -- "ref.go:42"
      refine APre.run tok 3 _ _ _ _ rfl ?_
      refine APre.idx tok (bs.getD k default).D rfl rfl rfl rfl rfl (Int.natCast_nonneg k) (getM Body.D (by omega)) ?_
      refine APre.run tok 5 _ _ _ _ rfl ?_
      refine APre.idx tok b.D rfl rfl rfl rfl rfl (Int.natCast_nonneg i) (by rw [hbe]; exact getM Body.D hin) ?_
      refine APre.run tok 3 _ _ _ _ rfl ?_
      rw [str_eq]
      refine APre.nil ?_
      refine AOps.nil ?_
      refine AW.cond rfl (fun h => ?_) (fun h => ?_)
      · have h6 : bodyE bs i = 6 := by rw [hbd, hD.trans (anyF_hit hki h)]; rfl
        rw [show E = 6 by rw [hbE (by omega), h6]]
        refine AW.seq ?_
        refine AW.region ?_   -- "ref.go:43"
        refine AOps.run tok 1 _ _ _ _ rfl ?_
        refine AOps.nil ?_
        exact AW.ret rfl
      · refine AW.skip ?_
        refine AW.region ?_   -- "ref.go:41"
        refine AOps.run tok 3 _ _ _ _ rfl ?_
        rw [wI64 (x := (k : Int) + 1) (by omega) (by omega)]
        refine AOps.nil ?_
        exact ⟨k + 1, rfl, ⟨hki, hD.trans (anyF_miss hki h)⟩, by omega⟩
    · have hki : ¬ k < i := by have := of_decide_eq_false h; omega
      rw [hD.trans (anyF_end hki), if_neg (by decide)] at hbd
      refine AW.exit ?_
      refine AW.seq ?_
      refine AW.region ?_   -- "ref.go:46"
      refine AOps.run tok 3 _ _ _ _ rfl ?_
      refine AOps.idx tok b.D rfl rfl rfl rfl (Int.natCast_nonneg i) (by rw [hbe]; exact getM Body.D hin) ?_
      refine AOps.run tok 1 _ _ _ _ rfl ?_
      refine AOps.call tok rfl rfl rfl rfl (r19_points_ok b hbi hK) ?_
      refine AOps.run tok 1 _ _ _ _ rfl ?_
      refine AOps.nil ?_
      refine AW.seq ?_
      refine AW.region ?_   -- "ref.go:46"
      refine AOps.run tok 2 _ _ _ _ rfl ?_
      refine AOps.nil ?_
      refine AW.cond rfl (fun h => ?_) (fun h => ?_)
      · have h0 : ptsE b.pts ≠ 0 := by rintro e; rw [e] at h; cases h
        rw [show E = ptsE b.pts by rw [hbE (by rw [hbd]; exact h0), hbd]]
        refine AW.seq ?_
        refine AW.region ?_   -- "ref.go:47"
        refine AOps.run tok 2 _ _ _ _ rfl ?_
        refine AOps.nil ?_
        exact AW.ret rfl
      · have h0 : ptsE b.pts = 0 := by
          have : ((ptsE b.pts : Nat) : Int) = 0 := by simpa using h
          omega
        refine AW.skip ?_
        refine AW.region ?_   -- "ref.go:37"
        refine AOps.run tok 3 _ _ _ _ rfl ?_
        rw [wI64 (x := (i : Int) + 1) (by omega) (by omega)]
        refine AOps.nil ?_
        exact ⟨i + 1, rfl, ⟨hin, hbM (by rw [hbd]; exact h0)⟩, by omega⟩
  · have hin : ¬ i < bs.length := by have := of_decide_eq_false h; omega
    rw [hE, fE_end hin]
    refine AW.exit ?_
    refine AW.seq ?_
    refine AW.region ?_   -- "ref.go:50"
    refine AOps.run tok 1 _ _ _ _ rfl ?_
    refine AOps.nil ?_
    exact AW.ret rfl

theorem r19_same_ok (p q : Mark) {K : Nat} (hp : p.ok K) (hq : q.ok K) (hK : K ≤ 5000000) : Pure Tryz.prog 39 [p.D, q.D] (dB (sameM p q)) := by
  refine Pure.intro (n := 19) tok Tryz.func39 rfl rfl rfl (Nat.le_of_ble_eq_true rfl) (by kernel_rfl) (fun B F0 w0 => ?_)
  refine AW.seq ?_
  refine AW.region ?_   -- "ref.go:54"
  refine AOps.run tok 3 _ _ _ _ rfl ?_
  refine AOps.nil ?_
  refine AW.seq ?_
  refine AW.region ?_   -- "ref.go:55"   -- GUARDS
  refine AOps.run tok 4 _ _ _ _ rfl ?_
  refine AOps.call tok rfl rfl rfl rfl (r02_Cmp_ok p.x q.x hp.2.1 hq.2.1 hK) ?_
  refine AOps.run tok 1 _ _ _ _ rfl ?_
  rw [cmpQ_zero]
  refine AOps.split (t := 10) rfl (fun h => ?_) (fun h => ?_)
  · have h1 := of_decide_eq_true h
    refine AOps.run tok 5 _ _ _ _ rfl ?_
    refine AOps.call tok rfl rfl rfl rfl (r02_Cmp_ok p.y q.y hp.2.2 hq.2.2 hK) ?_   -- guarded
    refine AOps.run tok 3 _ _ _ _ rfl ?_
    rw [cmpQ_zero]
    refine AOps.nil ?_
    rw [show sameM p q = decide (p.y.val = q.y.val) by unfold sameM; simp [h1]]
    exact AW.ret rfl
  · have h1 := of_decide_eq_false h
    refine AOps.run tok 9 _ _ _ _ rfl ?_
    refine AOps.nil ?_
    rw [show sameM p q = false by unfold sameM; simp [h1]]
    exact AW.ret rfl

end Lift
/- The reference's check: joints, drivers, the whole. -/
namespace Lift
open Go Go.Proofs

set_option maxHeartbeats 1600000 in
theorem r19_joint_ok (l : Lkg) (i : Nat) {K : Nat} (hl : l.ok K) (hK : K ≤ 5000000) (hin : i < l.joints.length) : Pure Tryz.prog 23 [l.D, dI i] (dI (jointE l.bodies l.joints i : Nat)) := by
  refine Pure.intro (n := 112) tok Tryz.func23 rfl rfl rfl (Nat.le_of_ble_eq_true rfl) (by kernel_rfl) (fun B F0 w0 => ?_)
  obtain ⟨ln, bs, js, ds⟩ := l
  have hb := hl.b
  have jok := hl.j i
  have hn := hl.nj
  simp only [] at hb jok hn hin ⊢
  unfold big at jok hn
  show AW _ _ _ _ _ _ _ (initSt 0 [D.ag [dS ln, BodiesD bs, JointsD js, DriversD ds], dI i])
  obtain ⟨j, hje⟩ : ∃ j, j = js.getD i default := ⟨_, rfl⟩
  rw [← hje] at jok
  have hdup : dupJ js i = anyF (fun k => decide ((js.getD k default).nm = j.nm)) i 0 := by rw [hje]; rfl
  have hbd : jointE bs js i = if nameB j.nm = false then 5 else if dupJ js i = true then 6 else jE bs j := by rw [hje]; rfl
  generalize jointE bs js i = E at *
  refine AW.seq ?_
  refine AW.region ?_   -- "ref.go:59"
  refine AOps.run tok 2 _ _ _ _ rfl ?_
  refine AOps.nil ?_
  refine AW.seq ?_
  refine AW.region ?_   -- "ref.go:60"
  refine AOps.run tok 3 _ _ _ _ rfl ?_
  refine AOps.idx tok j.D rfl rfl rfl rfl (Int.natCast_nonneg i) (by rw [hje]; exact getM Joint.D hin) ?_
  refine AOps.run tok 3 _ _ _ _ rfl ?_
  refine AOps.nil ?_
  obtain ⟨nm, kind, a, pt, b, on, to⟩ := j
  simp only [] at jok hdup hbd
  have hj : jE bs ⟨nm, kind, a, pt, b, on, to⟩ = if kind ≠ 0 ∧ kind ≠ 1 then 7 else if (inB a bs.length && inB b bs.length) = false then 9 else if a = b then 13 else
    if (inB pt (bs.getD a.toNat default).pts.length && inB on (bs.getD b.toNat default).pts.length) = false then 9 else
    if kind = 0 then (if to = 0 then 0 else 2) else if inB to (bs.getD b.toNat default).pts.length = false then 9 else
    if sameM ((bs.getD b.toNat default).pts.getD on.toNat default) ((bs.getD b.toNat default).pts.getD to.toNat default) = true then 8 else 0 := rfl
  generalize jE bs ⟨nm, kind, a, pt, b, on, to⟩ = E2 at *
  refine AW.seq ?_
  refine AW.seq ?_
  refine AW.region ?_   -- "ref.go:61"
  refine AOps.run tok 2 _ _ _ _ rfl ?_
  refine AOps.call tok rfl rfl rfl rfl (r18_Name_ok nm jok) ?_
  refine AOps.run tok 1 _ _ _ _ rfl ?_
  refine AOps.nil ?_
  refine AW.cond rfl (fun h => ?_) (fun h => ?_)
  · rw [if_pos (not_t h)] at hbd
    rw [hbd]
    refine AW.seq ?_
    refine AW.region ?_   -- "ref.go:62"
    refine AOps.run tok 1 _ _ _ _ rfl ?_
    refine AOps.nil ?_
    exact AW.ret rfl
  rw [if_neg (by simpa using h)] at hbd
  refine AW.skip ?_
  refine AW.seq ?_
  refine AW.seq ?_
  refine AW.region ?_   -- "ref.go:64"
  refine AOps.run tok 1 _ _ _ _ rfl ?_
  refine AOps.nil ?_
  refine AW.block ?_   -- block 0
  refine AW.loopS [1, 2, 5, 6] (fun k : Nat => [(1, .d (dI i)), (2, .bx [dS ln, BodiesD bs, JointsD js, DriversD ds]), (5, .bx [dS nm, dI kind, dI a, dI pt, dI b, dI on, dI to]), (6, .d (dI k))])
    (fun k => k ≤ i ∧ dupJ js i = anyF (fun k => decide ((js.getD k default).nm = nm)) (i - k) k) (fun k => i - k) 0 rfl ⟨Nat.zero_le _, hdup⟩ (fun k ⟨hk, hD⟩ => ?_)
  refine AW.seq ?_
  refine AW.seq ?_
  refine AW.region ?_   -- "ref.go:64"
  refine AOps.run tok 3 _ _ _ _ rfl ?_
  refine AOps.nil ?_
  refine AW.cond rfl (fun h => ?_) (fun h => ?_)
  · have hki : k < i := by have := of_decide_eq_true h; omega
    refine AW.skip ?_
    refine AW.seq ?_
    refine AW.block ?_   -- block 1
    refine AW.seq ?_
    refine AW.draw hmix 9 (by kernel_rfl) ?_   -- "ref.go:65"
    refine APre.run tok 3 _ _ _ _ rfl ?_
    refine APre.idx tok (js.getD k default).D rfl rfl rfl rfl rfl (Int.natCast_nonneg k) (getM Joint.D (by omega)) ?_
    refine APre.run tok 5 _ _ _ _ rfl ?_
    rw [str_eq]
    refine APre.nil ?_
    refine AOps.nil ?_
    refine AW.cond rfl (fun h => ?_) (fun h => ?_)
    · rw [hD.trans (anyF_hit hki h)] at hbd
      rw [show E = 6 from hbd]
      refine AW.seq ?_
      refine AW.region ?_   -- "ref.go:66"
      refine AOps.run tok 1 _ _ _ _ rfl ?_
      refine AOps.nil ?_
      exact AW.ret rfl
    · refine AW.skip ?_
      refine AW.region ?_   -- "ref.go:64"
      refine AOps.run tok 3 _ _ _ _ rfl ?_
      rw [wI64 (x := (k : Int) + 1) (by omega) (by omega)]
      refine AOps.nil ?_
      exact ⟨k + 1, rfl, ⟨hki, hD.trans (anyF_miss hki h)⟩, by omega⟩
  have hki : ¬ k < i := by have := of_decide_eq_false h; omega
  rw [hD.trans (anyF_end hki), if_neg (by decide)] at hbd
  rw [hbd]
  clear hbd
  refine AW.exit ?_
  refine AW.seq ?_
  refine AW.cut [2, 5, 39] (fun _ : Unit => [(2, .bx [dS ln, BodiesD bs, JointsD js, DriversD ds]), (5, .bx [dS nm, dI kind, dI a, dI pt, dI b, dI on, dI to]), (39, .d (dB (decide (kind ≠ 0 ∧ kind ≠ 1))))]) (fun _ => True) ?_ (fun _ _ => ?_)
  · refine AW.region ?_   -- "ref.go:69"   -- GUARDS
    refine AOps.run tok 3 _ _ _ _ rfl ?_
    refine AOps.split (t := 34) rfl (fun h => ?_) (fun h => ?_)
    · have h1 : kind ≠ 0 := by simpa using h
      refine AOps.run tok 5 _ _ _ _ rfl ?_
      refine AOps.nil ?_
      exact ⟨(), by rw [show decide (kind ≠ 0 ∧ kind ≠ 1) = (kind != 1) by rw [Bool.eq_iff_iff]; simp [h1]]; rfl, trivial⟩
    · have h1 : kind = 0 := by simpa using h
      refine AOps.run tok 5 _ _ _ _ rfl ?_
      refine AOps.nil ?_
      exact ⟨(), by rw [show decide (kind ≠ 0 ∧ kind ≠ 1) = false by simp [h1]]; rfl, trivial⟩
  refine AW.cond rfl (fun h => ?_) (fun h => ?_)
  · rw [if_pos (of_decide_eq_true h)] at hj
    rw [hj]
    refine AW.seq ?_
    refine AW.region ?_   -- "ref.go:70"
    refine AOps.run tok 1 _ _ _ _ rfl ?_
    refine AOps.nil ?_
    exact AW.ret rfl
  rw [if_neg (of_decide_eq_false h)] at hj
  refine AW.skip ?_
  refine AW.seq ?_
  refine AW.cut [2, 5, 55] (fun _ : Unit => [(2, .bx [dS ln, BodiesD bs, JointsD js, DriversD ds]), (5, .bx [dS nm, dI kind, dI a, dI pt, dI b, dI on, dI to]), (55, .d (dB (!(inB a bs.length && inB b bs.length))))]) (fun _ => True) ?_ (fun _ _ => ?_)
  · refine AW.region ?_   -- "ref.go:72"   -- GUARDS
    refine AOps.run tok 5 _ _ _ _ rfl ?_
    rw [List.length_map]
    refine AOps.call tok rfl rfl rfl rfl (r19_index_ok a bs.length) ?_
    refine AOps.split (t := 45) rfl (fun h => ?_) (fun h => ?_)
    · refine AOps.run tok 7 _ _ _ _ rfl ?_
      rw [List.length_map]
      refine AOps.call tok rfl rfl rfl rfl (r19_index_ok b bs.length) ?_   -- guarded
      refine AOps.run tok 2 _ _ _ _ rfl ?_
      refine AOps.nil ?_
      exact ⟨(), by rw [h]; rfl, trivial⟩
    · refine AOps.run tok 10 _ _ _ _ rfl ?_
      refine AOps.nil ?_
      exact ⟨(), by rw [h]; rfl, trivial⟩
  refine AW.cond rfl (fun h => ?_) (fun h => ?_)
  · rw [if_pos (not_t h)] at hj
    rw [hj]
    refine AW.seq ?_
    refine AW.region ?_   -- "ref.go:73"
    refine AOps.run tok 1 _ _ _ _ rfl ?_
    refine AOps.nil ?_
    exact AW.ret rfl
  have hab : inB a bs.length = true ∧ inB b bs.length = true := by simpa using h
  rw [if_neg (by simp [hab])] at hj
  obtain ⟨ha0, ha1⟩ := inB_t hab.1
  obtain ⟨hb0, hb1⟩ := inB_t hab.2
  obtain ⟨Bb, hBb⟩ : ∃ x, x = bs.getD b.toNat default := ⟨_, rfl⟩
  obtain ⟨Ba, hBa⟩ : ∃ x, x = bs.getD a.toNat default := ⟨_, rfl⟩
  have okb := hb b.toNat
  rw [← hBb] at hj okb
  rw [← hBa] at hj
  refine AW.skip ?_
  refine AW.seq ?_
  refine AW.seq ?_
  refine AW.region ?_   -- "ref.go:75"
  refine AOps.run tok 5 _ _ _ _ rfl ?_
  refine AOps.nil ?_
  refine AW.cond rfl (fun h => ?_) (fun h => ?_)
  · rw [if_pos (by simpa using h)] at hj
    rw [hj]
    refine AW.seq ?_
    refine AW.region ?_   -- "ref.go:76"
    refine AOps.run tok 1 _ _ _ _ rfl ?_
    refine AOps.nil ?_
    exact AW.ret rfl
  rw [if_neg (by simpa using h)] at hj
  refine AW.skip ?_
  refine AW.seq ?_
  refine AW.draw hmix 15 (by kernel_rfl) ?_   -- "ref.go:78"
  refine APre.run tok 4 _ _ _ _ rfl ?_
  refine APre.idx tok Ba.D rfl rfl rfl rfl rfl ha0 (by rw [hBa]; exact getM Body.D ha1) ?_
  refine APre.run tok 6 _ _ _ _ rfl ?_
  refine APre.idx tok Bb.D rfl rfl rfl rfl rfl hb0 (by rw [hBb]; exact getM Body.D hb1) ?_
  refine APre.run tok 3 _ _ _ _ rfl ?_
  refine APre.nil ?_
  refine AOps.run tok 1 _ _ _ _ rfl ?_
  refine AOps.nil ?_
  refine AW.seq ?_
  refine AW.cut [5, 8, 88] (fun _ : Unit => [(5, .bx [dS nm, dI kind, dI a, dI pt, dI b, dI on, dI to]), (8, .d (PtsD Bb.pts)), (88, .d (dB (!(inB pt Ba.pts.length && inB on Bb.pts.length))))]) (fun _ => True) ?_ (fun _ _ => ?_)
  · refine AW.region ?_   -- "ref.go:79"   -- GUARDS
    refine AOps.run tok 4 _ _ _ _ rfl ?_
    rw [List.length_map]
    refine AOps.call tok rfl rfl rfl rfl (r19_index_ok pt Ba.pts.length) ?_
    refine AOps.split (t := 79) rfl (fun h => ?_) (fun h => ?_)
    · refine AOps.run tok 6 _ _ _ _ rfl ?_
      rw [List.length_map]
      refine AOps.call tok rfl rfl rfl rfl (r19_index_ok on Bb.pts.length) ?_   -- guarded
      refine AOps.run tok 2 _ _ _ _ rfl ?_
      refine AOps.nil ?_
      exact ⟨(), by rw [h]; rfl, trivial⟩
    · refine AOps.run tok 9 _ _ _ _ rfl ?_
      refine AOps.nil ?_
      exact ⟨(), by rw [h]; rfl, trivial⟩
  refine AW.cond rfl (fun h => ?_) (fun h => ?_)
  · rw [if_pos (not_t h)] at hj
    rw [hj]
    refine AW.seq ?_
    refine AW.region ?_   -- "ref.go:80"
    refine AOps.run tok 1 _ _ _ _ rfl ?_
    refine AOps.nil ?_
    exact AW.ret rfl
  have hpo : inB pt Ba.pts.length = true ∧ inB on Bb.pts.length = true := by simpa using h
  rw [if_neg (by simp [hpo])] at hj
  obtain ⟨ho0, ho1⟩ := inB_t hpo.2
  refine AW.skip ?_
  refine AW.seq ?_
  refine AW.seq ?_
  refine AW.region ?_   -- "ref.go:82"
  refine AOps.run tok 3 _ _ _ _ rfl ?_
  refine AOps.nil ?_
  refine AW.cond rfl (fun h => ?_) (fun h => ?_)
  · rw [if_pos (by simpa using h)] at hj
    refine AW.seq ?_
    refine AW.seq ?_
    refine AW.region ?_   -- "ref.go:83"
    refine AOps.run tok 3 _ _ _ _ rfl ?_
    refine AOps.nil ?_
    refine AW.cond rfl (fun h => ?_) (fun h => ?_)
    · rw [if_neg (by simpa using h)] at hj
      rw [hj]
      refine AW.seq ?_
      refine AW.region ?_   -- "ref.go:84"
      refine AOps.run tok 1 _ _ _ _ rfl ?_
      refine AOps.nil ?_
      exact AW.ret rfl
    · rw [if_pos (by simpa using h)] at hj
      rw [hj]
      refine AW.skip ?_
      refine AW.seq ?_
      refine AW.region ?_   -- "ref.go:86"
      refine AOps.run tok 1 _ _ _ _ rfl ?_
      refine AOps.nil ?_
      exact AW.ret rfl
  rw [if_neg (by simpa using h)] at hj
  refine AW.skip ?_
  refine AW.seq ?_
  refine AW.seq ?_
  refine AW.region ?_   -- "ref.go:88"
  refine AOps.run tok 4 _ _ _ _ rfl ?_
  rw [List.length_map]
  refine AOps.call tok rfl rfl rfl rfl (r19_index_ok to Bb.pts.length) ?_
  refine AOps.run tok 1 _ _ _ _ rfl ?_
  refine AOps.nil ?_
  refine AW.cond rfl (fun h => ?_) (fun h => ?_)
  · rw [if_pos (not_t h)] at hj
    rw [hj]
    refine AW.seq ?_
    refine AW.region ?_   -- "ref.go:89"
    refine AOps.run tok 1 _ _ _ _ rfl ?_
    refine AOps.nil ?_
    exact AW.ret rfl
  have hto : inB to Bb.pts.length = true := by simpa using h
  rw [if_neg (by simp [hto])] at hj
  obtain ⟨ht0, ht1⟩ := inB_t hto
  obtain ⟨p, hp⟩ : ∃ x, x = Bb.pts.getD on.toNat default := ⟨_, rfl⟩
  obtain ⟨q, hq⟩ : ∃ x, x = Bb.pts.getD to.toNat default := ⟨_, rfl⟩
  have okp := okb.2.2 on.toNat
  have okq := okb.2.2 to.toNat
  rw [← hp] at hj okp
  rw [← hq] at hj okq
  refine AW.skip ?_
  refine AW.seq ?_
  refine AW.seq ?_
  refine AW.draw hmix 11 (by kernel_rfl) ?_   -- "ref.go:91"
  refine APre.run tok 3 _ _ _ _ rfl ?_
  refine APre.idx tok p.D rfl rfl rfl rfl rfl ho0 (by rw [hp]; exact getM Mark.D ho1) ?_
  refine APre.run tok 4 _ _ _ _ rfl ?_
  refine APre.idx tok q.D rfl rfl rfl rfl rfl ht0 (by rw [hq]; exact getM Mark.D ht1) ?_
  refine APre.run tok 1 _ _ _ _ rfl ?_
  refine APre.call tok rfl rfl rfl rfl rfl (r19_same_ok p q okp okq hK) ?_
  refine APre.nil ?_
  refine AOps.nil ?_
  refine AW.cond rfl (fun h => ?_) (fun h => ?_)
  · rw [if_pos h] at hj
    rw [hj]
    refine AW.seq ?_
    refine AW.region ?_   -- "ref.go:92"
    refine AOps.run tok 1 _ _ _ _ rfl ?_
    refine AOps.nil ?_
    exact AW.ret rfl
  · rw [if_neg (by rw [h]; decide)] at hj
    rw [hj]
    refine AW.skip ?_
    refine AW.seq ?_
    refine AW.region ?_   -- "ref.go:94"
    refine AOps.run tok 1 _ _ _ _ rfl ?_
    refine AOps.nil ?_
    exact AW.ret rfl

set_option maxHeartbeats 1600000 in
theorem r19_driver_ok (l : Lkg) (i : Nat) {K : Nat} (hl : l.ok K) (hin : i < l.drivers.length) : Pure Tryz.prog 24 [l.D, dI i] (dI (driverE l.bodies.length l.drivers i : Nat)) := by
  refine Pure.intro (n := 55) tok Tryz.func24 rfl rfl rfl (Nat.le_of_ble_eq_true rfl) (by kernel_rfl) (fun B F0 w0 => ?_)
  obtain ⟨ln, bs, js, ds⟩ := l
  have dok := hl.d i
  have hn := hl.nd
  simp only [] at dok hn hin ⊢
  unfold big at dok hn
  show AW _ _ _ _ _ _ _ (initSt 0 [D.ag [dS ln, BodiesD bs, JointsD js, DriversD ds], dI i])
  obtain ⟨d, hde⟩ : ∃ d, d = ds.getD i default := ⟨_, rfl⟩
  rw [← hde] at dok
  have hdup : dupD ds i = anyF (fun k => decide ((ds.getD k default).nm = d.nm)) i 0 := by rw [hde]; rfl
  have hdup2 : dupT ds i = anyF (fun k => decide ((ds.getD k default).body = d.body)) i 0 := by rw [hde]; rfl
  have hbd : driverE bs.length ds i = if nameB d.nm = false then 5 else if dupD ds i = true then 6 else if inB d.body bs.length = false then 9 else if d.body = 0 then 7 else if dupT ds i = true then 6 else 0 := by rw [hde]; rfl
  generalize driverE bs.length ds i = E at *
  refine AW.seq ?_
  refine AW.region ?_   -- "ref.go:98"
  refine AOps.run tok 2 _ _ _ _ rfl ?_
  refine AOps.nil ?_
  refine AW.seq ?_
  refine AW.region ?_   -- "ref.go:99"
  refine AOps.run tok 3 _ _ _ _ rfl ?_
  refine AOps.idx tok d.D rfl rfl rfl rfl (Int.natCast_nonneg i) (by rw [hde]; exact getM Driver.D hin) ?_
  refine AOps.run tok 3 _ _ _ _ rfl ?_
  refine AOps.nil ?_
  refine AW.seq ?_
  refine AW.seq ?_
  refine AW.region ?_   -- "ref.go:100"
  refine AOps.run tok 2 _ _ _ _ rfl ?_
  refine AOps.call tok rfl rfl rfl rfl (r18_Name_ok d.nm dok) ?_
  refine AOps.run tok 1 _ _ _ _ rfl ?_
  refine AOps.nil ?_
  refine AW.cond rfl (fun h => ?_) (fun h => ?_)
  · rw [if_pos (not_t h)] at hbd
    rw [hbd]
    refine AW.seq ?_
    refine AW.region ?_   -- "ref.go:101"
    refine AOps.run tok 1 _ _ _ _ rfl ?_
    refine AOps.nil ?_
    exact AW.ret rfl
  rw [if_neg (by simpa using h)] at hbd
  refine AW.skip ?_
  refine AW.seq ?_
  refine AW.seq ?_
  refine AW.region ?_   -- "ref.go:103"
  refine AOps.run tok 1 _ _ _ _ rfl ?_
  refine AOps.nil ?_
  refine AW.block ?_   -- block 0
  refine AW.loopS [1, 2, 5, 6] (fun k : Nat => [(1, .d (dI i)), (2, .bx [dS ln, BodiesD bs, JointsD js, DriversD ds]), (5, .bx [dS d.nm, dI d.body]), (6, .d (dI k))])
    (fun k => k ≤ i ∧ dupD ds i = anyF (fun k => decide ((ds.getD k default).nm = d.nm)) (i - k) k) (fun k => i - k) 0 rfl ⟨Nat.zero_le _, hdup⟩ (fun k ⟨hk, hD⟩ => ?_)
  refine AW.seq ?_
  refine AW.seq ?_
  refine AW.region ?_   -- "ref.go:103"
  refine AOps.run tok 3 _ _ _ _ rfl ?_
  refine AOps.nil ?_
  refine AW.cond rfl (fun h => ?_) (fun h => ?_)
  · have hki : k < i := by have := of_decide_eq_true h; omega
    refine AW.skip ?_
    refine AW.seq ?_
    refine AW.block ?_   -- block 1
    refine AW.seq ?_
    refine AW.draw hmix 9 (by kernel_rfl) ?_   -- "ref.go:104"
    refine APre.run tok 3 _ _ _ _ rfl ?_
    refine APre.idx tok (ds.getD k default).D rfl rfl rfl rfl rfl (Int.natCast_nonneg k) (getM Driver.D (by omega)) ?_
    refine APre.run tok 5 _ _ _ _ rfl ?_
    rw [str_eq]
    refine APre.nil ?_
    refine AOps.nil ?_
    refine AW.cond rfl (fun h => ?_) (fun h => ?_)
    · rw [hD.trans (anyF_hit hki h)] at hbd
      rw [show E = 6 from hbd]
      refine AW.seq ?_
      refine AW.region ?_   -- "ref.go:105"
      refine AOps.run tok 1 _ _ _ _ rfl ?_
      refine AOps.nil ?_
      exact AW.ret rfl
    · refine AW.skip ?_
      refine AW.region ?_   -- "ref.go:103"
      refine AOps.run tok 3 _ _ _ _ rfl ?_
      rw [wI64 (x := (k : Int) + 1) (by omega) (by omega)]
      refine AOps.nil ?_
      exact ⟨k + 1, rfl, ⟨hki, hD.trans (anyF_miss hki h)⟩, by omega⟩
  have hki : ¬ k < i := by have := of_decide_eq_false h; omega
  rw [hD.trans (anyF_end hki), if_neg (by decide)] at hbd
  refine AW.exit ?_
  refine AW.seq ?_
  refine AW.seq ?_
  refine AW.region ?_   -- "ref.go:108"
  refine AOps.run tok 5 _ _ _ _ rfl ?_
  rw [List.length_map]
  refine AOps.call tok rfl rfl rfl rfl (r19_index_ok d.body bs.length) ?_
  refine AOps.run tok 1 _ _ _ _ rfl ?_
  refine AOps.nil ?_
  refine AW.cond rfl (fun h => ?_) (fun h => ?_)
  · rw [if_pos (not_t h)] at hbd
    rw [hbd]
    refine AW.seq ?_
    refine AW.region ?_   -- "ref.go:109"
    refine AOps.run tok 1 _ _ _ _ rfl ?_
    refine AOps.nil ?_
    exact AW.ret rfl
  have hinb : inB d.body bs.length = true := by simpa using h
  rw [if_neg (by simp [hinb])] at hbd
  refine AW.skip ?_
  refine AW.seq ?_
  refine AW.seq ?_
  refine AW.region ?_   -- "ref.go:111"
  refine AOps.run tok 3 _ _ _ _ rfl ?_
  refine AOps.nil ?_
  refine AW.cond rfl (fun h => ?_) (fun h => ?_)
  · rw [if_pos (by simpa using h)] at hbd
    rw [hbd]
    refine AW.seq ?_
    refine AW.region ?_   -- "ref.go:112"
    refine AOps.run tok 1 _ _ _ _ rfl ?_
    refine AOps.nil ?_
    exact AW.ret rfl
  rw [if_neg (by simpa using h)] at hbd
  refine AW.skip ?_
  refine AW.seq ?_
  refine AW.seq ?_
  refine AW.region ?_   -- "ref.go:114"
  refine AOps.run tok 1 _ _ _ _ rfl ?_
  refine AOps.nil ?_
  refine AW.block ?_   -- block 2
  refine AW.loopS [1, 2, 5, 7] (fun k : Nat => [(1, .d (dI i)), (2, .bx [dS ln, BodiesD bs, JointsD js, DriversD ds]), (5, .bx [dS d.nm, dI d.body]), (7, .d (dI k))])
    (fun k => k ≤ i ∧ dupT ds i = anyF (fun k => decide ((ds.getD k default).body = d.body)) (i - k) k) (fun k => i - k) 0 rfl ⟨Nat.zero_le _, hdup2⟩ (fun k ⟨hk, hD⟩ => ?_)
  refine AW.seq ?_
  refine AW.seq ?_
  refine AW.region ?_   -- "ref.go:114"
  refine AOps.run tok 3 _ _ _ _ rfl ?_
  refine AOps.nil ?_
  refine AW.cond rfl (fun h => ?_) (fun h => ?_)
  · have hki : k < i := by have := of_decide_eq_true h; omega
    refine AW.skip ?_
    refine AW.seq ?_
    refine AW.block ?_   -- block 3
    refine AW.seq ?_
    refine AW.draw hmix 9 (by kernel_rfl) ?_   -- "ref.go:115"
    refine APre.run tok 3 _ _ _ _ rfl ?_
    refine APre.idx tok (ds.getD k default).D rfl rfl rfl rfl rfl (Int.natCast_nonneg k) (getM Driver.D (by omega)) ?_
    refine APre.run tok 5 _ _ _ _ rfl ?_
    refine APre.nil ?_
    refine AOps.nil ?_
    refine AW.cond rfl (fun h => ?_) (fun h => ?_)
    · have h' : decide ((ds.getD k default).body = d.body) = true := by simpa using h
      rw [hD.trans (anyF_hit hki h')] at hbd
      rw [show E = 6 from hbd]
      refine AW.seq ?_
      refine AW.region ?_   -- "ref.go:116"
      refine AOps.run tok 1 _ _ _ _ rfl ?_
      refine AOps.nil ?_
      exact AW.ret rfl
    · have h' : decide ((ds.getD k default).body = d.body) = false := by simpa using h
      refine AW.skip ?_
      refine AW.region ?_   -- "ref.go:114"
      refine AOps.run tok 3 _ _ _ _ rfl ?_
      rw [wI64 (x := (k : Int) + 1) (by omega) (by omega)]
      refine AOps.nil ?_
      exact ⟨k + 1, rfl, ⟨hki, hD.trans (anyF_miss hki h')⟩, by omega⟩
  have hki : ¬ k < i := by have := of_decide_eq_false h; omega
  rw [hD.trans (anyF_end hki), if_neg (by decide)] at hbd
  rw [hbd]
  refine AW.exit ?_
  refine AW.seq ?_
  refine AW.region ?_   -- "ref.go:119"
  refine AOps.run tok 1 _ _ _ _ rfl ?_
  refine AOps.nil ?_
  exact AW.ret rfl

theorem ne0_of {n : Nat} (h : (((n : Nat) : Int) != 0) = true) : n ≠ 0 := by rintro rfl; cases h
theorem eq0_of {n : Nat} (h : (((n : Nat) : Int) != 0) = false) : n = 0 := by
  have : ((n : Nat) : Int) = 0 := by simpa using h
  omega

set_option maxHeartbeats 1600000 in
theorem r19_Check_ok (l : Lkg) {K : Nat} (hl : l.ok K) (hK : K ≤ 5000000) : Pure Tryz.prog 8 [l.D] (dI (chk l : Nat)) := by
  refine Pure.intro (n := 59) tok Tryz.func8 rfl rfl rfl (Nat.le_of_ble_eq_true rfl) (by kernel_rfl) (fun B F0 w0 => ?_)
  have c1 := r19_bodies_ok l hl (by omega)
  have c2 := fun i => r19_joint_ok l i hl hK
  have c3 := fun i => r19_driver_ok l i hl
  have hcd : chk l = if nameB l.nm = false then 5 else if l.bodies = [] then 10 else if 8 < l.bodies.length then 4 else
    if bodiesE l.bodies ≠ 0 then bodiesE l.bodies else if jointsE l.bodies l.joints ≠ 0 then jointsE l.bodies l.joints else driversE l.bodies.length l.drivers := rfl
  generalize chk l = E at *
  obtain ⟨ln, bs, js, ds⟩ := l
  have hnm := hl.nm
  have hnb := hl.nb
  have hnj := hl.nj
  have hnd := hl.nd
  simp only [] at hcd c1 c2 c3 hnm hnb hnj hnd ⊢
  unfold big at hnm hnb hnj hnd
  show AW _ _ _ _ _ _ _ (initSt 0 [D.ag [dS ln, BodiesD bs, JointsD js, DriversD ds]])
  refine AW.seq ?_
  refine AW.region ?_   -- "ref.go:123"
  refine AOps.run tok 2 _ _ _ _ rfl ?_
  refine AOps.nil ?_
  refine AW.seq ?_
  refine AW.seq ?_
  refine AW.region ?_   -- "ref.go:124"
  refine AOps.run tok 2 _ _ _ _ rfl ?_
  refine AOps.call tok rfl rfl rfl rfl (r18_Name_ok ln hnm) ?_
  refine AOps.run tok 1 _ _ _ _ rfl ?_
  refine AOps.nil ?_
  refine AW.cond rfl (fun h => ?_) (fun h => ?_)
  · rw [if_pos (not_t h)] at hcd
    rw [hcd]
    refine AW.seq ?_
    refine AW.region ?_   -- "ref.go:125"
    refine AOps.run tok 1 _ _ _ _ rfl ?_
    refine AOps.nil ?_
    exact AW.ret rfl
  rw [if_neg (by simpa using h)] at hcd
  refine AW.skip ?_
  refine AW.seq ?_
  refine AW.seq ?_
  refine AW.region ?_   -- "ref.go:127"
  refine AOps.run tok 4 _ _ _ _ rfl ?_
  rw [List.length_map]
  refine AOps.nil ?_
  refine AW.cond rfl (fun h => ?_) (fun h => ?_)
  · have h0 : bs = [] := List.length_eq_zero_iff.1 (by have : (bs.length : Int) = 0 := by simpa using h
                                                       omega)
    rw [if_pos h0] at hcd
    rw [hcd]
    refine AW.seq ?_
    refine AW.region ?_   -- "ref.go:128"
    refine AOps.run tok 1 _ _ _ _ rfl ?_
    refine AOps.nil ?_
    exact AW.ret rfl
  have h0 : bs ≠ [] := by rintro rfl; simp at h
  rw [if_neg h0] at hcd
  refine AW.skip ?_
  refine AW.seq ?_
  refine AW.seq ?_
  refine AW.region ?_   -- "ref.go:130"
  refine AOps.run tok 4 _ _ _ _ rfl ?_
  rw [List.length_map]
  refine AOps.nil ?_
  refine AW.cond rfl (fun h => ?_) (fun h => ?_)
  · have h8 : 8 < bs.length := by have := of_decide_eq_true h; omega
    rw [if_pos h8] at hcd
    rw [hcd]
    refine AW.seq ?_
    refine AW.region ?_   -- "ref.go:131"
    refine AOps.run tok 1 _ _ _ _ rfl ?_
    refine AOps.nil ?_
    exact AW.ret rfl
  have h8 : ¬ 8 < bs.length := by have := of_decide_eq_false h; omega
  rw [if_neg h8] at hcd
  refine AW.skip ?_
  refine AW.seq ?_
  refine AW.seq ?_
  refine AW.region ?_   -- "ref.go:133"
  refine AOps.run tok 1 _ _ _ _ rfl ?_
  refine AOps.call tok rfl rfl rfl rfl c1 ?_
  refine AOps.run tok 1 _ _ _ _ rfl ?_
  refine AOps.nil ?_
  refine AW.seq ?_
  refine AW.region ?_   -- "ref.go:133"
  refine AOps.run tok 2 _ _ _ _ rfl ?_
  refine AOps.nil ?_
  refine AW.cond rfl (fun h => ?_) (fun h => ?_)
  · rw [if_pos (ne0_of h)] at hcd
    rw [hcd]
    refine AW.seq ?_
    refine AW.region ?_   -- "ref.go:134"
    refine AOps.run tok 2 _ _ _ _ rfl ?_
    refine AOps.nil ?_
    exact AW.ret rfl
  rw [if_neg (fun e => e (eq0_of h))] at hcd
  refine AW.skip ?_
  refine AW.seq ?_
  refine AW.seq ?_
  refine AW.region ?_   -- "ref.go:136"
  refine AOps.run tok 4 _ _ _ _ rfl ?_
  rw [List.length_map]
  refine AOps.nil ?_
  refine AW.cond rfl (fun h => ?_) (fun h => ?_)
  · have h16 : 16 < js.length := by have := of_decide_eq_true h; omega
    have hje : jointsE bs js = 4 := by rw [jointsE, if_pos h16]
    rw [hje, if_pos (by decide)] at hcd
    rw [hcd]
    refine AW.seq ?_
    refine AW.region ?_   -- "ref.go:137"
    refine AOps.run tok 1 _ _ _ _ rfl ?_
    refine AOps.nil ?_
    exact AW.ret rfl
  have h16 : ¬ 16 < js.length := by have := of_decide_eq_false h; omega
  have hje : jointsE bs js = fE (jointE bs js) js.length 0 := by rw [jointsE, if_neg h16]
  refine AW.skip ?_
  refine AW.seq ?_
  refine AW.seq ?_
  refine AW.region ?_   -- "ref.go:139"
  refine AOps.run tok 1 _ _ _ _ rfl ?_
  refine AOps.nil ?_
  refine AW.block ?_   -- block 0
  refine AW.loopS [1, 4] (fun i : Nat => [(1, .bx [dS ln, BodiesD bs, JointsD js, DriversD ds]), (4, .d (dI i))])
    (fun i => i ≤ js.length ∧ jointsE bs js = fE (jointE bs js) (js.length - i) i) (fun i => js.length - i) 0 rfl ⟨Nat.zero_le _, hje⟩ (fun i ⟨hi, hE⟩ => ?_)
  refine AW.seq ?_
  refine AW.seq ?_
  refine AW.region ?_   -- "ref.go:139"
  refine AOps.run tok 5 _ _ _ _ rfl ?_
  rw [List.length_map]
  refine AOps.nil ?_
  refine AW.cond rfl (fun h => ?_) (fun h => ?_)
  · have hin : i < js.length := by have := of_decide_eq_true h; omega
    refine AW.skip ?_
    refine AW.seq ?_
    refine AW.block ?_   -- block 1
    refine AW.seq ?_
    refine AW.region ?_   -- "ref.go:140"
    refine AOps.run tok 2 _ _ _ _ rfl ?_
    refine AOps.call tok rfl rfl rfl rfl (c2 i hin) ?_
    refine AOps.run tok 1 _ _ _ _ rfl ?_
    refine AOps.nil ?_
    refine AW.seq ?_
    refine AW.region ?_   -- "ref.go:140"
    refine AOps.run tok 2 _ _ _ _ rfl ?_
    refine AOps.nil ?_
    refine AW.cond rfl (fun h => ?_) (fun h => ?_)
    · rw [hE.trans (fE_hit hin (ne0_of h)), if_pos (ne0_of h)] at hcd
      rw [hcd]
      refine AW.seq ?_
      refine AW.region ?_   -- "ref.go:141"
      refine AOps.run tok 2 _ _ _ _ rfl ?_
      refine AOps.nil ?_
      exact AW.ret rfl
    · refine AW.skip ?_
      refine AW.region ?_   -- "ref.go:139"
      refine AOps.run tok 3 _ _ _ _ rfl ?_
      rw [wI64 (x := (i : Int) + 1) (by omega) (by omega)]
      refine AOps.nil ?_
      exact ⟨i + 1, rfl, ⟨hin, hE.trans (fE_miss hin (eq0_of h))⟩, by omega⟩
  have hin : ¬ i < js.length := by have := of_decide_eq_false h; omega
  rw [hE.trans (fE_end hin), if_neg (by decide)] at hcd
  refine AW.exit ?_
  refine AW.seq ?_
  refine AW.seq ?_
  refine AW.region ?_   -- "ref.go:144"
  refine AOps.run tok 4 _ _ _ _ rfl ?_
  rw [List.length_map]
  refine AOps.nil ?_
  refine AW.cond rfl (fun h => ?_) (fun h => ?_)
  · have h2 : 2 < ds.length := by have := of_decide_eq_true h; omega
    rw [driversE, if_pos h2] at hcd
    rw [hcd]
    refine AW.seq ?_
    refine AW.region ?_   -- "ref.go:145"
    refine AOps.run tok 1 _ _ _ _ rfl ?_
    refine AOps.nil ?_
    exact AW.ret rfl
  have h2 : ¬ 2 < ds.length := by have := of_decide_eq_false h; omega
  rw [driversE, if_neg h2] at hcd
  refine AW.skip ?_
  refine AW.seq ?_
  refine AW.seq ?_
  refine AW.region ?_   -- "ref.go:147"
  refine AOps.run tok 1 _ _ _ _ rfl ?_
  refine AOps.nil ?_
  refine AW.block ?_   -- block 2
  refine AW.loopS [1, 6] (fun i : Nat => [(1, .bx [dS ln, BodiesD bs, JointsD js, DriversD ds]), (6, .d (dI i))])
    (fun i => i ≤ ds.length ∧ E = fE (driverE bs.length ds) (ds.length - i) i) (fun i => ds.length - i) 0 rfl ⟨Nat.zero_le _, hcd⟩ (fun i ⟨hi, hE⟩ => ?_)
  refine AW.seq ?_
  refine AW.seq ?_
  refine AW.region ?_   -- "ref.go:147"
  refine AOps.run tok 5 _ _ _ _ rfl ?_
  rw [List.length_map]
  refine AOps.nil ?_
  refine AW.cond rfl (fun h => ?_) (fun h => ?_)
  · have hin : i < ds.length := by have := of_decide_eq_true h; omega
    refine AW.skip ?_
    refine AW.seq ?_
    refine AW.block ?_   -- block 3
    refine AW.seq ?_
    refine AW.region ?_   -- "ref.go:148"
    refine AOps.run tok 2 _ _ _ _ rfl ?_
    refine AOps.call tok rfl rfl rfl rfl (c3 i hin) ?_
    refine AOps.run tok 1 _ _ _ _ rfl ?_
    refine AOps.nil ?_
    refine AW.seq ?_
    refine AW.region ?_   -- "ref.go:148"
    refine AOps.run tok 2 _ _ _ _ rfl ?_
    refine AOps.nil ?_
    refine AW.cond rfl (fun h => ?_) (fun h => ?_)
    · rw [hE.trans (fE_hit hin (ne0_of h))]
      refine AW.seq ?_
      refine AW.region ?_   -- "ref.go:149"
      refine AOps.run tok 2 _ _ _ _ rfl ?_
      refine AOps.nil ?_
      exact AW.ret rfl
    · refine AW.skip ?_
      refine AW.region ?_   -- "ref.go:147"
      refine AOps.run tok 3 _ _ _ _ rfl ?_
      rw [wI64 (x := (i : Int) + 1) (by omega) (by omega)]
      refine AOps.nil ?_
      exact ⟨i + 1, rfl, ⟨hin, hE.trans (fE_miss hin (eq0_of h))⟩, by omega⟩
  have hin : ¬ i < ds.length := by have := of_decide_eq_false h; omega
  rw [hE.trans (fE_end hin)]
  refine AW.exit ?_
  refine AW.seq ?_
  refine AW.region ?_   -- "ref.go:152"
  refine AOps.run tok 1 _ _ _ _ rfl ?_
  refine AOps.nil ?_
  exact AW.ret rfl
end Lift
/- Groups: the statement GroupsSplits. -/
namespace Lift
open Go Go.Proofs

theorem sameG_self (gs : List Grp) : sameG gs gs = true := by
  unfold sameG
  rw [decide_eq_true rfl, Bool.true_and]
  have : anyF (fun i => !(eqG (gs.getD i default) (gs.getD i default))) gs.length 0 = false := by
    have key : ∀ m i, anyF (fun i => !(eqG (gs.getD i default) (gs.getD i default))) m i = false := fun m => by
      induction m with
      | zero => intro i; rfl
      | succ m ih =>
        intro i
        rw [anyF, ih]
        unfold eqG
        rw [decide_eq_true ⟨rfl, rfl, rfl, rfl⟩]
        rfl
    exact key _ _
  rw [this]
  rfl
set_option maxHeartbeats 3200000 in
theorem law25_Splits_ok (l : Lkg) (hl : l.ok big) : Pure Tryz.prog 4 [l.D] (dB true) := by
  refine Pure.intro (n := 135) tok Tryz.func4 rfl rfl rfl (Nat.le_of_ble_eq_true rfl) (by kernel_rfl) (fun B F0 w0 => ?_)
  have cL := law25_Light_ok l hl (Nat.le_refl _)
  refine AW.seq ?_
  refine AW.region ?_   -- "law.go:59"
  refine AOps.run tok 2 _ _ _ _ rfl ?_
  refine AOps.nil ?_
  refine AW.seq ?_
  refine AW.seq ?_
  cases hL : lightB l with
  | false =>
    rw [hL] at cL
    refine AW.region ?_
    refine AOps.call tok rfl rfl rfl rfl law25_awake_ok ?_
    refine AOps.run tok 3 _ _ _ _ rfl ?_
    refine AOps.call tok rfl rfl rfl rfl cL ?_   -- guarded
    refine AOps.run tok 2 _ _ _ _ rfl ?_
    refine AOps.nil ?_
    refine AW.condT rfl ?_
    refine AW.seq ?_
    refine AW.region ?_
    refine AOps.call tok rfl rfl rfl rfl law25_awake_ok ?_
    refine AOps.run tok 1 _ _ _ _ rfl ?_
    refine AOps.nil ?_
    exact AW.ret rfl
  | true =>
    rw [hL] at cL
    refine AW.region ?_
    refine AOps.call tok rfl rfl rfl rfl law25_awake_ok ?_
    refine AOps.run tok 3 _ _ _ _ rfl ?_
    refine AOps.call tok rfl rfl rfl rfl cL ?_   -- guarded
    refine AOps.run tok 2 _ _ _ _ rfl ?_
    refine AOps.nil ?_
    refine AW.condF rfl ?_
    refine AW.skip ?_
    have hs := hl.light hL
    have cS := groups_Split_ok l hs (by decide)
    have cR := groups_Rest_ok l hs (by decide)
    have cO := groups_Order_ok l hs (by decide)
    have cC := r19_Check_ok l hs (by decide)
    rcases hC : chk l with _ | m
    rotate_left
    · rw [show splitD l = .tu [.sl 4 [], erV (m + 1)] by unfold splitD; rw [hC, if_neg (Nat.succ_ne_zero m)]] at cS
      rw [show restD l = .tu [.sl 1 [], .sl 1 [], erV (m + 1)] by unfold restD; rw [hC, if_neg (Nat.succ_ne_zero m)]] at cR
      rw [show orderD l = .tu [.sl 1 [], erV (m + 1)] by unfold orderD; rw [hC, if_neg (Nat.succ_ne_zero m)]] at cO
      rw [hC] at cC
      refine AW.seq ?_
      refine AW.region ?_   -- "law.go:63"
      refine AOps.run tok 1 _ _ _ _ rfl ?_
      refine AOps.call tok rfl rfl rfl rfl cS ?_
      refine AOps.run tok 5 _ _ _ _ rfl ?_
      refine AOps.nil ?_
      refine AW.seq ?_
      refine AW.region ?_   -- "law.go:64"
      refine AOps.run tok 1 _ _ _ _ rfl ?_
      refine AOps.call tok rfl rfl rfl rfl cR ?_
      refine AOps.run tok 7 _ _ _ _ rfl ?_
      refine AOps.nil ?_
      refine AW.seq ?_
      refine AW.region ?_   -- "law.go:65"
      refine AOps.run tok 1 _ _ _ _ rfl ?_
      refine AOps.call tok rfl rfl rfl rfl cO ?_
      refine AOps.run tok 5 _ _ _ _ rfl ?_
      refine AOps.nil ?_
      refine AW.seq ?_
      refine AW.seq ?_
      refine AW.region ?_   -- "law.go:66"
      refine AOps.run tok 1 _ _ _ _ rfl ?_
      refine AOps.call tok rfl rfl rfl rfl cC ?_
      refine AOps.run tok 1 _ _ _ _ rfl ?_
      refine AOps.nil ?_
      refine AW.seq ?_
      refine AW.region ?_
      refine AOps.run tok 2 _ _ _ _ rfl ?_
      rw [show (((m + 1 : Nat) : Int) != 0) = true from bne_iff_ne.2 (by omega)]
      refine AOps.nil ?_
      refine AW.condT rfl ?_
      refine AW.seq ?_
      refine AW.region ?_   -- "law.go:67"
      refine AOps.run tok 13 _ _ _ _ rfl ?_
      refine AOps.split (t := 58) rfl (fun h => ?_) (fun h => by cases h)
      refine AOps.run tok 1 _ _ _ _ rfl ?_
      refine AOps.call tok rfl rfl rfl rfl (base_Num_ok (m + 1)) ?_
      refine AOps.run tok 2 _ _ _ _ rfl ?_
      rw [beq_self_eq_true]
      refine AOps.run tok 3 _ _ _ _ rfl ?_
      refine AOps.call tok rfl rfl rfl rfl (base_Num_ok (m + 1)) ?_
      refine AOps.run tok 2 _ _ _ _ rfl ?_
      rw [beq_self_eq_true]
      refine AOps.run tok 3 _ _ _ _ rfl ?_
      refine AOps.call tok rfl rfl rfl rfl (base_Num_ok (m + 1)) ?_
      refine AOps.run tok 2 _ _ _ _ rfl ?_
      rw [beq_self_eq_true]
      refine AOps.run tok 2 _ _ _ _ rfl ?_
      refine AOps.nil ?_
      exact AW.ret rfl
    have qR := r25_Rest_ok l hC
    have qS := r25_Split_ok l hC
    rw [hC] at cC
    rw [show restD l = .tu [IsDG (misF (findF l).kn), IsDG (misF (findF l).us), nilE] by unfold restD; rw [if_pos hC]] at cR
    obtain ⟨hLk, hb8, hj16, _⟩ := chk_in hC
    have n1 := misP_len (findF l).kn (findF l).kn.length
    have n2 := misP_len (findF l).us (findF l).us.length
    change (misF (findF l).kn).length ≤ _ at n1
    change (misF (findF l).us).length ≤ _ at n2
    rw [(findF_len l).1] at n1
    rw [(findF_len l).2] at n2
    have i1 := base_Ints_ok (misF (findF l).kn) (misF (findF l).kn) (by unfold big; omega)
    have i2 := base_Ints_ok (misF (findF l).us) (misF (findF l).us) (by unfold big; omega)
    rw [decide_eq_true rfl] at i1 i2
    have hsp : ∀ E, E = (anyN (findF l).kn || anyN (findF l).us) → splitD l = (if E = true then .tu [.sl 4 [], er 7] else .tu [GrpsD (findF l).gs, nilE]) ∧ orderD l = (if E = true then .tu [.sl 1 [], er 7] else .tu [IsDG (ordP (findF l).gs (findF l).gs.length), nilE]) ∧ rspD l = (if E = true then .tu [.sl 4 [], dI 7] else .tu [GrpsD (findF l).gs, dI 0]) := fun E hE => by
      subst hE
      refine ⟨?_, ?_, rfl⟩
      · unfold splitD; rw [if_pos hC]
      · unfold orderD; rw [if_pos hC]
    obtain ⟨e1, e2, e3⟩ := hsp _ rfl
    rw [e1] at cS
    rw [e2] at cO
    rw [e3] at qS
    have hgs := findF_gs l
    generalize (anyN (findF l).kn || anyN (findF l).us) = E at cS cO qS
    generalize misF (findF l).kn = M at *
    generalize misF (findF l).us = M' at *
    generalize (findF l).gs = gs at *
    clear hsp e1 e2 e3
    cases E with
    | true =>
      rw [if_pos rfl] at cS cO qS
      refine AW.seq ?_
      refine AW.region ?_   -- "law.go:63"
      refine AOps.run tok 1 _ _ _ _ rfl ?_
      refine AOps.call tok rfl rfl rfl rfl cS ?_
      refine AOps.run tok 5 _ _ _ _ rfl ?_
      refine AOps.nil ?_
      refine AW.seq ?_
      refine AW.region ?_   -- "law.go:64"
      refine AOps.run tok 1 _ _ _ _ rfl ?_
      refine AOps.call tok rfl rfl rfl rfl cR ?_
      refine AOps.run tok 7 _ _ _ _ rfl ?_
      refine AOps.nil ?_
      refine AW.seq ?_
      refine AW.region ?_   -- "law.go:65"
      refine AOps.run tok 1 _ _ _ _ rfl ?_
      refine AOps.call tok rfl rfl rfl rfl cO ?_
      refine AOps.run tok 5 _ _ _ _ rfl ?_
      refine AOps.nil ?_
      refine AW.seq ?_
      refine AW.seq ?_
      refine AW.region ?_   -- "law.go:66"
      refine AOps.run tok 1 _ _ _ _ rfl ?_
      refine AOps.call tok rfl rfl rfl rfl cC ?_
      refine AOps.run tok 1 _ _ _ _ rfl ?_
      refine AOps.nil ?_
      refine AW.seq ?_
      refine AW.region ?_
      refine AOps.run tok 2 _ _ _ _ rfl ?_
      refine AOps.nil ?_
      refine AW.condF rfl ?_
      refine AW.skip ?_
      refine AW.seq ?_
      refine AW.region ?_   -- "law.go:69"
      refine AOps.run tok 1 _ _ _ _ rfl ?_
      refine AOps.call tok rfl rfl rfl rfl qR ?_
      refine AOps.run tok 5 _ _ _ _ rfl ?_
      refine AOps.nil ?_
      refine AW.seq ?_
      refine AW.seq ?_
      refine AW.region ?_   -- "law.go:70"
      refine AOps.run tok 1 _ _ _ _ rfl ?_
      refine AOps.err tok rfl rfl rfl rfl rfl ?_
      refine AOps.run tok 1 _ _ _ _ rfl ?_
      refine AOps.run tok 2 _ _ _ _ rfl ?_
      refine AOps.call tok rfl rfl rfl rfl i1 ?_
      refine AOps.run tok 5 _ _ _ _ rfl ?_
      refine AOps.call tok rfl rfl rfl rfl i2 ?_
      refine AOps.run tok 2 _ _ _ _ rfl ?_
      refine AOps.nil ?_
      refine AW.condF rfl ?_
      refine AW.skip ?_
      refine AW.seq ?_
      refine AW.region ?_   -- "law.go:73"
      refine AOps.run tok 1 _ _ _ _ rfl ?_
      refine AOps.call tok rfl rfl rfl rfl qS ?_
      refine AOps.run tok 5 _ _ _ _ rfl ?_
      refine AOps.nil ?_
      refine AW.seq ?_
      refine AW.seq ?_
      refine AW.region ?_   -- "law.go:74"
      refine AOps.run tok 1 _ _ _ _ rfl ?_
      refine AOps.call tok rfl rfl rfl rfl (base_Num_ok 7) ?_
      refine AOps.run tok 3 _ _ _ _ rfl ?_
      refine AOps.split (t := 104) rfl (fun h => by cases h) (fun h => ?_)
      refine AOps.run tok 1 _ _ _ _ rfl ?_
      refine AOps.call tok rfl rfl rfl rfl (base_Num_ok 7) ?_
      refine AOps.run tok 4 _ _ _ _ rfl ?_
      refine AOps.split (t := 110) rfl (fun h => by cases h) (fun h => ?_)
      refine AOps.run tok 2 _ _ _ _ rfl ?_
      refine AOps.call tok rfl rfl rfl rfl (r25_Same_ok [] [] (by decide) (fun i => by rw [List.getD_nil]; exact ⟨by decide, by decide⟩)) ?_
      refine AOps.run tok 2 _ _ _ _ rfl ?_
      refine AOps.nil ?_
      refine AW.condF rfl ?_
      refine AW.skip ?_
      refine AW.seq ?_
      refine AW.region ?_
      refine AOps.run tok 1 _ _ _ _ rfl ?_
      refine AOps.nil ?_
      refine AW.seq ?_
      refine AW.seq ?_
      refine AW.region ?_
      refine AOps.run tok 2 _ _ _ _ rfl ?_
      refine AOps.nil ?_
      refine AW.condF rfl ?_
      refine AW.skip ?_
      refine AW.seq ?_
      refine AW.seq ?_
      refine AW.region ?_   -- "law.go:81"
      refine AOps.run tok 3 _ _ _ _ rfl ?_
      refine AOps.nil ?_
      refine AW.block ?_   -- block 0
      refine AW.loopS [8, 15, 122, 123] (fun _ : Nat => [(8, .d (.sl 1 [])), (15, .ow 3 (IsL [])), (122, .d (dI 0)), (123, .d (dI 0))]) (fun _ => True) (fun _ => 0) 0 rfl trivial (fun i _ => ?_)
      refine AW.seq ?_
      refine AW.region ?_
      refine AOps.run tok 1 _ _ _ _ rfl ?_
      refine AOps.nil ?_
      refine AW.seq ?_
      refine AW.condF rfl ?_
      refine AW.exit ?_
      refine AW.seq ?_
      refine AW.region ?_   -- "law.go:84"
      refine AOps.run tok 2 _ _ _ _ rfl ?_
      refine AOps.calls tok rfl rfl rfl rfl (base_Ints_ok [] [] (by decide)) rfl ?_
      refine AOps.run tok 1 _ _ _ _ rfl ?_
      refine AOps.nil ?_
      exact AW.ret rfl
    | false =>
      rw [if_neg (by decide)] at cS cO qS
      have hgok : ∀ i, (gs.getD i default).ok := fun i => by
        rcases Nat.lt_or_ge i gs.length with hi | hi
        · have := hgs.1 (gs.getD i default) (by rw [List.getD_eq_getElem?_getD, List.getElem?_eq_getElem hi]; exact List.getElem_mem hi)
          exact ⟨by unfold big; omega, by unfold big; omega⟩
        · rw [List.getD_eq_getElem?_getD, List.getElem?_eq_none hi]
          exact ⟨by show 0 ≤ big; exact Nat.zero_le _, by show 0 ≤ big; exact Nat.zero_le _⟩
      have qE := r25_Same_ok gs gs (by unfold big; omega) hgok
      rw [sameG_self] at qE
      have hol := ordP_len (fun g hg => (hgs.1 g hg).1) gs.length (Nat.le_refl _)
      have i3 := base_Ints_ok (ordP gs gs.length) (ordP gs gs.length) (by unfold big; omega)
      rw [decide_eq_true rfl] at i3
      refine AW.seq ?_
      refine AW.region ?_   -- "law.go:63"
      refine AOps.run tok 1 _ _ _ _ rfl ?_
      refine AOps.call tok rfl rfl rfl rfl cS ?_
      refine AOps.run tok 5 _ _ _ _ rfl ?_
      refine AOps.nil ?_
      refine AW.seq ?_
      refine AW.region ?_   -- "law.go:64"
      refine AOps.run tok 1 _ _ _ _ rfl ?_
      refine AOps.call tok rfl rfl rfl rfl cR ?_
      refine AOps.run tok 7 _ _ _ _ rfl ?_
      refine AOps.nil ?_
      refine AW.seq ?_
      refine AW.region ?_   -- "law.go:65"
      refine AOps.run tok 1 _ _ _ _ rfl ?_
      refine AOps.call tok rfl rfl rfl rfl cO ?_
      refine AOps.run tok 5 _ _ _ _ rfl ?_
      refine AOps.nil ?_
      refine AW.seq ?_
      refine AW.seq ?_
      refine AW.region ?_   -- "law.go:66"
      refine AOps.run tok 1 _ _ _ _ rfl ?_
      refine AOps.call tok rfl rfl rfl rfl cC ?_
      refine AOps.run tok 1 _ _ _ _ rfl ?_
      refine AOps.nil ?_
      refine AW.seq ?_
      refine AW.region ?_
      refine AOps.run tok 2 _ _ _ _ rfl ?_
      refine AOps.nil ?_
      refine AW.condF rfl ?_
      refine AW.skip ?_
      refine AW.seq ?_
      refine AW.region ?_   -- "law.go:69"
      refine AOps.run tok 1 _ _ _ _ rfl ?_
      refine AOps.call tok rfl rfl rfl rfl qR ?_
      refine AOps.run tok 5 _ _ _ _ rfl ?_
      refine AOps.nil ?_
      refine AW.seq ?_
      refine AW.seq ?_
      refine AW.region ?_   -- "law.go:70"
      refine AOps.run tok 1 _ _ _ _ rfl ?_
      refine AOps.err tok rfl rfl rfl rfl rfl ?_
      refine AOps.run tok 3 _ _ _ _ rfl ?_
      refine AOps.call tok rfl rfl rfl rfl i1 ?_
      refine AOps.run tok 5 _ _ _ _ rfl ?_
      refine AOps.call tok rfl rfl rfl rfl i2 ?_
      refine AOps.run tok 2 _ _ _ _ rfl ?_
      refine AOps.nil ?_
      refine AW.condF rfl ?_
      refine AW.skip ?_
      refine AW.seq ?_
      refine AW.region ?_   -- "law.go:73"
      refine AOps.run tok 1 _ _ _ _ rfl ?_
      refine AOps.call tok rfl rfl rfl rfl qS ?_
      refine AOps.run tok 5 _ _ _ _ rfl ?_
      refine AOps.nil ?_
      refine AW.seq ?_
      refine AW.seq ?_
      refine AW.region ?_   -- "law.go:74"
      refine AOps.run tok 1 _ _ _ _ rfl ?_
      refine AOps.call tok rfl rfl rfl rfl (base_Num_ok 0) ?_
      refine AOps.run tok 3 _ _ _ _ rfl ?_
      refine AOps.split (t := 104) rfl (fun h => by cases h) (fun h => ?_)
      refine AOps.run tok 1 _ _ _ _ rfl ?_
      refine AOps.call tok rfl rfl rfl rfl (base_Num_ok 0) ?_
      refine AOps.run tok 4 _ _ _ _ rfl ?_
      refine AOps.split (t := 110) rfl (fun h => by cases h) (fun h => ?_)
      refine AOps.run tok 2 _ _ _ _ rfl ?_
      refine AOps.call tok rfl rfl rfl rfl qE ?_
      refine AOps.run tok 2 _ _ _ _ rfl ?_
      refine AOps.nil ?_
      refine AW.condF rfl ?_
      refine AW.skip ?_
      refine AW.seq ?_
      refine AW.region ?_
      refine AOps.run tok 1 _ _ _ _ rfl ?_
      refine AOps.nil ?_
      refine AW.seq ?_
      refine AW.seq ?_
      refine AW.region ?_
      refine AOps.run tok 2 _ _ _ _ rfl ?_
      refine AOps.nil ?_
      refine AW.condT rfl ?_
      refine AW.region ?_   -- "law.go:79"
      refine AOps.run tok 1 _ _ _ _ rfl ?_
      refine AOps.bs tok rfl rfl rfl rfl ?_
      refine AOps.appo tok rfl rfl rfl rfl rfl rfl (by decide) (by decide) ?_
      refine AOps.run tok 1 _ _ _ _ rfl ?_
      refine AOps.nil ?_
      refine AW.seq ?_
      refine AW.seq ?_
      refine AW.region ?_   -- "law.go:81"
      refine AOps.run tok 2 _ _ _ _ rfl ?_
      rw [List.length_map]
      refine AOps.run tok 1 _ _ _ _ rfl ?_
      refine AOps.nil ?_
      refine AW.block ?_   -- block 0
      refine AW.loopS [8, 15, 121, 122, 123] (fun i : Nat => [(8, .d (IsDG (ordP gs gs.length))), (15, .ow 3 (IsL (ordP gs i))), (121, .d (GrpsD gs)), (122, .d (dI gs.length)), (123, .d (dI i))]) (fun i => i ≤ gs.length) (fun i => gs.length - i) 0 rfl (Nat.zero_le _) (fun i hi => ?_)
      refine AW.seq ?_
      refine AW.region ?_
      refine AOps.run tok 1 _ _ _ _ rfl ?_
      refine AOps.nil ?_
      refine AW.seq ?_
      refine AW.cond rfl (fun h => ?_) (fun h => ?_)
      · have hii : i < gs.length := by have := of_decide_eq_true h; omega
        have hgg := getG hii
        have hgl := (hgs.1 (gs.getD i default) (by rw [List.getD_eq_getElem?_getD, List.getElem?_eq_getElem hii]; exact List.getElem_mem hii)).1
        have hol := ordP_len (fun g hg => (hgs.1 g hg).1) i hi
        have hos : ordP gs (i + 1) = ordP gs i ++ (gs.getD i default).bs := rfl
        generalize gs.getD i default = g at hgg hgl hos
        refine AW.skip ?_
        refine AW.seq ?_
        refine AW.block ?_   -- block 1
        refine AW.seq ?_
        refine AW.region ?_   -- "law.go:81"
        refine AOps.idx tok g.D rfl rfl rfl rfl (Int.natCast_nonneg i) hgg ?_
        refine AOps.run tok 3 _ _ _ _ rfl ?_
        refine AOps.nil ?_
        refine AW.region ?_   -- "law.go:82"
        refine AOps.run tok 3 _ _ _ _ rfl ?_
        refine AOps.appo tok rfl rfl rfl rfl rfl rfl (by rw [List.length_map, List.length_map]; show (_ + _) * 8 ≤ _; omega) (by rw [List.length_map, List.length_map]; omega) ?_
        refine AOps.run tok 1 _ _ _ _ rfl ?_
        refine AOps.nil ?_
        refine AW.region ?_   -- "law.go:81"
        refine AOps.run tok 1 _ _ _ _ rfl ?_
        rw [wI64 (x := (i : Int) + 1) (by omega) (by omega)]
        refine AOps.run tok 1 _ _ _ _ rfl ?_
        refine AOps.nil ?_
        exact ⟨i + 1, by rw [hos, show IsL (ordP gs i ++ g.bs) = IsL (ordP gs i) ++ IsL g.bs from List.map_append]; rfl, hii, by omega⟩
      have hii : i = gs.length := by have := of_decide_eq_false h; omega
      subst hii
      refine AW.exit ?_
      refine AW.seq ?_
      refine AW.region ?_   -- "law.go:84"
      refine AOps.run tok 2 _ _ _ _ rfl ?_
      refine AOps.calls tok rfl rfl rfl rfl i3 rfl ?_
      refine AOps.run tok 1 _ _ _ _ rfl ?_
      refine AOps.nil ?_
      exact AW.ret rfl
end Lift
