/- Written by a program of this repo: what the program's functions do, each as a Lean function, shown of the loaded code; or a statement's row over that; no condition of its own. -/
import Derived.Test.YtlmpfogfgefngaaPOrderGoesx12
namespace Go.Proofs.Ytlmpfogfgefngaa.POrderGoes
open Go Go.RowKit Go.Proofs.YtlmpfogfgefngaaV
set_option linter.unusedVariables false
set_option linter.unusedSimpArgs false

set_option maxHeartbeats 4000000 in
set_option maxRecDepth 100000 in
theorem tarrylaw13_OrderGoes.ok (k : Nat) (a0_0 : Int) (a0_1 : ByteArray) (a0_2 : Int) (a0_3 : Int) (a0_4 : Int) (a0_5 : Int) (a0_6 : Int) (a0_7 : Int) (a0_8 : Bool) (a0_9 : Int) (a0_10 : ByteArray) (a0_11 : Int) (a0_12 : Int) (a0_13 : Int) (a0_14 : Int) (a0_15 : Int) (a0_16 : Int) (a0_17 : Int) (a0_18 : Int) (a0_19 : Int) (a0_20 : Bool) (a1_0 : ByteArray) (a1_1 : Int) (a1_2 : Int) (a1_3 : Int)  (r1 : Bool) (h : tarrylaw13_OrderGoes.f k a0_0 a0_1 a0_2 a0_3 a0_4 a0_5 a0_6 a0_7 a0_8 a0_9 a0_10 a0_11 a0_12 a0_13 a0_14 a0_15 a0_16 a0_17 a0_18 a0_19 a0_20 a1_0 a1_1 a1_2 a1_3 = some r1) :
    VCalls Try.prog 5 [.agg #[.int .i64 a0_0, .string a0_1, .int .i64 a0_2, .int .i64 a0_3, .int .i64 a0_4, .int .i64 a0_5, .int .i64 a0_6, .int .i64 a0_7, .bool a0_8, .int .i64 a0_9, .string a0_10, .int .i64 a0_11, .int .i64 a0_12, .int .i64 a0_13, .int .i64 a0_14, .int .i64 a0_15, .int .i64 a0_16, .int .i64 a0_17, .int .i64 a0_18, .int .i64 a0_19, .bool a0_20], .agg #[.string a1_0, .int .i64 a1_1, .int .i64 a1_2, .int .i64 a1_3]] [] (fun v G own => v = .bool r1 ∧ G = [] ∧ own = []) := by
  refine VCalls.intro Try.func5 rfl (len rfl) fun E hC => ?_
  unfold tarrylaw13_OrderGoes.f at h
  refine VC.seq ?_
  refine VC.region ?_
  refine VL.sG (o_box rfl (.agg (.of rfl)) (ltn rfl)) rfl ?_
  intro g1
  refine VL.sG (o_box rfl (.agg (.of rfl)) (ltn rfl)) rfl ?_
  intro g2
  refine VL.va (op_assign rfl (ltn rfl)) rfl ?_
  refine VL.done ?_
  refine VN.then ?_
  refine VC.seq ?_
  refine VC.region ?_
  refine VL.va (op_load 1 21 rfl rfl TI29 rfl (fun h => absurd h (by decide)) (ltn rfl)) rfl ?_
  replace h := Option.bind_eq_some_iff.1 h
  obtain ⟨⟨t9, t10, t11, t12, t13, t14, t15, t16, t17, t18, t19, t20, t21, t22, t23, t24, t25, t26, t27, t28, t29⟩, hA30, h⟩ := h
  dsimp only at h
  refine VL.sC (o_call0 FO7 (tarrylaw13_cut.ok a0_0 a0_1 a0_2 a0_3 a0_4 a0_5 a0_6 a0_7 a0_8 a0_9 a0_10 a0_11 a0_12 a0_13 a0_14 a0_15 a0_16 a0_17 a0_18 a0_19 a0_20 t9 t10 t11 t12 t13 t14 t15 t16 t17 t18 t19 t20 t21 t22 t23 t24 t25 t26 t27 t28 t29 hA30) rfl rfl (ltn rfl) (All_of .nil)) rfl ?_
  rintro _ _ _ ⟨rfl, rfl, rfl⟩
  refine VL.step1 (o_store 1 21 rfl rfl rfl TI29 (.agg (.of rfl)) rfl (len rfl)) rfl ?_
  refine VL.done ?_
  refine VN.then ?_
  refine VC.seq ?_
  refine VC.region ?_
  refine VL.va (op_fieldAddr FI23_0 rfl (add_at _ _ _) (ltn rfl)) rfl ?_
  refine VL.va (op_load 0 1 rfl rfl TI9 rfl (by decide) (ltn rfl)) rfl ?_
  refine VL.va (op_fieldAddr FI23_0 rfl (add_at _ _ _) (ltn rfl)) rfl ?_
  refine VL.va (op_load 0 1 rfl rfl TI9 rfl (by decide) (ltn rfl)) rfl ?_
  refine VL.va (op_lens Try.underlying9 rfl (ltn rfl)) rfl ?_
  refine VL.va (op_min rfl rfl (ltn rfl)) rfl ?_
  by_cases c31 : 0 ≤ mn (a1_0.size : Int) 18
  · rw [if_pos c31] at h
    by_cases c32 : (mn (a1_0.size : Int) 18) ≤ (a1_0.size : Int)
    · rw [if_pos c32] at h
      refine VL.va (op_sliceS 0 ((mn (a1_0.size : Int) 18).toNat) Try.underlying9 rfl ⟨rfl, ⟨_, _, rfl, c31, rfl⟩, by omega, by omega⟩ rfl (ltn rfl)) rfl ?_
      refine VL.va (op_fieldAddr FI23_0 rfl (add_at _ _ _) (ltn rfl)) rfl ?_
      refine VL.step1 (o_store 0 1 rfl rfl rfl TI9 (.c rfl) rfl (len rfl)) rfl ?_
      refine VL.done ?_
      refine VN.then ?_
      refine VC.seq ?_
      refine VC.region ?_
      refine VL.va (op_load 1 21 rfl rfl TI29 rfl (fun h => absurd h (by decide)) (ltn rfl)) rfl ?_
      refine VL.va (op_load 0 4 rfl rfl TI23 rfl (fun h => absurd h (by decide)) (ltn rfl)) rfl ?_
      replace h := Option.bind_eq_some_iff.1 h
      obtain ⟨⟨t2039, t2040, t2041, t2042, t2043, t2044, t2045, t2046, t2047, t2048, t2049, t2050, t2051, t2052, t2053, t2054, t2055, t2056, t2057, t2058, t2059, t2060⟩, hA2061, h⟩ := h
      dsimp only at h
      refine VL.sC (o_call0 FO17 (order_Send.ok k t9 t10 t11 t12 t13 t14 t15 t16 t17 t18 t19 t20 t21 t22 t23 t24 t25 t26 t27 t28 t29 (a1_0.extract 0 ((mn (a1_0.size : Int) 18).toNat)) a1_1 a1_2 a1_3 t2039 t2040 t2041 t2042 t2043 t2044 t2045 t2046 t2047 t2048 t2049 t2050 t2051 t2052 t2053 t2054 t2055 t2056 t2057 t2058 t2059 t2060 hA2061) rfl rfl (ltn rfl) (All_of .nil)) rfl ?_
      rintro _ _ _ ⟨rfl, rfl, rfl⟩
      refine VL.va (op_move rfl (ltn rfl)) rfl ?_
      refine VL.va (op_extract rfl rfl (ltn rfl)) rfl ?_
      refine VL.va (op_extract rfl rfl (ltn rfl)) rfl ?_
      refine VL.sG (o_alloc Z29 ZL29 (ltn rfl)) rfl ?_
      intro g2062
      refine VL.step1 (o_store 0 21 rfl rfl rfl TI29 (.agg (.of rfl)) rfl (len rfl)) rfl ?_
      refine VL.va (op_assign rfl (ltn rfl)) rfl ?_
      refine VL.done ?_
      refine VN.then ?_
      refine VC.seq ?_
      refine VC.region ?_
      refine VL.va (op_load 2 21 rfl rfl TI29 rfl (fun h => absurd h (by decide)) (ltn rfl)) rfl ?_
      replace h := Option.bind_eq_some_iff.1 h
      obtain ⟨⟨t2270, t2271, t2272, t2273, t2274, t2275, t2276, t2277, t2278, t2279, t2280, t2281, t2282, t2283, t2284, t2285, t2286, t2287, t2288, t2289, t2290, t2291, t2292⟩, hA2293, h⟩ := h
      dsimp only at h
      refine VL.sC (o_call0 FO18 (order_Came.ok k t9 t10 t11 t12 t13 t14 t15 t16 t17 t18 t19 t20 t21 t22 t23 t24 t25 t26 t27 t28 t29 t2270 t2271 t2272 t2273 t2274 t2275 t2276 t2277 t2278 t2279 t2280 t2281 t2282 t2283 t2284 t2285 t2286 t2287 t2288 t2289 t2290 t2291 t2292 hA2293) rfl rfl (ltn rfl) (All_of .nil)) rfl ?_
      rintro _ _ _ ⟨rfl, rfl, rfl⟩
      refine VL.va (op_move rfl (ltn rfl)) rfl ?_
      refine VL.va (op_extract rfl rfl (ltn rfl)) rfl ?_
      refine VL.va (op_extract rfl rfl (ltn rfl)) rfl ?_
      refine VL.va (op_extract rfl rfl (ltn rfl)) rfl ?_
      refine VL.sG (o_alloc Z29 ZL29 (ltn rfl)) rfl ?_
      intro g2294
      refine VL.step1 (o_store 0 21 rfl rfl rfl TI29 (.agg (.of rfl)) rfl (len rfl)) rfl ?_
      refine VL.va (op_assign rfl (ltn rfl)) rfl ?_
      refine VL.va (op_assign rfl (ltn rfl)) rfl ?_
      refine VL.done ?_
      refine VN.then ?_
      refine VC.seq ?_
      refine VC.region ?_
      refine VL.va (op_load 3 21 rfl rfl TI29 rfl (fun h => absurd h (by decide)) (ltn rfl)) rfl ?_
      replace h := Option.bind_eq_some_iff.1 h
      obtain ⟨⟨t2406, t2407, t2408, t2409, t2410, t2411, t2412, t2413, t2414, t2415, t2416, t2417, t2418, t2419, t2420, t2421, t2422, t2423, t2424, t2425, t2426, t2427⟩, hA2428, h⟩ := h
      dsimp only at h
      refine VL.sC (o_call0 FO19 (order_End.ok k t9 t10 t11 t12 t13 t14 t15 t16 t17 t18 t19 t20 t21 t22 t23 t24 t25 t26 t27 t28 t29 t2406 t2407 t2408 t2409 t2410 t2411 t2412 t2413 t2414 t2415 t2416 t2417 t2418 t2419 t2420 t2421 t2422 t2423 t2424 t2425 t2426 t2427 hA2428) rfl rfl (ltn rfl) (All_of .nil)) rfl ?_
      rintro _ _ _ ⟨rfl, rfl, rfl⟩
      refine VL.va (op_move rfl (ltn rfl)) rfl ?_
      refine VL.va (op_extract rfl rfl (ltn rfl)) rfl ?_
      refine VL.va (op_extract rfl rfl (ltn rfl)) rfl ?_
      refine VL.sG (o_alloc Z29 ZL29 (ltn rfl)) rfl ?_
      intro g2429
      refine VL.step1 (o_store 0 21 rfl rfl rfl TI29 (.agg (.of rfl)) rfl (len rfl)) rfl ?_
      refine VL.va (op_assign rfl (ltn rfl)) rfl ?_
      refine VL.done ?_
      refine VN.then ?_
      replace h := Option.bind_eq_some_iff.1 h
      obtain ⟨⟨t3733, t3734, t3735, t3736, t3737, t3738, t3739, t3740, t3741, t3742, t3743, t3744, t3745, t3746, t3747, t3748, t3749, t3750, t3751, t3752, t3753, t3754, t3755⟩, hA3756, h⟩ := h
      dsimp only at h
      replace h := Option.bind_eq_some_iff.1 h
      obtain ⟨⟨t3781, t3782, t3783, t3784, t3785, t3786, t3787, t3788, t3789, t3790, t3791, t3792, t3793, t3794, t3795, t3796, t3797, t3798, t3799, t3800, t3801, t3802, t3803⟩, hA3804, h⟩ := h
      dsimp only at h
      replace h := Option.bind_eq_some_iff.1 h
      obtain ⟨⟨t3837, t3838, t3839, t3840, t3841, t3842, t3843, t3844, t3845, t3846, t3847, t3848, t3849, t3850, t3851, t3852, t3853, t3854, t3855, t3856, t3857, t3858, t3859⟩, hA3860, h⟩ := h
      dsimp only at h
      refine VC.join3 (fun (g3861 : Nat) (g3862 : Nat) (g3863 : Nat) => ⟨92, [(4, .bool false), (5, .pointer (some ⟨g2062, 0, none⟩)), (6, .int .i64 t2060), (7, .pointer (some ⟨g2294, 0, none⟩)), (8, .int .i64 t2291), (9, .int .i64 t2292), (10, .pointer (some ⟨g2429, 0, none⟩)), (11, .int .i64 t2427), (12, .pointer (some ⟨g3861, 0, none⟩)), (13, .pointer (some ⟨g3862, 0, none⟩)), (14, .pointer (some ⟨g3863, 0, none⟩))], [], [(g3863, 35, [.int .i64 t3837, .string t3838, .int .i64 t3839, .int .i64 t3840, .int .i64 t3841, .int .i64 t3842, .int .i64 t3843, .int .i64 t3844, .bool t3845, .int .i64 t3846, .string t3847, .int .i64 t3848, .int .i64 t3849, .int .i64 t3850, .int .i64 t3851, .int .i64 t3852, .int .i64 t3853, .int .i64 t3854, .int .i64 t3855, .int .i64 t3856, .bool t3857, .int .i64 t3858, .int .i64 t3859]), (g3862, 35, [.int .i64 t3781, .string t3782, .int .i64 t3783, .int .i64 t3784, .int .i64 t3785, .int .i64 t3786, .int .i64 t3787, .int .i64 t3788, .bool t3789, .int .i64 t3790, .string t3791, .int .i64 t3792, .int .i64 t3793, .int .i64 t3794, .int .i64 t3795, .int .i64 t3796, .int .i64 t3797, .int .i64 t3798, .int .i64 t3799, .int .i64 t3800, .bool t3801, .int .i64 t3802, .int .i64 t3803]), (g3861, 35, [.int .i64 t3733, .string t3734, .int .i64 t3735, .int .i64 t3736, .int .i64 t3737, .int .i64 t3738, .int .i64 t3739, .int .i64 t3740, .bool t3741, .int .i64 t3742, .string t3743, .int .i64 t3744, .int .i64 t3745, .int .i64 t3746, .int .i64 t3747, .int .i64 t3748, .int .i64 t3749, .int .i64 t3750, .int .i64 t3751, .int .i64 t3752, .bool t3753, .int .i64 t3754, .int .i64 t3755]), (g2429, 29, [.int .i64 t2406, .string t2407, .int .i64 t2408, .int .i64 t2409, .int .i64 t2410, .int .i64 t2411, .int .i64 t2412, .int .i64 t2413, .bool t2414, .int .i64 t2415, .string t2416, .int .i64 t2417, .int .i64 t2418, .int .i64 t2419, .int .i64 t2420, .int .i64 t2421, .int .i64 t2422, .int .i64 t2423, .int .i64 t2424, .int .i64 t2425, .bool t2426]), (g2294, 29, [.int .i64 t2270, .string t2271, .int .i64 t2272, .int .i64 t2273, .int .i64 t2274, .int .i64 t2275, .int .i64 t2276, .int .i64 t2277, .bool t2278, .int .i64 t2279, .string t2280, .int .i64 t2281, .int .i64 t2282, .int .i64 t2283, .int .i64 t2284, .int .i64 t2285, .int .i64 t2286, .int .i64 t2287, .int .i64 t2288, .int .i64 t2289, .bool t2290]), (g2062, 29, [.int .i64 t2039, .string t2040, .int .i64 t2041, .int .i64 t2042, .int .i64 t2043, .int .i64 t2044, .int .i64 t2045, .int .i64 t2046, .bool t2047, .int .i64 t2048, .string t2049, .int .i64 t2050, .int .i64 t2051, .int .i64 t2052, .int .i64 t2053, .int .i64 t2054, .int .i64 t2055, .int .i64 t2056, .int .i64 t2057, .int .i64 t2058, .bool t2059])], []⟩) (fun (g3861 : Nat) (g3862 : Nat) (g3863 : Nat) => True) ?_ ?_
      · refine VC.draw ⟨0, [], [], [(g2, 23, [.string (a1_0.extract 0 ((mn (a1_0.size : Int) 18).toNat)), .int .i64 a1_1, .int .i64 a1_2, .int .i64 a1_3]), (g1, 29, [.int .i64 t9, .string t10, .int .i64 t11, .int .i64 t12, .int .i64 t13, .int .i64 t14, .int .i64 t15, .int .i64 t16, .bool t17, .int .i64 t18, .string t19, .int .i64 t20, .int .i64 t21, .int .i64 t22, .int .i64 t23, .int .i64 t24, .int .i64 t25, .int .i64 t26, .int .i64 t27, .int .i64 t28, .bool t29])], []⟩ (by kernel_rfl) rfl (by kernel_rfl) (n := 13) (listed := LB 13 0) ?_
        refine VA.va (i := 0) (listed' := LB 13 1) rfl (op_load 1 21 rfl rfl TI29 rfl (fun h => absurd h (by decide)) (ltn rfl)) rfl (by kernel_rfl) (by kernel_rfl) (by kernel_rfl) (by kernel_rfl) ⟨trivial, ⟨⟨3, rfl⟩, ⟨4, rfl⟩, trivial⟩, trivial⟩ (fun _ _ _ h => h) ?_
        refine VA.va (i := 1) (listed' := LB 13 3) rfl (op_load 0 4 rfl rfl TI23 rfl (fun h => absurd h (by decide)) (ltn rfl)) rfl (by kernel_rfl) (by kernel_rfl) (by kernel_rfl) (by kernel_rfl) ⟨trivial, ⟨⟨3, rfl⟩, ⟨4, rfl⟩, trivial⟩, trivial⟩ (fun _ _ _ h => h) ?_
        refine VA.va (i := 3) (listed' := LB 13 11) rfl (op_load 1 21 rfl rfl TI29 rfl (fun h => absurd h (by decide)) (ltn rfl)) rfl (by kernel_rfl) (by kernel_rfl) (by kernel_rfl) (by kernel_rfl) ⟨trivial, ⟨⟨3, rfl⟩, ⟨4, rfl⟩, trivial⟩, trivial⟩ (fun _ _ _ h => h) ?_
        refine VA.va (i := 5) (listed' := LB 13 43) rfl (op_load 1 21 rfl rfl TI29 rfl (fun h => absurd h (by decide)) (ltn rfl)) rfl (by kernel_rfl) (by kernel_rfl) (by kernel_rfl) (by kernel_rfl) ⟨trivial, ⟨⟨3, rfl⟩, ⟨4, rfl⟩, trivial⟩, trivial⟩ (fun _ _ _ h => h) ?_
        refine VA.all [2, 7, 8, 9] (by kernel_rfl) (by simp) ?_
        refine VAll.consC (listed' := LB 13 47) rfl (o_call0 FO20 (tarryref13_Send.ok k t9 t10 t11 t12 t13 t14 t15 t16 t17 t18 t19 t20 t21 t22 t23 t24 t25 t26 t27 t28 t29 (a1_0.extract 0 ((mn (a1_0.size : Int) 18).toNat)) a1_1 a1_2 a1_3 t3733 t3734 t3735 t3736 t3737 t3738 t3739 t3740 t3741 t3742 t3743 t3744 t3745 t3746 t3747 t3748 t3749 t3750 t3751 t3752 t3753 t3754 t3755 hA3756) rfl rfl (ltn rfl) (All_of .nil)) rfl (by kernel_rfl) ?_ ?_
        · rintro _ _ _ ⟨rfl, rfl, rfl⟩
          refine ⟨⟨trivial, ⟨⟨3, rfl⟩, ⟨4, rfl⟩, trivial⟩, trivial⟩, ?_⟩
          refine VA.all [4, 7, 8, 9] (by kernel_rfl) (by simp) ?_
          refine VAll.consC (listed' := LB 13 63) rfl (o_call0 FO21 (tarryref13_Came.ok k t9 t10 t11 t12 t13 t14 t15 t16 t17 t18 t19 t20 t21 t22 t23 t24 t25 t26 t27 t28 t29 t3781 t3782 t3783 t3784 t3785 t3786 t3787 t3788 t3789 t3790 t3791 t3792 t3793 t3794 t3795 t3796 t3797 t3798 t3799 t3800 t3801 t3802 t3803 hA3804) rfl rfl (ltn rfl) (All_of .nil)) rfl (by kernel_rfl) ?_ ?_
          · rintro _ _ _ ⟨rfl, rfl, rfl⟩
            refine ⟨⟨trivial, ⟨⟨3, rfl⟩, ⟨4, rfl⟩, trivial⟩, trivial⟩, ?_⟩
            refine VA.all [6, 7, 8, 9] (by kernel_rfl) (by simp) ?_
            refine VAll.consC (listed' := LB 13 127) rfl (o_call0 FO22 (tarryref13_End.ok k t9 t10 t11 t12 t13 t14 t15 t16 t17 t18 t19 t20 t21 t22 t23 t24 t25 t26 t27 t28 t29 t3837 t3838 t3839 t3840 t3841 t3842 t3843 t3844 t3845 t3846 t3847 t3848 t3849 t3850 t3851 t3852 t3853 t3854 t3855 t3856 t3857 t3858 t3859 hA3860) rfl rfl (ltn rfl) (All_of .nil)) rfl (by kernel_rfl) ?_ ?_
            · rintro _ _ _ ⟨rfl, rfl, rfl⟩
              refine ⟨⟨trivial, ⟨⟨3, rfl⟩, ⟨4, rfl⟩, trivial⟩, trivial⟩, ?_⟩
              refine VA.all [7, 8, 9] (by kernel_rfl) (by simp) ?_
              refine VAll.consG (listed' := LB 13 255) rfl (o_alloc Z35 ZL35 (ltn rfl)) rfl (by kernel_rfl) (fun _ => ⟨trivial, ⟨⟨4, rfl⟩, ⟨5, rfl⟩, trivial⟩, trivial⟩) ?_ ?_
              · intro g3861
                refine VA.all [8, 9] (by kernel_rfl) (by simp) ?_
                refine VAll.consG (listed' := LB 13 511) rfl (o_alloc Z35 ZL35 (ltn rfl)) rfl (by kernel_rfl) (fun _ => ⟨trivial, ⟨⟨5, rfl⟩, ⟨6, rfl⟩, trivial⟩, trivial⟩) ?_ ?_
                · intro g3862
                  refine VA.oneG (i := 9) (listed' := LB 13 1023) (by kernel_rfl) rfl (o_alloc Z35 ZL35 (ltn rfl)) rfl (by kernel_rfl) (fun _ => ⟨trivial, ⟨⟨6, rfl⟩, ⟨7, rfl⟩, trivial⟩, trivial⟩) ?_
                  intro g3863
                  refine VA.one1 (i := 10) (listed' := LB 13 2047) (by kernel_rfl) rfl (o_store 2 23 rfl rfl rfl TI35 (.agg (.of rfl)) rfl (len rfl)) rfl (by kernel_rfl) ⟨trivial, ⟨⟨6, rfl⟩, ⟨7, rfl⟩, trivial⟩, trivial⟩ ?_
                  refine VA.one1 (i := 11) (listed' := LB 13 4095) (by kernel_rfl) rfl (o_store 1 23 rfl rfl rfl TI35 (.agg (.of rfl)) rfl (len rfl)) rfl (by kernel_rfl) ⟨trivial, ⟨⟨6, rfl⟩, ⟨7, rfl⟩, trivial⟩, trivial⟩ ?_
                  refine VA.one1 (i := 12) (listed' := LB 13 8191) (by kernel_rfl) rfl (o_store 0 23 rfl rfl rfl TI35 (.agg (.of rfl)) rfl (len rfl)) rfl (by kernel_rfl) ⟨trivial, ⟨⟨6, rfl⟩, ⟨7, rfl⟩, trivial⟩, trivial⟩ ?_
                  refine VA.done (by kernel_rfl) ?_
                  exact VN.meet3 g3861 g3862 g3863 [0, 1, 2, 3, 4, 5] [] trivial ⟨rfl, ⟨rfl, rfl, rfl, rfl, rfl, rfl, rfl, rfl, rfl, rfl, rfl, trivial⟩, trivial, rfl, by decide, rfl, by decide⟩
                refine VAll.consG (listed' := LB 13 767) rfl (o_alloc Z35 ZL35 (ltn rfl)) rfl (by kernel_rfl) (fun _ => ⟨trivial, ⟨⟨5, rfl⟩, ⟨6, rfl⟩, trivial⟩, trivial⟩) ?_ VAll.nil
                intro g3863
                refine VA.oneG (i := 8) (listed' := LB 13 1023) (by kernel_rfl) rfl (o_alloc Z35 ZL35 (ltn rfl)) rfl (by kernel_rfl) (fun _ => ⟨trivial, ⟨⟨6, rfl⟩, ⟨7, rfl⟩, trivial⟩, trivial⟩) ?_
                intro g3862
                refine VA.one1 (i := 10) (listed' := LB 13 2047) (by kernel_rfl) rfl (o_store 2 23 rfl rfl rfl TI35 (.agg (.of rfl)) rfl (len rfl)) rfl (by kernel_rfl) ⟨trivial, ⟨⟨6, rfl⟩, ⟨7, rfl⟩, trivial⟩, trivial⟩ ?_
                refine VA.one1 (i := 11) (listed' := LB 13 4095) (by kernel_rfl) rfl (o_store 0 23 rfl rfl rfl TI35 (.agg (.of rfl)) rfl (len rfl)) rfl (by kernel_rfl) ⟨trivial, ⟨⟨6, rfl⟩, ⟨7, rfl⟩, trivial⟩, trivial⟩ ?_
                refine VA.one1 (i := 12) (listed' := LB 13 8191) (by kernel_rfl) rfl (o_store 1 23 rfl rfl rfl TI35 (.agg (.of rfl)) rfl (len rfl)) rfl (by kernel_rfl) ⟨trivial, ⟨⟨6, rfl⟩, ⟨7, rfl⟩, trivial⟩, trivial⟩ ?_
                refine VA.done (by kernel_rfl) ?_
                exact VN.meet3 g3861 g3862 g3863 [1, 0, 2, 3, 4, 5] [] trivial ⟨rfl, ⟨rfl, rfl, rfl, rfl, rfl, rfl, rfl, rfl, rfl, rfl, rfl, trivial⟩, trivial, rfl, by decide, rfl, by decide⟩
              refine VAll.consG (listed' := LB 13 383) rfl (o_alloc Z35 ZL35 (ltn rfl)) rfl (by kernel_rfl) (fun _ => ⟨trivial, ⟨⟨4, rfl⟩, ⟨5, rfl⟩, trivial⟩, trivial⟩) ?_ ?_
              · intro g3862
                refine VA.all [7, 9] (by kernel_rfl) (by simp) ?_
                refine VAll.consG (listed' := LB 13 511) rfl (o_alloc Z35 ZL35 (ltn rfl)) rfl (by kernel_rfl) (fun _ => ⟨trivial, ⟨⟨5, rfl⟩, ⟨6, rfl⟩, trivial⟩, trivial⟩) ?_ ?_
                · intro g3861
                  refine VA.oneG (i := 9) (listed' := LB 13 1023) (by kernel_rfl) rfl (o_alloc Z35 ZL35 (ltn rfl)) rfl (by kernel_rfl) (fun _ => ⟨trivial, ⟨⟨6, rfl⟩, ⟨7, rfl⟩, trivial⟩, trivial⟩) ?_
                  intro g3863
                  refine VA.one1 (i := 10) (listed' := LB 13 2047) (by kernel_rfl) rfl (o_store 1 23 rfl rfl rfl TI35 (.agg (.of rfl)) rfl (len rfl)) rfl (by kernel_rfl) ⟨trivial, ⟨⟨6, rfl⟩, ⟨7, rfl⟩, trivial⟩, trivial⟩ ?_
                  refine VA.one1 (i := 11) (listed' := LB 13 4095) (by kernel_rfl) rfl (o_store 2 23 rfl rfl rfl TI35 (.agg (.of rfl)) rfl (len rfl)) rfl (by kernel_rfl) ⟨trivial, ⟨⟨6, rfl⟩, ⟨7, rfl⟩, trivial⟩, trivial⟩ ?_
                  refine VA.one1 (i := 12) (listed' := LB 13 8191) (by kernel_rfl) rfl (o_store 0 23 rfl rfl rfl TI35 (.agg (.of rfl)) rfl (len rfl)) rfl (by kernel_rfl) ⟨trivial, ⟨⟨6, rfl⟩, ⟨7, rfl⟩, trivial⟩, trivial⟩ ?_
                  refine VA.done (by kernel_rfl) ?_
                  exact VN.meet3 g3861 g3862 g3863 [0, 2, 1, 3, 4, 5] [] trivial ⟨rfl, ⟨rfl, rfl, rfl, rfl, rfl, rfl, rfl, rfl, rfl, rfl, rfl, trivial⟩, trivial, rfl, by decide, rfl, by decide⟩
                refine VAll.consG (listed' := LB 13 895) rfl (o_alloc Z35 ZL35 (ltn rfl)) rfl (by kernel_rfl) (fun _ => ⟨trivial, ⟨⟨5, rfl⟩, ⟨6, rfl⟩, trivial⟩, trivial⟩) ?_ VAll.nil
                intro g3863
                refine VA.oneG (i := 7) (listed' := LB 13 1023) (by kernel_rfl) rfl (o_alloc Z35 ZL35 (ltn rfl)) rfl (by kernel_rfl) (fun _ => ⟨trivial, ⟨⟨6, rfl⟩, ⟨7, rfl⟩, trivial⟩, trivial⟩) ?_
                intro g3861
                refine VA.one1 (i := 10) (listed' := LB 13 2047) (by kernel_rfl) rfl (o_store 0 23 rfl rfl rfl TI35 (.agg (.of rfl)) rfl (len rfl)) rfl (by kernel_rfl) ⟨trivial, ⟨⟨6, rfl⟩, ⟨7, rfl⟩, trivial⟩, trivial⟩ ?_
                refine VA.one1 (i := 11) (listed' := LB 13 4095) (by kernel_rfl) rfl (o_store 2 23 rfl rfl rfl TI35 (.agg (.of rfl)) rfl (len rfl)) rfl (by kernel_rfl) ⟨trivial, ⟨⟨6, rfl⟩, ⟨7, rfl⟩, trivial⟩, trivial⟩ ?_
                refine VA.one1 (i := 12) (listed' := LB 13 8191) (by kernel_rfl) rfl (o_store 1 23 rfl rfl rfl TI35 (.agg (.of rfl)) rfl (len rfl)) rfl (by kernel_rfl) ⟨trivial, ⟨⟨6, rfl⟩, ⟨7, rfl⟩, trivial⟩, trivial⟩ ?_
                refine VA.done (by kernel_rfl) ?_
                exact VN.meet3 g3861 g3862 g3863 [1, 2, 0, 3, 4, 5] [] trivial ⟨rfl, ⟨rfl, rfl, rfl, rfl, rfl, rfl, rfl, rfl, rfl, rfl, rfl, trivial⟩, trivial, rfl, by decide, rfl, by decide⟩
              refine VAll.consG (listed' := LB 13 639) rfl (o_alloc Z35 ZL35 (ltn rfl)) rfl (by kernel_rfl) (fun _ => ⟨trivial, ⟨⟨4, rfl⟩, ⟨5, rfl⟩, trivial⟩, trivial⟩) ?_ VAll.nil
              intro g3863
              refine VA.all [7, 8] (by kernel_rfl) (by simp) ?_
              refine VAll.consG (listed' := LB 13 767) rfl (o_alloc Z35 ZL35 (ltn rfl)) rfl (by kernel_rfl) (fun _ => ⟨trivial, ⟨⟨5, rfl⟩, ⟨6, rfl⟩, trivial⟩, trivial⟩) ?_ ?_
              · intro g3861
                refine VA.oneG (i := 8) (listed' := LB 13 1023) (by kernel_rfl) rfl (o_alloc Z35 ZL35 (ltn rfl)) rfl (by kernel_rfl) (fun _ => ⟨trivial, ⟨⟨6, rfl⟩, ⟨7, rfl⟩, trivial⟩, trivial⟩) ?_
                intro g3862
                refine VA.one1 (i := 10) (listed' := LB 13 2047) (by kernel_rfl) rfl (o_store 1 23 rfl rfl rfl TI35 (.agg (.of rfl)) rfl (len rfl)) rfl (by kernel_rfl) ⟨trivial, ⟨⟨6, rfl⟩, ⟨7, rfl⟩, trivial⟩, trivial⟩ ?_
                refine VA.one1 (i := 11) (listed' := LB 13 4095) (by kernel_rfl) rfl (o_store 0 23 rfl rfl rfl TI35 (.agg (.of rfl)) rfl (len rfl)) rfl (by kernel_rfl) ⟨trivial, ⟨⟨6, rfl⟩, ⟨7, rfl⟩, trivial⟩, trivial⟩ ?_
                refine VA.one1 (i := 12) (listed' := LB 13 8191) (by kernel_rfl) rfl (o_store 2 23 rfl rfl rfl TI35 (.agg (.of rfl)) rfl (len rfl)) rfl (by kernel_rfl) ⟨trivial, ⟨⟨6, rfl⟩, ⟨7, rfl⟩, trivial⟩, trivial⟩ ?_
                refine VA.done (by kernel_rfl) ?_
                exact VN.meet3 g3861 g3862 g3863 [2, 0, 1, 3, 4, 5] [] trivial ⟨rfl, ⟨rfl, rfl, rfl, rfl, rfl, rfl, rfl, rfl, rfl, rfl, rfl, trivial⟩, trivial, rfl, by decide, rfl, by decide⟩
              refine VAll.consG (listed' := LB 13 895) rfl (o_alloc Z35 ZL35 (ltn rfl)) rfl (by kernel_rfl) (fun _ => ⟨trivial, ⟨⟨5, rfl⟩, ⟨6, rfl⟩, trivial⟩, trivial⟩) ?_ VAll.nil
              intro g3862
              refine VA.oneG (i := 7) (listed' := LB 13 1023) (by kernel_rfl) rfl (o_alloc Z35 ZL35 (ltn rfl)) rfl (by kernel_rfl) (fun _ => ⟨trivial, ⟨⟨6, rfl⟩, ⟨7, rfl⟩, trivial⟩, trivial⟩) ?_
              intro g3861
              refine VA.one1 (i := 10) (listed' := LB 13 2047) (by kernel_rfl) rfl (o_store 0 23 rfl rfl rfl TI35 (.agg (.of rfl)) rfl (len rfl)) rfl (by kernel_rfl) ⟨trivial, ⟨⟨6, rfl⟩, ⟨7, rfl⟩, trivial⟩, trivial⟩ ?_
              refine VA.one1 (i := 11) (listed' := LB 13 4095) (by kernel_rfl) rfl (o_store 1 23 rfl rfl rfl TI35 (.agg (.of rfl)) rfl (len rfl)) rfl (by kernel_rfl) ⟨trivial, ⟨⟨6, rfl⟩, ⟨7, rfl⟩, trivial⟩, trivial⟩ ?_
              refine VA.one1 (i := 12) (listed' := LB 13 8191) (by kernel_rfl) rfl (o_store 2 23 rfl rfl rfl TI35 (.agg (.of rfl)) rfl (len rfl)) rfl (by kernel_rfl) ⟨trivial, ⟨⟨6, rfl⟩, ⟨7, rfl⟩, trivial⟩, trivial⟩ ?_
              refine VA.done (by kernel_rfl) ?_
              exact VN.meet3 g3861 g3862 g3863 [2, 1, 0, 3, 4, 5] [] trivial ⟨rfl, ⟨rfl, rfl, rfl, rfl, rfl, rfl, rfl, rfl, rfl, rfl, rfl, trivial⟩, trivial, rfl, by decide, rfl, by decide⟩
            refine VAll.consG (listed' := LB 13 191) rfl (o_alloc Z35 ZL35 (ltn rfl)) rfl (by kernel_rfl) (fun _ => ⟨trivial, ⟨⟨4, rfl⟩, ⟨5, rfl⟩, trivial⟩, trivial⟩) ?_ ?_
            · intro g3861
              refine VA.all [6, 8, 9] (by kernel_rfl) (by simp) ?_
              refine VAll.consC (listed' := LB 13 255) rfl (o_call0 FO22 (tarryref13_End.ok k t9 t10 t11 t12 t13 t14 t15 t16 t17 t18 t19 t20 t21 t22 t23 t24 t25 t26 t27 t28 t29 t3837 t3838 t3839 t3840 t3841 t3842 t3843 t3844 t3845 t3846 t3847 t3848 t3849 t3850 t3851 t3852 t3853 t3854 t3855 t3856 t3857 t3858 t3859 hA3860) rfl rfl (ltn rfl) (All_of .nil)) rfl (by kernel_rfl) ?_ ?_
              · rintro _ _ _ ⟨rfl, rfl, rfl⟩
                refine ⟨⟨trivial, ⟨⟨4, rfl⟩, ⟨5, rfl⟩, trivial⟩, trivial⟩, ?_⟩
                refine VA.all [8, 9] (by kernel_rfl) (by simp) ?_
                refine VAll.consG (listed' := LB 13 511) rfl (o_alloc Z35 ZL35 (ltn rfl)) rfl (by kernel_rfl) (fun _ => ⟨trivial, ⟨⟨5, rfl⟩, ⟨6, rfl⟩, trivial⟩, trivial⟩) ?_ ?_
                · intro g3862
                  refine VA.oneG (i := 9) (listed' := LB 13 1023) (by kernel_rfl) rfl (o_alloc Z35 ZL35 (ltn rfl)) rfl (by kernel_rfl) (fun _ => ⟨trivial, ⟨⟨6, rfl⟩, ⟨7, rfl⟩, trivial⟩, trivial⟩) ?_
                  intro g3863
                  refine VA.one1 (i := 10) (listed' := LB 13 2047) (by kernel_rfl) rfl (o_store 2 23 rfl rfl rfl TI35 (.agg (.of rfl)) rfl (len rfl)) rfl (by kernel_rfl) ⟨trivial, ⟨⟨6, rfl⟩, ⟨7, rfl⟩, trivial⟩, trivial⟩ ?_
                  refine VA.one1 (i := 11) (listed' := LB 13 4095) (by kernel_rfl) rfl (o_store 1 23 rfl rfl rfl TI35 (.agg (.of rfl)) rfl (len rfl)) rfl (by kernel_rfl) ⟨trivial, ⟨⟨6, rfl⟩, ⟨7, rfl⟩, trivial⟩, trivial⟩ ?_
                  refine VA.one1 (i := 12) (listed' := LB 13 8191) (by kernel_rfl) rfl (o_store 0 23 rfl rfl rfl TI35 (.agg (.of rfl)) rfl (len rfl)) rfl (by kernel_rfl) ⟨trivial, ⟨⟨6, rfl⟩, ⟨7, rfl⟩, trivial⟩, trivial⟩ ?_
                  refine VA.done (by kernel_rfl) ?_
                  exact VN.meet3 g3861 g3862 g3863 [0, 1, 2, 3, 4, 5] [] trivial ⟨rfl, ⟨rfl, rfl, rfl, rfl, rfl, rfl, rfl, rfl, rfl, rfl, rfl, trivial⟩, trivial, rfl, by decide, rfl, by decide⟩
                refine VAll.consG (listed' := LB 13 767) rfl (o_alloc Z35 ZL35 (ltn rfl)) rfl (by kernel_rfl) (fun _ => ⟨trivial, ⟨⟨5, rfl⟩, ⟨6, rfl⟩, trivial⟩, trivial⟩) ?_ VAll.nil
                intro g3863
                refine VA.oneG (i := 8) (listed' := LB 13 1023) (by kernel_rfl) rfl (o_alloc Z35 ZL35 (ltn rfl)) rfl (by kernel_rfl) (fun _ => ⟨trivial, ⟨⟨6, rfl⟩, ⟨7, rfl⟩, trivial⟩, trivial⟩) ?_
                intro g3862
                refine VA.one1 (i := 10) (listed' := LB 13 2047) (by kernel_rfl) rfl (o_store 2 23 rfl rfl rfl TI35 (.agg (.of rfl)) rfl (len rfl)) rfl (by kernel_rfl) ⟨trivial, ⟨⟨6, rfl⟩, ⟨7, rfl⟩, trivial⟩, trivial⟩ ?_
                refine VA.one1 (i := 11) (listed' := LB 13 4095) (by kernel_rfl) rfl (o_store 0 23 rfl rfl rfl TI35 (.agg (.of rfl)) rfl (len rfl)) rfl (by kernel_rfl) ⟨trivial, ⟨⟨6, rfl⟩, ⟨7, rfl⟩, trivial⟩, trivial⟩ ?_
                refine VA.one1 (i := 12) (listed' := LB 13 8191) (by kernel_rfl) rfl (o_store 1 23 rfl rfl rfl TI35 (.agg (.of rfl)) rfl (len rfl)) rfl (by kernel_rfl) ⟨trivial, ⟨⟨6, rfl⟩, ⟨7, rfl⟩, trivial⟩, trivial⟩ ?_
                refine VA.done (by kernel_rfl) ?_
                exact VN.meet3 g3861 g3862 g3863 [1, 0, 2, 3, 4, 5] [] trivial ⟨rfl, ⟨rfl, rfl, rfl, rfl, rfl, rfl, rfl, rfl, rfl, rfl, rfl, trivial⟩, trivial, rfl, by decide, rfl, by decide⟩
              refine VAll.consG (listed' := LB 13 447) rfl (o_alloc Z35 ZL35 (ltn rfl)) rfl (by kernel_rfl) (fun _ => ⟨trivial, ⟨⟨5, rfl⟩, ⟨6, rfl⟩, trivial⟩, trivial⟩) ?_ ?_
              · intro g3862
                refine VA.all [6, 9] (by kernel_rfl) (by simp) ?_
                refine VAll.consC (listed' := LB 13 511) rfl (o_call0 FO22 (tarryref13_End.ok k t9 t10 t11 t12 t13 t14 t15 t16 t17 t18 t19 t20 t21 t22 t23 t24 t25 t26 t27 t28 t29 t3837 t3838 t3839 t3840 t3841 t3842 t3843 t3844 t3845 t3846 t3847 t3848 t3849 t3850 t3851 t3852 t3853 t3854 t3855 t3856 t3857 t3858 t3859 hA3860) rfl rfl (ltn rfl) (All_of .nil)) rfl (by kernel_rfl) ?_ ?_
                · rintro _ _ _ ⟨rfl, rfl, rfl⟩
                  refine ⟨⟨trivial, ⟨⟨5, rfl⟩, ⟨6, rfl⟩, trivial⟩, trivial⟩, ?_⟩
                  refine VA.oneG (i := 9) (listed' := LB 13 1023) (by kernel_rfl) rfl (o_alloc Z35 ZL35 (ltn rfl)) rfl (by kernel_rfl) (fun _ => ⟨trivial, ⟨⟨6, rfl⟩, ⟨7, rfl⟩, trivial⟩, trivial⟩) ?_
                  intro g3863
                  refine VA.one1 (i := 10) (listed' := LB 13 2047) (by kernel_rfl) rfl (o_store 2 23 rfl rfl rfl TI35 (.agg (.of rfl)) rfl (len rfl)) rfl (by kernel_rfl) ⟨trivial, ⟨⟨6, rfl⟩, ⟨7, rfl⟩, trivial⟩, trivial⟩ ?_
                  refine VA.one1 (i := 11) (listed' := LB 13 4095) (by kernel_rfl) rfl (o_store 1 23 rfl rfl rfl TI35 (.agg (.of rfl)) rfl (len rfl)) rfl (by kernel_rfl) ⟨trivial, ⟨⟨6, rfl⟩, ⟨7, rfl⟩, trivial⟩, trivial⟩ ?_
                  refine VA.one1 (i := 12) (listed' := LB 13 8191) (by kernel_rfl) rfl (o_store 0 23 rfl rfl rfl TI35 (.agg (.of rfl)) rfl (len rfl)) rfl (by kernel_rfl) ⟨trivial, ⟨⟨6, rfl⟩, ⟨7, rfl⟩, trivial⟩, trivial⟩ ?_
                  refine VA.done (by kernel_rfl) ?_
                  exact VN.meet3 g3861 g3862 g3863 [0, 1, 2, 3, 4, 5] [] trivial ⟨rfl, ⟨rfl, rfl, rfl, rfl, rfl, rfl, rfl, rfl, rfl, rfl, rfl, trivial⟩, trivial, rfl, by decide, rfl, by decide⟩
                refine VAll.consG (listed' := LB 13 959) rfl (o_alloc Z35 ZL35 (ltn rfl)) rfl (by kernel_rfl) (fun _ => ⟨trivial, ⟨⟨6, rfl⟩, ⟨7, rfl⟩, trivial⟩, trivial⟩) ?_ VAll.nil
                intro g3863
                refine VA.oneC (i := 6) (listed' := LB 13 1023) (by kernel_rfl) rfl (o_call0 FO22 (tarryref13_End.ok k t9 t10 t11 t12 t13 t14 t15 t16 t17 t18 t19 t20 t21 t22 t23 t24 t25 t26 t27 t28 t29 t3837 t3838 t3839 t3840 t3841 t3842 t3843 t3844 t3845 t3846 t3847 t3848 t3849 t3850 t3851 t3852 t3853 t3854 t3855 t3856 t3857 t3858 t3859 hA3860) rfl rfl (ltn rfl) (All_of .nil)) rfl (by kernel_rfl) ?_
                rintro _ _ _ ⟨rfl, rfl, rfl⟩
                refine ⟨⟨trivial, ⟨⟨6, rfl⟩, ⟨7, rfl⟩, trivial⟩, trivial⟩, ?_⟩
                refine VA.one1 (i := 10) (listed' := LB 13 2047) (by kernel_rfl) rfl (o_store 2 23 rfl rfl rfl TI35 (.agg (.of rfl)) rfl (len rfl)) rfl (by kernel_rfl) ⟨trivial, ⟨⟨6, rfl⟩, ⟨7, rfl⟩, trivial⟩, trivial⟩ ?_
                refine VA.one1 (i := 11) (listed' := LB 13 4095) (by kernel_rfl) rfl (o_store 1 23 rfl rfl rfl TI35 (.agg (.of rfl)) rfl (len rfl)) rfl (by kernel_rfl) ⟨trivial, ⟨⟨6, rfl⟩, ⟨7, rfl⟩, trivial⟩, trivial⟩ ?_
                refine VA.one1 (i := 12) (listed' := LB 13 8191) (by kernel_rfl) rfl (o_store 0 23 rfl rfl rfl TI35 (.agg (.of rfl)) rfl (len rfl)) rfl (by kernel_rfl) ⟨trivial, ⟨⟨6, rfl⟩, ⟨7, rfl⟩, trivial⟩, trivial⟩ ?_
                refine VA.done (by kernel_rfl) ?_
                exact VN.meet3 g3861 g3862 g3863 [0, 1, 2, 3, 4, 5] [] trivial ⟨rfl, ⟨rfl, rfl, rfl, rfl, rfl, rfl, rfl, rfl, rfl, rfl, rfl, trivial⟩, trivial, rfl, by decide, rfl, by decide⟩
              refine VAll.consG (listed' := LB 13 703) rfl (o_alloc Z35 ZL35 (ltn rfl)) rfl (by kernel_rfl) (fun _ => ⟨trivial, ⟨⟨5, rfl⟩, ⟨6, rfl⟩, trivial⟩, trivial⟩) ?_ VAll.nil
              intro g3863
              refine VA.all [6, 8] (by kernel_rfl) (by simp) ?_
              refine VAll.consC (listed' := LB 13 767) rfl (o_call0 FO22 (tarryref13_End.ok k t9 t10 t11 t12 t13 t14 t15 t16 t17 t18 t19 t20 t21 t22 t23 t24 t25 t26 t27 t28 t29 t3837 t3838 t3839 t3840 t3841 t3842 t3843 t3844 t3845 t3846 t3847 t3848 t3849 t3850 t3851 t3852 t3853 t3854 t3855 t3856 t3857 t3858 t3859 hA3860) rfl rfl (ltn rfl) (All_of .nil)) rfl (by kernel_rfl) ?_ ?_
              · rintro _ _ _ ⟨rfl, rfl, rfl⟩
                refine ⟨⟨trivial, ⟨⟨5, rfl⟩, ⟨6, rfl⟩, trivial⟩, trivial⟩, ?_⟩
                refine VA.oneG (i := 8) (listed' := LB 13 1023) (by kernel_rfl) rfl (o_alloc Z35 ZL35 (ltn rfl)) rfl (by kernel_rfl) (fun _ => ⟨trivial, ⟨⟨6, rfl⟩, ⟨7, rfl⟩, trivial⟩, trivial⟩) ?_
                intro g3862
                refine VA.one1 (i := 10) (listed' := LB 13 2047) (by kernel_rfl) rfl (o_store 2 23 rfl rfl rfl TI35 (.agg (.of rfl)) rfl (len rfl)) rfl (by kernel_rfl) ⟨trivial, ⟨⟨6, rfl⟩, ⟨7, rfl⟩, trivial⟩, trivial⟩ ?_
                refine VA.one1 (i := 11) (listed' := LB 13 4095) (by kernel_rfl) rfl (o_store 0 23 rfl rfl rfl TI35 (.agg (.of rfl)) rfl (len rfl)) rfl (by kernel_rfl) ⟨trivial, ⟨⟨6, rfl⟩, ⟨7, rfl⟩, trivial⟩, trivial⟩ ?_
                refine VA.one1 (i := 12) (listed' := LB 13 8191) (by kernel_rfl) rfl (o_store 1 23 rfl rfl rfl TI35 (.agg (.of rfl)) rfl (len rfl)) rfl (by kernel_rfl) ⟨trivial, ⟨⟨6, rfl⟩, ⟨7, rfl⟩, trivial⟩, trivial⟩ ?_
                refine VA.done (by kernel_rfl) ?_
                exact VN.meet3 g3861 g3862 g3863 [1, 0, 2, 3, 4, 5] [] trivial ⟨rfl, ⟨rfl, rfl, rfl, rfl, rfl, rfl, rfl, rfl, rfl, rfl, rfl, trivial⟩, trivial, rfl, by decide, rfl, by decide⟩
              refine VAll.consG (listed' := LB 13 959) rfl (o_alloc Z35 ZL35 (ltn rfl)) rfl (by kernel_rfl) (fun _ => ⟨trivial, ⟨⟨6, rfl⟩, ⟨7, rfl⟩, trivial⟩, trivial⟩) ?_ VAll.nil
              intro g3862
              refine VA.oneC (i := 6) (listed' := LB 13 1023) (by kernel_rfl) rfl (o_call0 FO22 (tarryref13_End.ok k t9 t10 t11 t12 t13 t14 t15 t16 t17 t18 t19 t20 t21 t22 t23 t24 t25 t26 t27 t28 t29 t3837 t3838 t3839 t3840 t3841 t3842 t3843 t3844 t3845 t3846 t3847 t3848 t3849 t3850 t3851 t3852 t3853 t3854 t3855 t3856 t3857 t3858 t3859 hA3860) rfl rfl (ltn rfl) (All_of .nil)) rfl (by kernel_rfl) ?_
              rintro _ _ _ ⟨rfl, rfl, rfl⟩
              refine ⟨⟨trivial, ⟨⟨6, rfl⟩, ⟨7, rfl⟩, trivial⟩, trivial⟩, ?_⟩
              refine VA.one1 (i := 10) (listed' := LB 13 2047) (by kernel_rfl) rfl (o_store 2 23 rfl rfl rfl TI35 (.agg (.of rfl)) rfl (len rfl)) rfl (by kernel_rfl) ⟨trivial, ⟨⟨6, rfl⟩, ⟨7, rfl⟩, trivial⟩, trivial⟩ ?_
              refine VA.one1 (i := 11) (listed' := LB 13 4095) (by kernel_rfl) rfl (o_store 0 23 rfl rfl rfl TI35 (.agg (.of rfl)) rfl (len rfl)) rfl (by kernel_rfl) ⟨trivial, ⟨⟨6, rfl⟩, ⟨7, rfl⟩, trivial⟩, trivial⟩ ?_
              refine VA.one1 (i := 12) (listed' := LB 13 8191) (by kernel_rfl) rfl (o_store 1 23 rfl rfl rfl TI35 (.agg (.of rfl)) rfl (len rfl)) rfl (by kernel_rfl) ⟨trivial, ⟨⟨6, rfl⟩, ⟨7, rfl⟩, trivial⟩, trivial⟩ ?_
              refine VA.done (by kernel_rfl) ?_
              exact VN.meet3 g3861 g3862 g3863 [1, 0, 2, 3, 4, 5] [] trivial ⟨rfl, ⟨rfl, rfl, rfl, rfl, rfl, rfl, rfl, rfl, rfl, rfl, rfl, trivial⟩, trivial, rfl, by decide, rfl, by decide⟩
            refine VAll.consG (listed' := LB 13 319) rfl (o_alloc Z35 ZL35 (ltn rfl)) rfl (by kernel_rfl) (fun _ => ⟨trivial, ⟨⟨4, rfl⟩, ⟨5, rfl⟩, trivial⟩, trivial⟩) ?_ ?_
            · intro g3862
              refine VA.all [6, 7, 9] (by kernel_rfl) (by simp) ?_
              refine VAll.consC (listed' := LB 13 383) rfl (o_call0 FO22 (tarryref13_End.ok k t9 t10 t11 t12 t13 t14 t15 t16 t17 t18 t19 t20 t21 t22 t23 t24 t25 t26 t27 t28 t29 t3837 t3838 t3839 t3840 t3841 t3842 t3843 t3844 t3845 t3846 t3847 t3848 t3849 t3850 t3851 t3852 t3853 t3854 t3855 t3856 t3857 t3858 t3859 hA3860) rfl rfl (ltn rfl) (All_of .nil)) rfl (by kernel_rfl) ?_ ?_
              · rintro _ _ _ ⟨rfl, rfl, rfl⟩
                refine ⟨⟨trivial, ⟨⟨4, rfl⟩, ⟨5, rfl⟩, trivial⟩, trivial⟩, ?_⟩
                refine VA.all [7, 9] (by kernel_rfl) (by simp) ?_
                refine VAll.consG (listed' := LB 13 511) rfl (o_alloc Z35 ZL35 (ltn rfl)) rfl (by kernel_rfl) (fun _ => ⟨trivial, ⟨⟨5, rfl⟩, ⟨6, rfl⟩, trivial⟩, trivial⟩) ?_ ?_
                · intro g3861
                  refine VA.oneG (i := 9) (listed' := LB 13 1023) (by kernel_rfl) rfl (o_alloc Z35 ZL35 (ltn rfl)) rfl (by kernel_rfl) (fun _ => ⟨trivial, ⟨⟨6, rfl⟩, ⟨7, rfl⟩, trivial⟩, trivial⟩) ?_
                  intro g3863
                  refine VA.one1 (i := 10) (listed' := LB 13 2047) (by kernel_rfl) rfl (o_store 1 23 rfl rfl rfl TI35 (.agg (.of rfl)) rfl (len rfl)) rfl (by kernel_rfl) ⟨trivial, ⟨⟨6, rfl⟩, ⟨7, rfl⟩, trivial⟩, trivial⟩ ?_
                  refine VA.one1 (i := 11) (listed' := LB 13 4095) (by kernel_rfl) rfl (o_store 2 23 rfl rfl rfl TI35 (.agg (.of rfl)) rfl (len rfl)) rfl (by kernel_rfl) ⟨trivial, ⟨⟨6, rfl⟩, ⟨7, rfl⟩, trivial⟩, trivial⟩ ?_
                  refine VA.one1 (i := 12) (listed' := LB 13 8191) (by kernel_rfl) rfl (o_store 0 23 rfl rfl rfl TI35 (.agg (.of rfl)) rfl (len rfl)) rfl (by kernel_rfl) ⟨trivial, ⟨⟨6, rfl⟩, ⟨7, rfl⟩, trivial⟩, trivial⟩ ?_
                  refine VA.done (by kernel_rfl) ?_
                  exact VN.meet3 g3861 g3862 g3863 [0, 2, 1, 3, 4, 5] [] trivial ⟨rfl, ⟨rfl, rfl, rfl, rfl, rfl, rfl, rfl, rfl, rfl, rfl, rfl, trivial⟩, trivial, rfl, by decide, rfl, by decide⟩
                refine VAll.consG (listed' := LB 13 895) rfl (o_alloc Z35 ZL35 (ltn rfl)) rfl (by kernel_rfl) (fun _ => ⟨trivial, ⟨⟨5, rfl⟩, ⟨6, rfl⟩, trivial⟩, trivial⟩) ?_ VAll.nil
                intro g3863
                refine VA.oneG (i := 7) (listed' := LB 13 1023) (by kernel_rfl) rfl (o_alloc Z35 ZL35 (ltn rfl)) rfl (by kernel_rfl) (fun _ => ⟨trivial, ⟨⟨6, rfl⟩, ⟨7, rfl⟩, trivial⟩, trivial⟩) ?_
                intro g3861
                refine VA.one1 (i := 10) (listed' := LB 13 2047) (by kernel_rfl) rfl (o_store 0 23 rfl rfl rfl TI35 (.agg (.of rfl)) rfl (len rfl)) rfl (by kernel_rfl) ⟨trivial, ⟨⟨6, rfl⟩, ⟨7, rfl⟩, trivial⟩, trivial⟩ ?_
                refine VA.one1 (i := 11) (listed' := LB 13 4095) (by kernel_rfl) rfl (o_store 2 23 rfl rfl rfl TI35 (.agg (.of rfl)) rfl (len rfl)) rfl (by kernel_rfl) ⟨trivial, ⟨⟨6, rfl⟩, ⟨7, rfl⟩, trivial⟩, trivial⟩ ?_
                refine VA.one1 (i := 12) (listed' := LB 13 8191) (by kernel_rfl) rfl (o_store 1 23 rfl rfl rfl TI35 (.agg (.of rfl)) rfl (len rfl)) rfl (by kernel_rfl) ⟨trivial, ⟨⟨6, rfl⟩, ⟨7, rfl⟩, trivial⟩, trivial⟩ ?_
                refine VA.done (by kernel_rfl) ?_
                exact VN.meet3 g3861 g3862 g3863 [1, 2, 0, 3, 4, 5] [] trivial ⟨rfl, ⟨rfl, rfl, rfl, rfl, rfl, rfl, rfl, rfl, rfl, rfl, rfl, trivial⟩, trivial, rfl, by decide, rfl, by decide⟩
              refine VAll.consG (listed' := LB 13 447) rfl (o_alloc Z35 ZL35 (ltn rfl)) rfl (by kernel_rfl) (fun _ => ⟨trivial, ⟨⟨5, rfl⟩, ⟨6, rfl⟩, trivial⟩, trivial⟩) ?_ ?_
              · intro g3861
                refine VA.all [6, 9] (by kernel_rfl) (by simp) ?_
                refine VAll.consC (listed' := LB 13 511) rfl (o_call0 FO22 (tarryref13_End.ok k t9 t10 t11 t12 t13 t14 t15 t16 t17 t18 t19 t20 t21 t22 t23 t24 t25 t26 t27 t28 t29 t3837 t3838 t3839 t3840 t3841 t3842 t3843 t3844 t3845 t3846 t3847 t3848 t3849 t3850 t3851 t3852 t3853 t3854 t3855 t3856 t3857 t3858 t3859 hA3860) rfl rfl (ltn rfl) (All_of .nil)) rfl (by kernel_rfl) ?_ ?_
                · rintro _ _ _ ⟨rfl, rfl, rfl⟩
                  refine ⟨⟨trivial, ⟨⟨5, rfl⟩, ⟨6, rfl⟩, trivial⟩, trivial⟩, ?_⟩
                  refine VA.oneG (i := 9) (listed' := LB 13 1023) (by kernel_rfl) rfl (o_alloc Z35 ZL35 (ltn rfl)) rfl (by kernel_rfl) (fun _ => ⟨trivial, ⟨⟨6, rfl⟩, ⟨7, rfl⟩, trivial⟩, trivial⟩) ?_
                  intro g3863
                  refine VA.one1 (i := 10) (listed' := LB 13 2047) (by kernel_rfl) rfl (o_store 1 23 rfl rfl rfl TI35 (.agg (.of rfl)) rfl (len rfl)) rfl (by kernel_rfl) ⟨trivial, ⟨⟨6, rfl⟩, ⟨7, rfl⟩, trivial⟩, trivial⟩ ?_
                  refine VA.one1 (i := 11) (listed' := LB 13 4095) (by kernel_rfl) rfl (o_store 2 23 rfl rfl rfl TI35 (.agg (.of rfl)) rfl (len rfl)) rfl (by kernel_rfl) ⟨trivial, ⟨⟨6, rfl⟩, ⟨7, rfl⟩, trivial⟩, trivial⟩ ?_
                  refine VA.one1 (i := 12) (listed' := LB 13 8191) (by kernel_rfl) rfl (o_store 0 23 rfl rfl rfl TI35 (.agg (.of rfl)) rfl (len rfl)) rfl (by kernel_rfl) ⟨trivial, ⟨⟨6, rfl⟩, ⟨7, rfl⟩, trivial⟩, trivial⟩ ?_
                  refine VA.done (by kernel_rfl) ?_
                  exact VN.meet3 g3861 g3862 g3863 [0, 2, 1, 3, 4, 5] [] trivial ⟨rfl, ⟨rfl, rfl, rfl, rfl, rfl, rfl, rfl, rfl, rfl, rfl, rfl, trivial⟩, trivial, rfl, by decide, rfl, by decide⟩
                refine VAll.consG (listed' := LB 13 959) rfl (o_alloc Z35 ZL35 (ltn rfl)) rfl (by kernel_rfl) (fun _ => ⟨trivial, ⟨⟨6, rfl⟩, ⟨7, rfl⟩, trivial⟩, trivial⟩) ?_ VAll.nil
                intro g3863
                refine VA.oneC (i := 6) (listed' := LB 13 1023) (by kernel_rfl) rfl (o_call0 FO22 (tarryref13_End.ok k t9 t10 t11 t12 t13 t14 t15 t16 t17 t18 t19 t20 t21 t22 t23 t24 t25 t26 t27 t28 t29 t3837 t3838 t3839 t3840 t3841 t3842 t3843 t3844 t3845 t3846 t3847 t3848 t3849 t3850 t3851 t3852 t3853 t3854 t3855 t3856 t3857 t3858 t3859 hA3860) rfl rfl (ltn rfl) (All_of .nil)) rfl (by kernel_rfl) ?_
                rintro _ _ _ ⟨rfl, rfl, rfl⟩
                refine ⟨⟨trivial, ⟨⟨6, rfl⟩, ⟨7, rfl⟩, trivial⟩, trivial⟩, ?_⟩
                refine VA.one1 (i := 10) (listed' := LB 13 2047) (by kernel_rfl) rfl (o_store 1 23 rfl rfl rfl TI35 (.agg (.of rfl)) rfl (len rfl)) rfl (by kernel_rfl) ⟨trivial, ⟨⟨6, rfl⟩, ⟨7, rfl⟩, trivial⟩, trivial⟩ ?_
                refine VA.one1 (i := 11) (listed' := LB 13 4095) (by kernel_rfl) rfl (o_store 2 23 rfl rfl rfl TI35 (.agg (.of rfl)) rfl (len rfl)) rfl (by kernel_rfl) ⟨trivial, ⟨⟨6, rfl⟩, ⟨7, rfl⟩, trivial⟩, trivial⟩ ?_
                refine VA.one1 (i := 12) (listed' := LB 13 8191) (by kernel_rfl) rfl (o_store 0 23 rfl rfl rfl TI35 (.agg (.of rfl)) rfl (len rfl)) rfl (by kernel_rfl) ⟨trivial, ⟨⟨6, rfl⟩, ⟨7, rfl⟩, trivial⟩, trivial⟩ ?_
                refine VA.done (by kernel_rfl) ?_
                exact VN.meet3 g3861 g3862 g3863 [0, 2, 1, 3, 4, 5] [] trivial ⟨rfl, ⟨rfl, rfl, rfl, rfl, rfl, rfl, rfl, rfl, rfl, rfl, rfl, trivial⟩, trivial, rfl, by decide, rfl, by decide⟩
              refine VAll.consG (listed' := LB 13 831) rfl (o_alloc Z35 ZL35 (ltn rfl)) rfl (by kernel_rfl) (fun _ => ⟨trivial, ⟨⟨5, rfl⟩, ⟨6, rfl⟩, trivial⟩, trivial⟩) ?_ VAll.nil
              intro g3863
              refine VA.all [6, 7] (by kernel_rfl) (by simp) ?_
              refine VAll.consC (listed' := LB 13 895) rfl (o_call0 FO22 (tarryref13_End.ok k t9 t10 t11 t12 t13 t14 t15 t16 t17 t18 t19 t20 t21 t22 t23 t24 t25 t26 t27 t28 t29 t3837 t3838 t3839 t3840 t3841 t3842 t3843 t3844 t3845 t3846 t3847 t3848 t3849 t3850 t3851 t3852 t3853 t3854 t3855 t3856 t3857 t3858 t3859 hA3860) rfl rfl (ltn rfl) (All_of .nil)) rfl (by kernel_rfl) ?_ ?_
              · rintro _ _ _ ⟨rfl, rfl, rfl⟩
                refine ⟨⟨trivial, ⟨⟨5, rfl⟩, ⟨6, rfl⟩, trivial⟩, trivial⟩, ?_⟩
                refine VA.oneG (i := 7) (listed' := LB 13 1023) (by kernel_rfl) rfl (o_alloc Z35 ZL35 (ltn rfl)) rfl (by kernel_rfl) (fun _ => ⟨trivial, ⟨⟨6, rfl⟩, ⟨7, rfl⟩, trivial⟩, trivial⟩) ?_
                intro g3861
                refine VA.one1 (i := 10) (listed' := LB 13 2047) (by kernel_rfl) rfl (o_store 0 23 rfl rfl rfl TI35 (.agg (.of rfl)) rfl (len rfl)) rfl (by kernel_rfl) ⟨trivial, ⟨⟨6, rfl⟩, ⟨7, rfl⟩, trivial⟩, trivial⟩ ?_
                refine VA.one1 (i := 11) (listed' := LB 13 4095) (by kernel_rfl) rfl (o_store 2 23 rfl rfl rfl TI35 (.agg (.of rfl)) rfl (len rfl)) rfl (by kernel_rfl) ⟨trivial, ⟨⟨6, rfl⟩, ⟨7, rfl⟩, trivial⟩, trivial⟩ ?_
                refine VA.one1 (i := 12) (listed' := LB 13 8191) (by kernel_rfl) rfl (o_store 1 23 rfl rfl rfl TI35 (.agg (.of rfl)) rfl (len rfl)) rfl (by kernel_rfl) ⟨trivial, ⟨⟨6, rfl⟩, ⟨7, rfl⟩, trivial⟩, trivial⟩ ?_
                refine VA.done (by kernel_rfl) ?_
                exact VN.meet3 g3861 g3862 g3863 [1, 2, 0, 3, 4, 5] [] trivial ⟨rfl, ⟨rfl, rfl, rfl, rfl, rfl, rfl, rfl, rfl, rfl, rfl, rfl, trivial⟩, trivial, rfl, by decide, rfl, by decide⟩
              refine VAll.consG (listed' := LB 13 959) rfl (o_alloc Z35 ZL35 (ltn rfl)) rfl (by kernel_rfl) (fun _ => ⟨trivial, ⟨⟨6, rfl⟩, ⟨7, rfl⟩, trivial⟩, trivial⟩) ?_ VAll.nil
              intro g3861
              refine VA.oneC (i := 6) (listed' := LB 13 1023) (by kernel_rfl) rfl (o_call0 FO22 (tarryref13_End.ok k t9 t10 t11 t12 t13 t14 t15 t16 t17 t18 t19 t20 t21 t22 t23 t24 t25 t26 t27 t28 t29 t3837 t3838 t3839 t3840 t3841 t3842 t3843 t3844 t3845 t3846 t3847 t3848 t3849 t3850 t3851 t3852 t3853 t3854 t3855 t3856 t3857 t3858 t3859 hA3860) rfl rfl (ltn rfl) (All_of .nil)) rfl (by kernel_rfl) ?_
              rintro _ _ _ ⟨rfl, rfl, rfl⟩
              refine ⟨⟨trivial, ⟨⟨6, rfl⟩, ⟨7, rfl⟩, trivial⟩, trivial⟩, ?_⟩
              refine VA.one1 (i := 10) (listed' := LB 13 2047) (by kernel_rfl) rfl (o_store 0 23 rfl rfl rfl TI35 (.agg (.of rfl)) rfl (len rfl)) rfl (by kernel_rfl) ⟨trivial, ⟨⟨6, rfl⟩, ⟨7, rfl⟩, trivial⟩, trivial⟩ ?_
              refine VA.one1 (i := 11) (listed' := LB 13 4095) (by kernel_rfl) rfl (o_store 2 23 rfl rfl rfl TI35 (.agg (.of rfl)) rfl (len rfl)) rfl (by kernel_rfl) ⟨trivial, ⟨⟨6, rfl⟩, ⟨7, rfl⟩, trivial⟩, trivial⟩ ?_
              refine VA.one1 (i := 12) (listed' := LB 13 8191) (by kernel_rfl) rfl (o_store 1 23 rfl rfl rfl TI35 (.agg (.of rfl)) rfl (len rfl)) rfl (by kernel_rfl) ⟨trivial, ⟨⟨6, rfl⟩, ⟨7, rfl⟩, trivial⟩, trivial⟩ ?_
              refine VA.done (by kernel_rfl) ?_
              exact VN.meet3 g3861 g3862 g3863 [1, 2, 0, 3, 4, 5] [] trivial ⟨rfl, ⟨rfl, rfl, rfl, rfl, rfl, rfl, rfl, rfl, rfl, rfl, rfl, trivial⟩, trivial, rfl, by decide, rfl, by decide⟩
            refine VAll.consG (listed' := LB 13 575) rfl (o_alloc Z35 ZL35 (ltn rfl)) rfl (by kernel_rfl) (fun _ => ⟨trivial, ⟨⟨4, rfl⟩, ⟨5, rfl⟩, trivial⟩, trivial⟩) ?_ VAll.nil
            intro g3863
            refine VA.all [6, 7, 8] (by kernel_rfl) (by simp) ?_
            refine VAll.consC (listed' := LB 13 639) rfl (o_call0 FO22 (tarryref13_End.ok k t9 t10 t11 t12 t13 t14 t15 t16 t17 t18 t19 t20 t21 t22 t23 t24 t25 t26 t27 t28 t29 t3837 t3838 t3839 t3840 t3841 t3842 t3843 t3844 t3845 t3846 t3847 t3848 t3849 t3850 t3851 t3852 t3853 t3854 t3855 t3856 t3857 t3858 t3859 hA3860) rfl rfl (ltn rfl) (All_of .nil)) rfl (by kernel_rfl) ?_ ?_
            · rintro _ _ _ ⟨rfl, rfl, rfl⟩
              refine ⟨⟨trivial, ⟨⟨4, rfl⟩, ⟨5, rfl⟩, trivial⟩, trivial⟩, ?_⟩
              refine VA.all [7, 8] (by kernel_rfl) (by simp) ?_
              refine VAll.consG (listed' := LB 13 767) rfl (o_alloc Z35 ZL35 (ltn rfl)) rfl (by kernel_rfl) (fun _ => ⟨trivial, ⟨⟨5, rfl⟩, ⟨6, rfl⟩, trivial⟩, trivial⟩) ?_ ?_
              · intro g3861
                refine VA.oneG (i := 8) (listed' := LB 13 1023) (by kernel_rfl) rfl (o_alloc Z35 ZL35 (ltn rfl)) rfl (by kernel_rfl) (fun _ => ⟨trivial, ⟨⟨6, rfl⟩, ⟨7, rfl⟩, trivial⟩, trivial⟩) ?_
                intro g3862
                refine VA.one1 (i := 10) (listed' := LB 13 2047) (by kernel_rfl) rfl (o_store 1 23 rfl rfl rfl TI35 (.agg (.of rfl)) rfl (len rfl)) rfl (by kernel_rfl) ⟨trivial, ⟨⟨6, rfl⟩, ⟨7, rfl⟩, trivial⟩, trivial⟩ ?_
                refine VA.one1 (i := 11) (listed' := LB 13 4095) (by kernel_rfl) rfl (o_store 0 23 rfl rfl rfl TI35 (.agg (.of rfl)) rfl (len rfl)) rfl (by kernel_rfl) ⟨trivial, ⟨⟨6, rfl⟩, ⟨7, rfl⟩, trivial⟩, trivial⟩ ?_
                refine VA.one1 (i := 12) (listed' := LB 13 8191) (by kernel_rfl) rfl (o_store 2 23 rfl rfl rfl TI35 (.agg (.of rfl)) rfl (len rfl)) rfl (by kernel_rfl) ⟨trivial, ⟨⟨6, rfl⟩, ⟨7, rfl⟩, trivial⟩, trivial⟩ ?_
                refine VA.done (by kernel_rfl) ?_
                exact VN.meet3 g3861 g3862 g3863 [2, 0, 1, 3, 4, 5] [] trivial ⟨rfl, ⟨rfl, rfl, rfl, rfl, rfl, rfl, rfl, rfl, rfl, rfl, rfl, trivial⟩, trivial, rfl, by decide, rfl, by decide⟩
              refine VAll.consG (listed' := LB 13 895) rfl (o_alloc Z35 ZL35 (ltn rfl)) rfl (by kernel_rfl) (fun _ => ⟨trivial, ⟨⟨5, rfl⟩, ⟨6, rfl⟩, trivial⟩, trivial⟩) ?_ VAll.nil
              intro g3862
              refine VA.oneG (i := 7) (listed' := LB 13 1023) (by kernel_rfl) rfl (o_alloc Z35 ZL35 (ltn rfl)) rfl (by kernel_rfl) (fun _ => ⟨trivial, ⟨⟨6, rfl⟩, ⟨7, rfl⟩, trivial⟩, trivial⟩) ?_
              intro g3861
              refine VA.one1 (i := 10) (listed' := LB 13 2047) (by kernel_rfl) rfl (o_store 0 23 rfl rfl rfl TI35 (.agg (.of rfl)) rfl (len rfl)) rfl (by kernel_rfl) ⟨trivial, ⟨⟨6, rfl⟩, ⟨7, rfl⟩, trivial⟩, trivial⟩ ?_
              refine VA.one1 (i := 11) (listed' := LB 13 4095) (by kernel_rfl) rfl (o_store 1 23 rfl rfl rfl TI35 (.agg (.of rfl)) rfl (len rfl)) rfl (by kernel_rfl) ⟨trivial, ⟨⟨6, rfl⟩, ⟨7, rfl⟩, trivial⟩, trivial⟩ ?_
              refine VA.one1 (i := 12) (listed' := LB 13 8191) (by kernel_rfl) rfl (o_store 2 23 rfl rfl rfl TI35 (.agg (.of rfl)) rfl (len rfl)) rfl (by kernel_rfl) ⟨trivial, ⟨⟨6, rfl⟩, ⟨7, rfl⟩, trivial⟩, trivial⟩ ?_
              refine VA.done (by kernel_rfl) ?_
              exact VN.meet3 g3861 g3862 g3863 [2, 1, 0, 3, 4, 5] [] trivial ⟨rfl, ⟨rfl, rfl, rfl, rfl, rfl, rfl, rfl, rfl, rfl, rfl, rfl, trivial⟩, trivial, rfl, by decide, rfl, by decide⟩
            refine VAll.consG (listed' := LB 13 703) rfl (o_alloc Z35 ZL35 (ltn rfl)) rfl (by kernel_rfl) (fun _ => ⟨trivial, ⟨⟨5, rfl⟩, ⟨6, rfl⟩, trivial⟩, trivial⟩) ?_ ?_
            · intro g3861
              refine VA.all [6, 8] (by kernel_rfl) (by simp) ?_
              refine VAll.consC (listed' := LB 13 767) rfl (o_call0 FO22 (tarryref13_End.ok k t9 t10 t11 t12 t13 t14 t15 t16 t17 t18 t19 t20 t21 t22 t23 t24 t25 t26 t27 t28 t29 t3837 t3838 t3839 t3840 t3841 t3842 t3843 t3844 t3845 t3846 t3847 t3848 t3849 t3850 t3851 t3852 t3853 t3854 t3855 t3856 t3857 t3858 t3859 hA3860) rfl rfl (ltn rfl) (All_of .nil)) rfl (by kernel_rfl) ?_ ?_
              · rintro _ _ _ ⟨rfl, rfl, rfl⟩
                refine ⟨⟨trivial, ⟨⟨5, rfl⟩, ⟨6, rfl⟩, trivial⟩, trivial⟩, ?_⟩
                refine VA.oneG (i := 8) (listed' := LB 13 1023) (by kernel_rfl) rfl (o_alloc Z35 ZL35 (ltn rfl)) rfl (by kernel_rfl) (fun _ => ⟨trivial, ⟨⟨6, rfl⟩, ⟨7, rfl⟩, trivial⟩, trivial⟩) ?_
                intro g3862
                refine VA.one1 (i := 10) (listed' := LB 13 2047) (by kernel_rfl) rfl (o_store 1 23 rfl rfl rfl TI35 (.agg (.of rfl)) rfl (len rfl)) rfl (by kernel_rfl) ⟨trivial, ⟨⟨6, rfl⟩, ⟨7, rfl⟩, trivial⟩, trivial⟩ ?_
                refine VA.one1 (i := 11) (listed' := LB 13 4095) (by kernel_rfl) rfl (o_store 0 23 rfl rfl rfl TI35 (.agg (.of rfl)) rfl (len rfl)) rfl (by kernel_rfl) ⟨trivial, ⟨⟨6, rfl⟩, ⟨7, rfl⟩, trivial⟩, trivial⟩ ?_
                refine VA.one1 (i := 12) (listed' := LB 13 8191) (by kernel_rfl) rfl (o_store 2 23 rfl rfl rfl TI35 (.agg (.of rfl)) rfl (len rfl)) rfl (by kernel_rfl) ⟨trivial, ⟨⟨6, rfl⟩, ⟨7, rfl⟩, trivial⟩, trivial⟩ ?_
                refine VA.done (by kernel_rfl) ?_
                exact VN.meet3 g3861 g3862 g3863 [2, 0, 1, 3, 4, 5] [] trivial ⟨rfl, ⟨rfl, rfl, rfl, rfl, rfl, rfl, rfl, rfl, rfl, rfl, rfl, trivial⟩, trivial, rfl, by decide, rfl, by decide⟩
              refine VAll.consG (listed' := LB 13 959) rfl (o_alloc Z35 ZL35 (ltn rfl)) rfl (by kernel_rfl) (fun _ => ⟨trivial, ⟨⟨6, rfl⟩, ⟨7, rfl⟩, trivial⟩, trivial⟩) ?_ VAll.nil
              intro g3862
              refine VA.oneC (i := 6) (listed' := LB 13 1023) (by kernel_rfl) rfl (o_call0 FO22 (tarryref13_End.ok k t9 t10 t11 t12 t13 t14 t15 t16 t17 t18 t19 t20 t21 t22 t23 t24 t25 t26 t27 t28 t29 t3837 t3838 t3839 t3840 t3841 t3842 t3843 t3844 t3845 t3846 t3847 t3848 t3849 t3850 t3851 t3852 t3853 t3854 t3855 t3856 t3857 t3858 t3859 hA3860) rfl rfl (ltn rfl) (All_of .nil)) rfl (by kernel_rfl) ?_
              rintro _ _ _ ⟨rfl, rfl, rfl⟩
              refine ⟨⟨trivial, ⟨⟨6, rfl⟩, ⟨7, rfl⟩, trivial⟩, trivial⟩, ?_⟩
              refine VA.one1 (i := 10) (listed' := LB 13 2047) (by kernel_rfl) rfl (o_store 1 23 rfl rfl rfl TI35 (.agg (.of rfl)) rfl (len rfl)) rfl (by kernel_rfl) ⟨trivial, ⟨⟨6, rfl⟩, ⟨7, rfl⟩, trivial⟩, trivial⟩ ?_
              refine VA.one1 (i := 11) (listed' := LB 13 4095) (by kernel_rfl) rfl (o_store 0 23 rfl rfl rfl TI35 (.agg (.of rfl)) rfl (len rfl)) rfl (by kernel_rfl) ⟨trivial, ⟨⟨6, rfl⟩, ⟨7, rfl⟩, trivial⟩, trivial⟩ ?_
              refine VA.one1 (i := 12) (listed' := LB 13 8191) (by kernel_rfl) rfl (o_store 2 23 rfl rfl rfl TI35 (.agg (.of rfl)) rfl (len rfl)) rfl (by kernel_rfl) ⟨trivial, ⟨⟨6, rfl⟩, ⟨7, rfl⟩, trivial⟩, trivial⟩ ?_
              refine VA.done (by kernel_rfl) ?_
              exact VN.meet3 g3861 g3862 g3863 [2, 0, 1, 3, 4, 5] [] trivial ⟨rfl, ⟨rfl, rfl, rfl, rfl, rfl, rfl, rfl, rfl, rfl, rfl, rfl, trivial⟩, trivial, rfl, by decide, rfl, by decide⟩
            refine VAll.consG (listed' := LB 13 831) rfl (o_alloc Z35 ZL35 (ltn rfl)) rfl (by kernel_rfl) (fun _ => ⟨trivial, ⟨⟨5, rfl⟩, ⟨6, rfl⟩, trivial⟩, trivial⟩) ?_ VAll.nil
            intro g3862
            refine VA.all [6, 7] (by kernel_rfl) (by simp) ?_
            refine VAll.consC (listed' := LB 13 895) rfl (o_call0 FO22 (tarryref13_End.ok k t9 t10 t11 t12 t13 t14 t15 t16 t17 t18 t19 t20 t21 t22 t23 t24 t25 t26 t27 t28 t29 t3837 t3838 t3839 t3840 t3841 t3842 t3843 t3844 t3845 t3846 t3847 t3848 t3849 t3850 t3851 t3852 t3853 t3854 t3855 t3856 t3857 t3858 t3859 hA3860) rfl rfl (ltn rfl) (All_of .nil)) rfl (by kernel_rfl) ?_ ?_
            · rintro _ _ _ ⟨rfl, rfl, rfl⟩
              refine ⟨⟨trivial, ⟨⟨5, rfl⟩, ⟨6, rfl⟩, trivial⟩, trivial⟩, ?_⟩
              refine VA.oneG (i := 7) (listed' := LB 13 1023) (by kernel_rfl) rfl (o_alloc Z35 ZL35 (ltn rfl)) rfl (by kernel_rfl) (fun _ => ⟨trivial, ⟨⟨6, rfl⟩, ⟨7, rfl⟩, trivial⟩, trivial⟩) ?_
              intro g3861
              refine VA.one1 (i := 10) (listed' := LB 13 2047) (by kernel_rfl) rfl (o_store 0 23 rfl rfl rfl TI35 (.agg (.of rfl)) rfl (len rfl)) rfl (by kernel_rfl) ⟨trivial, ⟨⟨6, rfl⟩, ⟨7, rfl⟩, trivial⟩, trivial⟩ ?_
              refine VA.one1 (i := 11) (listed' := LB 13 4095) (by kernel_rfl) rfl (o_store 1 23 rfl rfl rfl TI35 (.agg (.of rfl)) rfl (len rfl)) rfl (by kernel_rfl) ⟨trivial, ⟨⟨6, rfl⟩, ⟨7, rfl⟩, trivial⟩, trivial⟩ ?_
              refine VA.one1 (i := 12) (listed' := LB 13 8191) (by kernel_rfl) rfl (o_store 2 23 rfl rfl rfl TI35 (.agg (.of rfl)) rfl (len rfl)) rfl (by kernel_rfl) ⟨trivial, ⟨⟨6, rfl⟩, ⟨7, rfl⟩, trivial⟩, trivial⟩ ?_
              refine VA.done (by kernel_rfl) ?_
              exact VN.meet3 g3861 g3862 g3863 [2, 1, 0, 3, 4, 5] [] trivial ⟨rfl, ⟨rfl, rfl, rfl, rfl, rfl, rfl, rfl, rfl, rfl, rfl, rfl, trivial⟩, trivial, rfl, by decide, rfl, by decide⟩
            refine VAll.consG (listed' := LB 13 959) rfl (o_alloc Z35 ZL35 (ltn rfl)) rfl (by kernel_rfl) (fun _ => ⟨trivial, ⟨⟨6, rfl⟩, ⟨7, rfl⟩, trivial⟩, trivial⟩) ?_ VAll.nil
            intro g3861
            refine VA.oneC (i := 6) (listed' := LB 13 1023) (by kernel_rfl) rfl (o_call0 FO22 (tarryref13_End.ok k t9 t10 t11 t12 t13 t14 t15 t16 t17 t18 t19 t20 t21 t22 t23 t24 t25 t26 t27 t28 t29 t3837 t3838 t3839 t3840 t3841 t3842 t3843 t3844 t3845 t3846 t3847 t3848 t3849 t3850 t3851 t3852 t3853 t3854 t3855 t3856 t3857 t3858 t3859 hA3860) rfl rfl (ltn rfl) (All_of .nil)) rfl (by kernel_rfl) ?_
            rintro _ _ _ ⟨rfl, rfl, rfl⟩
            refine ⟨⟨trivial, ⟨⟨6, rfl⟩, ⟨7, rfl⟩, trivial⟩, trivial⟩, ?_⟩
            refine VA.one1 (i := 10) (listed' := LB 13 2047) (by kernel_rfl) rfl (o_store 0 23 rfl rfl rfl TI35 (.agg (.of rfl)) rfl (len rfl)) rfl (by kernel_rfl) ⟨trivial, ⟨⟨6, rfl⟩, ⟨7, rfl⟩, trivial⟩, trivial⟩ ?_
            refine VA.one1 (i := 11) (listed' := LB 13 4095) (by kernel_rfl) rfl (o_store 1 23 rfl rfl rfl TI35 (.agg (.of rfl)) rfl (len rfl)) rfl (by kernel_rfl) ⟨trivial, ⟨⟨6, rfl⟩, ⟨7, rfl⟩, trivial⟩, trivial⟩ ?_
            refine VA.one1 (i := 12) (listed' := LB 13 8191) (by kernel_rfl) rfl (o_store 2 23 rfl rfl rfl TI35 (.agg (.of rfl)) rfl (len rfl)) rfl (by kernel_rfl) ⟨trivial, ⟨⟨6, rfl⟩, ⟨7, rfl⟩, trivial⟩, trivial⟩ ?_
            refine VA.done (by kernel_rfl) ?_
            exact VN.meet3 g3861 g3862 g3863 [2, 1, 0, 3, 4, 5] [] trivial ⟨rfl, ⟨rfl, rfl, rfl, rfl, rfl, rfl, rfl, rfl, rfl, rfl, rfl, trivial⟩, trivial, rfl, by decide, rfl, by decide⟩
          refine VAll.consG (listed' := LB 13 175) rfl (o_alloc Z35 ZL35 (ltn rfl)) rfl (by kernel_rfl) (fun _ => ⟨trivial, ⟨⟨4, rfl⟩, ⟨5, rfl⟩, trivial⟩, trivial⟩) ?_ ?_
          · intro g3861
            refine VA.all [4, 8, 9] (by kernel_rfl) (by simp) ?_
            refine VAll.consC (listed' := LB 13 191) rfl (o_call0 FO21 (tarryref13_Came.ok k t9 t10 t11 t12 t13 t14 t15 t16 t17 t18 t19 t20 t21 t22 t23 t24 t25 t26 t27 t28 t29 t3781 t3782 t3783 t3784 t3785 t3786 t3787 t3788 t3789 t3790 t3791 t3792 t3793 t3794 t3795 t3796 t3797 t3798 t3799 t3800 t3801 t3802 t3803 hA3804) rfl rfl (ltn rfl) (All_of .nil)) rfl (by kernel_rfl) ?_ ?_
            · rintro _ _ _ ⟨rfl, rfl, rfl⟩
              refine ⟨⟨trivial, ⟨⟨4, rfl⟩, ⟨5, rfl⟩, trivial⟩, trivial⟩, ?_⟩
              refine VA.all [6, 8, 9] (by kernel_rfl) (by simp) ?_
              refine VAll.consC (listed' := LB 13 255) rfl (o_call0 FO22 (tarryref13_End.ok k t9 t10 t11 t12 t13 t14 t15 t16 t17 t18 t19 t20 t21 t22 t23 t24 t25 t26 t27 t28 t29 t3837 t3838 t3839 t3840 t3841 t3842 t3843 t3844 t3845 t3846 t3847 t3848 t3849 t3850 t3851 t3852 t3853 t3854 t3855 t3856 t3857 t3858 t3859 hA3860) rfl rfl (ltn rfl) (All_of .nil)) rfl (by kernel_rfl) ?_ ?_
              · rintro _ _ _ ⟨rfl, rfl, rfl⟩
                refine ⟨⟨trivial, ⟨⟨4, rfl⟩, ⟨5, rfl⟩, trivial⟩, trivial⟩, ?_⟩
                refine VA.all [8, 9] (by kernel_rfl) (by simp) ?_
                refine VAll.consG (listed' := LB 13 511) rfl (o_alloc Z35 ZL35 (ltn rfl)) rfl (by kernel_rfl) (fun _ => ⟨trivial, ⟨⟨5, rfl⟩, ⟨6, rfl⟩, trivial⟩, trivial⟩) ?_ ?_
                · intro g3862
                  refine VA.oneG (i := 9) (listed' := LB 13 1023) (by kernel_rfl) rfl (o_alloc Z35 ZL35 (ltn rfl)) rfl (by kernel_rfl) (fun _ => ⟨trivial, ⟨⟨6, rfl⟩, ⟨7, rfl⟩, trivial⟩, trivial⟩) ?_
                  intro g3863
                  refine VA.one1 (i := 10) (listed' := LB 13 2047) (by kernel_rfl) rfl (o_store 2 23 rfl rfl rfl TI35 (.agg (.of rfl)) rfl (len rfl)) rfl (by kernel_rfl) ⟨trivial, ⟨⟨6, rfl⟩, ⟨7, rfl⟩, trivial⟩, trivial⟩ ?_
                  refine VA.one1 (i := 11) (listed' := LB 13 4095) (by kernel_rfl) rfl (o_store 1 23 rfl rfl rfl TI35 (.agg (.of rfl)) rfl (len rfl)) rfl (by kernel_rfl) ⟨trivial, ⟨⟨6, rfl⟩, ⟨7, rfl⟩, trivial⟩, trivial⟩ ?_
                  refine VA.one1 (i := 12) (listed' := LB 13 8191) (by kernel_rfl) rfl (o_store 0 23 rfl rfl rfl TI35 (.agg (.of rfl)) rfl (len rfl)) rfl (by kernel_rfl) ⟨trivial, ⟨⟨6, rfl⟩, ⟨7, rfl⟩, trivial⟩, trivial⟩ ?_
                  refine VA.done (by kernel_rfl) ?_
                  exact VN.meet3 g3861 g3862 g3863 [0, 1, 2, 3, 4, 5] [] trivial ⟨rfl, ⟨rfl, rfl, rfl, rfl, rfl, rfl, rfl, rfl, rfl, rfl, rfl, trivial⟩, trivial, rfl, by decide, rfl, by decide⟩
                refine VAll.consG (listed' := LB 13 767) rfl (o_alloc Z35 ZL35 (ltn rfl)) rfl (by kernel_rfl) (fun _ => ⟨trivial, ⟨⟨5, rfl⟩, ⟨6, rfl⟩, trivial⟩, trivial⟩) ?_ VAll.nil
                intro g3863
                refine VA.oneG (i := 8) (listed' := LB 13 1023) (by kernel_rfl) rfl (o_alloc Z35 ZL35 (ltn rfl)) rfl (by kernel_rfl) (fun _ => ⟨trivial, ⟨⟨6, rfl⟩, ⟨7, rfl⟩, trivial⟩, trivial⟩) ?_
                intro g3862
                refine VA.one1 (i := 10) (listed' := LB 13 2047) (by kernel_rfl) rfl (o_store 2 23 rfl rfl rfl TI35 (.agg (.of rfl)) rfl (len rfl)) rfl (by kernel_rfl) ⟨trivial, ⟨⟨6, rfl⟩, ⟨7, rfl⟩, trivial⟩, trivial⟩ ?_
                refine VA.one1 (i := 11) (listed' := LB 13 4095) (by kernel_rfl) rfl (o_store 0 23 rfl rfl rfl TI35 (.agg (.of rfl)) rfl (len rfl)) rfl (by kernel_rfl) ⟨trivial, ⟨⟨6, rfl⟩, ⟨7, rfl⟩, trivial⟩, trivial⟩ ?_
                refine VA.one1 (i := 12) (listed' := LB 13 8191) (by kernel_rfl) rfl (o_store 1 23 rfl rfl rfl TI35 (.agg (.of rfl)) rfl (len rfl)) rfl (by kernel_rfl) ⟨trivial, ⟨⟨6, rfl⟩, ⟨7, rfl⟩, trivial⟩, trivial⟩ ?_
                refine VA.done (by kernel_rfl) ?_
                exact VN.meet3 g3861 g3862 g3863 [1, 0, 2, 3, 4, 5] [] trivial ⟨rfl, ⟨rfl, rfl, rfl, rfl, rfl, rfl, rfl, rfl, rfl, rfl, rfl, trivial⟩, trivial, rfl, by decide, rfl, by decide⟩
              refine VAll.consG (listed' := LB 13 447) rfl (o_alloc Z35 ZL35 (ltn rfl)) rfl (by kernel_rfl) (fun _ => ⟨trivial, ⟨⟨5, rfl⟩, ⟨6, rfl⟩, trivial⟩, trivial⟩) ?_ ?_
              · intro g3862
                refine VA.all [6, 9] (by kernel_rfl) (by simp) ?_
                refine VAll.consC (listed' := LB 13 511) rfl (o_call0 FO22 (tarryref13_End.ok k t9 t10 t11 t12 t13 t14 t15 t16 t17 t18 t19 t20 t21 t22 t23 t24 t25 t26 t27 t28 t29 t3837 t3838 t3839 t3840 t3841 t3842 t3843 t3844 t3845 t3846 t3847 t3848 t3849 t3850 t3851 t3852 t3853 t3854 t3855 t3856 t3857 t3858 t3859 hA3860) rfl rfl (ltn rfl) (All_of .nil)) rfl (by kernel_rfl) ?_ ?_
                · rintro _ _ _ ⟨rfl, rfl, rfl⟩
                  refine ⟨⟨trivial, ⟨⟨5, rfl⟩, ⟨6, rfl⟩, trivial⟩, trivial⟩, ?_⟩
                  refine VA.oneG (i := 9) (listed' := LB 13 1023) (by kernel_rfl) rfl (o_alloc Z35 ZL35 (ltn rfl)) rfl (by kernel_rfl) (fun _ => ⟨trivial, ⟨⟨6, rfl⟩, ⟨7, rfl⟩, trivial⟩, trivial⟩) ?_
                  intro g3863
                  refine VA.one1 (i := 10) (listed' := LB 13 2047) (by kernel_rfl) rfl (o_store 2 23 rfl rfl rfl TI35 (.agg (.of rfl)) rfl (len rfl)) rfl (by kernel_rfl) ⟨trivial, ⟨⟨6, rfl⟩, ⟨7, rfl⟩, trivial⟩, trivial⟩ ?_
                  refine VA.one1 (i := 11) (listed' := LB 13 4095) (by kernel_rfl) rfl (o_store 1 23 rfl rfl rfl TI35 (.agg (.of rfl)) rfl (len rfl)) rfl (by kernel_rfl) ⟨trivial, ⟨⟨6, rfl⟩, ⟨7, rfl⟩, trivial⟩, trivial⟩ ?_
                  refine VA.one1 (i := 12) (listed' := LB 13 8191) (by kernel_rfl) rfl (o_store 0 23 rfl rfl rfl TI35 (.agg (.of rfl)) rfl (len rfl)) rfl (by kernel_rfl) ⟨trivial, ⟨⟨6, rfl⟩, ⟨7, rfl⟩, trivial⟩, trivial⟩ ?_
                  refine VA.done (by kernel_rfl) ?_
                  exact VN.meet3 g3861 g3862 g3863 [0, 1, 2, 3, 4, 5] [] trivial ⟨rfl, ⟨rfl, rfl, rfl, rfl, rfl, rfl, rfl, rfl, rfl, rfl, rfl, trivial⟩, trivial, rfl, by decide, rfl, by decide⟩
                refine VAll.consG (listed' := LB 13 959) rfl (o_alloc Z35 ZL35 (ltn rfl)) rfl (by kernel_rfl) (fun _ => ⟨trivial, ⟨⟨6, rfl⟩, ⟨7, rfl⟩, trivial⟩, trivial⟩) ?_ VAll.nil
                intro g3863
                refine VA.oneC (i := 6) (listed' := LB 13 1023) (by kernel_rfl) rfl (o_call0 FO22 (tarryref13_End.ok k t9 t10 t11 t12 t13 t14 t15 t16 t17 t18 t19 t20 t21 t22 t23 t24 t25 t26 t27 t28 t29 t3837 t3838 t3839 t3840 t3841 t3842 t3843 t3844 t3845 t3846 t3847 t3848 t3849 t3850 t3851 t3852 t3853 t3854 t3855 t3856 t3857 t3858 t3859 hA3860) rfl rfl (ltn rfl) (All_of .nil)) rfl (by kernel_rfl) ?_
                rintro _ _ _ ⟨rfl, rfl, rfl⟩
                refine ⟨⟨trivial, ⟨⟨6, rfl⟩, ⟨7, rfl⟩, trivial⟩, trivial⟩, ?_⟩
                refine VA.one1 (i := 10) (listed' := LB 13 2047) (by kernel_rfl) rfl (o_store 2 23 rfl rfl rfl TI35 (.agg (.of rfl)) rfl (len rfl)) rfl (by kernel_rfl) ⟨trivial, ⟨⟨6, rfl⟩, ⟨7, rfl⟩, trivial⟩, trivial⟩ ?_
                refine VA.one1 (i := 11) (listed' := LB 13 4095) (by kernel_rfl) rfl (o_store 1 23 rfl rfl rfl TI35 (.agg (.of rfl)) rfl (len rfl)) rfl (by kernel_rfl) ⟨trivial, ⟨⟨6, rfl⟩, ⟨7, rfl⟩, trivial⟩, trivial⟩ ?_
                refine VA.one1 (i := 12) (listed' := LB 13 8191) (by kernel_rfl) rfl (o_store 0 23 rfl rfl rfl TI35 (.agg (.of rfl)) rfl (len rfl)) rfl (by kernel_rfl) ⟨trivial, ⟨⟨6, rfl⟩, ⟨7, rfl⟩, trivial⟩, trivial⟩ ?_
                refine VA.done (by kernel_rfl) ?_
                exact VN.meet3 g3861 g3862 g3863 [0, 1, 2, 3, 4, 5] [] trivial ⟨rfl, ⟨rfl, rfl, rfl, rfl, rfl, rfl, rfl, rfl, rfl, rfl, rfl, trivial⟩, trivial, rfl, by decide, rfl, by decide⟩
              refine VAll.consG (listed' := LB 13 703) rfl (o_alloc Z35 ZL35 (ltn rfl)) rfl (by kernel_rfl) (fun _ => ⟨trivial, ⟨⟨5, rfl⟩, ⟨6, rfl⟩, trivial⟩, trivial⟩) ?_ VAll.nil
              intro g3863
              refine VA.all [6, 8] (by kernel_rfl) (by simp) ?_
              refine VAll.consC (listed' := LB 13 767) rfl (o_call0 FO22 (tarryref13_End.ok k t9 t10 t11 t12 t13 t14 t15 t16 t17 t18 t19 t20 t21 t22 t23 t24 t25 t26 t27 t28 t29 t3837 t3838 t3839 t3840 t3841 t3842 t3843 t3844 t3845 t3846 t3847 t3848 t3849 t3850 t3851 t3852 t3853 t3854 t3855 t3856 t3857 t3858 t3859 hA3860) rfl rfl (ltn rfl) (All_of .nil)) rfl (by kernel_rfl) ?_ ?_
              · rintro _ _ _ ⟨rfl, rfl, rfl⟩
                refine ⟨⟨trivial, ⟨⟨5, rfl⟩, ⟨6, rfl⟩, trivial⟩, trivial⟩, ?_⟩
                refine VA.oneG (i := 8) (listed' := LB 13 1023) (by kernel_rfl) rfl (o_alloc Z35 ZL35 (ltn rfl)) rfl (by kernel_rfl) (fun _ => ⟨trivial, ⟨⟨6, rfl⟩, ⟨7, rfl⟩, trivial⟩, trivial⟩) ?_
                intro g3862
                refine VA.one1 (i := 10) (listed' := LB 13 2047) (by kernel_rfl) rfl (o_store 2 23 rfl rfl rfl TI35 (.agg (.of rfl)) rfl (len rfl)) rfl (by kernel_rfl) ⟨trivial, ⟨⟨6, rfl⟩, ⟨7, rfl⟩, trivial⟩, trivial⟩ ?_
                refine VA.one1 (i := 11) (listed' := LB 13 4095) (by kernel_rfl) rfl (o_store 0 23 rfl rfl rfl TI35 (.agg (.of rfl)) rfl (len rfl)) rfl (by kernel_rfl) ⟨trivial, ⟨⟨6, rfl⟩, ⟨7, rfl⟩, trivial⟩, trivial⟩ ?_
                refine VA.one1 (i := 12) (listed' := LB 13 8191) (by kernel_rfl) rfl (o_store 1 23 rfl rfl rfl TI35 (.agg (.of rfl)) rfl (len rfl)) rfl (by kernel_rfl) ⟨trivial, ⟨⟨6, rfl⟩, ⟨7, rfl⟩, trivial⟩, trivial⟩ ?_
                refine VA.done (by kernel_rfl) ?_
                exact VN.meet3 g3861 g3862 g3863 [1, 0, 2, 3, 4, 5] [] trivial ⟨rfl, ⟨rfl, rfl, rfl, rfl, rfl, rfl, rfl, rfl, rfl, rfl, rfl, trivial⟩, trivial, rfl, by decide, rfl, by decide⟩
              refine VAll.consG (listed' := LB 13 959) rfl (o_alloc Z35 ZL35 (ltn rfl)) rfl (by kernel_rfl) (fun _ => ⟨trivial, ⟨⟨6, rfl⟩, ⟨7, rfl⟩, trivial⟩, trivial⟩) ?_ VAll.nil
              intro g3862
              refine VA.oneC (i := 6) (listed' := LB 13 1023) (by kernel_rfl) rfl (o_call0 FO22 (tarryref13_End.ok k t9 t10 t11 t12 t13 t14 t15 t16 t17 t18 t19 t20 t21 t22 t23 t24 t25 t26 t27 t28 t29 t3837 t3838 t3839 t3840 t3841 t3842 t3843 t3844 t3845 t3846 t3847 t3848 t3849 t3850 t3851 t3852 t3853 t3854 t3855 t3856 t3857 t3858 t3859 hA3860) rfl rfl (ltn rfl) (All_of .nil)) rfl (by kernel_rfl) ?_
              rintro _ _ _ ⟨rfl, rfl, rfl⟩
              refine ⟨⟨trivial, ⟨⟨6, rfl⟩, ⟨7, rfl⟩, trivial⟩, trivial⟩, ?_⟩
              refine VA.one1 (i := 10) (listed' := LB 13 2047) (by kernel_rfl) rfl (o_store 2 23 rfl rfl rfl TI35 (.agg (.of rfl)) rfl (len rfl)) rfl (by kernel_rfl) ⟨trivial, ⟨⟨6, rfl⟩, ⟨7, rfl⟩, trivial⟩, trivial⟩ ?_
              refine VA.one1 (i := 11) (listed' := LB 13 4095) (by kernel_rfl) rfl (o_store 0 23 rfl rfl rfl TI35 (.agg (.of rfl)) rfl (len rfl)) rfl (by kernel_rfl) ⟨trivial, ⟨⟨6, rfl⟩, ⟨7, rfl⟩, trivial⟩, trivial⟩ ?_
              refine VA.one1 (i := 12) (listed' := LB 13 8191) (by kernel_rfl) rfl (o_store 1 23 rfl rfl rfl TI35 (.agg (.of rfl)) rfl (len rfl)) rfl (by kernel_rfl) ⟨trivial, ⟨⟨6, rfl⟩, ⟨7, rfl⟩, trivial⟩, trivial⟩ ?_
              refine VA.done (by kernel_rfl) ?_
              exact VN.meet3 g3861 g3862 g3863 [1, 0, 2, 3, 4, 5] [] trivial ⟨rfl, ⟨rfl, rfl, rfl, rfl, rfl, rfl, rfl, rfl, rfl, rfl, rfl, trivial⟩, trivial, rfl, by decide, rfl, by decide⟩
            refine VAll.consG (listed' := LB 13 431) rfl (o_alloc Z35 ZL35 (ltn rfl)) rfl (by kernel_rfl) (fun _ => ⟨trivial, ⟨⟨5, rfl⟩, ⟨6, rfl⟩, trivial⟩, trivial⟩) ?_ ?_
            · intro g3862
              refine VA.all [4, 9] (by kernel_rfl) (by simp) ?_
              refine VAll.consC (listed' := LB 13 447) rfl (o_call0 FO21 (tarryref13_Came.ok k t9 t10 t11 t12 t13 t14 t15 t16 t17 t18 t19 t20 t21 t22 t23 t24 t25 t26 t27 t28 t29 t3781 t3782 t3783 t3784 t3785 t3786 t3787 t3788 t3789 t3790 t3791 t3792 t3793 t3794 t3795 t3796 t3797 t3798 t3799 t3800 t3801 t3802 t3803 hA3804) rfl rfl (ltn rfl) (All_of .nil)) rfl (by kernel_rfl) ?_ ?_
              · rintro _ _ _ ⟨rfl, rfl, rfl⟩
                refine ⟨⟨trivial, ⟨⟨5, rfl⟩, ⟨6, rfl⟩, trivial⟩, trivial⟩, ?_⟩
                refine VA.all [6, 9] (by kernel_rfl) (by simp) ?_
                refine VAll.consC (listed' := LB 13 511) rfl (o_call0 FO22 (tarryref13_End.ok k t9 t10 t11 t12 t13 t14 t15 t16 t17 t18 t19 t20 t21 t22 t23 t24 t25 t26 t27 t28 t29 t3837 t3838 t3839 t3840 t3841 t3842 t3843 t3844 t3845 t3846 t3847 t3848 t3849 t3850 t3851 t3852 t3853 t3854 t3855 t3856 t3857 t3858 t3859 hA3860) rfl rfl (ltn rfl) (All_of .nil)) rfl (by kernel_rfl) ?_ ?_
                · rintro _ _ _ ⟨rfl, rfl, rfl⟩
                  refine ⟨⟨trivial, ⟨⟨5, rfl⟩, ⟨6, rfl⟩, trivial⟩, trivial⟩, ?_⟩
                  refine VA.oneG (i := 9) (listed' := LB 13 1023) (by kernel_rfl) rfl (o_alloc Z35 ZL35 (ltn rfl)) rfl (by kernel_rfl) (fun _ => ⟨trivial, ⟨⟨6, rfl⟩, ⟨7, rfl⟩, trivial⟩, trivial⟩) ?_
                  intro g3863
                  refine VA.one1 (i := 10) (listed' := LB 13 2047) (by kernel_rfl) rfl (o_store 2 23 rfl rfl rfl TI35 (.agg (.of rfl)) rfl (len rfl)) rfl (by kernel_rfl) ⟨trivial, ⟨⟨6, rfl⟩, ⟨7, rfl⟩, trivial⟩, trivial⟩ ?_
                  refine VA.one1 (i := 11) (listed' := LB 13 4095) (by kernel_rfl) rfl (o_store 1 23 rfl rfl rfl TI35 (.agg (.of rfl)) rfl (len rfl)) rfl (by kernel_rfl) ⟨trivial, ⟨⟨6, rfl⟩, ⟨7, rfl⟩, trivial⟩, trivial⟩ ?_
                  refine VA.one1 (i := 12) (listed' := LB 13 8191) (by kernel_rfl) rfl (o_store 0 23 rfl rfl rfl TI35 (.agg (.of rfl)) rfl (len rfl)) rfl (by kernel_rfl) ⟨trivial, ⟨⟨6, rfl⟩, ⟨7, rfl⟩, trivial⟩, trivial⟩ ?_
                  refine VA.done (by kernel_rfl) ?_
                  exact VN.meet3 g3861 g3862 g3863 [0, 1, 2, 3, 4, 5] [] trivial ⟨rfl, ⟨rfl, rfl, rfl, rfl, rfl, rfl, rfl, rfl, rfl, rfl, rfl, trivial⟩, trivial, rfl, by decide, rfl, by decide⟩
                refine VAll.consG (listed' := LB 13 959) rfl (o_alloc Z35 ZL35 (ltn rfl)) rfl (by kernel_rfl) (fun _ => ⟨trivial, ⟨⟨6, rfl⟩, ⟨7, rfl⟩, trivial⟩, trivial⟩) ?_ VAll.nil
                intro g3863
                refine VA.oneC (i := 6) (listed' := LB 13 1023) (by kernel_rfl) rfl (o_call0 FO22 (tarryref13_End.ok k t9 t10 t11 t12 t13 t14 t15 t16 t17 t18 t19 t20 t21 t22 t23 t24 t25 t26 t27 t28 t29 t3837 t3838 t3839 t3840 t3841 t3842 t3843 t3844 t3845 t3846 t3847 t3848 t3849 t3850 t3851 t3852 t3853 t3854 t3855 t3856 t3857 t3858 t3859 hA3860) rfl rfl (ltn rfl) (All_of .nil)) rfl (by kernel_rfl) ?_
                rintro _ _ _ ⟨rfl, rfl, rfl⟩
                refine ⟨⟨trivial, ⟨⟨6, rfl⟩, ⟨7, rfl⟩, trivial⟩, trivial⟩, ?_⟩
                refine VA.one1 (i := 10) (listed' := LB 13 2047) (by kernel_rfl) rfl (o_store 2 23 rfl rfl rfl TI35 (.agg (.of rfl)) rfl (len rfl)) rfl (by kernel_rfl) ⟨trivial, ⟨⟨6, rfl⟩, ⟨7, rfl⟩, trivial⟩, trivial⟩ ?_
                refine VA.one1 (i := 11) (listed' := LB 13 4095) (by kernel_rfl) rfl (o_store 1 23 rfl rfl rfl TI35 (.agg (.of rfl)) rfl (len rfl)) rfl (by kernel_rfl) ⟨trivial, ⟨⟨6, rfl⟩, ⟨7, rfl⟩, trivial⟩, trivial⟩ ?_
                refine VA.one1 (i := 12) (listed' := LB 13 8191) (by kernel_rfl) rfl (o_store 0 23 rfl rfl rfl TI35 (.agg (.of rfl)) rfl (len rfl)) rfl (by kernel_rfl) ⟨trivial, ⟨⟨6, rfl⟩, ⟨7, rfl⟩, trivial⟩, trivial⟩ ?_
                refine VA.done (by kernel_rfl) ?_
                exact VN.meet3 g3861 g3862 g3863 [0, 1, 2, 3, 4, 5] [] trivial ⟨rfl, ⟨rfl, rfl, rfl, rfl, rfl, rfl, rfl, rfl, rfl, rfl, rfl, trivial⟩, trivial, rfl, by decide, rfl, by decide⟩
              refine VAll.consG (listed' := LB 13 943) rfl (o_alloc Z35 ZL35 (ltn rfl)) rfl (by kernel_rfl) (fun _ => ⟨trivial, ⟨⟨6, rfl⟩, ⟨7, rfl⟩, trivial⟩, trivial⟩) ?_ VAll.nil
              intro g3863
              refine VA.oneC (i := 4) (listed' := LB 13 959) (by kernel_rfl) rfl (o_call0 FO21 (tarryref13_Came.ok k t9 t10 t11 t12 t13 t14 t15 t16 t17 t18 t19 t20 t21 t22 t23 t24 t25 t26 t27 t28 t29 t3781 t3782 t3783 t3784 t3785 t3786 t3787 t3788 t3789 t3790 t3791 t3792 t3793 t3794 t3795 t3796 t3797 t3798 t3799 t3800 t3801 t3802 t3803 hA3804) rfl rfl (ltn rfl) (All_of .nil)) rfl (by kernel_rfl) ?_
              rintro _ _ _ ⟨rfl, rfl, rfl⟩
              refine ⟨⟨trivial, ⟨⟨6, rfl⟩, ⟨7, rfl⟩, trivial⟩, trivial⟩, ?_⟩
              refine VA.oneC (i := 6) (listed' := LB 13 1023) (by kernel_rfl) rfl (o_call0 FO22 (tarryref13_End.ok k t9 t10 t11 t12 t13 t14 t15 t16 t17 t18 t19 t20 t21 t22 t23 t24 t25 t26 t27 t28 t29 t3837 t3838 t3839 t3840 t3841 t3842 t3843 t3844 t3845 t3846 t3847 t3848 t3849 t3850 t3851 t3852 t3853 t3854 t3855 t3856 t3857 t3858 t3859 hA3860) rfl rfl (ltn rfl) (All_of .nil)) rfl (by kernel_rfl) ?_
              rintro _ _ _ ⟨rfl, rfl, rfl⟩
              refine ⟨⟨trivial, ⟨⟨6, rfl⟩, ⟨7, rfl⟩, trivial⟩, trivial⟩, ?_⟩
              refine VA.one1 (i := 10) (listed' := LB 13 2047) (by kernel_rfl) rfl (o_store 2 23 rfl rfl rfl TI35 (.agg (.of rfl)) rfl (len rfl)) rfl (by kernel_rfl) ⟨trivial, ⟨⟨6, rfl⟩, ⟨7, rfl⟩, trivial⟩, trivial⟩ ?_
              refine VA.one1 (i := 11) (listed' := LB 13 4095) (by kernel_rfl) rfl (o_store 1 23 rfl rfl rfl TI35 (.agg (.of rfl)) rfl (len rfl)) rfl (by kernel_rfl) ⟨trivial, ⟨⟨6, rfl⟩, ⟨7, rfl⟩, trivial⟩, trivial⟩ ?_
              refine VA.one1 (i := 12) (listed' := LB 13 8191) (by kernel_rfl) rfl (o_store 0 23 rfl rfl rfl TI35 (.agg (.of rfl)) rfl (len rfl)) rfl (by kernel_rfl) ⟨trivial, ⟨⟨6, rfl⟩, ⟨7, rfl⟩, trivial⟩, trivial⟩ ?_
              refine VA.done (by kernel_rfl) ?_
              exact VN.meet3 g3861 g3862 g3863 [0, 1, 2, 3, 4, 5] [] trivial ⟨rfl, ⟨rfl, rfl, rfl, rfl, rfl, rfl, rfl, rfl, rfl, rfl, rfl, trivial⟩, trivial, rfl, by decide, rfl, by decide⟩
            refine VAll.consG (listed' := LB 13 687) rfl (o_alloc Z35 ZL35 (ltn rfl)) rfl (by kernel_rfl) (fun _ => ⟨trivial, ⟨⟨5, rfl⟩, ⟨6, rfl⟩, trivial⟩, trivial⟩) ?_ VAll.nil
            intro g3863
            refine VA.all [4, 8] (by kernel_rfl) (by simp) ?_
            refine VAll.consC (listed' := LB 13 703) rfl (o_call0 FO21 (tarryref13_Came.ok k t9 t10 t11 t12 t13 t14 t15 t16 t17 t18 t19 t20 t21 t22 t23 t24 t25 t26 t27 t28 t29 t3781 t3782 t3783 t3784 t3785 t3786 t3787 t3788 t3789 t3790 t3791 t3792 t3793 t3794 t3795 t3796 t3797 t3798 t3799 t3800 t3801 t3802 t3803 hA3804) rfl rfl (ltn rfl) (All_of .nil)) rfl (by kernel_rfl) ?_ ?_
            · rintro _ _ _ ⟨rfl, rfl, rfl⟩
              refine ⟨⟨trivial, ⟨⟨5, rfl⟩, ⟨6, rfl⟩, trivial⟩, trivial⟩, ?_⟩
              refine VA.all [6, 8] (by kernel_rfl) (by simp) ?_
              refine VAll.consC (listed' := LB 13 767) rfl (o_call0 FO22 (tarryref13_End.ok k t9 t10 t11 t12 t13 t14 t15 t16 t17 t18 t19 t20 t21 t22 t23 t24 t25 t26 t27 t28 t29 t3837 t3838 t3839 t3840 t3841 t3842 t3843 t3844 t3845 t3846 t3847 t3848 t3849 t3850 t3851 t3852 t3853 t3854 t3855 t3856 t3857 t3858 t3859 hA3860) rfl rfl (ltn rfl) (All_of .nil)) rfl (by kernel_rfl) ?_ ?_
              · rintro _ _ _ ⟨rfl, rfl, rfl⟩
                refine ⟨⟨trivial, ⟨⟨5, rfl⟩, ⟨6, rfl⟩, trivial⟩, trivial⟩, ?_⟩
                refine VA.oneG (i := 8) (listed' := LB 13 1023) (by kernel_rfl) rfl (o_alloc Z35 ZL35 (ltn rfl)) rfl (by kernel_rfl) (fun _ => ⟨trivial, ⟨⟨6, rfl⟩, ⟨7, rfl⟩, trivial⟩, trivial⟩) ?_
                intro g3862
                refine VA.one1 (i := 10) (listed' := LB 13 2047) (by kernel_rfl) rfl (o_store 2 23 rfl rfl rfl TI35 (.agg (.of rfl)) rfl (len rfl)) rfl (by kernel_rfl) ⟨trivial, ⟨⟨6, rfl⟩, ⟨7, rfl⟩, trivial⟩, trivial⟩ ?_
                refine VA.one1 (i := 11) (listed' := LB 13 4095) (by kernel_rfl) rfl (o_store 0 23 rfl rfl rfl TI35 (.agg (.of rfl)) rfl (len rfl)) rfl (by kernel_rfl) ⟨trivial, ⟨⟨6, rfl⟩, ⟨7, rfl⟩, trivial⟩, trivial⟩ ?_
                refine VA.one1 (i := 12) (listed' := LB 13 8191) (by kernel_rfl) rfl (o_store 1 23 rfl rfl rfl TI35 (.agg (.of rfl)) rfl (len rfl)) rfl (by kernel_rfl) ⟨trivial, ⟨⟨6, rfl⟩, ⟨7, rfl⟩, trivial⟩, trivial⟩ ?_
                refine VA.done (by kernel_rfl) ?_
                exact VN.meet3 g3861 g3862 g3863 [1, 0, 2, 3, 4, 5] [] trivial ⟨rfl, ⟨rfl, rfl, rfl, rfl, rfl, rfl, rfl, rfl, rfl, rfl, rfl, trivial⟩, trivial, rfl, by decide, rfl, by decide⟩
              refine VAll.consG (listed' := LB 13 959) rfl (o_alloc Z35 ZL35 (ltn rfl)) rfl (by kernel_rfl) (fun _ => ⟨trivial, ⟨⟨6, rfl⟩, ⟨7, rfl⟩, trivial⟩, trivial⟩) ?_ VAll.nil
              intro g3862
              refine VA.oneC (i := 6) (listed' := LB 13 1023) (by kernel_rfl) rfl (o_call0 FO22 (tarryref13_End.ok k t9 t10 t11 t12 t13 t14 t15 t16 t17 t18 t19 t20 t21 t22 t23 t24 t25 t26 t27 t28 t29 t3837 t3838 t3839 t3840 t3841 t3842 t3843 t3844 t3845 t3846 t3847 t3848 t3849 t3850 t3851 t3852 t3853 t3854 t3855 t3856 t3857 t3858 t3859 hA3860) rfl rfl (ltn rfl) (All_of .nil)) rfl (by kernel_rfl) ?_
              rintro _ _ _ ⟨rfl, rfl, rfl⟩
              refine ⟨⟨trivial, ⟨⟨6, rfl⟩, ⟨7, rfl⟩, trivial⟩, trivial⟩, ?_⟩
              refine VA.one1 (i := 10) (listed' := LB 13 2047) (by kernel_rfl) rfl (o_store 2 23 rfl rfl rfl TI35 (.agg (.of rfl)) rfl (len rfl)) rfl (by kernel_rfl) ⟨trivial, ⟨⟨6, rfl⟩, ⟨7, rfl⟩, trivial⟩, trivial⟩ ?_
              refine VA.one1 (i := 11) (listed' := LB 13 4095) (by kernel_rfl) rfl (o_store 0 23 rfl rfl rfl TI35 (.agg (.of rfl)) rfl (len rfl)) rfl (by kernel_rfl) ⟨trivial, ⟨⟨6, rfl⟩, ⟨7, rfl⟩, trivial⟩, trivial⟩ ?_
              refine VA.one1 (i := 12) (listed' := LB 13 8191) (by kernel_rfl) rfl (o_store 1 23 rfl rfl rfl TI35 (.agg (.of rfl)) rfl (len rfl)) rfl (by kernel_rfl) ⟨trivial, ⟨⟨6, rfl⟩, ⟨7, rfl⟩, trivial⟩, trivial⟩ ?_
              refine VA.done (by kernel_rfl) ?_
              exact VN.meet3 g3861 g3862 g3863 [1, 0, 2, 3, 4, 5] [] trivial ⟨rfl, ⟨rfl, rfl, rfl, rfl, rfl, rfl, rfl, rfl, rfl, rfl, rfl, trivial⟩, trivial, rfl, by decide, rfl, by decide⟩
            refine VAll.consG (listed' := LB 13 943) rfl (o_alloc Z35 ZL35 (ltn rfl)) rfl (by kernel_rfl) (fun _ => ⟨trivial, ⟨⟨6, rfl⟩, ⟨7, rfl⟩, trivial⟩, trivial⟩) ?_ VAll.nil
            intro g3862
            refine VA.oneC (i := 4) (listed' := LB 13 959) (by kernel_rfl) rfl (o_call0 FO21 (tarryref13_Came.ok k t9 t10 t11 t12 t13 t14 t15 t16 t17 t18 t19 t20 t21 t22 t23 t24 t25 t26 t27 t28 t29 t3781 t3782 t3783 t3784 t3785 t3786 t3787 t3788 t3789 t3790 t3791 t3792 t3793 t3794 t3795 t3796 t3797 t3798 t3799 t3800 t3801 t3802 t3803 hA3804) rfl rfl (ltn rfl) (All_of .nil)) rfl (by kernel_rfl) ?_
            rintro _ _ _ ⟨rfl, rfl, rfl⟩
            refine ⟨⟨trivial, ⟨⟨6, rfl⟩, ⟨7, rfl⟩, trivial⟩, trivial⟩, ?_⟩
            refine VA.oneC (i := 6) (listed' := LB 13 1023) (by kernel_rfl) rfl (o_call0 FO22 (tarryref13_End.ok k t9 t10 t11 t12 t13 t14 t15 t16 t17 t18 t19 t20 t21 t22 t23 t24 t25 t26 t27 t28 t29 t3837 t3838 t3839 t3840 t3841 t3842 t3843 t3844 t3845 t3846 t3847 t3848 t3849 t3850 t3851 t3852 t3853 t3854 t3855 t3856 t3857 t3858 t3859 hA3860) rfl rfl (ltn rfl) (All_of .nil)) rfl (by kernel_rfl) ?_
            rintro _ _ _ ⟨rfl, rfl, rfl⟩
            refine ⟨⟨trivial, ⟨⟨6, rfl⟩, ⟨7, rfl⟩, trivial⟩, trivial⟩, ?_⟩
            refine VA.one1 (i := 10) (listed' := LB 13 2047) (by kernel_rfl) rfl (o_store 2 23 rfl rfl rfl TI35 (.agg (.of rfl)) rfl (len rfl)) rfl (by kernel_rfl) ⟨trivial, ⟨⟨6, rfl⟩, ⟨7, rfl⟩, trivial⟩, trivial⟩ ?_
            refine VA.one1 (i := 11) (listed' := LB 13 4095) (by kernel_rfl) rfl (o_store 0 23 rfl rfl rfl TI35 (.agg (.of rfl)) rfl (len rfl)) rfl (by kernel_rfl) ⟨trivial, ⟨⟨6, rfl⟩, ⟨7, rfl⟩, trivial⟩, trivial⟩ ?_
            refine VA.one1 (i := 12) (listed' := LB 13 8191) (by kernel_rfl) rfl (o_store 1 23 rfl rfl rfl TI35 (.agg (.of rfl)) rfl (len rfl)) rfl (by kernel_rfl) ⟨trivial, ⟨⟨6, rfl⟩, ⟨7, rfl⟩, trivial⟩, trivial⟩ ?_
            refine VA.done (by kernel_rfl) ?_
            exact VN.meet3 g3861 g3862 g3863 [1, 0, 2, 3, 4, 5] [] trivial ⟨rfl, ⟨rfl, rfl, rfl, rfl, rfl, rfl, rfl, rfl, rfl, rfl, rfl, trivial⟩, trivial, rfl, by decide, rfl, by decide⟩
          refine VAll.consG (listed' := LB 13 303) rfl (o_alloc Z35 ZL35 (ltn rfl)) rfl (by kernel_rfl) (fun _ => ⟨trivial, ⟨⟨4, rfl⟩, ⟨5, rfl⟩, trivial⟩, trivial⟩) ?_ ?_
          · intro g3862
            refine VA.all [4, 7, 9] (by kernel_rfl) (by simp) ?_
            refine VAll.consC (listed' := LB 13 319) rfl (o_call0 FO21 (tarryref13_Came.ok k t9 t10 t11 t12 t13 t14 t15 t16 t17 t18 t19 t20 t21 t22 t23 t24 t25 t26 t27 t28 t29 t3781 t3782 t3783 t3784 t3785 t3786 t3787 t3788 t3789 t3790 t3791 t3792 t3793 t3794 t3795 t3796 t3797 t3798 t3799 t3800 t3801 t3802 t3803 hA3804) rfl rfl (ltn rfl) (All_of .nil)) rfl (by kernel_rfl) ?_ ?_
            · rintro _ _ _ ⟨rfl, rfl, rfl⟩
              refine ⟨⟨trivial, ⟨⟨4, rfl⟩, ⟨5, rfl⟩, trivial⟩, trivial⟩, ?_⟩
              refine VA.all [6, 7, 9] (by kernel_rfl) (by simp) ?_
              refine VAll.consC (listed' := LB 13 383) rfl (o_call0 FO22 (tarryref13_End.ok k t9 t10 t11 t12 t13 t14 t15 t16 t17 t18 t19 t20 t21 t22 t23 t24 t25 t26 t27 t28 t29 t3837 t3838 t3839 t3840 t3841 t3842 t3843 t3844 t3845 t3846 t3847 t3848 t3849 t3850 t3851 t3852 t3853 t3854 t3855 t3856 t3857 t3858 t3859 hA3860) rfl rfl (ltn rfl) (All_of .nil)) rfl (by kernel_rfl) ?_ ?_
              · rintro _ _ _ ⟨rfl, rfl, rfl⟩
                refine ⟨⟨trivial, ⟨⟨4, rfl⟩, ⟨5, rfl⟩, trivial⟩, trivial⟩, ?_⟩
                refine VA.all [7, 9] (by kernel_rfl) (by simp) ?_
                refine VAll.consG (listed' := LB 13 511) rfl (o_alloc Z35 ZL35 (ltn rfl)) rfl (by kernel_rfl) (fun _ => ⟨trivial, ⟨⟨5, rfl⟩, ⟨6, rfl⟩, trivial⟩, trivial⟩) ?_ ?_
                · intro g3861
                  refine VA.oneG (i := 9) (listed' := LB 13 1023) (by kernel_rfl) rfl (o_alloc Z35 ZL35 (ltn rfl)) rfl (by kernel_rfl) (fun _ => ⟨trivial, ⟨⟨6, rfl⟩, ⟨7, rfl⟩, trivial⟩, trivial⟩) ?_
                  intro g3863
                  refine VA.one1 (i := 10) (listed' := LB 13 2047) (by kernel_rfl) rfl (o_store 1 23 rfl rfl rfl TI35 (.agg (.of rfl)) rfl (len rfl)) rfl (by kernel_rfl) ⟨trivial, ⟨⟨6, rfl⟩, ⟨7, rfl⟩, trivial⟩, trivial⟩ ?_
                  refine VA.one1 (i := 11) (listed' := LB 13 4095) (by kernel_rfl) rfl (o_store 2 23 rfl rfl rfl TI35 (.agg (.of rfl)) rfl (len rfl)) rfl (by kernel_rfl) ⟨trivial, ⟨⟨6, rfl⟩, ⟨7, rfl⟩, trivial⟩, trivial⟩ ?_
                  refine VA.one1 (i := 12) (listed' := LB 13 8191) (by kernel_rfl) rfl (o_store 0 23 rfl rfl rfl TI35 (.agg (.of rfl)) rfl (len rfl)) rfl (by kernel_rfl) ⟨trivial, ⟨⟨6, rfl⟩, ⟨7, rfl⟩, trivial⟩, trivial⟩ ?_
                  refine VA.done (by kernel_rfl) ?_
                  exact VN.meet3 g3861 g3862 g3863 [0, 2, 1, 3, 4, 5] [] trivial ⟨rfl, ⟨rfl, rfl, rfl, rfl, rfl, rfl, rfl, rfl, rfl, rfl, rfl, trivial⟩, trivial, rfl, by decide, rfl, by decide⟩
                refine VAll.consG (listed' := LB 13 895) rfl (o_alloc Z35 ZL35 (ltn rfl)) rfl (by kernel_rfl) (fun _ => ⟨trivial, ⟨⟨5, rfl⟩, ⟨6, rfl⟩, trivial⟩, trivial⟩) ?_ VAll.nil
                intro g3863
                refine VA.oneG (i := 7) (listed' := LB 13 1023) (by kernel_rfl) rfl (o_alloc Z35 ZL35 (ltn rfl)) rfl (by kernel_rfl) (fun _ => ⟨trivial, ⟨⟨6, rfl⟩, ⟨7, rfl⟩, trivial⟩, trivial⟩) ?_
                intro g3861
                refine VA.one1 (i := 10) (listed' := LB 13 2047) (by kernel_rfl) rfl (o_store 0 23 rfl rfl rfl TI35 (.agg (.of rfl)) rfl (len rfl)) rfl (by kernel_rfl) ⟨trivial, ⟨⟨6, rfl⟩, ⟨7, rfl⟩, trivial⟩, trivial⟩ ?_
                refine VA.one1 (i := 11) (listed' := LB 13 4095) (by kernel_rfl) rfl (o_store 2 23 rfl rfl rfl TI35 (.agg (.of rfl)) rfl (len rfl)) rfl (by kernel_rfl) ⟨trivial, ⟨⟨6, rfl⟩, ⟨7, rfl⟩, trivial⟩, trivial⟩ ?_
                refine VA.one1 (i := 12) (listed' := LB 13 8191) (by kernel_rfl) rfl (o_store 1 23 rfl rfl rfl TI35 (.agg (.of rfl)) rfl (len rfl)) rfl (by kernel_rfl) ⟨trivial, ⟨⟨6, rfl⟩, ⟨7, rfl⟩, trivial⟩, trivial⟩ ?_
                refine VA.done (by kernel_rfl) ?_
                exact VN.meet3 g3861 g3862 g3863 [1, 2, 0, 3, 4, 5] [] trivial ⟨rfl, ⟨rfl, rfl, rfl, rfl, rfl, rfl, rfl, rfl, rfl, rfl, rfl, trivial⟩, trivial, rfl, by decide, rfl, by decide⟩
              refine VAll.consG (listed' := LB 13 447) rfl (o_alloc Z35 ZL35 (ltn rfl)) rfl (by kernel_rfl) (fun _ => ⟨trivial, ⟨⟨5, rfl⟩, ⟨6, rfl⟩, trivial⟩, trivial⟩) ?_ ?_
              · intro g3861
                refine VA.all [6, 9] (by kernel_rfl) (by simp) ?_
                refine VAll.consC (listed' := LB 13 511) rfl (o_call0 FO22 (tarryref13_End.ok k t9 t10 t11 t12 t13 t14 t15 t16 t17 t18 t19 t20 t21 t22 t23 t24 t25 t26 t27 t28 t29 t3837 t3838 t3839 t3840 t3841 t3842 t3843 t3844 t3845 t3846 t3847 t3848 t3849 t3850 t3851 t3852 t3853 t3854 t3855 t3856 t3857 t3858 t3859 hA3860) rfl rfl (ltn rfl) (All_of .nil)) rfl (by kernel_rfl) ?_ ?_
                · rintro _ _ _ ⟨rfl, rfl, rfl⟩
                  refine ⟨⟨trivial, ⟨⟨5, rfl⟩, ⟨6, rfl⟩, trivial⟩, trivial⟩, ?_⟩
                  refine VA.oneG (i := 9) (listed' := LB 13 1023) (by kernel_rfl) rfl (o_alloc Z35 ZL35 (ltn rfl)) rfl (by kernel_rfl) (fun _ => ⟨trivial, ⟨⟨6, rfl⟩, ⟨7, rfl⟩, trivial⟩, trivial⟩) ?_
                  intro g3863
                  refine VA.one1 (i := 10) (listed' := LB 13 2047) (by kernel_rfl) rfl (o_store 1 23 rfl rfl rfl TI35 (.agg (.of rfl)) rfl (len rfl)) rfl (by kernel_rfl) ⟨trivial, ⟨⟨6, rfl⟩, ⟨7, rfl⟩, trivial⟩, trivial⟩ ?_
                  refine VA.one1 (i := 11) (listed' := LB 13 4095) (by kernel_rfl) rfl (o_store 2 23 rfl rfl rfl TI35 (.agg (.of rfl)) rfl (len rfl)) rfl (by kernel_rfl) ⟨trivial, ⟨⟨6, rfl⟩, ⟨7, rfl⟩, trivial⟩, trivial⟩ ?_
                  refine VA.one1 (i := 12) (listed' := LB 13 8191) (by kernel_rfl) rfl (o_store 0 23 rfl rfl rfl TI35 (.agg (.of rfl)) rfl (len rfl)) rfl (by kernel_rfl) ⟨trivial, ⟨⟨6, rfl⟩, ⟨7, rfl⟩, trivial⟩, trivial⟩ ?_
                  refine VA.done (by kernel_rfl) ?_
                  exact VN.meet3 g3861 g3862 g3863 [0, 2, 1, 3, 4, 5] [] trivial ⟨rfl, ⟨rfl, rfl, rfl, rfl, rfl, rfl, rfl, rfl, rfl, rfl, rfl, trivial⟩, trivial, rfl, by decide, rfl, by decide⟩
                refine VAll.consG (listed' := LB 13 959) rfl (o_alloc Z35 ZL35 (ltn rfl)) rfl (by kernel_rfl) (fun _ => ⟨trivial, ⟨⟨6, rfl⟩, ⟨7, rfl⟩, trivial⟩, trivial⟩) ?_ VAll.nil
                intro g3863
                refine VA.oneC (i := 6) (listed' := LB 13 1023) (by kernel_rfl) rfl (o_call0 FO22 (tarryref13_End.ok k t9 t10 t11 t12 t13 t14 t15 t16 t17 t18 t19 t20 t21 t22 t23 t24 t25 t26 t27 t28 t29 t3837 t3838 t3839 t3840 t3841 t3842 t3843 t3844 t3845 t3846 t3847 t3848 t3849 t3850 t3851 t3852 t3853 t3854 t3855 t3856 t3857 t3858 t3859 hA3860) rfl rfl (ltn rfl) (All_of .nil)) rfl (by kernel_rfl) ?_
                rintro _ _ _ ⟨rfl, rfl, rfl⟩
                refine ⟨⟨trivial, ⟨⟨6, rfl⟩, ⟨7, rfl⟩, trivial⟩, trivial⟩, ?_⟩
                refine VA.one1 (i := 10) (listed' := LB 13 2047) (by kernel_rfl) rfl (o_store 1 23 rfl rfl rfl TI35 (.agg (.of rfl)) rfl (len rfl)) rfl (by kernel_rfl) ⟨trivial, ⟨⟨6, rfl⟩, ⟨7, rfl⟩, trivial⟩, trivial⟩ ?_
                refine VA.one1 (i := 11) (listed' := LB 13 4095) (by kernel_rfl) rfl (o_store 2 23 rfl rfl rfl TI35 (.agg (.of rfl)) rfl (len rfl)) rfl (by kernel_rfl) ⟨trivial, ⟨⟨6, rfl⟩, ⟨7, rfl⟩, trivial⟩, trivial⟩ ?_
                refine VA.one1 (i := 12) (listed' := LB 13 8191) (by kernel_rfl) rfl (o_store 0 23 rfl rfl rfl TI35 (.agg (.of rfl)) rfl (len rfl)) rfl (by kernel_rfl) ⟨trivial, ⟨⟨6, rfl⟩, ⟨7, rfl⟩, trivial⟩, trivial⟩ ?_
                refine VA.done (by kernel_rfl) ?_
                exact VN.meet3 g3861 g3862 g3863 [0, 2, 1, 3, 4, 5] [] trivial ⟨rfl, ⟨rfl, rfl, rfl, rfl, rfl, rfl, rfl, rfl, rfl, rfl, rfl, trivial⟩, trivial, rfl, by decide, rfl, by decide⟩
              refine VAll.consG (listed' := LB 13 831) rfl (o_alloc Z35 ZL35 (ltn rfl)) rfl (by kernel_rfl) (fun _ => ⟨trivial, ⟨⟨5, rfl⟩, ⟨6, rfl⟩, trivial⟩, trivial⟩) ?_ VAll.nil
              intro g3863
              refine VA.all [6, 7] (by kernel_rfl) (by simp) ?_
              refine VAll.consC (listed' := LB 13 895) rfl (o_call0 FO22 (tarryref13_End.ok k t9 t10 t11 t12 t13 t14 t15 t16 t17 t18 t19 t20 t21 t22 t23 t24 t25 t26 t27 t28 t29 t3837 t3838 t3839 t3840 t3841 t3842 t3843 t3844 t3845 t3846 t3847 t3848 t3849 t3850 t3851 t3852 t3853 t3854 t3855 t3856 t3857 t3858 t3859 hA3860) rfl rfl (ltn rfl) (All_of .nil)) rfl (by kernel_rfl) ?_ ?_
              · rintro _ _ _ ⟨rfl, rfl, rfl⟩
                refine ⟨⟨trivial, ⟨⟨5, rfl⟩, ⟨6, rfl⟩, trivial⟩, trivial⟩, ?_⟩
                refine VA.oneG (i := 7) (listed' := LB 13 1023) (by kernel_rfl) rfl (o_alloc Z35 ZL35 (ltn rfl)) rfl (by kernel_rfl) (fun _ => ⟨trivial, ⟨⟨6, rfl⟩, ⟨7, rfl⟩, trivial⟩, trivial⟩) ?_
                intro g3861
                refine VA.one1 (i := 10) (listed' := LB 13 2047) (by kernel_rfl) rfl (o_store 0 23 rfl rfl rfl TI35 (.agg (.of rfl)) rfl (len rfl)) rfl (by kernel_rfl) ⟨trivial, ⟨⟨6, rfl⟩, ⟨7, rfl⟩, trivial⟩, trivial⟩ ?_
                refine VA.one1 (i := 11) (listed' := LB 13 4095) (by kernel_rfl) rfl (o_store 2 23 rfl rfl rfl TI35 (.agg (.of rfl)) rfl (len rfl)) rfl (by kernel_rfl) ⟨trivial, ⟨⟨6, rfl⟩, ⟨7, rfl⟩, trivial⟩, trivial⟩ ?_
                refine VA.one1 (i := 12) (listed' := LB 13 8191) (by kernel_rfl) rfl (o_store 1 23 rfl rfl rfl TI35 (.agg (.of rfl)) rfl (len rfl)) rfl (by kernel_rfl) ⟨trivial, ⟨⟨6, rfl⟩, ⟨7, rfl⟩, trivial⟩, trivial⟩ ?_
                refine VA.done (by kernel_rfl) ?_
                exact VN.meet3 g3861 g3862 g3863 [1, 2, 0, 3, 4, 5] [] trivial ⟨rfl, ⟨rfl, rfl, rfl, rfl, rfl, rfl, rfl, rfl, rfl, rfl, rfl, trivial⟩, trivial, rfl, by decide, rfl, by decide⟩
              refine VAll.consG (listed' := LB 13 959) rfl (o_alloc Z35 ZL35 (ltn rfl)) rfl (by kernel_rfl) (fun _ => ⟨trivial, ⟨⟨6, rfl⟩, ⟨7, rfl⟩, trivial⟩, trivial⟩) ?_ VAll.nil
              intro g3861
              refine VA.oneC (i := 6) (listed' := LB 13 1023) (by kernel_rfl) rfl (o_call0 FO22 (tarryref13_End.ok k t9 t10 t11 t12 t13 t14 t15 t16 t17 t18 t19 t20 t21 t22 t23 t24 t25 t26 t27 t28 t29 t3837 t3838 t3839 t3840 t3841 t3842 t3843 t3844 t3845 t3846 t3847 t3848 t3849 t3850 t3851 t3852 t3853 t3854 t3855 t3856 t3857 t3858 t3859 hA3860) rfl rfl (ltn rfl) (All_of .nil)) rfl (by kernel_rfl) ?_
              rintro _ _ _ ⟨rfl, rfl, rfl⟩
              refine ⟨⟨trivial, ⟨⟨6, rfl⟩, ⟨7, rfl⟩, trivial⟩, trivial⟩, ?_⟩
              refine VA.one1 (i := 10) (listed' := LB 13 2047) (by kernel_rfl) rfl (o_store 0 23 rfl rfl rfl TI35 (.agg (.of rfl)) rfl (len rfl)) rfl (by kernel_rfl) ⟨trivial, ⟨⟨6, rfl⟩, ⟨7, rfl⟩, trivial⟩, trivial⟩ ?_
              refine VA.one1 (i := 11) (listed' := LB 13 4095) (by kernel_rfl) rfl (o_store 2 23 rfl rfl rfl TI35 (.agg (.of rfl)) rfl (len rfl)) rfl (by kernel_rfl) ⟨trivial, ⟨⟨6, rfl⟩, ⟨7, rfl⟩, trivial⟩, trivial⟩ ?_
              refine VA.one1 (i := 12) (listed' := LB 13 8191) (by kernel_rfl) rfl (o_store 1 23 rfl rfl rfl TI35 (.agg (.of rfl)) rfl (len rfl)) rfl (by kernel_rfl) ⟨trivial, ⟨⟨6, rfl⟩, ⟨7, rfl⟩, trivial⟩, trivial⟩ ?_
              refine VA.done (by kernel_rfl) ?_
              exact VN.meet3 g3861 g3862 g3863 [1, 2, 0, 3, 4, 5] [] trivial ⟨rfl, ⟨rfl, rfl, rfl, rfl, rfl, rfl, rfl, rfl, rfl, rfl, rfl, trivial⟩, trivial, rfl, by decide, rfl, by decide⟩
            refine VAll.consG (listed' := LB 13 431) rfl (o_alloc Z35 ZL35 (ltn rfl)) rfl (by kernel_rfl) (fun _ => ⟨trivial, ⟨⟨5, rfl⟩, ⟨6, rfl⟩, trivial⟩, trivial⟩) ?_ ?_
            · intro g3861
              refine VA.all [4, 9] (by kernel_rfl) (by simp) ?_
              refine VAll.consC (listed' := LB 13 447) rfl (o_call0 FO21 (tarryref13_Came.ok k t9 t10 t11 t12 t13 t14 t15 t16 t17 t18 t19 t20 t21 t22 t23 t24 t25 t26 t27 t28 t29 t3781 t3782 t3783 t3784 t3785 t3786 t3787 t3788 t3789 t3790 t3791 t3792 t3793 t3794 t3795 t3796 t3797 t3798 t3799 t3800 t3801 t3802 t3803 hA3804) rfl rfl (ltn rfl) (All_of .nil)) rfl (by kernel_rfl) ?_ ?_
              · rintro _ _ _ ⟨rfl, rfl, rfl⟩
                refine ⟨⟨trivial, ⟨⟨5, rfl⟩, ⟨6, rfl⟩, trivial⟩, trivial⟩, ?_⟩
                refine VA.all [6, 9] (by kernel_rfl) (by simp) ?_
                refine VAll.consC (listed' := LB 13 511) rfl (o_call0 FO22 (tarryref13_End.ok k t9 t10 t11 t12 t13 t14 t15 t16 t17 t18 t19 t20 t21 t22 t23 t24 t25 t26 t27 t28 t29 t3837 t3838 t3839 t3840 t3841 t3842 t3843 t3844 t3845 t3846 t3847 t3848 t3849 t3850 t3851 t3852 t3853 t3854 t3855 t3856 t3857 t3858 t3859 hA3860) rfl rfl (ltn rfl) (All_of .nil)) rfl (by kernel_rfl) ?_ ?_
                · rintro _ _ _ ⟨rfl, rfl, rfl⟩
                  refine ⟨⟨trivial, ⟨⟨5, rfl⟩, ⟨6, rfl⟩, trivial⟩, trivial⟩, ?_⟩
                  refine VA.oneG (i := 9) (listed' := LB 13 1023) (by kernel_rfl) rfl (o_alloc Z35 ZL35 (ltn rfl)) rfl (by kernel_rfl) (fun _ => ⟨trivial, ⟨⟨6, rfl⟩, ⟨7, rfl⟩, trivial⟩, trivial⟩) ?_
                  intro g3863
                  refine VA.one1 (i := 10) (listed' := LB 13 2047) (by kernel_rfl) rfl (o_store 1 23 rfl rfl rfl TI35 (.agg (.of rfl)) rfl (len rfl)) rfl (by kernel_rfl) ⟨trivial, ⟨⟨6, rfl⟩, ⟨7, rfl⟩, trivial⟩, trivial⟩ ?_
                  refine VA.one1 (i := 11) (listed' := LB 13 4095) (by kernel_rfl) rfl (o_store 2 23 rfl rfl rfl TI35 (.agg (.of rfl)) rfl (len rfl)) rfl (by kernel_rfl) ⟨trivial, ⟨⟨6, rfl⟩, ⟨7, rfl⟩, trivial⟩, trivial⟩ ?_
                  refine VA.one1 (i := 12) (listed' := LB 13 8191) (by kernel_rfl) rfl (o_store 0 23 rfl rfl rfl TI35 (.agg (.of rfl)) rfl (len rfl)) rfl (by kernel_rfl) ⟨trivial, ⟨⟨6, rfl⟩, ⟨7, rfl⟩, trivial⟩, trivial⟩ ?_
                  refine VA.done (by kernel_rfl) ?_
                  exact VN.meet3 g3861 g3862 g3863 [0, 2, 1, 3, 4, 5] [] trivial ⟨rfl, ⟨rfl, rfl, rfl, rfl, rfl, rfl, rfl, rfl, rfl, rfl, rfl, trivial⟩, trivial, rfl, by decide, rfl, by decide⟩
                refine VAll.consG (listed' := LB 13 959) rfl (o_alloc Z35 ZL35 (ltn rfl)) rfl (by kernel_rfl) (fun _ => ⟨trivial, ⟨⟨6, rfl⟩, ⟨7, rfl⟩, trivial⟩, trivial⟩) ?_ VAll.nil
                intro g3863
                refine VA.oneC (i := 6) (listed' := LB 13 1023) (by kernel_rfl) rfl (o_call0 FO22 (tarryref13_End.ok k t9 t10 t11 t12 t13 t14 t15 t16 t17 t18 t19 t20 t21 t22 t23 t24 t25 t26 t27 t28 t29 t3837 t3838 t3839 t3840 t3841 t3842 t3843 t3844 t3845 t3846 t3847 t3848 t3849 t3850 t3851 t3852 t3853 t3854 t3855 t3856 t3857 t3858 t3859 hA3860) rfl rfl (ltn rfl) (All_of .nil)) rfl (by kernel_rfl) ?_
                rintro _ _ _ ⟨rfl, rfl, rfl⟩
                refine ⟨⟨trivial, ⟨⟨6, rfl⟩, ⟨7, rfl⟩, trivial⟩, trivial⟩, ?_⟩
                refine VA.one1 (i := 10) (listed' := LB 13 2047) (by kernel_rfl) rfl (o_store 1 23 rfl rfl rfl TI35 (.agg (.of rfl)) rfl (len rfl)) rfl (by kernel_rfl) ⟨trivial, ⟨⟨6, rfl⟩, ⟨7, rfl⟩, trivial⟩, trivial⟩ ?_
                refine VA.one1 (i := 11) (listed' := LB 13 4095) (by kernel_rfl) rfl (o_store 2 23 rfl rfl rfl TI35 (.agg (.of rfl)) rfl (len rfl)) rfl (by kernel_rfl) ⟨trivial, ⟨⟨6, rfl⟩, ⟨7, rfl⟩, trivial⟩, trivial⟩ ?_
                refine VA.one1 (i := 12) (listed' := LB 13 8191) (by kernel_rfl) rfl (o_store 0 23 rfl rfl rfl TI35 (.agg (.of rfl)) rfl (len rfl)) rfl (by kernel_rfl) ⟨trivial, ⟨⟨6, rfl⟩, ⟨7, rfl⟩, trivial⟩, trivial⟩ ?_
                refine VA.done (by kernel_rfl) ?_
                exact VN.meet3 g3861 g3862 g3863 [0, 2, 1, 3, 4, 5] [] trivial ⟨rfl, ⟨rfl, rfl, rfl, rfl, rfl, rfl, rfl, rfl, rfl, rfl, rfl, trivial⟩, trivial, rfl, by decide, rfl, by decide⟩
              refine VAll.consG (listed' := LB 13 943) rfl (o_alloc Z35 ZL35 (ltn rfl)) rfl (by kernel_rfl) (fun _ => ⟨trivial, ⟨⟨6, rfl⟩, ⟨7, rfl⟩, trivial⟩, trivial⟩) ?_ VAll.nil
              intro g3863
              refine VA.oneC (i := 4) (listed' := LB 13 959) (by kernel_rfl) rfl (o_call0 FO21 (tarryref13_Came.ok k t9 t10 t11 t12 t13 t14 t15 t16 t17 t18 t19 t20 t21 t22 t23 t24 t25 t26 t27 t28 t29 t3781 t3782 t3783 t3784 t3785 t3786 t3787 t3788 t3789 t3790 t3791 t3792 t3793 t3794 t3795 t3796 t3797 t3798 t3799 t3800 t3801 t3802 t3803 hA3804) rfl rfl (ltn rfl) (All_of .nil)) rfl (by kernel_rfl) ?_
              rintro _ _ _ ⟨rfl, rfl, rfl⟩
              refine ⟨⟨trivial, ⟨⟨6, rfl⟩, ⟨7, rfl⟩, trivial⟩, trivial⟩, ?_⟩
              refine VA.oneC (i := 6) (listed' := LB 13 1023) (by kernel_rfl) rfl (o_call0 FO22 (tarryref13_End.ok k t9 t10 t11 t12 t13 t14 t15 t16 t17 t18 t19 t20 t21 t22 t23 t24 t25 t26 t27 t28 t29 t3837 t3838 t3839 t3840 t3841 t3842 t3843 t3844 t3845 t3846 t3847 t3848 t3849 t3850 t3851 t3852 t3853 t3854 t3855 t3856 t3857 t3858 t3859 hA3860) rfl rfl (ltn rfl) (All_of .nil)) rfl (by kernel_rfl) ?_
              rintro _ _ _ ⟨rfl, rfl, rfl⟩
              refine ⟨⟨trivial, ⟨⟨6, rfl⟩, ⟨7, rfl⟩, trivial⟩, trivial⟩, ?_⟩
              refine VA.one1 (i := 10) (listed' := LB 13 2047) (by kernel_rfl) rfl (o_store 1 23 rfl rfl rfl TI35 (.agg (.of rfl)) rfl (len rfl)) rfl (by kernel_rfl) ⟨trivial, ⟨⟨6, rfl⟩, ⟨7, rfl⟩, trivial⟩, trivial⟩ ?_
              refine VA.one1 (i := 11) (listed' := LB 13 4095) (by kernel_rfl) rfl (o_store 2 23 rfl rfl rfl TI35 (.agg (.of rfl)) rfl (len rfl)) rfl (by kernel_rfl) ⟨trivial, ⟨⟨6, rfl⟩, ⟨7, rfl⟩, trivial⟩, trivial⟩ ?_
              refine VA.one1 (i := 12) (listed' := LB 13 8191) (by kernel_rfl) rfl (o_store 0 23 rfl rfl rfl TI35 (.agg (.of rfl)) rfl (len rfl)) rfl (by kernel_rfl) ⟨trivial, ⟨⟨6, rfl⟩, ⟨7, rfl⟩, trivial⟩, trivial⟩ ?_
              refine VA.done (by kernel_rfl) ?_
              exact VN.meet3 g3861 g3862 g3863 [0, 2, 1, 3, 4, 5] [] trivial ⟨rfl, ⟨rfl, rfl, rfl, rfl, rfl, rfl, rfl, rfl, rfl, rfl, rfl, trivial⟩, trivial, rfl, by decide, rfl, by decide⟩
            refine VAll.consG (listed' := LB 13 815) rfl (o_alloc Z35 ZL35 (ltn rfl)) rfl (by kernel_rfl) (fun _ => ⟨trivial, ⟨⟨5, rfl⟩, ⟨6, rfl⟩, trivial⟩, trivial⟩) ?_ VAll.nil
            intro g3863
            refine VA.all [4, 7] (by kernel_rfl) (by simp) ?_
            refine VAll.consC (listed' := LB 13 831) rfl (o_call0 FO21 (tarryref13_Came.ok k t9 t10 t11 t12 t13 t14 t15 t16 t17 t18 t19 t20 t21 t22 t23 t24 t25 t26 t27 t28 t29 t3781 t3782 t3783 t3784 t3785 t3786 t3787 t3788 t3789 t3790 t3791 t3792 t3793 t3794 t3795 t3796 t3797 t3798 t3799 t3800 t3801 t3802 t3803 hA3804) rfl rfl (ltn rfl) (All_of .nil)) rfl (by kernel_rfl) ?_ ?_
            · rintro _ _ _ ⟨rfl, rfl, rfl⟩
              refine ⟨⟨trivial, ⟨⟨5, rfl⟩, ⟨6, rfl⟩, trivial⟩, trivial⟩, ?_⟩
              refine VA.all [6, 7] (by kernel_rfl) (by simp) ?_
              refine VAll.consC (listed' := LB 13 895) rfl (o_call0 FO22 (tarryref13_End.ok k t9 t10 t11 t12 t13 t14 t15 t16 t17 t18 t19 t20 t21 t22 t23 t24 t25 t26 t27 t28 t29 t3837 t3838 t3839 t3840 t3841 t3842 t3843 t3844 t3845 t3846 t3847 t3848 t3849 t3850 t3851 t3852 t3853 t3854 t3855 t3856 t3857 t3858 t3859 hA3860) rfl rfl (ltn rfl) (All_of .nil)) rfl (by kernel_rfl) ?_ ?_
              · rintro _ _ _ ⟨rfl, rfl, rfl⟩
                refine ⟨⟨trivial, ⟨⟨5, rfl⟩, ⟨6, rfl⟩, trivial⟩, trivial⟩, ?_⟩
                refine VA.oneG (i := 7) (listed' := LB 13 1023) (by kernel_rfl) rfl (o_alloc Z35 ZL35 (ltn rfl)) rfl (by kernel_rfl) (fun _ => ⟨trivial, ⟨⟨6, rfl⟩, ⟨7, rfl⟩, trivial⟩, trivial⟩) ?_
                intro g3861
                refine VA.one1 (i := 10) (listed' := LB 13 2047) (by kernel_rfl) rfl (o_store 0 23 rfl rfl rfl TI35 (.agg (.of rfl)) rfl (len rfl)) rfl (by kernel_rfl) ⟨trivial, ⟨⟨6, rfl⟩, ⟨7, rfl⟩, trivial⟩, trivial⟩ ?_
                refine VA.one1 (i := 11) (listed' := LB 13 4095) (by kernel_rfl) rfl (o_store 2 23 rfl rfl rfl TI35 (.agg (.of rfl)) rfl (len rfl)) rfl (by kernel_rfl) ⟨trivial, ⟨⟨6, rfl⟩, ⟨7, rfl⟩, trivial⟩, trivial⟩ ?_
                refine VA.one1 (i := 12) (listed' := LB 13 8191) (by kernel_rfl) rfl (o_store 1 23 rfl rfl rfl TI35 (.agg (.of rfl)) rfl (len rfl)) rfl (by kernel_rfl) ⟨trivial, ⟨⟨6, rfl⟩, ⟨7, rfl⟩, trivial⟩, trivial⟩ ?_
                refine VA.done (by kernel_rfl) ?_
                exact VN.meet3 g3861 g3862 g3863 [1, 2, 0, 3, 4, 5] [] trivial ⟨rfl, ⟨rfl, rfl, rfl, rfl, rfl, rfl, rfl, rfl, rfl, rfl, rfl, trivial⟩, trivial, rfl, by decide, rfl, by decide⟩
              refine VAll.consG (listed' := LB 13 959) rfl (o_alloc Z35 ZL35 (ltn rfl)) rfl (by kernel_rfl) (fun _ => ⟨trivial, ⟨⟨6, rfl⟩, ⟨7, rfl⟩, trivial⟩, trivial⟩) ?_ VAll.nil
              intro g3861
              refine VA.oneC (i := 6) (listed' := LB 13 1023) (by kernel_rfl) rfl (o_call0 FO22 (tarryref13_End.ok k t9 t10 t11 t12 t13 t14 t15 t16 t17 t18 t19 t20 t21 t22 t23 t24 t25 t26 t27 t28 t29 t3837 t3838 t3839 t3840 t3841 t3842 t3843 t3844 t3845 t3846 t3847 t3848 t3849 t3850 t3851 t3852 t3853 t3854 t3855 t3856 t3857 t3858 t3859 hA3860) rfl rfl (ltn rfl) (All_of .nil)) rfl (by kernel_rfl) ?_
              rintro _ _ _ ⟨rfl, rfl, rfl⟩
              refine ⟨⟨trivial, ⟨⟨6, rfl⟩, ⟨7, rfl⟩, trivial⟩, trivial⟩, ?_⟩
              refine VA.one1 (i := 10) (listed' := LB 13 2047) (by kernel_rfl) rfl (o_store 0 23 rfl rfl rfl TI35 (.agg (.of rfl)) rfl (len rfl)) rfl (by kernel_rfl) ⟨trivial, ⟨⟨6, rfl⟩, ⟨7, rfl⟩, trivial⟩, trivial⟩ ?_
              refine VA.one1 (i := 11) (listed' := LB 13 4095) (by kernel_rfl) rfl (o_store 2 23 rfl rfl rfl TI35 (.agg (.of rfl)) rfl (len rfl)) rfl (by kernel_rfl) ⟨trivial, ⟨⟨6, rfl⟩, ⟨7, rfl⟩, trivial⟩, trivial⟩ ?_
              refine VA.one1 (i := 12) (listed' := LB 13 8191) (by kernel_rfl) rfl (o_store 1 23 rfl rfl rfl TI35 (.agg (.of rfl)) rfl (len rfl)) rfl (by kernel_rfl) ⟨trivial, ⟨⟨6, rfl⟩, ⟨7, rfl⟩, trivial⟩, trivial⟩ ?_
              refine VA.done (by kernel_rfl) ?_
              exact VN.meet3 g3861 g3862 g3863 [1, 2, 0, 3, 4, 5] [] trivial ⟨rfl, ⟨rfl, rfl, rfl, rfl, rfl, rfl, rfl, rfl, rfl, rfl, rfl, trivial⟩, trivial, rfl, by decide, rfl, by decide⟩
            refine VAll.consG (listed' := LB 13 943) rfl (o_alloc Z35 ZL35 (ltn rfl)) rfl (by kernel_rfl) (fun _ => ⟨trivial, ⟨⟨6, rfl⟩, ⟨7, rfl⟩, trivial⟩, trivial⟩) ?_ VAll.nil
            intro g3861
            refine VA.oneC (i := 4) (listed' := LB 13 959) (by kernel_rfl) rfl (o_call0 FO21 (tarryref13_Came.ok k t9 t10 t11 t12 t13 t14 t15 t16 t17 t18 t19 t20 t21 t22 t23 t24 t25 t26 t27 t28 t29 t3781 t3782 t3783 t3784 t3785 t3786 t3787 t3788 t3789 t3790 t3791 t3792 t3793 t3794 t3795 t3796 t3797 t3798 t3799 t3800 t3801 t3802 t3803 hA3804) rfl rfl (ltn rfl) (All_of .nil)) rfl (by kernel_rfl) ?_
            rintro _ _ _ ⟨rfl, rfl, rfl⟩
            refine ⟨⟨trivial, ⟨⟨6, rfl⟩, ⟨7, rfl⟩, trivial⟩, trivial⟩, ?_⟩
            refine VA.oneC (i := 6) (listed' := LB 13 1023) (by kernel_rfl) rfl (o_call0 FO22 (tarryref13_End.ok k t9 t10 t11 t12 t13 t14 t15 t16 t17 t18 t19 t20 t21 t22 t23 t24 t25 t26 t27 t28 t29 t3837 t3838 t3839 t3840 t3841 t3842 t3843 t3844 t3845 t3846 t3847 t3848 t3849 t3850 t3851 t3852 t3853 t3854 t3855 t3856 t3857 t3858 t3859 hA3860) rfl rfl (ltn rfl) (All_of .nil)) rfl (by kernel_rfl) ?_
            rintro _ _ _ ⟨rfl, rfl, rfl⟩
            refine ⟨⟨trivial, ⟨⟨6, rfl⟩, ⟨7, rfl⟩, trivial⟩, trivial⟩, ?_⟩
            refine VA.one1 (i := 10) (listed' := LB 13 2047) (by kernel_rfl) rfl (o_store 0 23 rfl rfl rfl TI35 (.agg (.of rfl)) rfl (len rfl)) rfl (by kernel_rfl) ⟨trivial, ⟨⟨6, rfl⟩, ⟨7, rfl⟩, trivial⟩, trivial⟩ ?_
            refine VA.one1 (i := 11) (listed' := LB 13 4095) (by kernel_rfl) rfl (o_store 2 23 rfl rfl rfl TI35 (.agg (.of rfl)) rfl (len rfl)) rfl (by kernel_rfl) ⟨trivial, ⟨⟨6, rfl⟩, ⟨7, rfl⟩, trivial⟩, trivial⟩ ?_
            refine VA.one1 (i := 12) (listed' := LB 13 8191) (by kernel_rfl) rfl (o_store 1 23 rfl rfl rfl TI35 (.agg (.of rfl)) rfl (len rfl)) rfl (by kernel_rfl) ⟨trivial, ⟨⟨6, rfl⟩, ⟨7, rfl⟩, trivial⟩, trivial⟩ ?_
            refine VA.done (by kernel_rfl) ?_
            exact VN.meet3 g3861 g3862 g3863 [1, 2, 0, 3, 4, 5] [] trivial ⟨rfl, ⟨rfl, rfl, rfl, rfl, rfl, rfl, rfl, rfl, rfl, rfl, rfl, trivial⟩, trivial, rfl, by decide, rfl, by decide⟩
          refine VAll.consG (listed' := LB 13 559) rfl (o_alloc Z35 ZL35 (ltn rfl)) rfl (by kernel_rfl) (fun _ => ⟨trivial, ⟨⟨4, rfl⟩, ⟨5, rfl⟩, trivial⟩, trivial⟩) ?_ VAll.nil
          intro g3863
          refine VA.all [4, 7, 8] (by kernel_rfl) (by simp) ?_
          refine VAll.consC (listed' := LB 13 575) rfl (o_call0 FO21 (tarryref13_Came.ok k t9 t10 t11 t12 t13 t14 t15 t16 t17 t18 t19 t20 t21 t22 t23 t24 t25 t26 t27 t28 t29 t3781 t3782 t3783 t3784 t3785 t3786 t3787 t3788 t3789 t3790 t3791 t3792 t3793 t3794 t3795 t3796 t3797 t3798 t3799 t3800 t3801 t3802 t3803 hA3804) rfl rfl (ltn rfl) (All_of .nil)) rfl (by kernel_rfl) ?_ ?_
          · rintro _ _ _ ⟨rfl, rfl, rfl⟩
            refine ⟨⟨trivial, ⟨⟨4, rfl⟩, ⟨5, rfl⟩, trivial⟩, trivial⟩, ?_⟩
            refine VA.all [6, 7, 8] (by kernel_rfl) (by simp) ?_
            refine VAll.consC (listed' := LB 13 639) rfl (o_call0 FO22 (tarryref13_End.ok k t9 t10 t11 t12 t13 t14 t15 t16 t17 t18 t19 t20 t21 t22 t23 t24 t25 t26 t27 t28 t29 t3837 t3838 t3839 t3840 t3841 t3842 t3843 t3844 t3845 t3846 t3847 t3848 t3849 t3850 t3851 t3852 t3853 t3854 t3855 t3856 t3857 t3858 t3859 hA3860) rfl rfl (ltn rfl) (All_of .nil)) rfl (by kernel_rfl) ?_ ?_
            · rintro _ _ _ ⟨rfl, rfl, rfl⟩
              refine ⟨⟨trivial, ⟨⟨4, rfl⟩, ⟨5, rfl⟩, trivial⟩, trivial⟩, ?_⟩
              refine VA.all [7, 8] (by kernel_rfl) (by simp) ?_
              refine VAll.consG (listed' := LB 13 767) rfl (o_alloc Z35 ZL35 (ltn rfl)) rfl (by kernel_rfl) (fun _ => ⟨trivial, ⟨⟨5, rfl⟩, ⟨6, rfl⟩, trivial⟩, trivial⟩) ?_ ?_
              · intro g3861
                refine VA.oneG (i := 8) (listed' := LB 13 1023) (by kernel_rfl) rfl (o_alloc Z35 ZL35 (ltn rfl)) rfl (by kernel_rfl) (fun _ => ⟨trivial, ⟨⟨6, rfl⟩, ⟨7, rfl⟩, trivial⟩, trivial⟩) ?_
                intro g3862
                refine VA.one1 (i := 10) (listed' := LB 13 2047) (by kernel_rfl) rfl (o_store 1 23 rfl rfl rfl TI35 (.agg (.of rfl)) rfl (len rfl)) rfl (by kernel_rfl) ⟨trivial, ⟨⟨6, rfl⟩, ⟨7, rfl⟩, trivial⟩, trivial⟩ ?_
                refine VA.one1 (i := 11) (listed' := LB 13 4095) (by kernel_rfl) rfl (o_store 0 23 rfl rfl rfl TI35 (.agg (.of rfl)) rfl (len rfl)) rfl (by kernel_rfl) ⟨trivial, ⟨⟨6, rfl⟩, ⟨7, rfl⟩, trivial⟩, trivial⟩ ?_
                refine VA.one1 (i := 12) (listed' := LB 13 8191) (by kernel_rfl) rfl (o_store 2 23 rfl rfl rfl TI35 (.agg (.of rfl)) rfl (len rfl)) rfl (by kernel_rfl) ⟨trivial, ⟨⟨6, rfl⟩, ⟨7, rfl⟩, trivial⟩, trivial⟩ ?_
                refine VA.done (by kernel_rfl) ?_
                exact VN.meet3 g3861 g3862 g3863 [2, 0, 1, 3, 4, 5] [] trivial ⟨rfl, ⟨rfl, rfl, rfl, rfl, rfl, rfl, rfl, rfl, rfl, rfl, rfl, trivial⟩, trivial, rfl, by decide, rfl, by decide⟩
              refine VAll.consG (listed' := LB 13 895) rfl (o_alloc Z35 ZL35 (ltn rfl)) rfl (by kernel_rfl) (fun _ => ⟨trivial, ⟨⟨5, rfl⟩, ⟨6, rfl⟩, trivial⟩, trivial⟩) ?_ VAll.nil
              intro g3862
              refine VA.oneG (i := 7) (listed' := LB 13 1023) (by kernel_rfl) rfl (o_alloc Z35 ZL35 (ltn rfl)) rfl (by kernel_rfl) (fun _ => ⟨trivial, ⟨⟨6, rfl⟩, ⟨7, rfl⟩, trivial⟩, trivial⟩) ?_
              intro g3861
              refine VA.one1 (i := 10) (listed' := LB 13 2047) (by kernel_rfl) rfl (o_store 0 23 rfl rfl rfl TI35 (.agg (.of rfl)) rfl (len rfl)) rfl (by kernel_rfl) ⟨trivial, ⟨⟨6, rfl⟩, ⟨7, rfl⟩, trivial⟩, trivial⟩ ?_
              refine VA.one1 (i := 11) (listed' := LB 13 4095) (by kernel_rfl) rfl (o_store 1 23 rfl rfl rfl TI35 (.agg (.of rfl)) rfl (len rfl)) rfl (by kernel_rfl) ⟨trivial, ⟨⟨6, rfl⟩, ⟨7, rfl⟩, trivial⟩, trivial⟩ ?_
              refine VA.one1 (i := 12) (listed' := LB 13 8191) (by kernel_rfl) rfl (o_store 2 23 rfl rfl rfl TI35 (.agg (.of rfl)) rfl (len rfl)) rfl (by kernel_rfl) ⟨trivial, ⟨⟨6, rfl⟩, ⟨7, rfl⟩, trivial⟩, trivial⟩ ?_
              refine VA.done (by kernel_rfl) ?_
              exact VN.meet3 g3861 g3862 g3863 [2, 1, 0, 3, 4, 5] [] trivial ⟨rfl, ⟨rfl, rfl, rfl, rfl, rfl, rfl, rfl, rfl, rfl, rfl, rfl, trivial⟩, trivial, rfl, by decide, rfl, by decide⟩
            refine VAll.consG (listed' := LB 13 703) rfl (o_alloc Z35 ZL35 (ltn rfl)) rfl (by kernel_rfl) (fun _ => ⟨trivial, ⟨⟨5, rfl⟩, ⟨6, rfl⟩, trivial⟩, trivial⟩) ?_ ?_
            · intro g3861
              refine VA.all [6, 8] (by kernel_rfl) (by simp) ?_
              refine VAll.consC (listed' := LB 13 767) rfl (o_call0 FO22 (tarryref13_End.ok k t9 t10 t11 t12 t13 t14 t15 t16 t17 t18 t19 t20 t21 t22 t23 t24 t25 t26 t27 t28 t29 t3837 t3838 t3839 t3840 t3841 t3842 t3843 t3844 t3845 t3846 t3847 t3848 t3849 t3850 t3851 t3852 t3853 t3854 t3855 t3856 t3857 t3858 t3859 hA3860) rfl rfl (ltn rfl) (All_of .nil)) rfl (by kernel_rfl) ?_ ?_
              · rintro _ _ _ ⟨rfl, rfl, rfl⟩
                refine ⟨⟨trivial, ⟨⟨5, rfl⟩, ⟨6, rfl⟩, trivial⟩, trivial⟩, ?_⟩
                refine VA.oneG (i := 8) (listed' := LB 13 1023) (by kernel_rfl) rfl (o_alloc Z35 ZL35 (ltn rfl)) rfl (by kernel_rfl) (fun _ => ⟨trivial, ⟨⟨6, rfl⟩, ⟨7, rfl⟩, trivial⟩, trivial⟩) ?_
                intro g3862
                refine VA.one1 (i := 10) (listed' := LB 13 2047) (by kernel_rfl) rfl (o_store 1 23 rfl rfl rfl TI35 (.agg (.of rfl)) rfl (len rfl)) rfl (by kernel_rfl) ⟨trivial, ⟨⟨6, rfl⟩, ⟨7, rfl⟩, trivial⟩, trivial⟩ ?_
                refine VA.one1 (i := 11) (listed' := LB 13 4095) (by kernel_rfl) rfl (o_store 0 23 rfl rfl rfl TI35 (.agg (.of rfl)) rfl (len rfl)) rfl (by kernel_rfl) ⟨trivial, ⟨⟨6, rfl⟩, ⟨7, rfl⟩, trivial⟩, trivial⟩ ?_
                refine VA.one1 (i := 12) (listed' := LB 13 8191) (by kernel_rfl) rfl (o_store 2 23 rfl rfl rfl TI35 (.agg (.of rfl)) rfl (len rfl)) rfl (by kernel_rfl) ⟨trivial, ⟨⟨6, rfl⟩, ⟨7, rfl⟩, trivial⟩, trivial⟩ ?_
                refine VA.done (by kernel_rfl) ?_
                exact VN.meet3 g3861 g3862 g3863 [2, 0, 1, 3, 4, 5] [] trivial ⟨rfl, ⟨rfl, rfl, rfl, rfl, rfl, rfl, rfl, rfl, rfl, rfl, rfl, trivial⟩, trivial, rfl, by decide, rfl, by decide⟩
              refine VAll.consG (listed' := LB 13 959) rfl (o_alloc Z35 ZL35 (ltn rfl)) rfl (by kernel_rfl) (fun _ => ⟨trivial, ⟨⟨6, rfl⟩, ⟨7, rfl⟩, trivial⟩, trivial⟩) ?_ VAll.nil
              intro g3862
              refine VA.oneC (i := 6) (listed' := LB 13 1023) (by kernel_rfl) rfl (o_call0 FO22 (tarryref13_End.ok k t9 t10 t11 t12 t13 t14 t15 t16 t17 t18 t19 t20 t21 t22 t23 t24 t25 t26 t27 t28 t29 t3837 t3838 t3839 t3840 t3841 t3842 t3843 t3844 t3845 t3846 t3847 t3848 t3849 t3850 t3851 t3852 t3853 t3854 t3855 t3856 t3857 t3858 t3859 hA3860) rfl rfl (ltn rfl) (All_of .nil)) rfl (by kernel_rfl) ?_
              rintro _ _ _ ⟨rfl, rfl, rfl⟩
              refine ⟨⟨trivial, ⟨⟨6, rfl⟩, ⟨7, rfl⟩, trivial⟩, trivial⟩, ?_⟩
              refine VA.one1 (i := 10) (listed' := LB 13 2047) (by kernel_rfl) rfl (o_store 1 23 rfl rfl rfl TI35 (.agg (.of rfl)) rfl (len rfl)) rfl (by kernel_rfl) ⟨trivial, ⟨⟨6, rfl⟩, ⟨7, rfl⟩, trivial⟩, trivial⟩ ?_
              refine VA.one1 (i := 11) (listed' := LB 13 4095) (by kernel_rfl) rfl (o_store 0 23 rfl rfl rfl TI35 (.agg (.of rfl)) rfl (len rfl)) rfl (by kernel_rfl) ⟨trivial, ⟨⟨6, rfl⟩, ⟨7, rfl⟩, trivial⟩, trivial⟩ ?_
              refine VA.one1 (i := 12) (listed' := LB 13 8191) (by kernel_rfl) rfl (o_store 2 23 rfl rfl rfl TI35 (.agg (.of rfl)) rfl (len rfl)) rfl (by kernel_rfl) ⟨trivial, ⟨⟨6, rfl⟩, ⟨7, rfl⟩, trivial⟩, trivial⟩ ?_
              refine VA.done (by kernel_rfl) ?_
              exact VN.meet3 g3861 g3862 g3863 [2, 0, 1, 3, 4, 5] [] trivial ⟨rfl, ⟨rfl, rfl, rfl, rfl, rfl, rfl, rfl, rfl, rfl, rfl, rfl, trivial⟩, trivial, rfl, by decide, rfl, by decide⟩
            refine VAll.consG (listed' := LB 13 831) rfl (o_alloc Z35 ZL35 (ltn rfl)) rfl (by kernel_rfl) (fun _ => ⟨trivial, ⟨⟨5, rfl⟩, ⟨6, rfl⟩, trivial⟩, trivial⟩) ?_ VAll.nil
            intro g3862
            refine VA.all [6, 7] (by kernel_rfl) (by simp) ?_
            refine VAll.consC (listed' := LB 13 895) rfl (o_call0 FO22 (tarryref13_End.ok k t9 t10 t11 t12 t13 t14 t15 t16 t17 t18 t19 t20 t21 t22 t23 t24 t25 t26 t27 t28 t29 t3837 t3838 t3839 t3840 t3841 t3842 t3843 t3844 t3845 t3846 t3847 t3848 t3849 t3850 t3851 t3852 t3853 t3854 t3855 t3856 t3857 t3858 t3859 hA3860) rfl rfl (ltn rfl) (All_of .nil)) rfl (by kernel_rfl) ?_ ?_
            · rintro _ _ _ ⟨rfl, rfl, rfl⟩
              refine ⟨⟨trivial, ⟨⟨5, rfl⟩, ⟨6, rfl⟩, trivial⟩, trivial⟩, ?_⟩
              refine VA.oneG (i := 7) (listed' := LB 13 1023) (by kernel_rfl) rfl (o_alloc Z35 ZL35 (ltn rfl)) rfl (by kernel_rfl) (fun _ => ⟨trivial, ⟨⟨6, rfl⟩, ⟨7, rfl⟩, trivial⟩, trivial⟩) ?_
              intro g3861
              refine VA.one1 (i := 10) (listed' := LB 13 2047) (by kernel_rfl) rfl (o_store 0 23 rfl rfl rfl TI35 (.agg (.of rfl)) rfl (len rfl)) rfl (by kernel_rfl) ⟨trivial, ⟨⟨6, rfl⟩, ⟨7, rfl⟩, trivial⟩, trivial⟩ ?_
              refine VA.one1 (i := 11) (listed' := LB 13 4095) (by kernel_rfl) rfl (o_store 1 23 rfl rfl rfl TI35 (.agg (.of rfl)) rfl (len rfl)) rfl (by kernel_rfl) ⟨trivial, ⟨⟨6, rfl⟩, ⟨7, rfl⟩, trivial⟩, trivial⟩ ?_
              refine VA.one1 (i := 12) (listed' := LB 13 8191) (by kernel_rfl) rfl (o_store 2 23 rfl rfl rfl TI35 (.agg (.of rfl)) rfl (len rfl)) rfl (by kernel_rfl) ⟨trivial, ⟨⟨6, rfl⟩, ⟨7, rfl⟩, trivial⟩, trivial⟩ ?_
              refine VA.done (by kernel_rfl) ?_
              exact VN.meet3 g3861 g3862 g3863 [2, 1, 0, 3, 4, 5] [] trivial ⟨rfl, ⟨rfl, rfl, rfl, rfl, rfl, rfl, rfl, rfl, rfl, rfl, rfl, trivial⟩, trivial, rfl, by decide, rfl, by decide⟩
            refine VAll.consG (listed' := LB 13 959) rfl (o_alloc Z35 ZL35 (ltn rfl)) rfl (by kernel_rfl) (fun _ => ⟨trivial, ⟨⟨6, rfl⟩, ⟨7, rfl⟩, trivial⟩, trivial⟩) ?_ VAll.nil
            intro g3861
            refine VA.oneC (i := 6) (listed' := LB 13 1023) (by kernel_rfl) rfl (o_call0 FO22 (tarryref13_End.ok k t9 t10 t11 t12 t13 t14 t15 t16 t17 t18 t19 t20 t21 t22 t23 t24 t25 t26 t27 t28 t29 t3837 t3838 t3839 t3840 t3841 t3842 t3843 t3844 t3845 t3846 t3847 t3848 t3849 t3850 t3851 t3852 t3853 t3854 t3855 t3856 t3857 t3858 t3859 hA3860) rfl rfl (ltn rfl) (All_of .nil)) rfl (by kernel_rfl) ?_
            rintro _ _ _ ⟨rfl, rfl, rfl⟩
            refine ⟨⟨trivial, ⟨⟨6, rfl⟩, ⟨7, rfl⟩, trivial⟩, trivial⟩, ?_⟩
            refine VA.one1 (i := 10) (listed' := LB 13 2047) (by kernel_rfl) rfl (o_store 0 23 rfl rfl rfl TI35 (.agg (.of rfl)) rfl (len rfl)) rfl (by kernel_rfl) ⟨trivial, ⟨⟨6, rfl⟩, ⟨7, rfl⟩, trivial⟩, trivial⟩ ?_
            refine VA.one1 (i := 11) (listed' := LB 13 4095) (by kernel_rfl) rfl (o_store 1 23 rfl rfl rfl TI35 (.agg (.of rfl)) rfl (len rfl)) rfl (by kernel_rfl) ⟨trivial, ⟨⟨6, rfl⟩, ⟨7, rfl⟩, trivial⟩, trivial⟩ ?_
            refine VA.one1 (i := 12) (listed' := LB 13 8191) (by kernel_rfl) rfl (o_store 2 23 rfl rfl rfl TI35 (.agg (.of rfl)) rfl (len rfl)) rfl (by kernel_rfl) ⟨trivial, ⟨⟨6, rfl⟩, ⟨7, rfl⟩, trivial⟩, trivial⟩ ?_
            refine VA.done (by kernel_rfl) ?_
            exact VN.meet3 g3861 g3862 g3863 [2, 1, 0, 3, 4, 5] [] trivial ⟨rfl, ⟨rfl, rfl, rfl, rfl, rfl, rfl, rfl, rfl, rfl, rfl, rfl, trivial⟩, trivial, rfl, by decide, rfl, by decide⟩
          refine VAll.consG (listed' := LB 13 687) rfl (o_alloc Z35 ZL35 (ltn rfl)) rfl (by kernel_rfl) (fun _ => ⟨trivial, ⟨⟨5, rfl⟩, ⟨6, rfl⟩, trivial⟩, trivial⟩) ?_ ?_
          · intro g3861
            refine VA.all [4, 8] (by kernel_rfl) (by simp) ?_
            refine VAll.consC (listed' := LB 13 703) rfl (o_call0 FO21 (tarryref13_Came.ok k t9 t10 t11 t12 t13 t14 t15 t16 t17 t18 t19 t20 t21 t22 t23 t24 t25 t26 t27 t28 t29 t3781 t3782 t3783 t3784 t3785 t3786 t3787 t3788 t3789 t3790 t3791 t3792 t3793 t3794 t3795 t3796 t3797 t3798 t3799 t3800 t3801 t3802 t3803 hA3804) rfl rfl (ltn rfl) (All_of .nil)) rfl (by kernel_rfl) ?_ ?_
            · rintro _ _ _ ⟨rfl, rfl, rfl⟩
              refine ⟨⟨trivial, ⟨⟨5, rfl⟩, ⟨6, rfl⟩, trivial⟩, trivial⟩, ?_⟩
              refine VA.all [6, 8] (by kernel_rfl) (by simp) ?_
              refine VAll.consC (listed' := LB 13 767) rfl (o_call0 FO22 (tarryref13_End.ok k t9 t10 t11 t12 t13 t14 t15 t16 t17 t18 t19 t20 t21 t22 t23 t24 t25 t26 t27 t28 t29 t3837 t3838 t3839 t3840 t3841 t3842 t3843 t3844 t3845 t3846 t3847 t3848 t3849 t3850 t3851 t3852 t3853 t3854 t3855 t3856 t3857 t3858 t3859 hA3860) rfl rfl (ltn rfl) (All_of .nil)) rfl (by kernel_rfl) ?_ ?_
              · rintro _ _ _ ⟨rfl, rfl, rfl⟩
                refine ⟨⟨trivial, ⟨⟨5, rfl⟩, ⟨6, rfl⟩, trivial⟩, trivial⟩, ?_⟩
                refine VA.oneG (i := 8) (listed' := LB 13 1023) (by kernel_rfl) rfl (o_alloc Z35 ZL35 (ltn rfl)) rfl (by kernel_rfl) (fun _ => ⟨trivial, ⟨⟨6, rfl⟩, ⟨7, rfl⟩, trivial⟩, trivial⟩) ?_
                intro g3862
                refine VA.one1 (i := 10) (listed' := LB 13 2047) (by kernel_rfl) rfl (o_store 1 23 rfl rfl rfl TI35 (.agg (.of rfl)) rfl (len rfl)) rfl (by kernel_rfl) ⟨trivial, ⟨⟨6, rfl⟩, ⟨7, rfl⟩, trivial⟩, trivial⟩ ?_
                refine VA.one1 (i := 11) (listed' := LB 13 4095) (by kernel_rfl) rfl (o_store 0 23 rfl rfl rfl TI35 (.agg (.of rfl)) rfl (len rfl)) rfl (by kernel_rfl) ⟨trivial, ⟨⟨6, rfl⟩, ⟨7, rfl⟩, trivial⟩, trivial⟩ ?_
                refine VA.one1 (i := 12) (listed' := LB 13 8191) (by kernel_rfl) rfl (o_store 2 23 rfl rfl rfl TI35 (.agg (.of rfl)) rfl (len rfl)) rfl (by kernel_rfl) ⟨trivial, ⟨⟨6, rfl⟩, ⟨7, rfl⟩, trivial⟩, trivial⟩ ?_
                refine VA.done (by kernel_rfl) ?_
                exact VN.meet3 g3861 g3862 g3863 [2, 0, 1, 3, 4, 5] [] trivial ⟨rfl, ⟨rfl, rfl, rfl, rfl, rfl, rfl, rfl, rfl, rfl, rfl, rfl, trivial⟩, trivial, rfl, by decide, rfl, by decide⟩
              refine VAll.consG (listed' := LB 13 959) rfl (o_alloc Z35 ZL35 (ltn rfl)) rfl (by kernel_rfl) (fun _ => ⟨trivial, ⟨⟨6, rfl⟩, ⟨7, rfl⟩, trivial⟩, trivial⟩) ?_ VAll.nil
              intro g3862
              refine VA.oneC (i := 6) (listed' := LB 13 1023) (by kernel_rfl) rfl (o_call0 FO22 (tarryref13_End.ok k t9 t10 t11 t12 t13 t14 t15 t16 t17 t18 t19 t20 t21 t22 t23 t24 t25 t26 t27 t28 t29 t3837 t3838 t3839 t3840 t3841 t3842 t3843 t3844 t3845 t3846 t3847 t3848 t3849 t3850 t3851 t3852 t3853 t3854 t3855 t3856 t3857 t3858 t3859 hA3860) rfl rfl (ltn rfl) (All_of .nil)) rfl (by kernel_rfl) ?_
              rintro _ _ _ ⟨rfl, rfl, rfl⟩
              refine ⟨⟨trivial, ⟨⟨6, rfl⟩, ⟨7, rfl⟩, trivial⟩, trivial⟩, ?_⟩
              refine VA.one1 (i := 10) (listed' := LB 13 2047) (by kernel_rfl) rfl (o_store 1 23 rfl rfl rfl TI35 (.agg (.of rfl)) rfl (len rfl)) rfl (by kernel_rfl) ⟨trivial, ⟨⟨6, rfl⟩, ⟨7, rfl⟩, trivial⟩, trivial⟩ ?_
              refine VA.one1 (i := 11) (listed' := LB 13 4095) (by kernel_rfl) rfl (o_store 0 23 rfl rfl rfl TI35 (.agg (.of rfl)) rfl (len rfl)) rfl (by kernel_rfl) ⟨trivial, ⟨⟨6, rfl⟩, ⟨7, rfl⟩, trivial⟩, trivial⟩ ?_
              refine VA.one1 (i := 12) (listed' := LB 13 8191) (by kernel_rfl) rfl (o_store 2 23 rfl rfl rfl TI35 (.agg (.of rfl)) rfl (len rfl)) rfl (by kernel_rfl) ⟨trivial, ⟨⟨6, rfl⟩, ⟨7, rfl⟩, trivial⟩, trivial⟩ ?_
              refine VA.done (by kernel_rfl) ?_
              exact VN.meet3 g3861 g3862 g3863 [2, 0, 1, 3, 4, 5] [] trivial ⟨rfl, ⟨rfl, rfl, rfl, rfl, rfl, rfl, rfl, rfl, rfl, rfl, rfl, trivial⟩, trivial, rfl, by decide, rfl, by decide⟩
            refine VAll.consG (listed' := LB 13 943) rfl (o_alloc Z35 ZL35 (ltn rfl)) rfl (by kernel_rfl) (fun _ => ⟨trivial, ⟨⟨6, rfl⟩, ⟨7, rfl⟩, trivial⟩, trivial⟩) ?_ VAll.nil
            intro g3862
            refine VA.oneC (i := 4) (listed' := LB 13 959) (by kernel_rfl) rfl (o_call0 FO21 (tarryref13_Came.ok k t9 t10 t11 t12 t13 t14 t15 t16 t17 t18 t19 t20 t21 t22 t23 t24 t25 t26 t27 t28 t29 t3781 t3782 t3783 t3784 t3785 t3786 t3787 t3788 t3789 t3790 t3791 t3792 t3793 t3794 t3795 t3796 t3797 t3798 t3799 t3800 t3801 t3802 t3803 hA3804) rfl rfl (ltn rfl) (All_of .nil)) rfl (by kernel_rfl) ?_
            rintro _ _ _ ⟨rfl, rfl, rfl⟩
            refine ⟨⟨trivial, ⟨⟨6, rfl⟩, ⟨7, rfl⟩, trivial⟩, trivial⟩, ?_⟩
            refine VA.oneC (i := 6) (listed' := LB 13 1023) (by kernel_rfl) rfl (o_call0 FO22 (tarryref13_End.ok k t9 t10 t11 t12 t13 t14 t15 t16 t17 t18 t19 t20 t21 t22 t23 t24 t25 t26 t27 t28 t29 t3837 t3838 t3839 t3840 t3841 t3842 t3843 t3844 t3845 t3846 t3847 t3848 t3849 t3850 t3851 t3852 t3853 t3854 t3855 t3856 t3857 t3858 t3859 hA3860) rfl rfl (ltn rfl) (All_of .nil)) rfl (by kernel_rfl) ?_
            rintro _ _ _ ⟨rfl, rfl, rfl⟩
            refine ⟨⟨trivial, ⟨⟨6, rfl⟩, ⟨7, rfl⟩, trivial⟩, trivial⟩, ?_⟩
            refine VA.one1 (i := 10) (listed' := LB 13 2047) (by kernel_rfl) rfl (o_store 1 23 rfl rfl rfl TI35 (.agg (.of rfl)) rfl (len rfl)) rfl (by kernel_rfl) ⟨trivial, ⟨⟨6, rfl⟩, ⟨7, rfl⟩, trivial⟩, trivial⟩ ?_
            refine VA.one1 (i := 11) (listed' := LB 13 4095) (by kernel_rfl) rfl (o_store 0 23 rfl rfl rfl TI35 (.agg (.of rfl)) rfl (len rfl)) rfl (by kernel_rfl) ⟨trivial, ⟨⟨6, rfl⟩, ⟨7, rfl⟩, trivial⟩, trivial⟩ ?_
            refine VA.one1 (i := 12) (listed' := LB 13 8191) (by kernel_rfl) rfl (o_store 2 23 rfl rfl rfl TI35 (.agg (.of rfl)) rfl (len rfl)) rfl (by kernel_rfl) ⟨trivial, ⟨⟨6, rfl⟩, ⟨7, rfl⟩, trivial⟩, trivial⟩ ?_
            refine VA.done (by kernel_rfl) ?_
            exact VN.meet3 g3861 g3862 g3863 [2, 0, 1, 3, 4, 5] [] trivial ⟨rfl, ⟨rfl, rfl, rfl, rfl, rfl, rfl, rfl, rfl, rfl, rfl, rfl, trivial⟩, trivial, rfl, by decide, rfl, by decide⟩
          refine VAll.consG (listed' := LB 13 815) rfl (o_alloc Z35 ZL35 (ltn rfl)) rfl (by kernel_rfl) (fun _ => ⟨trivial, ⟨⟨5, rfl⟩, ⟨6, rfl⟩, trivial⟩, trivial⟩) ?_ VAll.nil
          intro g3862
          refine VA.all [4, 7] (by kernel_rfl) (by simp) ?_
          refine VAll.consC (listed' := LB 13 831) rfl (o_call0 FO21 (tarryref13_Came.ok k t9 t10 t11 t12 t13 t14 t15 t16 t17 t18 t19 t20 t21 t22 t23 t24 t25 t26 t27 t28 t29 t3781 t3782 t3783 t3784 t3785 t3786 t3787 t3788 t3789 t3790 t3791 t3792 t3793 t3794 t3795 t3796 t3797 t3798 t3799 t3800 t3801 t3802 t3803 hA3804) rfl rfl (ltn rfl) (All_of .nil)) rfl (by kernel_rfl) ?_ ?_
          · rintro _ _ _ ⟨rfl, rfl, rfl⟩
            refine ⟨⟨trivial, ⟨⟨5, rfl⟩, ⟨6, rfl⟩, trivial⟩, trivial⟩, ?_⟩
            refine VA.all [6, 7] (by kernel_rfl) (by simp) ?_
            refine VAll.consC (listed' := LB 13 895) rfl (o_call0 FO22 (tarryref13_End.ok k t9 t10 t11 t12 t13 t14 t15 t16 t17 t18 t19 t20 t21 t22 t23 t24 t25 t26 t27 t28 t29 t3837 t3838 t3839 t3840 t3841 t3842 t3843 t3844 t3845 t3846 t3847 t3848 t3849 t3850 t3851 t3852 t3853 t3854 t3855 t3856 t3857 t3858 t3859 hA3860) rfl rfl (ltn rfl) (All_of .nil)) rfl (by kernel_rfl) ?_ ?_
            · rintro _ _ _ ⟨rfl, rfl, rfl⟩
              refine ⟨⟨trivial, ⟨⟨5, rfl⟩, ⟨6, rfl⟩, trivial⟩, trivial⟩, ?_⟩
              refine VA.oneG (i := 7) (listed' := LB 13 1023) (by kernel_rfl) rfl (o_alloc Z35 ZL35 (ltn rfl)) rfl (by kernel_rfl) (fun _ => ⟨trivial, ⟨⟨6, rfl⟩, ⟨7, rfl⟩, trivial⟩, trivial⟩) ?_
              intro g3861
              refine VA.one1 (i := 10) (listed' := LB 13 2047) (by kernel_rfl) rfl (o_store 0 23 rfl rfl rfl TI35 (.agg (.of rfl)) rfl (len rfl)) rfl (by kernel_rfl) ⟨trivial, ⟨⟨6, rfl⟩, ⟨7, rfl⟩, trivial⟩, trivial⟩ ?_
              refine VA.one1 (i := 11) (listed' := LB 13 4095) (by kernel_rfl) rfl (o_store 1 23 rfl rfl rfl TI35 (.agg (.of rfl)) rfl (len rfl)) rfl (by kernel_rfl) ⟨trivial, ⟨⟨6, rfl⟩, ⟨7, rfl⟩, trivial⟩, trivial⟩ ?_
              refine VA.one1 (i := 12) (listed' := LB 13 8191) (by kernel_rfl) rfl (o_store 2 23 rfl rfl rfl TI35 (.agg (.of rfl)) rfl (len rfl)) rfl (by kernel_rfl) ⟨trivial, ⟨⟨6, rfl⟩, ⟨7, rfl⟩, trivial⟩, trivial⟩ ?_
              refine VA.done (by kernel_rfl) ?_
              exact VN.meet3 g3861 g3862 g3863 [2, 1, 0, 3, 4, 5] [] trivial ⟨rfl, ⟨rfl, rfl, rfl, rfl, rfl, rfl, rfl, rfl, rfl, rfl, rfl, trivial⟩, trivial, rfl, by decide, rfl, by decide⟩
            refine VAll.consG (listed' := LB 13 959) rfl (o_alloc Z35 ZL35 (ltn rfl)) rfl (by kernel_rfl) (fun _ => ⟨trivial, ⟨⟨6, rfl⟩, ⟨7, rfl⟩, trivial⟩, trivial⟩) ?_ VAll.nil
            intro g3861
            refine VA.oneC (i := 6) (listed' := LB 13 1023) (by kernel_rfl) rfl (o_call0 FO22 (tarryref13_End.ok k t9 t10 t11 t12 t13 t14 t15 t16 t17 t18 t19 t20 t21 t22 t23 t24 t25 t26 t27 t28 t29 t3837 t3838 t3839 t3840 t3841 t3842 t3843 t3844 t3845 t3846 t3847 t3848 t3849 t3850 t3851 t3852 t3853 t3854 t3855 t3856 t3857 t3858 t3859 hA3860) rfl rfl (ltn rfl) (All_of .nil)) rfl (by kernel_rfl) ?_
            rintro _ _ _ ⟨rfl, rfl, rfl⟩
            refine ⟨⟨trivial, ⟨⟨6, rfl⟩, ⟨7, rfl⟩, trivial⟩, trivial⟩, ?_⟩
            refine VA.one1 (i := 10) (listed' := LB 13 2047) (by kernel_rfl) rfl (o_store 0 23 rfl rfl rfl TI35 (.agg (.of rfl)) rfl (len rfl)) rfl (by kernel_rfl) ⟨trivial, ⟨⟨6, rfl⟩, ⟨7, rfl⟩, trivial⟩, trivial⟩ ?_
            refine VA.one1 (i := 11) (listed' := LB 13 4095) (by kernel_rfl) rfl (o_store 1 23 rfl rfl rfl TI35 (.agg (.of rfl)) rfl (len rfl)) rfl (by kernel_rfl) ⟨trivial, ⟨⟨6, rfl⟩, ⟨7, rfl⟩, trivial⟩, trivial⟩ ?_
            refine VA.one1 (i := 12) (listed' := LB 13 8191) (by kernel_rfl) rfl (o_store 2 23 rfl rfl rfl TI35 (.agg (.of rfl)) rfl (len rfl)) rfl (by kernel_rfl) ⟨trivial, ⟨⟨6, rfl⟩, ⟨7, rfl⟩, trivial⟩, trivial⟩ ?_
            refine VA.done (by kernel_rfl) ?_
            exact VN.meet3 g3861 g3862 g3863 [2, 1, 0, 3, 4, 5] [] trivial ⟨rfl, ⟨rfl, rfl, rfl, rfl, rfl, rfl, rfl, rfl, rfl, rfl, rfl, trivial⟩, trivial, rfl, by decide, rfl, by decide⟩
          refine VAll.consG (listed' := LB 13 943) rfl (o_alloc Z35 ZL35 (ltn rfl)) rfl (by kernel_rfl) (fun _ => ⟨trivial, ⟨⟨6, rfl⟩, ⟨7, rfl⟩, trivial⟩, trivial⟩) ?_ VAll.nil
          intro g3861
          refine VA.oneC (i := 4) (listed' := LB 13 959) (by kernel_rfl) rfl (o_call0 FO21 (tarryref13_Came.ok k t9 t10 t11 t12 t13 t14 t15 t16 t17 t18 t19 t20 t21 t22 t23 t24 t25 t26 t27 t28 t29 t3781 t3782 t3783 t3784 t3785 t3786 t3787 t3788 t3789 t3790 t3791 t3792 t3793 t3794 t3795 t3796 t3797 t3798 t3799 t3800 t3801 t3802 t3803 hA3804) rfl rfl (ltn rfl) (All_of .nil)) rfl (by kernel_rfl) ?_
          rintro _ _ _ ⟨rfl, rfl, rfl⟩
          refine ⟨⟨trivial, ⟨⟨6, rfl⟩, ⟨7, rfl⟩, trivial⟩, trivial⟩, ?_⟩
          refine VA.oneC (i := 6) (listed' := LB 13 1023) (by kernel_rfl) rfl (o_call0 FO22 (tarryref13_End.ok k t9 t10 t11 t12 t13 t14 t15 t16 t17 t18 t19 t20 t21 t22 t23 t24 t25 t26 t27 t28 t29 t3837 t3838 t3839 t3840 t3841 t3842 t3843 t3844 t3845 t3846 t3847 t3848 t3849 t3850 t3851 t3852 t3853 t3854 t3855 t3856 t3857 t3858 t3859 hA3860) rfl rfl (ltn rfl) (All_of .nil)) rfl (by kernel_rfl) ?_
          rintro _ _ _ ⟨rfl, rfl, rfl⟩
          refine ⟨⟨trivial, ⟨⟨6, rfl⟩, ⟨7, rfl⟩, trivial⟩, trivial⟩, ?_⟩
          refine VA.one1 (i := 10) (listed' := LB 13 2047) (by kernel_rfl) rfl (o_store 0 23 rfl rfl rfl TI35 (.agg (.of rfl)) rfl (len rfl)) rfl (by kernel_rfl) ⟨trivial, ⟨⟨6, rfl⟩, ⟨7, rfl⟩, trivial⟩, trivial⟩ ?_
          refine VA.one1 (i := 11) (listed' := LB 13 4095) (by kernel_rfl) rfl (o_store 1 23 rfl rfl rfl TI35 (.agg (.of rfl)) rfl (len rfl)) rfl (by kernel_rfl) ⟨trivial, ⟨⟨6, rfl⟩, ⟨7, rfl⟩, trivial⟩, trivial⟩ ?_
          refine VA.one1 (i := 12) (listed' := LB 13 8191) (by kernel_rfl) rfl (o_store 2 23 rfl rfl rfl TI35 (.agg (.of rfl)) rfl (len rfl)) rfl (by kernel_rfl) ⟨trivial, ⟨⟨6, rfl⟩, ⟨7, rfl⟩, trivial⟩, trivial⟩ ?_
          refine VA.done (by kernel_rfl) ?_
          exact VN.meet3 g3861 g3862 g3863 [2, 1, 0, 3, 4, 5] [] trivial ⟨rfl, ⟨rfl, rfl, rfl, rfl, rfl, rfl, rfl, rfl, rfl, rfl, rfl, trivial⟩, trivial, rfl, by decide, rfl, by decide⟩
        refine VAll.consG (listed' := LB 13 171) rfl (o_alloc Z35 ZL35 (ltn rfl)) rfl (by kernel_rfl) (fun _ => ⟨trivial, ⟨⟨4, rfl⟩, ⟨5, rfl⟩, trivial⟩, trivial⟩) ?_ ?_
        · intro g3861
          refine VA.all [2, 8, 9] (by kernel_rfl) (by simp) ?_
          refine VAll.consC (listed' := LB 13 175) rfl (o_call0 FO20 (tarryref13_Send.ok k t9 t10 t11 t12 t13 t14 t15 t16 t17 t18 t19 t20 t21 t22 t23 t24 t25 t26 t27 t28 t29 (a1_0.extract 0 ((mn (a1_0.size : Int) 18).toNat)) a1_1 a1_2 a1_3 t3733 t3734 t3735 t3736 t3737 t3738 t3739 t3740 t3741 t3742 t3743 t3744 t3745 t3746 t3747 t3748 t3749 t3750 t3751 t3752 t3753 t3754 t3755 hA3756) rfl rfl (ltn rfl) (All_of .nil)) rfl (by kernel_rfl) ?_ ?_
          · rintro _ _ _ ⟨rfl, rfl, rfl⟩
            refine ⟨⟨trivial, ⟨⟨4, rfl⟩, ⟨5, rfl⟩, trivial⟩, trivial⟩, ?_⟩
            refine VA.all [4, 8, 9] (by kernel_rfl) (by simp) ?_
            refine VAll.consC (listed' := LB 13 191) rfl (o_call0 FO21 (tarryref13_Came.ok k t9 t10 t11 t12 t13 t14 t15 t16 t17 t18 t19 t20 t21 t22 t23 t24 t25 t26 t27 t28 t29 t3781 t3782 t3783 t3784 t3785 t3786 t3787 t3788 t3789 t3790 t3791 t3792 t3793 t3794 t3795 t3796 t3797 t3798 t3799 t3800 t3801 t3802 t3803 hA3804) rfl rfl (ltn rfl) (All_of .nil)) rfl (by kernel_rfl) ?_ ?_
            · rintro _ _ _ ⟨rfl, rfl, rfl⟩
              refine ⟨⟨trivial, ⟨⟨4, rfl⟩, ⟨5, rfl⟩, trivial⟩, trivial⟩, ?_⟩
              refine VA.all [6, 8, 9] (by kernel_rfl) (by simp) ?_
              refine VAll.consC (listed' := LB 13 255) rfl (o_call0 FO22 (tarryref13_End.ok k t9 t10 t11 t12 t13 t14 t15 t16 t17 t18 t19 t20 t21 t22 t23 t24 t25 t26 t27 t28 t29 t3837 t3838 t3839 t3840 t3841 t3842 t3843 t3844 t3845 t3846 t3847 t3848 t3849 t3850 t3851 t3852 t3853 t3854 t3855 t3856 t3857 t3858 t3859 hA3860) rfl rfl (ltn rfl) (All_of .nil)) rfl (by kernel_rfl) ?_ ?_
              · rintro _ _ _ ⟨rfl, rfl, rfl⟩
                refine ⟨⟨trivial, ⟨⟨4, rfl⟩, ⟨5, rfl⟩, trivial⟩, trivial⟩, ?_⟩
                refine VA.all [8, 9] (by kernel_rfl) (by simp) ?_
                refine VAll.consG (listed' := LB 13 511) rfl (o_alloc Z35 ZL35 (ltn rfl)) rfl (by kernel_rfl) (fun _ => ⟨trivial, ⟨⟨5, rfl⟩, ⟨6, rfl⟩, trivial⟩, trivial⟩) ?_ ?_
                · intro g3862
                  refine VA.oneG (i := 9) (listed' := LB 13 1023) (by kernel_rfl) rfl (o_alloc Z35 ZL35 (ltn rfl)) rfl (by kernel_rfl) (fun _ => ⟨trivial, ⟨⟨6, rfl⟩, ⟨7, rfl⟩, trivial⟩, trivial⟩) ?_
                  intro g3863
                  refine VA.one1 (i := 10) (listed' := LB 13 2047) (by kernel_rfl) rfl (o_store 2 23 rfl rfl rfl TI35 (.agg (.of rfl)) rfl (len rfl)) rfl (by kernel_rfl) ⟨trivial, ⟨⟨6, rfl⟩, ⟨7, rfl⟩, trivial⟩, trivial⟩ ?_
                  refine VA.one1 (i := 11) (listed' := LB 13 4095) (by kernel_rfl) rfl (o_store 1 23 rfl rfl rfl TI35 (.agg (.of rfl)) rfl (len rfl)) rfl (by kernel_rfl) ⟨trivial, ⟨⟨6, rfl⟩, ⟨7, rfl⟩, trivial⟩, trivial⟩ ?_
                  refine VA.one1 (i := 12) (listed' := LB 13 8191) (by kernel_rfl) rfl (o_store 0 23 rfl rfl rfl TI35 (.agg (.of rfl)) rfl (len rfl)) rfl (by kernel_rfl) ⟨trivial, ⟨⟨6, rfl⟩, ⟨7, rfl⟩, trivial⟩, trivial⟩ ?_
                  refine VA.done (by kernel_rfl) ?_
                  exact VN.meet3 g3861 g3862 g3863 [0, 1, 2, 3, 4, 5] [] trivial ⟨rfl, ⟨rfl, rfl, rfl, rfl, rfl, rfl, rfl, rfl, rfl, rfl, rfl, trivial⟩, trivial, rfl, by decide, rfl, by decide⟩
                refine VAll.consG (listed' := LB 13 767) rfl (o_alloc Z35 ZL35 (ltn rfl)) rfl (by kernel_rfl) (fun _ => ⟨trivial, ⟨⟨5, rfl⟩, ⟨6, rfl⟩, trivial⟩, trivial⟩) ?_ VAll.nil
                intro g3863
                refine VA.oneG (i := 8) (listed' := LB 13 1023) (by kernel_rfl) rfl (o_alloc Z35 ZL35 (ltn rfl)) rfl (by kernel_rfl) (fun _ => ⟨trivial, ⟨⟨6, rfl⟩, ⟨7, rfl⟩, trivial⟩, trivial⟩) ?_
                intro g3862
                refine VA.one1 (i := 10) (listed' := LB 13 2047) (by kernel_rfl) rfl (o_store 2 23 rfl rfl rfl TI35 (.agg (.of rfl)) rfl (len rfl)) rfl (by kernel_rfl) ⟨trivial, ⟨⟨6, rfl⟩, ⟨7, rfl⟩, trivial⟩, trivial⟩ ?_
                refine VA.one1 (i := 11) (listed' := LB 13 4095) (by kernel_rfl) rfl (o_store 0 23 rfl rfl rfl TI35 (.agg (.of rfl)) rfl (len rfl)) rfl (by kernel_rfl) ⟨trivial, ⟨⟨6, rfl⟩, ⟨7, rfl⟩, trivial⟩, trivial⟩ ?_
                refine VA.one1 (i := 12) (listed' := LB 13 8191) (by kernel_rfl) rfl (o_store 1 23 rfl rfl rfl TI35 (.agg (.of rfl)) rfl (len rfl)) rfl (by kernel_rfl) ⟨trivial, ⟨⟨6, rfl⟩, ⟨7, rfl⟩, trivial⟩, trivial⟩ ?_
                refine VA.done (by kernel_rfl) ?_
                exact VN.meet3 g3861 g3862 g3863 [1, 0, 2, 3, 4, 5] [] trivial ⟨rfl, ⟨rfl, rfl, rfl, rfl, rfl, rfl, rfl, rfl, rfl, rfl, rfl, trivial⟩, trivial, rfl, by decide, rfl, by decide⟩
              refine VAll.consG (listed' := LB 13 447) rfl (o_alloc Z35 ZL35 (ltn rfl)) rfl (by kernel_rfl) (fun _ => ⟨trivial, ⟨⟨5, rfl⟩, ⟨6, rfl⟩, trivial⟩, trivial⟩) ?_ ?_
              · intro g3862
                refine VA.all [6, 9] (by kernel_rfl) (by simp) ?_
                refine VAll.consC (listed' := LB 13 511) rfl (o_call0 FO22 (tarryref13_End.ok k t9 t10 t11 t12 t13 t14 t15 t16 t17 t18 t19 t20 t21 t22 t23 t24 t25 t26 t27 t28 t29 t3837 t3838 t3839 t3840 t3841 t3842 t3843 t3844 t3845 t3846 t3847 t3848 t3849 t3850 t3851 t3852 t3853 t3854 t3855 t3856 t3857 t3858 t3859 hA3860) rfl rfl (ltn rfl) (All_of .nil)) rfl (by kernel_rfl) ?_ ?_
                · rintro _ _ _ ⟨rfl, rfl, rfl⟩
                  refine ⟨⟨trivial, ⟨⟨5, rfl⟩, ⟨6, rfl⟩, trivial⟩, trivial⟩, ?_⟩
                  refine VA.oneG (i := 9) (listed' := LB 13 1023) (by kernel_rfl) rfl (o_alloc Z35 ZL35 (ltn rfl)) rfl (by kernel_rfl) (fun _ => ⟨trivial, ⟨⟨6, rfl⟩, ⟨7, rfl⟩, trivial⟩, trivial⟩) ?_
                  intro g3863
                  refine VA.one1 (i := 10) (listed' := LB 13 2047) (by kernel_rfl) rfl (o_store 2 23 rfl rfl rfl TI35 (.agg (.of rfl)) rfl (len rfl)) rfl (by kernel_rfl) ⟨trivial, ⟨⟨6, rfl⟩, ⟨7, rfl⟩, trivial⟩, trivial⟩ ?_
                  refine VA.one1 (i := 11) (listed' := LB 13 4095) (by kernel_rfl) rfl (o_store 1 23 rfl rfl rfl TI35 (.agg (.of rfl)) rfl (len rfl)) rfl (by kernel_rfl) ⟨trivial, ⟨⟨6, rfl⟩, ⟨7, rfl⟩, trivial⟩, trivial⟩ ?_
                  refine VA.one1 (i := 12) (listed' := LB 13 8191) (by kernel_rfl) rfl (o_store 0 23 rfl rfl rfl TI35 (.agg (.of rfl)) rfl (len rfl)) rfl (by kernel_rfl) ⟨trivial, ⟨⟨6, rfl⟩, ⟨7, rfl⟩, trivial⟩, trivial⟩ ?_
                  refine VA.done (by kernel_rfl) ?_
                  exact VN.meet3 g3861 g3862 g3863 [0, 1, 2, 3, 4, 5] [] trivial ⟨rfl, ⟨rfl, rfl, rfl, rfl, rfl, rfl, rfl, rfl, rfl, rfl, rfl, trivial⟩, trivial, rfl, by decide, rfl, by decide⟩
                refine VAll.consG (listed' := LB 13 959) rfl (o_alloc Z35 ZL35 (ltn rfl)) rfl (by kernel_rfl) (fun _ => ⟨trivial, ⟨⟨6, rfl⟩, ⟨7, rfl⟩, trivial⟩, trivial⟩) ?_ VAll.nil
                intro g3863
                refine VA.oneC (i := 6) (listed' := LB 13 1023) (by kernel_rfl) rfl (o_call0 FO22 (tarryref13_End.ok k t9 t10 t11 t12 t13 t14 t15 t16 t17 t18 t19 t20 t21 t22 t23 t24 t25 t26 t27 t28 t29 t3837 t3838 t3839 t3840 t3841 t3842 t3843 t3844 t3845 t3846 t3847 t3848 t3849 t3850 t3851 t3852 t3853 t3854 t3855 t3856 t3857 t3858 t3859 hA3860) rfl rfl (ltn rfl) (All_of .nil)) rfl (by kernel_rfl) ?_
                rintro _ _ _ ⟨rfl, rfl, rfl⟩
                refine ⟨⟨trivial, ⟨⟨6, rfl⟩, ⟨7, rfl⟩, trivial⟩, trivial⟩, ?_⟩
                refine VA.one1 (i := 10) (listed' := LB 13 2047) (by kernel_rfl) rfl (o_store 2 23 rfl rfl rfl TI35 (.agg (.of rfl)) rfl (len rfl)) rfl (by kernel_rfl) ⟨trivial, ⟨⟨6, rfl⟩, ⟨7, rfl⟩, trivial⟩, trivial⟩ ?_
                refine VA.one1 (i := 11) (listed' := LB 13 4095) (by kernel_rfl) rfl (o_store 1 23 rfl rfl rfl TI35 (.agg (.of rfl)) rfl (len rfl)) rfl (by kernel_rfl) ⟨trivial, ⟨⟨6, rfl⟩, ⟨7, rfl⟩, trivial⟩, trivial⟩ ?_
                refine VA.one1 (i := 12) (listed' := LB 13 8191) (by kernel_rfl) rfl (o_store 0 23 rfl rfl rfl TI35 (.agg (.of rfl)) rfl (len rfl)) rfl (by kernel_rfl) ⟨trivial, ⟨⟨6, rfl⟩, ⟨7, rfl⟩, trivial⟩, trivial⟩ ?_
                refine VA.done (by kernel_rfl) ?_
                exact VN.meet3 g3861 g3862 g3863 [0, 1, 2, 3, 4, 5] [] trivial ⟨rfl, ⟨rfl, rfl, rfl, rfl, rfl, rfl, rfl, rfl, rfl, rfl, rfl, trivial⟩, trivial, rfl, by decide, rfl, by decide⟩
              refine VAll.consG (listed' := LB 13 703) rfl (o_alloc Z35 ZL35 (ltn rfl)) rfl (by kernel_rfl) (fun _ => ⟨trivial, ⟨⟨5, rfl⟩, ⟨6, rfl⟩, trivial⟩, trivial⟩) ?_ VAll.nil
              intro g3863
              refine VA.all [6, 8] (by kernel_rfl) (by simp) ?_
              refine VAll.consC (listed' := LB 13 767) rfl (o_call0 FO22 (tarryref13_End.ok k t9 t10 t11 t12 t13 t14 t15 t16 t17 t18 t19 t20 t21 t22 t23 t24 t25 t26 t27 t28 t29 t3837 t3838 t3839 t3840 t3841 t3842 t3843 t3844 t3845 t3846 t3847 t3848 t3849 t3850 t3851 t3852 t3853 t3854 t3855 t3856 t3857 t3858 t3859 hA3860) rfl rfl (ltn rfl) (All_of .nil)) rfl (by kernel_rfl) ?_ ?_
              · rintro _ _ _ ⟨rfl, rfl, rfl⟩
                refine ⟨⟨trivial, ⟨⟨5, rfl⟩, ⟨6, rfl⟩, trivial⟩, trivial⟩, ?_⟩
                refine VA.oneG (i := 8) (listed' := LB 13 1023) (by kernel_rfl) rfl (o_alloc Z35 ZL35 (ltn rfl)) rfl (by kernel_rfl) (fun _ => ⟨trivial, ⟨⟨6, rfl⟩, ⟨7, rfl⟩, trivial⟩, trivial⟩) ?_
                intro g3862
                refine VA.one1 (i := 10) (listed' := LB 13 2047) (by kernel_rfl) rfl (o_store 2 23 rfl rfl rfl TI35 (.agg (.of rfl)) rfl (len rfl)) rfl (by kernel_rfl) ⟨trivial, ⟨⟨6, rfl⟩, ⟨7, rfl⟩, trivial⟩, trivial⟩ ?_
                refine VA.one1 (i := 11) (listed' := LB 13 4095) (by kernel_rfl) rfl (o_store 0 23 rfl rfl rfl TI35 (.agg (.of rfl)) rfl (len rfl)) rfl (by kernel_rfl) ⟨trivial, ⟨⟨6, rfl⟩, ⟨7, rfl⟩, trivial⟩, trivial⟩ ?_
                refine VA.one1 (i := 12) (listed' := LB 13 8191) (by kernel_rfl) rfl (o_store 1 23 rfl rfl rfl TI35 (.agg (.of rfl)) rfl (len rfl)) rfl (by kernel_rfl) ⟨trivial, ⟨⟨6, rfl⟩, ⟨7, rfl⟩, trivial⟩, trivial⟩ ?_
                refine VA.done (by kernel_rfl) ?_
                exact VN.meet3 g3861 g3862 g3863 [1, 0, 2, 3, 4, 5] [] trivial ⟨rfl, ⟨rfl, rfl, rfl, rfl, rfl, rfl, rfl, rfl, rfl, rfl, rfl, trivial⟩, trivial, rfl, by decide, rfl, by decide⟩
              refine VAll.consG (listed' := LB 13 959) rfl (o_alloc Z35 ZL35 (ltn rfl)) rfl (by kernel_rfl) (fun _ => ⟨trivial, ⟨⟨6, rfl⟩, ⟨7, rfl⟩, trivial⟩, trivial⟩) ?_ VAll.nil
              intro g3862
              refine VA.oneC (i := 6) (listed' := LB 13 1023) (by kernel_rfl) rfl (o_call0 FO22 (tarryref13_End.ok k t9 t10 t11 t12 t13 t14 t15 t16 t17 t18 t19 t20 t21 t22 t23 t24 t25 t26 t27 t28 t29 t3837 t3838 t3839 t3840 t3841 t3842 t3843 t3844 t3845 t3846 t3847 t3848 t3849 t3850 t3851 t3852 t3853 t3854 t3855 t3856 t3857 t3858 t3859 hA3860) rfl rfl (ltn rfl) (All_of .nil)) rfl (by kernel_rfl) ?_
              rintro _ _ _ ⟨rfl, rfl, rfl⟩
              refine ⟨⟨trivial, ⟨⟨6, rfl⟩, ⟨7, rfl⟩, trivial⟩, trivial⟩, ?_⟩
              refine VA.one1 (i := 10) (listed' := LB 13 2047) (by kernel_rfl) rfl (o_store 2 23 rfl rfl rfl TI35 (.agg (.of rfl)) rfl (len rfl)) rfl (by kernel_rfl) ⟨trivial, ⟨⟨6, rfl⟩, ⟨7, rfl⟩, trivial⟩, trivial⟩ ?_
              refine VA.one1 (i := 11) (listed' := LB 13 4095) (by kernel_rfl) rfl (o_store 0 23 rfl rfl rfl TI35 (.agg (.of rfl)) rfl (len rfl)) rfl (by kernel_rfl) ⟨trivial, ⟨⟨6, rfl⟩, ⟨7, rfl⟩, trivial⟩, trivial⟩ ?_
              refine VA.one1 (i := 12) (listed' := LB 13 8191) (by kernel_rfl) rfl (o_store 1 23 rfl rfl rfl TI35 (.agg (.of rfl)) rfl (len rfl)) rfl (by kernel_rfl) ⟨trivial, ⟨⟨6, rfl⟩, ⟨7, rfl⟩, trivial⟩, trivial⟩ ?_
              refine VA.done (by kernel_rfl) ?_
              exact VN.meet3 g3861 g3862 g3863 [1, 0, 2, 3, 4, 5] [] trivial ⟨rfl, ⟨rfl, rfl, rfl, rfl, rfl, rfl, rfl, rfl, rfl, rfl, rfl, trivial⟩, trivial, rfl, by decide, rfl, by decide⟩
            refine VAll.consG (listed' := LB 13 431) rfl (o_alloc Z35 ZL35 (ltn rfl)) rfl (by kernel_rfl) (fun _ => ⟨trivial, ⟨⟨5, rfl⟩, ⟨6, rfl⟩, trivial⟩, trivial⟩) ?_ ?_
            · intro g3862
              refine VA.all [4, 9] (by kernel_rfl) (by simp) ?_
              refine VAll.consC (listed' := LB 13 447) rfl (o_call0 FO21 (tarryref13_Came.ok k t9 t10 t11 t12 t13 t14 t15 t16 t17 t18 t19 t20 t21 t22 t23 t24 t25 t26 t27 t28 t29 t3781 t3782 t3783 t3784 t3785 t3786 t3787 t3788 t3789 t3790 t3791 t3792 t3793 t3794 t3795 t3796 t3797 t3798 t3799 t3800 t3801 t3802 t3803 hA3804) rfl rfl (ltn rfl) (All_of .nil)) rfl (by kernel_rfl) ?_ ?_
              · rintro _ _ _ ⟨rfl, rfl, rfl⟩
                refine ⟨⟨trivial, ⟨⟨5, rfl⟩, ⟨6, rfl⟩, trivial⟩, trivial⟩, ?_⟩
                refine VA.all [6, 9] (by kernel_rfl) (by simp) ?_
                refine VAll.consC (listed' := LB 13 511) rfl (o_call0 FO22 (tarryref13_End.ok k t9 t10 t11 t12 t13 t14 t15 t16 t17 t18 t19 t20 t21 t22 t23 t24 t25 t26 t27 t28 t29 t3837 t3838 t3839 t3840 t3841 t3842 t3843 t3844 t3845 t3846 t3847 t3848 t3849 t3850 t3851 t3852 t3853 t3854 t3855 t3856 t3857 t3858 t3859 hA3860) rfl rfl (ltn rfl) (All_of .nil)) rfl (by kernel_rfl) ?_ ?_
                · rintro _ _ _ ⟨rfl, rfl, rfl⟩
                  refine ⟨⟨trivial, ⟨⟨5, rfl⟩, ⟨6, rfl⟩, trivial⟩, trivial⟩, ?_⟩
                  refine VA.oneG (i := 9) (listed' := LB 13 1023) (by kernel_rfl) rfl (o_alloc Z35 ZL35 (ltn rfl)) rfl (by kernel_rfl) (fun _ => ⟨trivial, ⟨⟨6, rfl⟩, ⟨7, rfl⟩, trivial⟩, trivial⟩) ?_
                  intro g3863
                  refine VA.one1 (i := 10) (listed' := LB 13 2047) (by kernel_rfl) rfl (o_store 2 23 rfl rfl rfl TI35 (.agg (.of rfl)) rfl (len rfl)) rfl (by kernel_rfl) ⟨trivial, ⟨⟨6, rfl⟩, ⟨7, rfl⟩, trivial⟩, trivial⟩ ?_
                  refine VA.one1 (i := 11) (listed' := LB 13 4095) (by kernel_rfl) rfl (o_store 1 23 rfl rfl rfl TI35 (.agg (.of rfl)) rfl (len rfl)) rfl (by kernel_rfl) ⟨trivial, ⟨⟨6, rfl⟩, ⟨7, rfl⟩, trivial⟩, trivial⟩ ?_
                  refine VA.one1 (i := 12) (listed' := LB 13 8191) (by kernel_rfl) rfl (o_store 0 23 rfl rfl rfl TI35 (.agg (.of rfl)) rfl (len rfl)) rfl (by kernel_rfl) ⟨trivial, ⟨⟨6, rfl⟩, ⟨7, rfl⟩, trivial⟩, trivial⟩ ?_
                  refine VA.done (by kernel_rfl) ?_
                  exact VN.meet3 g3861 g3862 g3863 [0, 1, 2, 3, 4, 5] [] trivial ⟨rfl, ⟨rfl, rfl, rfl, rfl, rfl, rfl, rfl, rfl, rfl, rfl, rfl, trivial⟩, trivial, rfl, by decide, rfl, by decide⟩
                refine VAll.consG (listed' := LB 13 959) rfl (o_alloc Z35 ZL35 (ltn rfl)) rfl (by kernel_rfl) (fun _ => ⟨trivial, ⟨⟨6, rfl⟩, ⟨7, rfl⟩, trivial⟩, trivial⟩) ?_ VAll.nil
                intro g3863
                refine VA.oneC (i := 6) (listed' := LB 13 1023) (by kernel_rfl) rfl (o_call0 FO22 (tarryref13_End.ok k t9 t10 t11 t12 t13 t14 t15 t16 t17 t18 t19 t20 t21 t22 t23 t24 t25 t26 t27 t28 t29 t3837 t3838 t3839 t3840 t3841 t3842 t3843 t3844 t3845 t3846 t3847 t3848 t3849 t3850 t3851 t3852 t3853 t3854 t3855 t3856 t3857 t3858 t3859 hA3860) rfl rfl (ltn rfl) (All_of .nil)) rfl (by kernel_rfl) ?_
                rintro _ _ _ ⟨rfl, rfl, rfl⟩
                refine ⟨⟨trivial, ⟨⟨6, rfl⟩, ⟨7, rfl⟩, trivial⟩, trivial⟩, ?_⟩
                refine VA.one1 (i := 10) (listed' := LB 13 2047) (by kernel_rfl) rfl (o_store 2 23 rfl rfl rfl TI35 (.agg (.of rfl)) rfl (len rfl)) rfl (by kernel_rfl) ⟨trivial, ⟨⟨6, rfl⟩, ⟨7, rfl⟩, trivial⟩, trivial⟩ ?_
                refine VA.one1 (i := 11) (listed' := LB 13 4095) (by kernel_rfl) rfl (o_store 1 23 rfl rfl rfl TI35 (.agg (.of rfl)) rfl (len rfl)) rfl (by kernel_rfl) ⟨trivial, ⟨⟨6, rfl⟩, ⟨7, rfl⟩, trivial⟩, trivial⟩ ?_
                refine VA.one1 (i := 12) (listed' := LB 13 8191) (by kernel_rfl) rfl (o_store 0 23 rfl rfl rfl TI35 (.agg (.of rfl)) rfl (len rfl)) rfl (by kernel_rfl) ⟨trivial, ⟨⟨6, rfl⟩, ⟨7, rfl⟩, trivial⟩, trivial⟩ ?_
                refine VA.done (by kernel_rfl) ?_
                exact VN.meet3 g3861 g3862 g3863 [0, 1, 2, 3, 4, 5] [] trivial ⟨rfl, ⟨rfl, rfl, rfl, rfl, rfl, rfl, rfl, rfl, rfl, rfl, rfl, trivial⟩, trivial, rfl, by decide, rfl, by decide⟩
              refine VAll.consG (listed' := LB 13 943) rfl (o_alloc Z35 ZL35 (ltn rfl)) rfl (by kernel_rfl) (fun _ => ⟨trivial, ⟨⟨6, rfl⟩, ⟨7, rfl⟩, trivial⟩, trivial⟩) ?_ VAll.nil
              intro g3863
              refine VA.oneC (i := 4) (listed' := LB 13 959) (by kernel_rfl) rfl (o_call0 FO21 (tarryref13_Came.ok k t9 t10 t11 t12 t13 t14 t15 t16 t17 t18 t19 t20 t21 t22 t23 t24 t25 t26 t27 t28 t29 t3781 t3782 t3783 t3784 t3785 t3786 t3787 t3788 t3789 t3790 t3791 t3792 t3793 t3794 t3795 t3796 t3797 t3798 t3799 t3800 t3801 t3802 t3803 hA3804) rfl rfl (ltn rfl) (All_of .nil)) rfl (by kernel_rfl) ?_
              rintro _ _ _ ⟨rfl, rfl, rfl⟩
              refine ⟨⟨trivial, ⟨⟨6, rfl⟩, ⟨7, rfl⟩, trivial⟩, trivial⟩, ?_⟩
              refine VA.oneC (i := 6) (listed' := LB 13 1023) (by kernel_rfl) rfl (o_call0 FO22 (tarryref13_End.ok k t9 t10 t11 t12 t13 t14 t15 t16 t17 t18 t19 t20 t21 t22 t23 t24 t25 t26 t27 t28 t29 t3837 t3838 t3839 t3840 t3841 t3842 t3843 t3844 t3845 t3846 t3847 t3848 t3849 t3850 t3851 t3852 t3853 t3854 t3855 t3856 t3857 t3858 t3859 hA3860) rfl rfl (ltn rfl) (All_of .nil)) rfl (by kernel_rfl) ?_
              rintro _ _ _ ⟨rfl, rfl, rfl⟩
              refine ⟨⟨trivial, ⟨⟨6, rfl⟩, ⟨7, rfl⟩, trivial⟩, trivial⟩, ?_⟩
              refine VA.one1 (i := 10) (listed' := LB 13 2047) (by kernel_rfl) rfl (o_store 2 23 rfl rfl rfl TI35 (.agg (.of rfl)) rfl (len rfl)) rfl (by kernel_rfl) ⟨trivial, ⟨⟨6, rfl⟩, ⟨7, rfl⟩, trivial⟩, trivial⟩ ?_
              refine VA.one1 (i := 11) (listed' := LB 13 4095) (by kernel_rfl) rfl (o_store 1 23 rfl rfl rfl TI35 (.agg (.of rfl)) rfl (len rfl)) rfl (by kernel_rfl) ⟨trivial, ⟨⟨6, rfl⟩, ⟨7, rfl⟩, trivial⟩, trivial⟩ ?_
              refine VA.one1 (i := 12) (listed' := LB 13 8191) (by kernel_rfl) rfl (o_store 0 23 rfl rfl rfl TI35 (.agg (.of rfl)) rfl (len rfl)) rfl (by kernel_rfl) ⟨trivial, ⟨⟨6, rfl⟩, ⟨7, rfl⟩, trivial⟩, trivial⟩ ?_
              refine VA.done (by kernel_rfl) ?_
              exact VN.meet3 g3861 g3862 g3863 [0, 1, 2, 3, 4, 5] [] trivial ⟨rfl, ⟨rfl, rfl, rfl, rfl, rfl, rfl, rfl, rfl, rfl, rfl, rfl, trivial⟩, trivial, rfl, by decide, rfl, by decide⟩
            refine VAll.consG (listed' := LB 13 687) rfl (o_alloc Z35 ZL35 (ltn rfl)) rfl (by kernel_rfl) (fun _ => ⟨trivial, ⟨⟨5, rfl⟩, ⟨6, rfl⟩, trivial⟩, trivial⟩) ?_ VAll.nil
            intro g3863
            refine VA.all [4, 8] (by kernel_rfl) (by simp) ?_
            refine VAll.consC (listed' := LB 13 703) rfl (o_call0 FO21 (tarryref13_Came.ok k t9 t10 t11 t12 t13 t14 t15 t16 t17 t18 t19 t20 t21 t22 t23 t24 t25 t26 t27 t28 t29 t3781 t3782 t3783 t3784 t3785 t3786 t3787 t3788 t3789 t3790 t3791 t3792 t3793 t3794 t3795 t3796 t3797 t3798 t3799 t3800 t3801 t3802 t3803 hA3804) rfl rfl (ltn rfl) (All_of .nil)) rfl (by kernel_rfl) ?_ ?_
            · rintro _ _ _ ⟨rfl, rfl, rfl⟩
              refine ⟨⟨trivial, ⟨⟨5, rfl⟩, ⟨6, rfl⟩, trivial⟩, trivial⟩, ?_⟩
              refine VA.all [6, 8] (by kernel_rfl) (by simp) ?_
              refine VAll.consC (listed' := LB 13 767) rfl (o_call0 FO22 (tarryref13_End.ok k t9 t10 t11 t12 t13 t14 t15 t16 t17 t18 t19 t20 t21 t22 t23 t24 t25 t26 t27 t28 t29 t3837 t3838 t3839 t3840 t3841 t3842 t3843 t3844 t3845 t3846 t3847 t3848 t3849 t3850 t3851 t3852 t3853 t3854 t3855 t3856 t3857 t3858 t3859 hA3860) rfl rfl (ltn rfl) (All_of .nil)) rfl (by kernel_rfl) ?_ ?_
              · rintro _ _ _ ⟨rfl, rfl, rfl⟩
                refine ⟨⟨trivial, ⟨⟨5, rfl⟩, ⟨6, rfl⟩, trivial⟩, trivial⟩, ?_⟩
                refine VA.oneG (i := 8) (listed' := LB 13 1023) (by kernel_rfl) rfl (o_alloc Z35 ZL35 (ltn rfl)) rfl (by kernel_rfl) (fun _ => ⟨trivial, ⟨⟨6, rfl⟩, ⟨7, rfl⟩, trivial⟩, trivial⟩) ?_
                intro g3862
                refine VA.one1 (i := 10) (listed' := LB 13 2047) (by kernel_rfl) rfl (o_store 2 23 rfl rfl rfl TI35 (.agg (.of rfl)) rfl (len rfl)) rfl (by kernel_rfl) ⟨trivial, ⟨⟨6, rfl⟩, ⟨7, rfl⟩, trivial⟩, trivial⟩ ?_
                refine VA.one1 (i := 11) (listed' := LB 13 4095) (by kernel_rfl) rfl (o_store 0 23 rfl rfl rfl TI35 (.agg (.of rfl)) rfl (len rfl)) rfl (by kernel_rfl) ⟨trivial, ⟨⟨6, rfl⟩, ⟨7, rfl⟩, trivial⟩, trivial⟩ ?_
                refine VA.one1 (i := 12) (listed' := LB 13 8191) (by kernel_rfl) rfl (o_store 1 23 rfl rfl rfl TI35 (.agg (.of rfl)) rfl (len rfl)) rfl (by kernel_rfl) ⟨trivial, ⟨⟨6, rfl⟩, ⟨7, rfl⟩, trivial⟩, trivial⟩ ?_
                refine VA.done (by kernel_rfl) ?_
                exact VN.meet3 g3861 g3862 g3863 [1, 0, 2, 3, 4, 5] [] trivial ⟨rfl, ⟨rfl, rfl, rfl, rfl, rfl, rfl, rfl, rfl, rfl, rfl, rfl, trivial⟩, trivial, rfl, by decide, rfl, by decide⟩
              refine VAll.consG (listed' := LB 13 959) rfl (o_alloc Z35 ZL35 (ltn rfl)) rfl (by kernel_rfl) (fun _ => ⟨trivial, ⟨⟨6, rfl⟩, ⟨7, rfl⟩, trivial⟩, trivial⟩) ?_ VAll.nil
              intro g3862
              refine VA.oneC (i := 6) (listed' := LB 13 1023) (by kernel_rfl) rfl (o_call0 FO22 (tarryref13_End.ok k t9 t10 t11 t12 t13 t14 t15 t16 t17 t18 t19 t20 t21 t22 t23 t24 t25 t26 t27 t28 t29 t3837 t3838 t3839 t3840 t3841 t3842 t3843 t3844 t3845 t3846 t3847 t3848 t3849 t3850 t3851 t3852 t3853 t3854 t3855 t3856 t3857 t3858 t3859 hA3860) rfl rfl (ltn rfl) (All_of .nil)) rfl (by kernel_rfl) ?_
              rintro _ _ _ ⟨rfl, rfl, rfl⟩
              refine ⟨⟨trivial, ⟨⟨6, rfl⟩, ⟨7, rfl⟩, trivial⟩, trivial⟩, ?_⟩
              refine VA.one1 (i := 10) (listed' := LB 13 2047) (by kernel_rfl) rfl (o_store 2 23 rfl rfl rfl TI35 (.agg (.of rfl)) rfl (len rfl)) rfl (by kernel_rfl) ⟨trivial, ⟨⟨6, rfl⟩, ⟨7, rfl⟩, trivial⟩, trivial⟩ ?_
              refine VA.one1 (i := 11) (listed' := LB 13 4095) (by kernel_rfl) rfl (o_store 0 23 rfl rfl rfl TI35 (.agg (.of rfl)) rfl (len rfl)) rfl (by kernel_rfl) ⟨trivial, ⟨⟨6, rfl⟩, ⟨7, rfl⟩, trivial⟩, trivial⟩ ?_
              refine VA.one1 (i := 12) (listed' := LB 13 8191) (by kernel_rfl) rfl (o_store 1 23 rfl rfl rfl TI35 (.agg (.of rfl)) rfl (len rfl)) rfl (by kernel_rfl) ⟨trivial, ⟨⟨6, rfl⟩, ⟨7, rfl⟩, trivial⟩, trivial⟩ ?_
              refine VA.done (by kernel_rfl) ?_
              exact VN.meet3 g3861 g3862 g3863 [1, 0, 2, 3, 4, 5] [] trivial ⟨rfl, ⟨rfl, rfl, rfl, rfl, rfl, rfl, rfl, rfl, rfl, rfl, rfl, trivial⟩, trivial, rfl, by decide, rfl, by decide⟩
            refine VAll.consG (listed' := LB 13 943) rfl (o_alloc Z35 ZL35 (ltn rfl)) rfl (by kernel_rfl) (fun _ => ⟨trivial, ⟨⟨6, rfl⟩, ⟨7, rfl⟩, trivial⟩, trivial⟩) ?_ VAll.nil
            intro g3862
            refine VA.oneC (i := 4) (listed' := LB 13 959) (by kernel_rfl) rfl (o_call0 FO21 (tarryref13_Came.ok k t9 t10 t11 t12 t13 t14 t15 t16 t17 t18 t19 t20 t21 t22 t23 t24 t25 t26 t27 t28 t29 t3781 t3782 t3783 t3784 t3785 t3786 t3787 t3788 t3789 t3790 t3791 t3792 t3793 t3794 t3795 t3796 t3797 t3798 t3799 t3800 t3801 t3802 t3803 hA3804) rfl rfl (ltn rfl) (All_of .nil)) rfl (by kernel_rfl) ?_
            rintro _ _ _ ⟨rfl, rfl, rfl⟩
            refine ⟨⟨trivial, ⟨⟨6, rfl⟩, ⟨7, rfl⟩, trivial⟩, trivial⟩, ?_⟩
            refine VA.oneC (i := 6) (listed' := LB 13 1023) (by kernel_rfl) rfl (o_call0 FO22 (tarryref13_End.ok k t9 t10 t11 t12 t13 t14 t15 t16 t17 t18 t19 t20 t21 t22 t23 t24 t25 t26 t27 t28 t29 t3837 t3838 t3839 t3840 t3841 t3842 t3843 t3844 t3845 t3846 t3847 t3848 t3849 t3850 t3851 t3852 t3853 t3854 t3855 t3856 t3857 t3858 t3859 hA3860) rfl rfl (ltn rfl) (All_of .nil)) rfl (by kernel_rfl) ?_
            rintro _ _ _ ⟨rfl, rfl, rfl⟩
            refine ⟨⟨trivial, ⟨⟨6, rfl⟩, ⟨7, rfl⟩, trivial⟩, trivial⟩, ?_⟩
            refine VA.one1 (i := 10) (listed' := LB 13 2047) (by kernel_rfl) rfl (o_store 2 23 rfl rfl rfl TI35 (.agg (.of rfl)) rfl (len rfl)) rfl (by kernel_rfl) ⟨trivial, ⟨⟨6, rfl⟩, ⟨7, rfl⟩, trivial⟩, trivial⟩ ?_
            refine VA.one1 (i := 11) (listed' := LB 13 4095) (by kernel_rfl) rfl (o_store 0 23 rfl rfl rfl TI35 (.agg (.of rfl)) rfl (len rfl)) rfl (by kernel_rfl) ⟨trivial, ⟨⟨6, rfl⟩, ⟨7, rfl⟩, trivial⟩, trivial⟩ ?_
            refine VA.one1 (i := 12) (listed' := LB 13 8191) (by kernel_rfl) rfl (o_store 1 23 rfl rfl rfl TI35 (.agg (.of rfl)) rfl (len rfl)) rfl (by kernel_rfl) ⟨trivial, ⟨⟨6, rfl⟩, ⟨7, rfl⟩, trivial⟩, trivial⟩ ?_
            refine VA.done (by kernel_rfl) ?_
            exact VN.meet3 g3861 g3862 g3863 [1, 0, 2, 3, 4, 5] [] trivial ⟨rfl, ⟨rfl, rfl, rfl, rfl, rfl, rfl, rfl, rfl, rfl, rfl, rfl, trivial⟩, trivial, rfl, by decide, rfl, by decide⟩
          refine VAll.consG (listed' := LB 13 427) rfl (o_alloc Z35 ZL35 (ltn rfl)) rfl (by kernel_rfl) (fun _ => ⟨trivial, ⟨⟨5, rfl⟩, ⟨6, rfl⟩, trivial⟩, trivial⟩) ?_ ?_
          · intro g3862
            refine VA.all [2, 9] (by kernel_rfl) (by simp) ?_
            refine VAll.consC (listed' := LB 13 431) rfl (o_call0 FO20 (tarryref13_Send.ok k t9 t10 t11 t12 t13 t14 t15 t16 t17 t18 t19 t20 t21 t22 t23 t24 t25 t26 t27 t28 t29 (a1_0.extract 0 ((mn (a1_0.size : Int) 18).toNat)) a1_1 a1_2 a1_3 t3733 t3734 t3735 t3736 t3737 t3738 t3739 t3740 t3741 t3742 t3743 t3744 t3745 t3746 t3747 t3748 t3749 t3750 t3751 t3752 t3753 t3754 t3755 hA3756) rfl rfl (ltn rfl) (All_of .nil)) rfl (by kernel_rfl) ?_ ?_
            · rintro _ _ _ ⟨rfl, rfl, rfl⟩
              refine ⟨⟨trivial, ⟨⟨5, rfl⟩, ⟨6, rfl⟩, trivial⟩, trivial⟩, ?_⟩
              refine VA.all [4, 9] (by kernel_rfl) (by simp) ?_
              refine VAll.consC (listed' := LB 13 447) rfl (o_call0 FO21 (tarryref13_Came.ok k t9 t10 t11 t12 t13 t14 t15 t16 t17 t18 t19 t20 t21 t22 t23 t24 t25 t26 t27 t28 t29 t3781 t3782 t3783 t3784 t3785 t3786 t3787 t3788 t3789 t3790 t3791 t3792 t3793 t3794 t3795 t3796 t3797 t3798 t3799 t3800 t3801 t3802 t3803 hA3804) rfl rfl (ltn rfl) (All_of .nil)) rfl (by kernel_rfl) ?_ ?_
              · rintro _ _ _ ⟨rfl, rfl, rfl⟩
                refine ⟨⟨trivial, ⟨⟨5, rfl⟩, ⟨6, rfl⟩, trivial⟩, trivial⟩, ?_⟩
                refine VA.all [6, 9] (by kernel_rfl) (by simp) ?_
                refine VAll.consC (listed' := LB 13 511) rfl (o_call0 FO22 (tarryref13_End.ok k t9 t10 t11 t12 t13 t14 t15 t16 t17 t18 t19 t20 t21 t22 t23 t24 t25 t26 t27 t28 t29 t3837 t3838 t3839 t3840 t3841 t3842 t3843 t3844 t3845 t3846 t3847 t3848 t3849 t3850 t3851 t3852 t3853 t3854 t3855 t3856 t3857 t3858 t3859 hA3860) rfl rfl (ltn rfl) (All_of .nil)) rfl (by kernel_rfl) ?_ ?_
                · rintro _ _ _ ⟨rfl, rfl, rfl⟩
                  refine ⟨⟨trivial, ⟨⟨5, rfl⟩, ⟨6, rfl⟩, trivial⟩, trivial⟩, ?_⟩
                  refine VA.oneG (i := 9) (listed' := LB 13 1023) (by kernel_rfl) rfl (o_alloc Z35 ZL35 (ltn rfl)) rfl (by kernel_rfl) (fun _ => ⟨trivial, ⟨⟨6, rfl⟩, ⟨7, rfl⟩, trivial⟩, trivial⟩) ?_
                  intro g3863
                  refine VA.one1 (i := 10) (listed' := LB 13 2047) (by kernel_rfl) rfl (o_store 2 23 rfl rfl rfl TI35 (.agg (.of rfl)) rfl (len rfl)) rfl (by kernel_rfl) ⟨trivial, ⟨⟨6, rfl⟩, ⟨7, rfl⟩, trivial⟩, trivial⟩ ?_
                  refine VA.one1 (i := 11) (listed' := LB 13 4095) (by kernel_rfl) rfl (o_store 1 23 rfl rfl rfl TI35 (.agg (.of rfl)) rfl (len rfl)) rfl (by kernel_rfl) ⟨trivial, ⟨⟨6, rfl⟩, ⟨7, rfl⟩, trivial⟩, trivial⟩ ?_
                  refine VA.one1 (i := 12) (listed' := LB 13 8191) (by kernel_rfl) rfl (o_store 0 23 rfl rfl rfl TI35 (.agg (.of rfl)) rfl (len rfl)) rfl (by kernel_rfl) ⟨trivial, ⟨⟨6, rfl⟩, ⟨7, rfl⟩, trivial⟩, trivial⟩ ?_
                  refine VA.done (by kernel_rfl) ?_
                  exact VN.meet3 g3861 g3862 g3863 [0, 1, 2, 3, 4, 5] [] trivial ⟨rfl, ⟨rfl, rfl, rfl, rfl, rfl, rfl, rfl, rfl, rfl, rfl, rfl, trivial⟩, trivial, rfl, by decide, rfl, by decide⟩
                refine VAll.consG (listed' := LB 13 959) rfl (o_alloc Z35 ZL35 (ltn rfl)) rfl (by kernel_rfl) (fun _ => ⟨trivial, ⟨⟨6, rfl⟩, ⟨7, rfl⟩, trivial⟩, trivial⟩) ?_ VAll.nil
                intro g3863
                refine VA.oneC (i := 6) (listed' := LB 13 1023) (by kernel_rfl) rfl (o_call0 FO22 (tarryref13_End.ok k t9 t10 t11 t12 t13 t14 t15 t16 t17 t18 t19 t20 t21 t22 t23 t24 t25 t26 t27 t28 t29 t3837 t3838 t3839 t3840 t3841 t3842 t3843 t3844 t3845 t3846 t3847 t3848 t3849 t3850 t3851 t3852 t3853 t3854 t3855 t3856 t3857 t3858 t3859 hA3860) rfl rfl (ltn rfl) (All_of .nil)) rfl (by kernel_rfl) ?_
                rintro _ _ _ ⟨rfl, rfl, rfl⟩
                refine ⟨⟨trivial, ⟨⟨6, rfl⟩, ⟨7, rfl⟩, trivial⟩, trivial⟩, ?_⟩
                refine VA.one1 (i := 10) (listed' := LB 13 2047) (by kernel_rfl) rfl (o_store 2 23 rfl rfl rfl TI35 (.agg (.of rfl)) rfl (len rfl)) rfl (by kernel_rfl) ⟨trivial, ⟨⟨6, rfl⟩, ⟨7, rfl⟩, trivial⟩, trivial⟩ ?_
                refine VA.one1 (i := 11) (listed' := LB 13 4095) (by kernel_rfl) rfl (o_store 1 23 rfl rfl rfl TI35 (.agg (.of rfl)) rfl (len rfl)) rfl (by kernel_rfl) ⟨trivial, ⟨⟨6, rfl⟩, ⟨7, rfl⟩, trivial⟩, trivial⟩ ?_
                refine VA.one1 (i := 12) (listed' := LB 13 8191) (by kernel_rfl) rfl (o_store 0 23 rfl rfl rfl TI35 (.agg (.of rfl)) rfl (len rfl)) rfl (by kernel_rfl) ⟨trivial, ⟨⟨6, rfl⟩, ⟨7, rfl⟩, trivial⟩, trivial⟩ ?_
                refine VA.done (by kernel_rfl) ?_
                exact VN.meet3 g3861 g3862 g3863 [0, 1, 2, 3, 4, 5] [] trivial ⟨rfl, ⟨rfl, rfl, rfl, rfl, rfl, rfl, rfl, rfl, rfl, rfl, rfl, trivial⟩, trivial, rfl, by decide, rfl, by decide⟩
              refine VAll.consG (listed' := LB 13 943) rfl (o_alloc Z35 ZL35 (ltn rfl)) rfl (by kernel_rfl) (fun _ => ⟨trivial, ⟨⟨6, rfl⟩, ⟨7, rfl⟩, trivial⟩, trivial⟩) ?_ VAll.nil
              intro g3863
              refine VA.oneC (i := 4) (listed' := LB 13 959) (by kernel_rfl) rfl (o_call0 FO21 (tarryref13_Came.ok k t9 t10 t11 t12 t13 t14 t15 t16 t17 t18 t19 t20 t21 t22 t23 t24 t25 t26 t27 t28 t29 t3781 t3782 t3783 t3784 t3785 t3786 t3787 t3788 t3789 t3790 t3791 t3792 t3793 t3794 t3795 t3796 t3797 t3798 t3799 t3800 t3801 t3802 t3803 hA3804) rfl rfl (ltn rfl) (All_of .nil)) rfl (by kernel_rfl) ?_
              rintro _ _ _ ⟨rfl, rfl, rfl⟩
              refine ⟨⟨trivial, ⟨⟨6, rfl⟩, ⟨7, rfl⟩, trivial⟩, trivial⟩, ?_⟩
              refine VA.oneC (i := 6) (listed' := LB 13 1023) (by kernel_rfl) rfl (o_call0 FO22 (tarryref13_End.ok k t9 t10 t11 t12 t13 t14 t15 t16 t17 t18 t19 t20 t21 t22 t23 t24 t25 t26 t27 t28 t29 t3837 t3838 t3839 t3840 t3841 t3842 t3843 t3844 t3845 t3846 t3847 t3848 t3849 t3850 t3851 t3852 t3853 t3854 t3855 t3856 t3857 t3858 t3859 hA3860) rfl rfl (ltn rfl) (All_of .nil)) rfl (by kernel_rfl) ?_
              rintro _ _ _ ⟨rfl, rfl, rfl⟩
              refine ⟨⟨trivial, ⟨⟨6, rfl⟩, ⟨7, rfl⟩, trivial⟩, trivial⟩, ?_⟩
              refine VA.one1 (i := 10) (listed' := LB 13 2047) (by kernel_rfl) rfl (o_store 2 23 rfl rfl rfl TI35 (.agg (.of rfl)) rfl (len rfl)) rfl (by kernel_rfl) ⟨trivial, ⟨⟨6, rfl⟩, ⟨7, rfl⟩, trivial⟩, trivial⟩ ?_
              refine VA.one1 (i := 11) (listed' := LB 13 4095) (by kernel_rfl) rfl (o_store 1 23 rfl rfl rfl TI35 (.agg (.of rfl)) rfl (len rfl)) rfl (by kernel_rfl) ⟨trivial, ⟨⟨6, rfl⟩, ⟨7, rfl⟩, trivial⟩, trivial⟩ ?_
              refine VA.one1 (i := 12) (listed' := LB 13 8191) (by kernel_rfl) rfl (o_store 0 23 rfl rfl rfl TI35 (.agg (.of rfl)) rfl (len rfl)) rfl (by kernel_rfl) ⟨trivial, ⟨⟨6, rfl⟩, ⟨7, rfl⟩, trivial⟩, trivial⟩ ?_
              refine VA.done (by kernel_rfl) ?_
              exact VN.meet3 g3861 g3862 g3863 [0, 1, 2, 3, 4, 5] [] trivial ⟨rfl, ⟨rfl, rfl, rfl, rfl, rfl, rfl, rfl, rfl, rfl, rfl, rfl, trivial⟩, trivial, rfl, by decide, rfl, by decide⟩
            refine VAll.consG (listed' := LB 13 939) rfl (o_alloc Z35 ZL35 (ltn rfl)) rfl (by kernel_rfl) (fun _ => ⟨trivial, ⟨⟨6, rfl⟩, ⟨7, rfl⟩, trivial⟩, trivial⟩) ?_ VAll.nil
            intro g3863
            refine VA.oneC (i := 2) (listed' := LB 13 943) (by kernel_rfl) rfl (o_call0 FO20 (tarryref13_Send.ok k t9 t10 t11 t12 t13 t14 t15 t16 t17 t18 t19 t20 t21 t22 t23 t24 t25 t26 t27 t28 t29 (a1_0.extract 0 ((mn (a1_0.size : Int) 18).toNat)) a1_1 a1_2 a1_3 t3733 t3734 t3735 t3736 t3737 t3738 t3739 t3740 t3741 t3742 t3743 t3744 t3745 t3746 t3747 t3748 t3749 t3750 t3751 t3752 t3753 t3754 t3755 hA3756) rfl rfl (ltn rfl) (All_of .nil)) rfl (by kernel_rfl) ?_
            rintro _ _ _ ⟨rfl, rfl, rfl⟩
            refine ⟨⟨trivial, ⟨⟨6, rfl⟩, ⟨7, rfl⟩, trivial⟩, trivial⟩, ?_⟩
            refine VA.oneC (i := 4) (listed' := LB 13 959) (by kernel_rfl) rfl (o_call0 FO21 (tarryref13_Came.ok k t9 t10 t11 t12 t13 t14 t15 t16 t17 t18 t19 t20 t21 t22 t23 t24 t25 t26 t27 t28 t29 t3781 t3782 t3783 t3784 t3785 t3786 t3787 t3788 t3789 t3790 t3791 t3792 t3793 t3794 t3795 t3796 t3797 t3798 t3799 t3800 t3801 t3802 t3803 hA3804) rfl rfl (ltn rfl) (All_of .nil)) rfl (by kernel_rfl) ?_
            rintro _ _ _ ⟨rfl, rfl, rfl⟩
            refine ⟨⟨trivial, ⟨⟨6, rfl⟩, ⟨7, rfl⟩, trivial⟩, trivial⟩, ?_⟩
            refine VA.oneC (i := 6) (listed' := LB 13 1023) (by kernel_rfl) rfl (o_call0 FO22 (tarryref13_End.ok k t9 t10 t11 t12 t13 t14 t15 t16 t17 t18 t19 t20 t21 t22 t23 t24 t25 t26 t27 t28 t29 t3837 t3838 t3839 t3840 t3841 t3842 t3843 t3844 t3845 t3846 t3847 t3848 t3849 t3850 t3851 t3852 t3853 t3854 t3855 t3856 t3857 t3858 t3859 hA3860) rfl rfl (ltn rfl) (All_of .nil)) rfl (by kernel_rfl) ?_
            rintro _ _ _ ⟨rfl, rfl, rfl⟩
            refine ⟨⟨trivial, ⟨⟨6, rfl⟩, ⟨7, rfl⟩, trivial⟩, trivial⟩, ?_⟩
            refine VA.one1 (i := 10) (listed' := LB 13 2047) (by kernel_rfl) rfl (o_store 2 23 rfl rfl rfl TI35 (.agg (.of rfl)) rfl (len rfl)) rfl (by kernel_rfl) ⟨trivial, ⟨⟨6, rfl⟩, ⟨7, rfl⟩, trivial⟩, trivial⟩ ?_
            refine VA.one1 (i := 11) (listed' := LB 13 4095) (by kernel_rfl) rfl (o_store 1 23 rfl rfl rfl TI35 (.agg (.of rfl)) rfl (len rfl)) rfl (by kernel_rfl) ⟨trivial, ⟨⟨6, rfl⟩, ⟨7, rfl⟩, trivial⟩, trivial⟩ ?_
            refine VA.one1 (i := 12) (listed' := LB 13 8191) (by kernel_rfl) rfl (o_store 0 23 rfl rfl rfl TI35 (.agg (.of rfl)) rfl (len rfl)) rfl (by kernel_rfl) ⟨trivial, ⟨⟨6, rfl⟩, ⟨7, rfl⟩, trivial⟩, trivial⟩ ?_
            refine VA.done (by kernel_rfl) ?_
            exact VN.meet3 g3861 g3862 g3863 [0, 1, 2, 3, 4, 5] [] trivial ⟨rfl, ⟨rfl, rfl, rfl, rfl, rfl, rfl, rfl, rfl, rfl, rfl, rfl, trivial⟩, trivial, rfl, by decide, rfl, by decide⟩
          refine VAll.consG (listed' := LB 13 683) rfl (o_alloc Z35 ZL35 (ltn rfl)) rfl (by kernel_rfl) (fun _ => ⟨trivial, ⟨⟨5, rfl⟩, ⟨6, rfl⟩, trivial⟩, trivial⟩) ?_ VAll.nil
          intro g3863
          refine VA.all [2, 8] (by kernel_rfl) (by simp) ?_
          refine VAll.consC (listed' := LB 13 687) rfl (o_call0 FO20 (tarryref13_Send.ok k t9 t10 t11 t12 t13 t14 t15 t16 t17 t18 t19 t20 t21 t22 t23 t24 t25 t26 t27 t28 t29 (a1_0.extract 0 ((mn (a1_0.size : Int) 18).toNat)) a1_1 a1_2 a1_3 t3733 t3734 t3735 t3736 t3737 t3738 t3739 t3740 t3741 t3742 t3743 t3744 t3745 t3746 t3747 t3748 t3749 t3750 t3751 t3752 t3753 t3754 t3755 hA3756) rfl rfl (ltn rfl) (All_of .nil)) rfl (by kernel_rfl) ?_ ?_
          · rintro _ _ _ ⟨rfl, rfl, rfl⟩
            refine ⟨⟨trivial, ⟨⟨5, rfl⟩, ⟨6, rfl⟩, trivial⟩, trivial⟩, ?_⟩
            refine VA.all [4, 8] (by kernel_rfl) (by simp) ?_
            refine VAll.consC (listed' := LB 13 703) rfl (o_call0 FO21 (tarryref13_Came.ok k t9 t10 t11 t12 t13 t14 t15 t16 t17 t18 t19 t20 t21 t22 t23 t24 t25 t26 t27 t28 t29 t3781 t3782 t3783 t3784 t3785 t3786 t3787 t3788 t3789 t3790 t3791 t3792 t3793 t3794 t3795 t3796 t3797 t3798 t3799 t3800 t3801 t3802 t3803 hA3804) rfl rfl (ltn rfl) (All_of .nil)) rfl (by kernel_rfl) ?_ ?_
            · rintro _ _ _ ⟨rfl, rfl, rfl⟩
              refine ⟨⟨trivial, ⟨⟨5, rfl⟩, ⟨6, rfl⟩, trivial⟩, trivial⟩, ?_⟩
              refine VA.all [6, 8] (by kernel_rfl) (by simp) ?_
              refine VAll.consC (listed' := LB 13 767) rfl (o_call0 FO22 (tarryref13_End.ok k t9 t10 t11 t12 t13 t14 t15 t16 t17 t18 t19 t20 t21 t22 t23 t24 t25 t26 t27 t28 t29 t3837 t3838 t3839 t3840 t3841 t3842 t3843 t3844 t3845 t3846 t3847 t3848 t3849 t3850 t3851 t3852 t3853 t3854 t3855 t3856 t3857 t3858 t3859 hA3860) rfl rfl (ltn rfl) (All_of .nil)) rfl (by kernel_rfl) ?_ ?_
              · rintro _ _ _ ⟨rfl, rfl, rfl⟩
                refine ⟨⟨trivial, ⟨⟨5, rfl⟩, ⟨6, rfl⟩, trivial⟩, trivial⟩, ?_⟩
                refine VA.oneG (i := 8) (listed' := LB 13 1023) (by kernel_rfl) rfl (o_alloc Z35 ZL35 (ltn rfl)) rfl (by kernel_rfl) (fun _ => ⟨trivial, ⟨⟨6, rfl⟩, ⟨7, rfl⟩, trivial⟩, trivial⟩) ?_
                intro g3862
                refine VA.one1 (i := 10) (listed' := LB 13 2047) (by kernel_rfl) rfl (o_store 2 23 rfl rfl rfl TI35 (.agg (.of rfl)) rfl (len rfl)) rfl (by kernel_rfl) ⟨trivial, ⟨⟨6, rfl⟩, ⟨7, rfl⟩, trivial⟩, trivial⟩ ?_
                refine VA.one1 (i := 11) (listed' := LB 13 4095) (by kernel_rfl) rfl (o_store 0 23 rfl rfl rfl TI35 (.agg (.of rfl)) rfl (len rfl)) rfl (by kernel_rfl) ⟨trivial, ⟨⟨6, rfl⟩, ⟨7, rfl⟩, trivial⟩, trivial⟩ ?_
                refine VA.one1 (i := 12) (listed' := LB 13 8191) (by kernel_rfl) rfl (o_store 1 23 rfl rfl rfl TI35 (.agg (.of rfl)) rfl (len rfl)) rfl (by kernel_rfl) ⟨trivial, ⟨⟨6, rfl⟩, ⟨7, rfl⟩, trivial⟩, trivial⟩ ?_
                refine VA.done (by kernel_rfl) ?_
                exact VN.meet3 g3861 g3862 g3863 [1, 0, 2, 3, 4, 5] [] trivial ⟨rfl, ⟨rfl, rfl, rfl, rfl, rfl, rfl, rfl, rfl, rfl, rfl, rfl, trivial⟩, trivial, rfl, by decide, rfl, by decide⟩
              refine VAll.consG (listed' := LB 13 959) rfl (o_alloc Z35 ZL35 (ltn rfl)) rfl (by kernel_rfl) (fun _ => ⟨trivial, ⟨⟨6, rfl⟩, ⟨7, rfl⟩, trivial⟩, trivial⟩) ?_ VAll.nil
              intro g3862
              refine VA.oneC (i := 6) (listed' := LB 13 1023) (by kernel_rfl) rfl (o_call0 FO22 (tarryref13_End.ok k t9 t10 t11 t12 t13 t14 t15 t16 t17 t18 t19 t20 t21 t22 t23 t24 t25 t26 t27 t28 t29 t3837 t3838 t3839 t3840 t3841 t3842 t3843 t3844 t3845 t3846 t3847 t3848 t3849 t3850 t3851 t3852 t3853 t3854 t3855 t3856 t3857 t3858 t3859 hA3860) rfl rfl (ltn rfl) (All_of .nil)) rfl (by kernel_rfl) ?_
              rintro _ _ _ ⟨rfl, rfl, rfl⟩
              refine ⟨⟨trivial, ⟨⟨6, rfl⟩, ⟨7, rfl⟩, trivial⟩, trivial⟩, ?_⟩
              refine VA.one1 (i := 10) (listed' := LB 13 2047) (by kernel_rfl) rfl (o_store 2 23 rfl rfl rfl TI35 (.agg (.of rfl)) rfl (len rfl)) rfl (by kernel_rfl) ⟨trivial, ⟨⟨6, rfl⟩, ⟨7, rfl⟩, trivial⟩, trivial⟩ ?_
              refine VA.one1 (i := 11) (listed' := LB 13 4095) (by kernel_rfl) rfl (o_store 0 23 rfl rfl rfl TI35 (.agg (.of rfl)) rfl (len rfl)) rfl (by kernel_rfl) ⟨trivial, ⟨⟨6, rfl⟩, ⟨7, rfl⟩, trivial⟩, trivial⟩ ?_
              refine VA.one1 (i := 12) (listed' := LB 13 8191) (by kernel_rfl) rfl (o_store 1 23 rfl rfl rfl TI35 (.agg (.of rfl)) rfl (len rfl)) rfl (by kernel_rfl) ⟨trivial, ⟨⟨6, rfl⟩, ⟨7, rfl⟩, trivial⟩, trivial⟩ ?_
              refine VA.done (by kernel_rfl) ?_
              exact VN.meet3 g3861 g3862 g3863 [1, 0, 2, 3, 4, 5] [] trivial ⟨rfl, ⟨rfl, rfl, rfl, rfl, rfl, rfl, rfl, rfl, rfl, rfl, rfl, trivial⟩, trivial, rfl, by decide, rfl, by decide⟩
            refine VAll.consG (listed' := LB 13 943) rfl (o_alloc Z35 ZL35 (ltn rfl)) rfl (by kernel_rfl) (fun _ => ⟨trivial, ⟨⟨6, rfl⟩, ⟨7, rfl⟩, trivial⟩, trivial⟩) ?_ VAll.nil
            intro g3862
            refine VA.oneC (i := 4) (listed' := LB 13 959) (by kernel_rfl) rfl (o_call0 FO21 (tarryref13_Came.ok k t9 t10 t11 t12 t13 t14 t15 t16 t17 t18 t19 t20 t21 t22 t23 t24 t25 t26 t27 t28 t29 t3781 t3782 t3783 t3784 t3785 t3786 t3787 t3788 t3789 t3790 t3791 t3792 t3793 t3794 t3795 t3796 t3797 t3798 t3799 t3800 t3801 t3802 t3803 hA3804) rfl rfl (ltn rfl) (All_of .nil)) rfl (by kernel_rfl) ?_
            rintro _ _ _ ⟨rfl, rfl, rfl⟩
            refine ⟨⟨trivial, ⟨⟨6, rfl⟩, ⟨7, rfl⟩, trivial⟩, trivial⟩, ?_⟩
            refine VA.oneC (i := 6) (listed' := LB 13 1023) (by kernel_rfl) rfl (o_call0 FO22 (tarryref13_End.ok k t9 t10 t11 t12 t13 t14 t15 t16 t17 t18 t19 t20 t21 t22 t23 t24 t25 t26 t27 t28 t29 t3837 t3838 t3839 t3840 t3841 t3842 t3843 t3844 t3845 t3846 t3847 t3848 t3849 t3850 t3851 t3852 t3853 t3854 t3855 t3856 t3857 t3858 t3859 hA3860) rfl rfl (ltn rfl) (All_of .nil)) rfl (by kernel_rfl) ?_
            rintro _ _ _ ⟨rfl, rfl, rfl⟩
            refine ⟨⟨trivial, ⟨⟨6, rfl⟩, ⟨7, rfl⟩, trivial⟩, trivial⟩, ?_⟩
            refine VA.one1 (i := 10) (listed' := LB 13 2047) (by kernel_rfl) rfl (o_store 2 23 rfl rfl rfl TI35 (.agg (.of rfl)) rfl (len rfl)) rfl (by kernel_rfl) ⟨trivial, ⟨⟨6, rfl⟩, ⟨7, rfl⟩, trivial⟩, trivial⟩ ?_
            refine VA.one1 (i := 11) (listed' := LB 13 4095) (by kernel_rfl) rfl (o_store 0 23 rfl rfl rfl TI35 (.agg (.of rfl)) rfl (len rfl)) rfl (by kernel_rfl) ⟨trivial, ⟨⟨6, rfl⟩, ⟨7, rfl⟩, trivial⟩, trivial⟩ ?_
            refine VA.one1 (i := 12) (listed' := LB 13 8191) (by kernel_rfl) rfl (o_store 1 23 rfl rfl rfl TI35 (.agg (.of rfl)) rfl (len rfl)) rfl (by kernel_rfl) ⟨trivial, ⟨⟨6, rfl⟩, ⟨7, rfl⟩, trivial⟩, trivial⟩ ?_
            refine VA.done (by kernel_rfl) ?_
            exact VN.meet3 g3861 g3862 g3863 [1, 0, 2, 3, 4, 5] [] trivial ⟨rfl, ⟨rfl, rfl, rfl, rfl, rfl, rfl, rfl, rfl, rfl, rfl, rfl, trivial⟩, trivial, rfl, by decide, rfl, by decide⟩
          refine VAll.consG (listed' := LB 13 939) rfl (o_alloc Z35 ZL35 (ltn rfl)) rfl (by kernel_rfl) (fun _ => ⟨trivial, ⟨⟨6, rfl⟩, ⟨7, rfl⟩, trivial⟩, trivial⟩) ?_ VAll.nil
          intro g3862
          refine VA.oneC (i := 2) (listed' := LB 13 943) (by kernel_rfl) rfl (o_call0 FO20 (tarryref13_Send.ok k t9 t10 t11 t12 t13 t14 t15 t16 t17 t18 t19 t20 t21 t22 t23 t24 t25 t26 t27 t28 t29 (a1_0.extract 0 ((mn (a1_0.size : Int) 18).toNat)) a1_1 a1_2 a1_3 t3733 t3734 t3735 t3736 t3737 t3738 t3739 t3740 t3741 t3742 t3743 t3744 t3745 t3746 t3747 t3748 t3749 t3750 t3751 t3752 t3753 t3754 t3755 hA3756) rfl rfl (ltn rfl) (All_of .nil)) rfl (by kernel_rfl) ?_
          rintro _ _ _ ⟨rfl, rfl, rfl⟩
          refine ⟨⟨trivial, ⟨⟨6, rfl⟩, ⟨7, rfl⟩, trivial⟩, trivial⟩, ?_⟩
          refine VA.oneC (i := 4) (listed' := LB 13 959) (by kernel_rfl) rfl (o_call0 FO21 (tarryref13_Came.ok k t9 t10 t11 t12 t13 t14 t15 t16 t17 t18 t19 t20 t21 t22 t23 t24 t25 t26 t27 t28 t29 t3781 t3782 t3783 t3784 t3785 t3786 t3787 t3788 t3789 t3790 t3791 t3792 t3793 t3794 t3795 t3796 t3797 t3798 t3799 t3800 t3801 t3802 t3803 hA3804) rfl rfl (ltn rfl) (All_of .nil)) rfl (by kernel_rfl) ?_
          rintro _ _ _ ⟨rfl, rfl, rfl⟩
          refine ⟨⟨trivial, ⟨⟨6, rfl⟩, ⟨7, rfl⟩, trivial⟩, trivial⟩, ?_⟩
          refine VA.oneC (i := 6) (listed' := LB 13 1023) (by kernel_rfl) rfl (o_call0 FO22 (tarryref13_End.ok k t9 t10 t11 t12 t13 t14 t15 t16 t17 t18 t19 t20 t21 t22 t23 t24 t25 t26 t27 t28 t29 t3837 t3838 t3839 t3840 t3841 t3842 t3843 t3844 t3845 t3846 t3847 t3848 t3849 t3850 t3851 t3852 t3853 t3854 t3855 t3856 t3857 t3858 t3859 hA3860) rfl rfl (ltn rfl) (All_of .nil)) rfl (by kernel_rfl) ?_
          rintro _ _ _ ⟨rfl, rfl, rfl⟩
          refine ⟨⟨trivial, ⟨⟨6, rfl⟩, ⟨7, rfl⟩, trivial⟩, trivial⟩, ?_⟩
          refine VA.one1 (i := 10) (listed' := LB 13 2047) (by kernel_rfl) rfl (o_store 2 23 rfl rfl rfl TI35 (.agg (.of rfl)) rfl (len rfl)) rfl (by kernel_rfl) ⟨trivial, ⟨⟨6, rfl⟩, ⟨7, rfl⟩, trivial⟩, trivial⟩ ?_
          refine VA.one1 (i := 11) (listed' := LB 13 4095) (by kernel_rfl) rfl (o_store 0 23 rfl rfl rfl TI35 (.agg (.of rfl)) rfl (len rfl)) rfl (by kernel_rfl) ⟨trivial, ⟨⟨6, rfl⟩, ⟨7, rfl⟩, trivial⟩, trivial⟩ ?_
          refine VA.one1 (i := 12) (listed' := LB 13 8191) (by kernel_rfl) rfl (o_store 1 23 rfl rfl rfl TI35 (.agg (.of rfl)) rfl (len rfl)) rfl (by kernel_rfl) ⟨trivial, ⟨⟨6, rfl⟩, ⟨7, rfl⟩, trivial⟩, trivial⟩ ?_
          refine VA.done (by kernel_rfl) ?_
          exact VN.meet3 g3861 g3862 g3863 [1, 0, 2, 3, 4, 5] [] trivial ⟨rfl, ⟨rfl, rfl, rfl, rfl, rfl, rfl, rfl, rfl, rfl, rfl, rfl, trivial⟩, trivial, rfl, by decide, rfl, by decide⟩
        refine VAll.consG (listed' := LB 13 299) rfl (o_alloc Z35 ZL35 (ltn rfl)) rfl (by kernel_rfl) (fun _ => ⟨trivial, ⟨⟨4, rfl⟩, ⟨5, rfl⟩, trivial⟩, trivial⟩) ?_ ?_
        · intro g3862
          refine VA.all [2, 7, 9] (by kernel_rfl) (by simp) ?_
          refine VAll.consC (listed' := LB 13 303) rfl (o_call0 FO20 (tarryref13_Send.ok k t9 t10 t11 t12 t13 t14 t15 t16 t17 t18 t19 t20 t21 t22 t23 t24 t25 t26 t27 t28 t29 (a1_0.extract 0 ((mn (a1_0.size : Int) 18).toNat)) a1_1 a1_2 a1_3 t3733 t3734 t3735 t3736 t3737 t3738 t3739 t3740 t3741 t3742 t3743 t3744 t3745 t3746 t3747 t3748 t3749 t3750 t3751 t3752 t3753 t3754 t3755 hA3756) rfl rfl (ltn rfl) (All_of .nil)) rfl (by kernel_rfl) ?_ ?_
          · rintro _ _ _ ⟨rfl, rfl, rfl⟩
            refine ⟨⟨trivial, ⟨⟨4, rfl⟩, ⟨5, rfl⟩, trivial⟩, trivial⟩, ?_⟩
            refine VA.all [4, 7, 9] (by kernel_rfl) (by simp) ?_
            refine VAll.consC (listed' := LB 13 319) rfl (o_call0 FO21 (tarryref13_Came.ok k t9 t10 t11 t12 t13 t14 t15 t16 t17 t18 t19 t20 t21 t22 t23 t24 t25 t26 t27 t28 t29 t3781 t3782 t3783 t3784 t3785 t3786 t3787 t3788 t3789 t3790 t3791 t3792 t3793 t3794 t3795 t3796 t3797 t3798 t3799 t3800 t3801 t3802 t3803 hA3804) rfl rfl (ltn rfl) (All_of .nil)) rfl (by kernel_rfl) ?_ ?_
            · rintro _ _ _ ⟨rfl, rfl, rfl⟩
              refine ⟨⟨trivial, ⟨⟨4, rfl⟩, ⟨5, rfl⟩, trivial⟩, trivial⟩, ?_⟩
              refine VA.all [6, 7, 9] (by kernel_rfl) (by simp) ?_
              refine VAll.consC (listed' := LB 13 383) rfl (o_call0 FO22 (tarryref13_End.ok k t9 t10 t11 t12 t13 t14 t15 t16 t17 t18 t19 t20 t21 t22 t23 t24 t25 t26 t27 t28 t29 t3837 t3838 t3839 t3840 t3841 t3842 t3843 t3844 t3845 t3846 t3847 t3848 t3849 t3850 t3851 t3852 t3853 t3854 t3855 t3856 t3857 t3858 t3859 hA3860) rfl rfl (ltn rfl) (All_of .nil)) rfl (by kernel_rfl) ?_ ?_
              · rintro _ _ _ ⟨rfl, rfl, rfl⟩
                refine ⟨⟨trivial, ⟨⟨4, rfl⟩, ⟨5, rfl⟩, trivial⟩, trivial⟩, ?_⟩
                refine VA.all [7, 9] (by kernel_rfl) (by simp) ?_
                refine VAll.consG (listed' := LB 13 511) rfl (o_alloc Z35 ZL35 (ltn rfl)) rfl (by kernel_rfl) (fun _ => ⟨trivial, ⟨⟨5, rfl⟩, ⟨6, rfl⟩, trivial⟩, trivial⟩) ?_ ?_
                · intro g3861
                  refine VA.oneG (i := 9) (listed' := LB 13 1023) (by kernel_rfl) rfl (o_alloc Z35 ZL35 (ltn rfl)) rfl (by kernel_rfl) (fun _ => ⟨trivial, ⟨⟨6, rfl⟩, ⟨7, rfl⟩, trivial⟩, trivial⟩) ?_
                  intro g3863
                  refine VA.one1 (i := 10) (listed' := LB 13 2047) (by kernel_rfl) rfl (o_store 1 23 rfl rfl rfl TI35 (.agg (.of rfl)) rfl (len rfl)) rfl (by kernel_rfl) ⟨trivial, ⟨⟨6, rfl⟩, ⟨7, rfl⟩, trivial⟩, trivial⟩ ?_
                  refine VA.one1 (i := 11) (listed' := LB 13 4095) (by kernel_rfl) rfl (o_store 2 23 rfl rfl rfl TI35 (.agg (.of rfl)) rfl (len rfl)) rfl (by kernel_rfl) ⟨trivial, ⟨⟨6, rfl⟩, ⟨7, rfl⟩, trivial⟩, trivial⟩ ?_
                  refine VA.one1 (i := 12) (listed' := LB 13 8191) (by kernel_rfl) rfl (o_store 0 23 rfl rfl rfl TI35 (.agg (.of rfl)) rfl (len rfl)) rfl (by kernel_rfl) ⟨trivial, ⟨⟨6, rfl⟩, ⟨7, rfl⟩, trivial⟩, trivial⟩ ?_
                  refine VA.done (by kernel_rfl) ?_
                  exact VN.meet3 g3861 g3862 g3863 [0, 2, 1, 3, 4, 5] [] trivial ⟨rfl, ⟨rfl, rfl, rfl, rfl, rfl, rfl, rfl, rfl, rfl, rfl, rfl, trivial⟩, trivial, rfl, by decide, rfl, by decide⟩
                refine VAll.consG (listed' := LB 13 895) rfl (o_alloc Z35 ZL35 (ltn rfl)) rfl (by kernel_rfl) (fun _ => ⟨trivial, ⟨⟨5, rfl⟩, ⟨6, rfl⟩, trivial⟩, trivial⟩) ?_ VAll.nil
                intro g3863
                refine VA.oneG (i := 7) (listed' := LB 13 1023) (by kernel_rfl) rfl (o_alloc Z35 ZL35 (ltn rfl)) rfl (by kernel_rfl) (fun _ => ⟨trivial, ⟨⟨6, rfl⟩, ⟨7, rfl⟩, trivial⟩, trivial⟩) ?_
                intro g3861
                refine VA.one1 (i := 10) (listed' := LB 13 2047) (by kernel_rfl) rfl (o_store 0 23 rfl rfl rfl TI35 (.agg (.of rfl)) rfl (len rfl)) rfl (by kernel_rfl) ⟨trivial, ⟨⟨6, rfl⟩, ⟨7, rfl⟩, trivial⟩, trivial⟩ ?_
                refine VA.one1 (i := 11) (listed' := LB 13 4095) (by kernel_rfl) rfl (o_store 2 23 rfl rfl rfl TI35 (.agg (.of rfl)) rfl (len rfl)) rfl (by kernel_rfl) ⟨trivial, ⟨⟨6, rfl⟩, ⟨7, rfl⟩, trivial⟩, trivial⟩ ?_
                refine VA.one1 (i := 12) (listed' := LB 13 8191) (by kernel_rfl) rfl (o_store 1 23 rfl rfl rfl TI35 (.agg (.of rfl)) rfl (len rfl)) rfl (by kernel_rfl) ⟨trivial, ⟨⟨6, rfl⟩, ⟨7, rfl⟩, trivial⟩, trivial⟩ ?_
                refine VA.done (by kernel_rfl) ?_
                exact VN.meet3 g3861 g3862 g3863 [1, 2, 0, 3, 4, 5] [] trivial ⟨rfl, ⟨rfl, rfl, rfl, rfl, rfl, rfl, rfl, rfl, rfl, rfl, rfl, trivial⟩, trivial, rfl, by decide, rfl, by decide⟩
              refine VAll.consG (listed' := LB 13 447) rfl (o_alloc Z35 ZL35 (ltn rfl)) rfl (by kernel_rfl) (fun _ => ⟨trivial, ⟨⟨5, rfl⟩, ⟨6, rfl⟩, trivial⟩, trivial⟩) ?_ ?_
              · intro g3861
                refine VA.all [6, 9] (by kernel_rfl) (by simp) ?_
                refine VAll.consC (listed' := LB 13 511) rfl (o_call0 FO22 (tarryref13_End.ok k t9 t10 t11 t12 t13 t14 t15 t16 t17 t18 t19 t20 t21 t22 t23 t24 t25 t26 t27 t28 t29 t3837 t3838 t3839 t3840 t3841 t3842 t3843 t3844 t3845 t3846 t3847 t3848 t3849 t3850 t3851 t3852 t3853 t3854 t3855 t3856 t3857 t3858 t3859 hA3860) rfl rfl (ltn rfl) (All_of .nil)) rfl (by kernel_rfl) ?_ ?_
                · rintro _ _ _ ⟨rfl, rfl, rfl⟩
                  refine ⟨⟨trivial, ⟨⟨5, rfl⟩, ⟨6, rfl⟩, trivial⟩, trivial⟩, ?_⟩
                  refine VA.oneG (i := 9) (listed' := LB 13 1023) (by kernel_rfl) rfl (o_alloc Z35 ZL35 (ltn rfl)) rfl (by kernel_rfl) (fun _ => ⟨trivial, ⟨⟨6, rfl⟩, ⟨7, rfl⟩, trivial⟩, trivial⟩) ?_
                  intro g3863
                  refine VA.one1 (i := 10) (listed' := LB 13 2047) (by kernel_rfl) rfl (o_store 1 23 rfl rfl rfl TI35 (.agg (.of rfl)) rfl (len rfl)) rfl (by kernel_rfl) ⟨trivial, ⟨⟨6, rfl⟩, ⟨7, rfl⟩, trivial⟩, trivial⟩ ?_
                  refine VA.one1 (i := 11) (listed' := LB 13 4095) (by kernel_rfl) rfl (o_store 2 23 rfl rfl rfl TI35 (.agg (.of rfl)) rfl (len rfl)) rfl (by kernel_rfl) ⟨trivial, ⟨⟨6, rfl⟩, ⟨7, rfl⟩, trivial⟩, trivial⟩ ?_
                  refine VA.one1 (i := 12) (listed' := LB 13 8191) (by kernel_rfl) rfl (o_store 0 23 rfl rfl rfl TI35 (.agg (.of rfl)) rfl (len rfl)) rfl (by kernel_rfl) ⟨trivial, ⟨⟨6, rfl⟩, ⟨7, rfl⟩, trivial⟩, trivial⟩ ?_
                  refine VA.done (by kernel_rfl) ?_
                  exact VN.meet3 g3861 g3862 g3863 [0, 2, 1, 3, 4, 5] [] trivial ⟨rfl, ⟨rfl, rfl, rfl, rfl, rfl, rfl, rfl, rfl, rfl, rfl, rfl, trivial⟩, trivial, rfl, by decide, rfl, by decide⟩
                refine VAll.consG (listed' := LB 13 959) rfl (o_alloc Z35 ZL35 (ltn rfl)) rfl (by kernel_rfl) (fun _ => ⟨trivial, ⟨⟨6, rfl⟩, ⟨7, rfl⟩, trivial⟩, trivial⟩) ?_ VAll.nil
                intro g3863
                refine VA.oneC (i := 6) (listed' := LB 13 1023) (by kernel_rfl) rfl (o_call0 FO22 (tarryref13_End.ok k t9 t10 t11 t12 t13 t14 t15 t16 t17 t18 t19 t20 t21 t22 t23 t24 t25 t26 t27 t28 t29 t3837 t3838 t3839 t3840 t3841 t3842 t3843 t3844 t3845 t3846 t3847 t3848 t3849 t3850 t3851 t3852 t3853 t3854 t3855 t3856 t3857 t3858 t3859 hA3860) rfl rfl (ltn rfl) (All_of .nil)) rfl (by kernel_rfl) ?_
                rintro _ _ _ ⟨rfl, rfl, rfl⟩
                refine ⟨⟨trivial, ⟨⟨6, rfl⟩, ⟨7, rfl⟩, trivial⟩, trivial⟩, ?_⟩
                refine VA.one1 (i := 10) (listed' := LB 13 2047) (by kernel_rfl) rfl (o_store 1 23 rfl rfl rfl TI35 (.agg (.of rfl)) rfl (len rfl)) rfl (by kernel_rfl) ⟨trivial, ⟨⟨6, rfl⟩, ⟨7, rfl⟩, trivial⟩, trivial⟩ ?_
                refine VA.one1 (i := 11) (listed' := LB 13 4095) (by kernel_rfl) rfl (o_store 2 23 rfl rfl rfl TI35 (.agg (.of rfl)) rfl (len rfl)) rfl (by kernel_rfl) ⟨trivial, ⟨⟨6, rfl⟩, ⟨7, rfl⟩, trivial⟩, trivial⟩ ?_
                refine VA.one1 (i := 12) (listed' := LB 13 8191) (by kernel_rfl) rfl (o_store 0 23 rfl rfl rfl TI35 (.agg (.of rfl)) rfl (len rfl)) rfl (by kernel_rfl) ⟨trivial, ⟨⟨6, rfl⟩, ⟨7, rfl⟩, trivial⟩, trivial⟩ ?_
                refine VA.done (by kernel_rfl) ?_
                exact VN.meet3 g3861 g3862 g3863 [0, 2, 1, 3, 4, 5] [] trivial ⟨rfl, ⟨rfl, rfl, rfl, rfl, rfl, rfl, rfl, rfl, rfl, rfl, rfl, trivial⟩, trivial, rfl, by decide, rfl, by decide⟩
              refine VAll.consG (listed' := LB 13 831) rfl (o_alloc Z35 ZL35 (ltn rfl)) rfl (by kernel_rfl) (fun _ => ⟨trivial, ⟨⟨5, rfl⟩, ⟨6, rfl⟩, trivial⟩, trivial⟩) ?_ VAll.nil
              intro g3863
              refine VA.all [6, 7] (by kernel_rfl) (by simp) ?_
              refine VAll.consC (listed' := LB 13 895) rfl (o_call0 FO22 (tarryref13_End.ok k t9 t10 t11 t12 t13 t14 t15 t16 t17 t18 t19 t20 t21 t22 t23 t24 t25 t26 t27 t28 t29 t3837 t3838 t3839 t3840 t3841 t3842 t3843 t3844 t3845 t3846 t3847 t3848 t3849 t3850 t3851 t3852 t3853 t3854 t3855 t3856 t3857 t3858 t3859 hA3860) rfl rfl (ltn rfl) (All_of .nil)) rfl (by kernel_rfl) ?_ ?_
              · rintro _ _ _ ⟨rfl, rfl, rfl⟩
                refine ⟨⟨trivial, ⟨⟨5, rfl⟩, ⟨6, rfl⟩, trivial⟩, trivial⟩, ?_⟩
                refine VA.oneG (i := 7) (listed' := LB 13 1023) (by kernel_rfl) rfl (o_alloc Z35 ZL35 (ltn rfl)) rfl (by kernel_rfl) (fun _ => ⟨trivial, ⟨⟨6, rfl⟩, ⟨7, rfl⟩, trivial⟩, trivial⟩) ?_
                intro g3861
                refine VA.one1 (i := 10) (listed' := LB 13 2047) (by kernel_rfl) rfl (o_store 0 23 rfl rfl rfl TI35 (.agg (.of rfl)) rfl (len rfl)) rfl (by kernel_rfl) ⟨trivial, ⟨⟨6, rfl⟩, ⟨7, rfl⟩, trivial⟩, trivial⟩ ?_
                refine VA.one1 (i := 11) (listed' := LB 13 4095) (by kernel_rfl) rfl (o_store 2 23 rfl rfl rfl TI35 (.agg (.of rfl)) rfl (len rfl)) rfl (by kernel_rfl) ⟨trivial, ⟨⟨6, rfl⟩, ⟨7, rfl⟩, trivial⟩, trivial⟩ ?_
                refine VA.one1 (i := 12) (listed' := LB 13 8191) (by kernel_rfl) rfl (o_store 1 23 rfl rfl rfl TI35 (.agg (.of rfl)) rfl (len rfl)) rfl (by kernel_rfl) ⟨trivial, ⟨⟨6, rfl⟩, ⟨7, rfl⟩, trivial⟩, trivial⟩ ?_
                refine VA.done (by kernel_rfl) ?_
                exact VN.meet3 g3861 g3862 g3863 [1, 2, 0, 3, 4, 5] [] trivial ⟨rfl, ⟨rfl, rfl, rfl, rfl, rfl, rfl, rfl, rfl, rfl, rfl, rfl, trivial⟩, trivial, rfl, by decide, rfl, by decide⟩
              refine VAll.consG (listed' := LB 13 959) rfl (o_alloc Z35 ZL35 (ltn rfl)) rfl (by kernel_rfl) (fun _ => ⟨trivial, ⟨⟨6, rfl⟩, ⟨7, rfl⟩, trivial⟩, trivial⟩) ?_ VAll.nil
              intro g3861
              refine VA.oneC (i := 6) (listed' := LB 13 1023) (by kernel_rfl) rfl (o_call0 FO22 (tarryref13_End.ok k t9 t10 t11 t12 t13 t14 t15 t16 t17 t18 t19 t20 t21 t22 t23 t24 t25 t26 t27 t28 t29 t3837 t3838 t3839 t3840 t3841 t3842 t3843 t3844 t3845 t3846 t3847 t3848 t3849 t3850 t3851 t3852 t3853 t3854 t3855 t3856 t3857 t3858 t3859 hA3860) rfl rfl (ltn rfl) (All_of .nil)) rfl (by kernel_rfl) ?_
              rintro _ _ _ ⟨rfl, rfl, rfl⟩
              refine ⟨⟨trivial, ⟨⟨6, rfl⟩, ⟨7, rfl⟩, trivial⟩, trivial⟩, ?_⟩
              refine VA.one1 (i := 10) (listed' := LB 13 2047) (by kernel_rfl) rfl (o_store 0 23 rfl rfl rfl TI35 (.agg (.of rfl)) rfl (len rfl)) rfl (by kernel_rfl) ⟨trivial, ⟨⟨6, rfl⟩, ⟨7, rfl⟩, trivial⟩, trivial⟩ ?_
              refine VA.one1 (i := 11) (listed' := LB 13 4095) (by kernel_rfl) rfl (o_store 2 23 rfl rfl rfl TI35 (.agg (.of rfl)) rfl (len rfl)) rfl (by kernel_rfl) ⟨trivial, ⟨⟨6, rfl⟩, ⟨7, rfl⟩, trivial⟩, trivial⟩ ?_
              refine VA.one1 (i := 12) (listed' := LB 13 8191) (by kernel_rfl) rfl (o_store 1 23 rfl rfl rfl TI35 (.agg (.of rfl)) rfl (len rfl)) rfl (by kernel_rfl) ⟨trivial, ⟨⟨6, rfl⟩, ⟨7, rfl⟩, trivial⟩, trivial⟩ ?_
              refine VA.done (by kernel_rfl) ?_
              exact VN.meet3 g3861 g3862 g3863 [1, 2, 0, 3, 4, 5] [] trivial ⟨rfl, ⟨rfl, rfl, rfl, rfl, rfl, rfl, rfl, rfl, rfl, rfl, rfl, trivial⟩, trivial, rfl, by decide, rfl, by decide⟩
            refine VAll.consG (listed' := LB 13 431) rfl (o_alloc Z35 ZL35 (ltn rfl)) rfl (by kernel_rfl) (fun _ => ⟨trivial, ⟨⟨5, rfl⟩, ⟨6, rfl⟩, trivial⟩, trivial⟩) ?_ ?_
            · intro g3861
              refine VA.all [4, 9] (by kernel_rfl) (by simp) ?_
              refine VAll.consC (listed' := LB 13 447) rfl (o_call0 FO21 (tarryref13_Came.ok k t9 t10 t11 t12 t13 t14 t15 t16 t17 t18 t19 t20 t21 t22 t23 t24 t25 t26 t27 t28 t29 t3781 t3782 t3783 t3784 t3785 t3786 t3787 t3788 t3789 t3790 t3791 t3792 t3793 t3794 t3795 t3796 t3797 t3798 t3799 t3800 t3801 t3802 t3803 hA3804) rfl rfl (ltn rfl) (All_of .nil)) rfl (by kernel_rfl) ?_ ?_
              · rintro _ _ _ ⟨rfl, rfl, rfl⟩
                refine ⟨⟨trivial, ⟨⟨5, rfl⟩, ⟨6, rfl⟩, trivial⟩, trivial⟩, ?_⟩
                refine VA.all [6, 9] (by kernel_rfl) (by simp) ?_
                refine VAll.consC (listed' := LB 13 511) rfl (o_call0 FO22 (tarryref13_End.ok k t9 t10 t11 t12 t13 t14 t15 t16 t17 t18 t19 t20 t21 t22 t23 t24 t25 t26 t27 t28 t29 t3837 t3838 t3839 t3840 t3841 t3842 t3843 t3844 t3845 t3846 t3847 t3848 t3849 t3850 t3851 t3852 t3853 t3854 t3855 t3856 t3857 t3858 t3859 hA3860) rfl rfl (ltn rfl) (All_of .nil)) rfl (by kernel_rfl) ?_ ?_
                · rintro _ _ _ ⟨rfl, rfl, rfl⟩
                  refine ⟨⟨trivial, ⟨⟨5, rfl⟩, ⟨6, rfl⟩, trivial⟩, trivial⟩, ?_⟩
                  refine VA.oneG (i := 9) (listed' := LB 13 1023) (by kernel_rfl) rfl (o_alloc Z35 ZL35 (ltn rfl)) rfl (by kernel_rfl) (fun _ => ⟨trivial, ⟨⟨6, rfl⟩, ⟨7, rfl⟩, trivial⟩, trivial⟩) ?_
                  intro g3863
                  refine VA.one1 (i := 10) (listed' := LB 13 2047) (by kernel_rfl) rfl (o_store 1 23 rfl rfl rfl TI35 (.agg (.of rfl)) rfl (len rfl)) rfl (by kernel_rfl) ⟨trivial, ⟨⟨6, rfl⟩, ⟨7, rfl⟩, trivial⟩, trivial⟩ ?_
                  refine VA.one1 (i := 11) (listed' := LB 13 4095) (by kernel_rfl) rfl (o_store 2 23 rfl rfl rfl TI35 (.agg (.of rfl)) rfl (len rfl)) rfl (by kernel_rfl) ⟨trivial, ⟨⟨6, rfl⟩, ⟨7, rfl⟩, trivial⟩, trivial⟩ ?_
                  refine VA.one1 (i := 12) (listed' := LB 13 8191) (by kernel_rfl) rfl (o_store 0 23 rfl rfl rfl TI35 (.agg (.of rfl)) rfl (len rfl)) rfl (by kernel_rfl) ⟨trivial, ⟨⟨6, rfl⟩, ⟨7, rfl⟩, trivial⟩, trivial⟩ ?_
                  refine VA.done (by kernel_rfl) ?_
                  exact VN.meet3 g3861 g3862 g3863 [0, 2, 1, 3, 4, 5] [] trivial ⟨rfl, ⟨rfl, rfl, rfl, rfl, rfl, rfl, rfl, rfl, rfl, rfl, rfl, trivial⟩, trivial, rfl, by decide, rfl, by decide⟩
                refine VAll.consG (listed' := LB 13 959) rfl (o_alloc Z35 ZL35 (ltn rfl)) rfl (by kernel_rfl) (fun _ => ⟨trivial, ⟨⟨6, rfl⟩, ⟨7, rfl⟩, trivial⟩, trivial⟩) ?_ VAll.nil
                intro g3863
                refine VA.oneC (i := 6) (listed' := LB 13 1023) (by kernel_rfl) rfl (o_call0 FO22 (tarryref13_End.ok k t9 t10 t11 t12 t13 t14 t15 t16 t17 t18 t19 t20 t21 t22 t23 t24 t25 t26 t27 t28 t29 t3837 t3838 t3839 t3840 t3841 t3842 t3843 t3844 t3845 t3846 t3847 t3848 t3849 t3850 t3851 t3852 t3853 t3854 t3855 t3856 t3857 t3858 t3859 hA3860) rfl rfl (ltn rfl) (All_of .nil)) rfl (by kernel_rfl) ?_
                rintro _ _ _ ⟨rfl, rfl, rfl⟩
                refine ⟨⟨trivial, ⟨⟨6, rfl⟩, ⟨7, rfl⟩, trivial⟩, trivial⟩, ?_⟩
                refine VA.one1 (i := 10) (listed' := LB 13 2047) (by kernel_rfl) rfl (o_store 1 23 rfl rfl rfl TI35 (.agg (.of rfl)) rfl (len rfl)) rfl (by kernel_rfl) ⟨trivial, ⟨⟨6, rfl⟩, ⟨7, rfl⟩, trivial⟩, trivial⟩ ?_
                refine VA.one1 (i := 11) (listed' := LB 13 4095) (by kernel_rfl) rfl (o_store 2 23 rfl rfl rfl TI35 (.agg (.of rfl)) rfl (len rfl)) rfl (by kernel_rfl) ⟨trivial, ⟨⟨6, rfl⟩, ⟨7, rfl⟩, trivial⟩, trivial⟩ ?_
                refine VA.one1 (i := 12) (listed' := LB 13 8191) (by kernel_rfl) rfl (o_store 0 23 rfl rfl rfl TI35 (.agg (.of rfl)) rfl (len rfl)) rfl (by kernel_rfl) ⟨trivial, ⟨⟨6, rfl⟩, ⟨7, rfl⟩, trivial⟩, trivial⟩ ?_
                refine VA.done (by kernel_rfl) ?_
                exact VN.meet3 g3861 g3862 g3863 [0, 2, 1, 3, 4, 5] [] trivial ⟨rfl, ⟨rfl, rfl, rfl, rfl, rfl, rfl, rfl, rfl, rfl, rfl, rfl, trivial⟩, trivial, rfl, by decide, rfl, by decide⟩
              refine VAll.consG (listed' := LB 13 943) rfl (o_alloc Z35 ZL35 (ltn rfl)) rfl (by kernel_rfl) (fun _ => ⟨trivial, ⟨⟨6, rfl⟩, ⟨7, rfl⟩, trivial⟩, trivial⟩) ?_ VAll.nil
              intro g3863
              refine VA.oneC (i := 4) (listed' := LB 13 959) (by kernel_rfl) rfl (o_call0 FO21 (tarryref13_Came.ok k t9 t10 t11 t12 t13 t14 t15 t16 t17 t18 t19 t20 t21 t22 t23 t24 t25 t26 t27 t28 t29 t3781 t3782 t3783 t3784 t3785 t3786 t3787 t3788 t3789 t3790 t3791 t3792 t3793 t3794 t3795 t3796 t3797 t3798 t3799 t3800 t3801 t3802 t3803 hA3804) rfl rfl (ltn rfl) (All_of .nil)) rfl (by kernel_rfl) ?_
              rintro _ _ _ ⟨rfl, rfl, rfl⟩
              refine ⟨⟨trivial, ⟨⟨6, rfl⟩, ⟨7, rfl⟩, trivial⟩, trivial⟩, ?_⟩
              refine VA.oneC (i := 6) (listed' := LB 13 1023) (by kernel_rfl) rfl (o_call0 FO22 (tarryref13_End.ok k t9 t10 t11 t12 t13 t14 t15 t16 t17 t18 t19 t20 t21 t22 t23 t24 t25 t26 t27 t28 t29 t3837 t3838 t3839 t3840 t3841 t3842 t3843 t3844 t3845 t3846 t3847 t3848 t3849 t3850 t3851 t3852 t3853 t3854 t3855 t3856 t3857 t3858 t3859 hA3860) rfl rfl (ltn rfl) (All_of .nil)) rfl (by kernel_rfl) ?_
              rintro _ _ _ ⟨rfl, rfl, rfl⟩
              refine ⟨⟨trivial, ⟨⟨6, rfl⟩, ⟨7, rfl⟩, trivial⟩, trivial⟩, ?_⟩
              refine VA.one1 (i := 10) (listed' := LB 13 2047) (by kernel_rfl) rfl (o_store 1 23 rfl rfl rfl TI35 (.agg (.of rfl)) rfl (len rfl)) rfl (by kernel_rfl) ⟨trivial, ⟨⟨6, rfl⟩, ⟨7, rfl⟩, trivial⟩, trivial⟩ ?_
              refine VA.one1 (i := 11) (listed' := LB 13 4095) (by kernel_rfl) rfl (o_store 2 23 rfl rfl rfl TI35 (.agg (.of rfl)) rfl (len rfl)) rfl (by kernel_rfl) ⟨trivial, ⟨⟨6, rfl⟩, ⟨7, rfl⟩, trivial⟩, trivial⟩ ?_
              refine VA.one1 (i := 12) (listed' := LB 13 8191) (by kernel_rfl) rfl (o_store 0 23 rfl rfl rfl TI35 (.agg (.of rfl)) rfl (len rfl)) rfl (by kernel_rfl) ⟨trivial, ⟨⟨6, rfl⟩, ⟨7, rfl⟩, trivial⟩, trivial⟩ ?_
              refine VA.done (by kernel_rfl) ?_
              exact VN.meet3 g3861 g3862 g3863 [0, 2, 1, 3, 4, 5] [] trivial ⟨rfl, ⟨rfl, rfl, rfl, rfl, rfl, rfl, rfl, rfl, rfl, rfl, rfl, trivial⟩, trivial, rfl, by decide, rfl, by decide⟩
            refine VAll.consG (listed' := LB 13 815) rfl (o_alloc Z35 ZL35 (ltn rfl)) rfl (by kernel_rfl) (fun _ => ⟨trivial, ⟨⟨5, rfl⟩, ⟨6, rfl⟩, trivial⟩, trivial⟩) ?_ VAll.nil
            intro g3863
            refine VA.all [4, 7] (by kernel_rfl) (by simp) ?_
            refine VAll.consC (listed' := LB 13 831) rfl (o_call0 FO21 (tarryref13_Came.ok k t9 t10 t11 t12 t13 t14 t15 t16 t17 t18 t19 t20 t21 t22 t23 t24 t25 t26 t27 t28 t29 t3781 t3782 t3783 t3784 t3785 t3786 t3787 t3788 t3789 t3790 t3791 t3792 t3793 t3794 t3795 t3796 t3797 t3798 t3799 t3800 t3801 t3802 t3803 hA3804) rfl rfl (ltn rfl) (All_of .nil)) rfl (by kernel_rfl) ?_ ?_
            · rintro _ _ _ ⟨rfl, rfl, rfl⟩
              refine ⟨⟨trivial, ⟨⟨5, rfl⟩, ⟨6, rfl⟩, trivial⟩, trivial⟩, ?_⟩
              refine VA.all [6, 7] (by kernel_rfl) (by simp) ?_
              refine VAll.consC (listed' := LB 13 895) rfl (o_call0 FO22 (tarryref13_End.ok k t9 t10 t11 t12 t13 t14 t15 t16 t17 t18 t19 t20 t21 t22 t23 t24 t25 t26 t27 t28 t29 t3837 t3838 t3839 t3840 t3841 t3842 t3843 t3844 t3845 t3846 t3847 t3848 t3849 t3850 t3851 t3852 t3853 t3854 t3855 t3856 t3857 t3858 t3859 hA3860) rfl rfl (ltn rfl) (All_of .nil)) rfl (by kernel_rfl) ?_ ?_
              · rintro _ _ _ ⟨rfl, rfl, rfl⟩
                refine ⟨⟨trivial, ⟨⟨5, rfl⟩, ⟨6, rfl⟩, trivial⟩, trivial⟩, ?_⟩
                refine VA.oneG (i := 7) (listed' := LB 13 1023) (by kernel_rfl) rfl (o_alloc Z35 ZL35 (ltn rfl)) rfl (by kernel_rfl) (fun _ => ⟨trivial, ⟨⟨6, rfl⟩, ⟨7, rfl⟩, trivial⟩, trivial⟩) ?_
                intro g3861
                refine VA.one1 (i := 10) (listed' := LB 13 2047) (by kernel_rfl) rfl (o_store 0 23 rfl rfl rfl TI35 (.agg (.of rfl)) rfl (len rfl)) rfl (by kernel_rfl) ⟨trivial, ⟨⟨6, rfl⟩, ⟨7, rfl⟩, trivial⟩, trivial⟩ ?_
                refine VA.one1 (i := 11) (listed' := LB 13 4095) (by kernel_rfl) rfl (o_store 2 23 rfl rfl rfl TI35 (.agg (.of rfl)) rfl (len rfl)) rfl (by kernel_rfl) ⟨trivial, ⟨⟨6, rfl⟩, ⟨7, rfl⟩, trivial⟩, trivial⟩ ?_
                refine VA.one1 (i := 12) (listed' := LB 13 8191) (by kernel_rfl) rfl (o_store 1 23 rfl rfl rfl TI35 (.agg (.of rfl)) rfl (len rfl)) rfl (by kernel_rfl) ⟨trivial, ⟨⟨6, rfl⟩, ⟨7, rfl⟩, trivial⟩, trivial⟩ ?_
                refine VA.done (by kernel_rfl) ?_
                exact VN.meet3 g3861 g3862 g3863 [1, 2, 0, 3, 4, 5] [] trivial ⟨rfl, ⟨rfl, rfl, rfl, rfl, rfl, rfl, rfl, rfl, rfl, rfl, rfl, trivial⟩, trivial, rfl, by decide, rfl, by decide⟩
              refine VAll.consG (listed' := LB 13 959) rfl (o_alloc Z35 ZL35 (ltn rfl)) rfl (by kernel_rfl) (fun _ => ⟨trivial, ⟨⟨6, rfl⟩, ⟨7, rfl⟩, trivial⟩, trivial⟩) ?_ VAll.nil
              intro g3861
              refine VA.oneC (i := 6) (listed' := LB 13 1023) (by kernel_rfl) rfl (o_call0 FO22 (tarryref13_End.ok k t9 t10 t11 t12 t13 t14 t15 t16 t17 t18 t19 t20 t21 t22 t23 t24 t25 t26 t27 t28 t29 t3837 t3838 t3839 t3840 t3841 t3842 t3843 t3844 t3845 t3846 t3847 t3848 t3849 t3850 t3851 t3852 t3853 t3854 t3855 t3856 t3857 t3858 t3859 hA3860) rfl rfl (ltn rfl) (All_of .nil)) rfl (by kernel_rfl) ?_
              rintro _ _ _ ⟨rfl, rfl, rfl⟩
              refine ⟨⟨trivial, ⟨⟨6, rfl⟩, ⟨7, rfl⟩, trivial⟩, trivial⟩, ?_⟩
              refine VA.one1 (i := 10) (listed' := LB 13 2047) (by kernel_rfl) rfl (o_store 0 23 rfl rfl rfl TI35 (.agg (.of rfl)) rfl (len rfl)) rfl (by kernel_rfl) ⟨trivial, ⟨⟨6, rfl⟩, ⟨7, rfl⟩, trivial⟩, trivial⟩ ?_
              refine VA.one1 (i := 11) (listed' := LB 13 4095) (by kernel_rfl) rfl (o_store 2 23 rfl rfl rfl TI35 (.agg (.of rfl)) rfl (len rfl)) rfl (by kernel_rfl) ⟨trivial, ⟨⟨6, rfl⟩, ⟨7, rfl⟩, trivial⟩, trivial⟩ ?_
              refine VA.one1 (i := 12) (listed' := LB 13 8191) (by kernel_rfl) rfl (o_store 1 23 rfl rfl rfl TI35 (.agg (.of rfl)) rfl (len rfl)) rfl (by kernel_rfl) ⟨trivial, ⟨⟨6, rfl⟩, ⟨7, rfl⟩, trivial⟩, trivial⟩ ?_
              refine VA.done (by kernel_rfl) ?_
              exact VN.meet3 g3861 g3862 g3863 [1, 2, 0, 3, 4, 5] [] trivial ⟨rfl, ⟨rfl, rfl, rfl, rfl, rfl, rfl, rfl, rfl, rfl, rfl, rfl, trivial⟩, trivial, rfl, by decide, rfl, by decide⟩
            refine VAll.consG (listed' := LB 13 943) rfl (o_alloc Z35 ZL35 (ltn rfl)) rfl (by kernel_rfl) (fun _ => ⟨trivial, ⟨⟨6, rfl⟩, ⟨7, rfl⟩, trivial⟩, trivial⟩) ?_ VAll.nil
            intro g3861
            refine VA.oneC (i := 4) (listed' := LB 13 959) (by kernel_rfl) rfl (o_call0 FO21 (tarryref13_Came.ok k t9 t10 t11 t12 t13 t14 t15 t16 t17 t18 t19 t20 t21 t22 t23 t24 t25 t26 t27 t28 t29 t3781 t3782 t3783 t3784 t3785 t3786 t3787 t3788 t3789 t3790 t3791 t3792 t3793 t3794 t3795 t3796 t3797 t3798 t3799 t3800 t3801 t3802 t3803 hA3804) rfl rfl (ltn rfl) (All_of .nil)) rfl (by kernel_rfl) ?_
            rintro _ _ _ ⟨rfl, rfl, rfl⟩
            refine ⟨⟨trivial, ⟨⟨6, rfl⟩, ⟨7, rfl⟩, trivial⟩, trivial⟩, ?_⟩
            refine VA.oneC (i := 6) (listed' := LB 13 1023) (by kernel_rfl) rfl (o_call0 FO22 (tarryref13_End.ok k t9 t10 t11 t12 t13 t14 t15 t16 t17 t18 t19 t20 t21 t22 t23 t24 t25 t26 t27 t28 t29 t3837 t3838 t3839 t3840 t3841 t3842 t3843 t3844 t3845 t3846 t3847 t3848 t3849 t3850 t3851 t3852 t3853 t3854 t3855 t3856 t3857 t3858 t3859 hA3860) rfl rfl (ltn rfl) (All_of .nil)) rfl (by kernel_rfl) ?_
            rintro _ _ _ ⟨rfl, rfl, rfl⟩
            refine ⟨⟨trivial, ⟨⟨6, rfl⟩, ⟨7, rfl⟩, trivial⟩, trivial⟩, ?_⟩
            refine VA.one1 (i := 10) (listed' := LB 13 2047) (by kernel_rfl) rfl (o_store 0 23 rfl rfl rfl TI35 (.agg (.of rfl)) rfl (len rfl)) rfl (by kernel_rfl) ⟨trivial, ⟨⟨6, rfl⟩, ⟨7, rfl⟩, trivial⟩, trivial⟩ ?_
            refine VA.one1 (i := 11) (listed' := LB 13 4095) (by kernel_rfl) rfl (o_store 2 23 rfl rfl rfl TI35 (.agg (.of rfl)) rfl (len rfl)) rfl (by kernel_rfl) ⟨trivial, ⟨⟨6, rfl⟩, ⟨7, rfl⟩, trivial⟩, trivial⟩ ?_
            refine VA.one1 (i := 12) (listed' := LB 13 8191) (by kernel_rfl) rfl (o_store 1 23 rfl rfl rfl TI35 (.agg (.of rfl)) rfl (len rfl)) rfl (by kernel_rfl) ⟨trivial, ⟨⟨6, rfl⟩, ⟨7, rfl⟩, trivial⟩, trivial⟩ ?_
            refine VA.done (by kernel_rfl) ?_
            exact VN.meet3 g3861 g3862 g3863 [1, 2, 0, 3, 4, 5] [] trivial ⟨rfl, ⟨rfl, rfl, rfl, rfl, rfl, rfl, rfl, rfl, rfl, rfl, rfl, trivial⟩, trivial, rfl, by decide, rfl, by decide⟩
          refine VAll.consG (listed' := LB 13 427) rfl (o_alloc Z35 ZL35 (ltn rfl)) rfl (by kernel_rfl) (fun _ => ⟨trivial, ⟨⟨5, rfl⟩, ⟨6, rfl⟩, trivial⟩, trivial⟩) ?_ ?_
          · intro g3861
            refine VA.all [2, 9] (by kernel_rfl) (by simp) ?_
            refine VAll.consC (listed' := LB 13 431) rfl (o_call0 FO20 (tarryref13_Send.ok k t9 t10 t11 t12 t13 t14 t15 t16 t17 t18 t19 t20 t21 t22 t23 t24 t25 t26 t27 t28 t29 (a1_0.extract 0 ((mn (a1_0.size : Int) 18).toNat)) a1_1 a1_2 a1_3 t3733 t3734 t3735 t3736 t3737 t3738 t3739 t3740 t3741 t3742 t3743 t3744 t3745 t3746 t3747 t3748 t3749 t3750 t3751 t3752 t3753 t3754 t3755 hA3756) rfl rfl (ltn rfl) (All_of .nil)) rfl (by kernel_rfl) ?_ ?_
            · rintro _ _ _ ⟨rfl, rfl, rfl⟩
              refine ⟨⟨trivial, ⟨⟨5, rfl⟩, ⟨6, rfl⟩, trivial⟩, trivial⟩, ?_⟩
              refine VA.all [4, 9] (by kernel_rfl) (by simp) ?_
              refine VAll.consC (listed' := LB 13 447) rfl (o_call0 FO21 (tarryref13_Came.ok k t9 t10 t11 t12 t13 t14 t15 t16 t17 t18 t19 t20 t21 t22 t23 t24 t25 t26 t27 t28 t29 t3781 t3782 t3783 t3784 t3785 t3786 t3787 t3788 t3789 t3790 t3791 t3792 t3793 t3794 t3795 t3796 t3797 t3798 t3799 t3800 t3801 t3802 t3803 hA3804) rfl rfl (ltn rfl) (All_of .nil)) rfl (by kernel_rfl) ?_ ?_
              · rintro _ _ _ ⟨rfl, rfl, rfl⟩
                refine ⟨⟨trivial, ⟨⟨5, rfl⟩, ⟨6, rfl⟩, trivial⟩, trivial⟩, ?_⟩
                refine VA.all [6, 9] (by kernel_rfl) (by simp) ?_
                refine VAll.consC (listed' := LB 13 511) rfl (o_call0 FO22 (tarryref13_End.ok k t9 t10 t11 t12 t13 t14 t15 t16 t17 t18 t19 t20 t21 t22 t23 t24 t25 t26 t27 t28 t29 t3837 t3838 t3839 t3840 t3841 t3842 t3843 t3844 t3845 t3846 t3847 t3848 t3849 t3850 t3851 t3852 t3853 t3854 t3855 t3856 t3857 t3858 t3859 hA3860) rfl rfl (ltn rfl) (All_of .nil)) rfl (by kernel_rfl) ?_ ?_
                · rintro _ _ _ ⟨rfl, rfl, rfl⟩
                  refine ⟨⟨trivial, ⟨⟨5, rfl⟩, ⟨6, rfl⟩, trivial⟩, trivial⟩, ?_⟩
                  refine VA.oneG (i := 9) (listed' := LB 13 1023) (by kernel_rfl) rfl (o_alloc Z35 ZL35 (ltn rfl)) rfl (by kernel_rfl) (fun _ => ⟨trivial, ⟨⟨6, rfl⟩, ⟨7, rfl⟩, trivial⟩, trivial⟩) ?_
                  intro g3863
                  refine VA.one1 (i := 10) (listed' := LB 13 2047) (by kernel_rfl) rfl (o_store 1 23 rfl rfl rfl TI35 (.agg (.of rfl)) rfl (len rfl)) rfl (by kernel_rfl) ⟨trivial, ⟨⟨6, rfl⟩, ⟨7, rfl⟩, trivial⟩, trivial⟩ ?_
                  refine VA.one1 (i := 11) (listed' := LB 13 4095) (by kernel_rfl) rfl (o_store 2 23 rfl rfl rfl TI35 (.agg (.of rfl)) rfl (len rfl)) rfl (by kernel_rfl) ⟨trivial, ⟨⟨6, rfl⟩, ⟨7, rfl⟩, trivial⟩, trivial⟩ ?_
                  refine VA.one1 (i := 12) (listed' := LB 13 8191) (by kernel_rfl) rfl (o_store 0 23 rfl rfl rfl TI35 (.agg (.of rfl)) rfl (len rfl)) rfl (by kernel_rfl) ⟨trivial, ⟨⟨6, rfl⟩, ⟨7, rfl⟩, trivial⟩, trivial⟩ ?_
                  refine VA.done (by kernel_rfl) ?_
                  exact VN.meet3 g3861 g3862 g3863 [0, 2, 1, 3, 4, 5] [] trivial ⟨rfl, ⟨rfl, rfl, rfl, rfl, rfl, rfl, rfl, rfl, rfl, rfl, rfl, trivial⟩, trivial, rfl, by decide, rfl, by decide⟩
                refine VAll.consG (listed' := LB 13 959) rfl (o_alloc Z35 ZL35 (ltn rfl)) rfl (by kernel_rfl) (fun _ => ⟨trivial, ⟨⟨6, rfl⟩, ⟨7, rfl⟩, trivial⟩, trivial⟩) ?_ VAll.nil
                intro g3863
                refine VA.oneC (i := 6) (listed' := LB 13 1023) (by kernel_rfl) rfl (o_call0 FO22 (tarryref13_End.ok k t9 t10 t11 t12 t13 t14 t15 t16 t17 t18 t19 t20 t21 t22 t23 t24 t25 t26 t27 t28 t29 t3837 t3838 t3839 t3840 t3841 t3842 t3843 t3844 t3845 t3846 t3847 t3848 t3849 t3850 t3851 t3852 t3853 t3854 t3855 t3856 t3857 t3858 t3859 hA3860) rfl rfl (ltn rfl) (All_of .nil)) rfl (by kernel_rfl) ?_
                rintro _ _ _ ⟨rfl, rfl, rfl⟩
                refine ⟨⟨trivial, ⟨⟨6, rfl⟩, ⟨7, rfl⟩, trivial⟩, trivial⟩, ?_⟩
                refine VA.one1 (i := 10) (listed' := LB 13 2047) (by kernel_rfl) rfl (o_store 1 23 rfl rfl rfl TI35 (.agg (.of rfl)) rfl (len rfl)) rfl (by kernel_rfl) ⟨trivial, ⟨⟨6, rfl⟩, ⟨7, rfl⟩, trivial⟩, trivial⟩ ?_
                refine VA.one1 (i := 11) (listed' := LB 13 4095) (by kernel_rfl) rfl (o_store 2 23 rfl rfl rfl TI35 (.agg (.of rfl)) rfl (len rfl)) rfl (by kernel_rfl) ⟨trivial, ⟨⟨6, rfl⟩, ⟨7, rfl⟩, trivial⟩, trivial⟩ ?_
                refine VA.one1 (i := 12) (listed' := LB 13 8191) (by kernel_rfl) rfl (o_store 0 23 rfl rfl rfl TI35 (.agg (.of rfl)) rfl (len rfl)) rfl (by kernel_rfl) ⟨trivial, ⟨⟨6, rfl⟩, ⟨7, rfl⟩, trivial⟩, trivial⟩ ?_
                refine VA.done (by kernel_rfl) ?_
                exact VN.meet3 g3861 g3862 g3863 [0, 2, 1, 3, 4, 5] [] trivial ⟨rfl, ⟨rfl, rfl, rfl, rfl, rfl, rfl, rfl, rfl, rfl, rfl, rfl, trivial⟩, trivial, rfl, by decide, rfl, by decide⟩
              refine VAll.consG (listed' := LB 13 943) rfl (o_alloc Z35 ZL35 (ltn rfl)) rfl (by kernel_rfl) (fun _ => ⟨trivial, ⟨⟨6, rfl⟩, ⟨7, rfl⟩, trivial⟩, trivial⟩) ?_ VAll.nil
              intro g3863
              refine VA.oneC (i := 4) (listed' := LB 13 959) (by kernel_rfl) rfl (o_call0 FO21 (tarryref13_Came.ok k t9 t10 t11 t12 t13 t14 t15 t16 t17 t18 t19 t20 t21 t22 t23 t24 t25 t26 t27 t28 t29 t3781 t3782 t3783 t3784 t3785 t3786 t3787 t3788 t3789 t3790 t3791 t3792 t3793 t3794 t3795 t3796 t3797 t3798 t3799 t3800 t3801 t3802 t3803 hA3804) rfl rfl (ltn rfl) (All_of .nil)) rfl (by kernel_rfl) ?_
              rintro _ _ _ ⟨rfl, rfl, rfl⟩
              refine ⟨⟨trivial, ⟨⟨6, rfl⟩, ⟨7, rfl⟩, trivial⟩, trivial⟩, ?_⟩
              refine VA.oneC (i := 6) (listed' := LB 13 1023) (by kernel_rfl) rfl (o_call0 FO22 (tarryref13_End.ok k t9 t10 t11 t12 t13 t14 t15 t16 t17 t18 t19 t20 t21 t22 t23 t24 t25 t26 t27 t28 t29 t3837 t3838 t3839 t3840 t3841 t3842 t3843 t3844 t3845 t3846 t3847 t3848 t3849 t3850 t3851 t3852 t3853 t3854 t3855 t3856 t3857 t3858 t3859 hA3860) rfl rfl (ltn rfl) (All_of .nil)) rfl (by kernel_rfl) ?_
              rintro _ _ _ ⟨rfl, rfl, rfl⟩
              refine ⟨⟨trivial, ⟨⟨6, rfl⟩, ⟨7, rfl⟩, trivial⟩, trivial⟩, ?_⟩
              refine VA.one1 (i := 10) (listed' := LB 13 2047) (by kernel_rfl) rfl (o_store 1 23 rfl rfl rfl TI35 (.agg (.of rfl)) rfl (len rfl)) rfl (by kernel_rfl) ⟨trivial, ⟨⟨6, rfl⟩, ⟨7, rfl⟩, trivial⟩, trivial⟩ ?_
              refine VA.one1 (i := 11) (listed' := LB 13 4095) (by kernel_rfl) rfl (o_store 2 23 rfl rfl rfl TI35 (.agg (.of rfl)) rfl (len rfl)) rfl (by kernel_rfl) ⟨trivial, ⟨⟨6, rfl⟩, ⟨7, rfl⟩, trivial⟩, trivial⟩ ?_
              refine VA.one1 (i := 12) (listed' := LB 13 8191) (by kernel_rfl) rfl (o_store 0 23 rfl rfl rfl TI35 (.agg (.of rfl)) rfl (len rfl)) rfl (by kernel_rfl) ⟨trivial, ⟨⟨6, rfl⟩, ⟨7, rfl⟩, trivial⟩, trivial⟩ ?_
              refine VA.done (by kernel_rfl) ?_
              exact VN.meet3 g3861 g3862 g3863 [0, 2, 1, 3, 4, 5] [] trivial ⟨rfl, ⟨rfl, rfl, rfl, rfl, rfl, rfl, rfl, rfl, rfl, rfl, rfl, trivial⟩, trivial, rfl, by decide, rfl, by decide⟩
            refine VAll.consG (listed' := LB 13 939) rfl (o_alloc Z35 ZL35 (ltn rfl)) rfl (by kernel_rfl) (fun _ => ⟨trivial, ⟨⟨6, rfl⟩, ⟨7, rfl⟩, trivial⟩, trivial⟩) ?_ VAll.nil
            intro g3863
            refine VA.oneC (i := 2) (listed' := LB 13 943) (by kernel_rfl) rfl (o_call0 FO20 (tarryref13_Send.ok k t9 t10 t11 t12 t13 t14 t15 t16 t17 t18 t19 t20 t21 t22 t23 t24 t25 t26 t27 t28 t29 (a1_0.extract 0 ((mn (a1_0.size : Int) 18).toNat)) a1_1 a1_2 a1_3 t3733 t3734 t3735 t3736 t3737 t3738 t3739 t3740 t3741 t3742 t3743 t3744 t3745 t3746 t3747 t3748 t3749 t3750 t3751 t3752 t3753 t3754 t3755 hA3756) rfl rfl (ltn rfl) (All_of .nil)) rfl (by kernel_rfl) ?_
            rintro _ _ _ ⟨rfl, rfl, rfl⟩
            refine ⟨⟨trivial, ⟨⟨6, rfl⟩, ⟨7, rfl⟩, trivial⟩, trivial⟩, ?_⟩
            refine VA.oneC (i := 4) (listed' := LB 13 959) (by kernel_rfl) rfl (o_call0 FO21 (tarryref13_Came.ok k t9 t10 t11 t12 t13 t14 t15 t16 t17 t18 t19 t20 t21 t22 t23 t24 t25 t26 t27 t28 t29 t3781 t3782 t3783 t3784 t3785 t3786 t3787 t3788 t3789 t3790 t3791 t3792 t3793 t3794 t3795 t3796 t3797 t3798 t3799 t3800 t3801 t3802 t3803 hA3804) rfl rfl (ltn rfl) (All_of .nil)) rfl (by kernel_rfl) ?_
            rintro _ _ _ ⟨rfl, rfl, rfl⟩
            refine ⟨⟨trivial, ⟨⟨6, rfl⟩, ⟨7, rfl⟩, trivial⟩, trivial⟩, ?_⟩
            refine VA.oneC (i := 6) (listed' := LB 13 1023) (by kernel_rfl) rfl (o_call0 FO22 (tarryref13_End.ok k t9 t10 t11 t12 t13 t14 t15 t16 t17 t18 t19 t20 t21 t22 t23 t24 t25 t26 t27 t28 t29 t3837 t3838 t3839 t3840 t3841 t3842 t3843 t3844 t3845 t3846 t3847 t3848 t3849 t3850 t3851 t3852 t3853 t3854 t3855 t3856 t3857 t3858 t3859 hA3860) rfl rfl (ltn rfl) (All_of .nil)) rfl (by kernel_rfl) ?_
            rintro _ _ _ ⟨rfl, rfl, rfl⟩
            refine ⟨⟨trivial, ⟨⟨6, rfl⟩, ⟨7, rfl⟩, trivial⟩, trivial⟩, ?_⟩
            refine VA.one1 (i := 10) (listed' := LB 13 2047) (by kernel_rfl) rfl (o_store 1 23 rfl rfl rfl TI35 (.agg (.of rfl)) rfl (len rfl)) rfl (by kernel_rfl) ⟨trivial, ⟨⟨6, rfl⟩, ⟨7, rfl⟩, trivial⟩, trivial⟩ ?_
            refine VA.one1 (i := 11) (listed' := LB 13 4095) (by kernel_rfl) rfl (o_store 2 23 rfl rfl rfl TI35 (.agg (.of rfl)) rfl (len rfl)) rfl (by kernel_rfl) ⟨trivial, ⟨⟨6, rfl⟩, ⟨7, rfl⟩, trivial⟩, trivial⟩ ?_
            refine VA.one1 (i := 12) (listed' := LB 13 8191) (by kernel_rfl) rfl (o_store 0 23 rfl rfl rfl TI35 (.agg (.of rfl)) rfl (len rfl)) rfl (by kernel_rfl) ⟨trivial, ⟨⟨6, rfl⟩, ⟨7, rfl⟩, trivial⟩, trivial⟩ ?_
            refine VA.done (by kernel_rfl) ?_
            exact VN.meet3 g3861 g3862 g3863 [0, 2, 1, 3, 4, 5] [] trivial ⟨rfl, ⟨rfl, rfl, rfl, rfl, rfl, rfl, rfl, rfl, rfl, rfl, rfl, trivial⟩, trivial, rfl, by decide, rfl, by decide⟩
          refine VAll.consG (listed' := LB 13 811) rfl (o_alloc Z35 ZL35 (ltn rfl)) rfl (by kernel_rfl) (fun _ => ⟨trivial, ⟨⟨5, rfl⟩, ⟨6, rfl⟩, trivial⟩, trivial⟩) ?_ VAll.nil
          intro g3863
          refine VA.all [2, 7] (by kernel_rfl) (by simp) ?_
          refine VAll.consC (listed' := LB 13 815) rfl (o_call0 FO20 (tarryref13_Send.ok k t9 t10 t11 t12 t13 t14 t15 t16 t17 t18 t19 t20 t21 t22 t23 t24 t25 t26 t27 t28 t29 (a1_0.extract 0 ((mn (a1_0.size : Int) 18).toNat)) a1_1 a1_2 a1_3 t3733 t3734 t3735 t3736 t3737 t3738 t3739 t3740 t3741 t3742 t3743 t3744 t3745 t3746 t3747 t3748 t3749 t3750 t3751 t3752 t3753 t3754 t3755 hA3756) rfl rfl (ltn rfl) (All_of .nil)) rfl (by kernel_rfl) ?_ ?_
          · rintro _ _ _ ⟨rfl, rfl, rfl⟩
            refine ⟨⟨trivial, ⟨⟨5, rfl⟩, ⟨6, rfl⟩, trivial⟩, trivial⟩, ?_⟩
            refine VA.all [4, 7] (by kernel_rfl) (by simp) ?_
            refine VAll.consC (listed' := LB 13 831) rfl (o_call0 FO21 (tarryref13_Came.ok k t9 t10 t11 t12 t13 t14 t15 t16 t17 t18 t19 t20 t21 t22 t23 t24 t25 t26 t27 t28 t29 t3781 t3782 t3783 t3784 t3785 t3786 t3787 t3788 t3789 t3790 t3791 t3792 t3793 t3794 t3795 t3796 t3797 t3798 t3799 t3800 t3801 t3802 t3803 hA3804) rfl rfl (ltn rfl) (All_of .nil)) rfl (by kernel_rfl) ?_ ?_
            · rintro _ _ _ ⟨rfl, rfl, rfl⟩
              refine ⟨⟨trivial, ⟨⟨5, rfl⟩, ⟨6, rfl⟩, trivial⟩, trivial⟩, ?_⟩
              refine VA.all [6, 7] (by kernel_rfl) (by simp) ?_
              refine VAll.consC (listed' := LB 13 895) rfl (o_call0 FO22 (tarryref13_End.ok k t9 t10 t11 t12 t13 t14 t15 t16 t17 t18 t19 t20 t21 t22 t23 t24 t25 t26 t27 t28 t29 t3837 t3838 t3839 t3840 t3841 t3842 t3843 t3844 t3845 t3846 t3847 t3848 t3849 t3850 t3851 t3852 t3853 t3854 t3855 t3856 t3857 t3858 t3859 hA3860) rfl rfl (ltn rfl) (All_of .nil)) rfl (by kernel_rfl) ?_ ?_
              · rintro _ _ _ ⟨rfl, rfl, rfl⟩
                refine ⟨⟨trivial, ⟨⟨5, rfl⟩, ⟨6, rfl⟩, trivial⟩, trivial⟩, ?_⟩
                refine VA.oneG (i := 7) (listed' := LB 13 1023) (by kernel_rfl) rfl (o_alloc Z35 ZL35 (ltn rfl)) rfl (by kernel_rfl) (fun _ => ⟨trivial, ⟨⟨6, rfl⟩, ⟨7, rfl⟩, trivial⟩, trivial⟩) ?_
                intro g3861
                refine VA.one1 (i := 10) (listed' := LB 13 2047) (by kernel_rfl) rfl (o_store 0 23 rfl rfl rfl TI35 (.agg (.of rfl)) rfl (len rfl)) rfl (by kernel_rfl) ⟨trivial, ⟨⟨6, rfl⟩, ⟨7, rfl⟩, trivial⟩, trivial⟩ ?_
                refine VA.one1 (i := 11) (listed' := LB 13 4095) (by kernel_rfl) rfl (o_store 2 23 rfl rfl rfl TI35 (.agg (.of rfl)) rfl (len rfl)) rfl (by kernel_rfl) ⟨trivial, ⟨⟨6, rfl⟩, ⟨7, rfl⟩, trivial⟩, trivial⟩ ?_
                refine VA.one1 (i := 12) (listed' := LB 13 8191) (by kernel_rfl) rfl (o_store 1 23 rfl rfl rfl TI35 (.agg (.of rfl)) rfl (len rfl)) rfl (by kernel_rfl) ⟨trivial, ⟨⟨6, rfl⟩, ⟨7, rfl⟩, trivial⟩, trivial⟩ ?_
                refine VA.done (by kernel_rfl) ?_
                exact VN.meet3 g3861 g3862 g3863 [1, 2, 0, 3, 4, 5] [] trivial ⟨rfl, ⟨rfl, rfl, rfl, rfl, rfl, rfl, rfl, rfl, rfl, rfl, rfl, trivial⟩, trivial, rfl, by decide, rfl, by decide⟩
              refine VAll.consG (listed' := LB 13 959) rfl (o_alloc Z35 ZL35 (ltn rfl)) rfl (by kernel_rfl) (fun _ => ⟨trivial, ⟨⟨6, rfl⟩, ⟨7, rfl⟩, trivial⟩, trivial⟩) ?_ VAll.nil
              intro g3861
              refine VA.oneC (i := 6) (listed' := LB 13 1023) (by kernel_rfl) rfl (o_call0 FO22 (tarryref13_End.ok k t9 t10 t11 t12 t13 t14 t15 t16 t17 t18 t19 t20 t21 t22 t23 t24 t25 t26 t27 t28 t29 t3837 t3838 t3839 t3840 t3841 t3842 t3843 t3844 t3845 t3846 t3847 t3848 t3849 t3850 t3851 t3852 t3853 t3854 t3855 t3856 t3857 t3858 t3859 hA3860) rfl rfl (ltn rfl) (All_of .nil)) rfl (by kernel_rfl) ?_
              rintro _ _ _ ⟨rfl, rfl, rfl⟩
              refine ⟨⟨trivial, ⟨⟨6, rfl⟩, ⟨7, rfl⟩, trivial⟩, trivial⟩, ?_⟩
              refine VA.one1 (i := 10) (listed' := LB 13 2047) (by kernel_rfl) rfl (o_store 0 23 rfl rfl rfl TI35 (.agg (.of rfl)) rfl (len rfl)) rfl (by kernel_rfl) ⟨trivial, ⟨⟨6, rfl⟩, ⟨7, rfl⟩, trivial⟩, trivial⟩ ?_
              refine VA.one1 (i := 11) (listed' := LB 13 4095) (by kernel_rfl) rfl (o_store 2 23 rfl rfl rfl TI35 (.agg (.of rfl)) rfl (len rfl)) rfl (by kernel_rfl) ⟨trivial, ⟨⟨6, rfl⟩, ⟨7, rfl⟩, trivial⟩, trivial⟩ ?_
              refine VA.one1 (i := 12) (listed' := LB 13 8191) (by kernel_rfl) rfl (o_store 1 23 rfl rfl rfl TI35 (.agg (.of rfl)) rfl (len rfl)) rfl (by kernel_rfl) ⟨trivial, ⟨⟨6, rfl⟩, ⟨7, rfl⟩, trivial⟩, trivial⟩ ?_
              refine VA.done (by kernel_rfl) ?_
              exact VN.meet3 g3861 g3862 g3863 [1, 2, 0, 3, 4, 5] [] trivial ⟨rfl, ⟨rfl, rfl, rfl, rfl, rfl, rfl, rfl, rfl, rfl, rfl, rfl, trivial⟩, trivial, rfl, by decide, rfl, by decide⟩
            refine VAll.consG (listed' := LB 13 943) rfl (o_alloc Z35 ZL35 (ltn rfl)) rfl (by kernel_rfl) (fun _ => ⟨trivial, ⟨⟨6, rfl⟩, ⟨7, rfl⟩, trivial⟩, trivial⟩) ?_ VAll.nil
            intro g3861
            refine VA.oneC (i := 4) (listed' := LB 13 959) (by kernel_rfl) rfl (o_call0 FO21 (tarryref13_Came.ok k t9 t10 t11 t12 t13 t14 t15 t16 t17 t18 t19 t20 t21 t22 t23 t24 t25 t26 t27 t28 t29 t3781 t3782 t3783 t3784 t3785 t3786 t3787 t3788 t3789 t3790 t3791 t3792 t3793 t3794 t3795 t3796 t3797 t3798 t3799 t3800 t3801 t3802 t3803 hA3804) rfl rfl (ltn rfl) (All_of .nil)) rfl (by kernel_rfl) ?_
            rintro _ _ _ ⟨rfl, rfl, rfl⟩
            refine ⟨⟨trivial, ⟨⟨6, rfl⟩, ⟨7, rfl⟩, trivial⟩, trivial⟩, ?_⟩
            refine VA.oneC (i := 6) (listed' := LB 13 1023) (by kernel_rfl) rfl (o_call0 FO22 (tarryref13_End.ok k t9 t10 t11 t12 t13 t14 t15 t16 t17 t18 t19 t20 t21 t22 t23 t24 t25 t26 t27 t28 t29 t3837 t3838 t3839 t3840 t3841 t3842 t3843 t3844 t3845 t3846 t3847 t3848 t3849 t3850 t3851 t3852 t3853 t3854 t3855 t3856 t3857 t3858 t3859 hA3860) rfl rfl (ltn rfl) (All_of .nil)) rfl (by kernel_rfl) ?_
            rintro _ _ _ ⟨rfl, rfl, rfl⟩
            refine ⟨⟨trivial, ⟨⟨6, rfl⟩, ⟨7, rfl⟩, trivial⟩, trivial⟩, ?_⟩
            refine VA.one1 (i := 10) (listed' := LB 13 2047) (by kernel_rfl) rfl (o_store 0 23 rfl rfl rfl TI35 (.agg (.of rfl)) rfl (len rfl)) rfl (by kernel_rfl) ⟨trivial, ⟨⟨6, rfl⟩, ⟨7, rfl⟩, trivial⟩, trivial⟩ ?_
            refine VA.one1 (i := 11) (listed' := LB 13 4095) (by kernel_rfl) rfl (o_store 2 23 rfl rfl rfl TI35 (.agg (.of rfl)) rfl (len rfl)) rfl (by kernel_rfl) ⟨trivial, ⟨⟨6, rfl⟩, ⟨7, rfl⟩, trivial⟩, trivial⟩ ?_
            refine VA.one1 (i := 12) (listed' := LB 13 8191) (by kernel_rfl) rfl (o_store 1 23 rfl rfl rfl TI35 (.agg (.of rfl)) rfl (len rfl)) rfl (by kernel_rfl) ⟨trivial, ⟨⟨6, rfl⟩, ⟨7, rfl⟩, trivial⟩, trivial⟩ ?_
            refine VA.done (by kernel_rfl) ?_
            exact VN.meet3 g3861 g3862 g3863 [1, 2, 0, 3, 4, 5] [] trivial ⟨rfl, ⟨rfl, rfl, rfl, rfl, rfl, rfl, rfl, rfl, rfl, rfl, rfl, trivial⟩, trivial, rfl, by decide, rfl, by decide⟩
          refine VAll.consG (listed' := LB 13 939) rfl (o_alloc Z35 ZL35 (ltn rfl)) rfl (by kernel_rfl) (fun _ => ⟨trivial, ⟨⟨6, rfl⟩, ⟨7, rfl⟩, trivial⟩, trivial⟩) ?_ VAll.nil
          intro g3861
          refine VA.oneC (i := 2) (listed' := LB 13 943) (by kernel_rfl) rfl (o_call0 FO20 (tarryref13_Send.ok k t9 t10 t11 t12 t13 t14 t15 t16 t17 t18 t19 t20 t21 t22 t23 t24 t25 t26 t27 t28 t29 (a1_0.extract 0 ((mn (a1_0.size : Int) 18).toNat)) a1_1 a1_2 a1_3 t3733 t3734 t3735 t3736 t3737 t3738 t3739 t3740 t3741 t3742 t3743 t3744 t3745 t3746 t3747 t3748 t3749 t3750 t3751 t3752 t3753 t3754 t3755 hA3756) rfl rfl (ltn rfl) (All_of .nil)) rfl (by kernel_rfl) ?_
          rintro _ _ _ ⟨rfl, rfl, rfl⟩
          refine ⟨⟨trivial, ⟨⟨6, rfl⟩, ⟨7, rfl⟩, trivial⟩, trivial⟩, ?_⟩
          refine VA.oneC (i := 4) (listed' := LB 13 959) (by kernel_rfl) rfl (o_call0 FO21 (tarryref13_Came.ok k t9 t10 t11 t12 t13 t14 t15 t16 t17 t18 t19 t20 t21 t22 t23 t24 t25 t26 t27 t28 t29 t3781 t3782 t3783 t3784 t3785 t3786 t3787 t3788 t3789 t3790 t3791 t3792 t3793 t3794 t3795 t3796 t3797 t3798 t3799 t3800 t3801 t3802 t3803 hA3804) rfl rfl (ltn rfl) (All_of .nil)) rfl (by kernel_rfl) ?_
          rintro _ _ _ ⟨rfl, rfl, rfl⟩
          refine ⟨⟨trivial, ⟨⟨6, rfl⟩, ⟨7, rfl⟩, trivial⟩, trivial⟩, ?_⟩
          refine VA.oneC (i := 6) (listed' := LB 13 1023) (by kernel_rfl) rfl (o_call0 FO22 (tarryref13_End.ok k t9 t10 t11 t12 t13 t14 t15 t16 t17 t18 t19 t20 t21 t22 t23 t24 t25 t26 t27 t28 t29 t3837 t3838 t3839 t3840 t3841 t3842 t3843 t3844 t3845 t3846 t3847 t3848 t3849 t3850 t3851 t3852 t3853 t3854 t3855 t3856 t3857 t3858 t3859 hA3860) rfl rfl (ltn rfl) (All_of .nil)) rfl (by kernel_rfl) ?_
          rintro _ _ _ ⟨rfl, rfl, rfl⟩
          refine ⟨⟨trivial, ⟨⟨6, rfl⟩, ⟨7, rfl⟩, trivial⟩, trivial⟩, ?_⟩
          refine VA.one1 (i := 10) (listed' := LB 13 2047) (by kernel_rfl) rfl (o_store 0 23 rfl rfl rfl TI35 (.agg (.of rfl)) rfl (len rfl)) rfl (by kernel_rfl) ⟨trivial, ⟨⟨6, rfl⟩, ⟨7, rfl⟩, trivial⟩, trivial⟩ ?_
          refine VA.one1 (i := 11) (listed' := LB 13 4095) (by kernel_rfl) rfl (o_store 2 23 rfl rfl rfl TI35 (.agg (.of rfl)) rfl (len rfl)) rfl (by kernel_rfl) ⟨trivial, ⟨⟨6, rfl⟩, ⟨7, rfl⟩, trivial⟩, trivial⟩ ?_
          refine VA.one1 (i := 12) (listed' := LB 13 8191) (by kernel_rfl) rfl (o_store 1 23 rfl rfl rfl TI35 (.agg (.of rfl)) rfl (len rfl)) rfl (by kernel_rfl) ⟨trivial, ⟨⟨6, rfl⟩, ⟨7, rfl⟩, trivial⟩, trivial⟩ ?_
          refine VA.done (by kernel_rfl) ?_
          exact VN.meet3 g3861 g3862 g3863 [1, 2, 0, 3, 4, 5] [] trivial ⟨rfl, ⟨rfl, rfl, rfl, rfl, rfl, rfl, rfl, rfl, rfl, rfl, rfl, trivial⟩, trivial, rfl, by decide, rfl, by decide⟩
        refine VAll.consG (listed' := LB 13 555) rfl (o_alloc Z35 ZL35 (ltn rfl)) rfl (by kernel_rfl) (fun _ => ⟨trivial, ⟨⟨4, rfl⟩, ⟨5, rfl⟩, trivial⟩, trivial⟩) ?_ VAll.nil
        intro g3863
        refine VA.all [2, 7, 8] (by kernel_rfl) (by simp) ?_
        refine VAll.consC (listed' := LB 13 559) rfl (o_call0 FO20 (tarryref13_Send.ok k t9 t10 t11 t12 t13 t14 t15 t16 t17 t18 t19 t20 t21 t22 t23 t24 t25 t26 t27 t28 t29 (a1_0.extract 0 ((mn (a1_0.size : Int) 18).toNat)) a1_1 a1_2 a1_3 t3733 t3734 t3735 t3736 t3737 t3738 t3739 t3740 t3741 t3742 t3743 t3744 t3745 t3746 t3747 t3748 t3749 t3750 t3751 t3752 t3753 t3754 t3755 hA3756) rfl rfl (ltn rfl) (All_of .nil)) rfl (by kernel_rfl) ?_ ?_
        · rintro _ _ _ ⟨rfl, rfl, rfl⟩
          refine ⟨⟨trivial, ⟨⟨4, rfl⟩, ⟨5, rfl⟩, trivial⟩, trivial⟩, ?_⟩
          refine VA.all [4, 7, 8] (by kernel_rfl) (by simp) ?_
          refine VAll.consC (listed' := LB 13 575) rfl (o_call0 FO21 (tarryref13_Came.ok k t9 t10 t11 t12 t13 t14 t15 t16 t17 t18 t19 t20 t21 t22 t23 t24 t25 t26 t27 t28 t29 t3781 t3782 t3783 t3784 t3785 t3786 t3787 t3788 t3789 t3790 t3791 t3792 t3793 t3794 t3795 t3796 t3797 t3798 t3799 t3800 t3801 t3802 t3803 hA3804) rfl rfl (ltn rfl) (All_of .nil)) rfl (by kernel_rfl) ?_ ?_
          · rintro _ _ _ ⟨rfl, rfl, rfl⟩
            refine ⟨⟨trivial, ⟨⟨4, rfl⟩, ⟨5, rfl⟩, trivial⟩, trivial⟩, ?_⟩
            refine VA.all [6, 7, 8] (by kernel_rfl) (by simp) ?_
            refine VAll.consC (listed' := LB 13 639) rfl (o_call0 FO22 (tarryref13_End.ok k t9 t10 t11 t12 t13 t14 t15 t16 t17 t18 t19 t20 t21 t22 t23 t24 t25 t26 t27 t28 t29 t3837 t3838 t3839 t3840 t3841 t3842 t3843 t3844 t3845 t3846 t3847 t3848 t3849 t3850 t3851 t3852 t3853 t3854 t3855 t3856 t3857 t3858 t3859 hA3860) rfl rfl (ltn rfl) (All_of .nil)) rfl (by kernel_rfl) ?_ ?_
            · rintro _ _ _ ⟨rfl, rfl, rfl⟩
              refine ⟨⟨trivial, ⟨⟨4, rfl⟩, ⟨5, rfl⟩, trivial⟩, trivial⟩, ?_⟩
              refine VA.all [7, 8] (by kernel_rfl) (by simp) ?_
              refine VAll.consG (listed' := LB 13 767) rfl (o_alloc Z35 ZL35 (ltn rfl)) rfl (by kernel_rfl) (fun _ => ⟨trivial, ⟨⟨5, rfl⟩, ⟨6, rfl⟩, trivial⟩, trivial⟩) ?_ ?_
              · intro g3861
                refine VA.oneG (i := 8) (listed' := LB 13 1023) (by kernel_rfl) rfl (o_alloc Z35 ZL35 (ltn rfl)) rfl (by kernel_rfl) (fun _ => ⟨trivial, ⟨⟨6, rfl⟩, ⟨7, rfl⟩, trivial⟩, trivial⟩) ?_
                intro g3862
                refine VA.one1 (i := 10) (listed' := LB 13 2047) (by kernel_rfl) rfl (o_store 1 23 rfl rfl rfl TI35 (.agg (.of rfl)) rfl (len rfl)) rfl (by kernel_rfl) ⟨trivial, ⟨⟨6, rfl⟩, ⟨7, rfl⟩, trivial⟩, trivial⟩ ?_
                refine VA.one1 (i := 11) (listed' := LB 13 4095) (by kernel_rfl) rfl (o_store 0 23 rfl rfl rfl TI35 (.agg (.of rfl)) rfl (len rfl)) rfl (by kernel_rfl) ⟨trivial, ⟨⟨6, rfl⟩, ⟨7, rfl⟩, trivial⟩, trivial⟩ ?_
                refine VA.one1 (i := 12) (listed' := LB 13 8191) (by kernel_rfl) rfl (o_store 2 23 rfl rfl rfl TI35 (.agg (.of rfl)) rfl (len rfl)) rfl (by kernel_rfl) ⟨trivial, ⟨⟨6, rfl⟩, ⟨7, rfl⟩, trivial⟩, trivial⟩ ?_
                refine VA.done (by kernel_rfl) ?_
                exact VN.meet3 g3861 g3862 g3863 [2, 0, 1, 3, 4, 5] [] trivial ⟨rfl, ⟨rfl, rfl, rfl, rfl, rfl, rfl, rfl, rfl, rfl, rfl, rfl, trivial⟩, trivial, rfl, by decide, rfl, by decide⟩
              refine VAll.consG (listed' := LB 13 895) rfl (o_alloc Z35 ZL35 (ltn rfl)) rfl (by kernel_rfl) (fun _ => ⟨trivial, ⟨⟨5, rfl⟩, ⟨6, rfl⟩, trivial⟩, trivial⟩) ?_ VAll.nil
              intro g3862
              refine VA.oneG (i := 7) (listed' := LB 13 1023) (by kernel_rfl) rfl (o_alloc Z35 ZL35 (ltn rfl)) rfl (by kernel_rfl) (fun _ => ⟨trivial, ⟨⟨6, rfl⟩, ⟨7, rfl⟩, trivial⟩, trivial⟩) ?_
              intro g3861
              refine VA.one1 (i := 10) (listed' := LB 13 2047) (by kernel_rfl) rfl (o_store 0 23 rfl rfl rfl TI35 (.agg (.of rfl)) rfl (len rfl)) rfl (by kernel_rfl) ⟨trivial, ⟨⟨6, rfl⟩, ⟨7, rfl⟩, trivial⟩, trivial⟩ ?_
              refine VA.one1 (i := 11) (listed' := LB 13 4095) (by kernel_rfl) rfl (o_store 1 23 rfl rfl rfl TI35 (.agg (.of rfl)) rfl (len rfl)) rfl (by kernel_rfl) ⟨trivial, ⟨⟨6, rfl⟩, ⟨7, rfl⟩, trivial⟩, trivial⟩ ?_
              refine VA.one1 (i := 12) (listed' := LB 13 8191) (by kernel_rfl) rfl (o_store 2 23 rfl rfl rfl TI35 (.agg (.of rfl)) rfl (len rfl)) rfl (by kernel_rfl) ⟨trivial, ⟨⟨6, rfl⟩, ⟨7, rfl⟩, trivial⟩, trivial⟩ ?_
              refine VA.done (by kernel_rfl) ?_
              exact VN.meet3 g3861 g3862 g3863 [2, 1, 0, 3, 4, 5] [] trivial ⟨rfl, ⟨rfl, rfl, rfl, rfl, rfl, rfl, rfl, rfl, rfl, rfl, rfl, trivial⟩, trivial, rfl, by decide, rfl, by decide⟩
            refine VAll.consG (listed' := LB 13 703) rfl (o_alloc Z35 ZL35 (ltn rfl)) rfl (by kernel_rfl) (fun _ => ⟨trivial, ⟨⟨5, rfl⟩, ⟨6, rfl⟩, trivial⟩, trivial⟩) ?_ ?_
            · intro g3861
              refine VA.all [6, 8] (by kernel_rfl) (by simp) ?_
              refine VAll.consC (listed' := LB 13 767) rfl (o_call0 FO22 (tarryref13_End.ok k t9 t10 t11 t12 t13 t14 t15 t16 t17 t18 t19 t20 t21 t22 t23 t24 t25 t26 t27 t28 t29 t3837 t3838 t3839 t3840 t3841 t3842 t3843 t3844 t3845 t3846 t3847 t3848 t3849 t3850 t3851 t3852 t3853 t3854 t3855 t3856 t3857 t3858 t3859 hA3860) rfl rfl (ltn rfl) (All_of .nil)) rfl (by kernel_rfl) ?_ ?_
              · rintro _ _ _ ⟨rfl, rfl, rfl⟩
                refine ⟨⟨trivial, ⟨⟨5, rfl⟩, ⟨6, rfl⟩, trivial⟩, trivial⟩, ?_⟩
                refine VA.oneG (i := 8) (listed' := LB 13 1023) (by kernel_rfl) rfl (o_alloc Z35 ZL35 (ltn rfl)) rfl (by kernel_rfl) (fun _ => ⟨trivial, ⟨⟨6, rfl⟩, ⟨7, rfl⟩, trivial⟩, trivial⟩) ?_
                intro g3862
                refine VA.one1 (i := 10) (listed' := LB 13 2047) (by kernel_rfl) rfl (o_store 1 23 rfl rfl rfl TI35 (.agg (.of rfl)) rfl (len rfl)) rfl (by kernel_rfl) ⟨trivial, ⟨⟨6, rfl⟩, ⟨7, rfl⟩, trivial⟩, trivial⟩ ?_
                refine VA.one1 (i := 11) (listed' := LB 13 4095) (by kernel_rfl) rfl (o_store 0 23 rfl rfl rfl TI35 (.agg (.of rfl)) rfl (len rfl)) rfl (by kernel_rfl) ⟨trivial, ⟨⟨6, rfl⟩, ⟨7, rfl⟩, trivial⟩, trivial⟩ ?_
                refine VA.one1 (i := 12) (listed' := LB 13 8191) (by kernel_rfl) rfl (o_store 2 23 rfl rfl rfl TI35 (.agg (.of rfl)) rfl (len rfl)) rfl (by kernel_rfl) ⟨trivial, ⟨⟨6, rfl⟩, ⟨7, rfl⟩, trivial⟩, trivial⟩ ?_
                refine VA.done (by kernel_rfl) ?_
                exact VN.meet3 g3861 g3862 g3863 [2, 0, 1, 3, 4, 5] [] trivial ⟨rfl, ⟨rfl, rfl, rfl, rfl, rfl, rfl, rfl, rfl, rfl, rfl, rfl, trivial⟩, trivial, rfl, by decide, rfl, by decide⟩
              refine VAll.consG (listed' := LB 13 959) rfl (o_alloc Z35 ZL35 (ltn rfl)) rfl (by kernel_rfl) (fun _ => ⟨trivial, ⟨⟨6, rfl⟩, ⟨7, rfl⟩, trivial⟩, trivial⟩) ?_ VAll.nil
              intro g3862
              refine VA.oneC (i := 6) (listed' := LB 13 1023) (by kernel_rfl) rfl (o_call0 FO22 (tarryref13_End.ok k t9 t10 t11 t12 t13 t14 t15 t16 t17 t18 t19 t20 t21 t22 t23 t24 t25 t26 t27 t28 t29 t3837 t3838 t3839 t3840 t3841 t3842 t3843 t3844 t3845 t3846 t3847 t3848 t3849 t3850 t3851 t3852 t3853 t3854 t3855 t3856 t3857 t3858 t3859 hA3860) rfl rfl (ltn rfl) (All_of .nil)) rfl (by kernel_rfl) ?_
              rintro _ _ _ ⟨rfl, rfl, rfl⟩
              refine ⟨⟨trivial, ⟨⟨6, rfl⟩, ⟨7, rfl⟩, trivial⟩, trivial⟩, ?_⟩
              refine VA.one1 (i := 10) (listed' := LB 13 2047) (by kernel_rfl) rfl (o_store 1 23 rfl rfl rfl TI35 (.agg (.of rfl)) rfl (len rfl)) rfl (by kernel_rfl) ⟨trivial, ⟨⟨6, rfl⟩, ⟨7, rfl⟩, trivial⟩, trivial⟩ ?_
              refine VA.one1 (i := 11) (listed' := LB 13 4095) (by kernel_rfl) rfl (o_store 0 23 rfl rfl rfl TI35 (.agg (.of rfl)) rfl (len rfl)) rfl (by kernel_rfl) ⟨trivial, ⟨⟨6, rfl⟩, ⟨7, rfl⟩, trivial⟩, trivial⟩ ?_
              refine VA.one1 (i := 12) (listed' := LB 13 8191) (by kernel_rfl) rfl (o_store 2 23 rfl rfl rfl TI35 (.agg (.of rfl)) rfl (len rfl)) rfl (by kernel_rfl) ⟨trivial, ⟨⟨6, rfl⟩, ⟨7, rfl⟩, trivial⟩, trivial⟩ ?_
              refine VA.done (by kernel_rfl) ?_
              exact VN.meet3 g3861 g3862 g3863 [2, 0, 1, 3, 4, 5] [] trivial ⟨rfl, ⟨rfl, rfl, rfl, rfl, rfl, rfl, rfl, rfl, rfl, rfl, rfl, trivial⟩, trivial, rfl, by decide, rfl, by decide⟩
            refine VAll.consG (listed' := LB 13 831) rfl (o_alloc Z35 ZL35 (ltn rfl)) rfl (by kernel_rfl) (fun _ => ⟨trivial, ⟨⟨5, rfl⟩, ⟨6, rfl⟩, trivial⟩, trivial⟩) ?_ VAll.nil
            intro g3862
            refine VA.all [6, 7] (by kernel_rfl) (by simp) ?_
            refine VAll.consC (listed' := LB 13 895) rfl (o_call0 FO22 (tarryref13_End.ok k t9 t10 t11 t12 t13 t14 t15 t16 t17 t18 t19 t20 t21 t22 t23 t24 t25 t26 t27 t28 t29 t3837 t3838 t3839 t3840 t3841 t3842 t3843 t3844 t3845 t3846 t3847 t3848 t3849 t3850 t3851 t3852 t3853 t3854 t3855 t3856 t3857 t3858 t3859 hA3860) rfl rfl (ltn rfl) (All_of .nil)) rfl (by kernel_rfl) ?_ ?_
            · rintro _ _ _ ⟨rfl, rfl, rfl⟩
              refine ⟨⟨trivial, ⟨⟨5, rfl⟩, ⟨6, rfl⟩, trivial⟩, trivial⟩, ?_⟩
              refine VA.oneG (i := 7) (listed' := LB 13 1023) (by kernel_rfl) rfl (o_alloc Z35 ZL35 (ltn rfl)) rfl (by kernel_rfl) (fun _ => ⟨trivial, ⟨⟨6, rfl⟩, ⟨7, rfl⟩, trivial⟩, trivial⟩) ?_
              intro g3861
              refine VA.one1 (i := 10) (listed' := LB 13 2047) (by kernel_rfl) rfl (o_store 0 23 rfl rfl rfl TI35 (.agg (.of rfl)) rfl (len rfl)) rfl (by kernel_rfl) ⟨trivial, ⟨⟨6, rfl⟩, ⟨7, rfl⟩, trivial⟩, trivial⟩ ?_
              refine VA.one1 (i := 11) (listed' := LB 13 4095) (by kernel_rfl) rfl (o_store 1 23 rfl rfl rfl TI35 (.agg (.of rfl)) rfl (len rfl)) rfl (by kernel_rfl) ⟨trivial, ⟨⟨6, rfl⟩, ⟨7, rfl⟩, trivial⟩, trivial⟩ ?_
              refine VA.one1 (i := 12) (listed' := LB 13 8191) (by kernel_rfl) rfl (o_store 2 23 rfl rfl rfl TI35 (.agg (.of rfl)) rfl (len rfl)) rfl (by kernel_rfl) ⟨trivial, ⟨⟨6, rfl⟩, ⟨7, rfl⟩, trivial⟩, trivial⟩ ?_
              refine VA.done (by kernel_rfl) ?_
              exact VN.meet3 g3861 g3862 g3863 [2, 1, 0, 3, 4, 5] [] trivial ⟨rfl, ⟨rfl, rfl, rfl, rfl, rfl, rfl, rfl, rfl, rfl, rfl, rfl, trivial⟩, trivial, rfl, by decide, rfl, by decide⟩
            refine VAll.consG (listed' := LB 13 959) rfl (o_alloc Z35 ZL35 (ltn rfl)) rfl (by kernel_rfl) (fun _ => ⟨trivial, ⟨⟨6, rfl⟩, ⟨7, rfl⟩, trivial⟩, trivial⟩) ?_ VAll.nil
            intro g3861
            refine VA.oneC (i := 6) (listed' := LB 13 1023) (by kernel_rfl) rfl (o_call0 FO22 (tarryref13_End.ok k t9 t10 t11 t12 t13 t14 t15 t16 t17 t18 t19 t20 t21 t22 t23 t24 t25 t26 t27 t28 t29 t3837 t3838 t3839 t3840 t3841 t3842 t3843 t3844 t3845 t3846 t3847 t3848 t3849 t3850 t3851 t3852 t3853 t3854 t3855 t3856 t3857 t3858 t3859 hA3860) rfl rfl (ltn rfl) (All_of .nil)) rfl (by kernel_rfl) ?_
            rintro _ _ _ ⟨rfl, rfl, rfl⟩
            refine ⟨⟨trivial, ⟨⟨6, rfl⟩, ⟨7, rfl⟩, trivial⟩, trivial⟩, ?_⟩
            refine VA.one1 (i := 10) (listed' := LB 13 2047) (by kernel_rfl) rfl (o_store 0 23 rfl rfl rfl TI35 (.agg (.of rfl)) rfl (len rfl)) rfl (by kernel_rfl) ⟨trivial, ⟨⟨6, rfl⟩, ⟨7, rfl⟩, trivial⟩, trivial⟩ ?_
            refine VA.one1 (i := 11) (listed' := LB 13 4095) (by kernel_rfl) rfl (o_store 1 23 rfl rfl rfl TI35 (.agg (.of rfl)) rfl (len rfl)) rfl (by kernel_rfl) ⟨trivial, ⟨⟨6, rfl⟩, ⟨7, rfl⟩, trivial⟩, trivial⟩ ?_
            refine VA.one1 (i := 12) (listed' := LB 13 8191) (by kernel_rfl) rfl (o_store 2 23 rfl rfl rfl TI35 (.agg (.of rfl)) rfl (len rfl)) rfl (by kernel_rfl) ⟨trivial, ⟨⟨6, rfl⟩, ⟨7, rfl⟩, trivial⟩, trivial⟩ ?_
            refine VA.done (by kernel_rfl) ?_
            exact VN.meet3 g3861 g3862 g3863 [2, 1, 0, 3, 4, 5] [] trivial ⟨rfl, ⟨rfl, rfl, rfl, rfl, rfl, rfl, rfl, rfl, rfl, rfl, rfl, trivial⟩, trivial, rfl, by decide, rfl, by decide⟩
          refine VAll.consG (listed' := LB 13 687) rfl (o_alloc Z35 ZL35 (ltn rfl)) rfl (by kernel_rfl) (fun _ => ⟨trivial, ⟨⟨5, rfl⟩, ⟨6, rfl⟩, trivial⟩, trivial⟩) ?_ ?_
          · intro g3861
            refine VA.all [4, 8] (by kernel_rfl) (by simp) ?_
            refine VAll.consC (listed' := LB 13 703) rfl (o_call0 FO21 (tarryref13_Came.ok k t9 t10 t11 t12 t13 t14 t15 t16 t17 t18 t19 t20 t21 t22 t23 t24 t25 t26 t27 t28 t29 t3781 t3782 t3783 t3784 t3785 t3786 t3787 t3788 t3789 t3790 t3791 t3792 t3793 t3794 t3795 t3796 t3797 t3798 t3799 t3800 t3801 t3802 t3803 hA3804) rfl rfl (ltn rfl) (All_of .nil)) rfl (by kernel_rfl) ?_ ?_
            · rintro _ _ _ ⟨rfl, rfl, rfl⟩
              refine ⟨⟨trivial, ⟨⟨5, rfl⟩, ⟨6, rfl⟩, trivial⟩, trivial⟩, ?_⟩
              refine VA.all [6, 8] (by kernel_rfl) (by simp) ?_
              refine VAll.consC (listed' := LB 13 767) rfl (o_call0 FO22 (tarryref13_End.ok k t9 t10 t11 t12 t13 t14 t15 t16 t17 t18 t19 t20 t21 t22 t23 t24 t25 t26 t27 t28 t29 t3837 t3838 t3839 t3840 t3841 t3842 t3843 t3844 t3845 t3846 t3847 t3848 t3849 t3850 t3851 t3852 t3853 t3854 t3855 t3856 t3857 t3858 t3859 hA3860) rfl rfl (ltn rfl) (All_of .nil)) rfl (by kernel_rfl) ?_ ?_
              · rintro _ _ _ ⟨rfl, rfl, rfl⟩
                refine ⟨⟨trivial, ⟨⟨5, rfl⟩, ⟨6, rfl⟩, trivial⟩, trivial⟩, ?_⟩
                refine VA.oneG (i := 8) (listed' := LB 13 1023) (by kernel_rfl) rfl (o_alloc Z35 ZL35 (ltn rfl)) rfl (by kernel_rfl) (fun _ => ⟨trivial, ⟨⟨6, rfl⟩, ⟨7, rfl⟩, trivial⟩, trivial⟩) ?_
                intro g3862
                refine VA.one1 (i := 10) (listed' := LB 13 2047) (by kernel_rfl) rfl (o_store 1 23 rfl rfl rfl TI35 (.agg (.of rfl)) rfl (len rfl)) rfl (by kernel_rfl) ⟨trivial, ⟨⟨6, rfl⟩, ⟨7, rfl⟩, trivial⟩, trivial⟩ ?_
                refine VA.one1 (i := 11) (listed' := LB 13 4095) (by kernel_rfl) rfl (o_store 0 23 rfl rfl rfl TI35 (.agg (.of rfl)) rfl (len rfl)) rfl (by kernel_rfl) ⟨trivial, ⟨⟨6, rfl⟩, ⟨7, rfl⟩, trivial⟩, trivial⟩ ?_
                refine VA.one1 (i := 12) (listed' := LB 13 8191) (by kernel_rfl) rfl (o_store 2 23 rfl rfl rfl TI35 (.agg (.of rfl)) rfl (len rfl)) rfl (by kernel_rfl) ⟨trivial, ⟨⟨6, rfl⟩, ⟨7, rfl⟩, trivial⟩, trivial⟩ ?_
                refine VA.done (by kernel_rfl) ?_
                exact VN.meet3 g3861 g3862 g3863 [2, 0, 1, 3, 4, 5] [] trivial ⟨rfl, ⟨rfl, rfl, rfl, rfl, rfl, rfl, rfl, rfl, rfl, rfl, rfl, trivial⟩, trivial, rfl, by decide, rfl, by decide⟩
              refine VAll.consG (listed' := LB 13 959) rfl (o_alloc Z35 ZL35 (ltn rfl)) rfl (by kernel_rfl) (fun _ => ⟨trivial, ⟨⟨6, rfl⟩, ⟨7, rfl⟩, trivial⟩, trivial⟩) ?_ VAll.nil
              intro g3862
              refine VA.oneC (i := 6) (listed' := LB 13 1023) (by kernel_rfl) rfl (o_call0 FO22 (tarryref13_End.ok k t9 t10 t11 t12 t13 t14 t15 t16 t17 t18 t19 t20 t21 t22 t23 t24 t25 t26 t27 t28 t29 t3837 t3838 t3839 t3840 t3841 t3842 t3843 t3844 t3845 t3846 t3847 t3848 t3849 t3850 t3851 t3852 t3853 t3854 t3855 t3856 t3857 t3858 t3859 hA3860) rfl rfl (ltn rfl) (All_of .nil)) rfl (by kernel_rfl) ?_
              rintro _ _ _ ⟨rfl, rfl, rfl⟩
              refine ⟨⟨trivial, ⟨⟨6, rfl⟩, ⟨7, rfl⟩, trivial⟩, trivial⟩, ?_⟩
              refine VA.one1 (i := 10) (listed' := LB 13 2047) (by kernel_rfl) rfl (o_store 1 23 rfl rfl rfl TI35 (.agg (.of rfl)) rfl (len rfl)) rfl (by kernel_rfl) ⟨trivial, ⟨⟨6, rfl⟩, ⟨7, rfl⟩, trivial⟩, trivial⟩ ?_
              refine VA.one1 (i := 11) (listed' := LB 13 4095) (by kernel_rfl) rfl (o_store 0 23 rfl rfl rfl TI35 (.agg (.of rfl)) rfl (len rfl)) rfl (by kernel_rfl) ⟨trivial, ⟨⟨6, rfl⟩, ⟨7, rfl⟩, trivial⟩, trivial⟩ ?_
              refine VA.one1 (i := 12) (listed' := LB 13 8191) (by kernel_rfl) rfl (o_store 2 23 rfl rfl rfl TI35 (.agg (.of rfl)) rfl (len rfl)) rfl (by kernel_rfl) ⟨trivial, ⟨⟨6, rfl⟩, ⟨7, rfl⟩, trivial⟩, trivial⟩ ?_
              refine VA.done (by kernel_rfl) ?_
              exact VN.meet3 g3861 g3862 g3863 [2, 0, 1, 3, 4, 5] [] trivial ⟨rfl, ⟨rfl, rfl, rfl, rfl, rfl, rfl, rfl, rfl, rfl, rfl, rfl, trivial⟩, trivial, rfl, by decide, rfl, by decide⟩
            refine VAll.consG (listed' := LB 13 943) rfl (o_alloc Z35 ZL35 (ltn rfl)) rfl (by kernel_rfl) (fun _ => ⟨trivial, ⟨⟨6, rfl⟩, ⟨7, rfl⟩, trivial⟩, trivial⟩) ?_ VAll.nil
            intro g3862
            refine VA.oneC (i := 4) (listed' := LB 13 959) (by kernel_rfl) rfl (o_call0 FO21 (tarryref13_Came.ok k t9 t10 t11 t12 t13 t14 t15 t16 t17 t18 t19 t20 t21 t22 t23 t24 t25 t26 t27 t28 t29 t3781 t3782 t3783 t3784 t3785 t3786 t3787 t3788 t3789 t3790 t3791 t3792 t3793 t3794 t3795 t3796 t3797 t3798 t3799 t3800 t3801 t3802 t3803 hA3804) rfl rfl (ltn rfl) (All_of .nil)) rfl (by kernel_rfl) ?_
            rintro _ _ _ ⟨rfl, rfl, rfl⟩
            refine ⟨⟨trivial, ⟨⟨6, rfl⟩, ⟨7, rfl⟩, trivial⟩, trivial⟩, ?_⟩
            refine VA.oneC (i := 6) (listed' := LB 13 1023) (by kernel_rfl) rfl (o_call0 FO22 (tarryref13_End.ok k t9 t10 t11 t12 t13 t14 t15 t16 t17 t18 t19 t20 t21 t22 t23 t24 t25 t26 t27 t28 t29 t3837 t3838 t3839 t3840 t3841 t3842 t3843 t3844 t3845 t3846 t3847 t3848 t3849 t3850 t3851 t3852 t3853 t3854 t3855 t3856 t3857 t3858 t3859 hA3860) rfl rfl (ltn rfl) (All_of .nil)) rfl (by kernel_rfl) ?_
            rintro _ _ _ ⟨rfl, rfl, rfl⟩
            refine ⟨⟨trivial, ⟨⟨6, rfl⟩, ⟨7, rfl⟩, trivial⟩, trivial⟩, ?_⟩
            refine VA.one1 (i := 10) (listed' := LB 13 2047) (by kernel_rfl) rfl (o_store 1 23 rfl rfl rfl TI35 (.agg (.of rfl)) rfl (len rfl)) rfl (by kernel_rfl) ⟨trivial, ⟨⟨6, rfl⟩, ⟨7, rfl⟩, trivial⟩, trivial⟩ ?_
            refine VA.one1 (i := 11) (listed' := LB 13 4095) (by kernel_rfl) rfl (o_store 0 23 rfl rfl rfl TI35 (.agg (.of rfl)) rfl (len rfl)) rfl (by kernel_rfl) ⟨trivial, ⟨⟨6, rfl⟩, ⟨7, rfl⟩, trivial⟩, trivial⟩ ?_
            refine VA.one1 (i := 12) (listed' := LB 13 8191) (by kernel_rfl) rfl (o_store 2 23 rfl rfl rfl TI35 (.agg (.of rfl)) rfl (len rfl)) rfl (by kernel_rfl) ⟨trivial, ⟨⟨6, rfl⟩, ⟨7, rfl⟩, trivial⟩, trivial⟩ ?_
            refine VA.done (by kernel_rfl) ?_
            exact VN.meet3 g3861 g3862 g3863 [2, 0, 1, 3, 4, 5] [] trivial ⟨rfl, ⟨rfl, rfl, rfl, rfl, rfl, rfl, rfl, rfl, rfl, rfl, rfl, trivial⟩, trivial, rfl, by decide, rfl, by decide⟩
          refine VAll.consG (listed' := LB 13 815) rfl (o_alloc Z35 ZL35 (ltn rfl)) rfl (by kernel_rfl) (fun _ => ⟨trivial, ⟨⟨5, rfl⟩, ⟨6, rfl⟩, trivial⟩, trivial⟩) ?_ VAll.nil
          intro g3862
          refine VA.all [4, 7] (by kernel_rfl) (by simp) ?_
          refine VAll.consC (listed' := LB 13 831) rfl (o_call0 FO21 (tarryref13_Came.ok k t9 t10 t11 t12 t13 t14 t15 t16 t17 t18 t19 t20 t21 t22 t23 t24 t25 t26 t27 t28 t29 t3781 t3782 t3783 t3784 t3785 t3786 t3787 t3788 t3789 t3790 t3791 t3792 t3793 t3794 t3795 t3796 t3797 t3798 t3799 t3800 t3801 t3802 t3803 hA3804) rfl rfl (ltn rfl) (All_of .nil)) rfl (by kernel_rfl) ?_ ?_
          · rintro _ _ _ ⟨rfl, rfl, rfl⟩
            refine ⟨⟨trivial, ⟨⟨5, rfl⟩, ⟨6, rfl⟩, trivial⟩, trivial⟩, ?_⟩
            refine VA.all [6, 7] (by kernel_rfl) (by simp) ?_
            refine VAll.consC (listed' := LB 13 895) rfl (o_call0 FO22 (tarryref13_End.ok k t9 t10 t11 t12 t13 t14 t15 t16 t17 t18 t19 t20 t21 t22 t23 t24 t25 t26 t27 t28 t29 t3837 t3838 t3839 t3840 t3841 t3842 t3843 t3844 t3845 t3846 t3847 t3848 t3849 t3850 t3851 t3852 t3853 t3854 t3855 t3856 t3857 t3858 t3859 hA3860) rfl rfl (ltn rfl) (All_of .nil)) rfl (by kernel_rfl) ?_ ?_
            · rintro _ _ _ ⟨rfl, rfl, rfl⟩
              refine ⟨⟨trivial, ⟨⟨5, rfl⟩, ⟨6, rfl⟩, trivial⟩, trivial⟩, ?_⟩
              refine VA.oneG (i := 7) (listed' := LB 13 1023) (by kernel_rfl) rfl (o_alloc Z35 ZL35 (ltn rfl)) rfl (by kernel_rfl) (fun _ => ⟨trivial, ⟨⟨6, rfl⟩, ⟨7, rfl⟩, trivial⟩, trivial⟩) ?_
              intro g3861
              refine VA.one1 (i := 10) (listed' := LB 13 2047) (by kernel_rfl) rfl (o_store 0 23 rfl rfl rfl TI35 (.agg (.of rfl)) rfl (len rfl)) rfl (by kernel_rfl) ⟨trivial, ⟨⟨6, rfl⟩, ⟨7, rfl⟩, trivial⟩, trivial⟩ ?_
              refine VA.one1 (i := 11) (listed' := LB 13 4095) (by kernel_rfl) rfl (o_store 1 23 rfl rfl rfl TI35 (.agg (.of rfl)) rfl (len rfl)) rfl (by kernel_rfl) ⟨trivial, ⟨⟨6, rfl⟩, ⟨7, rfl⟩, trivial⟩, trivial⟩ ?_
              refine VA.one1 (i := 12) (listed' := LB 13 8191) (by kernel_rfl) rfl (o_store 2 23 rfl rfl rfl TI35 (.agg (.of rfl)) rfl (len rfl)) rfl (by kernel_rfl) ⟨trivial, ⟨⟨6, rfl⟩, ⟨7, rfl⟩, trivial⟩, trivial⟩ ?_
              refine VA.done (by kernel_rfl) ?_
              exact VN.meet3 g3861 g3862 g3863 [2, 1, 0, 3, 4, 5] [] trivial ⟨rfl, ⟨rfl, rfl, rfl, rfl, rfl, rfl, rfl, rfl, rfl, rfl, rfl, trivial⟩, trivial, rfl, by decide, rfl, by decide⟩
            refine VAll.consG (listed' := LB 13 959) rfl (o_alloc Z35 ZL35 (ltn rfl)) rfl (by kernel_rfl) (fun _ => ⟨trivial, ⟨⟨6, rfl⟩, ⟨7, rfl⟩, trivial⟩, trivial⟩) ?_ VAll.nil
            intro g3861
            refine VA.oneC (i := 6) (listed' := LB 13 1023) (by kernel_rfl) rfl (o_call0 FO22 (tarryref13_End.ok k t9 t10 t11 t12 t13 t14 t15 t16 t17 t18 t19 t20 t21 t22 t23 t24 t25 t26 t27 t28 t29 t3837 t3838 t3839 t3840 t3841 t3842 t3843 t3844 t3845 t3846 t3847 t3848 t3849 t3850 t3851 t3852 t3853 t3854 t3855 t3856 t3857 t3858 t3859 hA3860) rfl rfl (ltn rfl) (All_of .nil)) rfl (by kernel_rfl) ?_
            rintro _ _ _ ⟨rfl, rfl, rfl⟩
            refine ⟨⟨trivial, ⟨⟨6, rfl⟩, ⟨7, rfl⟩, trivial⟩, trivial⟩, ?_⟩
            refine VA.one1 (i := 10) (listed' := LB 13 2047) (by kernel_rfl) rfl (o_store 0 23 rfl rfl rfl TI35 (.agg (.of rfl)) rfl (len rfl)) rfl (by kernel_rfl) ⟨trivial, ⟨⟨6, rfl⟩, ⟨7, rfl⟩, trivial⟩, trivial⟩ ?_
            refine VA.one1 (i := 11) (listed' := LB 13 4095) (by kernel_rfl) rfl (o_store 1 23 rfl rfl rfl TI35 (.agg (.of rfl)) rfl (len rfl)) rfl (by kernel_rfl) ⟨trivial, ⟨⟨6, rfl⟩, ⟨7, rfl⟩, trivial⟩, trivial⟩ ?_
            refine VA.one1 (i := 12) (listed' := LB 13 8191) (by kernel_rfl) rfl (o_store 2 23 rfl rfl rfl TI35 (.agg (.of rfl)) rfl (len rfl)) rfl (by kernel_rfl) ⟨trivial, ⟨⟨6, rfl⟩, ⟨7, rfl⟩, trivial⟩, trivial⟩ ?_
            refine VA.done (by kernel_rfl) ?_
            exact VN.meet3 g3861 g3862 g3863 [2, 1, 0, 3, 4, 5] [] trivial ⟨rfl, ⟨rfl, rfl, rfl, rfl, rfl, rfl, rfl, rfl, rfl, rfl, rfl, trivial⟩, trivial, rfl, by decide, rfl, by decide⟩
          refine VAll.consG (listed' := LB 13 943) rfl (o_alloc Z35 ZL35 (ltn rfl)) rfl (by kernel_rfl) (fun _ => ⟨trivial, ⟨⟨6, rfl⟩, ⟨7, rfl⟩, trivial⟩, trivial⟩) ?_ VAll.nil
          intro g3861
          refine VA.oneC (i := 4) (listed' := LB 13 959) (by kernel_rfl) rfl (o_call0 FO21 (tarryref13_Came.ok k t9 t10 t11 t12 t13 t14 t15 t16 t17 t18 t19 t20 t21 t22 t23 t24 t25 t26 t27 t28 t29 t3781 t3782 t3783 t3784 t3785 t3786 t3787 t3788 t3789 t3790 t3791 t3792 t3793 t3794 t3795 t3796 t3797 t3798 t3799 t3800 t3801 t3802 t3803 hA3804) rfl rfl (ltn rfl) (All_of .nil)) rfl (by kernel_rfl) ?_
          rintro _ _ _ ⟨rfl, rfl, rfl⟩
          refine ⟨⟨trivial, ⟨⟨6, rfl⟩, ⟨7, rfl⟩, trivial⟩, trivial⟩, ?_⟩
          refine VA.oneC (i := 6) (listed' := LB 13 1023) (by kernel_rfl) rfl (o_call0 FO22 (tarryref13_End.ok k t9 t10 t11 t12 t13 t14 t15 t16 t17 t18 t19 t20 t21 t22 t23 t24 t25 t26 t27 t28 t29 t3837 t3838 t3839 t3840 t3841 t3842 t3843 t3844 t3845 t3846 t3847 t3848 t3849 t3850 t3851 t3852 t3853 t3854 t3855 t3856 t3857 t3858 t3859 hA3860) rfl rfl (ltn rfl) (All_of .nil)) rfl (by kernel_rfl) ?_
          rintro _ _ _ ⟨rfl, rfl, rfl⟩
          refine ⟨⟨trivial, ⟨⟨6, rfl⟩, ⟨7, rfl⟩, trivial⟩, trivial⟩, ?_⟩
          refine VA.one1 (i := 10) (listed' := LB 13 2047) (by kernel_rfl) rfl (o_store 0 23 rfl rfl rfl TI35 (.agg (.of rfl)) rfl (len rfl)) rfl (by kernel_rfl) ⟨trivial, ⟨⟨6, rfl⟩, ⟨7, rfl⟩, trivial⟩, trivial⟩ ?_
          refine VA.one1 (i := 11) (listed' := LB 13 4095) (by kernel_rfl) rfl (o_store 1 23 rfl rfl rfl TI35 (.agg (.of rfl)) rfl (len rfl)) rfl (by kernel_rfl) ⟨trivial, ⟨⟨6, rfl⟩, ⟨7, rfl⟩, trivial⟩, trivial⟩ ?_
          refine VA.one1 (i := 12) (listed' := LB 13 8191) (by kernel_rfl) rfl (o_store 2 23 rfl rfl rfl TI35 (.agg (.of rfl)) rfl (len rfl)) rfl (by kernel_rfl) ⟨trivial, ⟨⟨6, rfl⟩, ⟨7, rfl⟩, trivial⟩, trivial⟩ ?_
          refine VA.done (by kernel_rfl) ?_
          exact VN.meet3 g3861 g3862 g3863 [2, 1, 0, 3, 4, 5] [] trivial ⟨rfl, ⟨rfl, rfl, rfl, rfl, rfl, rfl, rfl, rfl, rfl, rfl, rfl, trivial⟩, trivial, rfl, by decide, rfl, by decide⟩
        refine VAll.consG (listed' := LB 13 683) rfl (o_alloc Z35 ZL35 (ltn rfl)) rfl (by kernel_rfl) (fun _ => ⟨trivial, ⟨⟨5, rfl⟩, ⟨6, rfl⟩, trivial⟩, trivial⟩) ?_ ?_
        · intro g3861
          refine VA.all [2, 8] (by kernel_rfl) (by simp) ?_
          refine VAll.consC (listed' := LB 13 687) rfl (o_call0 FO20 (tarryref13_Send.ok k t9 t10 t11 t12 t13 t14 t15 t16 t17 t18 t19 t20 t21 t22 t23 t24 t25 t26 t27 t28 t29 (a1_0.extract 0 ((mn (a1_0.size : Int) 18).toNat)) a1_1 a1_2 a1_3 t3733 t3734 t3735 t3736 t3737 t3738 t3739 t3740 t3741 t3742 t3743 t3744 t3745 t3746 t3747 t3748 t3749 t3750 t3751 t3752 t3753 t3754 t3755 hA3756) rfl rfl (ltn rfl) (All_of .nil)) rfl (by kernel_rfl) ?_ ?_
          · rintro _ _ _ ⟨rfl, rfl, rfl⟩
            refine ⟨⟨trivial, ⟨⟨5, rfl⟩, ⟨6, rfl⟩, trivial⟩, trivial⟩, ?_⟩
            refine VA.all [4, 8] (by kernel_rfl) (by simp) ?_
            refine VAll.consC (listed' := LB 13 703) rfl (o_call0 FO21 (tarryref13_Came.ok k t9 t10 t11 t12 t13 t14 t15 t16 t17 t18 t19 t20 t21 t22 t23 t24 t25 t26 t27 t28 t29 t3781 t3782 t3783 t3784 t3785 t3786 t3787 t3788 t3789 t3790 t3791 t3792 t3793 t3794 t3795 t3796 t3797 t3798 t3799 t3800 t3801 t3802 t3803 hA3804) rfl rfl (ltn rfl) (All_of .nil)) rfl (by kernel_rfl) ?_ ?_
            · rintro _ _ _ ⟨rfl, rfl, rfl⟩
              refine ⟨⟨trivial, ⟨⟨5, rfl⟩, ⟨6, rfl⟩, trivial⟩, trivial⟩, ?_⟩
              refine VA.all [6, 8] (by kernel_rfl) (by simp) ?_
              refine VAll.consC (listed' := LB 13 767) rfl (o_call0 FO22 (tarryref13_End.ok k t9 t10 t11 t12 t13 t14 t15 t16 t17 t18 t19 t20 t21 t22 t23 t24 t25 t26 t27 t28 t29 t3837 t3838 t3839 t3840 t3841 t3842 t3843 t3844 t3845 t3846 t3847 t3848 t3849 t3850 t3851 t3852 t3853 t3854 t3855 t3856 t3857 t3858 t3859 hA3860) rfl rfl (ltn rfl) (All_of .nil)) rfl (by kernel_rfl) ?_ ?_
              · rintro _ _ _ ⟨rfl, rfl, rfl⟩
                refine ⟨⟨trivial, ⟨⟨5, rfl⟩, ⟨6, rfl⟩, trivial⟩, trivial⟩, ?_⟩
                refine VA.oneG (i := 8) (listed' := LB 13 1023) (by kernel_rfl) rfl (o_alloc Z35 ZL35 (ltn rfl)) rfl (by kernel_rfl) (fun _ => ⟨trivial, ⟨⟨6, rfl⟩, ⟨7, rfl⟩, trivial⟩, trivial⟩) ?_
                intro g3862
                refine VA.one1 (i := 10) (listed' := LB 13 2047) (by kernel_rfl) rfl (o_store 1 23 rfl rfl rfl TI35 (.agg (.of rfl)) rfl (len rfl)) rfl (by kernel_rfl) ⟨trivial, ⟨⟨6, rfl⟩, ⟨7, rfl⟩, trivial⟩, trivial⟩ ?_
                refine VA.one1 (i := 11) (listed' := LB 13 4095) (by kernel_rfl) rfl (o_store 0 23 rfl rfl rfl TI35 (.agg (.of rfl)) rfl (len rfl)) rfl (by kernel_rfl) ⟨trivial, ⟨⟨6, rfl⟩, ⟨7, rfl⟩, trivial⟩, trivial⟩ ?_
                refine VA.one1 (i := 12) (listed' := LB 13 8191) (by kernel_rfl) rfl (o_store 2 23 rfl rfl rfl TI35 (.agg (.of rfl)) rfl (len rfl)) rfl (by kernel_rfl) ⟨trivial, ⟨⟨6, rfl⟩, ⟨7, rfl⟩, trivial⟩, trivial⟩ ?_
                refine VA.done (by kernel_rfl) ?_
                exact VN.meet3 g3861 g3862 g3863 [2, 0, 1, 3, 4, 5] [] trivial ⟨rfl, ⟨rfl, rfl, rfl, rfl, rfl, rfl, rfl, rfl, rfl, rfl, rfl, trivial⟩, trivial, rfl, by decide, rfl, by decide⟩
              refine VAll.consG (listed' := LB 13 959) rfl (o_alloc Z35 ZL35 (ltn rfl)) rfl (by kernel_rfl) (fun _ => ⟨trivial, ⟨⟨6, rfl⟩, ⟨7, rfl⟩, trivial⟩, trivial⟩) ?_ VAll.nil
              intro g3862
              refine VA.oneC (i := 6) (listed' := LB 13 1023) (by kernel_rfl) rfl (o_call0 FO22 (tarryref13_End.ok k t9 t10 t11 t12 t13 t14 t15 t16 t17 t18 t19 t20 t21 t22 t23 t24 t25 t26 t27 t28 t29 t3837 t3838 t3839 t3840 t3841 t3842 t3843 t3844 t3845 t3846 t3847 t3848 t3849 t3850 t3851 t3852 t3853 t3854 t3855 t3856 t3857 t3858 t3859 hA3860) rfl rfl (ltn rfl) (All_of .nil)) rfl (by kernel_rfl) ?_
              rintro _ _ _ ⟨rfl, rfl, rfl⟩
              refine ⟨⟨trivial, ⟨⟨6, rfl⟩, ⟨7, rfl⟩, trivial⟩, trivial⟩, ?_⟩
              refine VA.one1 (i := 10) (listed' := LB 13 2047) (by kernel_rfl) rfl (o_store 1 23 rfl rfl rfl TI35 (.agg (.of rfl)) rfl (len rfl)) rfl (by kernel_rfl) ⟨trivial, ⟨⟨6, rfl⟩, ⟨7, rfl⟩, trivial⟩, trivial⟩ ?_
              refine VA.one1 (i := 11) (listed' := LB 13 4095) (by kernel_rfl) rfl (o_store 0 23 rfl rfl rfl TI35 (.agg (.of rfl)) rfl (len rfl)) rfl (by kernel_rfl) ⟨trivial, ⟨⟨6, rfl⟩, ⟨7, rfl⟩, trivial⟩, trivial⟩ ?_
              refine VA.one1 (i := 12) (listed' := LB 13 8191) (by kernel_rfl) rfl (o_store 2 23 rfl rfl rfl TI35 (.agg (.of rfl)) rfl (len rfl)) rfl (by kernel_rfl) ⟨trivial, ⟨⟨6, rfl⟩, ⟨7, rfl⟩, trivial⟩, trivial⟩ ?_
              refine VA.done (by kernel_rfl) ?_
              exact VN.meet3 g3861 g3862 g3863 [2, 0, 1, 3, 4, 5] [] trivial ⟨rfl, ⟨rfl, rfl, rfl, rfl, rfl, rfl, rfl, rfl, rfl, rfl, rfl, trivial⟩, trivial, rfl, by decide, rfl, by decide⟩
            refine VAll.consG (listed' := LB 13 943) rfl (o_alloc Z35 ZL35 (ltn rfl)) rfl (by kernel_rfl) (fun _ => ⟨trivial, ⟨⟨6, rfl⟩, ⟨7, rfl⟩, trivial⟩, trivial⟩) ?_ VAll.nil
            intro g3862
            refine VA.oneC (i := 4) (listed' := LB 13 959) (by kernel_rfl) rfl (o_call0 FO21 (tarryref13_Came.ok k t9 t10 t11 t12 t13 t14 t15 t16 t17 t18 t19 t20 t21 t22 t23 t24 t25 t26 t27 t28 t29 t3781 t3782 t3783 t3784 t3785 t3786 t3787 t3788 t3789 t3790 t3791 t3792 t3793 t3794 t3795 t3796 t3797 t3798 t3799 t3800 t3801 t3802 t3803 hA3804) rfl rfl (ltn rfl) (All_of .nil)) rfl (by kernel_rfl) ?_
            rintro _ _ _ ⟨rfl, rfl, rfl⟩
            refine ⟨⟨trivial, ⟨⟨6, rfl⟩, ⟨7, rfl⟩, trivial⟩, trivial⟩, ?_⟩
            refine VA.oneC (i := 6) (listed' := LB 13 1023) (by kernel_rfl) rfl (o_call0 FO22 (tarryref13_End.ok k t9 t10 t11 t12 t13 t14 t15 t16 t17 t18 t19 t20 t21 t22 t23 t24 t25 t26 t27 t28 t29 t3837 t3838 t3839 t3840 t3841 t3842 t3843 t3844 t3845 t3846 t3847 t3848 t3849 t3850 t3851 t3852 t3853 t3854 t3855 t3856 t3857 t3858 t3859 hA3860) rfl rfl (ltn rfl) (All_of .nil)) rfl (by kernel_rfl) ?_
            rintro _ _ _ ⟨rfl, rfl, rfl⟩
            refine ⟨⟨trivial, ⟨⟨6, rfl⟩, ⟨7, rfl⟩, trivial⟩, trivial⟩, ?_⟩
            refine VA.one1 (i := 10) (listed' := LB 13 2047) (by kernel_rfl) rfl (o_store 1 23 rfl rfl rfl TI35 (.agg (.of rfl)) rfl (len rfl)) rfl (by kernel_rfl) ⟨trivial, ⟨⟨6, rfl⟩, ⟨7, rfl⟩, trivial⟩, trivial⟩ ?_
            refine VA.one1 (i := 11) (listed' := LB 13 4095) (by kernel_rfl) rfl (o_store 0 23 rfl rfl rfl TI35 (.agg (.of rfl)) rfl (len rfl)) rfl (by kernel_rfl) ⟨trivial, ⟨⟨6, rfl⟩, ⟨7, rfl⟩, trivial⟩, trivial⟩ ?_
            refine VA.one1 (i := 12) (listed' := LB 13 8191) (by kernel_rfl) rfl (o_store 2 23 rfl rfl rfl TI35 (.agg (.of rfl)) rfl (len rfl)) rfl (by kernel_rfl) ⟨trivial, ⟨⟨6, rfl⟩, ⟨7, rfl⟩, trivial⟩, trivial⟩ ?_
            refine VA.done (by kernel_rfl) ?_
            exact VN.meet3 g3861 g3862 g3863 [2, 0, 1, 3, 4, 5] [] trivial ⟨rfl, ⟨rfl, rfl, rfl, rfl, rfl, rfl, rfl, rfl, rfl, rfl, rfl, trivial⟩, trivial, rfl, by decide, rfl, by decide⟩
          refine VAll.consG (listed' := LB 13 939) rfl (o_alloc Z35 ZL35 (ltn rfl)) rfl (by kernel_rfl) (fun _ => ⟨trivial, ⟨⟨6, rfl⟩, ⟨7, rfl⟩, trivial⟩, trivial⟩) ?_ VAll.nil
          intro g3862
          refine VA.oneC (i := 2) (listed' := LB 13 943) (by kernel_rfl) rfl (o_call0 FO20 (tarryref13_Send.ok k t9 t10 t11 t12 t13 t14 t15 t16 t17 t18 t19 t20 t21 t22 t23 t24 t25 t26 t27 t28 t29 (a1_0.extract 0 ((mn (a1_0.size : Int) 18).toNat)) a1_1 a1_2 a1_3 t3733 t3734 t3735 t3736 t3737 t3738 t3739 t3740 t3741 t3742 t3743 t3744 t3745 t3746 t3747 t3748 t3749 t3750 t3751 t3752 t3753 t3754 t3755 hA3756) rfl rfl (ltn rfl) (All_of .nil)) rfl (by kernel_rfl) ?_
          rintro _ _ _ ⟨rfl, rfl, rfl⟩
          refine ⟨⟨trivial, ⟨⟨6, rfl⟩, ⟨7, rfl⟩, trivial⟩, trivial⟩, ?_⟩
          refine VA.oneC (i := 4) (listed' := LB 13 959) (by kernel_rfl) rfl (o_call0 FO21 (tarryref13_Came.ok k t9 t10 t11 t12 t13 t14 t15 t16 t17 t18 t19 t20 t21 t22 t23 t24 t25 t26 t27 t28 t29 t3781 t3782 t3783 t3784 t3785 t3786 t3787 t3788 t3789 t3790 t3791 t3792 t3793 t3794 t3795 t3796 t3797 t3798 t3799 t3800 t3801 t3802 t3803 hA3804) rfl rfl (ltn rfl) (All_of .nil)) rfl (by kernel_rfl) ?_
          rintro _ _ _ ⟨rfl, rfl, rfl⟩
          refine ⟨⟨trivial, ⟨⟨6, rfl⟩, ⟨7, rfl⟩, trivial⟩, trivial⟩, ?_⟩
          refine VA.oneC (i := 6) (listed' := LB 13 1023) (by kernel_rfl) rfl (o_call0 FO22 (tarryref13_End.ok k t9 t10 t11 t12 t13 t14 t15 t16 t17 t18 t19 t20 t21 t22 t23 t24 t25 t26 t27 t28 t29 t3837 t3838 t3839 t3840 t3841 t3842 t3843 t3844 t3845 t3846 t3847 t3848 t3849 t3850 t3851 t3852 t3853 t3854 t3855 t3856 t3857 t3858 t3859 hA3860) rfl rfl (ltn rfl) (All_of .nil)) rfl (by kernel_rfl) ?_
          rintro _ _ _ ⟨rfl, rfl, rfl⟩
          refine ⟨⟨trivial, ⟨⟨6, rfl⟩, ⟨7, rfl⟩, trivial⟩, trivial⟩, ?_⟩
          refine VA.one1 (i := 10) (listed' := LB 13 2047) (by kernel_rfl) rfl (o_store 1 23 rfl rfl rfl TI35 (.agg (.of rfl)) rfl (len rfl)) rfl (by kernel_rfl) ⟨trivial, ⟨⟨6, rfl⟩, ⟨7, rfl⟩, trivial⟩, trivial⟩ ?_
          refine VA.one1 (i := 11) (listed' := LB 13 4095) (by kernel_rfl) rfl (o_store 0 23 rfl rfl rfl TI35 (.agg (.of rfl)) rfl (len rfl)) rfl (by kernel_rfl) ⟨trivial, ⟨⟨6, rfl⟩, ⟨7, rfl⟩, trivial⟩, trivial⟩ ?_
          refine VA.one1 (i := 12) (listed' := LB 13 8191) (by kernel_rfl) rfl (o_store 2 23 rfl rfl rfl TI35 (.agg (.of rfl)) rfl (len rfl)) rfl (by kernel_rfl) ⟨trivial, ⟨⟨6, rfl⟩, ⟨7, rfl⟩, trivial⟩, trivial⟩ ?_
          refine VA.done (by kernel_rfl) ?_
          exact VN.meet3 g3861 g3862 g3863 [2, 0, 1, 3, 4, 5] [] trivial ⟨rfl, ⟨rfl, rfl, rfl, rfl, rfl, rfl, rfl, rfl, rfl, rfl, rfl, trivial⟩, trivial, rfl, by decide, rfl, by decide⟩
        refine VAll.consG (listed' := LB 13 811) rfl (o_alloc Z35 ZL35 (ltn rfl)) rfl (by kernel_rfl) (fun _ => ⟨trivial, ⟨⟨5, rfl⟩, ⟨6, rfl⟩, trivial⟩, trivial⟩) ?_ VAll.nil
        intro g3862
        refine VA.all [2, 7] (by kernel_rfl) (by simp) ?_
        refine VAll.consC (listed' := LB 13 815) rfl (o_call0 FO20 (tarryref13_Send.ok k t9 t10 t11 t12 t13 t14 t15 t16 t17 t18 t19 t20 t21 t22 t23 t24 t25 t26 t27 t28 t29 (a1_0.extract 0 ((mn (a1_0.size : Int) 18).toNat)) a1_1 a1_2 a1_3 t3733 t3734 t3735 t3736 t3737 t3738 t3739 t3740 t3741 t3742 t3743 t3744 t3745 t3746 t3747 t3748 t3749 t3750 t3751 t3752 t3753 t3754 t3755 hA3756) rfl rfl (ltn rfl) (All_of .nil)) rfl (by kernel_rfl) ?_ ?_
        · rintro _ _ _ ⟨rfl, rfl, rfl⟩
          refine ⟨⟨trivial, ⟨⟨5, rfl⟩, ⟨6, rfl⟩, trivial⟩, trivial⟩, ?_⟩
          refine VA.all [4, 7] (by kernel_rfl) (by simp) ?_
          refine VAll.consC (listed' := LB 13 831) rfl (o_call0 FO21 (tarryref13_Came.ok k t9 t10 t11 t12 t13 t14 t15 t16 t17 t18 t19 t20 t21 t22 t23 t24 t25 t26 t27 t28 t29 t3781 t3782 t3783 t3784 t3785 t3786 t3787 t3788 t3789 t3790 t3791 t3792 t3793 t3794 t3795 t3796 t3797 t3798 t3799 t3800 t3801 t3802 t3803 hA3804) rfl rfl (ltn rfl) (All_of .nil)) rfl (by kernel_rfl) ?_ ?_
          · rintro _ _ _ ⟨rfl, rfl, rfl⟩
            refine ⟨⟨trivial, ⟨⟨5, rfl⟩, ⟨6, rfl⟩, trivial⟩, trivial⟩, ?_⟩
            refine VA.all [6, 7] (by kernel_rfl) (by simp) ?_
            refine VAll.consC (listed' := LB 13 895) rfl (o_call0 FO22 (tarryref13_End.ok k t9 t10 t11 t12 t13 t14 t15 t16 t17 t18 t19 t20 t21 t22 t23 t24 t25 t26 t27 t28 t29 t3837 t3838 t3839 t3840 t3841 t3842 t3843 t3844 t3845 t3846 t3847 t3848 t3849 t3850 t3851 t3852 t3853 t3854 t3855 t3856 t3857 t3858 t3859 hA3860) rfl rfl (ltn rfl) (All_of .nil)) rfl (by kernel_rfl) ?_ ?_
            · rintro _ _ _ ⟨rfl, rfl, rfl⟩
              refine ⟨⟨trivial, ⟨⟨5, rfl⟩, ⟨6, rfl⟩, trivial⟩, trivial⟩, ?_⟩
              refine VA.oneG (i := 7) (listed' := LB 13 1023) (by kernel_rfl) rfl (o_alloc Z35 ZL35 (ltn rfl)) rfl (by kernel_rfl) (fun _ => ⟨trivial, ⟨⟨6, rfl⟩, ⟨7, rfl⟩, trivial⟩, trivial⟩) ?_
              intro g3861
              refine VA.one1 (i := 10) (listed' := LB 13 2047) (by kernel_rfl) rfl (o_store 0 23 rfl rfl rfl TI35 (.agg (.of rfl)) rfl (len rfl)) rfl (by kernel_rfl) ⟨trivial, ⟨⟨6, rfl⟩, ⟨7, rfl⟩, trivial⟩, trivial⟩ ?_
              refine VA.one1 (i := 11) (listed' := LB 13 4095) (by kernel_rfl) rfl (o_store 1 23 rfl rfl rfl TI35 (.agg (.of rfl)) rfl (len rfl)) rfl (by kernel_rfl) ⟨trivial, ⟨⟨6, rfl⟩, ⟨7, rfl⟩, trivial⟩, trivial⟩ ?_
              refine VA.one1 (i := 12) (listed' := LB 13 8191) (by kernel_rfl) rfl (o_store 2 23 rfl rfl rfl TI35 (.agg (.of rfl)) rfl (len rfl)) rfl (by kernel_rfl) ⟨trivial, ⟨⟨6, rfl⟩, ⟨7, rfl⟩, trivial⟩, trivial⟩ ?_
              refine VA.done (by kernel_rfl) ?_
              exact VN.meet3 g3861 g3862 g3863 [2, 1, 0, 3, 4, 5] [] trivial ⟨rfl, ⟨rfl, rfl, rfl, rfl, rfl, rfl, rfl, rfl, rfl, rfl, rfl, trivial⟩, trivial, rfl, by decide, rfl, by decide⟩
            refine VAll.consG (listed' := LB 13 959) rfl (o_alloc Z35 ZL35 (ltn rfl)) rfl (by kernel_rfl) (fun _ => ⟨trivial, ⟨⟨6, rfl⟩, ⟨7, rfl⟩, trivial⟩, trivial⟩) ?_ VAll.nil
            intro g3861
            refine VA.oneC (i := 6) (listed' := LB 13 1023) (by kernel_rfl) rfl (o_call0 FO22 (tarryref13_End.ok k t9 t10 t11 t12 t13 t14 t15 t16 t17 t18 t19 t20 t21 t22 t23 t24 t25 t26 t27 t28 t29 t3837 t3838 t3839 t3840 t3841 t3842 t3843 t3844 t3845 t3846 t3847 t3848 t3849 t3850 t3851 t3852 t3853 t3854 t3855 t3856 t3857 t3858 t3859 hA3860) rfl rfl (ltn rfl) (All_of .nil)) rfl (by kernel_rfl) ?_
            rintro _ _ _ ⟨rfl, rfl, rfl⟩
            refine ⟨⟨trivial, ⟨⟨6, rfl⟩, ⟨7, rfl⟩, trivial⟩, trivial⟩, ?_⟩
            refine VA.one1 (i := 10) (listed' := LB 13 2047) (by kernel_rfl) rfl (o_store 0 23 rfl rfl rfl TI35 (.agg (.of rfl)) rfl (len rfl)) rfl (by kernel_rfl) ⟨trivial, ⟨⟨6, rfl⟩, ⟨7, rfl⟩, trivial⟩, trivial⟩ ?_
            refine VA.one1 (i := 11) (listed' := LB 13 4095) (by kernel_rfl) rfl (o_store 1 23 rfl rfl rfl TI35 (.agg (.of rfl)) rfl (len rfl)) rfl (by kernel_rfl) ⟨trivial, ⟨⟨6, rfl⟩, ⟨7, rfl⟩, trivial⟩, trivial⟩ ?_
            refine VA.one1 (i := 12) (listed' := LB 13 8191) (by kernel_rfl) rfl (o_store 2 23 rfl rfl rfl TI35 (.agg (.of rfl)) rfl (len rfl)) rfl (by kernel_rfl) ⟨trivial, ⟨⟨6, rfl⟩, ⟨7, rfl⟩, trivial⟩, trivial⟩ ?_
            refine VA.done (by kernel_rfl) ?_
            exact VN.meet3 g3861 g3862 g3863 [2, 1, 0, 3, 4, 5] [] trivial ⟨rfl, ⟨rfl, rfl, rfl, rfl, rfl, rfl, rfl, rfl, rfl, rfl, rfl, trivial⟩, trivial, rfl, by decide, rfl, by decide⟩
          refine VAll.consG (listed' := LB 13 943) rfl (o_alloc Z35 ZL35 (ltn rfl)) rfl (by kernel_rfl) (fun _ => ⟨trivial, ⟨⟨6, rfl⟩, ⟨7, rfl⟩, trivial⟩, trivial⟩) ?_ VAll.nil
          intro g3861
          refine VA.oneC (i := 4) (listed' := LB 13 959) (by kernel_rfl) rfl (o_call0 FO21 (tarryref13_Came.ok k t9 t10 t11 t12 t13 t14 t15 t16 t17 t18 t19 t20 t21 t22 t23 t24 t25 t26 t27 t28 t29 t3781 t3782 t3783 t3784 t3785 t3786 t3787 t3788 t3789 t3790 t3791 t3792 t3793 t3794 t3795 t3796 t3797 t3798 t3799 t3800 t3801 t3802 t3803 hA3804) rfl rfl (ltn rfl) (All_of .nil)) rfl (by kernel_rfl) ?_
          rintro _ _ _ ⟨rfl, rfl, rfl⟩
          refine ⟨⟨trivial, ⟨⟨6, rfl⟩, ⟨7, rfl⟩, trivial⟩, trivial⟩, ?_⟩
          refine VA.oneC (i := 6) (listed' := LB 13 1023) (by kernel_rfl) rfl (o_call0 FO22 (tarryref13_End.ok k t9 t10 t11 t12 t13 t14 t15 t16 t17 t18 t19 t20 t21 t22 t23 t24 t25 t26 t27 t28 t29 t3837 t3838 t3839 t3840 t3841 t3842 t3843 t3844 t3845 t3846 t3847 t3848 t3849 t3850 t3851 t3852 t3853 t3854 t3855 t3856 t3857 t3858 t3859 hA3860) rfl rfl (ltn rfl) (All_of .nil)) rfl (by kernel_rfl) ?_
          rintro _ _ _ ⟨rfl, rfl, rfl⟩
          refine ⟨⟨trivial, ⟨⟨6, rfl⟩, ⟨7, rfl⟩, trivial⟩, trivial⟩, ?_⟩
          refine VA.one1 (i := 10) (listed' := LB 13 2047) (by kernel_rfl) rfl (o_store 0 23 rfl rfl rfl TI35 (.agg (.of rfl)) rfl (len rfl)) rfl (by kernel_rfl) ⟨trivial, ⟨⟨6, rfl⟩, ⟨7, rfl⟩, trivial⟩, trivial⟩ ?_
          refine VA.one1 (i := 11) (listed' := LB 13 4095) (by kernel_rfl) rfl (o_store 1 23 rfl rfl rfl TI35 (.agg (.of rfl)) rfl (len rfl)) rfl (by kernel_rfl) ⟨trivial, ⟨⟨6, rfl⟩, ⟨7, rfl⟩, trivial⟩, trivial⟩ ?_
          refine VA.one1 (i := 12) (listed' := LB 13 8191) (by kernel_rfl) rfl (o_store 2 23 rfl rfl rfl TI35 (.agg (.of rfl)) rfl (len rfl)) rfl (by kernel_rfl) ⟨trivial, ⟨⟨6, rfl⟩, ⟨7, rfl⟩, trivial⟩, trivial⟩ ?_
          refine VA.done (by kernel_rfl) ?_
          exact VN.meet3 g3861 g3862 g3863 [2, 1, 0, 3, 4, 5] [] trivial ⟨rfl, ⟨rfl, rfl, rfl, rfl, rfl, rfl, rfl, rfl, rfl, rfl, rfl, trivial⟩, trivial, rfl, by decide, rfl, by decide⟩
        refine VAll.consG (listed' := LB 13 939) rfl (o_alloc Z35 ZL35 (ltn rfl)) rfl (by kernel_rfl) (fun _ => ⟨trivial, ⟨⟨6, rfl⟩, ⟨7, rfl⟩, trivial⟩, trivial⟩) ?_ VAll.nil
        intro g3861
        refine VA.oneC (i := 2) (listed' := LB 13 943) (by kernel_rfl) rfl (o_call0 FO20 (tarryref13_Send.ok k t9 t10 t11 t12 t13 t14 t15 t16 t17 t18 t19 t20 t21 t22 t23 t24 t25 t26 t27 t28 t29 (a1_0.extract 0 ((mn (a1_0.size : Int) 18).toNat)) a1_1 a1_2 a1_3 t3733 t3734 t3735 t3736 t3737 t3738 t3739 t3740 t3741 t3742 t3743 t3744 t3745 t3746 t3747 t3748 t3749 t3750 t3751 t3752 t3753 t3754 t3755 hA3756) rfl rfl (ltn rfl) (All_of .nil)) rfl (by kernel_rfl) ?_
        rintro _ _ _ ⟨rfl, rfl, rfl⟩
        refine ⟨⟨trivial, ⟨⟨6, rfl⟩, ⟨7, rfl⟩, trivial⟩, trivial⟩, ?_⟩
        refine VA.oneC (i := 4) (listed' := LB 13 959) (by kernel_rfl) rfl (o_call0 FO21 (tarryref13_Came.ok k t9 t10 t11 t12 t13 t14 t15 t16 t17 t18 t19 t20 t21 t22 t23 t24 t25 t26 t27 t28 t29 t3781 t3782 t3783 t3784 t3785 t3786 t3787 t3788 t3789 t3790 t3791 t3792 t3793 t3794 t3795 t3796 t3797 t3798 t3799 t3800 t3801 t3802 t3803 hA3804) rfl rfl (ltn rfl) (All_of .nil)) rfl (by kernel_rfl) ?_
        rintro _ _ _ ⟨rfl, rfl, rfl⟩
        refine ⟨⟨trivial, ⟨⟨6, rfl⟩, ⟨7, rfl⟩, trivial⟩, trivial⟩, ?_⟩
        refine VA.oneC (i := 6) (listed' := LB 13 1023) (by kernel_rfl) rfl (o_call0 FO22 (tarryref13_End.ok k t9 t10 t11 t12 t13 t14 t15 t16 t17 t18 t19 t20 t21 t22 t23 t24 t25 t26 t27 t28 t29 t3837 t3838 t3839 t3840 t3841 t3842 t3843 t3844 t3845 t3846 t3847 t3848 t3849 t3850 t3851 t3852 t3853 t3854 t3855 t3856 t3857 t3858 t3859 hA3860) rfl rfl (ltn rfl) (All_of .nil)) rfl (by kernel_rfl) ?_
        rintro _ _ _ ⟨rfl, rfl, rfl⟩
        refine ⟨⟨trivial, ⟨⟨6, rfl⟩, ⟨7, rfl⟩, trivial⟩, trivial⟩, ?_⟩
        refine VA.one1 (i := 10) (listed' := LB 13 2047) (by kernel_rfl) rfl (o_store 0 23 rfl rfl rfl TI35 (.agg (.of rfl)) rfl (len rfl)) rfl (by kernel_rfl) ⟨trivial, ⟨⟨6, rfl⟩, ⟨7, rfl⟩, trivial⟩, trivial⟩ ?_
        refine VA.one1 (i := 11) (listed' := LB 13 4095) (by kernel_rfl) rfl (o_store 1 23 rfl rfl rfl TI35 (.agg (.of rfl)) rfl (len rfl)) rfl (by kernel_rfl) ⟨trivial, ⟨⟨6, rfl⟩, ⟨7, rfl⟩, trivial⟩, trivial⟩ ?_
        refine VA.one1 (i := 12) (listed' := LB 13 8191) (by kernel_rfl) rfl (o_store 2 23 rfl rfl rfl TI35 (.agg (.of rfl)) rfl (len rfl)) rfl (by kernel_rfl) ⟨trivial, ⟨⟨6, rfl⟩, ⟨7, rfl⟩, trivial⟩, trivial⟩ ?_
        refine VA.done (by kernel_rfl) ?_
        exact VN.meet3 g3861 g3862 g3863 [2, 1, 0, 3, 4, 5] [] trivial ⟨rfl, ⟨rfl, rfl, rfl, rfl, rfl, rfl, rfl, rfl, rfl, rfl, rfl, trivial⟩, trivial, rfl, by decide, rfl, by decide⟩
      intro g3861 g3862 g3863 _
      refine VC.seq ?_
      refine VC.region ?_
      replace h := Option.bind_eq_some_iff.1 h
      obtain ⟨t4141, hA4142, h⟩ := h
      refine VL.sC (o_call0 FO11 (tarrylaw13_alive.ok k t4141 hA4142) rfl rfl (ltn rfl) (All_of .nil)) rfl ?_
      rintro _ _ _ ⟨rfl, rfl, rfl⟩
      refine VL.va (op_move rfl (ltn rfl)) rfl ?_
      by_cases c4143 : t4141 = true
      · rw [if_pos c4143] at h
        obtain rfl := c4143
        refine VL.va (op_move rfl (ltn rfl)) rfl ?_
        refine VL.va (op_fieldAddr FI35_2 rfl (add_at _ _ _) (ltn rfl)) rfl ?_
        refine VL.va (op_load 2 1 rfl rfl TI31 rfl (by decide) (ltn rfl)) rfl ?_
        refine VL.letter ((t2060 == t3755)) fun b4144 hb4144 => ?_
        refine VL.va (op_cmp rfl rfl (congrArg some hb4144) (ltn rfl)) rfl ?_
        refine VL.va (op_pick rfl rfl (ltn rfl)) rfl ?_
        refine VL.va (op_move rfl (ltn rfl)) rfl ?_
        by_cases c4145 : t2060 = t3755
        · rw [if_pos c4145] at h
          obtain rfl : b4144 = true := hb4144.symm.trans (beq_iff_eq.2 c4145)
          refine VL.va (op_load 5 21 rfl rfl TI29 rfl (fun h => absurd h (by decide)) (ltn rfl)) rfl ?_
          refine VL.va (op_fieldAddr FI35_0 rfl (add_at _ _ _) (ltn rfl)) rfl ?_
          refine VL.va (op_load 2 21 rfl rfl TI29 rfl (fun h => absurd h (by decide)) (ltn rfl)) rfl ?_
          refine VL.letter ((((t2039 == t3733) && ((t2040 == t3734) && ((t2041 == t3735) && ((t2042 == t3736) && ((t2043 == t3737) && ((t2044 == t3738) && ((t2045 == t3739) && ((t2046 == t3740) && ((t2047 == t3741) && ((t2048 == t3742) && (((t2049 == t3743) && ((t2050 == t3744) && ((t2051 == t3745) && (t2052 == t3746)))) && (((t2053 == t3747) && ((t2054 == t3748) && ((t2055 == t3749) && (t2056 == t3750)))) && (((t2057 == t3751) && (t2058 == t3752)) && (t2059 == t3753)))))))))))))))) fun b4146 hb4146 => ?_
          refine VL.va (op_eqS rfl rfl EG29 (EQ29 t2039 t2040 t2041 t2042 t2043 t2044 t2045 t2046 t2047 t2048 t2049 t2050 t2051 t2052 t2053 t2054 t2055 t2056 t2057 t2058 t2059 t3733 t3734 t3735 t3736 t3737 t3738 t3739 t3740 t3741 t3742 t3743 t3744 t3745 t3746 t3747 t3748 t3749 t3750 t3751 t3752 t3753) hb4146 (ltn rfl)) rfl ?_
          refine VL.va (op_pick rfl rfl (ltn rfl)) rfl ?_
          refine VL.va (op_move rfl (ltn rfl)) rfl ?_
          by_cases c4147 : (((t2039 == t3733) && ((t2040 == t3734) && ((t2041 == t3735) && ((t2042 == t3736) && ((t2043 == t3737) && ((t2044 == t3738) && ((t2045 == t3739) && ((t2046 == t3740) && ((t2047 == t3741) && ((t2048 == t3742) && (((t2049 == t3743) && ((t2050 == t3744) && ((t2051 == t3745) && (t2052 == t3746)))) && (((t2053 == t3747) && ((t2054 == t3748) && ((t2055 == t3749) && (t2056 == t3750)))) && (((t2057 == t3751) && (t2058 == t3752)) && (t2059 == t3753))))))))))))))) = true
          · rw [if_pos c4147] at h
            obtain rfl : b4146 = true := hb4146.symm.trans (c4147)
            refine VL.va (op_move rfl (ltn rfl)) rfl ?_
            refine VL.va (op_fieldAddr FI35_2 rfl (add_at _ _ _) (ltn rfl)) rfl ?_
            refine VL.va (op_load 1 1 rfl rfl TI31 rfl (by decide) (ltn rfl)) rfl ?_
            refine VL.letter ((t2292 == t3803)) fun b4148 hb4148 => ?_
            refine VL.va (op_cmp rfl rfl (congrArg some hb4148) (ltn rfl)) rfl ?_
            refine VL.va (op_pick rfl rfl (ltn rfl)) rfl ?_
            refine VL.va (op_move rfl (ltn rfl)) rfl ?_
            by_cases c4149 : t2292 = t3803
            · rw [if_pos c4149] at h
              obtain rfl : b4148 = true := hb4148.symm.trans (beq_iff_eq.2 c4149)
              refine VL.va (op_load 4 21 rfl rfl TI29 rfl (fun h => absurd h (by decide)) (ltn rfl)) rfl ?_
              refine VL.va (op_fieldAddr FI35_0 rfl (add_at _ _ _) (ltn rfl)) rfl ?_
              refine VL.va (op_load 1 21 rfl rfl TI29 rfl (fun h => absurd h (by decide)) (ltn rfl)) rfl ?_
              refine VL.letter ((((t2270 == t3781) && ((t2271 == t3782) && ((t2272 == t3783) && ((t2273 == t3784) && ((t2274 == t3785) && ((t2275 == t3786) && ((t2276 == t3787) && ((t2277 == t3788) && ((t2278 == t3789) && ((t2279 == t3790) && (((t2280 == t3791) && ((t2281 == t3792) && ((t2282 == t3793) && (t2283 == t3794)))) && (((t2284 == t3795) && ((t2285 == t3796) && ((t2286 == t3797) && (t2287 == t3798)))) && (((t2288 == t3799) && (t2289 == t3800)) && (t2290 == t3801)))))))))))))))) fun b4150 hb4150 => ?_
              refine VL.va (op_eqS rfl rfl EG29 (EQ29 t2270 t2271 t2272 t2273 t2274 t2275 t2276 t2277 t2278 t2279 t2280 t2281 t2282 t2283 t2284 t2285 t2286 t2287 t2288 t2289 t2290 t3781 t3782 t3783 t3784 t3785 t3786 t3787 t3788 t3789 t3790 t3791 t3792 t3793 t3794 t3795 t3796 t3797 t3798 t3799 t3800 t3801) hb4150 (ltn rfl)) rfl ?_
              refine VL.va (op_pick rfl rfl (ltn rfl)) rfl ?_
              refine VL.va (op_move rfl (ltn rfl)) rfl ?_
              by_cases c4151 : (((t2270 == t3781) && ((t2271 == t3782) && ((t2272 == t3783) && ((t2273 == t3784) && ((t2274 == t3785) && ((t2275 == t3786) && ((t2276 == t3787) && ((t2277 == t3788) && ((t2278 == t3789) && ((t2279 == t3790) && (((t2280 == t3791) && ((t2281 == t3792) && ((t2282 == t3793) && (t2283 == t3794)))) && (((t2284 == t3795) && ((t2285 == t3796) && ((t2286 == t3797) && (t2287 == t3798)))) && (((t2288 == t3799) && (t2289 == t3800)) && (t2290 == t3801))))))))))))))) = true
              · rw [if_pos c4151] at h
                obtain rfl : b4150 = true := hb4150.symm.trans (c4151)
                refine VL.va (op_move rfl (ltn rfl)) rfl ?_
                refine VL.va (op_fieldAddr FI35_1 rfl (add_at _ _ _) (ltn rfl)) rfl ?_
                refine VL.va (op_load 1 1 rfl rfl TI3 rfl (by decide) (ltn rfl)) rfl ?_
                refine VL.letter ((t2291 == t3802)) fun b4152 hb4152 => ?_
                refine VL.va (op_cmp rfl rfl (congrArg some hb4152) (ltn rfl)) rfl ?_
                refine VL.va (op_pick rfl rfl (ltn rfl)) rfl ?_
                refine VL.va (op_move rfl (ltn rfl)) rfl ?_
                by_cases c4153 : t2291 = t3802
                · rw [if_pos c4153] at h
                  obtain rfl : b4152 = true := hb4152.symm.trans (beq_iff_eq.2 c4153)
                  refine VL.va (op_move rfl (ltn rfl)) rfl ?_
                  refine VL.va (op_fieldAddr FI35_2 rfl (add_at _ _ _) (ltn rfl)) rfl ?_
                  refine VL.va (op_load 0 1 rfl rfl TI31 rfl (by decide) (ltn rfl)) rfl ?_
                  refine VL.letter ((t2427 == t3859)) fun b4154 hb4154 => ?_
                  refine VL.va (op_cmp rfl rfl (congrArg some hb4154) (ltn rfl)) rfl ?_
                  refine VL.va (op_pick rfl rfl (ltn rfl)) rfl ?_
                  refine VL.va (op_move rfl (ltn rfl)) rfl ?_
                  by_cases c4155 : t2427 = t3859
                  · rw [if_pos c4155] at h
                    obtain rfl : b4154 = true := hb4154.symm.trans (beq_iff_eq.2 c4155)
                    refine VL.va (op_load 3 21 rfl rfl TI29 rfl (fun h => absurd h (by decide)) (ltn rfl)) rfl ?_
                    refine VL.va (op_fieldAddr FI35_0 rfl (add_at _ _ _) (ltn rfl)) rfl ?_
                    refine VL.va (op_load 0 21 rfl rfl TI29 rfl (fun h => absurd h (by decide)) (ltn rfl)) rfl ?_
                    refine VL.letter ((((t2406 == t3837) && ((t2407 == t3838) && ((t2408 == t3839) && ((t2409 == t3840) && ((t2410 == t3841) && ((t2411 == t3842) && ((t2412 == t3843) && ((t2413 == t3844) && ((t2414 == t3845) && ((t2415 == t3846) && (((t2416 == t3847) && ((t2417 == t3848) && ((t2418 == t3849) && (t2419 == t3850)))) && (((t2420 == t3851) && ((t2421 == t3852) && ((t2422 == t3853) && (t2423 == t3854)))) && (((t2424 == t3855) && (t2425 == t3856)) && (t2426 == t3857)))))))))))))))) fun b4156 hb4156 => ?_
                    refine VL.va (op_eqS rfl rfl EG29 (EQ29 t2406 t2407 t2408 t2409 t2410 t2411 t2412 t2413 t2414 t2415 t2416 t2417 t2418 t2419 t2420 t2421 t2422 t2423 t2424 t2425 t2426 t3837 t3838 t3839 t3840 t3841 t3842 t3843 t3844 t3845 t3846 t3847 t3848 t3849 t3850 t3851 t3852 t3853 t3854 t3855 t3856 t3857) hb4156 (ltn rfl)) rfl ?_
                    refine VL.va (op_pick rfl rfl (ltn rfl)) rfl ?_
                    refine VL.va (op_assign rfl (ltn rfl)) rfl ?_
                    refine VL.done ?_
                    refine VN.then ?_
                    refine VC.ret ?_
                    obtain rfl := Option.some.inj h
                    subst hb4156
                    exact VR.fn (rs := [.tmp 4]) [] [] [] rfl (.tmp rfl .nil) ⟨rfl, rfl, rfl⟩ trivial rfl (by decide)
                  · rw [if_neg c4155] at h
                    obtain rfl : b4154 = false := hb4154.symm.trans (beq_eq_false_iff_ne.2 c4155)
                    refine VL.un rfl rfl (ltn rfl) ?_
                    refine VL.un rfl rfl (ltn rfl) ?_
                    refine VL.un rfl rfl (ltn rfl) ?_
                    refine VL.un rfl rfl (ltn rfl) ?_
                    refine VL.va (op_pick rfl rfl (ltn rfl)) rfl ?_
                    refine VL.va (op_assign rfl (ltn rfl)) rfl ?_
                    refine VL.done ?_
                    refine VN.then ?_
                    refine VC.ret ?_
                    cases h
                · rw [if_neg c4153] at h
                  obtain rfl : b4152 = false := hb4152.symm.trans (beq_eq_false_iff_ne.2 c4153)
                  refine VL.un rfl rfl (ltn rfl) ?_
                  refine VL.un rfl rfl (ltn rfl) ?_
                  refine VL.un rfl rfl (ltn rfl) ?_
                  refine VL.un rfl rfl (ltn rfl) ?_
                  refine VL.va (op_pick rfl rfl (ltn rfl)) rfl ?_
                  refine VL.va (op_move rfl (ltn rfl)) rfl ?_
                  refine VL.un rfl rfl (ltn rfl) ?_
                  refine VL.un rfl rfl (ltn rfl) ?_
                  refine VL.un rfl rfl (ltn rfl) ?_
                  refine VL.un rfl rfl (ltn rfl) ?_
                  refine VL.va (op_pick rfl rfl (ltn rfl)) rfl ?_
                  refine VL.va (op_assign rfl (ltn rfl)) rfl ?_
                  refine VL.done ?_
                  refine VN.then ?_
                  refine VC.ret ?_
                  cases h
              · rw [if_neg c4151] at h
                obtain rfl : b4150 = false := hb4150.symm.trans (Bool.eq_false_iff.2 c4151)
                refine VL.un rfl rfl (ltn rfl) ?_
                refine VL.un rfl rfl (ltn rfl) ?_
                refine VL.un rfl rfl (ltn rfl) ?_
                refine VL.un rfl rfl (ltn rfl) ?_
                refine VL.va (op_pick rfl rfl (ltn rfl)) rfl ?_
                refine VL.va (op_move rfl (ltn rfl)) rfl ?_
                refine VL.un rfl rfl (ltn rfl) ?_
                refine VL.un rfl rfl (ltn rfl) ?_
                refine VL.un rfl rfl (ltn rfl) ?_
                refine VL.un rfl rfl (ltn rfl) ?_
                refine VL.va (op_pick rfl rfl (ltn rfl)) rfl ?_
                refine VL.va (op_move rfl (ltn rfl)) rfl ?_
                refine VL.un rfl rfl (ltn rfl) ?_
                refine VL.un rfl rfl (ltn rfl) ?_
                refine VL.un rfl rfl (ltn rfl) ?_
                refine VL.un rfl rfl (ltn rfl) ?_
                refine VL.va (op_pick rfl rfl (ltn rfl)) rfl ?_
                refine VL.va (op_assign rfl (ltn rfl)) rfl ?_
                refine VL.done ?_
                refine VN.then ?_
                refine VC.ret ?_
                cases h
            · rw [if_neg c4149] at h
              obtain rfl : b4148 = false := hb4148.symm.trans (beq_eq_false_iff_ne.2 c4149)
              refine VL.un rfl rfl (ltn rfl) ?_
              refine VL.un rfl rfl (ltn rfl) ?_
              refine VL.un rfl rfl (ltn rfl) ?_
              refine VL.un rfl rfl (ltn rfl) ?_
              refine VL.va (op_pick rfl rfl (ltn rfl)) rfl ?_
              refine VL.va (op_move rfl (ltn rfl)) rfl ?_
              refine VL.un rfl rfl (ltn rfl) ?_
              refine VL.un rfl rfl (ltn rfl) ?_
              refine VL.un rfl rfl (ltn rfl) ?_
              refine VL.un rfl rfl (ltn rfl) ?_
              refine VL.va (op_pick rfl rfl (ltn rfl)) rfl ?_
              refine VL.va (op_move rfl (ltn rfl)) rfl ?_
              refine VL.un rfl rfl (ltn rfl) ?_
              refine VL.un rfl rfl (ltn rfl) ?_
              refine VL.un rfl rfl (ltn rfl) ?_
              refine VL.un rfl rfl (ltn rfl) ?_
              refine VL.va (op_pick rfl rfl (ltn rfl)) rfl ?_
              refine VL.va (op_move rfl (ltn rfl)) rfl ?_
              refine VL.un rfl rfl (ltn rfl) ?_
              refine VL.un rfl rfl (ltn rfl) ?_
              refine VL.un rfl rfl (ltn rfl) ?_
              refine VL.un rfl rfl (ltn rfl) ?_
              refine VL.va (op_pick rfl rfl (ltn rfl)) rfl ?_
              refine VL.va (op_assign rfl (ltn rfl)) rfl ?_
              refine VL.done ?_
              refine VN.then ?_
              refine VC.ret ?_
              cases h
          · rw [if_neg c4147] at h
            obtain rfl : b4146 = false := hb4146.symm.trans (Bool.eq_false_iff.2 c4147)
            refine VL.un rfl rfl (ltn rfl) ?_
            refine VL.un rfl rfl (ltn rfl) ?_
            refine VL.un rfl rfl (ltn rfl) ?_
            refine VL.un rfl rfl (ltn rfl) ?_
            refine VL.va (op_pick rfl rfl (ltn rfl)) rfl ?_
            refine VL.va (op_move rfl (ltn rfl)) rfl ?_
            refine VL.un rfl rfl (ltn rfl) ?_
            refine VL.un rfl rfl (ltn rfl) ?_
            refine VL.un rfl rfl (ltn rfl) ?_
            refine VL.un rfl rfl (ltn rfl) ?_
            refine VL.va (op_pick rfl rfl (ltn rfl)) rfl ?_
            refine VL.va (op_move rfl (ltn rfl)) rfl ?_
            refine VL.un rfl rfl (ltn rfl) ?_
            refine VL.un rfl rfl (ltn rfl) ?_
            refine VL.un rfl rfl (ltn rfl) ?_
            refine VL.un rfl rfl (ltn rfl) ?_
            refine VL.va (op_pick rfl rfl (ltn rfl)) rfl ?_
            refine VL.va (op_move rfl (ltn rfl)) rfl ?_
            refine VL.un rfl rfl (ltn rfl) ?_
            refine VL.un rfl rfl (ltn rfl) ?_
            refine VL.un rfl rfl (ltn rfl) ?_
            refine VL.un rfl rfl (ltn rfl) ?_
            refine VL.va (op_pick rfl rfl (ltn rfl)) rfl ?_
            refine VL.va (op_move rfl (ltn rfl)) rfl ?_
            refine VL.un rfl rfl (ltn rfl) ?_
            refine VL.un rfl rfl (ltn rfl) ?_
            refine VL.un rfl rfl (ltn rfl) ?_
            refine VL.un rfl rfl (ltn rfl) ?_
            refine VL.va (op_pick rfl rfl (ltn rfl)) rfl ?_
            refine VL.va (op_assign rfl (ltn rfl)) rfl ?_
            refine VL.done ?_
            refine VN.then ?_
            refine VC.ret ?_
            cases h
        · rw [if_neg c4145] at h
          obtain rfl : b4144 = false := hb4144.symm.trans (beq_eq_false_iff_ne.2 c4145)
          refine VL.un rfl rfl (ltn rfl) ?_
          refine VL.un rfl rfl (ltn rfl) ?_
          refine VL.un rfl rfl (ltn rfl) ?_
          refine VL.un rfl rfl (ltn rfl) ?_
          refine VL.va (op_pick rfl rfl (ltn rfl)) rfl ?_
          refine VL.va (op_move rfl (ltn rfl)) rfl ?_
          refine VL.un rfl rfl (ltn rfl) ?_
          refine VL.un rfl rfl (ltn rfl) ?_
          refine VL.un rfl rfl (ltn rfl) ?_
          refine VL.un rfl rfl (ltn rfl) ?_
          refine VL.va (op_pick rfl rfl (ltn rfl)) rfl ?_
          refine VL.va (op_move rfl (ltn rfl)) rfl ?_
          refine VL.un rfl rfl (ltn rfl) ?_
          refine VL.un rfl rfl (ltn rfl) ?_
          refine VL.un rfl rfl (ltn rfl) ?_
          refine VL.un rfl rfl (ltn rfl) ?_
          refine VL.va (op_pick rfl rfl (ltn rfl)) rfl ?_
          refine VL.va (op_move rfl (ltn rfl)) rfl ?_
          refine VL.un rfl rfl (ltn rfl) ?_
          refine VL.un rfl rfl (ltn rfl) ?_
          refine VL.un rfl rfl (ltn rfl) ?_
          refine VL.un rfl rfl (ltn rfl) ?_
          refine VL.va (op_pick rfl rfl (ltn rfl)) rfl ?_
          refine VL.va (op_move rfl (ltn rfl)) rfl ?_
          refine VL.un rfl rfl (ltn rfl) ?_
          refine VL.un rfl rfl (ltn rfl) ?_
          refine VL.un rfl rfl (ltn rfl) ?_
          refine VL.un rfl rfl (ltn rfl) ?_
          refine VL.va (op_pick rfl rfl (ltn rfl)) rfl ?_
          refine VL.va (op_move rfl (ltn rfl)) rfl ?_
          refine VL.un rfl rfl (ltn rfl) ?_
          refine VL.un rfl rfl (ltn rfl) ?_
          refine VL.un rfl rfl (ltn rfl) ?_
          refine VL.un rfl rfl (ltn rfl) ?_
          refine VL.va (op_pick rfl rfl (ltn rfl)) rfl ?_
          refine VL.va (op_assign rfl (ltn rfl)) rfl ?_
          refine VL.done ?_
          refine VN.then ?_
          refine VC.ret ?_
          cases h
      · rw [if_neg c4143] at h
        obtain rfl := Bool.eq_false_iff.2 c4143
        refine VL.un rfl rfl (ltn rfl) ?_
        refine VL.un rfl rfl (ltn rfl) ?_
        refine VL.un rfl rfl (ltn rfl) ?_
        refine VL.un rfl rfl (ltn rfl) ?_
        refine VL.va (op_pick rfl rfl (ltn rfl)) rfl ?_
        refine VL.va (op_move rfl (ltn rfl)) rfl ?_
        refine VL.un rfl rfl (ltn rfl) ?_
        refine VL.un rfl rfl (ltn rfl) ?_
        refine VL.un rfl rfl (ltn rfl) ?_
        refine VL.un rfl rfl (ltn rfl) ?_
        refine VL.va (op_pick rfl rfl (ltn rfl)) rfl ?_
        refine VL.va (op_move rfl (ltn rfl)) rfl ?_
        refine VL.un rfl rfl (ltn rfl) ?_
        refine VL.un rfl rfl (ltn rfl) ?_
        refine VL.un rfl rfl (ltn rfl) ?_
        refine VL.un rfl rfl (ltn rfl) ?_
        refine VL.va (op_pick rfl rfl (ltn rfl)) rfl ?_
        refine VL.va (op_move rfl (ltn rfl)) rfl ?_
        refine VL.un rfl rfl (ltn rfl) ?_
        refine VL.un rfl rfl (ltn rfl) ?_
        refine VL.un rfl rfl (ltn rfl) ?_
        refine VL.un rfl rfl (ltn rfl) ?_
        refine VL.va (op_pick rfl rfl (ltn rfl)) rfl ?_
        refine VL.va (op_move rfl (ltn rfl)) rfl ?_
        refine VL.un rfl rfl (ltn rfl) ?_
        refine VL.un rfl rfl (ltn rfl) ?_
        refine VL.un rfl rfl (ltn rfl) ?_
        refine VL.un rfl rfl (ltn rfl) ?_
        refine VL.va (op_pick rfl rfl (ltn rfl)) rfl ?_
        refine VL.va (op_move rfl (ltn rfl)) rfl ?_
        refine VL.un rfl rfl (ltn rfl) ?_
        refine VL.un rfl rfl (ltn rfl) ?_
        refine VL.un rfl rfl (ltn rfl) ?_
        refine VL.un rfl rfl (ltn rfl) ?_
        refine VL.va (op_pick rfl rfl (ltn rfl)) rfl ?_
        refine VL.va (op_move rfl (ltn rfl)) rfl ?_
        refine VL.un rfl rfl (ltn rfl) ?_
        refine VL.un rfl rfl (ltn rfl) ?_
        refine VL.un rfl rfl (ltn rfl) ?_
        refine VL.un rfl rfl (ltn rfl) ?_
        refine VL.va (op_pick rfl rfl (ltn rfl)) rfl ?_
        refine VL.va (op_assign rfl (ltn rfl)) rfl ?_
        refine VL.done ?_
        refine VN.then ?_
        refine VC.ret ?_
        cases h
    · rw [if_neg c32] at h; cases h
  · rw [if_neg c31] at h; cases h

end Go.Proofs.Ytlmpfogfgefngaa.POrderGoes
