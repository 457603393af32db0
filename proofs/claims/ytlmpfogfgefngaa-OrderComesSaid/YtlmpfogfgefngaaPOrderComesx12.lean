/- Written by a program of this repo: what the program's functions do, each as a Lean function, shown of the loaded code; or a statement's row over that; no condition of its own. -/
import Derived.Test.YtlmpfogfgefngaaPOrderComesx11
namespace Go.Proofs.Ytlmpfogfgefngaa.POrderComes
open Go Go.RowKit Go.Proofs.YtlmpfogfgefngaaV
set_option linter.unusedVariables false
set_option linter.unusedSimpArgs false

set_option maxHeartbeats 4000000 in
set_option maxRecDepth 100000 in
theorem tarrylaw13_OrderComes.ok (k : Nat) (a0_0 : Int) (a0_1 : ByteArray) (a0_2 : Int) (a0_3 : Int) (a0_4 : Int) (a0_5 : Int) (a0_6 : Int) (a0_7 : Int) (a0_8 : Bool) (a0_9 : Int) (a0_10 : ByteArray) (a0_11 : Int) (a0_12 : Int) (a0_13 : Int) (a0_14 : Int) (a0_15 : Int) (a0_16 : Int) (a0_17 : Int) (a0_18 : Int) (a0_19 : Int) (a0_20 : Bool) (a1 : Int) (a2 : Int) (a3 : Int)  (r1 : Bool) (h : tarrylaw13_OrderComes.f k a0_0 a0_1 a0_2 a0_3 a0_4 a0_5 a0_6 a0_7 a0_8 a0_9 a0_10 a0_11 a0_12 a0_13 a0_14 a0_15 a0_16 a0_17 a0_18 a0_19 a0_20 a1 a2 a3 = some r1) :
    VCalls Try.prog 3 [.agg #[.int .i64 a0_0, .string a0_1, .int .i64 a0_2, .int .i64 a0_3, .int .i64 a0_4, .int .i64 a0_5, .int .i64 a0_6, .int .i64 a0_7, .bool a0_8, .int .i64 a0_9, .string a0_10, .int .i64 a0_11, .int .i64 a0_12, .int .i64 a0_13, .int .i64 a0_14, .int .i64 a0_15, .int .i64 a0_16, .int .i64 a0_17, .int .i64 a0_18, .int .i64 a0_19, .bool a0_20], .int .i64 a1, .int .i64 a2, .int .i64 a3] [] (fun v G own => v = .bool r1 ∧ G = [] ∧ own = []) := by
  refine VCalls.intro Try.func3 rfl (len rfl) fun E hC => ?_
  unfold tarrylaw13_OrderComes.f at h
  refine VC.seq ?_
  refine VC.region ?_
  refine VL.sG (o_box rfl (.agg (.c rfl (.c rfl (.c rfl (.c rfl (.c rfl (.c rfl (.c rfl (.c rfl (.c rfl (.c rfl (.c rfl (.c rfl (.c rfl (.c rfl (.c rfl (.c rfl (.c rfl (.c rfl (.c rfl (.c rfl (.c rfl .nil)))))))))))))))))))))) (ltn rfl)) rfl ?_
  intro g1
  refine VL.va (op_assign rfl (ltn rfl)) rfl ?_
  refine VL.done ?_
  refine VN.then ?_
  refine VC.seq ?_
  refine VC.region ?_
  refine VL.va (op_load 0 21 rfl rfl TI29 rfl (fun h => absurd h (by decide)) (ltn rfl)) rfl ?_
  replace h := Option.bind_eq_some_iff.1 h
  obtain ⟨⟨t8, t9, t10, t11, t12, t13, t14, t15, t16, t17, t18, t19, t20, t21, t22, t23, t24, t25, t26, t27, t28⟩, hA29, h⟩ := h
  dsimp only at h
  refine VL.sC (o_call0 FO7 (tarrylaw13_cut.ok a0_0 a0_1 a0_2 a0_3 a0_4 a0_5 a0_6 a0_7 a0_8 a0_9 a0_10 a0_11 a0_12 a0_13 a0_14 a0_15 a0_16 a0_17 a0_18 a0_19 a0_20 t8 t9 t10 t11 t12 t13 t14 t15 t16 t17 t18 t19 t20 t21 t22 t23 t24 t25 t26 t27 t28 hA29) rfl rfl (ltn rfl) (All_of .nil)) rfl ?_
  rintro _ _ _ ⟨rfl, rfl, rfl⟩
  refine VL.step1 (o_store 0 21 rfl rfl rfl TI29 (.agg (.c rfl (.c rfl (.c rfl (.c rfl (.c rfl (.c rfl (.c rfl (.c rfl (.c rfl (.c rfl (.c rfl (.c rfl (.c rfl (.c rfl (.c rfl (.c rfl (.c rfl (.c rfl (.c rfl (.c rfl (.c rfl .nil)))))))))))))))))))))) rfl (len rfl)) rfl ?_
  refine VL.done ?_
  refine VN.then ?_
  refine VC.seq ?_
  refine VC.region ?_
  refine VL.va (op_load 0 21 rfl rfl TI29 rfl (fun h => absurd h (by decide)) (ltn rfl)) rfl ?_
  refine VL.va (op_move rfl (ltn rfl)) rfl ?_
  replace h := Option.bind_eq_some_iff.1 h
  obtain ⟨⟨t2153, t2154, t2155, t2156, t2157, t2158, t2159, t2160, t2161, t2162, t2163, t2164, t2165, t2166, t2167, t2168, t2169, t2170, t2171, t2172, t2173, t2174⟩, hA2175, h⟩ := h
  dsimp only at h
  refine VL.sC (o_call0 FO8 (order_New.ok k t8 t9 t10 t11 t12 t13 t14 t15 t16 t17 t18 t19 t20 t21 t22 t23 t24 t25 t26 t27 t28 a1 t2153 t2154 t2155 t2156 t2157 t2158 t2159 t2160 t2161 t2162 t2163 t2164 t2165 t2166 t2167 t2168 t2169 t2170 t2171 t2172 t2173 t2174 hA2175) rfl rfl (ltn rfl) (All_of .nil)) rfl ?_
  rintro _ _ _ ⟨rfl, rfl, rfl⟩
  refine VL.va (op_move rfl (ltn rfl)) rfl ?_
  refine VL.va (op_extract rfl rfl (ltn rfl)) rfl ?_
  refine VL.va (op_extract rfl rfl (ltn rfl)) rfl ?_
  refine VL.sG (o_alloc (us := [.int .i64 0, .string (⟨#[]⟩ : ByteArray), .int .i64 0, .int .i64 0, .int .i64 0, .int .i64 0, .int .i64 0, .int .i64 0, .bool false, .int .i64 0, .string (⟨#[]⟩ : ByteArray), .int .i64 0, .int .i64 0, .int .i64 0, .int .i64 0, .int .i64 0, .int .i64 0, .int .i64 0, .int .i64 0, .int .i64 0, .bool false]) Z29 rfl (ltn rfl)) rfl ?_
  intro g2176
  refine VL.step1 (o_store 0 21 rfl rfl rfl TI29 (.agg (.c rfl (.c rfl (.c rfl (.c rfl (.c rfl (.c rfl (.c rfl (.c rfl (.c rfl (.c rfl (.c rfl (.c rfl (.c rfl (.c rfl (.c rfl (.c rfl (.c rfl (.c rfl (.c rfl (.c rfl (.c rfl .nil)))))))))))))))))))))) rfl (len rfl)) rfl ?_
  refine VL.va (op_assign rfl (ltn rfl)) rfl ?_
  refine VL.done ?_
  refine VN.then ?_
  refine VC.seq ?_
  refine VC.region ?_
  refine VL.va (op_load 1 21 rfl rfl TI29 rfl (fun h => absurd h (by decide)) (ltn rfl)) rfl ?_
  refine VL.va (op_move rfl (ltn rfl)) rfl ?_
  replace h := Option.bind_eq_some_iff.1 h
  obtain ⟨⟨t3506, t3507, t3508, t3509, t3510, t3511, t3512, t3513, t3514, t3515, t3516, t3517, t3518, t3519, t3520, t3521, t3522, t3523, t3524, t3525, t3526, t3527, t3528⟩, hA3529, h⟩ := h
  dsimp only at h
  refine VL.sC (o_call0 FO9 (tarryref13_New.ok k t8 t9 t10 t11 t12 t13 t14 t15 t16 t17 t18 t19 t20 t21 t22 t23 t24 t25 t26 t27 t28 a1 t3506 t3507 t3508 t3509 t3510 t3511 t3512 t3513 t3514 t3515 t3516 t3517 t3518 t3519 t3520 t3521 t3522 t3523 t3524 t3525 t3526 t3527 t3528 hA3529) rfl rfl (ltn rfl) (All_of .nil)) rfl ?_
  rintro _ _ _ ⟨rfl, rfl, rfl⟩
  refine VL.sG (o_alloc (us := [.int .i64 0, .string (⟨#[]⟩ : ByteArray), .int .i64 0, .int .i64 0, .int .i64 0, .int .i64 0, .int .i64 0, .int .i64 0, .bool false, .int .i64 0, .string (⟨#[]⟩ : ByteArray), .int .i64 0, .int .i64 0, .int .i64 0, .int .i64 0, .int .i64 0, .int .i64 0, .int .i64 0, .int .i64 0, .int .i64 0, .bool false, .int .i64 0, .int .i64 0]) Z35 rfl (ltn rfl)) rfl ?_
  intro g3530
  refine VL.step1 (o_store 0 23 rfl rfl rfl TI35 (.agg (.c rfl (.c rfl (.c rfl (.c rfl (.c rfl (.c rfl (.c rfl (.c rfl (.c rfl (.c rfl (.c rfl (.c rfl (.c rfl (.c rfl (.c rfl (.c rfl (.c rfl (.c rfl (.c rfl (.c rfl (.c rfl (.c rfl (.c rfl .nil)))))))))))))))))))))))) rfl (len rfl)) rfl ?_
  refine VL.done ?_
  refine VN.then ?_
  refine VC.seq ?_
  refine VC.region ?_
  refine VL.va (op_load 2 21 rfl rfl TI29 rfl (fun h => absurd h (by decide)) (ltn rfl)) rfl ?_
  replace h := Option.bind_eq_some_iff.1 h
  obtain ⟨t3531, hA3532, h⟩ := h
  refine VL.sC (o_call0 FO10 (tarryref13_Right.ok k t8 t9 t10 t11 t12 t13 t14 t15 t16 t17 t18 t19 t20 t21 t22 t23 t24 t25 t26 t27 t28 t3531 hA3532) rfl rfl (ltn rfl) (All_of .nil)) rfl ?_
  rintro _ _ _ ⟨rfl, rfl, rfl⟩
  refine VL.va (op_assign rfl (ltn rfl)) rfl ?_
  refine VL.done ?_
  refine VN.then ?_
  refine VC.seq ?_
  refine VC.region ?_
  refine VL.va (op_assign rfl (ltn rfl)) rfl ?_
  refine VL.done ?_
  refine VN.then ?_
  refine VC.join2 (fun (q3758 : Bool) (i3759 : Int) => ⟨80, [(2, .int .i64 a2), (3, .int .i64 a3), (4, .pointer (some ⟨g1, 0, none⟩)), (8, .bool false), (9, .pointer (some ⟨g2176, 0, none⟩)), (10, .int .i64 t2174), (11, .pointer (some ⟨g3530, 0, none⟩)), (12, .bool q3758), (13, .int .i64 i3759)], [], [(g3530, 35, [.int .i64 t3506, .string t3507, .int .i64 t3508, .int .i64 t3509, .int .i64 t3510, .int .i64 t3511, .int .i64 t3512, .int .i64 t3513, .bool t3514, .int .i64 t3515, .string t3516, .int .i64 t3517, .int .i64 t3518, .int .i64 t3519, .int .i64 t3520, .int .i64 t3521, .int .i64 t3522, .int .i64 t3523, .int .i64 t3524, .int .i64 t3525, .bool t3526, .int .i64 t3527, .int .i64 t3528]), (g2176, 29, [.int .i64 t2153, .string t2154, .int .i64 t2155, .int .i64 t2156, .int .i64 t2157, .int .i64 t2158, .int .i64 t2159, .int .i64 t2160, .bool t2161, .int .i64 t2162, .string t2163, .int .i64 t2164, .int .i64 t2165, .int .i64 t2166, .int .i64 t2167, .int .i64 t2168, .int .i64 t2169, .int .i64 t2170, .int .i64 t2171, .int .i64 t2172, .bool t2173]), (g1, 29, [.int .i64 t8, .string t9, .int .i64 t10, .int .i64 t11, .int .i64 t12, .int .i64 t13, .int .i64 t14, .int .i64 t15, .bool t16, .int .i64 t17, .string t18, .int .i64 t19, .int .i64 t20, .int .i64 t21, .int .i64 t22, .int .i64 t23, .int .i64 t24, .int .i64 t25, .int .i64 t26, .int .i64 t27, .bool t28])], []⟩) (fun (q3758 : Bool) (i3759 : Int) => tarrylaw13_OrderComes.j0 k a2 a3 t10 t11 t12 t13 t14 t15 t16 t17 t18 t19 t20 t21 t2153 t2154 t2155 t2156 t2157 t2158 t2159 t2160 t2161 t2162 t2163 t2164 t2165 t2166 t2167 t2168 t2169 t2170 t2171 t2172 t2173 t2174 t22 t23 t24 t25 t26 t27 t28 t3506 t3507 t3508 t3509 t3510 t3511 t3512 t3513 t3514 t3515 t3516 t3517 t3518 t3519 t3520 t3521 t3522 t3523 t3524 t3525 t3526 t3528 t8 t9 q3758 i3759 = some r1) ?_ ?_
  · refine VC.seq ?_
    refine VC.region ?_
    refine VL.va (op_move rfl (ltn rfl)) rfl ?_
    refine VL.done ?_
    refine VN.then ?_
    by_cases c3757 : t3531 = true
    · rw [if_pos c3757] at h
      obtain rfl := c3757
      refine VC.cond_t rfl ?_
      refine VC.region ?_
      refine VL.va (op_fieldAddr FI29_4 rfl (add_at _ _ _) (ltn rfl)) rfl ?_
      refine VL.va (op_load 2 1 rfl rfl TI3 rfl (by decide) (ltn rfl)) rfl ?_
      refine VL.va (op_fieldAddr FI29_5 rfl (add_at _ _ _) (ltn rfl)) rfl ?_
      refine VL.va (op_load 2 1 rfl rfl TI3 rfl (by decide) (ltn rfl)) rfl ?_
      refine VL.va (op_ari64 rfl rfl rfl (ltn rfl)) rfl ?_
      refine VL.va (op_assign rfl (ltn rfl)) rfl ?_
      refine VL.done ?_
      refine VN.meet2 true (wrap64 (t12 - t13)) [0, 1, 2] [] h ⟨rfl, ⟨rfl, rfl, rfl, rfl, rfl, rfl, rfl, rfl, rfl, trivial⟩, trivial, rfl, by decide, rfl, by decide⟩
    · rw [if_neg c3757] at h
      obtain rfl := Bool.eq_false_iff.2 c3757
      refine VC.cond_f rfl ?_
      refine VC.skip ?_
      refine VN.meet2 false 0 [0, 1, 2] [] h ⟨rfl, ⟨rfl, rfl, rfl, rfl, rfl, rfl, rfl, rfl, rfl, trivial⟩, trivial, rfl, by decide, rfl, by decide⟩
  clear h
  intro q3758 i3759 h
  unfold tarrylaw13_OrderComes.j0 at h
  replace h := Option.bind_eq_some_iff.1 h
  obtain ⟨t3760, hA3761, h⟩ := h
  by_cases c3762 : t3760 = true
  · rw [if_pos c3762] at h
    obtain rfl := c3762
    replace h := Option.bind_eq_some_iff.1 h
    obtain ⟨t3763, hA3764, h⟩ := h
    refine VC.letter ((t3763 == q3758)) fun b3765 hb3765 => ?_
    by_cases c3766 : t3763 = q3758
    · rw [if_pos c3766] at h
      obtain rfl : b3765 = true := hb3765.symm.trans (beq_iff_eq.2 c3766)
      refine VC.letter ((t2174 == t3528)) fun b3767 hb3767 => ?_
      by_cases c3768 : t2174 = t3528
      · rw [if_pos c3768] at h
        obtain rfl : b3767 = true := hb3767.symm.trans (beq_iff_eq.2 c3768)
        refine VC.letter ((((t2153 == t3506) && ((t2154 == t3507) && ((t2155 == t3508) && ((t2156 == t3509) && ((t2157 == t3510) && ((t2158 == t3511) && ((t2159 == t3512) && ((t2160 == t3513) && ((t2161 == t3514) && ((t2162 == t3515) && (((t2163 == t3516) && ((t2164 == t3517) && ((t2165 == t3518) && (t2166 == t3519)))) && (((t2167 == t3520) && ((t2168 == t3521) && ((t2169 == t3522) && (t2170 == t3523)))) && (((t2171 == t3524) && (t2172 == t3525)) && (t2173 == t3526)))))))))))))))) fun b3769 hb3769 => ?_
        by_cases c3770 : (((t2153 == t3506) && ((t2154 == t3507) && ((t2155 == t3508) && ((t2156 == t3509) && ((t2157 == t3510) && ((t2158 == t3511) && ((t2159 == t3512) && ((t2160 == t3513) && ((t2161 == t3514) && ((t2162 == t3515) && (((t2163 == t3516) && ((t2164 == t3517) && ((t2165 == t3518) && (t2166 == t3519)))) && (((t2167 == t3520) && ((t2168 == t3521) && ((t2169 == t3522) && (t2170 == t3523)))) && (((t2171 == t3524) && (t2172 == t3525)) && (t2173 == t3526))))))))))))))) = true
        · rw [if_pos c3770] at h
          obtain rfl : b3769 = true := hb3769.symm.trans (c3770)
          replace h := Option.bind_eq_some_iff.1 h
          obtain ⟨t3771, hA3772, h⟩ := h
          refine VC.letter ((t3771 == i3759)) fun b3773 hb3773 => ?_
          by_cases c3774 : t3771 = i3759
          · rw [if_pos c3774] at h
            obtain rfl : b3773 = true := hb3773.symm.trans (beq_iff_eq.2 c3774)
            replace h := Option.bind_eq_some_iff.1 h
            obtain ⟨t3775, hA3776, h⟩ := h
            by_cases c3777 : q3758 = true
            · rw [if_pos c3777] at h
              obtain rfl := c3777
              refine VC.letter (decide (t17 < 3)) fun b3778 hb3778 => ?_
              subst hb3778
              refine VC.letter ((t3775 == (decide (t17 < 3)))) fun b3779 hb3779 => ?_
              by_cases c3780 : t3775 = (decide (t17 < 3))
              · rw [if_pos c3780] at h
                obtain rfl : b3779 = true := hb3779.symm.trans (beq_iff_eq.2 c3780)
                replace h := Option.bind_eq_some_iff.1 h
                obtain ⟨t3781, hA3782, h⟩ := h
                replace h := Option.bind_eq_some_iff.1 h
                obtain ⟨t3783, hA3784, h⟩ := h
                refine VC.letter ((t3781 == t3783)) fun b3785 hb3785 => ?_
                refine VC.join0 (⟨80, [(8, .bool b3785)], [], [], []⟩) (True) ?_ ?_
                · refine VC.draw ⟨0, [], [], [(g3530, 35, [.int .i64 t3506, .string t3507, .int .i64 t3508, .int .i64 t3509, .int .i64 t3510, .int .i64 t3511, .int .i64 t3512, .int .i64 t3513, .bool t3514, .int .i64 t3515, .string t3516, .int .i64 t3517, .int .i64 t3518, .int .i64 t3519, .int .i64 t3520, .int .i64 t3521, .int .i64 t3522, .int .i64 t3523, .int .i64 t3524, .int .i64 t3525, .bool t3526, .int .i64 t3527, .int .i64 t3528]), (g2176, 29, [.int .i64 t2153, .string t2154, .int .i64 t2155, .int .i64 t2156, .int .i64 t2157, .int .i64 t2158, .int .i64 t2159, .int .i64 t2160, .bool t2161, .int .i64 t2162, .string t2163, .int .i64 t2164, .int .i64 t2165, .int .i64 t2166, .int .i64 t2167, .int .i64 t2168, .int .i64 t2169, .int .i64 t2170, .int .i64 t2171, .int .i64 t2172, .bool t2173]), (g1, 29, [.int .i64 t8, .string t9, .int .i64 t10, .int .i64 t11, .int .i64 t12, .int .i64 t13, .int .i64 t14, .int .i64 t15, .bool t16, .int .i64 t17, .string t18, .int .i64 t19, .int .i64 t20, .int .i64 t21, .int .i64 t22, .int .i64 t23, .int .i64 t24, .int .i64 t25, .int .i64 t26, .int .i64 t27, .bool t28])], []⟩ (by kernel_rfl) rfl (by kernel_rfl) (n := 48) (listed := LB 48 0) ?_
                  refine VA.oneC (i := 0) (listed' := LB 48 1) (by kernel_rfl) rfl (o_call0 FO11 (tarrylaw13_alive.ok k true hA3761) rfl rfl (ltn rfl) (All_of .nil)) rfl (by kernel_rfl) ?_
                  rintro _ _ _ ⟨rfl, rfl, rfl⟩
                  refine ⟨⟨trivial, ⟨⟨0, rfl⟩, ⟨1, rfl⟩, ⟨2, rfl⟩, trivial⟩, trivial⟩, ?_⟩
                  refine VA.va (i := 1) (listed' := LB 48 3) rfl (op_move rfl (ltn rfl)) rfl (by kernel_rfl) (by kernel_rfl) (by kernel_rfl) (by kernel_rfl) ⟨trivial, ⟨⟨0, rfl⟩, ⟨1, rfl⟩, ⟨2, rfl⟩, trivial⟩, trivial⟩ (fun _ _ _ h => h) ?_
                  refine VA.va (i := 2) (listed' := LB 48 7) rfl (op_load 2 21 rfl rfl TI29 rfl (fun h => absurd h (by decide)) (ltn rfl)) rfl (by kernel_rfl) (by kernel_rfl) (by kernel_rfl) (by kernel_rfl) ⟨trivial, ⟨⟨0, rfl⟩, ⟨1, rfl⟩, ⟨2, rfl⟩, trivial⟩, trivial⟩ (fun _ _ _ h => h) ?_
                  refine VA.va (i := 4) (listed' := LB 48 23) rfl (op_move rfl (ltn rfl)) rfl (by kernel_rfl) (by kernel_rfl) (by kernel_rfl) (by kernel_rfl) ⟨trivial, ⟨⟨0, rfl⟩, ⟨1, rfl⟩, ⟨2, rfl⟩, trivial⟩, trivial⟩ (fun _ _ _ h => h) ?_
                  refine VA.oneC (i := 3) (listed' := LB 48 31) (by kernel_rfl) rfl (o_call0 FO12 (order_Right.ok k t8 t9 t10 t11 t12 t13 t14 t15 t16 t17 t18 t19 t20 t21 t22 t23 t24 t25 t26 t27 t28 t3763 hA3764) rfl rfl (ltn rfl) (All_of .nil)) rfl (by kernel_rfl) ?_
                  rintro _ _ _ ⟨rfl, rfl, rfl⟩
                  refine ⟨⟨trivial, ⟨⟨0, rfl⟩, ⟨1, rfl⟩, ⟨2, rfl⟩, trivial⟩, trivial⟩, ?_⟩
                  refine VA.va (i := 5) (listed' := LB 48 63) rfl (op_eqb Try.underlying4 rfl rfl (congrArg some hb3765) (ltn rfl)) rfl (by kernel_rfl) (by kernel_rfl) (by kernel_rfl) (by kernel_rfl) ⟨trivial, ⟨⟨0, rfl⟩, ⟨1, rfl⟩, ⟨2, rfl⟩, trivial⟩, trivial⟩ (fun _ _ _ h => h) ?_
                  refine VA.va (i := 6) (listed' := LB 48 127) rfl (op_pick rfl rfl (ltn rfl)) rfl (by kernel_rfl) (by kernel_rfl) (by kernel_rfl) (by kernel_rfl) ⟨trivial, ⟨⟨0, rfl⟩, ⟨1, rfl⟩, ⟨2, rfl⟩, trivial⟩, trivial⟩ (fun _ _ _ h => h) ?_
                  refine VA.va (i := 7) (listed' := LB 48 255) rfl (op_move rfl (ltn rfl)) rfl (by kernel_rfl) (by kernel_rfl) (by kernel_rfl) (by kernel_rfl) ⟨trivial, ⟨⟨0, rfl⟩, ⟨1, rfl⟩, ⟨2, rfl⟩, trivial⟩, trivial⟩ (fun _ _ _ h => h) ?_
                  refine VA.va (i := 8) (listed' := LB 48 511) rfl (op_move rfl (ltn rfl)) rfl (by kernel_rfl) (by kernel_rfl) (by kernel_rfl) (by kernel_rfl) ⟨trivial, ⟨⟨0, rfl⟩, ⟨1, rfl⟩, ⟨2, rfl⟩, trivial⟩, trivial⟩ (fun _ _ _ h => h) ?_
                  refine VA.va (i := 9) (listed' := LB 48 1023) rfl (op_fieldAddr FI35_2 rfl (add_at _ _ _) (ltn rfl)) rfl (by kernel_rfl) (by kernel_rfl) (by kernel_rfl) (by kernel_rfl) ⟨trivial, ⟨⟨0, rfl⟩, ⟨1, rfl⟩, ⟨2, rfl⟩, trivial⟩, trivial⟩ (fun _ _ _ h => h) ?_
                  refine VA.va (i := 10) (listed' := LB 48 2047) rfl (op_load 0 1 rfl rfl TI31 rfl (by decide) (ltn rfl)) rfl (by kernel_rfl) (by kernel_rfl) (by kernel_rfl) (by kernel_rfl) ⟨trivial, ⟨⟨0, rfl⟩, ⟨1, rfl⟩, ⟨2, rfl⟩, trivial⟩, trivial⟩ (fun _ _ _ h => h) ?_
                  refine VA.va (i := 11) (listed' := LB 48 4095) rfl (op_cmp rfl rfl (congrArg some hb3767) (ltn rfl)) rfl (by kernel_rfl) (by kernel_rfl) (by kernel_rfl) (by kernel_rfl) ⟨trivial, ⟨⟨0, rfl⟩, ⟨1, rfl⟩, ⟨2, rfl⟩, trivial⟩, trivial⟩ (fun _ _ _ h => h) ?_
                  refine VA.va (i := 12) (listed' := LB 48 8191) rfl (op_pick rfl rfl (ltn rfl)) rfl (by kernel_rfl) (by kernel_rfl) (by kernel_rfl) (by kernel_rfl) ⟨trivial, ⟨⟨0, rfl⟩, ⟨1, rfl⟩, ⟨2, rfl⟩, trivial⟩, trivial⟩ (fun _ _ _ h => h) ?_
                  refine VA.va (i := 13) (listed' := LB 48 16383) rfl (op_move rfl (ltn rfl)) rfl (by kernel_rfl) (by kernel_rfl) (by kernel_rfl) (by kernel_rfl) ⟨trivial, ⟨⟨0, rfl⟩, ⟨1, rfl⟩, ⟨2, rfl⟩, trivial⟩, trivial⟩ (fun _ _ _ h => h) ?_
                  refine VA.va (i := 14) (listed' := LB 48 32767) rfl (op_load 1 21 rfl rfl TI29 rfl (fun h => absurd h (by decide)) (ltn rfl)) rfl (by kernel_rfl) (by kernel_rfl) (by kernel_rfl) (by kernel_rfl) ⟨trivial, ⟨⟨0, rfl⟩, ⟨1, rfl⟩, ⟨2, rfl⟩, trivial⟩, trivial⟩ (fun _ _ _ h => h) ?_
                  refine VA.va (i := 15) (listed' := LB 48 65535) rfl (op_fieldAddr FI35_0 rfl (add_at _ _ _) (ltn rfl)) rfl (by kernel_rfl) (by kernel_rfl) (by kernel_rfl) (by kernel_rfl) ⟨trivial, ⟨⟨0, rfl⟩, ⟨1, rfl⟩, ⟨2, rfl⟩, trivial⟩, trivial⟩ (fun _ _ _ h => h) ?_
                  refine VA.va (i := 16) (listed' := LB 48 131071) rfl (op_load 0 21 rfl rfl TI29 rfl (fun h => absurd h (by decide)) (ltn rfl)) rfl (by kernel_rfl) (by kernel_rfl) (by kernel_rfl) (by kernel_rfl) ⟨trivial, ⟨⟨0, rfl⟩, ⟨1, rfl⟩, ⟨2, rfl⟩, trivial⟩, trivial⟩ (fun _ _ _ h => h) ?_
                  refine VA.va (i := 17) (listed' := LB 48 262143) rfl (op_eqS rfl rfl EG29 (EQ29 t2153 t2154 t2155 t2156 t2157 t2158 t2159 t2160 t2161 t2162 t2163 t2164 t2165 t2166 t2167 t2168 t2169 t2170 t2171 t2172 t2173 t3506 t3507 t3508 t3509 t3510 t3511 t3512 t3513 t3514 t3515 t3516 t3517 t3518 t3519 t3520 t3521 t3522 t3523 t3524 t3525 t3526) hb3769 (ltn rfl)) rfl (by kernel_rfl) (by kernel_rfl) (by kernel_rfl) (by kernel_rfl) ⟨trivial, ⟨⟨0, rfl⟩, ⟨1, rfl⟩, ⟨2, rfl⟩, trivial⟩, trivial⟩ (fun _ _ _ h => h) ?_
                  refine VA.va (i := 18) (listed' := LB 48 524287) rfl (op_pick rfl rfl (ltn rfl)) rfl (by kernel_rfl) (by kernel_rfl) (by kernel_rfl) (by kernel_rfl) ⟨trivial, ⟨⟨0, rfl⟩, ⟨1, rfl⟩, ⟨2, rfl⟩, trivial⟩, trivial⟩ (fun _ _ _ h => h) ?_
                  refine VA.va (i := 19) (listed' := LB 48 1048575) rfl (op_move rfl (ltn rfl)) rfl (by kernel_rfl) (by kernel_rfl) (by kernel_rfl) (by kernel_rfl) ⟨trivial, ⟨⟨0, rfl⟩, ⟨1, rfl⟩, ⟨2, rfl⟩, trivial⟩, trivial⟩ (fun _ _ _ h => h) ?_
                  refine VA.va (i := 20) (listed' := LB 48 2097151) rfl (op_load 2 21 rfl rfl TI29 rfl (fun h => absurd h (by decide)) (ltn rfl)) rfl (by kernel_rfl) (by kernel_rfl) (by kernel_rfl) (by kernel_rfl) ⟨trivial, ⟨⟨0, rfl⟩, ⟨1, rfl⟩, ⟨2, rfl⟩, trivial⟩, trivial⟩ (fun _ _ _ h => h) ?_
                  refine VA.va (i := 22) (listed' := LB 48 6291455) rfl (op_move rfl (ltn rfl)) rfl (by kernel_rfl) (by kernel_rfl) (by kernel_rfl) (by kernel_rfl) ⟨trivial, ⟨⟨0, rfl⟩, ⟨1, rfl⟩, ⟨2, rfl⟩, trivial⟩, trivial⟩ (fun _ _ _ h => h) ?_
                  refine VA.oneC (i := 21) (listed' := LB 48 8388607) (by kernel_rfl) rfl (o_call0 FO13 (order_Lack.ok k t8 t9 t10 t11 t12 t13 t14 t15 t16 t17 t18 t19 t20 t21 t22 t23 t24 t25 t26 t27 t28 t3771 hA3772) rfl rfl (ltn rfl) (All_of .nil)) rfl (by kernel_rfl) ?_
                  rintro _ _ _ ⟨rfl, rfl, rfl⟩
                  refine ⟨⟨trivial, ⟨⟨0, rfl⟩, ⟨1, rfl⟩, ⟨2, rfl⟩, trivial⟩, trivial⟩, ?_⟩
                  refine VA.va (i := 23) (listed' := LB 48 16777215) rfl (op_cmp rfl rfl (congrArg some hb3773) (ltn rfl)) rfl (by kernel_rfl) (by kernel_rfl) (by kernel_rfl) (by kernel_rfl) ⟨trivial, ⟨⟨0, rfl⟩, ⟨1, rfl⟩, ⟨2, rfl⟩, trivial⟩, trivial⟩ (fun _ _ _ h => h) ?_
                  refine VA.va (i := 24) (listed' := LB 48 33554431) rfl (op_pick rfl rfl (ltn rfl)) rfl (by kernel_rfl) (by kernel_rfl) (by kernel_rfl) (by kernel_rfl) ⟨trivial, ⟨⟨0, rfl⟩, ⟨1, rfl⟩, ⟨2, rfl⟩, trivial⟩, trivial⟩ (fun _ _ _ h => h) ?_
                  refine VA.va (i := 25) (listed' := LB 48 67108863) rfl (op_move rfl (ltn rfl)) rfl (by kernel_rfl) (by kernel_rfl) (by kernel_rfl) (by kernel_rfl) ⟨trivial, ⟨⟨0, rfl⟩, ⟨1, rfl⟩, ⟨2, rfl⟩, trivial⟩, trivial⟩ (fun _ _ _ h => h) ?_
                  refine VA.va (i := 26) (listed' := LB 48 134217727) rfl (op_load 2 21 rfl rfl TI29 rfl (fun h => absurd h (by decide)) (ltn rfl)) rfl (by kernel_rfl) (by kernel_rfl) (by kernel_rfl) (by kernel_rfl) ⟨trivial, ⟨⟨0, rfl⟩, ⟨1, rfl⟩, ⟨2, rfl⟩, trivial⟩, trivial⟩ (fun _ _ _ h => h) ?_
                  refine VA.va (i := 28) (listed' := LB 48 402653183) rfl (op_move rfl (ltn rfl)) rfl (by kernel_rfl) (by kernel_rfl) (by kernel_rfl) (by kernel_rfl) ⟨trivial, ⟨⟨0, rfl⟩, ⟨1, rfl⟩, ⟨2, rfl⟩, trivial⟩, trivial⟩ (fun _ _ _ h => h) ?_
                  refine VA.oneC (i := 27) (listed' := LB 48 536870911) (by kernel_rfl) rfl (o_call0 FO14 (order_Open.ok k t8 t9 t10 t11 t12 t13 t14 t15 t16 t17 t18 t19 t20 t21 t22 t23 t24 t25 t26 t27 t28 t3775 hA3776) rfl rfl (ltn rfl) (All_of .nil)) rfl (by kernel_rfl) ?_
                  rintro _ _ _ ⟨rfl, rfl, rfl⟩
                  refine ⟨⟨trivial, ⟨⟨0, rfl⟩, ⟨1, rfl⟩, ⟨2, rfl⟩, trivial⟩, trivial⟩, ?_⟩
                  refine VA.va (i := 29) (listed' := LB 48 1073741823) rfl (op_move rfl (ltn rfl)) rfl (by kernel_rfl) (by kernel_rfl) (by kernel_rfl) (by kernel_rfl) ⟨trivial, ⟨⟨0, rfl⟩, ⟨1, rfl⟩, ⟨2, rfl⟩, trivial⟩, trivial⟩ (fun _ _ _ h => h) ?_
                  refine VA.va (i := 30) (listed' := LB 48 2147483647) rfl (op_fieldAddr FI29_9 rfl (add_at _ _ _) (ltn rfl)) rfl (by kernel_rfl) (by kernel_rfl) (by kernel_rfl) (by kernel_rfl) ⟨trivial, ⟨⟨0, rfl⟩, ⟨1, rfl⟩, ⟨2, rfl⟩, trivial⟩, trivial⟩ (fun _ _ _ h => h) ?_
                  refine VA.va (i := 31) (listed' := LB 48 4294967295) rfl (op_load 2 1 rfl rfl TI3 rfl (by decide) (ltn rfl)) rfl (by kernel_rfl) (by kernel_rfl) (by kernel_rfl) (by kernel_rfl) ⟨trivial, ⟨⟨0, rfl⟩, ⟨1, rfl⟩, ⟨2, rfl⟩, trivial⟩, trivial⟩ (fun _ _ _ h => h) ?_
                  refine VA.va (i := 32) (listed' := LB 48 8589934591) rfl (op_cmp rfl rfl (congrArg some rfl) (ltn rfl)) rfl (by kernel_rfl) (by kernel_rfl) (by kernel_rfl) (by kernel_rfl) ⟨trivial, ⟨⟨0, rfl⟩, ⟨1, rfl⟩, ⟨2, rfl⟩, trivial⟩, trivial⟩ (fun _ _ _ h => h) ?_
                  refine VA.va (i := 33) (listed' := LB 48 17179869183) rfl (op_pick rfl rfl (ltn rfl)) rfl (by kernel_rfl) (by kernel_rfl) (by kernel_rfl) (by kernel_rfl) ⟨trivial, ⟨⟨0, rfl⟩, ⟨1, rfl⟩, ⟨2, rfl⟩, trivial⟩, trivial⟩ (fun _ _ _ h => h) ?_
                  refine VA.va (i := 34) (listed' := LB 48 34359738367) rfl (op_eqb Try.underlying4 rfl rfl (congrArg some hb3779) (ltn rfl)) rfl (by kernel_rfl) (by kernel_rfl) (by kernel_rfl) (by kernel_rfl) ⟨trivial, ⟨⟨0, rfl⟩, ⟨1, rfl⟩, ⟨2, rfl⟩, trivial⟩, trivial⟩ (fun _ _ _ h => h) ?_
                  refine VA.va (i := 35) (listed' := LB 48 68719476735) rfl (op_pick rfl rfl (ltn rfl)) rfl (by kernel_rfl) (by kernel_rfl) (by kernel_rfl) (by kernel_rfl) ⟨trivial, ⟨⟨0, rfl⟩, ⟨1, rfl⟩, ⟨2, rfl⟩, trivial⟩, trivial⟩ (fun _ _ _ h => h) ?_
                  refine VA.va (i := 36) (listed' := LB 48 137438953471) rfl (op_move rfl (ltn rfl)) rfl (by kernel_rfl) (by kernel_rfl) (by kernel_rfl) (by kernel_rfl) ⟨trivial, ⟨⟨0, rfl⟩, ⟨1, rfl⟩, ⟨2, rfl⟩, trivial⟩, trivial⟩ (fun _ _ _ h => h) ?_
                  refine VA.va (i := 37) (listed' := LB 48 274877906943) rfl (op_load 2 21 rfl rfl TI29 rfl (fun h => absurd h (by decide)) (ltn rfl)) rfl (by kernel_rfl) (by kernel_rfl) (by kernel_rfl) (by kernel_rfl) ⟨trivial, ⟨⟨0, rfl⟩, ⟨1, rfl⟩, ⟨2, rfl⟩, trivial⟩, trivial⟩ (fun _ _ _ h => h) ?_
                  refine VA.va (i := 38) (listed' := LB 48 549755813887) rfl (op_move rfl (ltn rfl)) rfl (by kernel_rfl) (by kernel_rfl) (by kernel_rfl) (by kernel_rfl) ⟨trivial, ⟨⟨0, rfl⟩, ⟨1, rfl⟩, ⟨2, rfl⟩, trivial⟩, trivial⟩ (fun _ _ _ h => h) ?_
                  refine VA.va (i := 39) (listed' := LB 48 1099511627775) rfl (op_move rfl (ltn rfl)) rfl (by kernel_rfl) (by kernel_rfl) (by kernel_rfl) (by kernel_rfl) ⟨trivial, ⟨⟨0, rfl⟩, ⟨1, rfl⟩, ⟨2, rfl⟩, trivial⟩, trivial⟩ (fun _ _ _ h => h) ?_
                  refine VA.va (i := 41) (listed' := LB 48 3298534883327) rfl (op_load 2 21 rfl rfl TI29 rfl (fun h => absurd h (by decide)) (ltn rfl)) rfl (by kernel_rfl) (by kernel_rfl) (by kernel_rfl) (by kernel_rfl) ⟨trivial, ⟨⟨0, rfl⟩, ⟨1, rfl⟩, ⟨2, rfl⟩, trivial⟩, trivial⟩ (fun _ _ _ h => h) ?_
                  refine VA.va (i := 42) (listed' := LB 48 7696581394431) rfl (op_move rfl (ltn rfl)) rfl (by kernel_rfl) (by kernel_rfl) (by kernel_rfl) (by kernel_rfl) ⟨trivial, ⟨⟨0, rfl⟩, ⟨1, rfl⟩, ⟨2, rfl⟩, trivial⟩, trivial⟩ (fun _ _ _ h => h) ?_
                  refine VA.va (i := 43) (listed' := LB 48 16492674416639) rfl (op_move rfl (ltn rfl)) rfl (by kernel_rfl) (by kernel_rfl) (by kernel_rfl) (by kernel_rfl) ⟨trivial, ⟨⟨0, rfl⟩, ⟨1, rfl⟩, ⟨2, rfl⟩, trivial⟩, trivial⟩ (fun _ _ _ h => h) ?_
                  refine VA.oneC (i := 40) (listed' := LB 48 17592186044415) (by kernel_rfl) rfl (o_call0 FO15 (order_Wants.ok k t8 t9 t10 t11 t12 t13 t14 t15 t16 t17 t18 t19 t20 t21 t22 t23 t24 t25 t26 t27 t28 a2 a3 t3781 hA3782) rfl rfl (ltn rfl) (All_of .nil)) rfl (by kernel_rfl) ?_
                  rintro _ _ _ ⟨rfl, rfl, rfl⟩
                  refine ⟨⟨trivial, ⟨⟨0, rfl⟩, ⟨1, rfl⟩, ⟨2, rfl⟩, trivial⟩, trivial⟩, ?_⟩
                  refine VA.oneC (i := 44) (listed' := LB 48 35184372088831) (by kernel_rfl) rfl (o_call0 FO16 (tarryref13_Wants.ok k t8 t9 t10 t11 t12 t13 t14 t15 t16 t17 t18 t19 t20 t21 t22 t23 t24 t25 t26 t27 t28 a2 a3 t3783 hA3784) rfl rfl (ltn rfl) (All_of .nil)) rfl (by kernel_rfl) ?_
                  rintro _ _ _ ⟨rfl, rfl, rfl⟩
                  refine ⟨⟨trivial, ⟨⟨0, rfl⟩, ⟨1, rfl⟩, ⟨2, rfl⟩, trivial⟩, trivial⟩, ?_⟩
                  refine VA.va (i := 45) (listed' := LB 48 70368744177663) rfl (op_cmp rfl rfl (congrArg some hb3785) (ltn rfl)) rfl (by kernel_rfl) (by kernel_rfl) (by kernel_rfl) (by kernel_rfl) ⟨trivial, ⟨⟨0, rfl⟩, ⟨1, rfl⟩, ⟨2, rfl⟩, trivial⟩, trivial⟩ (fun _ _ _ h => h) ?_
                  refine VA.va (i := 46) (listed' := LB 48 140737488355327) rfl (op_pick rfl rfl (ltn rfl)) rfl (by kernel_rfl) (by kernel_rfl) (by kernel_rfl) (by kernel_rfl) ⟨trivial, ⟨⟨0, rfl⟩, ⟨1, rfl⟩, ⟨2, rfl⟩, trivial⟩, trivial⟩ (fun _ _ _ h => h) ?_
                  refine VA.va (i := 47) (listed' := LB 48 281474976710655) rfl (op_assign rfl (ltn rfl)) rfl (by kernel_rfl) (by kernel_rfl) (by kernel_rfl) (by kernel_rfl) ⟨trivial, ⟨⟨0, rfl⟩, ⟨1, rfl⟩, ⟨2, rfl⟩, trivial⟩, trivial⟩ (fun _ _ _ h => h) ?_
                  refine VA.done (by kernel_rfl) ?_
                  exact VN.meet0  [] [] trivial ⟨rfl, ⟨rfl, trivial⟩, trivial, rfl, by decide, rfl, by decide⟩
                intro _
                refine VC.ret ?_
                obtain rfl := Option.some.inj h
                subst hb3785
                exact VR.fn (rs := [.tmp 8]) [] [] [] rfl (.tmp rfl .nil) ⟨rfl, rfl, rfl⟩ trivial rfl (by decide)
              · rw [if_neg c3780] at h
                obtain rfl : b3779 = false := hb3779.symm.trans (beq_eq_false_iff_ne.2 c3780)
                refine VC.join0 (⟨80, [(8, .bool false)], [], [], []⟩) (True) ?_ ?_
                · refine VC.draw ⟨0, [], [], [(g3530, 35, [.int .i64 t3506, .string t3507, .int .i64 t3508, .int .i64 t3509, .int .i64 t3510, .int .i64 t3511, .int .i64 t3512, .int .i64 t3513, .bool t3514, .int .i64 t3515, .string t3516, .int .i64 t3517, .int .i64 t3518, .int .i64 t3519, .int .i64 t3520, .int .i64 t3521, .int .i64 t3522, .int .i64 t3523, .int .i64 t3524, .int .i64 t3525, .bool t3526, .int .i64 t3527, .int .i64 t3528]), (g2176, 29, [.int .i64 t2153, .string t2154, .int .i64 t2155, .int .i64 t2156, .int .i64 t2157, .int .i64 t2158, .int .i64 t2159, .int .i64 t2160, .bool t2161, .int .i64 t2162, .string t2163, .int .i64 t2164, .int .i64 t2165, .int .i64 t2166, .int .i64 t2167, .int .i64 t2168, .int .i64 t2169, .int .i64 t2170, .int .i64 t2171, .int .i64 t2172, .bool t2173]), (g1, 29, [.int .i64 t8, .string t9, .int .i64 t10, .int .i64 t11, .int .i64 t12, .int .i64 t13, .int .i64 t14, .int .i64 t15, .bool t16, .int .i64 t17, .string t18, .int .i64 t19, .int .i64 t20, .int .i64 t21, .int .i64 t22, .int .i64 t23, .int .i64 t24, .int .i64 t25, .int .i64 t26, .int .i64 t27, .bool t28])], []⟩ (by kernel_rfl) rfl (by kernel_rfl) (n := 48) (listed := LB 48 0) ?_
                  refine VA.oneC (i := 0) (listed' := LB 48 1) (by kernel_rfl) rfl (o_call0 FO11 (tarrylaw13_alive.ok k true hA3761) rfl rfl (ltn rfl) (All_of .nil)) rfl (by kernel_rfl) ?_
                  rintro _ _ _ ⟨rfl, rfl, rfl⟩
                  refine ⟨⟨trivial, ⟨⟨0, rfl⟩, ⟨1, rfl⟩, ⟨2, rfl⟩, trivial⟩, trivial⟩, ?_⟩
                  refine VA.va (i := 1) (listed' := LB 48 3) rfl (op_move rfl (ltn rfl)) rfl (by kernel_rfl) (by kernel_rfl) (by kernel_rfl) (by kernel_rfl) ⟨trivial, ⟨⟨0, rfl⟩, ⟨1, rfl⟩, ⟨2, rfl⟩, trivial⟩, trivial⟩ (fun _ _ _ h => h) ?_
                  refine VA.va (i := 2) (listed' := LB 48 7) rfl (op_load 2 21 rfl rfl TI29 rfl (fun h => absurd h (by decide)) (ltn rfl)) rfl (by kernel_rfl) (by kernel_rfl) (by kernel_rfl) (by kernel_rfl) ⟨trivial, ⟨⟨0, rfl⟩, ⟨1, rfl⟩, ⟨2, rfl⟩, trivial⟩, trivial⟩ (fun _ _ _ h => h) ?_
                  refine VA.va (i := 4) (listed' := LB 48 23) rfl (op_move rfl (ltn rfl)) rfl (by kernel_rfl) (by kernel_rfl) (by kernel_rfl) (by kernel_rfl) ⟨trivial, ⟨⟨0, rfl⟩, ⟨1, rfl⟩, ⟨2, rfl⟩, trivial⟩, trivial⟩ (fun _ _ _ h => h) ?_
                  refine VA.oneC (i := 3) (listed' := LB 48 31) (by kernel_rfl) rfl (o_call0 FO12 (order_Right.ok k t8 t9 t10 t11 t12 t13 t14 t15 t16 t17 t18 t19 t20 t21 t22 t23 t24 t25 t26 t27 t28 t3763 hA3764) rfl rfl (ltn rfl) (All_of .nil)) rfl (by kernel_rfl) ?_
                  rintro _ _ _ ⟨rfl, rfl, rfl⟩
                  refine ⟨⟨trivial, ⟨⟨0, rfl⟩, ⟨1, rfl⟩, ⟨2, rfl⟩, trivial⟩, trivial⟩, ?_⟩
                  refine VA.va (i := 5) (listed' := LB 48 63) rfl (op_eqb Try.underlying4 rfl rfl (congrArg some hb3765) (ltn rfl)) rfl (by kernel_rfl) (by kernel_rfl) (by kernel_rfl) (by kernel_rfl) ⟨trivial, ⟨⟨0, rfl⟩, ⟨1, rfl⟩, ⟨2, rfl⟩, trivial⟩, trivial⟩ (fun _ _ _ h => h) ?_
                  refine VA.va (i := 6) (listed' := LB 48 127) rfl (op_pick rfl rfl (ltn rfl)) rfl (by kernel_rfl) (by kernel_rfl) (by kernel_rfl) (by kernel_rfl) ⟨trivial, ⟨⟨0, rfl⟩, ⟨1, rfl⟩, ⟨2, rfl⟩, trivial⟩, trivial⟩ (fun _ _ _ h => h) ?_
                  refine VA.va (i := 7) (listed' := LB 48 255) rfl (op_move rfl (ltn rfl)) rfl (by kernel_rfl) (by kernel_rfl) (by kernel_rfl) (by kernel_rfl) ⟨trivial, ⟨⟨0, rfl⟩, ⟨1, rfl⟩, ⟨2, rfl⟩, trivial⟩, trivial⟩ (fun _ _ _ h => h) ?_
                  refine VA.va (i := 8) (listed' := LB 48 511) rfl (op_move rfl (ltn rfl)) rfl (by kernel_rfl) (by kernel_rfl) (by kernel_rfl) (by kernel_rfl) ⟨trivial, ⟨⟨0, rfl⟩, ⟨1, rfl⟩, ⟨2, rfl⟩, trivial⟩, trivial⟩ (fun _ _ _ h => h) ?_
                  refine VA.va (i := 9) (listed' := LB 48 1023) rfl (op_fieldAddr FI35_2 rfl (add_at _ _ _) (ltn rfl)) rfl (by kernel_rfl) (by kernel_rfl) (by kernel_rfl) (by kernel_rfl) ⟨trivial, ⟨⟨0, rfl⟩, ⟨1, rfl⟩, ⟨2, rfl⟩, trivial⟩, trivial⟩ (fun _ _ _ h => h) ?_
                  refine VA.va (i := 10) (listed' := LB 48 2047) rfl (op_load 0 1 rfl rfl TI31 rfl (by decide) (ltn rfl)) rfl (by kernel_rfl) (by kernel_rfl) (by kernel_rfl) (by kernel_rfl) ⟨trivial, ⟨⟨0, rfl⟩, ⟨1, rfl⟩, ⟨2, rfl⟩, trivial⟩, trivial⟩ (fun _ _ _ h => h) ?_
                  refine VA.va (i := 11) (listed' := LB 48 4095) rfl (op_cmp rfl rfl (congrArg some hb3767) (ltn rfl)) rfl (by kernel_rfl) (by kernel_rfl) (by kernel_rfl) (by kernel_rfl) ⟨trivial, ⟨⟨0, rfl⟩, ⟨1, rfl⟩, ⟨2, rfl⟩, trivial⟩, trivial⟩ (fun _ _ _ h => h) ?_
                  refine VA.va (i := 12) (listed' := LB 48 8191) rfl (op_pick rfl rfl (ltn rfl)) rfl (by kernel_rfl) (by kernel_rfl) (by kernel_rfl) (by kernel_rfl) ⟨trivial, ⟨⟨0, rfl⟩, ⟨1, rfl⟩, ⟨2, rfl⟩, trivial⟩, trivial⟩ (fun _ _ _ h => h) ?_
                  refine VA.va (i := 13) (listed' := LB 48 16383) rfl (op_move rfl (ltn rfl)) rfl (by kernel_rfl) (by kernel_rfl) (by kernel_rfl) (by kernel_rfl) ⟨trivial, ⟨⟨0, rfl⟩, ⟨1, rfl⟩, ⟨2, rfl⟩, trivial⟩, trivial⟩ (fun _ _ _ h => h) ?_
                  refine VA.va (i := 14) (listed' := LB 48 32767) rfl (op_load 1 21 rfl rfl TI29 rfl (fun h => absurd h (by decide)) (ltn rfl)) rfl (by kernel_rfl) (by kernel_rfl) (by kernel_rfl) (by kernel_rfl) ⟨trivial, ⟨⟨0, rfl⟩, ⟨1, rfl⟩, ⟨2, rfl⟩, trivial⟩, trivial⟩ (fun _ _ _ h => h) ?_
                  refine VA.va (i := 15) (listed' := LB 48 65535) rfl (op_fieldAddr FI35_0 rfl (add_at _ _ _) (ltn rfl)) rfl (by kernel_rfl) (by kernel_rfl) (by kernel_rfl) (by kernel_rfl) ⟨trivial, ⟨⟨0, rfl⟩, ⟨1, rfl⟩, ⟨2, rfl⟩, trivial⟩, trivial⟩ (fun _ _ _ h => h) ?_
                  refine VA.va (i := 16) (listed' := LB 48 131071) rfl (op_load 0 21 rfl rfl TI29 rfl (fun h => absurd h (by decide)) (ltn rfl)) rfl (by kernel_rfl) (by kernel_rfl) (by kernel_rfl) (by kernel_rfl) ⟨trivial, ⟨⟨0, rfl⟩, ⟨1, rfl⟩, ⟨2, rfl⟩, trivial⟩, trivial⟩ (fun _ _ _ h => h) ?_
                  refine VA.va (i := 17) (listed' := LB 48 262143) rfl (op_eqS rfl rfl EG29 (EQ29 t2153 t2154 t2155 t2156 t2157 t2158 t2159 t2160 t2161 t2162 t2163 t2164 t2165 t2166 t2167 t2168 t2169 t2170 t2171 t2172 t2173 t3506 t3507 t3508 t3509 t3510 t3511 t3512 t3513 t3514 t3515 t3516 t3517 t3518 t3519 t3520 t3521 t3522 t3523 t3524 t3525 t3526) hb3769 (ltn rfl)) rfl (by kernel_rfl) (by kernel_rfl) (by kernel_rfl) (by kernel_rfl) ⟨trivial, ⟨⟨0, rfl⟩, ⟨1, rfl⟩, ⟨2, rfl⟩, trivial⟩, trivial⟩ (fun _ _ _ h => h) ?_
                  refine VA.va (i := 18) (listed' := LB 48 524287) rfl (op_pick rfl rfl (ltn rfl)) rfl (by kernel_rfl) (by kernel_rfl) (by kernel_rfl) (by kernel_rfl) ⟨trivial, ⟨⟨0, rfl⟩, ⟨1, rfl⟩, ⟨2, rfl⟩, trivial⟩, trivial⟩ (fun _ _ _ h => h) ?_
                  refine VA.va (i := 19) (listed' := LB 48 1048575) rfl (op_move rfl (ltn rfl)) rfl (by kernel_rfl) (by kernel_rfl) (by kernel_rfl) (by kernel_rfl) ⟨trivial, ⟨⟨0, rfl⟩, ⟨1, rfl⟩, ⟨2, rfl⟩, trivial⟩, trivial⟩ (fun _ _ _ h => h) ?_
                  refine VA.va (i := 20) (listed' := LB 48 2097151) rfl (op_load 2 21 rfl rfl TI29 rfl (fun h => absurd h (by decide)) (ltn rfl)) rfl (by kernel_rfl) (by kernel_rfl) (by kernel_rfl) (by kernel_rfl) ⟨trivial, ⟨⟨0, rfl⟩, ⟨1, rfl⟩, ⟨2, rfl⟩, trivial⟩, trivial⟩ (fun _ _ _ h => h) ?_
                  refine VA.va (i := 22) (listed' := LB 48 6291455) rfl (op_move rfl (ltn rfl)) rfl (by kernel_rfl) (by kernel_rfl) (by kernel_rfl) (by kernel_rfl) ⟨trivial, ⟨⟨0, rfl⟩, ⟨1, rfl⟩, ⟨2, rfl⟩, trivial⟩, trivial⟩ (fun _ _ _ h => h) ?_
                  refine VA.oneC (i := 21) (listed' := LB 48 8388607) (by kernel_rfl) rfl (o_call0 FO13 (order_Lack.ok k t8 t9 t10 t11 t12 t13 t14 t15 t16 t17 t18 t19 t20 t21 t22 t23 t24 t25 t26 t27 t28 t3771 hA3772) rfl rfl (ltn rfl) (All_of .nil)) rfl (by kernel_rfl) ?_
                  rintro _ _ _ ⟨rfl, rfl, rfl⟩
                  refine ⟨⟨trivial, ⟨⟨0, rfl⟩, ⟨1, rfl⟩, ⟨2, rfl⟩, trivial⟩, trivial⟩, ?_⟩
                  refine VA.va (i := 23) (listed' := LB 48 16777215) rfl (op_cmp rfl rfl (congrArg some hb3773) (ltn rfl)) rfl (by kernel_rfl) (by kernel_rfl) (by kernel_rfl) (by kernel_rfl) ⟨trivial, ⟨⟨0, rfl⟩, ⟨1, rfl⟩, ⟨2, rfl⟩, trivial⟩, trivial⟩ (fun _ _ _ h => h) ?_
                  refine VA.va (i := 24) (listed' := LB 48 33554431) rfl (op_pick rfl rfl (ltn rfl)) rfl (by kernel_rfl) (by kernel_rfl) (by kernel_rfl) (by kernel_rfl) ⟨trivial, ⟨⟨0, rfl⟩, ⟨1, rfl⟩, ⟨2, rfl⟩, trivial⟩, trivial⟩ (fun _ _ _ h => h) ?_
                  refine VA.va (i := 25) (listed' := LB 48 67108863) rfl (op_move rfl (ltn rfl)) rfl (by kernel_rfl) (by kernel_rfl) (by kernel_rfl) (by kernel_rfl) ⟨trivial, ⟨⟨0, rfl⟩, ⟨1, rfl⟩, ⟨2, rfl⟩, trivial⟩, trivial⟩ (fun _ _ _ h => h) ?_
                  refine VA.va (i := 26) (listed' := LB 48 134217727) rfl (op_load 2 21 rfl rfl TI29 rfl (fun h => absurd h (by decide)) (ltn rfl)) rfl (by kernel_rfl) (by kernel_rfl) (by kernel_rfl) (by kernel_rfl) ⟨trivial, ⟨⟨0, rfl⟩, ⟨1, rfl⟩, ⟨2, rfl⟩, trivial⟩, trivial⟩ (fun _ _ _ h => h) ?_
                  refine VA.va (i := 28) (listed' := LB 48 402653183) rfl (op_move rfl (ltn rfl)) rfl (by kernel_rfl) (by kernel_rfl) (by kernel_rfl) (by kernel_rfl) ⟨trivial, ⟨⟨0, rfl⟩, ⟨1, rfl⟩, ⟨2, rfl⟩, trivial⟩, trivial⟩ (fun _ _ _ h => h) ?_
                  refine VA.oneC (i := 27) (listed' := LB 48 536870911) (by kernel_rfl) rfl (o_call0 FO14 (order_Open.ok k t8 t9 t10 t11 t12 t13 t14 t15 t16 t17 t18 t19 t20 t21 t22 t23 t24 t25 t26 t27 t28 t3775 hA3776) rfl rfl (ltn rfl) (All_of .nil)) rfl (by kernel_rfl) ?_
                  rintro _ _ _ ⟨rfl, rfl, rfl⟩
                  refine ⟨⟨trivial, ⟨⟨0, rfl⟩, ⟨1, rfl⟩, ⟨2, rfl⟩, trivial⟩, trivial⟩, ?_⟩
                  refine VA.va (i := 29) (listed' := LB 48 1073741823) rfl (op_move rfl (ltn rfl)) rfl (by kernel_rfl) (by kernel_rfl) (by kernel_rfl) (by kernel_rfl) ⟨trivial, ⟨⟨0, rfl⟩, ⟨1, rfl⟩, ⟨2, rfl⟩, trivial⟩, trivial⟩ (fun _ _ _ h => h) ?_
                  refine VA.va (i := 30) (listed' := LB 48 2147483647) rfl (op_fieldAddr FI29_9 rfl (add_at _ _ _) (ltn rfl)) rfl (by kernel_rfl) (by kernel_rfl) (by kernel_rfl) (by kernel_rfl) ⟨trivial, ⟨⟨0, rfl⟩, ⟨1, rfl⟩, ⟨2, rfl⟩, trivial⟩, trivial⟩ (fun _ _ _ h => h) ?_
                  refine VA.va (i := 31) (listed' := LB 48 4294967295) rfl (op_load 2 1 rfl rfl TI3 rfl (by decide) (ltn rfl)) rfl (by kernel_rfl) (by kernel_rfl) (by kernel_rfl) (by kernel_rfl) ⟨trivial, ⟨⟨0, rfl⟩, ⟨1, rfl⟩, ⟨2, rfl⟩, trivial⟩, trivial⟩ (fun _ _ _ h => h) ?_
                  refine VA.va (i := 32) (listed' := LB 48 8589934591) rfl (op_cmp rfl rfl (congrArg some rfl) (ltn rfl)) rfl (by kernel_rfl) (by kernel_rfl) (by kernel_rfl) (by kernel_rfl) ⟨trivial, ⟨⟨0, rfl⟩, ⟨1, rfl⟩, ⟨2, rfl⟩, trivial⟩, trivial⟩ (fun _ _ _ h => h) ?_
                  refine VA.va (i := 33) (listed' := LB 48 17179869183) rfl (op_pick rfl rfl (ltn rfl)) rfl (by kernel_rfl) (by kernel_rfl) (by kernel_rfl) (by kernel_rfl) ⟨trivial, ⟨⟨0, rfl⟩, ⟨1, rfl⟩, ⟨2, rfl⟩, trivial⟩, trivial⟩ (fun _ _ _ h => h) ?_
                  refine VA.va (i := 34) (listed' := LB 48 34359738367) rfl (op_eqb Try.underlying4 rfl rfl (congrArg some hb3779) (ltn rfl)) rfl (by kernel_rfl) (by kernel_rfl) (by kernel_rfl) (by kernel_rfl) ⟨trivial, ⟨⟨0, rfl⟩, ⟨1, rfl⟩, ⟨2, rfl⟩, trivial⟩, trivial⟩ (fun _ _ _ h => h) ?_
                  refine VA.va (i := 35) (listed' := LB 48 68719476735) rfl (op_pick rfl rfl (ltn rfl)) rfl (by kernel_rfl) (by kernel_rfl) (by kernel_rfl) (by kernel_rfl) ⟨trivial, ⟨⟨0, rfl⟩, ⟨1, rfl⟩, ⟨2, rfl⟩, trivial⟩, trivial⟩ (fun _ _ _ h => h) ?_
                  refine VA.va (i := 36) (listed' := LB 48 137438953471) rfl (op_move rfl (ltn rfl)) rfl (by kernel_rfl) (by kernel_rfl) (by kernel_rfl) (by kernel_rfl) ⟨trivial, ⟨⟨0, rfl⟩, ⟨1, rfl⟩, ⟨2, rfl⟩, trivial⟩, trivial⟩ (fun _ _ _ h => h) ?_
                  refine VA.un (i := 37) (listed' := LB 48 274877906943) rfl rfl rfl (ltn rfl) (by kernel_rfl) (by kernel_rfl) (by kernel_rfl) (by kernel_rfl) ⟨trivial, ⟨⟨0, rfl⟩, ⟨1, rfl⟩, ⟨2, rfl⟩, trivial⟩, trivial⟩ (fun _ _ _ h => h) ?_
                  refine VA.un (i := 38) (listed' := LB 48 549755813887) rfl rfl rfl (ltn rfl) (by kernel_rfl) (by kernel_rfl) (by kernel_rfl) (by kernel_rfl) ⟨trivial, ⟨⟨0, rfl⟩, ⟨1, rfl⟩, ⟨2, rfl⟩, trivial⟩, trivial⟩ (fun _ _ _ h => h) ?_
                  refine VA.un (i := 39) (listed' := LB 48 1099511627775) rfl rfl rfl (ltn rfl) (by kernel_rfl) (by kernel_rfl) (by kernel_rfl) (by kernel_rfl) ⟨trivial, ⟨⟨0, rfl⟩, ⟨1, rfl⟩, ⟨2, rfl⟩, trivial⟩, trivial⟩ (fun _ _ _ h => h) ?_
                  refine VA.un (i := 40) (listed' := LB 48 2199023255551) rfl rfl rfl (ltn rfl) (by kernel_rfl) (by kernel_rfl) (by kernel_rfl) (by kernel_rfl) ⟨trivial, ⟨⟨0, rfl⟩, ⟨1, rfl⟩, ⟨2, rfl⟩, trivial⟩, trivial⟩ (fun _ _ _ h => h) ?_
                  refine VA.un (i := 41) (listed' := LB 48 4398046511103) rfl rfl rfl (ltn rfl) (by kernel_rfl) (by kernel_rfl) (by kernel_rfl) (by kernel_rfl) ⟨trivial, ⟨⟨0, rfl⟩, ⟨1, rfl⟩, ⟨2, rfl⟩, trivial⟩, trivial⟩ (fun _ _ _ h => h) ?_
                  refine VA.un (i := 42) (listed' := LB 48 8796093022207) rfl rfl rfl (ltn rfl) (by kernel_rfl) (by kernel_rfl) (by kernel_rfl) (by kernel_rfl) ⟨trivial, ⟨⟨0, rfl⟩, ⟨1, rfl⟩, ⟨2, rfl⟩, trivial⟩, trivial⟩ (fun _ _ _ h => h) ?_
                  refine VA.un (i := 43) (listed' := LB 48 17592186044415) rfl rfl rfl (ltn rfl) (by kernel_rfl) (by kernel_rfl) (by kernel_rfl) (by kernel_rfl) ⟨trivial, ⟨⟨0, rfl⟩, ⟨1, rfl⟩, ⟨2, rfl⟩, trivial⟩, trivial⟩ (fun _ _ _ h => h) ?_
                  refine VA.un (i := 44) (listed' := LB 48 35184372088831) rfl rfl rfl (ltn rfl) (by kernel_rfl) (by kernel_rfl) (by kernel_rfl) (by kernel_rfl) ⟨trivial, ⟨⟨0, rfl⟩, ⟨1, rfl⟩, ⟨2, rfl⟩, trivial⟩, trivial⟩ (fun _ _ _ h => h) ?_
                  refine VA.un (i := 45) (listed' := LB 48 70368744177663) rfl rfl rfl (ltn rfl) (by kernel_rfl) (by kernel_rfl) (by kernel_rfl) (by kernel_rfl) ⟨trivial, ⟨⟨0, rfl⟩, ⟨1, rfl⟩, ⟨2, rfl⟩, trivial⟩, trivial⟩ (fun _ _ _ h => h) ?_
                  refine VA.va (i := 46) (listed' := LB 48 140737488355327) rfl (op_pick rfl rfl (ltn rfl)) rfl (by kernel_rfl) (by kernel_rfl) (by kernel_rfl) (by kernel_rfl) ⟨trivial, ⟨⟨0, rfl⟩, ⟨1, rfl⟩, ⟨2, rfl⟩, trivial⟩, trivial⟩ (fun _ _ _ h => h) ?_
                  refine VA.va (i := 47) (listed' := LB 48 281474976710655) rfl (op_assign rfl (ltn rfl)) rfl (by kernel_rfl) (by kernel_rfl) (by kernel_rfl) (by kernel_rfl) ⟨trivial, ⟨⟨0, rfl⟩, ⟨1, rfl⟩, ⟨2, rfl⟩, trivial⟩, trivial⟩ (fun _ _ _ h => h) ?_
                  refine VA.done (by kernel_rfl) ?_
                  exact VN.meet0  [] [] trivial ⟨rfl, ⟨rfl, trivial⟩, trivial, rfl, by decide, rfl, by decide⟩
                intro _
                refine VC.ret ?_
                cases h
            · rw [if_neg c3777] at h
              obtain rfl := Bool.eq_false_iff.2 c3777
              refine VC.letter ((t3775 == false)) fun b3786 hb3786 => ?_
              by_cases c3787 : t3775 = false
              · rw [if_pos c3787] at h
                obtain rfl : b3786 = true := hb3786.symm.trans (beq_iff_eq.2 c3787)
                replace h := Option.bind_eq_some_iff.1 h
                obtain ⟨t3788, hA3789, h⟩ := h
                replace h := Option.bind_eq_some_iff.1 h
                obtain ⟨t3790, hA3791, h⟩ := h
                refine VC.letter ((t3788 == t3790)) fun b3792 hb3792 => ?_
                refine VC.join0 (⟨80, [(8, .bool b3792)], [], [], []⟩) (True) ?_ ?_
                · refine VC.draw ⟨0, [], [], [(g3530, 35, [.int .i64 t3506, .string t3507, .int .i64 t3508, .int .i64 t3509, .int .i64 t3510, .int .i64 t3511, .int .i64 t3512, .int .i64 t3513, .bool t3514, .int .i64 t3515, .string t3516, .int .i64 t3517, .int .i64 t3518, .int .i64 t3519, .int .i64 t3520, .int .i64 t3521, .int .i64 t3522, .int .i64 t3523, .int .i64 t3524, .int .i64 t3525, .bool t3526, .int .i64 t3527, .int .i64 t3528]), (g2176, 29, [.int .i64 t2153, .string t2154, .int .i64 t2155, .int .i64 t2156, .int .i64 t2157, .int .i64 t2158, .int .i64 t2159, .int .i64 t2160, .bool t2161, .int .i64 t2162, .string t2163, .int .i64 t2164, .int .i64 t2165, .int .i64 t2166, .int .i64 t2167, .int .i64 t2168, .int .i64 t2169, .int .i64 t2170, .int .i64 t2171, .int .i64 t2172, .bool t2173]), (g1, 29, [.int .i64 t8, .string t9, .int .i64 t10, .int .i64 t11, .int .i64 t12, .int .i64 t13, .int .i64 t14, .int .i64 t15, .bool t16, .int .i64 t17, .string t18, .int .i64 t19, .int .i64 t20, .int .i64 t21, .int .i64 t22, .int .i64 t23, .int .i64 t24, .int .i64 t25, .int .i64 t26, .int .i64 t27, .bool t28])], []⟩ (by kernel_rfl) rfl (by kernel_rfl) (n := 48) (listed := LB 48 0) ?_
                  refine VA.oneC (i := 0) (listed' := LB 48 1) (by kernel_rfl) rfl (o_call0 FO11 (tarrylaw13_alive.ok k true hA3761) rfl rfl (ltn rfl) (All_of .nil)) rfl (by kernel_rfl) ?_
                  rintro _ _ _ ⟨rfl, rfl, rfl⟩
                  refine ⟨⟨trivial, ⟨⟨0, rfl⟩, ⟨1, rfl⟩, ⟨2, rfl⟩, trivial⟩, trivial⟩, ?_⟩
                  refine VA.va (i := 1) (listed' := LB 48 3) rfl (op_move rfl (ltn rfl)) rfl (by kernel_rfl) (by kernel_rfl) (by kernel_rfl) (by kernel_rfl) ⟨trivial, ⟨⟨0, rfl⟩, ⟨1, rfl⟩, ⟨2, rfl⟩, trivial⟩, trivial⟩ (fun _ _ _ h => h) ?_
                  refine VA.va (i := 2) (listed' := LB 48 7) rfl (op_load 2 21 rfl rfl TI29 rfl (fun h => absurd h (by decide)) (ltn rfl)) rfl (by kernel_rfl) (by kernel_rfl) (by kernel_rfl) (by kernel_rfl) ⟨trivial, ⟨⟨0, rfl⟩, ⟨1, rfl⟩, ⟨2, rfl⟩, trivial⟩, trivial⟩ (fun _ _ _ h => h) ?_
                  refine VA.va (i := 4) (listed' := LB 48 23) rfl (op_move rfl (ltn rfl)) rfl (by kernel_rfl) (by kernel_rfl) (by kernel_rfl) (by kernel_rfl) ⟨trivial, ⟨⟨0, rfl⟩, ⟨1, rfl⟩, ⟨2, rfl⟩, trivial⟩, trivial⟩ (fun _ _ _ h => h) ?_
                  refine VA.oneC (i := 3) (listed' := LB 48 31) (by kernel_rfl) rfl (o_call0 FO12 (order_Right.ok k t8 t9 t10 t11 t12 t13 t14 t15 t16 t17 t18 t19 t20 t21 t22 t23 t24 t25 t26 t27 t28 t3763 hA3764) rfl rfl (ltn rfl) (All_of .nil)) rfl (by kernel_rfl) ?_
                  rintro _ _ _ ⟨rfl, rfl, rfl⟩
                  refine ⟨⟨trivial, ⟨⟨0, rfl⟩, ⟨1, rfl⟩, ⟨2, rfl⟩, trivial⟩, trivial⟩, ?_⟩
                  refine VA.va (i := 5) (listed' := LB 48 63) rfl (op_eqb Try.underlying4 rfl rfl (congrArg some hb3765) (ltn rfl)) rfl (by kernel_rfl) (by kernel_rfl) (by kernel_rfl) (by kernel_rfl) ⟨trivial, ⟨⟨0, rfl⟩, ⟨1, rfl⟩, ⟨2, rfl⟩, trivial⟩, trivial⟩ (fun _ _ _ h => h) ?_
                  refine VA.va (i := 6) (listed' := LB 48 127) rfl (op_pick rfl rfl (ltn rfl)) rfl (by kernel_rfl) (by kernel_rfl) (by kernel_rfl) (by kernel_rfl) ⟨trivial, ⟨⟨0, rfl⟩, ⟨1, rfl⟩, ⟨2, rfl⟩, trivial⟩, trivial⟩ (fun _ _ _ h => h) ?_
                  refine VA.va (i := 7) (listed' := LB 48 255) rfl (op_move rfl (ltn rfl)) rfl (by kernel_rfl) (by kernel_rfl) (by kernel_rfl) (by kernel_rfl) ⟨trivial, ⟨⟨0, rfl⟩, ⟨1, rfl⟩, ⟨2, rfl⟩, trivial⟩, trivial⟩ (fun _ _ _ h => h) ?_
                  refine VA.va (i := 8) (listed' := LB 48 511) rfl (op_move rfl (ltn rfl)) rfl (by kernel_rfl) (by kernel_rfl) (by kernel_rfl) (by kernel_rfl) ⟨trivial, ⟨⟨0, rfl⟩, ⟨1, rfl⟩, ⟨2, rfl⟩, trivial⟩, trivial⟩ (fun _ _ _ h => h) ?_
                  refine VA.va (i := 9) (listed' := LB 48 1023) rfl (op_fieldAddr FI35_2 rfl (add_at _ _ _) (ltn rfl)) rfl (by kernel_rfl) (by kernel_rfl) (by kernel_rfl) (by kernel_rfl) ⟨trivial, ⟨⟨0, rfl⟩, ⟨1, rfl⟩, ⟨2, rfl⟩, trivial⟩, trivial⟩ (fun _ _ _ h => h) ?_
                  refine VA.va (i := 10) (listed' := LB 48 2047) rfl (op_load 0 1 rfl rfl TI31 rfl (by decide) (ltn rfl)) rfl (by kernel_rfl) (by kernel_rfl) (by kernel_rfl) (by kernel_rfl) ⟨trivial, ⟨⟨0, rfl⟩, ⟨1, rfl⟩, ⟨2, rfl⟩, trivial⟩, trivial⟩ (fun _ _ _ h => h) ?_
                  refine VA.va (i := 11) (listed' := LB 48 4095) rfl (op_cmp rfl rfl (congrArg some hb3767) (ltn rfl)) rfl (by kernel_rfl) (by kernel_rfl) (by kernel_rfl) (by kernel_rfl) ⟨trivial, ⟨⟨0, rfl⟩, ⟨1, rfl⟩, ⟨2, rfl⟩, trivial⟩, trivial⟩ (fun _ _ _ h => h) ?_
                  refine VA.va (i := 12) (listed' := LB 48 8191) rfl (op_pick rfl rfl (ltn rfl)) rfl (by kernel_rfl) (by kernel_rfl) (by kernel_rfl) (by kernel_rfl) ⟨trivial, ⟨⟨0, rfl⟩, ⟨1, rfl⟩, ⟨2, rfl⟩, trivial⟩, trivial⟩ (fun _ _ _ h => h) ?_
                  refine VA.va (i := 13) (listed' := LB 48 16383) rfl (op_move rfl (ltn rfl)) rfl (by kernel_rfl) (by kernel_rfl) (by kernel_rfl) (by kernel_rfl) ⟨trivial, ⟨⟨0, rfl⟩, ⟨1, rfl⟩, ⟨2, rfl⟩, trivial⟩, trivial⟩ (fun _ _ _ h => h) ?_
                  refine VA.va (i := 14) (listed' := LB 48 32767) rfl (op_load 1 21 rfl rfl TI29 rfl (fun h => absurd h (by decide)) (ltn rfl)) rfl (by kernel_rfl) (by kernel_rfl) (by kernel_rfl) (by kernel_rfl) ⟨trivial, ⟨⟨0, rfl⟩, ⟨1, rfl⟩, ⟨2, rfl⟩, trivial⟩, trivial⟩ (fun _ _ _ h => h) ?_
                  refine VA.va (i := 15) (listed' := LB 48 65535) rfl (op_fieldAddr FI35_0 rfl (add_at _ _ _) (ltn rfl)) rfl (by kernel_rfl) (by kernel_rfl) (by kernel_rfl) (by kernel_rfl) ⟨trivial, ⟨⟨0, rfl⟩, ⟨1, rfl⟩, ⟨2, rfl⟩, trivial⟩, trivial⟩ (fun _ _ _ h => h) ?_
                  refine VA.va (i := 16) (listed' := LB 48 131071) rfl (op_load 0 21 rfl rfl TI29 rfl (fun h => absurd h (by decide)) (ltn rfl)) rfl (by kernel_rfl) (by kernel_rfl) (by kernel_rfl) (by kernel_rfl) ⟨trivial, ⟨⟨0, rfl⟩, ⟨1, rfl⟩, ⟨2, rfl⟩, trivial⟩, trivial⟩ (fun _ _ _ h => h) ?_
                  refine VA.va (i := 17) (listed' := LB 48 262143) rfl (op_eqS rfl rfl EG29 (EQ29 t2153 t2154 t2155 t2156 t2157 t2158 t2159 t2160 t2161 t2162 t2163 t2164 t2165 t2166 t2167 t2168 t2169 t2170 t2171 t2172 t2173 t3506 t3507 t3508 t3509 t3510 t3511 t3512 t3513 t3514 t3515 t3516 t3517 t3518 t3519 t3520 t3521 t3522 t3523 t3524 t3525 t3526) hb3769 (ltn rfl)) rfl (by kernel_rfl) (by kernel_rfl) (by kernel_rfl) (by kernel_rfl) ⟨trivial, ⟨⟨0, rfl⟩, ⟨1, rfl⟩, ⟨2, rfl⟩, trivial⟩, trivial⟩ (fun _ _ _ h => h) ?_
                  refine VA.va (i := 18) (listed' := LB 48 524287) rfl (op_pick rfl rfl (ltn rfl)) rfl (by kernel_rfl) (by kernel_rfl) (by kernel_rfl) (by kernel_rfl) ⟨trivial, ⟨⟨0, rfl⟩, ⟨1, rfl⟩, ⟨2, rfl⟩, trivial⟩, trivial⟩ (fun _ _ _ h => h) ?_
                  refine VA.va (i := 19) (listed' := LB 48 1048575) rfl (op_move rfl (ltn rfl)) rfl (by kernel_rfl) (by kernel_rfl) (by kernel_rfl) (by kernel_rfl) ⟨trivial, ⟨⟨0, rfl⟩, ⟨1, rfl⟩, ⟨2, rfl⟩, trivial⟩, trivial⟩ (fun _ _ _ h => h) ?_
                  refine VA.va (i := 20) (listed' := LB 48 2097151) rfl (op_load 2 21 rfl rfl TI29 rfl (fun h => absurd h (by decide)) (ltn rfl)) rfl (by kernel_rfl) (by kernel_rfl) (by kernel_rfl) (by kernel_rfl) ⟨trivial, ⟨⟨0, rfl⟩, ⟨1, rfl⟩, ⟨2, rfl⟩, trivial⟩, trivial⟩ (fun _ _ _ h => h) ?_
                  refine VA.va (i := 22) (listed' := LB 48 6291455) rfl (op_move rfl (ltn rfl)) rfl (by kernel_rfl) (by kernel_rfl) (by kernel_rfl) (by kernel_rfl) ⟨trivial, ⟨⟨0, rfl⟩, ⟨1, rfl⟩, ⟨2, rfl⟩, trivial⟩, trivial⟩ (fun _ _ _ h => h) ?_
                  refine VA.oneC (i := 21) (listed' := LB 48 8388607) (by kernel_rfl) rfl (o_call0 FO13 (order_Lack.ok k t8 t9 t10 t11 t12 t13 t14 t15 t16 t17 t18 t19 t20 t21 t22 t23 t24 t25 t26 t27 t28 t3771 hA3772) rfl rfl (ltn rfl) (All_of .nil)) rfl (by kernel_rfl) ?_
                  rintro _ _ _ ⟨rfl, rfl, rfl⟩
                  refine ⟨⟨trivial, ⟨⟨0, rfl⟩, ⟨1, rfl⟩, ⟨2, rfl⟩, trivial⟩, trivial⟩, ?_⟩
                  refine VA.va (i := 23) (listed' := LB 48 16777215) rfl (op_cmp rfl rfl (congrArg some hb3773) (ltn rfl)) rfl (by kernel_rfl) (by kernel_rfl) (by kernel_rfl) (by kernel_rfl) ⟨trivial, ⟨⟨0, rfl⟩, ⟨1, rfl⟩, ⟨2, rfl⟩, trivial⟩, trivial⟩ (fun _ _ _ h => h) ?_
                  refine VA.va (i := 24) (listed' := LB 48 33554431) rfl (op_pick rfl rfl (ltn rfl)) rfl (by kernel_rfl) (by kernel_rfl) (by kernel_rfl) (by kernel_rfl) ⟨trivial, ⟨⟨0, rfl⟩, ⟨1, rfl⟩, ⟨2, rfl⟩, trivial⟩, trivial⟩ (fun _ _ _ h => h) ?_
                  refine VA.va (i := 25) (listed' := LB 48 67108863) rfl (op_move rfl (ltn rfl)) rfl (by kernel_rfl) (by kernel_rfl) (by kernel_rfl) (by kernel_rfl) ⟨trivial, ⟨⟨0, rfl⟩, ⟨1, rfl⟩, ⟨2, rfl⟩, trivial⟩, trivial⟩ (fun _ _ _ h => h) ?_
                  refine VA.va (i := 26) (listed' := LB 48 134217727) rfl (op_load 2 21 rfl rfl TI29 rfl (fun h => absurd h (by decide)) (ltn rfl)) rfl (by kernel_rfl) (by kernel_rfl) (by kernel_rfl) (by kernel_rfl) ⟨trivial, ⟨⟨0, rfl⟩, ⟨1, rfl⟩, ⟨2, rfl⟩, trivial⟩, trivial⟩ (fun _ _ _ h => h) ?_
                  refine VA.va (i := 28) (listed' := LB 48 402653183) rfl (op_move rfl (ltn rfl)) rfl (by kernel_rfl) (by kernel_rfl) (by kernel_rfl) (by kernel_rfl) ⟨trivial, ⟨⟨0, rfl⟩, ⟨1, rfl⟩, ⟨2, rfl⟩, trivial⟩, trivial⟩ (fun _ _ _ h => h) ?_
                  refine VA.oneC (i := 27) (listed' := LB 48 536870911) (by kernel_rfl) rfl (o_call0 FO14 (order_Open.ok k t8 t9 t10 t11 t12 t13 t14 t15 t16 t17 t18 t19 t20 t21 t22 t23 t24 t25 t26 t27 t28 t3775 hA3776) rfl rfl (ltn rfl) (All_of .nil)) rfl (by kernel_rfl) ?_
                  rintro _ _ _ ⟨rfl, rfl, rfl⟩
                  refine ⟨⟨trivial, ⟨⟨0, rfl⟩, ⟨1, rfl⟩, ⟨2, rfl⟩, trivial⟩, trivial⟩, ?_⟩
                  refine VA.va (i := 29) (listed' := LB 48 1073741823) rfl (op_move rfl (ltn rfl)) rfl (by kernel_rfl) (by kernel_rfl) (by kernel_rfl) (by kernel_rfl) ⟨trivial, ⟨⟨0, rfl⟩, ⟨1, rfl⟩, ⟨2, rfl⟩, trivial⟩, trivial⟩ (fun _ _ _ h => h) ?_
                  refine VA.un (i := 30) (listed' := LB 48 2147483647) rfl rfl rfl (ltn rfl) (by kernel_rfl) (by kernel_rfl) (by kernel_rfl) (by kernel_rfl) ⟨trivial, ⟨⟨0, rfl⟩, ⟨1, rfl⟩, ⟨2, rfl⟩, trivial⟩, trivial⟩ (fun _ _ _ h => h) ?_
                  refine VA.un (i := 31) (listed' := LB 48 4294967295) rfl rfl rfl (ltn rfl) (by kernel_rfl) (by kernel_rfl) (by kernel_rfl) (by kernel_rfl) ⟨trivial, ⟨⟨0, rfl⟩, ⟨1, rfl⟩, ⟨2, rfl⟩, trivial⟩, trivial⟩ (fun _ _ _ h => h) ?_
                  refine VA.un (i := 32) (listed' := LB 48 8589934591) rfl rfl rfl (ltn rfl) (by kernel_rfl) (by kernel_rfl) (by kernel_rfl) (by kernel_rfl) ⟨trivial, ⟨⟨0, rfl⟩, ⟨1, rfl⟩, ⟨2, rfl⟩, trivial⟩, trivial⟩ (fun _ _ _ h => h) ?_
                  refine VA.va (i := 33) (listed' := LB 48 17179869183) rfl (op_pick rfl rfl (ltn rfl)) rfl (by kernel_rfl) (by kernel_rfl) (by kernel_rfl) (by kernel_rfl) ⟨trivial, ⟨⟨0, rfl⟩, ⟨1, rfl⟩, ⟨2, rfl⟩, trivial⟩, trivial⟩ (fun _ _ _ h => h) ?_
                  refine VA.va (i := 34) (listed' := LB 48 34359738367) rfl (op_eqb Try.underlying4 rfl rfl (congrArg some hb3786) (ltn rfl)) rfl (by kernel_rfl) (by kernel_rfl) (by kernel_rfl) (by kernel_rfl) ⟨trivial, ⟨⟨0, rfl⟩, ⟨1, rfl⟩, ⟨2, rfl⟩, trivial⟩, trivial⟩ (fun _ _ _ h => h) ?_
                  refine VA.va (i := 35) (listed' := LB 48 68719476735) rfl (op_pick rfl rfl (ltn rfl)) rfl (by kernel_rfl) (by kernel_rfl) (by kernel_rfl) (by kernel_rfl) ⟨trivial, ⟨⟨0, rfl⟩, ⟨1, rfl⟩, ⟨2, rfl⟩, trivial⟩, trivial⟩ (fun _ _ _ h => h) ?_
                  refine VA.va (i := 36) (listed' := LB 48 137438953471) rfl (op_move rfl (ltn rfl)) rfl (by kernel_rfl) (by kernel_rfl) (by kernel_rfl) (by kernel_rfl) ⟨trivial, ⟨⟨0, rfl⟩, ⟨1, rfl⟩, ⟨2, rfl⟩, trivial⟩, trivial⟩ (fun _ _ _ h => h) ?_
                  refine VA.va (i := 37) (listed' := LB 48 274877906943) rfl (op_load 2 21 rfl rfl TI29 rfl (fun h => absurd h (by decide)) (ltn rfl)) rfl (by kernel_rfl) (by kernel_rfl) (by kernel_rfl) (by kernel_rfl) ⟨trivial, ⟨⟨0, rfl⟩, ⟨1, rfl⟩, ⟨2, rfl⟩, trivial⟩, trivial⟩ (fun _ _ _ h => h) ?_
                  refine VA.va (i := 38) (listed' := LB 48 549755813887) rfl (op_move rfl (ltn rfl)) rfl (by kernel_rfl) (by kernel_rfl) (by kernel_rfl) (by kernel_rfl) ⟨trivial, ⟨⟨0, rfl⟩, ⟨1, rfl⟩, ⟨2, rfl⟩, trivial⟩, trivial⟩ (fun _ _ _ h => h) ?_
                  refine VA.va (i := 39) (listed' := LB 48 1099511627775) rfl (op_move rfl (ltn rfl)) rfl (by kernel_rfl) (by kernel_rfl) (by kernel_rfl) (by kernel_rfl) ⟨trivial, ⟨⟨0, rfl⟩, ⟨1, rfl⟩, ⟨2, rfl⟩, trivial⟩, trivial⟩ (fun _ _ _ h => h) ?_
                  refine VA.va (i := 41) (listed' := LB 48 3298534883327) rfl (op_load 2 21 rfl rfl TI29 rfl (fun h => absurd h (by decide)) (ltn rfl)) rfl (by kernel_rfl) (by kernel_rfl) (by kernel_rfl) (by kernel_rfl) ⟨trivial, ⟨⟨0, rfl⟩, ⟨1, rfl⟩, ⟨2, rfl⟩, trivial⟩, trivial⟩ (fun _ _ _ h => h) ?_
                  refine VA.va (i := 42) (listed' := LB 48 7696581394431) rfl (op_move rfl (ltn rfl)) rfl (by kernel_rfl) (by kernel_rfl) (by kernel_rfl) (by kernel_rfl) ⟨trivial, ⟨⟨0, rfl⟩, ⟨1, rfl⟩, ⟨2, rfl⟩, trivial⟩, trivial⟩ (fun _ _ _ h => h) ?_
                  refine VA.va (i := 43) (listed' := LB 48 16492674416639) rfl (op_move rfl (ltn rfl)) rfl (by kernel_rfl) (by kernel_rfl) (by kernel_rfl) (by kernel_rfl) ⟨trivial, ⟨⟨0, rfl⟩, ⟨1, rfl⟩, ⟨2, rfl⟩, trivial⟩, trivial⟩ (fun _ _ _ h => h) ?_
                  refine VA.oneC (i := 40) (listed' := LB 48 17592186044415) (by kernel_rfl) rfl (o_call0 FO15 (order_Wants.ok k t8 t9 t10 t11 t12 t13 t14 t15 t16 t17 t18 t19 t20 t21 t22 t23 t24 t25 t26 t27 t28 a2 a3 t3788 hA3789) rfl rfl (ltn rfl) (All_of .nil)) rfl (by kernel_rfl) ?_
                  rintro _ _ _ ⟨rfl, rfl, rfl⟩
                  refine ⟨⟨trivial, ⟨⟨0, rfl⟩, ⟨1, rfl⟩, ⟨2, rfl⟩, trivial⟩, trivial⟩, ?_⟩
                  refine VA.oneC (i := 44) (listed' := LB 48 35184372088831) (by kernel_rfl) rfl (o_call0 FO16 (tarryref13_Wants.ok k t8 t9 t10 t11 t12 t13 t14 t15 t16 t17 t18 t19 t20 t21 t22 t23 t24 t25 t26 t27 t28 a2 a3 t3790 hA3791) rfl rfl (ltn rfl) (All_of .nil)) rfl (by kernel_rfl) ?_
                  rintro _ _ _ ⟨rfl, rfl, rfl⟩
                  refine ⟨⟨trivial, ⟨⟨0, rfl⟩, ⟨1, rfl⟩, ⟨2, rfl⟩, trivial⟩, trivial⟩, ?_⟩
                  refine VA.va (i := 45) (listed' := LB 48 70368744177663) rfl (op_cmp rfl rfl (congrArg some hb3792) (ltn rfl)) rfl (by kernel_rfl) (by kernel_rfl) (by kernel_rfl) (by kernel_rfl) ⟨trivial, ⟨⟨0, rfl⟩, ⟨1, rfl⟩, ⟨2, rfl⟩, trivial⟩, trivial⟩ (fun _ _ _ h => h) ?_
                  refine VA.va (i := 46) (listed' := LB 48 140737488355327) rfl (op_pick rfl rfl (ltn rfl)) rfl (by kernel_rfl) (by kernel_rfl) (by kernel_rfl) (by kernel_rfl) ⟨trivial, ⟨⟨0, rfl⟩, ⟨1, rfl⟩, ⟨2, rfl⟩, trivial⟩, trivial⟩ (fun _ _ _ h => h) ?_
                  refine VA.va (i := 47) (listed' := LB 48 281474976710655) rfl (op_assign rfl (ltn rfl)) rfl (by kernel_rfl) (by kernel_rfl) (by kernel_rfl) (by kernel_rfl) ⟨trivial, ⟨⟨0, rfl⟩, ⟨1, rfl⟩, ⟨2, rfl⟩, trivial⟩, trivial⟩ (fun _ _ _ h => h) ?_
                  refine VA.done (by kernel_rfl) ?_
                  exact VN.meet0  [] [] trivial ⟨rfl, ⟨rfl, trivial⟩, trivial, rfl, by decide, rfl, by decide⟩
                intro _
                refine VC.ret ?_
                obtain rfl := Option.some.inj h
                subst hb3792
                exact VR.fn (rs := [.tmp 8]) [] [] [] rfl (.tmp rfl .nil) ⟨rfl, rfl, rfl⟩ trivial rfl (by decide)
              · rw [if_neg c3787] at h
                obtain rfl : b3786 = false := hb3786.symm.trans (beq_eq_false_iff_ne.2 c3787)
                refine VC.join0 (⟨80, [(8, .bool false)], [], [], []⟩) (True) ?_ ?_
                · refine VC.draw ⟨0, [], [], [(g3530, 35, [.int .i64 t3506, .string t3507, .int .i64 t3508, .int .i64 t3509, .int .i64 t3510, .int .i64 t3511, .int .i64 t3512, .int .i64 t3513, .bool t3514, .int .i64 t3515, .string t3516, .int .i64 t3517, .int .i64 t3518, .int .i64 t3519, .int .i64 t3520, .int .i64 t3521, .int .i64 t3522, .int .i64 t3523, .int .i64 t3524, .int .i64 t3525, .bool t3526, .int .i64 t3527, .int .i64 t3528]), (g2176, 29, [.int .i64 t2153, .string t2154, .int .i64 t2155, .int .i64 t2156, .int .i64 t2157, .int .i64 t2158, .int .i64 t2159, .int .i64 t2160, .bool t2161, .int .i64 t2162, .string t2163, .int .i64 t2164, .int .i64 t2165, .int .i64 t2166, .int .i64 t2167, .int .i64 t2168, .int .i64 t2169, .int .i64 t2170, .int .i64 t2171, .int .i64 t2172, .bool t2173]), (g1, 29, [.int .i64 t8, .string t9, .int .i64 t10, .int .i64 t11, .int .i64 t12, .int .i64 t13, .int .i64 t14, .int .i64 t15, .bool t16, .int .i64 t17, .string t18, .int .i64 t19, .int .i64 t20, .int .i64 t21, .int .i64 t22, .int .i64 t23, .int .i64 t24, .int .i64 t25, .int .i64 t26, .int .i64 t27, .bool t28])], []⟩ (by kernel_rfl) rfl (by kernel_rfl) (n := 48) (listed := LB 48 0) ?_
                  refine VA.oneC (i := 0) (listed' := LB 48 1) (by kernel_rfl) rfl (o_call0 FO11 (tarrylaw13_alive.ok k true hA3761) rfl rfl (ltn rfl) (All_of .nil)) rfl (by kernel_rfl) ?_
                  rintro _ _ _ ⟨rfl, rfl, rfl⟩
                  refine ⟨⟨trivial, ⟨⟨0, rfl⟩, ⟨1, rfl⟩, ⟨2, rfl⟩, trivial⟩, trivial⟩, ?_⟩
                  refine VA.va (i := 1) (listed' := LB 48 3) rfl (op_move rfl (ltn rfl)) rfl (by kernel_rfl) (by kernel_rfl) (by kernel_rfl) (by kernel_rfl) ⟨trivial, ⟨⟨0, rfl⟩, ⟨1, rfl⟩, ⟨2, rfl⟩, trivial⟩, trivial⟩ (fun _ _ _ h => h) ?_
                  refine VA.va (i := 2) (listed' := LB 48 7) rfl (op_load 2 21 rfl rfl TI29 rfl (fun h => absurd h (by decide)) (ltn rfl)) rfl (by kernel_rfl) (by kernel_rfl) (by kernel_rfl) (by kernel_rfl) ⟨trivial, ⟨⟨0, rfl⟩, ⟨1, rfl⟩, ⟨2, rfl⟩, trivial⟩, trivial⟩ (fun _ _ _ h => h) ?_
                  refine VA.va (i := 4) (listed' := LB 48 23) rfl (op_move rfl (ltn rfl)) rfl (by kernel_rfl) (by kernel_rfl) (by kernel_rfl) (by kernel_rfl) ⟨trivial, ⟨⟨0, rfl⟩, ⟨1, rfl⟩, ⟨2, rfl⟩, trivial⟩, trivial⟩ (fun _ _ _ h => h) ?_
                  refine VA.oneC (i := 3) (listed' := LB 48 31) (by kernel_rfl) rfl (o_call0 FO12 (order_Right.ok k t8 t9 t10 t11 t12 t13 t14 t15 t16 t17 t18 t19 t20 t21 t22 t23 t24 t25 t26 t27 t28 t3763 hA3764) rfl rfl (ltn rfl) (All_of .nil)) rfl (by kernel_rfl) ?_
                  rintro _ _ _ ⟨rfl, rfl, rfl⟩
                  refine ⟨⟨trivial, ⟨⟨0, rfl⟩, ⟨1, rfl⟩, ⟨2, rfl⟩, trivial⟩, trivial⟩, ?_⟩
                  refine VA.va (i := 5) (listed' := LB 48 63) rfl (op_eqb Try.underlying4 rfl rfl (congrArg some hb3765) (ltn rfl)) rfl (by kernel_rfl) (by kernel_rfl) (by kernel_rfl) (by kernel_rfl) ⟨trivial, ⟨⟨0, rfl⟩, ⟨1, rfl⟩, ⟨2, rfl⟩, trivial⟩, trivial⟩ (fun _ _ _ h => h) ?_
                  refine VA.va (i := 6) (listed' := LB 48 127) rfl (op_pick rfl rfl (ltn rfl)) rfl (by kernel_rfl) (by kernel_rfl) (by kernel_rfl) (by kernel_rfl) ⟨trivial, ⟨⟨0, rfl⟩, ⟨1, rfl⟩, ⟨2, rfl⟩, trivial⟩, trivial⟩ (fun _ _ _ h => h) ?_
                  refine VA.va (i := 7) (listed' := LB 48 255) rfl (op_move rfl (ltn rfl)) rfl (by kernel_rfl) (by kernel_rfl) (by kernel_rfl) (by kernel_rfl) ⟨trivial, ⟨⟨0, rfl⟩, ⟨1, rfl⟩, ⟨2, rfl⟩, trivial⟩, trivial⟩ (fun _ _ _ h => h) ?_
                  refine VA.va (i := 8) (listed' := LB 48 511) rfl (op_move rfl (ltn rfl)) rfl (by kernel_rfl) (by kernel_rfl) (by kernel_rfl) (by kernel_rfl) ⟨trivial, ⟨⟨0, rfl⟩, ⟨1, rfl⟩, ⟨2, rfl⟩, trivial⟩, trivial⟩ (fun _ _ _ h => h) ?_
                  refine VA.va (i := 9) (listed' := LB 48 1023) rfl (op_fieldAddr FI35_2 rfl (add_at _ _ _) (ltn rfl)) rfl (by kernel_rfl) (by kernel_rfl) (by kernel_rfl) (by kernel_rfl) ⟨trivial, ⟨⟨0, rfl⟩, ⟨1, rfl⟩, ⟨2, rfl⟩, trivial⟩, trivial⟩ (fun _ _ _ h => h) ?_
                  refine VA.va (i := 10) (listed' := LB 48 2047) rfl (op_load 0 1 rfl rfl TI31 rfl (by decide) (ltn rfl)) rfl (by kernel_rfl) (by kernel_rfl) (by kernel_rfl) (by kernel_rfl) ⟨trivial, ⟨⟨0, rfl⟩, ⟨1, rfl⟩, ⟨2, rfl⟩, trivial⟩, trivial⟩ (fun _ _ _ h => h) ?_
                  refine VA.va (i := 11) (listed' := LB 48 4095) rfl (op_cmp rfl rfl (congrArg some hb3767) (ltn rfl)) rfl (by kernel_rfl) (by kernel_rfl) (by kernel_rfl) (by kernel_rfl) ⟨trivial, ⟨⟨0, rfl⟩, ⟨1, rfl⟩, ⟨2, rfl⟩, trivial⟩, trivial⟩ (fun _ _ _ h => h) ?_
                  refine VA.va (i := 12) (listed' := LB 48 8191) rfl (op_pick rfl rfl (ltn rfl)) rfl (by kernel_rfl) (by kernel_rfl) (by kernel_rfl) (by kernel_rfl) ⟨trivial, ⟨⟨0, rfl⟩, ⟨1, rfl⟩, ⟨2, rfl⟩, trivial⟩, trivial⟩ (fun _ _ _ h => h) ?_
                  refine VA.va (i := 13) (listed' := LB 48 16383) rfl (op_move rfl (ltn rfl)) rfl (by kernel_rfl) (by kernel_rfl) (by kernel_rfl) (by kernel_rfl) ⟨trivial, ⟨⟨0, rfl⟩, ⟨1, rfl⟩, ⟨2, rfl⟩, trivial⟩, trivial⟩ (fun _ _ _ h => h) ?_
                  refine VA.va (i := 14) (listed' := LB 48 32767) rfl (op_load 1 21 rfl rfl TI29 rfl (fun h => absurd h (by decide)) (ltn rfl)) rfl (by kernel_rfl) (by kernel_rfl) (by kernel_rfl) (by kernel_rfl) ⟨trivial, ⟨⟨0, rfl⟩, ⟨1, rfl⟩, ⟨2, rfl⟩, trivial⟩, trivial⟩ (fun _ _ _ h => h) ?_
                  refine VA.va (i := 15) (listed' := LB 48 65535) rfl (op_fieldAddr FI35_0 rfl (add_at _ _ _) (ltn rfl)) rfl (by kernel_rfl) (by kernel_rfl) (by kernel_rfl) (by kernel_rfl) ⟨trivial, ⟨⟨0, rfl⟩, ⟨1, rfl⟩, ⟨2, rfl⟩, trivial⟩, trivial⟩ (fun _ _ _ h => h) ?_
                  refine VA.va (i := 16) (listed' := LB 48 131071) rfl (op_load 0 21 rfl rfl TI29 rfl (fun h => absurd h (by decide)) (ltn rfl)) rfl (by kernel_rfl) (by kernel_rfl) (by kernel_rfl) (by kernel_rfl) ⟨trivial, ⟨⟨0, rfl⟩, ⟨1, rfl⟩, ⟨2, rfl⟩, trivial⟩, trivial⟩ (fun _ _ _ h => h) ?_
                  refine VA.va (i := 17) (listed' := LB 48 262143) rfl (op_eqS rfl rfl EG29 (EQ29 t2153 t2154 t2155 t2156 t2157 t2158 t2159 t2160 t2161 t2162 t2163 t2164 t2165 t2166 t2167 t2168 t2169 t2170 t2171 t2172 t2173 t3506 t3507 t3508 t3509 t3510 t3511 t3512 t3513 t3514 t3515 t3516 t3517 t3518 t3519 t3520 t3521 t3522 t3523 t3524 t3525 t3526) hb3769 (ltn rfl)) rfl (by kernel_rfl) (by kernel_rfl) (by kernel_rfl) (by kernel_rfl) ⟨trivial, ⟨⟨0, rfl⟩, ⟨1, rfl⟩, ⟨2, rfl⟩, trivial⟩, trivial⟩ (fun _ _ _ h => h) ?_
                  refine VA.va (i := 18) (listed' := LB 48 524287) rfl (op_pick rfl rfl (ltn rfl)) rfl (by kernel_rfl) (by kernel_rfl) (by kernel_rfl) (by kernel_rfl) ⟨trivial, ⟨⟨0, rfl⟩, ⟨1, rfl⟩, ⟨2, rfl⟩, trivial⟩, trivial⟩ (fun _ _ _ h => h) ?_
                  refine VA.va (i := 19) (listed' := LB 48 1048575) rfl (op_move rfl (ltn rfl)) rfl (by kernel_rfl) (by kernel_rfl) (by kernel_rfl) (by kernel_rfl) ⟨trivial, ⟨⟨0, rfl⟩, ⟨1, rfl⟩, ⟨2, rfl⟩, trivial⟩, trivial⟩ (fun _ _ _ h => h) ?_
                  refine VA.va (i := 20) (listed' := LB 48 2097151) rfl (op_load 2 21 rfl rfl TI29 rfl (fun h => absurd h (by decide)) (ltn rfl)) rfl (by kernel_rfl) (by kernel_rfl) (by kernel_rfl) (by kernel_rfl) ⟨trivial, ⟨⟨0, rfl⟩, ⟨1, rfl⟩, ⟨2, rfl⟩, trivial⟩, trivial⟩ (fun _ _ _ h => h) ?_
                  refine VA.va (i := 22) (listed' := LB 48 6291455) rfl (op_move rfl (ltn rfl)) rfl (by kernel_rfl) (by kernel_rfl) (by kernel_rfl) (by kernel_rfl) ⟨trivial, ⟨⟨0, rfl⟩, ⟨1, rfl⟩, ⟨2, rfl⟩, trivial⟩, trivial⟩ (fun _ _ _ h => h) ?_
                  refine VA.oneC (i := 21) (listed' := LB 48 8388607) (by kernel_rfl) rfl (o_call0 FO13 (order_Lack.ok k t8 t9 t10 t11 t12 t13 t14 t15 t16 t17 t18 t19 t20 t21 t22 t23 t24 t25 t26 t27 t28 t3771 hA3772) rfl rfl (ltn rfl) (All_of .nil)) rfl (by kernel_rfl) ?_
                  rintro _ _ _ ⟨rfl, rfl, rfl⟩
                  refine ⟨⟨trivial, ⟨⟨0, rfl⟩, ⟨1, rfl⟩, ⟨2, rfl⟩, trivial⟩, trivial⟩, ?_⟩
                  refine VA.va (i := 23) (listed' := LB 48 16777215) rfl (op_cmp rfl rfl (congrArg some hb3773) (ltn rfl)) rfl (by kernel_rfl) (by kernel_rfl) (by kernel_rfl) (by kernel_rfl) ⟨trivial, ⟨⟨0, rfl⟩, ⟨1, rfl⟩, ⟨2, rfl⟩, trivial⟩, trivial⟩ (fun _ _ _ h => h) ?_
                  refine VA.va (i := 24) (listed' := LB 48 33554431) rfl (op_pick rfl rfl (ltn rfl)) rfl (by kernel_rfl) (by kernel_rfl) (by kernel_rfl) (by kernel_rfl) ⟨trivial, ⟨⟨0, rfl⟩, ⟨1, rfl⟩, ⟨2, rfl⟩, trivial⟩, trivial⟩ (fun _ _ _ h => h) ?_
                  refine VA.va (i := 25) (listed' := LB 48 67108863) rfl (op_move rfl (ltn rfl)) rfl (by kernel_rfl) (by kernel_rfl) (by kernel_rfl) (by kernel_rfl) ⟨trivial, ⟨⟨0, rfl⟩, ⟨1, rfl⟩, ⟨2, rfl⟩, trivial⟩, trivial⟩ (fun _ _ _ h => h) ?_
                  refine VA.va (i := 26) (listed' := LB 48 134217727) rfl (op_load 2 21 rfl rfl TI29 rfl (fun h => absurd h (by decide)) (ltn rfl)) rfl (by kernel_rfl) (by kernel_rfl) (by kernel_rfl) (by kernel_rfl) ⟨trivial, ⟨⟨0, rfl⟩, ⟨1, rfl⟩, ⟨2, rfl⟩, trivial⟩, trivial⟩ (fun _ _ _ h => h) ?_
                  refine VA.va (i := 28) (listed' := LB 48 402653183) rfl (op_move rfl (ltn rfl)) rfl (by kernel_rfl) (by kernel_rfl) (by kernel_rfl) (by kernel_rfl) ⟨trivial, ⟨⟨0, rfl⟩, ⟨1, rfl⟩, ⟨2, rfl⟩, trivial⟩, trivial⟩ (fun _ _ _ h => h) ?_
                  refine VA.oneC (i := 27) (listed' := LB 48 536870911) (by kernel_rfl) rfl (o_call0 FO14 (order_Open.ok k t8 t9 t10 t11 t12 t13 t14 t15 t16 t17 t18 t19 t20 t21 t22 t23 t24 t25 t26 t27 t28 t3775 hA3776) rfl rfl (ltn rfl) (All_of .nil)) rfl (by kernel_rfl) ?_
                  rintro _ _ _ ⟨rfl, rfl, rfl⟩
                  refine ⟨⟨trivial, ⟨⟨0, rfl⟩, ⟨1, rfl⟩, ⟨2, rfl⟩, trivial⟩, trivial⟩, ?_⟩
                  refine VA.va (i := 29) (listed' := LB 48 1073741823) rfl (op_move rfl (ltn rfl)) rfl (by kernel_rfl) (by kernel_rfl) (by kernel_rfl) (by kernel_rfl) ⟨trivial, ⟨⟨0, rfl⟩, ⟨1, rfl⟩, ⟨2, rfl⟩, trivial⟩, trivial⟩ (fun _ _ _ h => h) ?_
                  refine VA.un (i := 30) (listed' := LB 48 2147483647) rfl rfl rfl (ltn rfl) (by kernel_rfl) (by kernel_rfl) (by kernel_rfl) (by kernel_rfl) ⟨trivial, ⟨⟨0, rfl⟩, ⟨1, rfl⟩, ⟨2, rfl⟩, trivial⟩, trivial⟩ (fun _ _ _ h => h) ?_
                  refine VA.un (i := 31) (listed' := LB 48 4294967295) rfl rfl rfl (ltn rfl) (by kernel_rfl) (by kernel_rfl) (by kernel_rfl) (by kernel_rfl) ⟨trivial, ⟨⟨0, rfl⟩, ⟨1, rfl⟩, ⟨2, rfl⟩, trivial⟩, trivial⟩ (fun _ _ _ h => h) ?_
                  refine VA.un (i := 32) (listed' := LB 48 8589934591) rfl rfl rfl (ltn rfl) (by kernel_rfl) (by kernel_rfl) (by kernel_rfl) (by kernel_rfl) ⟨trivial, ⟨⟨0, rfl⟩, ⟨1, rfl⟩, ⟨2, rfl⟩, trivial⟩, trivial⟩ (fun _ _ _ h => h) ?_
                  refine VA.va (i := 33) (listed' := LB 48 17179869183) rfl (op_pick rfl rfl (ltn rfl)) rfl (by kernel_rfl) (by kernel_rfl) (by kernel_rfl) (by kernel_rfl) ⟨trivial, ⟨⟨0, rfl⟩, ⟨1, rfl⟩, ⟨2, rfl⟩, trivial⟩, trivial⟩ (fun _ _ _ h => h) ?_
                  refine VA.va (i := 34) (listed' := LB 48 34359738367) rfl (op_eqb Try.underlying4 rfl rfl (congrArg some hb3786) (ltn rfl)) rfl (by kernel_rfl) (by kernel_rfl) (by kernel_rfl) (by kernel_rfl) ⟨trivial, ⟨⟨0, rfl⟩, ⟨1, rfl⟩, ⟨2, rfl⟩, trivial⟩, trivial⟩ (fun _ _ _ h => h) ?_
                  refine VA.va (i := 35) (listed' := LB 48 68719476735) rfl (op_pick rfl rfl (ltn rfl)) rfl (by kernel_rfl) (by kernel_rfl) (by kernel_rfl) (by kernel_rfl) ⟨trivial, ⟨⟨0, rfl⟩, ⟨1, rfl⟩, ⟨2, rfl⟩, trivial⟩, trivial⟩ (fun _ _ _ h => h) ?_
                  refine VA.va (i := 36) (listed' := LB 48 137438953471) rfl (op_move rfl (ltn rfl)) rfl (by kernel_rfl) (by kernel_rfl) (by kernel_rfl) (by kernel_rfl) ⟨trivial, ⟨⟨0, rfl⟩, ⟨1, rfl⟩, ⟨2, rfl⟩, trivial⟩, trivial⟩ (fun _ _ _ h => h) ?_
                  refine VA.un (i := 37) (listed' := LB 48 274877906943) rfl rfl rfl (ltn rfl) (by kernel_rfl) (by kernel_rfl) (by kernel_rfl) (by kernel_rfl) ⟨trivial, ⟨⟨0, rfl⟩, ⟨1, rfl⟩, ⟨2, rfl⟩, trivial⟩, trivial⟩ (fun _ _ _ h => h) ?_
                  refine VA.un (i := 38) (listed' := LB 48 549755813887) rfl rfl rfl (ltn rfl) (by kernel_rfl) (by kernel_rfl) (by kernel_rfl) (by kernel_rfl) ⟨trivial, ⟨⟨0, rfl⟩, ⟨1, rfl⟩, ⟨2, rfl⟩, trivial⟩, trivial⟩ (fun _ _ _ h => h) ?_
                  refine VA.un (i := 39) (listed' := LB 48 1099511627775) rfl rfl rfl (ltn rfl) (by kernel_rfl) (by kernel_rfl) (by kernel_rfl) (by kernel_rfl) ⟨trivial, ⟨⟨0, rfl⟩, ⟨1, rfl⟩, ⟨2, rfl⟩, trivial⟩, trivial⟩ (fun _ _ _ h => h) ?_
                  refine VA.un (i := 40) (listed' := LB 48 2199023255551) rfl rfl rfl (ltn rfl) (by kernel_rfl) (by kernel_rfl) (by kernel_rfl) (by kernel_rfl) ⟨trivial, ⟨⟨0, rfl⟩, ⟨1, rfl⟩, ⟨2, rfl⟩, trivial⟩, trivial⟩ (fun _ _ _ h => h) ?_
                  refine VA.un (i := 41) (listed' := LB 48 4398046511103) rfl rfl rfl (ltn rfl) (by kernel_rfl) (by kernel_rfl) (by kernel_rfl) (by kernel_rfl) ⟨trivial, ⟨⟨0, rfl⟩, ⟨1, rfl⟩, ⟨2, rfl⟩, trivial⟩, trivial⟩ (fun _ _ _ h => h) ?_
                  refine VA.un (i := 42) (listed' := LB 48 8796093022207) rfl rfl rfl (ltn rfl) (by kernel_rfl) (by kernel_rfl) (by kernel_rfl) (by kernel_rfl) ⟨trivial, ⟨⟨0, rfl⟩, ⟨1, rfl⟩, ⟨2, rfl⟩, trivial⟩, trivial⟩ (fun _ _ _ h => h) ?_
                  refine VA.un (i := 43) (listed' := LB 48 17592186044415) rfl rfl rfl (ltn rfl) (by kernel_rfl) (by kernel_rfl) (by kernel_rfl) (by kernel_rfl) ⟨trivial, ⟨⟨0, rfl⟩, ⟨1, rfl⟩, ⟨2, rfl⟩, trivial⟩, trivial⟩ (fun _ _ _ h => h) ?_
                  refine VA.un (i := 44) (listed' := LB 48 35184372088831) rfl rfl rfl (ltn rfl) (by kernel_rfl) (by kernel_rfl) (by kernel_rfl) (by kernel_rfl) ⟨trivial, ⟨⟨0, rfl⟩, ⟨1, rfl⟩, ⟨2, rfl⟩, trivial⟩, trivial⟩ (fun _ _ _ h => h) ?_
                  refine VA.un (i := 45) (listed' := LB 48 70368744177663) rfl rfl rfl (ltn rfl) (by kernel_rfl) (by kernel_rfl) (by kernel_rfl) (by kernel_rfl) ⟨trivial, ⟨⟨0, rfl⟩, ⟨1, rfl⟩, ⟨2, rfl⟩, trivial⟩, trivial⟩ (fun _ _ _ h => h) ?_
                  refine VA.va (i := 46) (listed' := LB 48 140737488355327) rfl (op_pick rfl rfl (ltn rfl)) rfl (by kernel_rfl) (by kernel_rfl) (by kernel_rfl) (by kernel_rfl) ⟨trivial, ⟨⟨0, rfl⟩, ⟨1, rfl⟩, ⟨2, rfl⟩, trivial⟩, trivial⟩ (fun _ _ _ h => h) ?_
                  refine VA.va (i := 47) (listed' := LB 48 281474976710655) rfl (op_assign rfl (ltn rfl)) rfl (by kernel_rfl) (by kernel_rfl) (by kernel_rfl) (by kernel_rfl) ⟨trivial, ⟨⟨0, rfl⟩, ⟨1, rfl⟩, ⟨2, rfl⟩, trivial⟩, trivial⟩ (fun _ _ _ h => h) ?_
                  refine VA.done (by kernel_rfl) ?_
                  exact VN.meet0  [] [] trivial ⟨rfl, ⟨rfl, trivial⟩, trivial, rfl, by decide, rfl, by decide⟩
                intro _
                refine VC.ret ?_
                cases h
          · rw [if_neg c3774] at h
            obtain rfl : b3773 = false := hb3773.symm.trans (beq_eq_false_iff_ne.2 c3774)
            refine VC.join0 (⟨80, [(8, .bool false)], [], [], []⟩) (True) ?_ ?_
            · refine VC.draw ⟨0, [], [], [(g3530, 35, [.int .i64 t3506, .string t3507, .int .i64 t3508, .int .i64 t3509, .int .i64 t3510, .int .i64 t3511, .int .i64 t3512, .int .i64 t3513, .bool t3514, .int .i64 t3515, .string t3516, .int .i64 t3517, .int .i64 t3518, .int .i64 t3519, .int .i64 t3520, .int .i64 t3521, .int .i64 t3522, .int .i64 t3523, .int .i64 t3524, .int .i64 t3525, .bool t3526, .int .i64 t3527, .int .i64 t3528]), (g2176, 29, [.int .i64 t2153, .string t2154, .int .i64 t2155, .int .i64 t2156, .int .i64 t2157, .int .i64 t2158, .int .i64 t2159, .int .i64 t2160, .bool t2161, .int .i64 t2162, .string t2163, .int .i64 t2164, .int .i64 t2165, .int .i64 t2166, .int .i64 t2167, .int .i64 t2168, .int .i64 t2169, .int .i64 t2170, .int .i64 t2171, .int .i64 t2172, .bool t2173]), (g1, 29, [.int .i64 t8, .string t9, .int .i64 t10, .int .i64 t11, .int .i64 t12, .int .i64 t13, .int .i64 t14, .int .i64 t15, .bool t16, .int .i64 t17, .string t18, .int .i64 t19, .int .i64 t20, .int .i64 t21, .int .i64 t22, .int .i64 t23, .int .i64 t24, .int .i64 t25, .int .i64 t26, .int .i64 t27, .bool t28])], []⟩ (by kernel_rfl) rfl (by kernel_rfl) (n := 48) (listed := LB 48 0) ?_
              refine VA.oneC (i := 0) (listed' := LB 48 1) (by kernel_rfl) rfl (o_call0 FO11 (tarrylaw13_alive.ok k true hA3761) rfl rfl (ltn rfl) (All_of .nil)) rfl (by kernel_rfl) ?_
              rintro _ _ _ ⟨rfl, rfl, rfl⟩
              refine ⟨⟨trivial, ⟨⟨0, rfl⟩, ⟨1, rfl⟩, ⟨2, rfl⟩, trivial⟩, trivial⟩, ?_⟩
              refine VA.va (i := 1) (listed' := LB 48 3) rfl (op_move rfl (ltn rfl)) rfl (by kernel_rfl) (by kernel_rfl) (by kernel_rfl) (by kernel_rfl) ⟨trivial, ⟨⟨0, rfl⟩, ⟨1, rfl⟩, ⟨2, rfl⟩, trivial⟩, trivial⟩ (fun _ _ _ h => h) ?_
              refine VA.va (i := 2) (listed' := LB 48 7) rfl (op_load 2 21 rfl rfl TI29 rfl (fun h => absurd h (by decide)) (ltn rfl)) rfl (by kernel_rfl) (by kernel_rfl) (by kernel_rfl) (by kernel_rfl) ⟨trivial, ⟨⟨0, rfl⟩, ⟨1, rfl⟩, ⟨2, rfl⟩, trivial⟩, trivial⟩ (fun _ _ _ h => h) ?_
              refine VA.va (i := 4) (listed' := LB 48 23) rfl (op_move rfl (ltn rfl)) rfl (by kernel_rfl) (by kernel_rfl) (by kernel_rfl) (by kernel_rfl) ⟨trivial, ⟨⟨0, rfl⟩, ⟨1, rfl⟩, ⟨2, rfl⟩, trivial⟩, trivial⟩ (fun _ _ _ h => h) ?_
              refine VA.oneC (i := 3) (listed' := LB 48 31) (by kernel_rfl) rfl (o_call0 FO12 (order_Right.ok k t8 t9 t10 t11 t12 t13 t14 t15 t16 t17 t18 t19 t20 t21 t22 t23 t24 t25 t26 t27 t28 t3763 hA3764) rfl rfl (ltn rfl) (All_of .nil)) rfl (by kernel_rfl) ?_
              rintro _ _ _ ⟨rfl, rfl, rfl⟩
              refine ⟨⟨trivial, ⟨⟨0, rfl⟩, ⟨1, rfl⟩, ⟨2, rfl⟩, trivial⟩, trivial⟩, ?_⟩
              refine VA.va (i := 5) (listed' := LB 48 63) rfl (op_eqb Try.underlying4 rfl rfl (congrArg some hb3765) (ltn rfl)) rfl (by kernel_rfl) (by kernel_rfl) (by kernel_rfl) (by kernel_rfl) ⟨trivial, ⟨⟨0, rfl⟩, ⟨1, rfl⟩, ⟨2, rfl⟩, trivial⟩, trivial⟩ (fun _ _ _ h => h) ?_
              refine VA.va (i := 6) (listed' := LB 48 127) rfl (op_pick rfl rfl (ltn rfl)) rfl (by kernel_rfl) (by kernel_rfl) (by kernel_rfl) (by kernel_rfl) ⟨trivial, ⟨⟨0, rfl⟩, ⟨1, rfl⟩, ⟨2, rfl⟩, trivial⟩, trivial⟩ (fun _ _ _ h => h) ?_
              refine VA.va (i := 7) (listed' := LB 48 255) rfl (op_move rfl (ltn rfl)) rfl (by kernel_rfl) (by kernel_rfl) (by kernel_rfl) (by kernel_rfl) ⟨trivial, ⟨⟨0, rfl⟩, ⟨1, rfl⟩, ⟨2, rfl⟩, trivial⟩, trivial⟩ (fun _ _ _ h => h) ?_
              refine VA.va (i := 8) (listed' := LB 48 511) rfl (op_move rfl (ltn rfl)) rfl (by kernel_rfl) (by kernel_rfl) (by kernel_rfl) (by kernel_rfl) ⟨trivial, ⟨⟨0, rfl⟩, ⟨1, rfl⟩, ⟨2, rfl⟩, trivial⟩, trivial⟩ (fun _ _ _ h => h) ?_
              refine VA.va (i := 9) (listed' := LB 48 1023) rfl (op_fieldAddr FI35_2 rfl (add_at _ _ _) (ltn rfl)) rfl (by kernel_rfl) (by kernel_rfl) (by kernel_rfl) (by kernel_rfl) ⟨trivial, ⟨⟨0, rfl⟩, ⟨1, rfl⟩, ⟨2, rfl⟩, trivial⟩, trivial⟩ (fun _ _ _ h => h) ?_
              refine VA.va (i := 10) (listed' := LB 48 2047) rfl (op_load 0 1 rfl rfl TI31 rfl (by decide) (ltn rfl)) rfl (by kernel_rfl) (by kernel_rfl) (by kernel_rfl) (by kernel_rfl) ⟨trivial, ⟨⟨0, rfl⟩, ⟨1, rfl⟩, ⟨2, rfl⟩, trivial⟩, trivial⟩ (fun _ _ _ h => h) ?_
              refine VA.va (i := 11) (listed' := LB 48 4095) rfl (op_cmp rfl rfl (congrArg some hb3767) (ltn rfl)) rfl (by kernel_rfl) (by kernel_rfl) (by kernel_rfl) (by kernel_rfl) ⟨trivial, ⟨⟨0, rfl⟩, ⟨1, rfl⟩, ⟨2, rfl⟩, trivial⟩, trivial⟩ (fun _ _ _ h => h) ?_
              refine VA.va (i := 12) (listed' := LB 48 8191) rfl (op_pick rfl rfl (ltn rfl)) rfl (by kernel_rfl) (by kernel_rfl) (by kernel_rfl) (by kernel_rfl) ⟨trivial, ⟨⟨0, rfl⟩, ⟨1, rfl⟩, ⟨2, rfl⟩, trivial⟩, trivial⟩ (fun _ _ _ h => h) ?_
              refine VA.va (i := 13) (listed' := LB 48 16383) rfl (op_move rfl (ltn rfl)) rfl (by kernel_rfl) (by kernel_rfl) (by kernel_rfl) (by kernel_rfl) ⟨trivial, ⟨⟨0, rfl⟩, ⟨1, rfl⟩, ⟨2, rfl⟩, trivial⟩, trivial⟩ (fun _ _ _ h => h) ?_
              refine VA.va (i := 14) (listed' := LB 48 32767) rfl (op_load 1 21 rfl rfl TI29 rfl (fun h => absurd h (by decide)) (ltn rfl)) rfl (by kernel_rfl) (by kernel_rfl) (by kernel_rfl) (by kernel_rfl) ⟨trivial, ⟨⟨0, rfl⟩, ⟨1, rfl⟩, ⟨2, rfl⟩, trivial⟩, trivial⟩ (fun _ _ _ h => h) ?_
              refine VA.va (i := 15) (listed' := LB 48 65535) rfl (op_fieldAddr FI35_0 rfl (add_at _ _ _) (ltn rfl)) rfl (by kernel_rfl) (by kernel_rfl) (by kernel_rfl) (by kernel_rfl) ⟨trivial, ⟨⟨0, rfl⟩, ⟨1, rfl⟩, ⟨2, rfl⟩, trivial⟩, trivial⟩ (fun _ _ _ h => h) ?_
              refine VA.va (i := 16) (listed' := LB 48 131071) rfl (op_load 0 21 rfl rfl TI29 rfl (fun h => absurd h (by decide)) (ltn rfl)) rfl (by kernel_rfl) (by kernel_rfl) (by kernel_rfl) (by kernel_rfl) ⟨trivial, ⟨⟨0, rfl⟩, ⟨1, rfl⟩, ⟨2, rfl⟩, trivial⟩, trivial⟩ (fun _ _ _ h => h) ?_
              refine VA.va (i := 17) (listed' := LB 48 262143) rfl (op_eqS rfl rfl EG29 (EQ29 t2153 t2154 t2155 t2156 t2157 t2158 t2159 t2160 t2161 t2162 t2163 t2164 t2165 t2166 t2167 t2168 t2169 t2170 t2171 t2172 t2173 t3506 t3507 t3508 t3509 t3510 t3511 t3512 t3513 t3514 t3515 t3516 t3517 t3518 t3519 t3520 t3521 t3522 t3523 t3524 t3525 t3526) hb3769 (ltn rfl)) rfl (by kernel_rfl) (by kernel_rfl) (by kernel_rfl) (by kernel_rfl) ⟨trivial, ⟨⟨0, rfl⟩, ⟨1, rfl⟩, ⟨2, rfl⟩, trivial⟩, trivial⟩ (fun _ _ _ h => h) ?_
              refine VA.va (i := 18) (listed' := LB 48 524287) rfl (op_pick rfl rfl (ltn rfl)) rfl (by kernel_rfl) (by kernel_rfl) (by kernel_rfl) (by kernel_rfl) ⟨trivial, ⟨⟨0, rfl⟩, ⟨1, rfl⟩, ⟨2, rfl⟩, trivial⟩, trivial⟩ (fun _ _ _ h => h) ?_
              refine VA.va (i := 19) (listed' := LB 48 1048575) rfl (op_move rfl (ltn rfl)) rfl (by kernel_rfl) (by kernel_rfl) (by kernel_rfl) (by kernel_rfl) ⟨trivial, ⟨⟨0, rfl⟩, ⟨1, rfl⟩, ⟨2, rfl⟩, trivial⟩, trivial⟩ (fun _ _ _ h => h) ?_
              refine VA.va (i := 20) (listed' := LB 48 2097151) rfl (op_load 2 21 rfl rfl TI29 rfl (fun h => absurd h (by decide)) (ltn rfl)) rfl (by kernel_rfl) (by kernel_rfl) (by kernel_rfl) (by kernel_rfl) ⟨trivial, ⟨⟨0, rfl⟩, ⟨1, rfl⟩, ⟨2, rfl⟩, trivial⟩, trivial⟩ (fun _ _ _ h => h) ?_
              refine VA.va (i := 22) (listed' := LB 48 6291455) rfl (op_move rfl (ltn rfl)) rfl (by kernel_rfl) (by kernel_rfl) (by kernel_rfl) (by kernel_rfl) ⟨trivial, ⟨⟨0, rfl⟩, ⟨1, rfl⟩, ⟨2, rfl⟩, trivial⟩, trivial⟩ (fun _ _ _ h => h) ?_
              refine VA.oneC (i := 21) (listed' := LB 48 8388607) (by kernel_rfl) rfl (o_call0 FO13 (order_Lack.ok k t8 t9 t10 t11 t12 t13 t14 t15 t16 t17 t18 t19 t20 t21 t22 t23 t24 t25 t26 t27 t28 t3771 hA3772) rfl rfl (ltn rfl) (All_of .nil)) rfl (by kernel_rfl) ?_
              rintro _ _ _ ⟨rfl, rfl, rfl⟩
              refine ⟨⟨trivial, ⟨⟨0, rfl⟩, ⟨1, rfl⟩, ⟨2, rfl⟩, trivial⟩, trivial⟩, ?_⟩
              refine VA.va (i := 23) (listed' := LB 48 16777215) rfl (op_cmp rfl rfl (congrArg some hb3773) (ltn rfl)) rfl (by kernel_rfl) (by kernel_rfl) (by kernel_rfl) (by kernel_rfl) ⟨trivial, ⟨⟨0, rfl⟩, ⟨1, rfl⟩, ⟨2, rfl⟩, trivial⟩, trivial⟩ (fun _ _ _ h => h) ?_
              refine VA.va (i := 24) (listed' := LB 48 33554431) rfl (op_pick rfl rfl (ltn rfl)) rfl (by kernel_rfl) (by kernel_rfl) (by kernel_rfl) (by kernel_rfl) ⟨trivial, ⟨⟨0, rfl⟩, ⟨1, rfl⟩, ⟨2, rfl⟩, trivial⟩, trivial⟩ (fun _ _ _ h => h) ?_
              refine VA.va (i := 25) (listed' := LB 48 67108863) rfl (op_move rfl (ltn rfl)) rfl (by kernel_rfl) (by kernel_rfl) (by kernel_rfl) (by kernel_rfl) ⟨trivial, ⟨⟨0, rfl⟩, ⟨1, rfl⟩, ⟨2, rfl⟩, trivial⟩, trivial⟩ (fun _ _ _ h => h) ?_
              refine VA.un (i := 26) (listed' := LB 48 134217727) rfl rfl rfl (ltn rfl) (by kernel_rfl) (by kernel_rfl) (by kernel_rfl) (by kernel_rfl) ⟨trivial, ⟨⟨0, rfl⟩, ⟨1, rfl⟩, ⟨2, rfl⟩, trivial⟩, trivial⟩ (fun _ _ _ h => h) ?_
              refine VA.un (i := 27) (listed' := LB 48 268435455) rfl rfl rfl (ltn rfl) (by kernel_rfl) (by kernel_rfl) (by kernel_rfl) (by kernel_rfl) ⟨trivial, ⟨⟨0, rfl⟩, ⟨1, rfl⟩, ⟨2, rfl⟩, trivial⟩, trivial⟩ (fun _ _ _ h => h) ?_
              refine VA.un (i := 28) (listed' := LB 48 536870911) rfl rfl rfl (ltn rfl) (by kernel_rfl) (by kernel_rfl) (by kernel_rfl) (by kernel_rfl) ⟨trivial, ⟨⟨0, rfl⟩, ⟨1, rfl⟩, ⟨2, rfl⟩, trivial⟩, trivial⟩ (fun _ _ _ h => h) ?_
              refine VA.un (i := 29) (listed' := LB 48 1073741823) rfl rfl rfl (ltn rfl) (by kernel_rfl) (by kernel_rfl) (by kernel_rfl) (by kernel_rfl) ⟨trivial, ⟨⟨0, rfl⟩, ⟨1, rfl⟩, ⟨2, rfl⟩, trivial⟩, trivial⟩ (fun _ _ _ h => h) ?_
              refine VA.un (i := 30) (listed' := LB 48 2147483647) rfl rfl rfl (ltn rfl) (by kernel_rfl) (by kernel_rfl) (by kernel_rfl) (by kernel_rfl) ⟨trivial, ⟨⟨0, rfl⟩, ⟨1, rfl⟩, ⟨2, rfl⟩, trivial⟩, trivial⟩ (fun _ _ _ h => h) ?_
              refine VA.un (i := 31) (listed' := LB 48 4294967295) rfl rfl rfl (ltn rfl) (by kernel_rfl) (by kernel_rfl) (by kernel_rfl) (by kernel_rfl) ⟨trivial, ⟨⟨0, rfl⟩, ⟨1, rfl⟩, ⟨2, rfl⟩, trivial⟩, trivial⟩ (fun _ _ _ h => h) ?_
              refine VA.un (i := 32) (listed' := LB 48 8589934591) rfl rfl rfl (ltn rfl) (by kernel_rfl) (by kernel_rfl) (by kernel_rfl) (by kernel_rfl) ⟨trivial, ⟨⟨0, rfl⟩, ⟨1, rfl⟩, ⟨2, rfl⟩, trivial⟩, trivial⟩ (fun _ _ _ h => h) ?_
              refine VA.un (i := 33) (listed' := LB 48 17179869183) rfl rfl rfl (ltn rfl) (by kernel_rfl) (by kernel_rfl) (by kernel_rfl) (by kernel_rfl) ⟨trivial, ⟨⟨0, rfl⟩, ⟨1, rfl⟩, ⟨2, rfl⟩, trivial⟩, trivial⟩ (fun _ _ _ h => h) ?_
              refine VA.un (i := 34) (listed' := LB 48 34359738367) rfl rfl rfl (ltn rfl) (by kernel_rfl) (by kernel_rfl) (by kernel_rfl) (by kernel_rfl) ⟨trivial, ⟨⟨0, rfl⟩, ⟨1, rfl⟩, ⟨2, rfl⟩, trivial⟩, trivial⟩ (fun _ _ _ h => h) ?_
              refine VA.va (i := 35) (listed' := LB 48 68719476735) rfl (op_pick rfl rfl (ltn rfl)) rfl (by kernel_rfl) (by kernel_rfl) (by kernel_rfl) (by kernel_rfl) ⟨trivial, ⟨⟨0, rfl⟩, ⟨1, rfl⟩, ⟨2, rfl⟩, trivial⟩, trivial⟩ (fun _ _ _ h => h) ?_
              refine VA.va (i := 36) (listed' := LB 48 137438953471) rfl (op_move rfl (ltn rfl)) rfl (by kernel_rfl) (by kernel_rfl) (by kernel_rfl) (by kernel_rfl) ⟨trivial, ⟨⟨0, rfl⟩, ⟨1, rfl⟩, ⟨2, rfl⟩, trivial⟩, trivial⟩ (fun _ _ _ h => h) ?_
              refine VA.un (i := 37) (listed' := LB 48 274877906943) rfl rfl rfl (ltn rfl) (by kernel_rfl) (by kernel_rfl) (by kernel_rfl) (by kernel_rfl) ⟨trivial, ⟨⟨0, rfl⟩, ⟨1, rfl⟩, ⟨2, rfl⟩, trivial⟩, trivial⟩ (fun _ _ _ h => h) ?_
              refine VA.un (i := 38) (listed' := LB 48 549755813887) rfl rfl rfl (ltn rfl) (by kernel_rfl) (by kernel_rfl) (by kernel_rfl) (by kernel_rfl) ⟨trivial, ⟨⟨0, rfl⟩, ⟨1, rfl⟩, ⟨2, rfl⟩, trivial⟩, trivial⟩ (fun _ _ _ h => h) ?_
              refine VA.un (i := 39) (listed' := LB 48 1099511627775) rfl rfl rfl (ltn rfl) (by kernel_rfl) (by kernel_rfl) (by kernel_rfl) (by kernel_rfl) ⟨trivial, ⟨⟨0, rfl⟩, ⟨1, rfl⟩, ⟨2, rfl⟩, trivial⟩, trivial⟩ (fun _ _ _ h => h) ?_
              refine VA.un (i := 40) (listed' := LB 48 2199023255551) rfl rfl rfl (ltn rfl) (by kernel_rfl) (by kernel_rfl) (by kernel_rfl) (by kernel_rfl) ⟨trivial, ⟨⟨0, rfl⟩, ⟨1, rfl⟩, ⟨2, rfl⟩, trivial⟩, trivial⟩ (fun _ _ _ h => h) ?_
              refine VA.un (i := 41) (listed' := LB 48 4398046511103) rfl rfl rfl (ltn rfl) (by kernel_rfl) (by kernel_rfl) (by kernel_rfl) (by kernel_rfl) ⟨trivial, ⟨⟨0, rfl⟩, ⟨1, rfl⟩, ⟨2, rfl⟩, trivial⟩, trivial⟩ (fun _ _ _ h => h) ?_
              refine VA.un (i := 42) (listed' := LB 48 8796093022207) rfl rfl rfl (ltn rfl) (by kernel_rfl) (by kernel_rfl) (by kernel_rfl) (by kernel_rfl) ⟨trivial, ⟨⟨0, rfl⟩, ⟨1, rfl⟩, ⟨2, rfl⟩, trivial⟩, trivial⟩ (fun _ _ _ h => h) ?_
              refine VA.un (i := 43) (listed' := LB 48 17592186044415) rfl rfl rfl (ltn rfl) (by kernel_rfl) (by kernel_rfl) (by kernel_rfl) (by kernel_rfl) ⟨trivial, ⟨⟨0, rfl⟩, ⟨1, rfl⟩, ⟨2, rfl⟩, trivial⟩, trivial⟩ (fun _ _ _ h => h) ?_
              refine VA.un (i := 44) (listed' := LB 48 35184372088831) rfl rfl rfl (ltn rfl) (by kernel_rfl) (by kernel_rfl) (by kernel_rfl) (by kernel_rfl) ⟨trivial, ⟨⟨0, rfl⟩, ⟨1, rfl⟩, ⟨2, rfl⟩, trivial⟩, trivial⟩ (fun _ _ _ h => h) ?_
              refine VA.un (i := 45) (listed' := LB 48 70368744177663) rfl rfl rfl (ltn rfl) (by kernel_rfl) (by kernel_rfl) (by kernel_rfl) (by kernel_rfl) ⟨trivial, ⟨⟨0, rfl⟩, ⟨1, rfl⟩, ⟨2, rfl⟩, trivial⟩, trivial⟩ (fun _ _ _ h => h) ?_
              refine VA.va (i := 46) (listed' := LB 48 140737488355327) rfl (op_pick rfl rfl (ltn rfl)) rfl (by kernel_rfl) (by kernel_rfl) (by kernel_rfl) (by kernel_rfl) ⟨trivial, ⟨⟨0, rfl⟩, ⟨1, rfl⟩, ⟨2, rfl⟩, trivial⟩, trivial⟩ (fun _ _ _ h => h) ?_
              refine VA.va (i := 47) (listed' := LB 48 281474976710655) rfl (op_assign rfl (ltn rfl)) rfl (by kernel_rfl) (by kernel_rfl) (by kernel_rfl) (by kernel_rfl) ⟨trivial, ⟨⟨0, rfl⟩, ⟨1, rfl⟩, ⟨2, rfl⟩, trivial⟩, trivial⟩ (fun _ _ _ h => h) ?_
              refine VA.done (by kernel_rfl) ?_
              exact VN.meet0  [] [] trivial ⟨rfl, ⟨rfl, trivial⟩, trivial, rfl, by decide, rfl, by decide⟩
            intro _
            refine VC.ret ?_
            cases h
        · rw [if_neg c3770] at h
          obtain rfl : b3769 = false := hb3769.symm.trans (Bool.eq_false_iff.2 c3770)
          refine VC.join0 (⟨80, [(8, .bool false)], [], [], []⟩) (True) ?_ ?_
          · refine VC.draw ⟨0, [], [], [(g3530, 35, [.int .i64 t3506, .string t3507, .int .i64 t3508, .int .i64 t3509, .int .i64 t3510, .int .i64 t3511, .int .i64 t3512, .int .i64 t3513, .bool t3514, .int .i64 t3515, .string t3516, .int .i64 t3517, .int .i64 t3518, .int .i64 t3519, .int .i64 t3520, .int .i64 t3521, .int .i64 t3522, .int .i64 t3523, .int .i64 t3524, .int .i64 t3525, .bool t3526, .int .i64 t3527, .int .i64 t3528]), (g2176, 29, [.int .i64 t2153, .string t2154, .int .i64 t2155, .int .i64 t2156, .int .i64 t2157, .int .i64 t2158, .int .i64 t2159, .int .i64 t2160, .bool t2161, .int .i64 t2162, .string t2163, .int .i64 t2164, .int .i64 t2165, .int .i64 t2166, .int .i64 t2167, .int .i64 t2168, .int .i64 t2169, .int .i64 t2170, .int .i64 t2171, .int .i64 t2172, .bool t2173]), (g1, 29, [.int .i64 t8, .string t9, .int .i64 t10, .int .i64 t11, .int .i64 t12, .int .i64 t13, .int .i64 t14, .int .i64 t15, .bool t16, .int .i64 t17, .string t18, .int .i64 t19, .int .i64 t20, .int .i64 t21, .int .i64 t22, .int .i64 t23, .int .i64 t24, .int .i64 t25, .int .i64 t26, .int .i64 t27, .bool t28])], []⟩ (by kernel_rfl) rfl (by kernel_rfl) (n := 48) (listed := LB 48 0) ?_
            refine VA.oneC (i := 0) (listed' := LB 48 1) (by kernel_rfl) rfl (o_call0 FO11 (tarrylaw13_alive.ok k true hA3761) rfl rfl (ltn rfl) (All_of .nil)) rfl (by kernel_rfl) ?_
            rintro _ _ _ ⟨rfl, rfl, rfl⟩
            refine ⟨⟨trivial, ⟨⟨0, rfl⟩, ⟨1, rfl⟩, ⟨2, rfl⟩, trivial⟩, trivial⟩, ?_⟩
            refine VA.va (i := 1) (listed' := LB 48 3) rfl (op_move rfl (ltn rfl)) rfl (by kernel_rfl) (by kernel_rfl) (by kernel_rfl) (by kernel_rfl) ⟨trivial, ⟨⟨0, rfl⟩, ⟨1, rfl⟩, ⟨2, rfl⟩, trivial⟩, trivial⟩ (fun _ _ _ h => h) ?_
            refine VA.va (i := 2) (listed' := LB 48 7) rfl (op_load 2 21 rfl rfl TI29 rfl (fun h => absurd h (by decide)) (ltn rfl)) rfl (by kernel_rfl) (by kernel_rfl) (by kernel_rfl) (by kernel_rfl) ⟨trivial, ⟨⟨0, rfl⟩, ⟨1, rfl⟩, ⟨2, rfl⟩, trivial⟩, trivial⟩ (fun _ _ _ h => h) ?_
            refine VA.va (i := 4) (listed' := LB 48 23) rfl (op_move rfl (ltn rfl)) rfl (by kernel_rfl) (by kernel_rfl) (by kernel_rfl) (by kernel_rfl) ⟨trivial, ⟨⟨0, rfl⟩, ⟨1, rfl⟩, ⟨2, rfl⟩, trivial⟩, trivial⟩ (fun _ _ _ h => h) ?_
            refine VA.oneC (i := 3) (listed' := LB 48 31) (by kernel_rfl) rfl (o_call0 FO12 (order_Right.ok k t8 t9 t10 t11 t12 t13 t14 t15 t16 t17 t18 t19 t20 t21 t22 t23 t24 t25 t26 t27 t28 t3763 hA3764) rfl rfl (ltn rfl) (All_of .nil)) rfl (by kernel_rfl) ?_
            rintro _ _ _ ⟨rfl, rfl, rfl⟩
            refine ⟨⟨trivial, ⟨⟨0, rfl⟩, ⟨1, rfl⟩, ⟨2, rfl⟩, trivial⟩, trivial⟩, ?_⟩
            refine VA.va (i := 5) (listed' := LB 48 63) rfl (op_eqb Try.underlying4 rfl rfl (congrArg some hb3765) (ltn rfl)) rfl (by kernel_rfl) (by kernel_rfl) (by kernel_rfl) (by kernel_rfl) ⟨trivial, ⟨⟨0, rfl⟩, ⟨1, rfl⟩, ⟨2, rfl⟩, trivial⟩, trivial⟩ (fun _ _ _ h => h) ?_
            refine VA.va (i := 6) (listed' := LB 48 127) rfl (op_pick rfl rfl (ltn rfl)) rfl (by kernel_rfl) (by kernel_rfl) (by kernel_rfl) (by kernel_rfl) ⟨trivial, ⟨⟨0, rfl⟩, ⟨1, rfl⟩, ⟨2, rfl⟩, trivial⟩, trivial⟩ (fun _ _ _ h => h) ?_
            refine VA.va (i := 7) (listed' := LB 48 255) rfl (op_move rfl (ltn rfl)) rfl (by kernel_rfl) (by kernel_rfl) (by kernel_rfl) (by kernel_rfl) ⟨trivial, ⟨⟨0, rfl⟩, ⟨1, rfl⟩, ⟨2, rfl⟩, trivial⟩, trivial⟩ (fun _ _ _ h => h) ?_
            refine VA.va (i := 8) (listed' := LB 48 511) rfl (op_move rfl (ltn rfl)) rfl (by kernel_rfl) (by kernel_rfl) (by kernel_rfl) (by kernel_rfl) ⟨trivial, ⟨⟨0, rfl⟩, ⟨1, rfl⟩, ⟨2, rfl⟩, trivial⟩, trivial⟩ (fun _ _ _ h => h) ?_
            refine VA.va (i := 9) (listed' := LB 48 1023) rfl (op_fieldAddr FI35_2 rfl (add_at _ _ _) (ltn rfl)) rfl (by kernel_rfl) (by kernel_rfl) (by kernel_rfl) (by kernel_rfl) ⟨trivial, ⟨⟨0, rfl⟩, ⟨1, rfl⟩, ⟨2, rfl⟩, trivial⟩, trivial⟩ (fun _ _ _ h => h) ?_
            refine VA.va (i := 10) (listed' := LB 48 2047) rfl (op_load 0 1 rfl rfl TI31 rfl (by decide) (ltn rfl)) rfl (by kernel_rfl) (by kernel_rfl) (by kernel_rfl) (by kernel_rfl) ⟨trivial, ⟨⟨0, rfl⟩, ⟨1, rfl⟩, ⟨2, rfl⟩, trivial⟩, trivial⟩ (fun _ _ _ h => h) ?_
            refine VA.va (i := 11) (listed' := LB 48 4095) rfl (op_cmp rfl rfl (congrArg some hb3767) (ltn rfl)) rfl (by kernel_rfl) (by kernel_rfl) (by kernel_rfl) (by kernel_rfl) ⟨trivial, ⟨⟨0, rfl⟩, ⟨1, rfl⟩, ⟨2, rfl⟩, trivial⟩, trivial⟩ (fun _ _ _ h => h) ?_
            refine VA.va (i := 12) (listed' := LB 48 8191) rfl (op_pick rfl rfl (ltn rfl)) rfl (by kernel_rfl) (by kernel_rfl) (by kernel_rfl) (by kernel_rfl) ⟨trivial, ⟨⟨0, rfl⟩, ⟨1, rfl⟩, ⟨2, rfl⟩, trivial⟩, trivial⟩ (fun _ _ _ h => h) ?_
            refine VA.va (i := 13) (listed' := LB 48 16383) rfl (op_move rfl (ltn rfl)) rfl (by kernel_rfl) (by kernel_rfl) (by kernel_rfl) (by kernel_rfl) ⟨trivial, ⟨⟨0, rfl⟩, ⟨1, rfl⟩, ⟨2, rfl⟩, trivial⟩, trivial⟩ (fun _ _ _ h => h) ?_
            refine VA.va (i := 14) (listed' := LB 48 32767) rfl (op_load 1 21 rfl rfl TI29 rfl (fun h => absurd h (by decide)) (ltn rfl)) rfl (by kernel_rfl) (by kernel_rfl) (by kernel_rfl) (by kernel_rfl) ⟨trivial, ⟨⟨0, rfl⟩, ⟨1, rfl⟩, ⟨2, rfl⟩, trivial⟩, trivial⟩ (fun _ _ _ h => h) ?_
            refine VA.va (i := 15) (listed' := LB 48 65535) rfl (op_fieldAddr FI35_0 rfl (add_at _ _ _) (ltn rfl)) rfl (by kernel_rfl) (by kernel_rfl) (by kernel_rfl) (by kernel_rfl) ⟨trivial, ⟨⟨0, rfl⟩, ⟨1, rfl⟩, ⟨2, rfl⟩, trivial⟩, trivial⟩ (fun _ _ _ h => h) ?_
            refine VA.va (i := 16) (listed' := LB 48 131071) rfl (op_load 0 21 rfl rfl TI29 rfl (fun h => absurd h (by decide)) (ltn rfl)) rfl (by kernel_rfl) (by kernel_rfl) (by kernel_rfl) (by kernel_rfl) ⟨trivial, ⟨⟨0, rfl⟩, ⟨1, rfl⟩, ⟨2, rfl⟩, trivial⟩, trivial⟩ (fun _ _ _ h => h) ?_
            refine VA.va (i := 17) (listed' := LB 48 262143) rfl (op_eqS rfl rfl EG29 (EQ29 t2153 t2154 t2155 t2156 t2157 t2158 t2159 t2160 t2161 t2162 t2163 t2164 t2165 t2166 t2167 t2168 t2169 t2170 t2171 t2172 t2173 t3506 t3507 t3508 t3509 t3510 t3511 t3512 t3513 t3514 t3515 t3516 t3517 t3518 t3519 t3520 t3521 t3522 t3523 t3524 t3525 t3526) hb3769 (ltn rfl)) rfl (by kernel_rfl) (by kernel_rfl) (by kernel_rfl) (by kernel_rfl) ⟨trivial, ⟨⟨0, rfl⟩, ⟨1, rfl⟩, ⟨2, rfl⟩, trivial⟩, trivial⟩ (fun _ _ _ h => h) ?_
            refine VA.va (i := 18) (listed' := LB 48 524287) rfl (op_pick rfl rfl (ltn rfl)) rfl (by kernel_rfl) (by kernel_rfl) (by kernel_rfl) (by kernel_rfl) ⟨trivial, ⟨⟨0, rfl⟩, ⟨1, rfl⟩, ⟨2, rfl⟩, trivial⟩, trivial⟩ (fun _ _ _ h => h) ?_
            refine VA.va (i := 19) (listed' := LB 48 1048575) rfl (op_move rfl (ltn rfl)) rfl (by kernel_rfl) (by kernel_rfl) (by kernel_rfl) (by kernel_rfl) ⟨trivial, ⟨⟨0, rfl⟩, ⟨1, rfl⟩, ⟨2, rfl⟩, trivial⟩, trivial⟩ (fun _ _ _ h => h) ?_
            refine VA.un (i := 20) (listed' := LB 48 2097151) rfl rfl rfl (ltn rfl) (by kernel_rfl) (by kernel_rfl) (by kernel_rfl) (by kernel_rfl) ⟨trivial, ⟨⟨0, rfl⟩, ⟨1, rfl⟩, ⟨2, rfl⟩, trivial⟩, trivial⟩ (fun _ _ _ h => h) ?_
            refine VA.un (i := 21) (listed' := LB 48 4194303) rfl rfl rfl (ltn rfl) (by kernel_rfl) (by kernel_rfl) (by kernel_rfl) (by kernel_rfl) ⟨trivial, ⟨⟨0, rfl⟩, ⟨1, rfl⟩, ⟨2, rfl⟩, trivial⟩, trivial⟩ (fun _ _ _ h => h) ?_
            refine VA.un (i := 22) (listed' := LB 48 8388607) rfl rfl rfl (ltn rfl) (by kernel_rfl) (by kernel_rfl) (by kernel_rfl) (by kernel_rfl) ⟨trivial, ⟨⟨0, rfl⟩, ⟨1, rfl⟩, ⟨2, rfl⟩, trivial⟩, trivial⟩ (fun _ _ _ h => h) ?_
            refine VA.un (i := 23) (listed' := LB 48 16777215) rfl rfl rfl (ltn rfl) (by kernel_rfl) (by kernel_rfl) (by kernel_rfl) (by kernel_rfl) ⟨trivial, ⟨⟨0, rfl⟩, ⟨1, rfl⟩, ⟨2, rfl⟩, trivial⟩, trivial⟩ (fun _ _ _ h => h) ?_
            refine VA.va (i := 24) (listed' := LB 48 33554431) rfl (op_pick rfl rfl (ltn rfl)) rfl (by kernel_rfl) (by kernel_rfl) (by kernel_rfl) (by kernel_rfl) ⟨trivial, ⟨⟨0, rfl⟩, ⟨1, rfl⟩, ⟨2, rfl⟩, trivial⟩, trivial⟩ (fun _ _ _ h => h) ?_
            refine VA.va (i := 25) (listed' := LB 48 67108863) rfl (op_move rfl (ltn rfl)) rfl (by kernel_rfl) (by kernel_rfl) (by kernel_rfl) (by kernel_rfl) ⟨trivial, ⟨⟨0, rfl⟩, ⟨1, rfl⟩, ⟨2, rfl⟩, trivial⟩, trivial⟩ (fun _ _ _ h => h) ?_
            refine VA.un (i := 26) (listed' := LB 48 134217727) rfl rfl rfl (ltn rfl) (by kernel_rfl) (by kernel_rfl) (by kernel_rfl) (by kernel_rfl) ⟨trivial, ⟨⟨0, rfl⟩, ⟨1, rfl⟩, ⟨2, rfl⟩, trivial⟩, trivial⟩ (fun _ _ _ h => h) ?_
            refine VA.un (i := 27) (listed' := LB 48 268435455) rfl rfl rfl (ltn rfl) (by kernel_rfl) (by kernel_rfl) (by kernel_rfl) (by kernel_rfl) ⟨trivial, ⟨⟨0, rfl⟩, ⟨1, rfl⟩, ⟨2, rfl⟩, trivial⟩, trivial⟩ (fun _ _ _ h => h) ?_
            refine VA.un (i := 28) (listed' := LB 48 536870911) rfl rfl rfl (ltn rfl) (by kernel_rfl) (by kernel_rfl) (by kernel_rfl) (by kernel_rfl) ⟨trivial, ⟨⟨0, rfl⟩, ⟨1, rfl⟩, ⟨2, rfl⟩, trivial⟩, trivial⟩ (fun _ _ _ h => h) ?_
            refine VA.un (i := 29) (listed' := LB 48 1073741823) rfl rfl rfl (ltn rfl) (by kernel_rfl) (by kernel_rfl) (by kernel_rfl) (by kernel_rfl) ⟨trivial, ⟨⟨0, rfl⟩, ⟨1, rfl⟩, ⟨2, rfl⟩, trivial⟩, trivial⟩ (fun _ _ _ h => h) ?_
            refine VA.un (i := 30) (listed' := LB 48 2147483647) rfl rfl rfl (ltn rfl) (by kernel_rfl) (by kernel_rfl) (by kernel_rfl) (by kernel_rfl) ⟨trivial, ⟨⟨0, rfl⟩, ⟨1, rfl⟩, ⟨2, rfl⟩, trivial⟩, trivial⟩ (fun _ _ _ h => h) ?_
            refine VA.un (i := 31) (listed' := LB 48 4294967295) rfl rfl rfl (ltn rfl) (by kernel_rfl) (by kernel_rfl) (by kernel_rfl) (by kernel_rfl) ⟨trivial, ⟨⟨0, rfl⟩, ⟨1, rfl⟩, ⟨2, rfl⟩, trivial⟩, trivial⟩ (fun _ _ _ h => h) ?_
            refine VA.un (i := 32) (listed' := LB 48 8589934591) rfl rfl rfl (ltn rfl) (by kernel_rfl) (by kernel_rfl) (by kernel_rfl) (by kernel_rfl) ⟨trivial, ⟨⟨0, rfl⟩, ⟨1, rfl⟩, ⟨2, rfl⟩, trivial⟩, trivial⟩ (fun _ _ _ h => h) ?_
            refine VA.un (i := 33) (listed' := LB 48 17179869183) rfl rfl rfl (ltn rfl) (by kernel_rfl) (by kernel_rfl) (by kernel_rfl) (by kernel_rfl) ⟨trivial, ⟨⟨0, rfl⟩, ⟨1, rfl⟩, ⟨2, rfl⟩, trivial⟩, trivial⟩ (fun _ _ _ h => h) ?_
            refine VA.un (i := 34) (listed' := LB 48 34359738367) rfl rfl rfl (ltn rfl) (by kernel_rfl) (by kernel_rfl) (by kernel_rfl) (by kernel_rfl) ⟨trivial, ⟨⟨0, rfl⟩, ⟨1, rfl⟩, ⟨2, rfl⟩, trivial⟩, trivial⟩ (fun _ _ _ h => h) ?_
            refine VA.va (i := 35) (listed' := LB 48 68719476735) rfl (op_pick rfl rfl (ltn rfl)) rfl (by kernel_rfl) (by kernel_rfl) (by kernel_rfl) (by kernel_rfl) ⟨trivial, ⟨⟨0, rfl⟩, ⟨1, rfl⟩, ⟨2, rfl⟩, trivial⟩, trivial⟩ (fun _ _ _ h => h) ?_
            refine VA.va (i := 36) (listed' := LB 48 137438953471) rfl (op_move rfl (ltn rfl)) rfl (by kernel_rfl) (by kernel_rfl) (by kernel_rfl) (by kernel_rfl) ⟨trivial, ⟨⟨0, rfl⟩, ⟨1, rfl⟩, ⟨2, rfl⟩, trivial⟩, trivial⟩ (fun _ _ _ h => h) ?_
            refine VA.un (i := 37) (listed' := LB 48 274877906943) rfl rfl rfl (ltn rfl) (by kernel_rfl) (by kernel_rfl) (by kernel_rfl) (by kernel_rfl) ⟨trivial, ⟨⟨0, rfl⟩, ⟨1, rfl⟩, ⟨2, rfl⟩, trivial⟩, trivial⟩ (fun _ _ _ h => h) ?_
            refine VA.un (i := 38) (listed' := LB 48 549755813887) rfl rfl rfl (ltn rfl) (by kernel_rfl) (by kernel_rfl) (by kernel_rfl) (by kernel_rfl) ⟨trivial, ⟨⟨0, rfl⟩, ⟨1, rfl⟩, ⟨2, rfl⟩, trivial⟩, trivial⟩ (fun _ _ _ h => h) ?_
            refine VA.un (i := 39) (listed' := LB 48 1099511627775) rfl rfl rfl (ltn rfl) (by kernel_rfl) (by kernel_rfl) (by kernel_rfl) (by kernel_rfl) ⟨trivial, ⟨⟨0, rfl⟩, ⟨1, rfl⟩, ⟨2, rfl⟩, trivial⟩, trivial⟩ (fun _ _ _ h => h) ?_
            refine VA.un (i := 40) (listed' := LB 48 2199023255551) rfl rfl rfl (ltn rfl) (by kernel_rfl) (by kernel_rfl) (by kernel_rfl) (by kernel_rfl) ⟨trivial, ⟨⟨0, rfl⟩, ⟨1, rfl⟩, ⟨2, rfl⟩, trivial⟩, trivial⟩ (fun _ _ _ h => h) ?_
            refine VA.un (i := 41) (listed' := LB 48 4398046511103) rfl rfl rfl (ltn rfl) (by kernel_rfl) (by kernel_rfl) (by kernel_rfl) (by kernel_rfl) ⟨trivial, ⟨⟨0, rfl⟩, ⟨1, rfl⟩, ⟨2, rfl⟩, trivial⟩, trivial⟩ (fun _ _ _ h => h) ?_
            refine VA.un (i := 42) (listed' := LB 48 8796093022207) rfl rfl rfl (ltn rfl) (by kernel_rfl) (by kernel_rfl) (by kernel_rfl) (by kernel_rfl) ⟨trivial, ⟨⟨0, rfl⟩, ⟨1, rfl⟩, ⟨2, rfl⟩, trivial⟩, trivial⟩ (fun _ _ _ h => h) ?_
            refine VA.un (i := 43) (listed' := LB 48 17592186044415) rfl rfl rfl (ltn rfl) (by kernel_rfl) (by kernel_rfl) (by kernel_rfl) (by kernel_rfl) ⟨trivial, ⟨⟨0, rfl⟩, ⟨1, rfl⟩, ⟨2, rfl⟩, trivial⟩, trivial⟩ (fun _ _ _ h => h) ?_
            refine VA.un (i := 44) (listed' := LB 48 35184372088831) rfl rfl rfl (ltn rfl) (by kernel_rfl) (by kernel_rfl) (by kernel_rfl) (by kernel_rfl) ⟨trivial, ⟨⟨0, rfl⟩, ⟨1, rfl⟩, ⟨2, rfl⟩, trivial⟩, trivial⟩ (fun _ _ _ h => h) ?_
            refine VA.un (i := 45) (listed' := LB 48 70368744177663) rfl rfl rfl (ltn rfl) (by kernel_rfl) (by kernel_rfl) (by kernel_rfl) (by kernel_rfl) ⟨trivial, ⟨⟨0, rfl⟩, ⟨1, rfl⟩, ⟨2, rfl⟩, trivial⟩, trivial⟩ (fun _ _ _ h => h) ?_
            refine VA.va (i := 46) (listed' := LB 48 140737488355327) rfl (op_pick rfl rfl (ltn rfl)) rfl (by kernel_rfl) (by kernel_rfl) (by kernel_rfl) (by kernel_rfl) ⟨trivial, ⟨⟨0, rfl⟩, ⟨1, rfl⟩, ⟨2, rfl⟩, trivial⟩, trivial⟩ (fun _ _ _ h => h) ?_
            refine VA.va (i := 47) (listed' := LB 48 281474976710655) rfl (op_assign rfl (ltn rfl)) rfl (by kernel_rfl) (by kernel_rfl) (by kernel_rfl) (by kernel_rfl) ⟨trivial, ⟨⟨0, rfl⟩, ⟨1, rfl⟩, ⟨2, rfl⟩, trivial⟩, trivial⟩ (fun _ _ _ h => h) ?_
            refine VA.done (by kernel_rfl) ?_
            exact VN.meet0  [] [] trivial ⟨rfl, ⟨rfl, trivial⟩, trivial, rfl, by decide, rfl, by decide⟩
          intro _
          refine VC.ret ?_
          cases h
      · rw [if_neg c3768] at h
        obtain rfl : b3767 = false := hb3767.symm.trans (beq_eq_false_iff_ne.2 c3768)
        refine VC.join0 (⟨80, [(8, .bool false)], [], [], []⟩) (True) ?_ ?_
        · refine VC.draw ⟨0, [], [], [(g3530, 35, [.int .i64 t3506, .string t3507, .int .i64 t3508, .int .i64 t3509, .int .i64 t3510, .int .i64 t3511, .int .i64 t3512, .int .i64 t3513, .bool t3514, .int .i64 t3515, .string t3516, .int .i64 t3517, .int .i64 t3518, .int .i64 t3519, .int .i64 t3520, .int .i64 t3521, .int .i64 t3522, .int .i64 t3523, .int .i64 t3524, .int .i64 t3525, .bool t3526, .int .i64 t3527, .int .i64 t3528]), (g1, 29, [.int .i64 t8, .string t9, .int .i64 t10, .int .i64 t11, .int .i64 t12, .int .i64 t13, .int .i64 t14, .int .i64 t15, .bool t16, .int .i64 t17, .string t18, .int .i64 t19, .int .i64 t20, .int .i64 t21, .int .i64 t22, .int .i64 t23, .int .i64 t24, .int .i64 t25, .int .i64 t26, .int .i64 t27, .bool t28])], []⟩ (by kernel_rfl) rfl (by kernel_rfl) (n := 48) (listed := LB 48 0) ?_
          refine VA.oneC (i := 0) (listed' := LB 48 1) (by kernel_rfl) rfl (o_call0 FO11 (tarrylaw13_alive.ok k true hA3761) rfl rfl (ltn rfl) (All_of .nil)) rfl (by kernel_rfl) ?_
          rintro _ _ _ ⟨rfl, rfl, rfl⟩
          refine ⟨⟨trivial, ⟨⟨0, rfl⟩, ⟨2, rfl⟩, trivial⟩, trivial⟩, ?_⟩
          refine VA.va (i := 1) (listed' := LB 48 3) rfl (op_move rfl (ltn rfl)) rfl (by kernel_rfl) (by kernel_rfl) (by kernel_rfl) (by kernel_rfl) ⟨trivial, ⟨⟨0, rfl⟩, ⟨2, rfl⟩, trivial⟩, trivial⟩ (fun _ _ _ h => h) ?_
          refine VA.va (i := 2) (listed' := LB 48 7) rfl (op_load 1 21 rfl rfl TI29 rfl (fun h => absurd h (by decide)) (ltn rfl)) rfl (by kernel_rfl) (by kernel_rfl) (by kernel_rfl) (by kernel_rfl) ⟨trivial, ⟨⟨0, rfl⟩, ⟨2, rfl⟩, trivial⟩, trivial⟩ (fun _ _ _ h => h) ?_
          refine VA.va (i := 4) (listed' := LB 48 23) rfl (op_move rfl (ltn rfl)) rfl (by kernel_rfl) (by kernel_rfl) (by kernel_rfl) (by kernel_rfl) ⟨trivial, ⟨⟨0, rfl⟩, ⟨2, rfl⟩, trivial⟩, trivial⟩ (fun _ _ _ h => h) ?_
          refine VA.oneC (i := 3) (listed' := LB 48 31) (by kernel_rfl) rfl (o_call0 FO12 (order_Right.ok k t8 t9 t10 t11 t12 t13 t14 t15 t16 t17 t18 t19 t20 t21 t22 t23 t24 t25 t26 t27 t28 t3763 hA3764) rfl rfl (ltn rfl) (All_of .nil)) rfl (by kernel_rfl) ?_
          rintro _ _ _ ⟨rfl, rfl, rfl⟩
          refine ⟨⟨trivial, ⟨⟨0, rfl⟩, ⟨2, rfl⟩, trivial⟩, trivial⟩, ?_⟩
          refine VA.va (i := 5) (listed' := LB 48 63) rfl (op_eqb Try.underlying4 rfl rfl (congrArg some hb3765) (ltn rfl)) rfl (by kernel_rfl) (by kernel_rfl) (by kernel_rfl) (by kernel_rfl) ⟨trivial, ⟨⟨0, rfl⟩, ⟨2, rfl⟩, trivial⟩, trivial⟩ (fun _ _ _ h => h) ?_
          refine VA.va (i := 6) (listed' := LB 48 127) rfl (op_pick rfl rfl (ltn rfl)) rfl (by kernel_rfl) (by kernel_rfl) (by kernel_rfl) (by kernel_rfl) ⟨trivial, ⟨⟨0, rfl⟩, ⟨2, rfl⟩, trivial⟩, trivial⟩ (fun _ _ _ h => h) ?_
          refine VA.va (i := 7) (listed' := LB 48 255) rfl (op_move rfl (ltn rfl)) rfl (by kernel_rfl) (by kernel_rfl) (by kernel_rfl) (by kernel_rfl) ⟨trivial, ⟨⟨0, rfl⟩, ⟨2, rfl⟩, trivial⟩, trivial⟩ (fun _ _ _ h => h) ?_
          refine VA.va (i := 8) (listed' := LB 48 511) rfl (op_move rfl (ltn rfl)) rfl (by kernel_rfl) (by kernel_rfl) (by kernel_rfl) (by kernel_rfl) ⟨trivial, ⟨⟨0, rfl⟩, ⟨2, rfl⟩, trivial⟩, trivial⟩ (fun _ _ _ h => h) ?_
          refine VA.va (i := 9) (listed' := LB 48 1023) rfl (op_fieldAddr FI35_2 rfl (add_at _ _ _) (ltn rfl)) rfl (by kernel_rfl) (by kernel_rfl) (by kernel_rfl) (by kernel_rfl) ⟨trivial, ⟨⟨0, rfl⟩, ⟨2, rfl⟩, trivial⟩, trivial⟩ (fun _ _ _ h => h) ?_
          refine VA.va (i := 10) (listed' := LB 48 2047) rfl (op_load 0 1 rfl rfl TI31 rfl (by decide) (ltn rfl)) rfl (by kernel_rfl) (by kernel_rfl) (by kernel_rfl) (by kernel_rfl) ⟨trivial, ⟨⟨0, rfl⟩, ⟨2, rfl⟩, trivial⟩, trivial⟩ (fun _ _ _ h => h) ?_
          refine VA.va (i := 11) (listed' := LB 48 4095) rfl (op_cmp rfl rfl (congrArg some hb3767) (ltn rfl)) rfl (by kernel_rfl) (by kernel_rfl) (by kernel_rfl) (by kernel_rfl) ⟨trivial, ⟨⟨0, rfl⟩, ⟨2, rfl⟩, trivial⟩, trivial⟩ (fun _ _ _ h => h) ?_
          refine VA.va (i := 12) (listed' := LB 48 8191) rfl (op_pick rfl rfl (ltn rfl)) rfl (by kernel_rfl) (by kernel_rfl) (by kernel_rfl) (by kernel_rfl) ⟨trivial, ⟨⟨0, rfl⟩, ⟨2, rfl⟩, trivial⟩, trivial⟩ (fun _ _ _ h => h) ?_
          refine VA.va (i := 13) (listed' := LB 48 16383) rfl (op_move rfl (ltn rfl)) rfl (by kernel_rfl) (by kernel_rfl) (by kernel_rfl) (by kernel_rfl) ⟨trivial, ⟨⟨0, rfl⟩, ⟨2, rfl⟩, trivial⟩, trivial⟩ (fun _ _ _ h => h) ?_
          refine VA.un (i := 14) (listed' := LB 48 32767) rfl rfl rfl (ltn rfl) (by kernel_rfl) (by kernel_rfl) (by kernel_rfl) (by kernel_rfl) ⟨trivial, ⟨⟨0, rfl⟩, ⟨2, rfl⟩, trivial⟩, trivial⟩ (fun _ _ _ h => h) ?_
          refine VA.un (i := 15) (listed' := LB 48 65535) rfl rfl rfl (ltn rfl) (by kernel_rfl) (by kernel_rfl) (by kernel_rfl) (by kernel_rfl) ⟨trivial, ⟨⟨0, rfl⟩, ⟨2, rfl⟩, trivial⟩, trivial⟩ (fun _ _ _ h => h) ?_
          refine VA.un (i := 16) (listed' := LB 48 131071) rfl rfl rfl (ltn rfl) (by kernel_rfl) (by kernel_rfl) (by kernel_rfl) (by kernel_rfl) ⟨trivial, ⟨⟨0, rfl⟩, ⟨2, rfl⟩, trivial⟩, trivial⟩ (fun _ _ _ h => h) ?_
          refine VA.un (i := 17) (listed' := LB 48 262143) rfl rfl rfl (ltn rfl) (by kernel_rfl) (by kernel_rfl) (by kernel_rfl) (by kernel_rfl) ⟨trivial, ⟨⟨0, rfl⟩, ⟨2, rfl⟩, trivial⟩, trivial⟩ (fun _ _ _ h => h) ?_
          refine VA.va (i := 18) (listed' := LB 48 524287) rfl (op_pick rfl rfl (ltn rfl)) rfl (by kernel_rfl) (by kernel_rfl) (by kernel_rfl) (by kernel_rfl) ⟨trivial, ⟨⟨0, rfl⟩, ⟨2, rfl⟩, trivial⟩, trivial⟩ (fun _ _ _ h => h) ?_
          refine VA.va (i := 19) (listed' := LB 48 1048575) rfl (op_move rfl (ltn rfl)) rfl (by kernel_rfl) (by kernel_rfl) (by kernel_rfl) (by kernel_rfl) ⟨trivial, ⟨⟨0, rfl⟩, ⟨2, rfl⟩, trivial⟩, trivial⟩ (fun _ _ _ h => h) ?_
          refine VA.un (i := 20) (listed' := LB 48 2097151) rfl rfl rfl (ltn rfl) (by kernel_rfl) (by kernel_rfl) (by kernel_rfl) (by kernel_rfl) ⟨trivial, ⟨⟨0, rfl⟩, ⟨2, rfl⟩, trivial⟩, trivial⟩ (fun _ _ _ h => h) ?_
          refine VA.un (i := 21) (listed' := LB 48 4194303) rfl rfl rfl (ltn rfl) (by kernel_rfl) (by kernel_rfl) (by kernel_rfl) (by kernel_rfl) ⟨trivial, ⟨⟨0, rfl⟩, ⟨2, rfl⟩, trivial⟩, trivial⟩ (fun _ _ _ h => h) ?_
          refine VA.un (i := 22) (listed' := LB 48 8388607) rfl rfl rfl (ltn rfl) (by kernel_rfl) (by kernel_rfl) (by kernel_rfl) (by kernel_rfl) ⟨trivial, ⟨⟨0, rfl⟩, ⟨2, rfl⟩, trivial⟩, trivial⟩ (fun _ _ _ h => h) ?_
          refine VA.un (i := 23) (listed' := LB 48 16777215) rfl rfl rfl (ltn rfl) (by kernel_rfl) (by kernel_rfl) (by kernel_rfl) (by kernel_rfl) ⟨trivial, ⟨⟨0, rfl⟩, ⟨2, rfl⟩, trivial⟩, trivial⟩ (fun _ _ _ h => h) ?_
          refine VA.va (i := 24) (listed' := LB 48 33554431) rfl (op_pick rfl rfl (ltn rfl)) rfl (by kernel_rfl) (by kernel_rfl) (by kernel_rfl) (by kernel_rfl) ⟨trivial, ⟨⟨0, rfl⟩, ⟨2, rfl⟩, trivial⟩, trivial⟩ (fun _ _ _ h => h) ?_
          refine VA.va (i := 25) (listed' := LB 48 67108863) rfl (op_move rfl (ltn rfl)) rfl (by kernel_rfl) (by kernel_rfl) (by kernel_rfl) (by kernel_rfl) ⟨trivial, ⟨⟨0, rfl⟩, ⟨2, rfl⟩, trivial⟩, trivial⟩ (fun _ _ _ h => h) ?_
          refine VA.un (i := 26) (listed' := LB 48 134217727) rfl rfl rfl (ltn rfl) (by kernel_rfl) (by kernel_rfl) (by kernel_rfl) (by kernel_rfl) ⟨trivial, ⟨⟨0, rfl⟩, ⟨2, rfl⟩, trivial⟩, trivial⟩ (fun _ _ _ h => h) ?_
          refine VA.un (i := 27) (listed' := LB 48 268435455) rfl rfl rfl (ltn rfl) (by kernel_rfl) (by kernel_rfl) (by kernel_rfl) (by kernel_rfl) ⟨trivial, ⟨⟨0, rfl⟩, ⟨2, rfl⟩, trivial⟩, trivial⟩ (fun _ _ _ h => h) ?_
          refine VA.un (i := 28) (listed' := LB 48 536870911) rfl rfl rfl (ltn rfl) (by kernel_rfl) (by kernel_rfl) (by kernel_rfl) (by kernel_rfl) ⟨trivial, ⟨⟨0, rfl⟩, ⟨2, rfl⟩, trivial⟩, trivial⟩ (fun _ _ _ h => h) ?_
          refine VA.un (i := 29) (listed' := LB 48 1073741823) rfl rfl rfl (ltn rfl) (by kernel_rfl) (by kernel_rfl) (by kernel_rfl) (by kernel_rfl) ⟨trivial, ⟨⟨0, rfl⟩, ⟨2, rfl⟩, trivial⟩, trivial⟩ (fun _ _ _ h => h) ?_
          refine VA.un (i := 30) (listed' := LB 48 2147483647) rfl rfl rfl (ltn rfl) (by kernel_rfl) (by kernel_rfl) (by kernel_rfl) (by kernel_rfl) ⟨trivial, ⟨⟨0, rfl⟩, ⟨2, rfl⟩, trivial⟩, trivial⟩ (fun _ _ _ h => h) ?_
          refine VA.un (i := 31) (listed' := LB 48 4294967295) rfl rfl rfl (ltn rfl) (by kernel_rfl) (by kernel_rfl) (by kernel_rfl) (by kernel_rfl) ⟨trivial, ⟨⟨0, rfl⟩, ⟨2, rfl⟩, trivial⟩, trivial⟩ (fun _ _ _ h => h) ?_
          refine VA.un (i := 32) (listed' := LB 48 8589934591) rfl rfl rfl (ltn rfl) (by kernel_rfl) (by kernel_rfl) (by kernel_rfl) (by kernel_rfl) ⟨trivial, ⟨⟨0, rfl⟩, ⟨2, rfl⟩, trivial⟩, trivial⟩ (fun _ _ _ h => h) ?_
          refine VA.un (i := 33) (listed' := LB 48 17179869183) rfl rfl rfl (ltn rfl) (by kernel_rfl) (by kernel_rfl) (by kernel_rfl) (by kernel_rfl) ⟨trivial, ⟨⟨0, rfl⟩, ⟨2, rfl⟩, trivial⟩, trivial⟩ (fun _ _ _ h => h) ?_
          refine VA.un (i := 34) (listed' := LB 48 34359738367) rfl rfl rfl (ltn rfl) (by kernel_rfl) (by kernel_rfl) (by kernel_rfl) (by kernel_rfl) ⟨trivial, ⟨⟨0, rfl⟩, ⟨2, rfl⟩, trivial⟩, trivial⟩ (fun _ _ _ h => h) ?_
          refine VA.va (i := 35) (listed' := LB 48 68719476735) rfl (op_pick rfl rfl (ltn rfl)) rfl (by kernel_rfl) (by kernel_rfl) (by kernel_rfl) (by kernel_rfl) ⟨trivial, ⟨⟨0, rfl⟩, ⟨2, rfl⟩, trivial⟩, trivial⟩ (fun _ _ _ h => h) ?_
          refine VA.va (i := 36) (listed' := LB 48 137438953471) rfl (op_move rfl (ltn rfl)) rfl (by kernel_rfl) (by kernel_rfl) (by kernel_rfl) (by kernel_rfl) ⟨trivial, ⟨⟨0, rfl⟩, ⟨2, rfl⟩, trivial⟩, trivial⟩ (fun _ _ _ h => h) ?_
          refine VA.un (i := 37) (listed' := LB 48 274877906943) rfl rfl rfl (ltn rfl) (by kernel_rfl) (by kernel_rfl) (by kernel_rfl) (by kernel_rfl) ⟨trivial, ⟨⟨0, rfl⟩, ⟨2, rfl⟩, trivial⟩, trivial⟩ (fun _ _ _ h => h) ?_
          refine VA.un (i := 38) (listed' := LB 48 549755813887) rfl rfl rfl (ltn rfl) (by kernel_rfl) (by kernel_rfl) (by kernel_rfl) (by kernel_rfl) ⟨trivial, ⟨⟨0, rfl⟩, ⟨2, rfl⟩, trivial⟩, trivial⟩ (fun _ _ _ h => h) ?_
          refine VA.un (i := 39) (listed' := LB 48 1099511627775) rfl rfl rfl (ltn rfl) (by kernel_rfl) (by kernel_rfl) (by kernel_rfl) (by kernel_rfl) ⟨trivial, ⟨⟨0, rfl⟩, ⟨2, rfl⟩, trivial⟩, trivial⟩ (fun _ _ _ h => h) ?_
          refine VA.un (i := 40) (listed' := LB 48 2199023255551) rfl rfl rfl (ltn rfl) (by kernel_rfl) (by kernel_rfl) (by kernel_rfl) (by kernel_rfl) ⟨trivial, ⟨⟨0, rfl⟩, ⟨2, rfl⟩, trivial⟩, trivial⟩ (fun _ _ _ h => h) ?_
          refine VA.un (i := 41) (listed' := LB 48 4398046511103) rfl rfl rfl (ltn rfl) (by kernel_rfl) (by kernel_rfl) (by kernel_rfl) (by kernel_rfl) ⟨trivial, ⟨⟨0, rfl⟩, ⟨2, rfl⟩, trivial⟩, trivial⟩ (fun _ _ _ h => h) ?_
          refine VA.un (i := 42) (listed' := LB 48 8796093022207) rfl rfl rfl (ltn rfl) (by kernel_rfl) (by kernel_rfl) (by kernel_rfl) (by kernel_rfl) ⟨trivial, ⟨⟨0, rfl⟩, ⟨2, rfl⟩, trivial⟩, trivial⟩ (fun _ _ _ h => h) ?_
          refine VA.un (i := 43) (listed' := LB 48 17592186044415) rfl rfl rfl (ltn rfl) (by kernel_rfl) (by kernel_rfl) (by kernel_rfl) (by kernel_rfl) ⟨trivial, ⟨⟨0, rfl⟩, ⟨2, rfl⟩, trivial⟩, trivial⟩ (fun _ _ _ h => h) ?_
          refine VA.un (i := 44) (listed' := LB 48 35184372088831) rfl rfl rfl (ltn rfl) (by kernel_rfl) (by kernel_rfl) (by kernel_rfl) (by kernel_rfl) ⟨trivial, ⟨⟨0, rfl⟩, ⟨2, rfl⟩, trivial⟩, trivial⟩ (fun _ _ _ h => h) ?_
          refine VA.un (i := 45) (listed' := LB 48 70368744177663) rfl rfl rfl (ltn rfl) (by kernel_rfl) (by kernel_rfl) (by kernel_rfl) (by kernel_rfl) ⟨trivial, ⟨⟨0, rfl⟩, ⟨2, rfl⟩, trivial⟩, trivial⟩ (fun _ _ _ h => h) ?_
          refine VA.va (i := 46) (listed' := LB 48 140737488355327) rfl (op_pick rfl rfl (ltn rfl)) rfl (by kernel_rfl) (by kernel_rfl) (by kernel_rfl) (by kernel_rfl) ⟨trivial, ⟨⟨0, rfl⟩, ⟨2, rfl⟩, trivial⟩, trivial⟩ (fun _ _ _ h => h) ?_
          refine VA.va (i := 47) (listed' := LB 48 281474976710655) rfl (op_assign rfl (ltn rfl)) rfl (by kernel_rfl) (by kernel_rfl) (by kernel_rfl) (by kernel_rfl) ⟨trivial, ⟨⟨0, rfl⟩, ⟨2, rfl⟩, trivial⟩, trivial⟩ (fun _ _ _ h => h) ?_
          refine VA.done (by kernel_rfl) ?_
          exact VN.meet0  [] [] trivial ⟨rfl, ⟨rfl, trivial⟩, trivial, rfl, by decide, rfl, by decide⟩
        intro _
        refine VC.ret ?_
        cases h
    · rw [if_neg c3766] at h
      obtain rfl : b3765 = false := hb3765.symm.trans (beq_eq_false_iff_ne.2 c3766)
      refine VC.join0 (⟨80, [(8, .bool false)], [], [], []⟩) (True) ?_ ?_
      · refine VC.draw ⟨0, [], [], [(g1, 29, [.int .i64 t8, .string t9, .int .i64 t10, .int .i64 t11, .int .i64 t12, .int .i64 t13, .int .i64 t14, .int .i64 t15, .bool t16, .int .i64 t17, .string t18, .int .i64 t19, .int .i64 t20, .int .i64 t21, .int .i64 t22, .int .i64 t23, .int .i64 t24, .int .i64 t25, .int .i64 t26, .int .i64 t27, .bool t28])], []⟩ (by kernel_rfl) rfl (by kernel_rfl) (n := 48) (listed := LB 48 0) ?_
        refine VA.oneC (i := 0) (listed' := LB 48 1) (by kernel_rfl) rfl (o_call0 FO11 (tarrylaw13_alive.ok k true hA3761) rfl rfl (ltn rfl) (All_of .nil)) rfl (by kernel_rfl) ?_
        rintro _ _ _ ⟨rfl, rfl, rfl⟩
        refine ⟨⟨trivial, ⟨⟨2, rfl⟩, trivial⟩, trivial⟩, ?_⟩
        refine VA.va (i := 1) (listed' := LB 48 3) rfl (op_move rfl (ltn rfl)) rfl (by kernel_rfl) (by kernel_rfl) (by kernel_rfl) (by kernel_rfl) ⟨trivial, ⟨⟨2, rfl⟩, trivial⟩, trivial⟩ (fun _ _ _ h => h) ?_
        refine VA.va (i := 2) (listed' := LB 48 7) rfl (op_load 0 21 rfl rfl TI29 rfl (fun h => absurd h (by decide)) (ltn rfl)) rfl (by kernel_rfl) (by kernel_rfl) (by kernel_rfl) (by kernel_rfl) ⟨trivial, ⟨⟨2, rfl⟩, trivial⟩, trivial⟩ (fun _ _ _ h => h) ?_
        refine VA.va (i := 4) (listed' := LB 48 23) rfl (op_move rfl (ltn rfl)) rfl (by kernel_rfl) (by kernel_rfl) (by kernel_rfl) (by kernel_rfl) ⟨trivial, ⟨⟨2, rfl⟩, trivial⟩, trivial⟩ (fun _ _ _ h => h) ?_
        refine VA.oneC (i := 3) (listed' := LB 48 31) (by kernel_rfl) rfl (o_call0 FO12 (order_Right.ok k t8 t9 t10 t11 t12 t13 t14 t15 t16 t17 t18 t19 t20 t21 t22 t23 t24 t25 t26 t27 t28 t3763 hA3764) rfl rfl (ltn rfl) (All_of .nil)) rfl (by kernel_rfl) ?_
        rintro _ _ _ ⟨rfl, rfl, rfl⟩
        refine ⟨⟨trivial, ⟨⟨2, rfl⟩, trivial⟩, trivial⟩, ?_⟩
        refine VA.va (i := 5) (listed' := LB 48 63) rfl (op_eqb Try.underlying4 rfl rfl (congrArg some hb3765) (ltn rfl)) rfl (by kernel_rfl) (by kernel_rfl) (by kernel_rfl) (by kernel_rfl) ⟨trivial, ⟨⟨2, rfl⟩, trivial⟩, trivial⟩ (fun _ _ _ h => h) ?_
        refine VA.va (i := 6) (listed' := LB 48 127) rfl (op_pick rfl rfl (ltn rfl)) rfl (by kernel_rfl) (by kernel_rfl) (by kernel_rfl) (by kernel_rfl) ⟨trivial, ⟨⟨2, rfl⟩, trivial⟩, trivial⟩ (fun _ _ _ h => h) ?_
        refine VA.va (i := 7) (listed' := LB 48 255) rfl (op_move rfl (ltn rfl)) rfl (by kernel_rfl) (by kernel_rfl) (by kernel_rfl) (by kernel_rfl) ⟨trivial, ⟨⟨2, rfl⟩, trivial⟩, trivial⟩ (fun _ _ _ h => h) ?_
        refine VA.un (i := 8) (listed' := LB 48 511) rfl rfl rfl (ltn rfl) (by kernel_rfl) (by kernel_rfl) (by kernel_rfl) (by kernel_rfl) ⟨trivial, ⟨⟨2, rfl⟩, trivial⟩, trivial⟩ (fun _ _ _ h => h) ?_
        refine VA.un (i := 9) (listed' := LB 48 1023) rfl rfl rfl (ltn rfl) (by kernel_rfl) (by kernel_rfl) (by kernel_rfl) (by kernel_rfl) ⟨trivial, ⟨⟨2, rfl⟩, trivial⟩, trivial⟩ (fun _ _ _ h => h) ?_
        refine VA.un (i := 10) (listed' := LB 48 2047) rfl rfl rfl (ltn rfl) (by kernel_rfl) (by kernel_rfl) (by kernel_rfl) (by kernel_rfl) ⟨trivial, ⟨⟨2, rfl⟩, trivial⟩, trivial⟩ (fun _ _ _ h => h) ?_
        refine VA.un (i := 11) (listed' := LB 48 4095) rfl rfl rfl (ltn rfl) (by kernel_rfl) (by kernel_rfl) (by kernel_rfl) (by kernel_rfl) ⟨trivial, ⟨⟨2, rfl⟩, trivial⟩, trivial⟩ (fun _ _ _ h => h) ?_
        refine VA.va (i := 12) (listed' := LB 48 8191) rfl (op_pick rfl rfl (ltn rfl)) rfl (by kernel_rfl) (by kernel_rfl) (by kernel_rfl) (by kernel_rfl) ⟨trivial, ⟨⟨2, rfl⟩, trivial⟩, trivial⟩ (fun _ _ _ h => h) ?_
        refine VA.va (i := 13) (listed' := LB 48 16383) rfl (op_move rfl (ltn rfl)) rfl (by kernel_rfl) (by kernel_rfl) (by kernel_rfl) (by kernel_rfl) ⟨trivial, ⟨⟨2, rfl⟩, trivial⟩, trivial⟩ (fun _ _ _ h => h) ?_
        refine VA.un (i := 14) (listed' := LB 48 32767) rfl rfl rfl (ltn rfl) (by kernel_rfl) (by kernel_rfl) (by kernel_rfl) (by kernel_rfl) ⟨trivial, ⟨⟨2, rfl⟩, trivial⟩, trivial⟩ (fun _ _ _ h => h) ?_
        refine VA.un (i := 15) (listed' := LB 48 65535) rfl rfl rfl (ltn rfl) (by kernel_rfl) (by kernel_rfl) (by kernel_rfl) (by kernel_rfl) ⟨trivial, ⟨⟨2, rfl⟩, trivial⟩, trivial⟩ (fun _ _ _ h => h) ?_
        refine VA.un (i := 16) (listed' := LB 48 131071) rfl rfl rfl (ltn rfl) (by kernel_rfl) (by kernel_rfl) (by kernel_rfl) (by kernel_rfl) ⟨trivial, ⟨⟨2, rfl⟩, trivial⟩, trivial⟩ (fun _ _ _ h => h) ?_
        refine VA.un (i := 17) (listed' := LB 48 262143) rfl rfl rfl (ltn rfl) (by kernel_rfl) (by kernel_rfl) (by kernel_rfl) (by kernel_rfl) ⟨trivial, ⟨⟨2, rfl⟩, trivial⟩, trivial⟩ (fun _ _ _ h => h) ?_
        refine VA.va (i := 18) (listed' := LB 48 524287) rfl (op_pick rfl rfl (ltn rfl)) rfl (by kernel_rfl) (by kernel_rfl) (by kernel_rfl) (by kernel_rfl) ⟨trivial, ⟨⟨2, rfl⟩, trivial⟩, trivial⟩ (fun _ _ _ h => h) ?_
        refine VA.va (i := 19) (listed' := LB 48 1048575) rfl (op_move rfl (ltn rfl)) rfl (by kernel_rfl) (by kernel_rfl) (by kernel_rfl) (by kernel_rfl) ⟨trivial, ⟨⟨2, rfl⟩, trivial⟩, trivial⟩ (fun _ _ _ h => h) ?_
        refine VA.un (i := 20) (listed' := LB 48 2097151) rfl rfl rfl (ltn rfl) (by kernel_rfl) (by kernel_rfl) (by kernel_rfl) (by kernel_rfl) ⟨trivial, ⟨⟨2, rfl⟩, trivial⟩, trivial⟩ (fun _ _ _ h => h) ?_
        refine VA.un (i := 21) (listed' := LB 48 4194303) rfl rfl rfl (ltn rfl) (by kernel_rfl) (by kernel_rfl) (by kernel_rfl) (by kernel_rfl) ⟨trivial, ⟨⟨2, rfl⟩, trivial⟩, trivial⟩ (fun _ _ _ h => h) ?_
        refine VA.un (i := 22) (listed' := LB 48 8388607) rfl rfl rfl (ltn rfl) (by kernel_rfl) (by kernel_rfl) (by kernel_rfl) (by kernel_rfl) ⟨trivial, ⟨⟨2, rfl⟩, trivial⟩, trivial⟩ (fun _ _ _ h => h) ?_
        refine VA.un (i := 23) (listed' := LB 48 16777215) rfl rfl rfl (ltn rfl) (by kernel_rfl) (by kernel_rfl) (by kernel_rfl) (by kernel_rfl) ⟨trivial, ⟨⟨2, rfl⟩, trivial⟩, trivial⟩ (fun _ _ _ h => h) ?_
        refine VA.va (i := 24) (listed' := LB 48 33554431) rfl (op_pick rfl rfl (ltn rfl)) rfl (by kernel_rfl) (by kernel_rfl) (by kernel_rfl) (by kernel_rfl) ⟨trivial, ⟨⟨2, rfl⟩, trivial⟩, trivial⟩ (fun _ _ _ h => h) ?_
        refine VA.va (i := 25) (listed' := LB 48 67108863) rfl (op_move rfl (ltn rfl)) rfl (by kernel_rfl) (by kernel_rfl) (by kernel_rfl) (by kernel_rfl) ⟨trivial, ⟨⟨2, rfl⟩, trivial⟩, trivial⟩ (fun _ _ _ h => h) ?_
        refine VA.un (i := 26) (listed' := LB 48 134217727) rfl rfl rfl (ltn rfl) (by kernel_rfl) (by kernel_rfl) (by kernel_rfl) (by kernel_rfl) ⟨trivial, ⟨⟨2, rfl⟩, trivial⟩, trivial⟩ (fun _ _ _ h => h) ?_
        refine VA.un (i := 27) (listed' := LB 48 268435455) rfl rfl rfl (ltn rfl) (by kernel_rfl) (by kernel_rfl) (by kernel_rfl) (by kernel_rfl) ⟨trivial, ⟨⟨2, rfl⟩, trivial⟩, trivial⟩ (fun _ _ _ h => h) ?_
        refine VA.un (i := 28) (listed' := LB 48 536870911) rfl rfl rfl (ltn rfl) (by kernel_rfl) (by kernel_rfl) (by kernel_rfl) (by kernel_rfl) ⟨trivial, ⟨⟨2, rfl⟩, trivial⟩, trivial⟩ (fun _ _ _ h => h) ?_
        refine VA.un (i := 29) (listed' := LB 48 1073741823) rfl rfl rfl (ltn rfl) (by kernel_rfl) (by kernel_rfl) (by kernel_rfl) (by kernel_rfl) ⟨trivial, ⟨⟨2, rfl⟩, trivial⟩, trivial⟩ (fun _ _ _ h => h) ?_
        refine VA.un (i := 30) (listed' := LB 48 2147483647) rfl rfl rfl (ltn rfl) (by kernel_rfl) (by kernel_rfl) (by kernel_rfl) (by kernel_rfl) ⟨trivial, ⟨⟨2, rfl⟩, trivial⟩, trivial⟩ (fun _ _ _ h => h) ?_
        refine VA.un (i := 31) (listed' := LB 48 4294967295) rfl rfl rfl (ltn rfl) (by kernel_rfl) (by kernel_rfl) (by kernel_rfl) (by kernel_rfl) ⟨trivial, ⟨⟨2, rfl⟩, trivial⟩, trivial⟩ (fun _ _ _ h => h) ?_
        refine VA.un (i := 32) (listed' := LB 48 8589934591) rfl rfl rfl (ltn rfl) (by kernel_rfl) (by kernel_rfl) (by kernel_rfl) (by kernel_rfl) ⟨trivial, ⟨⟨2, rfl⟩, trivial⟩, trivial⟩ (fun _ _ _ h => h) ?_
        refine VA.un (i := 33) (listed' := LB 48 17179869183) rfl rfl rfl (ltn rfl) (by kernel_rfl) (by kernel_rfl) (by kernel_rfl) (by kernel_rfl) ⟨trivial, ⟨⟨2, rfl⟩, trivial⟩, trivial⟩ (fun _ _ _ h => h) ?_
        refine VA.un (i := 34) (listed' := LB 48 34359738367) rfl rfl rfl (ltn rfl) (by kernel_rfl) (by kernel_rfl) (by kernel_rfl) (by kernel_rfl) ⟨trivial, ⟨⟨2, rfl⟩, trivial⟩, trivial⟩ (fun _ _ _ h => h) ?_
        refine VA.va (i := 35) (listed' := LB 48 68719476735) rfl (op_pick rfl rfl (ltn rfl)) rfl (by kernel_rfl) (by kernel_rfl) (by kernel_rfl) (by kernel_rfl) ⟨trivial, ⟨⟨2, rfl⟩, trivial⟩, trivial⟩ (fun _ _ _ h => h) ?_
        refine VA.va (i := 36) (listed' := LB 48 137438953471) rfl (op_move rfl (ltn rfl)) rfl (by kernel_rfl) (by kernel_rfl) (by kernel_rfl) (by kernel_rfl) ⟨trivial, ⟨⟨2, rfl⟩, trivial⟩, trivial⟩ (fun _ _ _ h => h) ?_
        refine VA.un (i := 37) (listed' := LB 48 274877906943) rfl rfl rfl (ltn rfl) (by kernel_rfl) (by kernel_rfl) (by kernel_rfl) (by kernel_rfl) ⟨trivial, ⟨⟨2, rfl⟩, trivial⟩, trivial⟩ (fun _ _ _ h => h) ?_
        refine VA.un (i := 38) (listed' := LB 48 549755813887) rfl rfl rfl (ltn rfl) (by kernel_rfl) (by kernel_rfl) (by kernel_rfl) (by kernel_rfl) ⟨trivial, ⟨⟨2, rfl⟩, trivial⟩, trivial⟩ (fun _ _ _ h => h) ?_
        refine VA.un (i := 39) (listed' := LB 48 1099511627775) rfl rfl rfl (ltn rfl) (by kernel_rfl) (by kernel_rfl) (by kernel_rfl) (by kernel_rfl) ⟨trivial, ⟨⟨2, rfl⟩, trivial⟩, trivial⟩ (fun _ _ _ h => h) ?_
        refine VA.un (i := 40) (listed' := LB 48 2199023255551) rfl rfl rfl (ltn rfl) (by kernel_rfl) (by kernel_rfl) (by kernel_rfl) (by kernel_rfl) ⟨trivial, ⟨⟨2, rfl⟩, trivial⟩, trivial⟩ (fun _ _ _ h => h) ?_
        refine VA.un (i := 41) (listed' := LB 48 4398046511103) rfl rfl rfl (ltn rfl) (by kernel_rfl) (by kernel_rfl) (by kernel_rfl) (by kernel_rfl) ⟨trivial, ⟨⟨2, rfl⟩, trivial⟩, trivial⟩ (fun _ _ _ h => h) ?_
        refine VA.un (i := 42) (listed' := LB 48 8796093022207) rfl rfl rfl (ltn rfl) (by kernel_rfl) (by kernel_rfl) (by kernel_rfl) (by kernel_rfl) ⟨trivial, ⟨⟨2, rfl⟩, trivial⟩, trivial⟩ (fun _ _ _ h => h) ?_
        refine VA.un (i := 43) (listed' := LB 48 17592186044415) rfl rfl rfl (ltn rfl) (by kernel_rfl) (by kernel_rfl) (by kernel_rfl) (by kernel_rfl) ⟨trivial, ⟨⟨2, rfl⟩, trivial⟩, trivial⟩ (fun _ _ _ h => h) ?_
        refine VA.un (i := 44) (listed' := LB 48 35184372088831) rfl rfl rfl (ltn rfl) (by kernel_rfl) (by kernel_rfl) (by kernel_rfl) (by kernel_rfl) ⟨trivial, ⟨⟨2, rfl⟩, trivial⟩, trivial⟩ (fun _ _ _ h => h) ?_
        refine VA.un (i := 45) (listed' := LB 48 70368744177663) rfl rfl rfl (ltn rfl) (by kernel_rfl) (by kernel_rfl) (by kernel_rfl) (by kernel_rfl) ⟨trivial, ⟨⟨2, rfl⟩, trivial⟩, trivial⟩ (fun _ _ _ h => h) ?_
        refine VA.va (i := 46) (listed' := LB 48 140737488355327) rfl (op_pick rfl rfl (ltn rfl)) rfl (by kernel_rfl) (by kernel_rfl) (by kernel_rfl) (by kernel_rfl) ⟨trivial, ⟨⟨2, rfl⟩, trivial⟩, trivial⟩ (fun _ _ _ h => h) ?_
        refine VA.va (i := 47) (listed' := LB 48 281474976710655) rfl (op_assign rfl (ltn rfl)) rfl (by kernel_rfl) (by kernel_rfl) (by kernel_rfl) (by kernel_rfl) ⟨trivial, ⟨⟨2, rfl⟩, trivial⟩, trivial⟩ (fun _ _ _ h => h) ?_
        refine VA.done (by kernel_rfl) ?_
        exact VN.meet0  [] [] trivial ⟨rfl, ⟨rfl, trivial⟩, trivial, rfl, by decide, rfl, by decide⟩
      intro _
      refine VC.ret ?_
      cases h
  · rw [if_neg c3762] at h
    obtain rfl := Bool.eq_false_iff.2 c3762
    refine VC.join0 (⟨80, [(8, .bool false)], [], [], []⟩) (True) ?_ ?_
    · refine VC.draw ⟨0, [], [], [], []⟩ (by kernel_rfl) rfl (by kernel_rfl) (n := 48) (listed := LB 48 0) ?_
      refine VA.oneC (i := 0) (listed' := LB 48 1) (by kernel_rfl) rfl (o_call0 FO11 (tarrylaw13_alive.ok k false hA3761) rfl rfl (ltn rfl) (All_of .nil)) rfl (by kernel_rfl) ?_
      rintro _ _ _ ⟨rfl, rfl, rfl⟩
      refine ⟨⟨trivial, trivial, trivial⟩, ?_⟩
      refine VA.va (i := 1) (listed' := LB 48 3) rfl (op_move rfl (ltn rfl)) rfl (by kernel_rfl) (by kernel_rfl) (by kernel_rfl) (by kernel_rfl) ⟨trivial, trivial, trivial⟩ (fun _ _ _ h => h) ?_
      refine VA.un (i := 2) (listed' := LB 48 7) rfl rfl rfl (ltn rfl) (by kernel_rfl) (by kernel_rfl) (by kernel_rfl) (by kernel_rfl) ⟨trivial, trivial, trivial⟩ (fun _ _ _ h => h) ?_
      refine VA.un (i := 3) (listed' := LB 48 15) rfl rfl rfl (ltn rfl) (by kernel_rfl) (by kernel_rfl) (by kernel_rfl) (by kernel_rfl) ⟨trivial, trivial, trivial⟩ (fun _ _ _ h => h) ?_
      refine VA.un (i := 4) (listed' := LB 48 31) rfl rfl rfl (ltn rfl) (by kernel_rfl) (by kernel_rfl) (by kernel_rfl) (by kernel_rfl) ⟨trivial, trivial, trivial⟩ (fun _ _ _ h => h) ?_
      refine VA.un (i := 5) (listed' := LB 48 63) rfl rfl rfl (ltn rfl) (by kernel_rfl) (by kernel_rfl) (by kernel_rfl) (by kernel_rfl) ⟨trivial, trivial, trivial⟩ (fun _ _ _ h => h) ?_
      refine VA.va (i := 6) (listed' := LB 48 127) rfl (op_pick rfl rfl (ltn rfl)) rfl (by kernel_rfl) (by kernel_rfl) (by kernel_rfl) (by kernel_rfl) ⟨trivial, trivial, trivial⟩ (fun _ _ _ h => h) ?_
      refine VA.va (i := 7) (listed' := LB 48 255) rfl (op_move rfl (ltn rfl)) rfl (by kernel_rfl) (by kernel_rfl) (by kernel_rfl) (by kernel_rfl) ⟨trivial, trivial, trivial⟩ (fun _ _ _ h => h) ?_
      refine VA.un (i := 8) (listed' := LB 48 511) rfl rfl rfl (ltn rfl) (by kernel_rfl) (by kernel_rfl) (by kernel_rfl) (by kernel_rfl) ⟨trivial, trivial, trivial⟩ (fun _ _ _ h => h) ?_
      refine VA.un (i := 9) (listed' := LB 48 1023) rfl rfl rfl (ltn rfl) (by kernel_rfl) (by kernel_rfl) (by kernel_rfl) (by kernel_rfl) ⟨trivial, trivial, trivial⟩ (fun _ _ _ h => h) ?_
      refine VA.un (i := 10) (listed' := LB 48 2047) rfl rfl rfl (ltn rfl) (by kernel_rfl) (by kernel_rfl) (by kernel_rfl) (by kernel_rfl) ⟨trivial, trivial, trivial⟩ (fun _ _ _ h => h) ?_
      refine VA.un (i := 11) (listed' := LB 48 4095) rfl rfl rfl (ltn rfl) (by kernel_rfl) (by kernel_rfl) (by kernel_rfl) (by kernel_rfl) ⟨trivial, trivial, trivial⟩ (fun _ _ _ h => h) ?_
      refine VA.va (i := 12) (listed' := LB 48 8191) rfl (op_pick rfl rfl (ltn rfl)) rfl (by kernel_rfl) (by kernel_rfl) (by kernel_rfl) (by kernel_rfl) ⟨trivial, trivial, trivial⟩ (fun _ _ _ h => h) ?_
      refine VA.va (i := 13) (listed' := LB 48 16383) rfl (op_move rfl (ltn rfl)) rfl (by kernel_rfl) (by kernel_rfl) (by kernel_rfl) (by kernel_rfl) ⟨trivial, trivial, trivial⟩ (fun _ _ _ h => h) ?_
      refine VA.un (i := 14) (listed' := LB 48 32767) rfl rfl rfl (ltn rfl) (by kernel_rfl) (by kernel_rfl) (by kernel_rfl) (by kernel_rfl) ⟨trivial, trivial, trivial⟩ (fun _ _ _ h => h) ?_
      refine VA.un (i := 15) (listed' := LB 48 65535) rfl rfl rfl (ltn rfl) (by kernel_rfl) (by kernel_rfl) (by kernel_rfl) (by kernel_rfl) ⟨trivial, trivial, trivial⟩ (fun _ _ _ h => h) ?_
      refine VA.un (i := 16) (listed' := LB 48 131071) rfl rfl rfl (ltn rfl) (by kernel_rfl) (by kernel_rfl) (by kernel_rfl) (by kernel_rfl) ⟨trivial, trivial, trivial⟩ (fun _ _ _ h => h) ?_
      refine VA.un (i := 17) (listed' := LB 48 262143) rfl rfl rfl (ltn rfl) (by kernel_rfl) (by kernel_rfl) (by kernel_rfl) (by kernel_rfl) ⟨trivial, trivial, trivial⟩ (fun _ _ _ h => h) ?_
      refine VA.va (i := 18) (listed' := LB 48 524287) rfl (op_pick rfl rfl (ltn rfl)) rfl (by kernel_rfl) (by kernel_rfl) (by kernel_rfl) (by kernel_rfl) ⟨trivial, trivial, trivial⟩ (fun _ _ _ h => h) ?_
      refine VA.va (i := 19) (listed' := LB 48 1048575) rfl (op_move rfl (ltn rfl)) rfl (by kernel_rfl) (by kernel_rfl) (by kernel_rfl) (by kernel_rfl) ⟨trivial, trivial, trivial⟩ (fun _ _ _ h => h) ?_
      refine VA.un (i := 20) (listed' := LB 48 2097151) rfl rfl rfl (ltn rfl) (by kernel_rfl) (by kernel_rfl) (by kernel_rfl) (by kernel_rfl) ⟨trivial, trivial, trivial⟩ (fun _ _ _ h => h) ?_
      refine VA.un (i := 21) (listed' := LB 48 4194303) rfl rfl rfl (ltn rfl) (by kernel_rfl) (by kernel_rfl) (by kernel_rfl) (by kernel_rfl) ⟨trivial, trivial, trivial⟩ (fun _ _ _ h => h) ?_
      refine VA.un (i := 22) (listed' := LB 48 8388607) rfl rfl rfl (ltn rfl) (by kernel_rfl) (by kernel_rfl) (by kernel_rfl) (by kernel_rfl) ⟨trivial, trivial, trivial⟩ (fun _ _ _ h => h) ?_
      refine VA.un (i := 23) (listed' := LB 48 16777215) rfl rfl rfl (ltn rfl) (by kernel_rfl) (by kernel_rfl) (by kernel_rfl) (by kernel_rfl) ⟨trivial, trivial, trivial⟩ (fun _ _ _ h => h) ?_
      refine VA.va (i := 24) (listed' := LB 48 33554431) rfl (op_pick rfl rfl (ltn rfl)) rfl (by kernel_rfl) (by kernel_rfl) (by kernel_rfl) (by kernel_rfl) ⟨trivial, trivial, trivial⟩ (fun _ _ _ h => h) ?_
      refine VA.va (i := 25) (listed' := LB 48 67108863) rfl (op_move rfl (ltn rfl)) rfl (by kernel_rfl) (by kernel_rfl) (by kernel_rfl) (by kernel_rfl) ⟨trivial, trivial, trivial⟩ (fun _ _ _ h => h) ?_
      refine VA.un (i := 26) (listed' := LB 48 134217727) rfl rfl rfl (ltn rfl) (by kernel_rfl) (by kernel_rfl) (by kernel_rfl) (by kernel_rfl) ⟨trivial, trivial, trivial⟩ (fun _ _ _ h => h) ?_
      refine VA.un (i := 27) (listed' := LB 48 268435455) rfl rfl rfl (ltn rfl) (by kernel_rfl) (by kernel_rfl) (by kernel_rfl) (by kernel_rfl) ⟨trivial, trivial, trivial⟩ (fun _ _ _ h => h) ?_
      refine VA.un (i := 28) (listed' := LB 48 536870911) rfl rfl rfl (ltn rfl) (by kernel_rfl) (by kernel_rfl) (by kernel_rfl) (by kernel_rfl) ⟨trivial, trivial, trivial⟩ (fun _ _ _ h => h) ?_
      refine VA.un (i := 29) (listed' := LB 48 1073741823) rfl rfl rfl (ltn rfl) (by kernel_rfl) (by kernel_rfl) (by kernel_rfl) (by kernel_rfl) ⟨trivial, trivial, trivial⟩ (fun _ _ _ h => h) ?_
      refine VA.un (i := 30) (listed' := LB 48 2147483647) rfl rfl rfl (ltn rfl) (by kernel_rfl) (by kernel_rfl) (by kernel_rfl) (by kernel_rfl) ⟨trivial, trivial, trivial⟩ (fun _ _ _ h => h) ?_
      refine VA.un (i := 31) (listed' := LB 48 4294967295) rfl rfl rfl (ltn rfl) (by kernel_rfl) (by kernel_rfl) (by kernel_rfl) (by kernel_rfl) ⟨trivial, trivial, trivial⟩ (fun _ _ _ h => h) ?_
      refine VA.un (i := 32) (listed' := LB 48 8589934591) rfl rfl rfl (ltn rfl) (by kernel_rfl) (by kernel_rfl) (by kernel_rfl) (by kernel_rfl) ⟨trivial, trivial, trivial⟩ (fun _ _ _ h => h) ?_
      refine VA.un (i := 33) (listed' := LB 48 17179869183) rfl rfl rfl (ltn rfl) (by kernel_rfl) (by kernel_rfl) (by kernel_rfl) (by kernel_rfl) ⟨trivial, trivial, trivial⟩ (fun _ _ _ h => h) ?_
      refine VA.un (i := 34) (listed' := LB 48 34359738367) rfl rfl rfl (ltn rfl) (by kernel_rfl) (by kernel_rfl) (by kernel_rfl) (by kernel_rfl) ⟨trivial, trivial, trivial⟩ (fun _ _ _ h => h) ?_
      refine VA.va (i := 35) (listed' := LB 48 68719476735) rfl (op_pick rfl rfl (ltn rfl)) rfl (by kernel_rfl) (by kernel_rfl) (by kernel_rfl) (by kernel_rfl) ⟨trivial, trivial, trivial⟩ (fun _ _ _ h => h) ?_
      refine VA.va (i := 36) (listed' := LB 48 137438953471) rfl (op_move rfl (ltn rfl)) rfl (by kernel_rfl) (by kernel_rfl) (by kernel_rfl) (by kernel_rfl) ⟨trivial, trivial, trivial⟩ (fun _ _ _ h => h) ?_
      refine VA.un (i := 37) (listed' := LB 48 274877906943) rfl rfl rfl (ltn rfl) (by kernel_rfl) (by kernel_rfl) (by kernel_rfl) (by kernel_rfl) ⟨trivial, trivial, trivial⟩ (fun _ _ _ h => h) ?_
      refine VA.un (i := 38) (listed' := LB 48 549755813887) rfl rfl rfl (ltn rfl) (by kernel_rfl) (by kernel_rfl) (by kernel_rfl) (by kernel_rfl) ⟨trivial, trivial, trivial⟩ (fun _ _ _ h => h) ?_
      refine VA.un (i := 39) (listed' := LB 48 1099511627775) rfl rfl rfl (ltn rfl) (by kernel_rfl) (by kernel_rfl) (by kernel_rfl) (by kernel_rfl) ⟨trivial, trivial, trivial⟩ (fun _ _ _ h => h) ?_
      refine VA.un (i := 40) (listed' := LB 48 2199023255551) rfl rfl rfl (ltn rfl) (by kernel_rfl) (by kernel_rfl) (by kernel_rfl) (by kernel_rfl) ⟨trivial, trivial, trivial⟩ (fun _ _ _ h => h) ?_
      refine VA.un (i := 41) (listed' := LB 48 4398046511103) rfl rfl rfl (ltn rfl) (by kernel_rfl) (by kernel_rfl) (by kernel_rfl) (by kernel_rfl) ⟨trivial, trivial, trivial⟩ (fun _ _ _ h => h) ?_
      refine VA.un (i := 42) (listed' := LB 48 8796093022207) rfl rfl rfl (ltn rfl) (by kernel_rfl) (by kernel_rfl) (by kernel_rfl) (by kernel_rfl) ⟨trivial, trivial, trivial⟩ (fun _ _ _ h => h) ?_
      refine VA.un (i := 43) (listed' := LB 48 17592186044415) rfl rfl rfl (ltn rfl) (by kernel_rfl) (by kernel_rfl) (by kernel_rfl) (by kernel_rfl) ⟨trivial, trivial, trivial⟩ (fun _ _ _ h => h) ?_
      refine VA.un (i := 44) (listed' := LB 48 35184372088831) rfl rfl rfl (ltn rfl) (by kernel_rfl) (by kernel_rfl) (by kernel_rfl) (by kernel_rfl) ⟨trivial, trivial, trivial⟩ (fun _ _ _ h => h) ?_
      refine VA.un (i := 45) (listed' := LB 48 70368744177663) rfl rfl rfl (ltn rfl) (by kernel_rfl) (by kernel_rfl) (by kernel_rfl) (by kernel_rfl) ⟨trivial, trivial, trivial⟩ (fun _ _ _ h => h) ?_
      refine VA.va (i := 46) (listed' := LB 48 140737488355327) rfl (op_pick rfl rfl (ltn rfl)) rfl (by kernel_rfl) (by kernel_rfl) (by kernel_rfl) (by kernel_rfl) ⟨trivial, trivial, trivial⟩ (fun _ _ _ h => h) ?_
      refine VA.va (i := 47) (listed' := LB 48 281474976710655) rfl (op_assign rfl (ltn rfl)) rfl (by kernel_rfl) (by kernel_rfl) (by kernel_rfl) (by kernel_rfl) ⟨trivial, trivial, trivial⟩ (fun _ _ _ h => h) ?_
      refine VA.done (by kernel_rfl) ?_
      exact VN.meet0  [] [] trivial ⟨rfl, ⟨rfl, trivial⟩, trivial, rfl, by decide, rfl, by decide⟩
    intro _
    refine VC.ret ?_
    cases h

end Go.Proofs.Ytlmpfogfgefngaa.POrderComes
