/- Written by a program of this repo: what the program's functions do, each as a Lean function, shown of the loaded code; or a statement's row over that; no condition of its own. -/
import Derived.Test.YtlmpfogfgefngaaGOrderEndsx5
namespace Go.Proofs.Ytlmpfogfgefngaa.GOrderEnds
open Go Go.RowKit Go.Proofs.YtlmpfogfgefngaaV Go.Proofs.Ytlmpfogfgefngaa.POrderParts
set_option linter.unusedVariables false
set_option linter.unusedSimpArgs false

set_option maxHeartbeats 4000000 in
set_option maxRecDepth 100000 in
theorem order_New.ok (k : Nat) (a0_0 : Int) (a0_1 : ByteArray) (a0_2 : Int) (a0_3 : Int) (a0_4 : Int) (a0_5 : Int) (a0_6 : Int) (a0_7 : Int) (a0_8 : Bool) (a0_9 : Int) (a0_10 : ByteArray) (a0_11 : Int) (a0_12 : Int) (a0_13 : Int) (a0_14 : Int) (a0_15 : Int) (a0_16 : Int) (a0_17 : Int) (a0_18 : Int) (a0_19 : Int) (a0_20 : Bool) (a1 : Int)  (r1 : Int) (r2 : ByteArray) (r3 : Int) (r4 : Int) (r5 : Int) (r6 : Int) (r7 : Int) (r8 : Int) (r9 : Bool) (r10 : Int) (r11 : ByteArray) (r12 : Int) (r13 : Int) (r14 : Int) (r15 : Int) (r16 : Int) (r17 : Int) (r18 : Int) (r19 : Int) (r20 : Int) (r21 : Bool) (r22 : Int) (h : order_New.f k a0_0 a0_1 a0_2 a0_3 a0_4 a0_5 a0_6 a0_7 a0_8 a0_9 a0_10 a0_11 a0_12 a0_13 a0_14 a0_15 a0_16 a0_17 a0_18 a0_19 a0_20 a1 = some (r1, r2, r3, r4, r5, r6, r7, r8, r9, r10, r11, r12, r13, r14, r15, r16, r17, r18, r19, r20, r21, r22)) :
    VCalls Try.prog 8 [.agg #[.int .i64 a0_0, .string a0_1, .int .i64 a0_2, .int .i64 a0_3, .int .i64 a0_4, .int .i64 a0_5, .int .i64 a0_6, .int .i64 a0_7, .bool a0_8, .int .i64 a0_9, .string a0_10, .int .i64 a0_11, .int .i64 a0_12, .int .i64 a0_13, .int .i64 a0_14, .int .i64 a0_15, .int .i64 a0_16, .int .i64 a0_17, .int .i64 a0_18, .int .i64 a0_19, .bool a0_20], .int .i64 a1] [] (fun v G own => v = .tuple #[.agg #[.int .i64 r1, .string r2, .int .i64 r3, .int .i64 r4, .int .i64 r5, .int .i64 r6, .int .i64 r7, .int .i64 r8, .bool r9, .int .i64 r10, .string r11, .int .i64 r12, .int .i64 r13, .int .i64 r14, .int .i64 r15, .int .i64 r16, .int .i64 r17, .int .i64 r18, .int .i64 r19, .int .i64 r20, .bool r21], .int .i64 r22] ∧ G = [] ∧ own = []) := by
  refine VCalls.intro Try.func8 rfl (len rfl) fun E hC => ?_
  unfold order_New.f at h
  refine VC.seq ?_
  refine VC.region ?_
  refine VL.sG (o_box rfl (.agg (.c rfl (.c rfl (.c rfl (.c rfl (.c rfl (.c rfl (.c rfl (.c rfl (.c rfl (.c rfl (.c rfl (.c rfl (.c rfl (.c rfl (.c rfl (.c rfl (.c rfl (.c rfl (.c rfl (.c rfl (.c rfl .nil)))))))))))))))))))))) (ltn rfl)) rfl ?_
  intro g2
  refine VL.sG (o_alloc (us := [.int .i64 0, .string (⟨#[]⟩ : ByteArray), .int .i64 0, .int .i64 0, .int .i64 0, .int .i64 0, .int .i64 0, .int .i64 0, .bool false, .int .i64 0, .string (⟨#[]⟩ : ByteArray), .int .i64 0, .int .i64 0, .int .i64 0, .int .i64 0, .int .i64 0, .int .i64 0, .int .i64 0, .int .i64 0, .int .i64 0, .bool false]) Z29 rfl (ltn rfl)) rfl ?_
  intro g3
  refine VL.va (op_assign rfl (ltn rfl)) rfl ?_
  refine VL.done ?_
  refine VN.then ?_
  refine VC.seq ?_
  refine VC.region ?_
  refine VL.va (op_fieldAddr FI29_4 rfl (add_at _ _ _) (ltn rfl)) rfl ?_
  refine VL.va (op_load 1 1 rfl rfl TI3 rfl (by decide) (ltn rfl)) rfl ?_
  refine VL.va (op_fieldAddr FI29_6 rfl (add_at _ _ _) (ltn rfl)) rfl ?_
  refine VL.va (op_load 1 1 rfl rfl TI3 rfl (by decide) (ltn rfl)) rfl ?_
  refine VL.va (op_move rfl (ltn rfl)) rfl ?_
  replace h := Option.bind_eq_some_iff.1 h
  obtain ⟨⟨t4, t5, t6, t7, t8⟩, hA9, h⟩ := h
  dsimp only at h
  refine VL.sC (o_call0 FO23 (pay_New.ok k a0_4 a0_6 a1 t4 t5 t6 t7 t8 hA9) rfl rfl (ltn rfl) (All_of .nil)) rfl ?_
  rintro _ _ _ ⟨rfl, rfl, rfl⟩
  refine VL.va (op_move rfl (ltn rfl)) rfl ?_
  refine VL.va (op_extract rfl rfl (ltn rfl)) rfl ?_
  refine VL.va (op_extract rfl rfl (ltn rfl)) rfl ?_
  refine VL.sG (o_alloc (us := [.int .i64 0, .int .i64 0, .int .i64 0, .int .i64 0]) Z25 rfl (ltn rfl)) rfl ?_
  intro g10
  refine VL.step1 (o_store 0 4 rfl rfl rfl TI25 (.agg (.c rfl (.c rfl (.c rfl (.c rfl .nil))))) rfl (len rfl)) rfl ?_
  refine VL.va (op_assign rfl (ltn rfl)) rfl ?_
  refine VL.done ?_
  refine VN.then ?_
  refine VC.seq ?_
  refine VC.seq ?_
  refine VC.region ?_
  refine VL.va (op_move rfl (ltn rfl)) rfl ?_
  refine VL.letter ((t8 != 0)) fun b13 hb13 => ?_
  refine VL.va (op_cmp rfl rfl (congrArg some hb13) (ltn rfl)) rfl ?_
  refine VL.done ?_
  refine VN.then ?_
  by_cases c14 : t8 = 0
  · rw [if_pos c14] at h
    obtain rfl : b13 = false := hb13.symm.trans (bne_eq_false_iff_eq.2 c14)
    refine VC.cond_f rfl ?_
    refine VC.skip ?_
    refine VN.then ?_
    refine VC.seq ?_
    refine VC.region ?_
    refine VL.va (op_fieldAddr FI29_0 rfl (add_at _ _ _) (ltn rfl)) rfl ?_
    refine VL.va (op_load 2 1 rfl rfl TI3 rfl (by decide) (ltn rfl)) rfl ?_
    refine VL.va (op_fieldAddr FI29_1 rfl (add_at _ _ _) (ltn rfl)) rfl ?_
    refine VL.va (op_load 2 1 rfl rfl TI9 rfl (by decide) (ltn rfl)) rfl ?_
    refine VL.va (op_fieldAddr FI29_2 rfl (add_at _ _ _) (ltn rfl)) rfl ?_
    refine VL.va (op_load 2 1 rfl rfl TI3 rfl (by decide) (ltn rfl)) rfl ?_
    refine VL.va (op_fieldAddr FI29_3 rfl (add_at _ _ _) (ltn rfl)) rfl ?_
    refine VL.va (op_load 2 1 rfl rfl TI3 rfl (by decide) (ltn rfl)) rfl ?_
    refine VL.va (op_fieldAddr FI29_4 rfl (add_at _ _ _) (ltn rfl)) rfl ?_
    refine VL.va (op_load 2 1 rfl rfl TI3 rfl (by decide) (ltn rfl)) rfl ?_
    refine VL.va (op_fieldAddr FI29_6 rfl (add_at _ _ _) (ltn rfl)) rfl ?_
    refine VL.va (op_load 2 1 rfl rfl TI3 rfl (by decide) (ltn rfl)) rfl ?_
    refine VL.va (op_fieldAddr FI29_7 rfl (add_at _ _ _) (ltn rfl)) rfl ?_
    refine VL.va (op_load 2 1 rfl rfl TI3 rfl (by decide) (ltn rfl)) rfl ?_
    refine VL.va (op_fieldAddr FI29_8 rfl (add_at _ _ _) (ltn rfl)) rfl ?_
    refine VL.va (op_load 2 1 rfl rfl TI4 rfl (by decide) (ltn rfl)) rfl ?_
    refine VL.va (op_load 0 4 rfl rfl TI25 rfl (fun h => absurd h (by decide)) (ltn rfl)) rfl ?_
    refine VL.va (op_build (vals := [(0, .int .i64 a0_0), (1, .string a0_1), (2, .int .i64 a0_2), (3, .int .i64 a0_3), (4, .int .i64 a0_4), (6, .int .i64 a0_6), (7, .int .i64 a0_7), (8, .bool a0_8), (9, .int .i64 1), (11, .agg #[.int .i64 t4, .int .i64 t5, .int .i64 t6, .int .i64 t7])]) (vcs := [(0, [.int .i64 a0_0]), (1, [.string a0_1]), (2, [.int .i64 a0_2]), (3, [.int .i64 a0_3]), (4, [.int .i64 a0_4]), (6, [.int .i64 a0_6]), (7, [.int .i64 a0_7]), (8, [.bool a0_8]), (9, [.int .i64 1]), (11, [.int .i64 t4, .int .i64 t5, .int .i64 t6, .int .i64 t7])]) (cells := [.int .i64 a0_0, .string a0_1, .int .i64 a0_2, .int .i64 a0_3, .int .i64 a0_4, .int .i64 0, .int .i64 a0_6, .int .i64 a0_7, .bool a0_8, .int .i64 1, .string (⟨#[]⟩ : ByteArray), .int .i64 0, .int .i64 0, .int .i64 0, .int .i64 t4, .int .i64 t5, .int .i64 t6, .int .i64 t7, .int .i64 0, .int .i64 0, .bool false]) SI29 rfl (.cons ⟨rfl, (.c rfl)⟩ (.cons ⟨rfl, (.c rfl)⟩ (.cons ⟨rfl, (.c rfl)⟩ (.cons ⟨rfl, (.c rfl)⟩ (.cons ⟨rfl, (.c rfl)⟩ (.cons ⟨rfl, (.c rfl)⟩ (.cons ⟨rfl, (.c rfl)⟩ (.cons ⟨rfl, (.c rfl)⟩ (.cons ⟨rfl, (.c rfl)⟩ (.cons ⟨rfl, (.agg (.c rfl (.c rfl (.c rfl (.c rfl .nil)))))⟩ .nil)))))))))) (by kernel_rfl) (ltn rfl)) rfl ?_
    refine VL.sG (o_alloc (us := [.int .i64 0, .string (⟨#[]⟩ : ByteArray), .int .i64 0, .int .i64 0, .int .i64 0, .int .i64 0, .int .i64 0, .int .i64 0, .bool false, .int .i64 0, .string (⟨#[]⟩ : ByteArray), .int .i64 0, .int .i64 0, .int .i64 0, .int .i64 0, .int .i64 0, .int .i64 0, .int .i64 0, .int .i64 0, .int .i64 0, .bool false]) Z29 rfl (ltn rfl)) rfl ?_
    intro g15
    refine VL.step1 (o_store 0 21 rfl rfl rfl TI29 (.agg (.c rfl (.c rfl (.c rfl (.c rfl (.c rfl (.c rfl (.c rfl (.c rfl (.c rfl (.c rfl (.c rfl (.c rfl (.c rfl (.c rfl (.c rfl (.c rfl (.c rfl (.c rfl (.c rfl (.c rfl (.c rfl .nil)))))))))))))))))))))) rfl (len rfl)) rfl ?_
    refine VL.done ?_
    refine VN.then ?_
    refine VC.seq ?_
    refine VC.seq ?_
    refine VC.region ?_
    refine VL.va (op_load 0 21 rfl rfl TI29 rfl (fun h => absurd h (by decide)) (ltn rfl)) rfl ?_
    replace h := Option.bind_eq_some_iff.1 h
    obtain ⟨t1818, hA1819, h⟩ := h
    refine VL.sC (o_call0 FO12 (order_Right.ok k a0_0 a0_1 a0_2 a0_3 a0_4 0 a0_6 a0_7 a0_8 1 (⟨#[]⟩ : ByteArray) 0 0 0 t4 t5 t6 t7 0 0 false t1818 hA1819) rfl rfl (ltn rfl) (All_of .nil)) rfl ?_
    rintro _ _ _ ⟨rfl, rfl, rfl⟩
    by_cases c1820 : t1818 = true
    · rw [if_pos c1820] at h
      obtain rfl := c1820
      refine VL.va (op_not rfl rfl (ltn rfl)) rfl ?_
      refine VL.done ?_
      refine VN.then ?_
      refine VC.cond_f rfl ?_
      refine VC.skip ?_
      refine VN.then ?_
      refine VC.seq ?_
      refine VC.region ?_
      refine VL.va (op_load 0 21 rfl rfl TI29 rfl (fun h => absurd h (by decide)) (ltn rfl)) rfl ?_
      refine VL.step1 (o_store 2 21 rfl rfl rfl TI29 (.agg (.c rfl (.c rfl (.c rfl (.c rfl (.c rfl (.c rfl (.c rfl (.c rfl (.c rfl (.c rfl (.c rfl (.c rfl (.c rfl (.c rfl (.c rfl (.c rfl (.c rfl (.c rfl (.c rfl (.c rfl (.c rfl .nil)))))))))))))))))))))) rfl (len rfl)) rfl ?_
      refine VL.va (op_assign rfl (ltn rfl)) rfl ?_
      refine VL.done ?_
      refine VN.then ?_
      refine VC.ret ?_
      simp only [Option.some.injEq, Prod.mk.injEq] at h
      obtain ⟨rfl, rfl, rfl, rfl, rfl, rfl, rfl, rfl, rfl, rfl, rfl, rfl, rfl, rfl, rfl, rfl, rfl, rfl, rfl, rfl, rfl, rfl⟩ := h
      exact VR.fn (rs := [.cell 4 29, .tmp 5]) [] [] [] rfl (.cell 2 rfl rfl TI29 (fun h => absurd h (by decide)) (.tmp rfl .nil)) ⟨rfl, rfl, rfl⟩ trivial rfl (by decide)
    · rw [if_neg c1820] at h
      obtain rfl := Bool.eq_false_iff.2 c1820
      refine VL.va (op_not rfl rfl (ltn rfl)) rfl ?_
      refine VL.done ?_
      refine VN.then ?_
      refine VC.cond_t rfl ?_
      refine VC.seq ?_
      refine VC.region ?_
      refine VL.va (op_build (vals := []) (vcs := []) (cells := [.int .i64 0, .string (⟨#[]⟩ : ByteArray), .int .i64 0, .int .i64 0, .int .i64 0, .int .i64 0, .int .i64 0, .int .i64 0, .bool false, .int .i64 0, .string (⟨#[]⟩ : ByteArray), .int .i64 0, .int .i64 0, .int .i64 0, .int .i64 0, .int .i64 0, .int .i64 0, .int .i64 0, .int .i64 0, .int .i64 0, .bool false]) SI29 rfl .nil (by kernel_rfl) (ltn rfl)) rfl ?_
      refine VL.step1 (o_store 2 21 rfl rfl rfl TI29 (.agg (.c rfl (.c rfl (.c rfl (.c rfl (.c rfl (.c rfl (.c rfl (.c rfl (.c rfl (.c rfl (.c rfl (.c rfl (.c rfl (.c rfl (.c rfl (.c rfl (.c rfl (.c rfl (.c rfl (.c rfl (.c rfl .nil)))))))))))))))))))))) rfl (len rfl)) rfl ?_
      refine VL.va (op_assign rfl (ltn rfl)) rfl ?_
      refine VL.done ?_
      refine VN.then ?_
      refine VC.ret ?_
      refine VR.then ?_
      simp only [Option.some.injEq, Prod.mk.injEq] at h
      obtain ⟨rfl, rfl, rfl, rfl, rfl, rfl, rfl, rfl, rfl, rfl, rfl, rfl, rfl, rfl, rfl, rfl, rfl, rfl, rfl, rfl, rfl, rfl⟩ := h
      exact VR.fn (rs := [.cell 4 29, .tmp 5]) [] [] [] rfl (.cell 2 rfl rfl TI29 (fun h => absurd h (by decide)) (.tmp rfl .nil)) ⟨rfl, rfl, rfl⟩ trivial rfl (by decide)
  · rw [if_neg c14] at h
    obtain rfl : b13 = true := hb13.symm.trans (bne_iff_ne.2 c14)
    refine VC.cond_t rfl ?_
    refine VC.seq ?_
    refine VC.region ?_
    refine VL.va (op_build (vals := []) (vcs := []) (cells := [.int .i64 0, .string (⟨#[]⟩ : ByteArray), .int .i64 0, .int .i64 0, .int .i64 0, .int .i64 0, .int .i64 0, .int .i64 0, .bool false, .int .i64 0, .string (⟨#[]⟩ : ByteArray), .int .i64 0, .int .i64 0, .int .i64 0, .int .i64 0, .int .i64 0, .int .i64 0, .int .i64 0, .int .i64 0, .int .i64 0, .bool false]) SI29 rfl .nil (by kernel_rfl) (ltn rfl)) rfl ?_
    refine VL.va (op_move rfl (ltn rfl)) rfl ?_
    refine VL.step1 (o_store 1 21 rfl rfl rfl TI29 (.agg (.c rfl (.c rfl (.c rfl (.c rfl (.c rfl (.c rfl (.c rfl (.c rfl (.c rfl (.c rfl (.c rfl (.c rfl (.c rfl (.c rfl (.c rfl (.c rfl (.c rfl (.c rfl (.c rfl (.c rfl (.c rfl .nil)))))))))))))))))))))) rfl (len rfl)) rfl ?_
    refine VL.va (op_assign rfl (ltn rfl)) rfl ?_
    refine VL.done ?_
    refine VN.then ?_
    refine VC.ret ?_
    refine VR.then ?_
    simp only [Option.some.injEq, Prod.mk.injEq] at h
    obtain ⟨rfl, rfl, rfl, rfl, rfl, rfl, rfl, rfl, rfl, rfl, rfl, rfl, rfl, rfl, rfl, rfl, rfl, rfl, rfl, rfl, rfl, rfl⟩ := h
    exact VR.fn (rs := [.cell 4 29, .tmp 5]) [] [] [] rfl (.cell 1 rfl rfl TI29 (fun h => absurd h (by decide)) (.tmp rfl .nil)) ⟨rfl, rfl, rfl⟩ trivial rfl (by decide)
set_option maxHeartbeats 4000000 in
set_option maxRecDepth 100000 in
theorem order_Lack.ok (k : Nat) (a0_0 : Int) (a0_1 : ByteArray) (a0_2 : Int) (a0_3 : Int) (a0_4 : Int) (a0_5 : Int) (a0_6 : Int) (a0_7 : Int) (a0_8 : Bool) (a0_9 : Int) (a0_10 : ByteArray) (a0_11 : Int) (a0_12 : Int) (a0_13 : Int) (a0_14 : Int) (a0_15 : Int) (a0_16 : Int) (a0_17 : Int) (a0_18 : Int) (a0_19 : Int) (a0_20 : Bool)  (r1 : Int) (h : order_Lack.f k a0_0 a0_1 a0_2 a0_3 a0_4 a0_5 a0_6 a0_7 a0_8 a0_9 a0_10 a0_11 a0_12 a0_13 a0_14 a0_15 a0_16 a0_17 a0_18 a0_19 a0_20 = some r1) :
    VCalls Try.prog 13 [.agg #[.int .i64 a0_0, .string a0_1, .int .i64 a0_2, .int .i64 a0_3, .int .i64 a0_4, .int .i64 a0_5, .int .i64 a0_6, .int .i64 a0_7, .bool a0_8, .int .i64 a0_9, .string a0_10, .int .i64 a0_11, .int .i64 a0_12, .int .i64 a0_13, .int .i64 a0_14, .int .i64 a0_15, .int .i64 a0_16, .int .i64 a0_17, .int .i64 a0_18, .int .i64 a0_19, .bool a0_20]] [] (fun v G own => v = .int .i64 r1 ∧ G = [] ∧ own = []) := by
  refine VCalls.intro Try.func13 rfl (len rfl) fun E hC => ?_
  unfold order_Lack.f at h
  refine VC.seq ?_
  refine VC.region ?_
  refine VL.sG (o_box rfl (.agg (.c rfl (.c rfl (.c rfl (.c rfl (.c rfl (.c rfl (.c rfl (.c rfl (.c rfl (.c rfl (.c rfl (.c rfl (.c rfl (.c rfl (.c rfl (.c rfl (.c rfl (.c rfl (.c rfl (.c rfl (.c rfl .nil)))))))))))))))))))))) (ltn rfl)) rfl ?_
  intro g1860
  refine VL.va (op_assign rfl (ltn rfl)) rfl ?_
  refine VL.done ?_
  refine VN.then ?_
  refine VC.seq ?_
  refine VC.seq ?_
  refine VC.region ?_
  refine VL.va (op_load 0 21 rfl rfl TI29 rfl (fun h => absurd h (by decide)) (ltn rfl)) rfl ?_
  replace h := Option.bind_eq_some_iff.1 h
  obtain ⟨t1870, hA1871, h⟩ := h
  refine VL.sC (o_call0 FO12 (order_Right.ok k a0_0 a0_1 a0_2 a0_3 a0_4 a0_5 a0_6 a0_7 a0_8 a0_9 a0_10 a0_11 a0_12 a0_13 a0_14 a0_15 a0_16 a0_17 a0_18 a0_19 a0_20 t1870 hA1871) rfl rfl (ltn rfl) (All_of .nil)) rfl ?_
  rintro _ _ _ ⟨rfl, rfl, rfl⟩
  by_cases c1872 : t1870 = true
  · rw [if_pos c1872] at h
    obtain rfl := c1872
    refine VL.va (op_not rfl rfl (ltn rfl)) rfl ?_
    refine VL.done ?_
    refine VN.then ?_
    refine VC.cond_f rfl ?_
    refine VC.skip ?_
    refine VN.then ?_
    refine VC.seq ?_
    refine VC.region ?_
    refine VL.va (op_fieldAddr FI29_4 rfl (add_at _ _ _) (ltn rfl)) rfl ?_
    refine VL.va (op_load 0 1 rfl rfl TI3 rfl (by decide) (ltn rfl)) rfl ?_
    refine VL.va (op_fieldAddr FI29_5 rfl (add_at _ _ _) (ltn rfl)) rfl ?_
    refine VL.va (op_load 0 1 rfl rfl TI3 rfl (by decide) (ltn rfl)) rfl ?_
    refine VL.va (op_ari64 rfl rfl rfl (ltn rfl)) rfl ?_
    refine VL.va (op_assign rfl (ltn rfl)) rfl ?_
    refine VL.done ?_
    refine VN.then ?_
    refine VC.ret ?_
    obtain rfl := Option.some.inj h
    exact VR.fn (rs := [.tmp 2]) [] [] [] rfl (.tmp rfl .nil) ⟨rfl, rfl, rfl⟩ trivial rfl (by decide)
  · rw [if_neg c1872] at h
    obtain rfl := Bool.eq_false_iff.2 c1872
    refine VL.va (op_not rfl rfl (ltn rfl)) rfl ?_
    refine VL.done ?_
    refine VN.then ?_
    refine VC.cond_t rfl ?_
    refine VC.seq ?_
    refine VC.region ?_
    refine VL.va (op_assign rfl (ltn rfl)) rfl ?_
    refine VL.done ?_
    refine VN.then ?_
    refine VC.ret ?_
    refine VR.then ?_
    obtain rfl := Option.some.inj h
    exact VR.fn (rs := [.tmp 2]) [] [] [] rfl (.tmp rfl .nil) ⟨rfl, rfl, rfl⟩ trivial rfl (by decide)
set_option maxHeartbeats 4000000 in
set_option maxRecDepth 100000 in
theorem pay_Good.ok (a0_0 : Int) (a0_1 : Int) (a0_2 : Int) (a0_3 : Int) (a1 : Int)  (r1 : Bool) (h : pay_Good.f a0_0 a0_1 a0_2 a0_3 a1 = some r1) :
    VCalls Try.prog 37 [.agg #[.int .i64 a0_0, .int .i64 a0_1, .int .i64 a0_2, .int .i64 a0_3], .int .i64 a1] [] (fun v G own => v = .bool r1 ∧ G = [] ∧ own = []) := by
  refine VCalls.intro Try.func37 rfl (len rfl) fun E hC => ?_
  unfold pay_Good.f at h
  refine VC.seq ?_
  refine VC.region ?_
  refine VL.sG (o_box rfl (.agg (.c rfl (.c rfl (.c rfl (.c rfl .nil))))) (ltn rfl)) rfl ?_
  intro g1877
  refine VL.va (op_assign rfl (ltn rfl)) rfl ?_
  refine VL.done ?_
  refine VN.then ?_
  refine VC.seq ?_
  refine VC.region ?_
  refine VL.va (op_load 0 4 rfl rfl TI25 rfl (fun h => absurd h (by decide)) (ltn rfl)) rfl ?_
  replace h := Option.bind_eq_some_iff.1 h
  obtain ⟨t1884, hA1885, h⟩ := h
  refine VL.sC (o_call0 FO33 (pay_Right.ok a0_0 a0_1 a0_2 a0_3 t1884 hA1885) rfl rfl (ltn rfl) (All_of .nil)) rfl ?_
  rintro _ _ _ ⟨rfl, rfl, rfl⟩
  refine VL.va (op_move rfl (ltn rfl)) rfl ?_
  by_cases c1886 : t1884 = true
  · rw [if_pos c1886] at h
    obtain rfl := c1886
    refine VL.va (op_fieldAddr FI25_3 rfl (add_at _ _ _) (ltn rfl)) rfl ?_
    refine VL.va (op_load 0 1 rfl rfl TI3 rfl (by decide) (ltn rfl)) rfl ?_
    refine VL.letter ((a0_3 == 1)) fun b1887 hb1887 => ?_
    refine VL.va (op_cmp rfl rfl (congrArg some hb1887) (ltn rfl)) rfl ?_
    refine VL.va (op_pick rfl rfl (ltn rfl)) rfl ?_
    refine VL.va (op_move rfl (ltn rfl)) rfl ?_
    by_cases c1888 : a0_3 = 1
    · rw [if_pos c1888] at h
      obtain rfl : b1887 = true := hb1887.symm.trans (beq_iff_eq.2 c1888)
      refine VL.va (op_fieldAddr FI25_2 rfl (add_at _ _ _) (ltn rfl)) rfl ?_
      refine VL.va (op_load 0 1 rfl rfl TI3 rfl (by decide) (ltn rfl)) rfl ?_
      refine VL.va (op_move rfl (ltn rfl)) rfl ?_
      refine VL.letter (decide (a0_2 > a1)) fun b1889 hb1889 => ?_
      refine VL.va (op_cmp rfl rfl (congrArg some hb1889) (ltn rfl)) rfl ?_
      refine VL.va (op_pick rfl rfl (ltn rfl)) rfl ?_
      refine VL.va (op_assign rfl (ltn rfl)) rfl ?_
      refine VL.done ?_
      refine VN.then ?_
      refine VC.ret ?_
      obtain rfl := Option.some.inj h
      subst hb1889
      exact VR.fn (rs := [.tmp 4]) [] [] [] rfl (.tmp rfl .nil) ⟨rfl, rfl, rfl⟩ trivial rfl (by decide)
    · rw [if_neg c1888] at h
      obtain rfl : b1887 = false := hb1887.symm.trans (beq_eq_false_iff_ne.2 c1888)
      refine VL.un rfl rfl (ltn rfl) ?_
      refine VL.un rfl rfl (ltn rfl) ?_
      refine VL.un rfl rfl (ltn rfl) ?_
      refine VL.un rfl rfl (ltn rfl) ?_
      refine VL.va (op_pick rfl rfl (ltn rfl)) rfl ?_
      refine VL.va (op_assign rfl (ltn rfl)) rfl ?_
      refine VL.done ?_
      refine VN.then ?_
      refine VC.ret ?_
      obtain rfl := Option.some.inj h
      exact VR.fn (rs := [.tmp 4]) [] [] [] rfl (.tmp rfl .nil) ⟨rfl, rfl, rfl⟩ trivial rfl (by decide)
  · rw [if_neg c1886] at h
    obtain rfl := Bool.eq_false_iff.2 c1886
    refine VL.un rfl rfl (ltn rfl) ?_
    refine VL.un rfl rfl (ltn rfl) ?_
    refine VL.un rfl rfl (ltn rfl) ?_
    refine VL.va (op_pick rfl rfl (ltn rfl)) rfl ?_
    refine VL.va (op_move rfl (ltn rfl)) rfl ?_
    refine VL.un rfl rfl (ltn rfl) ?_
    refine VL.un rfl rfl (ltn rfl) ?_
    refine VL.un rfl rfl (ltn rfl) ?_
    refine VL.un rfl rfl (ltn rfl) ?_
    refine VL.va (op_pick rfl rfl (ltn rfl)) rfl ?_
    refine VL.va (op_assign rfl (ltn rfl)) rfl ?_
    refine VL.done ?_
    refine VN.then ?_
    refine VC.ret ?_
    obtain rfl := Option.some.inj h
    exact VR.fn (rs := [.tmp 4]) [] [] [] rfl (.tmp rfl .nil) ⟨rfl, rfl, rfl⟩ trivial rfl (by decide)
set_option maxHeartbeats 4000000 in
set_option maxRecDepth 100000 in
theorem order_Wants.ok (k : Nat) (a0_0 : Int) (a0_1 : ByteArray) (a0_2 : Int) (a0_3 : Int) (a0_4 : Int) (a0_5 : Int) (a0_6 : Int) (a0_7 : Int) (a0_8 : Bool) (a0_9 : Int) (a0_10 : ByteArray) (a0_11 : Int) (a0_12 : Int) (a0_13 : Int) (a0_14 : Int) (a0_15 : Int) (a0_16 : Int) (a0_17 : Int) (a0_18 : Int) (a0_19 : Int) (a0_20 : Bool) (a1 : Int) (a2 : Int)  (r1 : Int) (h : order_Wants.f k a0_0 a0_1 a0_2 a0_3 a0_4 a0_5 a0_6 a0_7 a0_8 a0_9 a0_10 a0_11 a0_12 a0_13 a0_14 a0_15 a0_16 a0_17 a0_18 a0_19 a0_20 a1 a2 = some r1) :
    VCalls Try.prog 15 [.agg #[.int .i64 a0_0, .string a0_1, .int .i64 a0_2, .int .i64 a0_3, .int .i64 a0_4, .int .i64 a0_5, .int .i64 a0_6, .int .i64 a0_7, .bool a0_8, .int .i64 a0_9, .string a0_10, .int .i64 a0_11, .int .i64 a0_12, .int .i64 a0_13, .int .i64 a0_14, .int .i64 a0_15, .int .i64 a0_16, .int .i64 a0_17, .int .i64 a0_18, .int .i64 a0_19, .bool a0_20], .int .i64 a1, .int .i64 a2] [] (fun v G own => v = .int .i64 r1 ∧ G = [] ∧ own = []) := by
  refine VCalls.intro Try.func15 rfl (len rfl) fun E hC => ?_
  unfold order_Wants.f at h
  refine VC.seq ?_
  refine VC.region ?_
  refine VL.sG (o_box rfl (.agg (.c rfl (.c rfl (.c rfl (.c rfl (.c rfl (.c rfl (.c rfl (.c rfl (.c rfl (.c rfl (.c rfl (.c rfl (.c rfl (.c rfl (.c rfl (.c rfl (.c rfl (.c rfl (.c rfl (.c rfl (.c rfl .nil)))))))))))))))))))))) (ltn rfl)) rfl ?_
  intro g1859
  refine VL.va (op_assign rfl (ltn rfl)) rfl ?_
  refine VL.done ?_
  refine VN.then ?_
  refine VC.seq ?_
  refine VC.region ?_
  refine VL.va (op_load 0 21 rfl rfl TI29 rfl (fun h => absurd h (by decide)) (ltn rfl)) rfl ?_
  replace h := Option.bind_eq_some_iff.1 h
  obtain ⟨t1873, hA1874, h⟩ := h
  refine VL.sC (o_call0 FO13 (order_Lack.ok k a0_0 a0_1 a0_2 a0_3 a0_4 a0_5 a0_6 a0_7 a0_8 a0_9 a0_10 a0_11 a0_12 a0_13 a0_14 a0_15 a0_16 a0_17 a0_18 a0_19 a0_20 t1873 hA1874) rfl rfl (ltn rfl) (All_of .nil)) rfl ?_
  rintro _ _ _ ⟨rfl, rfl, rfl⟩
  refine VL.va (op_assign rfl (ltn rfl)) rfl ?_
  refine VL.done ?_
  refine VN.then ?_
  refine VC.seq ?_
  refine VC.block ?_
  refine VC.seq ?_
  refine VC.region ?_
  refine VL.va (op_fieldAddr FI29_9 rfl (add_at _ _ _) (ltn rfl)) rfl ?_
  refine VL.va (op_load 0 1 rfl rfl TI3 rfl (by decide) (ltn rfl)) rfl ?_
  refine VL.letter ((a0_9 != 1)) fun b1918 hb1918 => ?_
  refine VL.va (op_cmp rfl rfl (congrArg some hb1918) (ltn rfl)) rfl ?_
  refine VL.va (op_move rfl (ltn rfl)) rfl ?_
  by_cases c1919 : a0_9 = 1
  · rw [if_pos c1919] at h
    obtain rfl : b1918 = false := hb1918.symm.trans (bne_eq_false_iff_eq.2 c1919)
    refine VL.va (op_fieldAddr FI29_11 rfl (add_at _ _ _) (ltn rfl)) rfl ?_
    refine VL.va (op_load 0 4 rfl rfl TI25 rfl (fun h => absurd h (by decide)) (ltn rfl)) rfl ?_
    refine VL.va (op_move rfl (ltn rfl)) rfl ?_
    replace h := Option.bind_eq_some_iff.1 h
    obtain ⟨t1920, hA1921, h⟩ := h
    refine VL.sC (o_call0 FO37 (pay_Good.ok a0_14 a0_15 a0_16 a0_17 a2 t1920 hA1921) rfl rfl (ltn rfl) (All_of .nil)) rfl ?_
    rintro _ _ _ ⟨rfl, rfl, rfl⟩
    by_cases c1922 : t1920 = true
    · rw [if_pos c1922] at h
      obtain rfl := c1922
      refine VL.va (op_not rfl rfl (ltn rfl)) rfl ?_
      refine VL.va (op_pick rfl rfl (ltn rfl)) rfl ?_
      refine VL.va (op_move rfl (ltn rfl)) rfl ?_
      refine VL.va (op_move rfl (ltn rfl)) rfl ?_
      refine VL.letter (decide (a1 < 1)) fun b1923 hb1923 => ?_
      refine VL.va (op_cmp rfl rfl (congrArg some hb1923) (ltn rfl)) rfl ?_
      refine VL.va (op_pick rfl rfl (ltn rfl)) rfl ?_
      refine VL.va (op_move rfl (ltn rfl)) rfl ?_
      by_cases c1924 : a1 < 1
      · rw [if_pos c1924] at h
        obtain rfl : b1923 = true := hb1923.symm.trans (decide_eq_true c1924)
        refine VL.un rfl rfl (ltn rfl) ?_
        refine VL.un rfl rfl (ltn rfl) ?_
        refine VL.un rfl rfl (ltn rfl) ?_
        refine VL.un rfl rfl (ltn rfl) ?_
        refine VL.un rfl rfl (ltn rfl) ?_
        refine VL.un rfl rfl (ltn rfl) ?_
        refine VL.un rfl rfl (ltn rfl) ?_
        refine VL.un rfl rfl (ltn rfl) ?_
        refine VL.va (op_pick rfl rfl (ltn rfl)) rfl ?_
        refine VL.va (op_assign rfl (ltn rfl)) rfl ?_
        refine VL.done ?_
        refine VN.then ?_
        refine VC.cond_t rfl ?_
        refine VC.seq ?_
        refine VC.region ?_
        refine VL.va (op_assign rfl (ltn rfl)) rfl ?_
        refine VL.done ?_
        refine VN.then ?_
        refine VC.ret ?_
        refine VR.block ?_
        refine VR.then ?_
        obtain rfl := Option.some.inj h
        exact VR.fn (rs := [.tmp 6]) [] [] [] rfl (.tmp rfl .nil) ⟨rfl, rfl, rfl⟩ trivial rfl (by decide)
      · rw [if_neg c1924] at h
        obtain rfl : b1923 = false := hb1923.symm.trans (decide_eq_false c1924)
        refine VL.va (op_move rfl (ltn rfl)) rfl ?_
        refine VL.va (op_move rfl (ltn rfl)) rfl ?_
        refine VL.letter (decide (t1873 > a1)) fun b1925 hb1925 => ?_
        refine VL.va (op_cmp rfl rfl (congrArg some hb1925) (ltn rfl)) rfl ?_
        refine VL.va (op_move rfl (ltn rfl)) rfl ?_
        by_cases c1926 : t1873 > a1
        · rw [if_pos c1926] at h
          obtain rfl : b1925 = true := hb1925.symm.trans (decide_eq_true c1926)
          refine VL.va (op_fieldAddr FI29_8 rfl (add_at _ _ _) (ltn rfl)) rfl ?_
          refine VL.va (op_load 0 1 rfl rfl TI4 rfl (by decide) (ltn rfl)) rfl ?_
          by_cases c1927 : a0_8 = true
          · rw [if_pos c1927] at h
            obtain rfl := c1927
            refine VL.va (op_not rfl rfl (ltn rfl)) rfl ?_
            refine VL.va (op_pick rfl rfl (ltn rfl)) rfl ?_
            refine VL.va (op_pick rfl rfl (ltn rfl)) rfl ?_
            refine VL.va (op_assign rfl (ltn rfl)) rfl ?_
            refine VL.done ?_
            refine VN.then ?_
            refine VC.cond_f rfl ?_
            refine VC.skip ?_
            refine VN.block ?_
            refine VN.then ?_
            refine VC.seq ?_
            refine VC.region ?_
            refine VL.va (op_move rfl (ltn rfl)) rfl ?_
            refine VL.va (op_move rfl (ltn rfl)) rfl ?_
            refine VL.va (op_min rfl rfl (ltn rfl)) rfl ?_
            refine VL.va (op_assign rfl (ltn rfl)) rfl ?_
            refine VL.done ?_
            refine VN.then ?_
            refine VC.ret ?_
            obtain rfl := Option.some.inj h
            exact VR.fn (rs := [.tmp 6]) [] [] [] rfl (.tmp rfl .nil) ⟨rfl, rfl, rfl⟩ trivial rfl (by decide)
          · rw [if_neg c1927] at h
            obtain rfl := Bool.eq_false_iff.2 c1927
            refine VL.va (op_not rfl rfl (ltn rfl)) rfl ?_
            refine VL.va (op_pick rfl rfl (ltn rfl)) rfl ?_
            refine VL.va (op_pick rfl rfl (ltn rfl)) rfl ?_
            refine VL.va (op_assign rfl (ltn rfl)) rfl ?_
            refine VL.done ?_
            refine VN.then ?_
            refine VC.cond_t rfl ?_
            refine VC.seq ?_
            refine VC.region ?_
            refine VL.va (op_assign rfl (ltn rfl)) rfl ?_
            refine VL.done ?_
            refine VN.then ?_
            refine VC.ret ?_
            refine VR.block ?_
            refine VR.then ?_
            obtain rfl := Option.some.inj h
            exact VR.fn (rs := [.tmp 6]) [] [] [] rfl (.tmp rfl .nil) ⟨rfl, rfl, rfl⟩ trivial rfl (by decide)
        · rw [if_neg c1926] at h
          obtain rfl : b1925 = false := hb1925.symm.trans (decide_eq_false c1926)
          refine VL.un rfl rfl (ltn rfl) ?_
          refine VL.un rfl rfl (ltn rfl) ?_
          refine VL.un rfl rfl (ltn rfl) ?_
          refine VL.va (op_pick rfl rfl (ltn rfl)) rfl ?_
          refine VL.va (op_pick rfl rfl (ltn rfl)) rfl ?_
          refine VL.va (op_assign rfl (ltn rfl)) rfl ?_
          refine VL.done ?_
          refine VN.then ?_
          refine VC.cond_f rfl ?_
          refine VC.skip ?_
          refine VN.block ?_
          refine VN.then ?_
          refine VC.seq ?_
          refine VC.region ?_
          refine VL.va (op_move rfl (ltn rfl)) rfl ?_
          refine VL.va (op_move rfl (ltn rfl)) rfl ?_
          refine VL.va (op_min rfl rfl (ltn rfl)) rfl ?_
          refine VL.va (op_assign rfl (ltn rfl)) rfl ?_
          refine VL.done ?_
          refine VN.then ?_
          refine VC.ret ?_
          obtain rfl := Option.some.inj h
          exact VR.fn (rs := [.tmp 6]) [] [] [] rfl (.tmp rfl .nil) ⟨rfl, rfl, rfl⟩ trivial rfl (by decide)
    · rw [if_neg c1922] at h
      obtain rfl := Bool.eq_false_iff.2 c1922
      refine VL.va (op_not rfl rfl (ltn rfl)) rfl ?_
      refine VL.va (op_pick rfl rfl (ltn rfl)) rfl ?_
      refine VL.va (op_move rfl (ltn rfl)) rfl ?_
      refine VL.un rfl rfl (ltn rfl) ?_
      refine VL.un rfl rfl (ltn rfl) ?_
      refine VL.va (op_pick rfl rfl (ltn rfl)) rfl ?_
      refine VL.va (op_move rfl (ltn rfl)) rfl ?_
      refine VL.un rfl rfl (ltn rfl) ?_
      refine VL.un rfl rfl (ltn rfl) ?_
      refine VL.un rfl rfl (ltn rfl) ?_
      refine VL.un rfl rfl (ltn rfl) ?_
      refine VL.un rfl rfl (ltn rfl) ?_
      refine VL.un rfl rfl (ltn rfl) ?_
      refine VL.un rfl rfl (ltn rfl) ?_
      refine VL.un rfl rfl (ltn rfl) ?_
      refine VL.va (op_pick rfl rfl (ltn rfl)) rfl ?_
      refine VL.va (op_assign rfl (ltn rfl)) rfl ?_
      refine VL.done ?_
      refine VN.then ?_
      refine VC.cond_t rfl ?_
      refine VC.seq ?_
      refine VC.region ?_
      refine VL.va (op_assign rfl (ltn rfl)) rfl ?_
      refine VL.done ?_
      refine VN.then ?_
      refine VC.ret ?_
      refine VR.block ?_
      refine VR.then ?_
      obtain rfl := Option.some.inj h
      exact VR.fn (rs := [.tmp 6]) [] [] [] rfl (.tmp rfl .nil) ⟨rfl, rfl, rfl⟩ trivial rfl (by decide)
  · rw [if_neg c1919] at h
    obtain rfl : b1918 = true := hb1918.symm.trans (bne_iff_ne.2 c1919)
    refine VL.un rfl rfl (ltn rfl) ?_
    refine VL.un rfl rfl (ltn rfl) ?_
    refine VL.un rfl rfl (ltn rfl) ?_
    refine VL.un rfl rfl (ltn rfl) ?_
    refine VL.un rfl rfl (ltn rfl) ?_
    refine VL.va (op_pick rfl rfl (ltn rfl)) rfl ?_
    refine VL.va (op_move rfl (ltn rfl)) rfl ?_
    refine VL.un rfl rfl (ltn rfl) ?_
    refine VL.un rfl rfl (ltn rfl) ?_
    refine VL.va (op_pick rfl rfl (ltn rfl)) rfl ?_
    refine VL.va (op_move rfl (ltn rfl)) rfl ?_
    refine VL.un rfl rfl (ltn rfl) ?_
    refine VL.un rfl rfl (ltn rfl) ?_
    refine VL.un rfl rfl (ltn rfl) ?_
    refine VL.un rfl rfl (ltn rfl) ?_
    refine VL.un rfl rfl (ltn rfl) ?_
    refine VL.un rfl rfl (ltn rfl) ?_
    refine VL.un rfl rfl (ltn rfl) ?_
    refine VL.un rfl rfl (ltn rfl) ?_
    refine VL.va (op_pick rfl rfl (ltn rfl)) rfl ?_
    refine VL.va (op_assign rfl (ltn rfl)) rfl ?_
    refine VL.done ?_
    refine VN.then ?_
    refine VC.cond_t rfl ?_
    refine VC.seq ?_
    refine VC.region ?_
    refine VL.va (op_assign rfl (ltn rfl)) rfl ?_
    refine VL.done ?_
    refine VN.then ?_
    refine VC.ret ?_
    refine VR.block ?_
    refine VR.then ?_
    obtain rfl := Option.some.inj h
    exact VR.fn (rs := [.tmp 6]) [] [] [] rfl (.tmp rfl .nil) ⟨rfl, rfl, rfl⟩ trivial rfl (by decide)
set_option maxHeartbeats 4000000 in
set_option maxRecDepth 100000 in
theorem order_Send.ok (k : Nat) (a0_0 : Int) (a0_1 : ByteArray) (a0_2 : Int) (a0_3 : Int) (a0_4 : Int) (a0_5 : Int) (a0_6 : Int) (a0_7 : Int) (a0_8 : Bool) (a0_9 : Int) (a0_10 : ByteArray) (a0_11 : Int) (a0_12 : Int) (a0_13 : Int) (a0_14 : Int) (a0_15 : Int) (a0_16 : Int) (a0_17 : Int) (a0_18 : Int) (a0_19 : Int) (a0_20 : Bool) (a1_0 : ByteArray) (a1_1 : Int) (a1_2 : Int) (a1_3 : Int)  (r1 : Int) (r2 : ByteArray) (r3 : Int) (r4 : Int) (r5 : Int) (r6 : Int) (r7 : Int) (r8 : Int) (r9 : Bool) (r10 : Int) (r11 : ByteArray) (r12 : Int) (r13 : Int) (r14 : Int) (r15 : Int) (r16 : Int) (r17 : Int) (r18 : Int) (r19 : Int) (r20 : Int) (r21 : Bool) (r22 : Int) (h : order_Send.f k a0_0 a0_1 a0_2 a0_3 a0_4 a0_5 a0_6 a0_7 a0_8 a0_9 a0_10 a0_11 a0_12 a0_13 a0_14 a0_15 a0_16 a0_17 a0_18 a0_19 a0_20 a1_0 a1_1 a1_2 a1_3 = some (r1, r2, r3, r4, r5, r6, r7, r8, r9, r10, r11, r12, r13, r14, r15, r16, r17, r18, r19, r20, r21, r22)) :
    VCalls Try.prog 17 [.agg #[.int .i64 a0_0, .string a0_1, .int .i64 a0_2, .int .i64 a0_3, .int .i64 a0_4, .int .i64 a0_5, .int .i64 a0_6, .int .i64 a0_7, .bool a0_8, .int .i64 a0_9, .string a0_10, .int .i64 a0_11, .int .i64 a0_12, .int .i64 a0_13, .int .i64 a0_14, .int .i64 a0_15, .int .i64 a0_16, .int .i64 a0_17, .int .i64 a0_18, .int .i64 a0_19, .bool a0_20], .agg #[.string a1_0, .int .i64 a1_1, .int .i64 a1_2, .int .i64 a1_3]] [] (fun v G own => v = .tuple #[.agg #[.int .i64 r1, .string r2, .int .i64 r3, .int .i64 r4, .int .i64 r5, .int .i64 r6, .int .i64 r7, .int .i64 r8, .bool r9, .int .i64 r10, .string r11, .int .i64 r12, .int .i64 r13, .int .i64 r14, .int .i64 r15, .int .i64 r16, .int .i64 r17, .int .i64 r18, .int .i64 r19, .int .i64 r20, .bool r21], .int .i64 r22] ∧ G = [] ∧ own = []) := by
  refine VCalls.intro Try.func17 rfl (len rfl) fun E hC => ?_
  unfold order_Send.f at h
  refine VC.seq ?_
  refine VC.region ?_
  refine VL.sG (o_box rfl (.agg (.c rfl (.c rfl (.c rfl (.c rfl (.c rfl (.c rfl (.c rfl (.c rfl (.c rfl (.c rfl (.c rfl (.c rfl (.c rfl (.c rfl (.c rfl (.c rfl (.c rfl (.c rfl (.c rfl (.c rfl (.c rfl .nil)))))))))))))))))))))) (ltn rfl)) rfl ?_
  intro g1976
  refine VL.sG (o_box rfl (.agg (.c rfl (.c rfl (.c rfl (.c rfl .nil))))) (ltn rfl)) rfl ?_
  intro g1977
  refine VL.sG (o_alloc (us := [.int .i64 0, .string (⟨#[]⟩ : ByteArray), .int .i64 0, .int .i64 0, .int .i64 0, .int .i64 0, .int .i64 0, .int .i64 0, .bool false, .int .i64 0, .string (⟨#[]⟩ : ByteArray), .int .i64 0, .int .i64 0, .int .i64 0, .int .i64 0, .int .i64 0, .int .i64 0, .int .i64 0, .int .i64 0, .int .i64 0, .bool false]) Z29 rfl (ltn rfl)) rfl ?_
  intro g1978
  refine VL.va (op_assign rfl (ltn rfl)) rfl ?_
  refine VL.done ?_
  refine VN.then ?_
  refine VC.seq ?_
  refine VC.block ?_
  refine VC.seq ?_
  refine VC.region ?_
  refine VL.va (op_load 2 21 rfl rfl TI29 rfl (fun h => absurd h (by decide)) (ltn rfl)) rfl ?_
  replace h := Option.bind_eq_some_iff.1 h
  obtain ⟨t1990, hA1991, h⟩ := h
  refine VL.sC (o_call0 FO12 (order_Right.ok k a0_0 a0_1 a0_2 a0_3 a0_4 a0_5 a0_6 a0_7 a0_8 a0_9 a0_10 a0_11 a0_12 a0_13 a0_14 a0_15 a0_16 a0_17 a0_18 a0_19 a0_20 t1990 hA1991) rfl rfl (ltn rfl) (All_of .nil)) rfl ?_
  rintro _ _ _ ⟨rfl, rfl, rfl⟩
  by_cases c1992 : t1990 = true
  · rw [if_pos c1992] at h
    obtain rfl := c1992
    refine VL.va (op_not rfl rfl (ltn rfl)) rfl ?_
    refine VL.va (op_assign rfl (ltn rfl)) rfl ?_
    refine VL.done ?_
    refine VN.then ?_
    refine VC.cond_f rfl ?_
    refine VC.seq ?_
    refine VC.region ?_
    refine VL.va (op_fieldAddr FI29_9 rfl (add_at _ _ _) (ltn rfl)) rfl ?_
    refine VL.va (op_load 2 1 rfl rfl TI3 rfl (by decide) (ltn rfl)) rfl ?_
    refine VL.letter ((a0_9 != 1)) fun b1993 hb1993 => ?_
    refine VL.va (op_cmp rfl rfl (congrArg some hb1993) (ltn rfl)) rfl ?_
    refine VL.va (op_assign rfl (ltn rfl)) rfl ?_
    refine VL.done ?_
    refine VN.then ?_
    by_cases c1994 : a0_9 = 1
    · rw [if_pos c1994] at h
      obtain rfl : b1993 = false := hb1993.symm.trans (bne_eq_false_iff_eq.2 c1994)
      refine VC.cond_f rfl ?_
      refine VC.skip ?_
      refine VN.block ?_
      refine VN.then ?_
      refine VC.join0 (⟨24, [(2, .pointer (some ⟨g1976, 0, none⟩)), (4, .pointer (some ⟨g1978, 0, none⟩)), (5, .int .i64 0)], [], [(g1978, 29, [.int .i64 0, .string (⟨#[]⟩ : ByteArray), .int .i64 0, .int .i64 0, .int .i64 0, .int .i64 0, .int .i64 0, .int .i64 0, .bool false, .int .i64 0, .string (⟨#[]⟩ : ByteArray), .int .i64 0, .int .i64 0, .int .i64 0, .int .i64 0, .int .i64 0, .int .i64 0, .int .i64 0, .int .i64 0, .int .i64 0, .bool false]), (g1976, 29, [.int .i64 a0_0, .string a0_1, .int .i64 a0_2, .int .i64 a0_3, .int .i64 a0_4, .int .i64 a0_5, .int .i64 a0_6, .int .i64 a0_7, .bool a0_8, .int .i64 2, .string a1_0, .int .i64 a1_1, .int .i64 a1_2, .int .i64 a1_3, .int .i64 a0_14, .int .i64 a0_15, .int .i64 a0_16, .int .i64 a0_17, .int .i64 a0_18, .int .i64 a0_19, .bool a0_20])], []⟩) (True) ?_ ?_
      · refine VC.draw ⟨0, [], [], [(g1977, 23, [.string a1_0, .int .i64 a1_1, .int .i64 a1_2, .int .i64 a1_3])], []⟩ (by kernel_rfl) rfl (by kernel_rfl) (n := 5) (listed := LB 5 0) ?_
        refine VA.va (i := 0) (listed' := LB 5 1) rfl (op_load 0 4 rfl rfl TI23 rfl (fun h => absurd h (by decide)) (ltn rfl)) rfl (by kernel_rfl) (by kernel_rfl) (by kernel_rfl) (by kernel_rfl) ⟨trivial, ⟨⟨1, rfl⟩, trivial⟩, trivial⟩ (fun _ _ _ h => h) ?_
        refine VA.one1 (i := 1) (listed' := LB 5 3) (by kernel_rfl) rfl ((op_fieldAddr FI29_9 rfl (add_at _ _ _) (ltn rfl)).op1') rfl (by kernel_rfl) ⟨trivial, ⟨⟨1, rfl⟩, trivial⟩, trivial⟩ ?_
        refine VA.one1 (i := 2) (listed' := LB 5 7) (by kernel_rfl) rfl (o_store 2 1 rfl rfl rfl TI3 (.c rfl) rfl (len rfl)) rfl (by kernel_rfl) ⟨trivial, ⟨⟨1, rfl⟩, trivial⟩, trivial⟩ ?_
        refine VA.one1 (i := 3) (listed' := LB 5 15) (by kernel_rfl) rfl ((op_fieldAddr FI29_10 rfl (add_at _ _ _) (ltn rfl)).op1') rfl (by kernel_rfl) ⟨trivial, ⟨⟨1, rfl⟩, trivial⟩, trivial⟩ ?_
        refine VA.one1 (i := 4) (listed' := LB 5 31) (by kernel_rfl) rfl (o_store 2 4 rfl rfl rfl TI23 (.agg (.c rfl (.c rfl (.c rfl (.c rfl .nil))))) rfl (len rfl)) rfl (by kernel_rfl) ⟨trivial, ⟨⟨1, rfl⟩, trivial⟩, trivial⟩ ?_
        refine VA.done (by kernel_rfl) ?_
        exact VN.meet0  [0, 2] [] trivial ⟨rfl, ⟨rfl, rfl, rfl, trivial⟩, trivial, rfl, by decide, rfl, by decide⟩
      intro _
      refine VC.seq ?_
      refine VC.seq ?_
      refine VC.region ?_
      refine VL.va (op_load 1 21 rfl rfl TI29 rfl (fun h => absurd h (by decide)) (ltn rfl)) rfl ?_
      replace h := Option.bind_eq_some_iff.1 h
      obtain ⟨t2004, hA2005, h⟩ := h
      refine VL.sC (o_call0 FO12 (order_Right.ok k a0_0 a0_1 a0_2 a0_3 a0_4 a0_5 a0_6 a0_7 a0_8 2 a1_0 a1_1 a1_2 a1_3 a0_14 a0_15 a0_16 a0_17 a0_18 a0_19 a0_20 t2004 hA2005) rfl rfl (ltn rfl) (All_of .nil)) rfl ?_
      rintro _ _ _ ⟨rfl, rfl, rfl⟩
      by_cases c2006 : t2004 = true
      · rw [if_pos c2006] at h
        obtain rfl := c2006
        refine VL.va (op_not rfl rfl (ltn rfl)) rfl ?_
        refine VL.done ?_
        refine VN.then ?_
        refine VC.cond_f rfl ?_
        refine VC.skip ?_
        refine VN.then ?_
        refine VC.seq ?_
        refine VC.region ?_
        refine VL.va (op_load 1 21 rfl rfl TI29 rfl (fun h => absurd h (by decide)) (ltn rfl)) rfl ?_
        refine VL.step1 (o_store 0 21 rfl rfl rfl TI29 (.agg (.c rfl (.c rfl (.c rfl (.c rfl (.c rfl (.c rfl (.c rfl (.c rfl (.c rfl (.c rfl (.c rfl (.c rfl (.c rfl (.c rfl (.c rfl (.c rfl (.c rfl (.c rfl (.c rfl (.c rfl (.c rfl .nil)))))))))))))))))))))) rfl (len rfl)) rfl ?_
        refine VL.va (op_assign rfl (ltn rfl)) rfl ?_
        refine VL.done ?_
        refine VN.then ?_
        refine VC.ret ?_
        simp only [Option.some.injEq, Prod.mk.injEq] at h
        obtain ⟨rfl, rfl, rfl, rfl, rfl, rfl, rfl, rfl, rfl, rfl, rfl, rfl, rfl, rfl, rfl, rfl, rfl, rfl, rfl, rfl, rfl, rfl⟩ := h
        exact VR.fn (rs := [.cell 4 29, .tmp 5]) [] [] [] rfl (.cell 0 rfl rfl TI29 (fun h => absurd h (by decide)) (.tmp rfl .nil)) ⟨rfl, rfl, rfl⟩ trivial rfl (by decide)
      · rw [if_neg c2006] at h
        obtain rfl := Bool.eq_false_iff.2 c2006
        refine VL.va (op_not rfl rfl (ltn rfl)) rfl ?_
        refine VL.done ?_
        refine VN.then ?_
        refine VC.cond_t rfl ?_
        refine VC.seq ?_
        refine VC.region ?_
        refine VL.va (op_build (vals := []) (vcs := []) (cells := [.int .i64 0, .string (⟨#[]⟩ : ByteArray), .int .i64 0, .int .i64 0, .int .i64 0, .int .i64 0, .int .i64 0, .int .i64 0, .bool false, .int .i64 0, .string (⟨#[]⟩ : ByteArray), .int .i64 0, .int .i64 0, .int .i64 0, .int .i64 0, .int .i64 0, .int .i64 0, .int .i64 0, .int .i64 0, .int .i64 0, .bool false]) SI29 rfl .nil (by kernel_rfl) (ltn rfl)) rfl ?_
        refine VL.step1 (o_store 0 21 rfl rfl rfl TI29 (.agg (.c rfl (.c rfl (.c rfl (.c rfl (.c rfl (.c rfl (.c rfl (.c rfl (.c rfl (.c rfl (.c rfl (.c rfl (.c rfl (.c rfl (.c rfl (.c rfl (.c rfl (.c rfl (.c rfl (.c rfl (.c rfl .nil)))))))))))))))))))))) rfl (len rfl)) rfl ?_
        refine VL.va (op_assign rfl (ltn rfl)) rfl ?_
        refine VL.done ?_
        refine VN.then ?_
        refine VC.ret ?_
        refine VR.then ?_
        simp only [Option.some.injEq, Prod.mk.injEq] at h
        obtain ⟨rfl, rfl, rfl, rfl, rfl, rfl, rfl, rfl, rfl, rfl, rfl, rfl, rfl, rfl, rfl, rfl, rfl, rfl, rfl, rfl, rfl, rfl⟩ := h
        exact VR.fn (rs := [.cell 4 29, .tmp 5]) [] [] [] rfl (.cell 0 rfl rfl TI29 (fun h => absurd h (by decide)) (.tmp rfl .nil)) ⟨rfl, rfl, rfl⟩ trivial rfl (by decide)
    · rw [if_neg c1994] at h
      obtain rfl : b1993 = true := hb1993.symm.trans (bne_iff_ne.2 c1994)
      refine VC.cond_t rfl ?_
      refine VC.seq ?_
      refine VC.region ?_
      refine VL.va (op_build (vals := []) (vcs := []) (cells := [.int .i64 0, .string (⟨#[]⟩ : ByteArray), .int .i64 0, .int .i64 0, .int .i64 0, .int .i64 0, .int .i64 0, .int .i64 0, .bool false, .int .i64 0, .string (⟨#[]⟩ : ByteArray), .int .i64 0, .int .i64 0, .int .i64 0, .int .i64 0, .int .i64 0, .int .i64 0, .int .i64 0, .int .i64 0, .int .i64 0, .bool false]) SI29 rfl .nil (by kernel_rfl) (ltn rfl)) rfl ?_
      refine VL.step1 (o_store 0 21 rfl rfl rfl TI29 (.agg (.c rfl (.c rfl (.c rfl (.c rfl (.c rfl (.c rfl (.c rfl (.c rfl (.c rfl (.c rfl (.c rfl (.c rfl (.c rfl (.c rfl (.c rfl (.c rfl (.c rfl (.c rfl (.c rfl (.c rfl (.c rfl .nil)))))))))))))))))))))) rfl (len rfl)) rfl ?_
      refine VL.va (op_assign rfl (ltn rfl)) rfl ?_
      refine VL.done ?_
      refine VN.then ?_
      refine VC.ret ?_
      refine VR.block ?_
      refine VR.then ?_
      simp only [Option.some.injEq, Prod.mk.injEq] at h
      obtain ⟨rfl, rfl, rfl, rfl, rfl, rfl, rfl, rfl, rfl, rfl, rfl, rfl, rfl, rfl, rfl, rfl, rfl, rfl, rfl, rfl, rfl, rfl⟩ := h
      exact VR.fn (rs := [.cell 4 29, .tmp 5]) [] [] [] rfl (.cell 0 rfl rfl TI29 (fun h => absurd h (by decide)) (.tmp rfl .nil)) ⟨rfl, rfl, rfl⟩ trivial rfl (by decide)
  · rw [if_neg c1992] at h
    obtain rfl := Bool.eq_false_iff.2 c1992
    refine VL.va (op_not rfl rfl (ltn rfl)) rfl ?_
    refine VL.va (op_assign rfl (ltn rfl)) rfl ?_
    refine VL.done ?_
    refine VN.then ?_
    refine VC.cond_t rfl ?_
    refine VC.seq ?_
    refine VC.region ?_
    refine VL.va (op_build (vals := []) (vcs := []) (cells := [.int .i64 0, .string (⟨#[]⟩ : ByteArray), .int .i64 0, .int .i64 0, .int .i64 0, .int .i64 0, .int .i64 0, .int .i64 0, .bool false, .int .i64 0, .string (⟨#[]⟩ : ByteArray), .int .i64 0, .int .i64 0, .int .i64 0, .int .i64 0, .int .i64 0, .int .i64 0, .int .i64 0, .int .i64 0, .int .i64 0, .bool false]) SI29 rfl .nil (by kernel_rfl) (ltn rfl)) rfl ?_
    refine VL.step1 (o_store 0 21 rfl rfl rfl TI29 (.agg (.c rfl (.c rfl (.c rfl (.c rfl (.c rfl (.c rfl (.c rfl (.c rfl (.c rfl (.c rfl (.c rfl (.c rfl (.c rfl (.c rfl (.c rfl (.c rfl (.c rfl (.c rfl (.c rfl (.c rfl (.c rfl .nil)))))))))))))))))))))) rfl (len rfl)) rfl ?_
    refine VL.va (op_assign rfl (ltn rfl)) rfl ?_
    refine VL.done ?_
    refine VN.then ?_
    refine VC.ret ?_
    refine VR.block ?_
    refine VR.then ?_
    simp only [Option.some.injEq, Prod.mk.injEq] at h
    obtain ⟨rfl, rfl, rfl, rfl, rfl, rfl, rfl, rfl, rfl, rfl, rfl, rfl, rfl, rfl, rfl, rfl, rfl, rfl, rfl, rfl, rfl, rfl⟩ := h
    exact VR.fn (rs := [.cell 4 29, .tmp 5]) [] [] [] rfl (.cell 0 rfl rfl TI29 (fun h => absurd h (by decide)) (.tmp rfl .nil)) ⟨rfl, rfl, rfl⟩ trivial rfl (by decide)
set_option maxHeartbeats 4000000 in
set_option maxRecDepth 100000 in
theorem order_over.ok (a0_0 : Int) (a0_1 : ByteArray) (a0_2 : Int) (a0_3 : Int) (a0_4 : Int) (a0_5 : Int) (a0_6 : Int) (a0_7 : Int) (a0_8 : Bool) (a0_9 : Int) (a0_10 : ByteArray) (a0_11 : Int) (a0_12 : Int) (a0_13 : Int) (a0_14 : Int) (a0_15 : Int) (a0_16 : Int) (a0_17 : Int) (a0_18 : Int) (a0_19 : Int) (a0_20 : Bool) (a1 : Int)  (r1 : Int) (r2 : ByteArray) (r3 : Int) (r4 : Int) (r5 : Int) (r6 : Int) (r7 : Int) (r8 : Int) (r9 : Bool) (r10 : Int) (r11 : ByteArray) (r12 : Int) (r13 : Int) (r14 : Int) (r15 : Int) (r16 : Int) (r17 : Int) (r18 : Int) (r19 : Int) (r20 : Int) (r21 : Bool) (h : order_over.f a0_0 a0_1 a0_2 a0_3 a0_4 a0_5 a0_6 a0_7 a0_8 a0_9 a0_10 a0_11 a0_12 a0_13 a0_14 a0_15 a0_16 a0_17 a0_18 a0_19 a0_20 a1 = some (r1, r2, r3, r4, r5, r6, r7, r8, r9, r10, r11, r12, r13, r14, r15, r16, r17, r18, r19, r20, r21)) :
    VCalls Try.prog 39 [.agg #[.int .i64 a0_0, .string a0_1, .int .i64 a0_2, .int .i64 a0_3, .int .i64 a0_4, .int .i64 a0_5, .int .i64 a0_6, .int .i64 a0_7, .bool a0_8, .int .i64 a0_9, .string a0_10, .int .i64 a0_11, .int .i64 a0_12, .int .i64 a0_13, .int .i64 a0_14, .int .i64 a0_15, .int .i64 a0_16, .int .i64 a0_17, .int .i64 a0_18, .int .i64 a0_19, .bool a0_20], .int .i64 a1] [] (fun v G own => v = .agg #[.int .i64 r1, .string r2, .int .i64 r3, .int .i64 r4, .int .i64 r5, .int .i64 r6, .int .i64 r7, .int .i64 r8, .bool r9, .int .i64 r10, .string r11, .int .i64 r12, .int .i64 r13, .int .i64 r14, .int .i64 r15, .int .i64 r16, .int .i64 r17, .int .i64 r18, .int .i64 r19, .int .i64 r20, .bool r21] ∧ G = [] ∧ own = []) := by
  refine VCalls.intro Try.func39 rfl (len rfl) fun E hC => ?_
  unfold order_over.f at h
  refine VC.seq ?_
  refine VC.region ?_
  refine VL.sG (o_box rfl (.agg (.c rfl (.c rfl (.c rfl (.c rfl (.c rfl (.c rfl (.c rfl (.c rfl (.c rfl (.c rfl (.c rfl (.c rfl (.c rfl (.c rfl (.c rfl (.c rfl (.c rfl (.c rfl (.c rfl (.c rfl (.c rfl .nil)))))))))))))))))))))) (ltn rfl)) rfl ?_
  intro g2123
  refine VL.sG (o_alloc (us := [.int .i64 0, .string (⟨#[]⟩ : ByteArray), .int .i64 0, .int .i64 0, .int .i64 0, .int .i64 0, .int .i64 0, .int .i64 0, .bool false, .int .i64 0, .string (⟨#[]⟩ : ByteArray), .int .i64 0, .int .i64 0, .int .i64 0, .int .i64 0, .int .i64 0, .int .i64 0, .int .i64 0, .int .i64 0, .int .i64 0, .bool false]) Z29 rfl (ltn rfl)) rfl ?_
  intro g2124
  refine VL.done ?_
  refine VN.then ?_
  refine VC.seq ?_
  refine VC.region ?_
  refine VL.va (op_move rfl (ltn rfl)) rfl ?_
  refine VL.va (op_fieldAddr FI29_9 rfl (add_at _ _ _) (ltn rfl)) rfl ?_
  refine VL.step1 (o_store 1 1 rfl rfl rfl TI3 (.c rfl) rfl (len rfl)) rfl ?_
  refine VL.va (op_fieldAddr FI29_13 rfl (add_at _ _ _) (ltn rfl)) rfl ?_
  refine VL.step1 (o_store 1 1 rfl rfl rfl TI4 (.c rfl) rfl (len rfl)) rfl ?_
  refine VL.done ?_
  refine VN.then ?_
  refine VC.seq ?_
  refine VC.region ?_
  refine VL.va (op_fieldAddr FI29_11 rfl (add_at _ _ _) (ltn rfl)) rfl ?_
  refine VL.va (op_load 1 4 rfl rfl TI25 rfl (fun h => absurd h (by decide)) (ltn rfl)) rfl ?_
  replace h := Option.bind_eq_some_iff.1 h
  obtain ⟨⟨t2125, t2126, t2127, t2128, t2129⟩, hA2130, h⟩ := h
  dsimp only at h
  refine VL.sC (o_call0 FO58 (pay_Close.ok a0_14 a0_15 a0_16 a0_17 t2125 t2126 t2127 t2128 t2129 hA2130) rfl rfl (ltn rfl) (All_of .nil)) rfl ?_
  rintro _ _ _ ⟨rfl, rfl, rfl⟩
  refine VL.va (op_move rfl (ltn rfl)) rfl ?_
  refine VL.va (op_extract rfl rfl (ltn rfl)) rfl ?_
  refine VL.va (op_extract rfl rfl (ltn rfl)) rfl ?_
  refine VL.va (op_fieldAddr FI29_11 rfl (add_at _ _ _) (ltn rfl)) rfl ?_
  refine VL.step1 (o_store 1 4 rfl rfl rfl TI25 (.agg (.c rfl (.c rfl (.c rfl (.c rfl .nil))))) rfl (len rfl)) rfl ?_
  refine VL.done ?_
  refine VN.then ?_
  refine VC.seq ?_
  refine VC.region ?_
  refine VL.va (op_load 1 21 rfl rfl TI29 rfl (fun h => absurd h (by decide)) (ltn rfl)) rfl ?_
  refine VL.step1 (o_store 0 21 rfl rfl rfl TI29 (.agg (.c rfl (.c rfl (.c rfl (.c rfl (.c rfl (.c rfl (.c rfl (.c rfl (.c rfl (.c rfl (.c rfl (.c rfl (.c rfl (.c rfl (.c rfl (.c rfl (.c rfl (.c rfl (.c rfl (.c rfl (.c rfl .nil)))))))))))))))))))))) rfl (len rfl)) rfl ?_
  refine VL.done ?_
  refine VN.then ?_
  refine VC.ret ?_
  simp only [Option.some.injEq, Prod.mk.injEq] at h
  obtain ⟨rfl, rfl, rfl, rfl, rfl, rfl, rfl, rfl, rfl, rfl, rfl, rfl, rfl, rfl, rfl, rfl, rfl, rfl, rfl, rfl, rfl⟩ := h
  exact VR.fn (rs := [.cell 4 29]) [] [] [] rfl (.cell 0 rfl rfl TI29 (fun h => absurd h (by decide)) .nil) ⟨rfl, rfl, rfl⟩ trivial rfl (by decide)

end Go.Proofs.Ytlmpfogfgefngaa.GOrderEnds
