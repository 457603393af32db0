/- Written by a program of this repo: what the program's functions do, each as a Lean function, shown of the loaded code; or a statement's row over that; no condition of its own. -/
import Derived.Test.YtlmpfogfgefngaaPOrderComesx0
namespace Go.Proofs.Ytlmpfogfgefngaa.POrderComes
open Go Go.RowKit Go.Proofs.YtlmpfogfgefngaaV
set_option linter.unusedVariables false
set_option linter.unusedSimpArgs false

set_option maxHeartbeats 4000000 in
set_option maxRecDepth 100000 in
theorem tarrylaw13_cut.ok (a0_0 : Int) (a0_1 : ByteArray) (a0_2 : Int) (a0_3 : Int) (a0_4 : Int) (a0_5 : Int) (a0_6 : Int) (a0_7 : Int) (a0_8 : Bool) (a0_9 : Int) (a0_10 : ByteArray) (a0_11 : Int) (a0_12 : Int) (a0_13 : Int) (a0_14 : Int) (a0_15 : Int) (a0_16 : Int) (a0_17 : Int) (a0_18 : Int) (a0_19 : Int) (a0_20 : Bool)  (r1 : Int) (r2 : ByteArray) (r3 : Int) (r4 : Int) (r5 : Int) (r6 : Int) (r7 : Int) (r8 : Int) (r9 : Bool) (r10 : Int) (r11 : ByteArray) (r12 : Int) (r13 : Int) (r14 : Int) (r15 : Int) (r16 : Int) (r17 : Int) (r18 : Int) (r19 : Int) (r20 : Int) (r21 : Bool) (h : tarrylaw13_cut.f a0_0 a0_1 a0_2 a0_3 a0_4 a0_5 a0_6 a0_7 a0_8 a0_9 a0_10 a0_11 a0_12 a0_13 a0_14 a0_15 a0_16 a0_17 a0_18 a0_19 a0_20 = some (r1, r2, r3, r4, r5, r6, r7, r8, r9, r10, r11, r12, r13, r14, r15, r16, r17, r18, r19, r20, r21)) :
    VCalls Try.prog 7 [.agg #[.int .i64 a0_0, .string a0_1, .int .i64 a0_2, .int .i64 a0_3, .int .i64 a0_4, .int .i64 a0_5, .int .i64 a0_6, .int .i64 a0_7, .bool a0_8, .int .i64 a0_9, .string a0_10, .int .i64 a0_11, .int .i64 a0_12, .int .i64 a0_13, .int .i64 a0_14, .int .i64 a0_15, .int .i64 a0_16, .int .i64 a0_17, .int .i64 a0_18, .int .i64 a0_19, .bool a0_20]] [] (fun v G own => v = .agg #[.int .i64 r1, .string r2, .int .i64 r3, .int .i64 r4, .int .i64 r5, .int .i64 r6, .int .i64 r7, .int .i64 r8, .bool r9, .int .i64 r10, .string r11, .int .i64 r12, .int .i64 r13, .int .i64 r14, .int .i64 r15, .int .i64 r16, .int .i64 r17, .int .i64 r18, .int .i64 r19, .int .i64 r20, .bool r21] ∧ G = [] ∧ own = []) := by
  refine VCalls.intro Try.func7 rfl (len rfl) fun E hC => ?_
  unfold tarrylaw13_cut.f at h
  refine VC.seq ?_
  refine VC.region ?_
  refine VL.sG (o_box rfl (.agg (.c rfl (.c rfl (.c rfl (.c rfl (.c rfl (.c rfl (.c rfl (.c rfl (.c rfl (.c rfl (.c rfl (.c rfl (.c rfl (.c rfl (.c rfl (.c rfl (.c rfl (.c rfl (.c rfl (.c rfl (.c rfl .nil)))))))))))))))))))))) (ltn rfl)) rfl ?_
  intro g2
  refine VL.sG (o_alloc (us := [.int .i64 0, .string (⟨#[]⟩ : ByteArray), .int .i64 0, .int .i64 0, .int .i64 0, .int .i64 0, .int .i64 0, .int .i64 0, .bool false, .int .i64 0, .string (⟨#[]⟩ : ByteArray), .int .i64 0, .int .i64 0, .int .i64 0, .int .i64 0, .int .i64 0, .int .i64 0, .int .i64 0, .int .i64 0, .int .i64 0, .bool false]) Z29 rfl (ltn rfl)) rfl ?_
  intro g3
  refine VL.done ?_
  refine VN.then ?_
  by_cases c4 : 0 ≤ mn (a0_1.size : Int) 18
  · rw [if_pos c4] at h
    by_cases c5 : (mn (a0_1.size : Int) 18) ≤ (a0_1.size : Int)
    · rw [if_pos c5] at h
      by_cases c6 : 0 ≤ mn (a0_10.size : Int) 18
      · rw [if_pos c6] at h
        by_cases c7 : (mn (a0_10.size : Int) 18) ≤ (a0_10.size : Int)
        · rw [if_pos c7] at h
          refine VC.join0 (⟨23, [(1, .pointer (some ⟨g2, 0, none⟩)), (2, .pointer (some ⟨g3, 0, none⟩))], [], [(g3, 29, [.int .i64 0, .string (⟨#[]⟩ : ByteArray), .int .i64 0, .int .i64 0, .int .i64 0, .int .i64 0, .int .i64 0, .int .i64 0, .bool false, .int .i64 0, .string (⟨#[]⟩ : ByteArray), .int .i64 0, .int .i64 0, .int .i64 0, .int .i64 0, .int .i64 0, .int .i64 0, .int .i64 0, .int .i64 0, .int .i64 0, .bool false]), (g2, 29, [.int .i64 a0_0, .string (a0_1.extract 0 ((mn (a0_1.size : Int) 18).toNat)), .int .i64 a0_2, .int .i64 a0_3, .int .i64 a0_4, .int .i64 a0_5, .int .i64 a0_6, .int .i64 a0_7, .bool a0_8, .int .i64 a0_9, .string (a0_10.extract 0 ((mn (a0_10.size : Int) 18).toNat)), .int .i64 a0_11, .int .i64 a0_12, .int .i64 a0_13, .int .i64 a0_14, .int .i64 a0_15, .int .i64 a0_16, .int .i64 a0_17, .int .i64 a0_18, .int .i64 a0_19, .bool a0_20])], []⟩) (True) ?_ ?_
          · refine VC.drawB ⟨0, [], [], [], []⟩ [17, 20] ⟨0, [], [], [(g2, 29, [.int .i64 a0_0, .string a0_1, .int .i64 a0_2, .int .i64 a0_3, .int .i64 a0_4, .int .i64 a0_5, .int .i64 a0_6, .int .i64 a0_7, .bool a0_8, .int .i64 a0_9, .string a0_10, .int .i64 a0_11, .int .i64 a0_12, .int .i64 a0_13, .int .i64 a0_14, .int .i64 a0_15, .int .i64 a0_16, .int .i64 a0_17, .int .i64 a0_18, .int .i64 a0_19, .bool a0_20])], []⟩ (by kernel_rfl) rfl (by kernel_rfl) (n := 21) (listed := LB 21 0) ?_
            refine VB.va (i := 0) (listed' := LB 21 1) rfl (op_fieldAddr FI29_1 rfl (add_at _ _ _) (ltn rfl)) rfl (by kernel_rfl) (by kernel_rfl) (by kernel_rfl) (by kernel_rfl) (by decide) (PartP.on ⟨trivial, trivial, trivial⟩ ⟨trivial, ⟨⟨1, rfl⟩, trivial⟩, trivial⟩) (fun _ _ _ h => h) ?_
            refine VB.vb (i := 1) (listed' := LB 21 3) rfl (op_load 0 1 rfl rfl TI9 rfl (by decide) (ltn rfl)) rfl (by kernel_rfl) (by kernel_rfl) (by kernel_rfl) (by kernel_rfl) (by kernel_rfl) (by kernel_rfl) (PartP.on ⟨trivial, trivial, trivial⟩ ⟨trivial, ⟨⟨1, rfl⟩, trivial⟩, trivial⟩) (fun _ _ _ h => h) ?_
            refine VB.va (i := 2) (listed' := LB 21 7) rfl (op_fieldAddr FI29_1 rfl (add_at _ _ _) (ltn rfl)) rfl (by kernel_rfl) (by kernel_rfl) (by kernel_rfl) (by kernel_rfl) (by decide) (PartP.on ⟨trivial, trivial, trivial⟩ ⟨trivial, ⟨⟨1, rfl⟩, trivial⟩, trivial⟩) (fun _ _ _ h => h) ?_
            refine VB.vb (i := 3) (listed' := LB 21 15) rfl (op_load 0 1 rfl rfl TI9 rfl (by decide) (ltn rfl)) rfl (by kernel_rfl) (by kernel_rfl) (by kernel_rfl) (by kernel_rfl) (by kernel_rfl) (by kernel_rfl) (PartP.on ⟨trivial, trivial, trivial⟩ ⟨trivial, ⟨⟨1, rfl⟩, trivial⟩, trivial⟩) (fun _ _ _ h => h) ?_
            refine VB.va (i := 4) (listed' := LB 21 31) rfl (op_lens Try.underlying9 rfl (ltn rfl)) rfl (by kernel_rfl) (by kernel_rfl) (by kernel_rfl) (by kernel_rfl) (by decide) (PartP.on ⟨trivial, trivial, trivial⟩ ⟨trivial, ⟨⟨1, rfl⟩, trivial⟩, trivial⟩) (fun _ _ _ h => h) ?_
            refine VB.va (i := 5) (listed' := LB 21 63) rfl (op_min rfl rfl (ltn rfl)) rfl (by kernel_rfl) (by kernel_rfl) (by kernel_rfl) (by kernel_rfl) (by decide) (PartP.on ⟨trivial, trivial, trivial⟩ ⟨trivial, ⟨⟨1, rfl⟩, trivial⟩, trivial⟩) (fun _ _ _ h => h) ?_
            refine VB.va (i := 6) (listed' := LB 21 127) rfl (op_sliceS 0 ((mn (a0_1.size : Int) 18).toNat) Try.underlying9 rfl ⟨rfl, ⟨_, _, rfl, c4, rfl⟩, by omega, by omega⟩ rfl (ltn rfl)) rfl (by kernel_rfl) (by kernel_rfl) (by kernel_rfl) (by kernel_rfl) (by decide) (PartP.on ⟨trivial, trivial, trivial⟩ ⟨trivial, ⟨⟨1, rfl⟩, trivial⟩, trivial⟩) (fun _ _ _ h => h) ?_
            refine VB.va (i := 7) (listed' := LB 21 255) rfl (op_fieldAddr FI29_10 rfl (add_at _ _ _) (ltn rfl)) rfl (by kernel_rfl) (by kernel_rfl) (by kernel_rfl) (by kernel_rfl) (by decide) (PartP.on ⟨trivial, trivial, trivial⟩ ⟨trivial, ⟨⟨1, rfl⟩, trivial⟩, trivial⟩) (fun _ _ _ h => h) ?_
            refine VB.va (i := 8) (listed' := LB 21 511) rfl (op_fieldAddr FI23_0 rfl (add_at _ _ _) (ltn rfl)) rfl (by kernel_rfl) (by kernel_rfl) (by kernel_rfl) (by kernel_rfl) (by decide) (PartP.on ⟨trivial, trivial, trivial⟩ ⟨trivial, ⟨⟨1, rfl⟩, trivial⟩, trivial⟩) (fun _ _ _ h => h) ?_
            refine VB.vb (i := 9) (listed' := LB 21 1023) rfl (op_load 0 1 rfl rfl TI9 rfl (by decide) (ltn rfl)) rfl (by kernel_rfl) (by kernel_rfl) (by kernel_rfl) (by kernel_rfl) (by kernel_rfl) (by kernel_rfl) (PartP.on ⟨trivial, trivial, trivial⟩ ⟨trivial, ⟨⟨1, rfl⟩, trivial⟩, trivial⟩) (fun _ _ _ h => h) ?_
            refine VB.va (i := 10) (listed' := LB 21 2047) rfl (op_fieldAddr FI29_10 rfl (add_at _ _ _) (ltn rfl)) rfl (by kernel_rfl) (by kernel_rfl) (by kernel_rfl) (by kernel_rfl) (by decide) (PartP.on ⟨trivial, trivial, trivial⟩ ⟨trivial, ⟨⟨1, rfl⟩, trivial⟩, trivial⟩) (fun _ _ _ h => h) ?_
            refine VB.va (i := 11) (listed' := LB 21 4095) rfl (op_fieldAddr FI23_0 rfl (add_at _ _ _) (ltn rfl)) rfl (by kernel_rfl) (by kernel_rfl) (by kernel_rfl) (by kernel_rfl) (by decide) (PartP.on ⟨trivial, trivial, trivial⟩ ⟨trivial, ⟨⟨1, rfl⟩, trivial⟩, trivial⟩) (fun _ _ _ h => h) ?_
            refine VB.vb (i := 12) (listed' := LB 21 8191) rfl (op_load 0 1 rfl rfl TI9 rfl (by decide) (ltn rfl)) rfl (by kernel_rfl) (by kernel_rfl) (by kernel_rfl) (by kernel_rfl) (by kernel_rfl) (by kernel_rfl) (PartP.on ⟨trivial, trivial, trivial⟩ ⟨trivial, ⟨⟨1, rfl⟩, trivial⟩, trivial⟩) (fun _ _ _ h => h) ?_
            refine VB.va (i := 13) (listed' := LB 21 16383) rfl (op_lens Try.underlying9 rfl (ltn rfl)) rfl (by kernel_rfl) (by kernel_rfl) (by kernel_rfl) (by kernel_rfl) (by decide) (PartP.on ⟨trivial, trivial, trivial⟩ ⟨trivial, ⟨⟨1, rfl⟩, trivial⟩, trivial⟩) (fun _ _ _ h => h) ?_
            refine VB.va (i := 14) (listed' := LB 21 32767) rfl (op_min rfl rfl (ltn rfl)) rfl (by kernel_rfl) (by kernel_rfl) (by kernel_rfl) (by kernel_rfl) (by decide) (PartP.on ⟨trivial, trivial, trivial⟩ ⟨trivial, ⟨⟨1, rfl⟩, trivial⟩, trivial⟩) (fun _ _ _ h => h) ?_
            refine VB.va (i := 15) (listed' := LB 21 65535) rfl (op_sliceS 0 ((mn (a0_10.size : Int) 18).toNat) Try.underlying9 rfl ⟨rfl, ⟨_, _, rfl, c6, rfl⟩, by omega, by omega⟩ rfl (ltn rfl)) rfl (by kernel_rfl) (by kernel_rfl) (by kernel_rfl) (by kernel_rfl) (by decide) (PartP.on ⟨trivial, trivial, trivial⟩ ⟨trivial, ⟨⟨1, rfl⟩, trivial⟩, trivial⟩) (fun _ _ _ h => h) ?_
            refine VB.va (i := 16) (listed' := LB 21 131071) rfl (op_fieldAddr FI29_1 rfl (add_at _ _ _) (ltn rfl)) rfl (by kernel_rfl) (by kernel_rfl) (by kernel_rfl) (by kernel_rfl) (by decide) (PartP.on ⟨trivial, trivial, trivial⟩ ⟨trivial, ⟨⟨1, rfl⟩, trivial⟩, trivial⟩) (fun _ _ _ h => h) ?_
            refine VB.one1 (i := 17) (listed' := LB 21 262143) (by kernel_rfl) rfl (o_store 1 1 rfl rfl rfl TI9 (.c rfl) rfl (len rfl)) rfl (by kernel_rfl) (PartP.off (by kernel_rfl) ⟨trivial, trivial, trivial⟩) ?_
            refine VB.va (i := 18) (listed' := LB 21 524287) rfl (op_fieldAddr FI29_10 rfl (add_at _ _ _) (ltn rfl)) rfl (by kernel_rfl) (by kernel_rfl) (by kernel_rfl) (by kernel_rfl) (by decide) (PartP.off (by kernel_rfl) ⟨trivial, trivial, trivial⟩) (fun _ _ _ h => h) ?_
            refine VB.va (i := 19) (listed' := LB 21 1048575) rfl (op_fieldAddr FI23_0 rfl (add_at _ _ _) (ltn rfl)) rfl (by kernel_rfl) (by kernel_rfl) (by kernel_rfl) (by kernel_rfl) (by decide) (PartP.off (by kernel_rfl) ⟨trivial, trivial, trivial⟩) (fun _ _ _ h => h) ?_
            refine VB.one1 (i := 20) (listed' := LB 21 2097151) (by kernel_rfl) rfl (o_store 1 1 rfl rfl rfl TI9 (.c rfl) rfl (len rfl)) rfl (by kernel_rfl) (PartP.off (by kernel_rfl) ⟨trivial, trivial, trivial⟩) ?_
            refine VB.done (by kernel_rfl) ?_
            exact VN.meet0  [0, 1] [] trivial ⟨rfl, ⟨rfl, rfl, trivial⟩, trivial, rfl, by decide, rfl, by decide⟩
          intro _
          refine VC.seq ?_
          refine VC.region ?_
          refine VL.va (op_load 1 21 rfl rfl TI29 rfl (fun h => absurd h (by decide)) (ltn rfl)) rfl ?_
          refine VL.step1 (o_store 0 21 rfl rfl rfl TI29 (.agg (.c rfl (.c rfl (.c rfl (.c rfl (.c rfl (.c rfl (.c rfl (.c rfl (.c rfl (.c rfl (.c rfl (.c rfl (.c rfl (.c rfl (.c rfl (.c rfl (.c rfl (.c rfl (.c rfl (.c rfl (.c rfl .nil)))))))))))))))))))))) rfl (len rfl)) rfl ?_
          refine VL.done ?_
          refine VN.then ?_
          refine VC.ret ?_
          simp only [Option.some.injEq, Prod.mk.injEq] at h
          obtain ⟨rfl, rfl, rfl, rfl, rfl, rfl, rfl, rfl, rfl, rfl, rfl, rfl, rfl, rfl, rfl, rfl, rfl, rfl, rfl, rfl, rfl⟩ := h
          exact VR.fn (rs := [.cell 2 29]) [] [] [] rfl (.cell 0 rfl rfl TI29 (fun h => absurd h (by decide)) .nil) ⟨rfl, rfl, rfl⟩ trivial rfl (by decide)
        · rw [if_neg c7] at h; cases h
      · rw [if_neg c6] at h; cases h
    · rw [if_neg c5] at h; cases h
  · rw [if_neg c4] at h; cases h
set_option maxHeartbeats 4000000 in
set_option maxRecDepth 100000 in
theorem pay_units.ok (a0 : Int)  (r1 : Bool) (h : pay_units.f a0 = some r1) :
    VCalls Try.prog 40 [.int .i64 a0] [] (fun v G own => v = .bool r1 ∧ G = [] ∧ own = []) := by
  refine VCalls.intro Try.func40 rfl (len rfl) fun E hC => ?_
  unfold pay_units.f at h
  refine VC.seq ?_
  refine VC.region ?_
  refine VL.va (op_assign rfl (ltn rfl)) rfl ?_
  refine VL.done ?_
  refine VN.then ?_
  refine VC.seq ?_
  refine VC.region ?_
  refine VL.va (op_move rfl (ltn rfl)) rfl ?_
  refine VL.letter (decide (a0 ≥ 1)) fun b36 hb36 => ?_
  refine VL.va (op_cmp rfl rfl (congrArg some hb36) (ltn rfl)) rfl ?_
  refine VL.va (op_move rfl (ltn rfl)) rfl ?_
  by_cases c37 : a0 ≥ 1
  · rw [if_pos c37] at h
    obtain rfl : b36 = true := hb36.symm.trans (decide_eq_true c37)
    refine VL.va (op_move rfl (ltn rfl)) rfl ?_
    refine VL.letter (decide (a0 ≤ 1073741824)) fun b38 hb38 => ?_
    refine VL.va (op_cmp rfl rfl (congrArg some hb38) (ltn rfl)) rfl ?_
    refine VL.va (op_pick rfl rfl (ltn rfl)) rfl ?_
    refine VL.va (op_assign rfl (ltn rfl)) rfl ?_
    refine VL.done ?_
    refine VN.then ?_
    refine VC.ret ?_
    obtain rfl := Option.some.inj h
    subst hb38
    exact VR.fn (rs := [.tmp 2]) [] [] [] rfl (.tmp rfl .nil) ⟨rfl, rfl, rfl⟩ trivial rfl (by decide)
  · rw [if_neg c37] at h
    obtain rfl : b36 = false := hb36.symm.trans (decide_eq_false c37)
    refine VL.un rfl rfl (ltn rfl) ?_
    refine VL.un rfl rfl (ltn rfl) ?_
    refine VL.va (op_pick rfl rfl (ltn rfl)) rfl ?_
    refine VL.va (op_assign rfl (ltn rfl)) rfl ?_
    refine VL.done ?_
    refine VN.then ?_
    refine VC.ret ?_
    obtain rfl := Option.some.inj h
    exact VR.fn (rs := [.tmp 2]) [] [] [] rfl (.tmp rfl .nil) ⟨rfl, rfl, rfl⟩ trivial rfl (by decide)
set_option maxHeartbeats 4000000 in
set_option maxRecDepth 100000 in
theorem pay_time.ok (a0 : Int)  (r1 : Bool) (h : pay_time.f a0 = some r1) :
    VCalls Try.prog 41 [.int .i64 a0] [] (fun v G own => v = .bool r1 ∧ G = [] ∧ own = []) := by
  refine VCalls.intro Try.func41 rfl (len rfl) fun E hC => ?_
  unfold pay_time.f at h
  refine VC.seq ?_
  refine VC.region ?_
  refine VL.va (op_assign rfl (ltn rfl)) rfl ?_
  refine VL.done ?_
  refine VN.then ?_
  refine VC.seq ?_
  refine VC.region ?_
  refine VL.va (op_move rfl (ltn rfl)) rfl ?_
  refine VL.letter (decide (a0 ≥ 0)) fun b48 hb48 => ?_
  refine VL.va (op_cmp rfl rfl (congrArg some hb48) (ltn rfl)) rfl ?_
  refine VL.va (op_move rfl (ltn rfl)) rfl ?_
  by_cases c49 : a0 ≥ 0
  · rw [if_pos c49] at h
    obtain rfl : b48 = true := hb48.symm.trans (decide_eq_true c49)
    refine VL.va (op_move rfl (ltn rfl)) rfl ?_
    refine VL.letter (decide (a0 ≤ 1099511627776)) fun b50 hb50 => ?_
    refine VL.va (op_cmp rfl rfl (congrArg some hb50) (ltn rfl)) rfl ?_
    refine VL.va (op_pick rfl rfl (ltn rfl)) rfl ?_
    refine VL.va (op_assign rfl (ltn rfl)) rfl ?_
    refine VL.done ?_
    refine VN.then ?_
    refine VC.ret ?_
    obtain rfl := Option.some.inj h
    subst hb50
    exact VR.fn (rs := [.tmp 2]) [] [] [] rfl (.tmp rfl .nil) ⟨rfl, rfl, rfl⟩ trivial rfl (by decide)
  · rw [if_neg c49] at h
    obtain rfl : b48 = false := hb48.symm.trans (decide_eq_false c49)
    refine VL.un rfl rfl (ltn rfl) ?_
    refine VL.un rfl rfl (ltn rfl) ?_
    refine VL.va (op_pick rfl rfl (ltn rfl)) rfl ?_
    refine VL.va (op_assign rfl (ltn rfl)) rfl ?_
    refine VL.done ?_
    refine VN.then ?_
    refine VC.ret ?_
    obtain rfl := Option.some.inj h
    exact VR.fn (rs := [.tmp 2]) [] [] [] rfl (.tmp rfl .nil) ⟨rfl, rfl, rfl⟩ trivial rfl (by decide)
set_option maxHeartbeats 4000000 in
set_option maxRecDepth 100000 in
theorem pack_may.ok (a0 : Int)  (r1 : Bool) (h : pack_may.f a0 = some r1) :
    VCalls Try.prog 59 [.int .i64 a0] [] (fun v G own => v = .bool r1 ∧ G = [] ∧ own = []) := by
  refine VCalls.intro Try.func59 rfl (len rfl) fun E hC => ?_
  unfold pack_may.f at h
  refine VC.seq ?_
  refine VC.region ?_
  refine VL.va (op_assign rfl (ltn rfl)) rfl ?_
  refine VL.done ?_
  refine VN.then ?_
  refine VC.seq ?_
  refine VC.region ?_
  refine VL.va (op_move rfl (ltn rfl)) rfl ?_
  refine VL.letter (decide (a0 ≥ (-1152921504606846976))) fun b84 hb84 => ?_
  refine VL.va (op_cmp rfl rfl (congrArg some hb84) (ltn rfl)) rfl ?_
  refine VL.va (op_move rfl (ltn rfl)) rfl ?_
  by_cases c85 : a0 ≥ (-1152921504606846976)
  · rw [if_pos c85] at h
    obtain rfl : b84 = true := hb84.symm.trans (decide_eq_true c85)
    refine VL.va (op_move rfl (ltn rfl)) rfl ?_
    refine VL.letter (decide (a0 ≤ 1152921504606846976)) fun b86 hb86 => ?_
    refine VL.va (op_cmp rfl rfl (congrArg some hb86) (ltn rfl)) rfl ?_
    refine VL.va (op_pick rfl rfl (ltn rfl)) rfl ?_
    refine VL.va (op_assign rfl (ltn rfl)) rfl ?_
    refine VL.done ?_
    refine VN.then ?_
    refine VC.ret ?_
    obtain rfl := Option.some.inj h
    subst hb86
    exact VR.fn (rs := [.tmp 2]) [] [] [] rfl (.tmp rfl .nil) ⟨rfl, rfl, rfl⟩ trivial rfl (by decide)
  · rw [if_neg c85] at h
    obtain rfl : b84 = false := hb84.symm.trans (decide_eq_false c85)
    refine VL.un rfl rfl (ltn rfl) ?_
    refine VL.un rfl rfl (ltn rfl) ?_
    refine VL.va (op_pick rfl rfl (ltn rfl)) rfl ?_
    refine VL.va (op_assign rfl (ltn rfl)) rfl ?_
    refine VL.done ?_
    refine VN.then ?_
    refine VC.ret ?_
    obtain rfl := Option.some.inj h
    exact VR.fn (rs := [.tmp 2]) [] [] [] rfl (.tmp rfl .nil) ⟨rfl, rfl, rfl⟩ trivial rfl (by decide)
set_option maxHeartbeats 4000000 in
set_option maxRecDepth 100000 in
theorem pack_size.ok (a0 : Int)  (r1 : Int) (h : pack_size.f a0 = some r1) :
    VCalls Try.prog 61 [.int .i64 a0] [] (fun v G own => v = .int .u64 r1 ∧ G = [] ∧ own = []) := by
  refine VCalls.intro Try.func61 rfl (len rfl) fun E hC => ?_
  unfold pack_size.f at h
  refine VC.seq ?_
  refine VC.region ?_
  refine VL.va (op_assign rfl (ltn rfl)) rfl ?_
  refine VL.done ?_
  refine VN.then ?_
  refine VC.seq ?_
  refine VC.seq ?_
  refine VC.region ?_
  refine VL.va (op_move rfl (ltn rfl)) rfl ?_
  refine VL.letter (decide (a0 < 0)) fun b113 hb113 => ?_
  refine VL.va (op_cmp rfl rfl (congrArg some hb113) (ltn rfl)) rfl ?_
  refine VL.done ?_
  refine VN.then ?_
  by_cases c114 : a0 < 0
  · rw [if_pos c114] at h
    obtain rfl : b113 = true := hb113.symm.trans (decide_eq_true c114)
    refine VC.cond_t rfl ?_
    refine VC.region ?_
    refine VL.va (op_move rfl (ltn rfl)) rfl ?_
    refine VL.va (op_neg rfl (i64w _) (ltn rfl)) rfl ?_
    refine VL.va (op_assign rfl (ltn rfl)) rfl ?_
    refine VL.done ?_
    refine VN.then ?_
    refine VC.seq ?_
    refine VC.region ?_
    refine VL.va (op_move rfl (ltn rfl)) rfl ?_
    refine VL.va (op_conv Try.underlying3 Try.underlying87 rfl rfl (ltn rfl)) rfl ?_
    refine VL.va (op_assign rfl (ltn rfl)) rfl ?_
    refine VL.done ?_
    refine VN.then ?_
    refine VC.ret ?_
    obtain rfl := Option.some.inj h
    exact VR.fn (rs := [.tmp 2]) [] [] [] rfl (.tmp rfl .nil) ⟨rfl, rfl, rfl⟩ trivial rfl (by decide)
  · rw [if_neg c114] at h
    obtain rfl : b113 = false := hb113.symm.trans (decide_eq_false c114)
    refine VC.cond_f rfl ?_
    refine VC.skip ?_
    refine VN.then ?_
    refine VC.seq ?_
    refine VC.region ?_
    refine VL.va (op_move rfl (ltn rfl)) rfl ?_
    refine VL.va (op_conv Try.underlying3 Try.underlying87 rfl rfl (ltn rfl)) rfl ?_
    refine VL.va (op_assign rfl (ltn rfl)) rfl ?_
    refine VL.done ?_
    refine VN.then ?_
    refine VC.ret ?_
    obtain rfl := Option.some.inj h
    exact VR.fn (rs := [.tmp 2]) [] [] [] rfl (.tmp rfl .nil) ⟨rfl, rfl, rfl⟩ trivial rfl (by decide)
set_option maxHeartbeats 4000000 in
set_option maxRecDepth 100000 in
theorem math_bits_Mul64.ok (a0 : Int) (a1 : Int)  (r1 : Int) (r2 : Int) (h : math_bits_Mul64.f a0 a1 = some (r1, r2)) :
    VCalls Try.prog 60 [.int .u64 a0, .int .u64 a1] [] (fun v G own => v = .tuple #[.int .u64 r1, .int .u64 r2] ∧ G = [] ∧ own = []) := by
  refine VCalls.intro Try.func60 rfl (len rfl) fun E hC => ?_
  unfold math_bits_Mul64.f at h
  refine VC.seq ?_
  refine VC.region ?_
  refine VL.va (op_assign rfl (ltn rfl)) rfl ?_
  refine VL.va (op_assign rfl (ltn rfl)) rfl ?_
  refine VL.done ?_
  refine VN.then ?_
  refine VC.seq ?_
  refine VC.region ?_
  refine VL.va (op_move rfl (ltn rfl)) rfl ?_
  refine VL.va (op_bits rfl rfl rfl (ltn rfl)) rfl ?_
  refine VL.va (op_assign rfl (ltn rfl)) rfl ?_
  refine VL.done ?_
  refine VN.then ?_
  refine VC.seq ?_
  refine VC.region ?_
  refine VL.va (op_move rfl (ltn rfl)) rfl ?_
  refine VL.va (op_shr rfl rfl (by decide) rfl (ltn rfl)) rfl ?_
  refine VL.va (op_assign rfl (ltn rfl)) rfl ?_
  refine VL.done ?_
  refine VN.then ?_
  refine VC.seq ?_
  refine VC.region ?_
  refine VL.va (op_move rfl (ltn rfl)) rfl ?_
  refine VL.va (op_bits rfl rfl rfl (ltn rfl)) rfl ?_
  refine VL.va (op_assign rfl (ltn rfl)) rfl ?_
  refine VL.done ?_
  refine VN.then ?_
  refine VC.seq ?_
  refine VC.region ?_
  refine VL.va (op_move rfl (ltn rfl)) rfl ?_
  refine VL.va (op_shr rfl rfl (by decide) rfl (ltn rfl)) rfl ?_
  refine VL.va (op_assign rfl (ltn rfl)) rfl ?_
  refine VL.done ?_
  refine VN.then ?_
  refine VC.seq ?_
  refine VC.region ?_
  refine VL.va (op_move rfl (ltn rfl)) rfl ?_
  refine VL.va (op_move rfl (ltn rfl)) rfl ?_
  refine VL.va (op_ari rfl rfl rfl (ltn rfl)) rfl ?_
  refine VL.va (op_assign rfl (ltn rfl)) rfl ?_
  refine VL.done ?_
  refine VN.then ?_
  refine VC.seq ?_
  refine VC.region ?_
  refine VL.va (op_move rfl (ltn rfl)) rfl ?_
  refine VL.va (op_move rfl (ltn rfl)) rfl ?_
  refine VL.va (op_ari rfl rfl rfl (ltn rfl)) rfl ?_
  refine VL.va (op_move rfl (ltn rfl)) rfl ?_
  refine VL.va (op_shr rfl rfl (by decide) rfl (ltn rfl)) rfl ?_
  refine VL.va (op_ari rfl rfl rfl (ltn rfl)) rfl ?_
  refine VL.va (op_assign rfl (ltn rfl)) rfl ?_
  refine VL.done ?_
  refine VN.then ?_
  refine VC.seq ?_
  refine VC.region ?_
  refine VL.va (op_move rfl (ltn rfl)) rfl ?_
  refine VL.va (op_bits rfl rfl rfl (ltn rfl)) rfl ?_
  refine VL.va (op_assign rfl (ltn rfl)) rfl ?_
  refine VL.done ?_
  refine VN.then ?_
  refine VC.seq ?_
  refine VC.region ?_
  refine VL.va (op_move rfl (ltn rfl)) rfl ?_
  refine VL.va (op_shr rfl rfl (by decide) rfl (ltn rfl)) rfl ?_
  refine VL.va (op_assign rfl (ltn rfl)) rfl ?_
  refine VL.done ?_
  refine VN.then ?_
  refine VC.seq ?_
  refine VC.region ?_
  refine VL.va (op_move rfl (ltn rfl)) rfl ?_
  refine VL.va (op_move rfl (ltn rfl)) rfl ?_
  refine VL.va (op_move rfl (ltn rfl)) rfl ?_
  refine VL.va (op_ari rfl rfl rfl (ltn rfl)) rfl ?_
  refine VL.va (op_ari rfl rfl rfl (ltn rfl)) rfl ?_
  refine VL.va (op_assign rfl (ltn rfl)) rfl ?_
  refine VL.done ?_
  refine VN.then ?_
  refine VC.seq ?_
  refine VC.region ?_
  refine VL.va (op_move rfl (ltn rfl)) rfl ?_
  refine VL.va (op_move rfl (ltn rfl)) rfl ?_
  refine VL.va (op_ari rfl rfl rfl (ltn rfl)) rfl ?_
  refine VL.va (op_move rfl (ltn rfl)) rfl ?_
  refine VL.va (op_ari rfl rfl rfl (ltn rfl)) rfl ?_
  refine VL.va (op_move rfl (ltn rfl)) rfl ?_
  refine VL.va (op_shr rfl rfl (by decide) rfl (ltn rfl)) rfl ?_
  refine VL.va (op_ari rfl rfl rfl (ltn rfl)) rfl ?_
  refine VL.va (op_assign rfl (ltn rfl)) rfl ?_
  refine VL.done ?_
  refine VN.then ?_
  refine VC.seq ?_
  refine VC.region ?_
  refine VL.va (op_move rfl (ltn rfl)) rfl ?_
  refine VL.va (op_move rfl (ltn rfl)) rfl ?_
  refine VL.va (op_ari rfl rfl rfl (ltn rfl)) rfl ?_
  refine VL.va (op_assign rfl (ltn rfl)) rfl ?_
  refine VL.done ?_
  refine VN.then ?_
  refine VC.ret ?_
  simp only [Option.some.injEq, Prod.mk.injEq] at h
  obtain ⟨rfl, rfl⟩ := h
  exact VR.fn (rs := [.tmp 4, .tmp 5]) [] [] [] rfl (.tmp rfl (.tmp rfl .nil)) ⟨rfl, rfl, rfl⟩ trivial rfl (by decide)
set_option maxHeartbeats 4000000 in
set_option maxRecDepth 100000 in
theorem pack_Times.ok (a0 : Int) (a1 : Int)  (r1 : Int) (r2 : Int) (h : pack_Times.f a0 a1 = some (r1, r2)) :
    VCalls Try.prog 42 [.int .i64 a0, .int .i64 a1] [] (fun v G own => v = .tuple #[.int .i64 r1, .int .i64 r2] ∧ G = [] ∧ own = []) := by
  refine VCalls.intro Try.func42 rfl (len rfl) fun E hC => ?_
  unfold pack_Times.f at h
  refine VC.seq ?_
  refine VC.region ?_
  refine VL.va (op_assign rfl (ltn rfl)) rfl ?_
  refine VL.va (op_assign rfl (ltn rfl)) rfl ?_
  refine VL.done ?_
  refine VN.then ?_
  refine VC.seq ?_
  refine VC.seq ?_
  refine VC.region ?_
  refine VL.va (op_move rfl (ltn rfl)) rfl ?_
  replace h := Option.bind_eq_some_iff.1 h
  obtain ⟨t105, hA106, h⟩ := h
  refine VL.sC (o_call0 FO59 (pack_may.ok a0 t105 hA106) rfl rfl (ltn rfl) (All_of .nil)) rfl ?_
  rintro _ _ _ ⟨rfl, rfl, rfl⟩
  by_cases c107 : t105 = true
  · rw [if_pos c107] at h
    obtain rfl := c107
    refine VL.va (op_not rfl rfl (ltn rfl)) rfl ?_
    refine VL.va (op_move rfl (ltn rfl)) rfl ?_
    refine VL.va (op_move rfl (ltn rfl)) rfl ?_
    replace h := Option.bind_eq_some_iff.1 h
    obtain ⟨t108, hA109, h⟩ := h
    refine VL.sC (o_call0 FO59 (pack_may.ok a1 t108 hA109) rfl rfl (ltn rfl) (All_of .nil)) rfl ?_
    rintro _ _ _ ⟨rfl, rfl, rfl⟩
    by_cases c110 : t108 = true
    · rw [if_pos c110] at h
      obtain rfl := c110
      refine VL.va (op_not rfl rfl (ltn rfl)) rfl ?_
      refine VL.va (op_pick rfl rfl (ltn rfl)) rfl ?_
      refine VL.done ?_
      refine VN.then ?_
      refine VC.cond_f rfl ?_
      refine VC.skip ?_
      refine VN.then ?_
      refine VC.seq ?_
      refine VC.seq ?_
      refine VC.region ?_
      refine VL.va (op_move rfl (ltn rfl)) rfl ?_
      replace h := Option.bind_eq_some_iff.1 h
      obtain ⟨t129, hA130, h⟩ := h
      refine VL.sC (o_call0 FO61 (pack_size.ok a0 t129 hA130) rfl rfl (ltn rfl) (All_of .nil)) rfl ?_
      rintro _ _ _ ⟨rfl, rfl, rfl⟩
      refine VL.va (op_move rfl (ltn rfl)) rfl ?_
      replace h := Option.bind_eq_some_iff.1 h
      obtain ⟨t131, hA132, h⟩ := h
      refine VL.sC (o_call0 FO61 (pack_size.ok a1 t131 hA132) rfl rfl (ltn rfl) (All_of .nil)) rfl ?_
      rintro _ _ _ ⟨rfl, rfl, rfl⟩
      replace h := Option.bind_eq_some_iff.1 h
      obtain ⟨⟨t133, t134⟩, hA135, h⟩ := h
      dsimp only at h
      refine VL.sC (o_call0 FO60 (math_bits_Mul64.ok t129 t131 t133 t134 hA135) rfl rfl (ltn rfl) (All_of .nil)) rfl ?_
      rintro _ _ _ ⟨rfl, rfl, rfl⟩
      refine VL.va (op_move rfl (ltn rfl)) rfl ?_
      refine VL.va (op_extract rfl rfl (ltn rfl)) rfl ?_
      refine VL.va (op_extract rfl rfl (ltn rfl)) rfl ?_
      refine VL.va (op_assign rfl (ltn rfl)) rfl ?_
      refine VL.va (op_assign rfl (ltn rfl)) rfl ?_
      refine VL.done ?_
      refine VN.then ?_
      refine VC.seq ?_
      refine VC.region ?_
      refine VL.va (op_move rfl (ltn rfl)) rfl ?_
      refine VL.letter (decide (t133 > 0)) fun b139 hb139 => ?_
      refine VL.va (op_cmp rfl rfl (congrArg some hb139) (ltn rfl)) rfl ?_
      refine VL.va (op_move rfl (ltn rfl)) rfl ?_
      by_cases c140 : t133 > 0
      · rw [if_pos c140] at h
        obtain rfl : b139 = true := hb139.symm.trans (decide_eq_true c140)
        refine VL.un rfl rfl (ltn rfl) ?_
        refine VL.un rfl rfl (ltn rfl) ?_
        refine VL.va (op_pick rfl rfl (ltn rfl)) rfl ?_
        refine VL.done ?_
        refine VN.then ?_
        refine VC.cond_t rfl ?_
        refine VC.seq ?_
        refine VC.region ?_
        refine VL.va (op_assign rfl (ltn rfl)) rfl ?_
        refine VL.va (op_assign rfl (ltn rfl)) rfl ?_
        refine VL.done ?_
        refine VN.then ?_
        refine VC.ret ?_
        refine VR.then ?_
        simp only [Option.some.injEq, Prod.mk.injEq] at h
        obtain ⟨rfl, rfl⟩ := h
        exact VR.fn (rs := [.tmp 4, .tmp 5]) [] [] [] rfl (.tmp rfl (.tmp rfl .nil)) ⟨rfl, rfl, rfl⟩ trivial rfl (by decide)
      · rw [if_neg c140] at h
        obtain rfl : b139 = false := hb139.symm.trans (decide_eq_false c140)
        refine VL.va (op_move rfl (ltn rfl)) rfl ?_
        refine VL.letter (decide (t134 > 1152921504606846976)) fun b141 hb141 => ?_
        refine VL.va (op_cmp rfl rfl (congrArg some hb141) (ltn rfl)) rfl ?_
        refine VL.va (op_pick rfl rfl (ltn rfl)) rfl ?_
        refine VL.done ?_
        refine VN.then ?_
        by_cases c142 : t134 > 1152921504606846976
        · rw [if_pos c142] at h
          obtain rfl : b141 = true := hb141.symm.trans (decide_eq_true c142)
          refine VC.cond_t rfl ?_
          refine VC.seq ?_
          refine VC.region ?_
          refine VL.va (op_assign rfl (ltn rfl)) rfl ?_
          refine VL.va (op_assign rfl (ltn rfl)) rfl ?_
          refine VL.done ?_
          refine VN.then ?_
          refine VC.ret ?_
          refine VR.then ?_
          simp only [Option.some.injEq, Prod.mk.injEq] at h
          obtain ⟨rfl, rfl⟩ := h
          exact VR.fn (rs := [.tmp 4, .tmp 5]) [] [] [] rfl (.tmp rfl (.tmp rfl .nil)) ⟨rfl, rfl, rfl⟩ trivial rfl (by decide)
        · rw [if_neg c142] at h
          obtain rfl : b141 = false := hb141.symm.trans (decide_eq_false c142)
          refine VC.cond_f rfl ?_
          refine VC.skip ?_
          refine VN.then ?_
          refine VC.seq ?_
          refine VC.region ?_
          refine VL.va (op_move rfl (ltn rfl)) rfl ?_
          refine VL.va (op_move rfl (ltn rfl)) rfl ?_
          refine VL.va (op_ari64 rfl rfl rfl (ltn rfl)) rfl ?_
          refine VL.va (op_assign rfl (ltn rfl)) rfl ?_
          refine VL.va (op_assign rfl (ltn rfl)) rfl ?_
          refine VL.done ?_
          refine VN.then ?_
          refine VC.ret ?_
          simp only [Option.some.injEq, Prod.mk.injEq] at h
          obtain ⟨rfl, rfl⟩ := h
          exact VR.fn (rs := [.tmp 4, .tmp 5]) [] [] [] rfl (.tmp rfl (.tmp rfl .nil)) ⟨rfl, rfl, rfl⟩ trivial rfl (by decide)
    · rw [if_neg c110] at h
      obtain rfl := Bool.eq_false_iff.2 c110
      refine VL.va (op_not rfl rfl (ltn rfl)) rfl ?_
      refine VL.va (op_pick rfl rfl (ltn rfl)) rfl ?_
      refine VL.done ?_
      refine VN.then ?_
      refine VC.cond_t rfl ?_
      refine VC.seq ?_
      refine VC.region ?_
      refine VL.va (op_assign rfl (ltn rfl)) rfl ?_
      refine VL.va (op_assign rfl (ltn rfl)) rfl ?_
      refine VL.done ?_
      refine VN.then ?_
      refine VC.ret ?_
      refine VR.then ?_
      simp only [Option.some.injEq, Prod.mk.injEq] at h
      obtain ⟨rfl, rfl⟩ := h
      exact VR.fn (rs := [.tmp 4, .tmp 5]) [] [] [] rfl (.tmp rfl (.tmp rfl .nil)) ⟨rfl, rfl, rfl⟩ trivial rfl (by decide)
  · rw [if_neg c107] at h
    obtain rfl := Bool.eq_false_iff.2 c107
    refine VL.va (op_not rfl rfl (ltn rfl)) rfl ?_
    refine VL.va (op_move rfl (ltn rfl)) rfl ?_
    refine VL.un rfl rfl (ltn rfl) ?_
    refine VL.un rfl rfl (ltn rfl) ?_
    refine VL.un rfl rfl (ltn rfl) ?_
    refine VL.va (op_pick rfl rfl (ltn rfl)) rfl ?_
    refine VL.done ?_
    refine VN.then ?_
    refine VC.cond_t rfl ?_
    refine VC.seq ?_
    refine VC.region ?_
    refine VL.va (op_assign rfl (ltn rfl)) rfl ?_
    refine VL.va (op_assign rfl (ltn rfl)) rfl ?_
    refine VL.done ?_
    refine VN.then ?_
    refine VC.ret ?_
    refine VR.then ?_
    simp only [Option.some.injEq, Prod.mk.injEq] at h
    obtain ⟨rfl, rfl⟩ := h
    exact VR.fn (rs := [.tmp 4, .tmp 5]) [] [] [] rfl (.tmp rfl (.tmp rfl .nil)) ⟨rfl, rfl, rfl⟩ trivial rfl (by decide)
set_option maxHeartbeats 4000000 in
set_option maxRecDepth 100000 in
theorem pay_New.ok (a0 : Int) (a1 : Int) (a2 : Int)  (r1 : Int) (r2 : Int) (r3 : Int) (r4 : Int) (r5 : Int) (h : pay_New.f a0 a1 a2 = some (r1, r2, r3, r4, r5)) :
    VCalls Try.prog 23 [.int .i64 a0, .int .i64 a1, .int .i64 a2] [] (fun v G own => v = .tuple #[.agg #[.int .i64 r1, .int .i64 r2, .int .i64 r3, .int .i64 r4], .int .i64 r5] ∧ G = [] ∧ own = []) := by
  refine VCalls.intro Try.func23 rfl (len rfl) fun E hC => ?_
  unfold pay_New.f at h
  refine VC.seq ?_
  refine VC.region ?_
  refine VL.sG (o_alloc (us := [.int .i64 0, .int .i64 0, .int .i64 0, .int .i64 0]) Z25 rfl (ltn rfl)) rfl ?_
  intro g32
  refine VL.va (op_assign rfl (ltn rfl)) rfl ?_
  refine VL.done ?_
  refine VN.then ?_
  refine VC.seq ?_
  refine VC.seq ?_
  refine VC.region ?_
  refine VL.va (op_move rfl (ltn rfl)) rfl ?_
  replace h := Option.bind_eq_some_iff.1 h
  obtain ⟨t72, hA73, h⟩ := h
  refine VL.sC (o_call0 FO40 (pay_units.ok a0 t72 hA73) rfl rfl (ltn rfl) (All_of .nil)) rfl ?_
  rintro _ _ _ ⟨rfl, rfl, rfl⟩
  by_cases c74 : t72 = true
  · rw [if_pos c74] at h
    obtain rfl := c74
    refine VL.va (op_not rfl rfl (ltn rfl)) rfl ?_
    refine VL.va (op_move rfl (ltn rfl)) rfl ?_
    refine VL.va (op_move rfl (ltn rfl)) rfl ?_
    replace h := Option.bind_eq_some_iff.1 h
    obtain ⟨t75, hA76, h⟩ := h
    refine VL.sC (o_call0 FO40 (pay_units.ok a1 t75 hA76) rfl rfl (ltn rfl) (All_of .nil)) rfl ?_
    rintro _ _ _ ⟨rfl, rfl, rfl⟩
    by_cases c77 : t75 = true
    · rw [if_pos c77] at h
      obtain rfl := c77
      refine VL.va (op_not rfl rfl (ltn rfl)) rfl ?_
      refine VL.va (op_pick rfl rfl (ltn rfl)) rfl ?_
      refine VL.va (op_move rfl (ltn rfl)) rfl ?_
      refine VL.va (op_move rfl (ltn rfl)) rfl ?_
      replace h := Option.bind_eq_some_iff.1 h
      obtain ⟨t78, hA79, h⟩ := h
      refine VL.sC (o_call0 FO41 (pay_time.ok a2 t78 hA79) rfl rfl (ltn rfl) (All_of .nil)) rfl ?_
      rintro _ _ _ ⟨rfl, rfl, rfl⟩
      by_cases c80 : t78 = true
      · rw [if_pos c80] at h
        obtain rfl := c80
        refine VL.va (op_not rfl rfl (ltn rfl)) rfl ?_
        refine VL.va (op_pick rfl rfl (ltn rfl)) rfl ?_
        refine VL.done ?_
        refine VN.then ?_
        refine VC.cond_f rfl ?_
        refine VC.skip ?_
        refine VN.then ?_
        refine VC.seq ?_
        refine VC.region ?_
        refine VL.va (op_move rfl (ltn rfl)) rfl ?_
        refine VL.va (op_move rfl (ltn rfl)) rfl ?_
        replace h := Option.bind_eq_some_iff.1 h
        obtain ⟨⟨t143, t144⟩, hA145, h⟩ := h
        dsimp only at h
        refine VL.sC (o_call0 FO42 (pack_Times.ok a0 a1 t143 t144 hA145) rfl rfl (ltn rfl) (All_of .nil)) rfl ?_
        rintro _ _ _ ⟨rfl, rfl, rfl⟩
        refine VL.va (op_move rfl (ltn rfl)) rfl ?_
        refine VL.va (op_extract rfl rfl (ltn rfl)) rfl ?_
        refine VL.va (op_extract rfl rfl (ltn rfl)) rfl ?_
        refine VL.va (op_assign rfl (ltn rfl)) rfl ?_
        refine VL.va (op_assign rfl (ltn rfl)) rfl ?_
        refine VL.done ?_
        refine VN.then ?_
        refine VC.seq ?_
        refine VC.seq ?_
        refine VC.region ?_
        refine VL.va (op_move rfl (ltn rfl)) rfl ?_
        refine VL.letter ((t144 != 0)) fun b156 hb156 => ?_
        refine VL.va (op_cmp rfl rfl (congrArg some hb156) (ltn rfl)) rfl ?_
        refine VL.va (op_move rfl (ltn rfl)) rfl ?_
        by_cases c157 : t144 = 0
        · rw [if_pos c157] at h
          obtain rfl : b156 = false := hb156.symm.trans (bne_eq_false_iff_eq.2 c157)
          refine VL.va (op_move rfl (ltn rfl)) rfl ?_
          refine VL.letter (decide (t143 > 1125899906842624)) fun b158 hb158 => ?_
          refine VL.va (op_cmp rfl rfl (congrArg some hb158) (ltn rfl)) rfl ?_
          refine VL.va (op_pick rfl rfl (ltn rfl)) rfl ?_
          refine VL.done ?_
          refine VN.then ?_
          by_cases c159 : t143 > 1125899906842624
          · rw [if_pos c159] at h
            obtain rfl : b158 = true := hb158.symm.trans (decide_eq_true c159)
            refine VC.cond_t rfl ?_
            refine VC.seq ?_
            refine VC.region ?_
            refine VL.va (op_build (vals := []) (vcs := []) (cells := [.int .i64 0, .int .i64 0, .int .i64 0, .int .i64 0]) SI25 rfl .nil (by kernel_rfl) (ltn rfl)) rfl ?_
            refine VL.step1 (o_store 0 4 rfl rfl rfl TI25 (.agg (.c rfl (.c rfl (.c rfl (.c rfl .nil))))) rfl (len rfl)) rfl ?_
            refine VL.va (op_assign rfl (ltn rfl)) rfl ?_
            refine VL.done ?_
            refine VN.then ?_
            refine VC.ret ?_
            refine VR.then ?_
            simp only [Option.some.injEq, Prod.mk.injEq] at h
            obtain ⟨rfl, rfl, rfl, rfl, rfl⟩ := h
            exact VR.fn (rs := [.cell 6 25, .tmp 7]) [] [] [] rfl (.cell 0 rfl rfl TI25 (fun h => absurd h (by decide)) (.tmp rfl .nil)) ⟨rfl, rfl, rfl⟩ trivial rfl (by decide)
          · rw [if_neg c159] at h
            obtain rfl : b158 = false := hb158.symm.trans (decide_eq_false c159)
            refine VC.cond_f rfl ?_
            refine VC.skip ?_
            refine VN.then ?_
            refine VC.seq ?_
            refine VC.region ?_
            refine VL.va (op_move rfl (ltn rfl)) rfl ?_
            refine VL.va (op_move rfl (ltn rfl)) rfl ?_
            refine VL.va (op_build (vals := [(0, .int .i64 t143), (2, .int .i64 a2), (3, .int .i64 1)]) (vcs := [(0, [.int .i64 t143]), (2, [.int .i64 a2]), (3, [.int .i64 1])]) (cells := [.int .i64 t143, .int .i64 0, .int .i64 a2, .int .i64 1]) SI25 rfl (.cons ⟨rfl, (.c rfl)⟩ (.cons ⟨rfl, (.c rfl)⟩ (.cons ⟨rfl, (.c rfl)⟩ .nil))) (by kernel_rfl) (ltn rfl)) rfl ?_
            refine VL.step1 (o_store 0 4 rfl rfl rfl TI25 (.agg (.c rfl (.c rfl (.c rfl (.c rfl .nil))))) rfl (len rfl)) rfl ?_
            refine VL.va (op_assign rfl (ltn rfl)) rfl ?_
            refine VL.done ?_
            refine VN.then ?_
            refine VC.ret ?_
            simp only [Option.some.injEq, Prod.mk.injEq] at h
            obtain ⟨rfl, rfl, rfl, rfl, rfl⟩ := h
            exact VR.fn (rs := [.cell 6 25, .tmp 7]) [] [] [] rfl (.cell 0 rfl rfl TI25 (fun h => absurd h (by decide)) (.tmp rfl .nil)) ⟨rfl, rfl, rfl⟩ trivial rfl (by decide)
        · rw [if_neg c157] at h
          obtain rfl : b156 = true := hb156.symm.trans (bne_iff_ne.2 c157)
          refine VL.un rfl rfl (ltn rfl) ?_
          refine VL.un rfl rfl (ltn rfl) ?_
          refine VL.va (op_pick rfl rfl (ltn rfl)) rfl ?_
          refine VL.done ?_
          refine VN.then ?_
          refine VC.cond_t rfl ?_
          refine VC.seq ?_
          refine VC.region ?_
          refine VL.va (op_build (vals := []) (vcs := []) (cells := [.int .i64 0, .int .i64 0, .int .i64 0, .int .i64 0]) SI25 rfl .nil (by kernel_rfl) (ltn rfl)) rfl ?_
          refine VL.step1 (o_store 0 4 rfl rfl rfl TI25 (.agg (.c rfl (.c rfl (.c rfl (.c rfl .nil))))) rfl (len rfl)) rfl ?_
          refine VL.va (op_assign rfl (ltn rfl)) rfl ?_
          refine VL.done ?_
          refine VN.then ?_
          refine VC.ret ?_
          refine VR.then ?_
          simp only [Option.some.injEq, Prod.mk.injEq] at h
          obtain ⟨rfl, rfl, rfl, rfl, rfl⟩ := h
          exact VR.fn (rs := [.cell 6 25, .tmp 7]) [] [] [] rfl (.cell 0 rfl rfl TI25 (fun h => absurd h (by decide)) (.tmp rfl .nil)) ⟨rfl, rfl, rfl⟩ trivial rfl (by decide)
      · rw [if_neg c80] at h
        obtain rfl := Bool.eq_false_iff.2 c80
        refine VL.va (op_not rfl rfl (ltn rfl)) rfl ?_
        refine VL.va (op_pick rfl rfl (ltn rfl)) rfl ?_
        refine VL.done ?_
        refine VN.then ?_
        refine VC.cond_t rfl ?_
        refine VC.seq ?_
        refine VC.region ?_
        refine VL.va (op_build (vals := []) (vcs := []) (cells := [.int .i64 0, .int .i64 0, .int .i64 0, .int .i64 0]) SI25 rfl .nil (by kernel_rfl) (ltn rfl)) rfl ?_
        refine VL.step1 (o_store 0 4 rfl rfl rfl TI25 (.agg (.c rfl (.c rfl (.c rfl (.c rfl .nil))))) rfl (len rfl)) rfl ?_
        refine VL.va (op_assign rfl (ltn rfl)) rfl ?_
        refine VL.done ?_
        refine VN.then ?_
        refine VC.ret ?_
        refine VR.then ?_
        simp only [Option.some.injEq, Prod.mk.injEq] at h
        obtain ⟨rfl, rfl, rfl, rfl, rfl⟩ := h
        exact VR.fn (rs := [.cell 6 25, .tmp 7]) [] [] [] rfl (.cell 0 rfl rfl TI25 (fun h => absurd h (by decide)) (.tmp rfl .nil)) ⟨rfl, rfl, rfl⟩ trivial rfl (by decide)
    · rw [if_neg c77] at h
      obtain rfl := Bool.eq_false_iff.2 c77
      refine VL.va (op_not rfl rfl (ltn rfl)) rfl ?_
      refine VL.va (op_pick rfl rfl (ltn rfl)) rfl ?_
      refine VL.va (op_move rfl (ltn rfl)) rfl ?_
      refine VL.un rfl rfl (ltn rfl) ?_
      refine VL.un rfl rfl (ltn rfl) ?_
      refine VL.un rfl rfl (ltn rfl) ?_
      refine VL.va (op_pick rfl rfl (ltn rfl)) rfl ?_
      refine VL.done ?_
      refine VN.then ?_
      refine VC.cond_t rfl ?_
      refine VC.seq ?_
      refine VC.region ?_
      refine VL.va (op_build (vals := []) (vcs := []) (cells := [.int .i64 0, .int .i64 0, .int .i64 0, .int .i64 0]) SI25 rfl .nil (by kernel_rfl) (ltn rfl)) rfl ?_
      refine VL.step1 (o_store 0 4 rfl rfl rfl TI25 (.agg (.c rfl (.c rfl (.c rfl (.c rfl .nil))))) rfl (len rfl)) rfl ?_
      refine VL.va (op_assign rfl (ltn rfl)) rfl ?_
      refine VL.done ?_
      refine VN.then ?_
      refine VC.ret ?_
      refine VR.then ?_
      simp only [Option.some.injEq, Prod.mk.injEq] at h
      obtain ⟨rfl, rfl, rfl, rfl, rfl⟩ := h
      exact VR.fn (rs := [.cell 6 25, .tmp 7]) [] [] [] rfl (.cell 0 rfl rfl TI25 (fun h => absurd h (by decide)) (.tmp rfl .nil)) ⟨rfl, rfl, rfl⟩ trivial rfl (by decide)
  · rw [if_neg c74] at h
    obtain rfl := Bool.eq_false_iff.2 c74
    refine VL.va (op_not rfl rfl (ltn rfl)) rfl ?_
    refine VL.va (op_move rfl (ltn rfl)) rfl ?_
    refine VL.un rfl rfl (ltn rfl) ?_
    refine VL.un rfl rfl (ltn rfl) ?_
    refine VL.un rfl rfl (ltn rfl) ?_
    refine VL.va (op_pick rfl rfl (ltn rfl)) rfl ?_
    refine VL.va (op_move rfl (ltn rfl)) rfl ?_
    refine VL.un rfl rfl (ltn rfl) ?_
    refine VL.un rfl rfl (ltn rfl) ?_
    refine VL.un rfl rfl (ltn rfl) ?_
    refine VL.va (op_pick rfl rfl (ltn rfl)) rfl ?_
    refine VL.done ?_
    refine VN.then ?_
    refine VC.cond_t rfl ?_
    refine VC.seq ?_
    refine VC.region ?_
    refine VL.va (op_build (vals := []) (vcs := []) (cells := [.int .i64 0, .int .i64 0, .int .i64 0, .int .i64 0]) SI25 rfl .nil (by kernel_rfl) (ltn rfl)) rfl ?_
    refine VL.step1 (o_store 0 4 rfl rfl rfl TI25 (.agg (.c rfl (.c rfl (.c rfl (.c rfl .nil))))) rfl (len rfl)) rfl ?_
    refine VL.va (op_assign rfl (ltn rfl)) rfl ?_
    refine VL.done ?_
    refine VN.then ?_
    refine VC.ret ?_
    refine VR.then ?_
    simp only [Option.some.injEq, Prod.mk.injEq] at h
    obtain ⟨rfl, rfl, rfl, rfl, rfl⟩ := h
    exact VR.fn (rs := [.cell 6 25, .tmp 7]) [] [] [] rfl (.cell 0 rfl rfl TI25 (fun h => absurd h (by decide)) (.tmp rfl .nil)) ⟨rfl, rfl, rfl⟩ trivial rfl (by decide)
set_option maxHeartbeats 4000000 in
set_option maxRecDepth 100000 in
theorem order_in.ok (a0 : Int) (a1 : Int) (a2 : Int)  (r1 : Bool) (h : order_in.f a0 a1 a2 = some r1) :
    VCalls Try.prog 31 [.int .i64 a0, .int .i64 a1, .int .i64 a2] [] (fun v G own => v = .bool r1 ∧ G = [] ∧ own = []) := by
  refine VCalls.intro Try.func31 rfl (len rfl) fun E hC => ?_
  unfold order_in.f at h
  refine VC.seq ?_
  refine VC.region ?_
  refine VL.va (op_assign rfl (ltn rfl)) rfl ?_
  refine VL.done ?_
  refine VN.then ?_
  refine VC.seq ?_
  refine VC.region ?_
  refine VL.va (op_move rfl (ltn rfl)) rfl ?_
  refine VL.va (op_move rfl (ltn rfl)) rfl ?_
  refine VL.letter (decide (a0 ≥ a1)) fun b176 hb176 => ?_
  refine VL.va (op_cmp rfl rfl (congrArg some hb176) (ltn rfl)) rfl ?_
  refine VL.va (op_move rfl (ltn rfl)) rfl ?_
  by_cases c177 : a0 ≥ a1
  · rw [if_pos c177] at h
    obtain rfl : b176 = true := hb176.symm.trans (decide_eq_true c177)
    refine VL.va (op_move rfl (ltn rfl)) rfl ?_
    refine VL.va (op_move rfl (ltn rfl)) rfl ?_
    refine VL.letter (decide (a0 ≤ a2)) fun b178 hb178 => ?_
    refine VL.va (op_cmp rfl rfl (congrArg some hb178) (ltn rfl)) rfl ?_
    refine VL.va (op_pick rfl rfl (ltn rfl)) rfl ?_
    refine VL.va (op_assign rfl (ltn rfl)) rfl ?_
    refine VL.done ?_
    refine VN.then ?_
    refine VC.ret ?_
    obtain rfl := Option.some.inj h
    subst hb178
    exact VR.fn (rs := [.tmp 6]) [] [] [] rfl (.tmp rfl .nil) ⟨rfl, rfl, rfl⟩ trivial rfl (by decide)
  · rw [if_neg c177] at h
    obtain rfl : b176 = false := hb176.symm.trans (decide_eq_false c177)
    refine VL.un rfl rfl (ltn rfl) ?_
    refine VL.un rfl rfl (ltn rfl) ?_
    refine VL.un rfl rfl (ltn rfl) ?_
    refine VL.va (op_pick rfl rfl (ltn rfl)) rfl ?_
    refine VL.va (op_assign rfl (ltn rfl)) rfl ?_
    refine VL.done ?_
    refine VN.then ?_
    refine VC.ret ?_
    obtain rfl := Option.some.inj h
    exact VR.fn (rs := [.tmp 6]) [] [] [] rfl (.tmp rfl .nil) ⟨rfl, rfl, rfl⟩ trivial rfl (by decide)
set_option maxHeartbeats 4000000 in
set_option maxRecDepth 100000 in
theorem cmp_isNaN_int.ok (a0 : Int)  (r1 : Bool) (h : cmp_isNaN_int.f a0 = some r1) :
    VCalls Try.prog 90 [.int .i64 a0] [] (fun v G own => v = .bool r1 ∧ G = [] ∧ own = []) := by
  refine VCalls.intro Try.func90 rfl (len rfl) fun E hC => ?_
  unfold cmp_isNaN_int.f at h
  refine VC.seq ?_
  refine VC.region ?_
  refine VL.va (op_assign rfl (ltn rfl)) rfl ?_
  refine VL.done ?_
  refine VN.then ?_
  refine VC.seq ?_
  refine VC.region ?_
  refine VL.va (op_move rfl (ltn rfl)) rfl ?_
  refine VL.va (op_move rfl (ltn rfl)) rfl ?_
  refine VL.letter ((a0 != a0)) fun b255 hb255 => ?_
  refine VL.va (op_cmp rfl rfl (congrArg some hb255) (ltn rfl)) rfl ?_
  refine VL.va (op_assign rfl (ltn rfl)) rfl ?_
  refine VL.done ?_
  refine VN.then ?_
  refine VC.ret ?_
  obtain rfl := Option.some.inj h
  subst hb255
  exact VR.fn (rs := [.tmp 2]) [] [] [] rfl (.tmp rfl .nil) ⟨rfl, rfl, rfl⟩ trivial rfl (by decide)
set_option maxHeartbeats 4000000 in
set_option maxRecDepth 100000 in
theorem cmp_Compare_int.ok (a0 : Int) (a1 : Int)  (r1 : Int) (h : cmp_Compare_int.f a0 a1 = some r1) :
    VCalls Try.prog 80 [.int .i64 a0, .int .i64 a1] [] (fun v G own => v = .int .i64 r1 ∧ G = [] ∧ own = []) := by
  refine VCalls.intro Try.func80 rfl (len rfl) fun E hC => ?_
  unfold cmp_Compare_int.f at h
  refine VC.seq ?_
  refine VC.region ?_
  refine VL.va (op_assign rfl (ltn rfl)) rfl ?_
  refine VL.done ?_
  refine VN.then ?_
  refine VC.seq ?_
  refine VC.region ?_
  refine VL.va (op_move rfl (ltn rfl)) rfl ?_
  replace h := Option.bind_eq_some_iff.1 h
  obtain ⟨t256, hA257, h⟩ := h
  refine VL.sC (o_call0 FO90 (cmp_isNaN_int.ok a0 t256 hA257) rfl rfl (ltn rfl) (All_of .nil)) rfl ?_
  rintro _ _ _ ⟨rfl, rfl, rfl⟩
  refine VL.va (op_assign rfl (ltn rfl)) rfl ?_
  refine VL.done ?_
  refine VN.then ?_
  refine VC.seq ?_
  refine VC.region ?_
  refine VL.va (op_move rfl (ltn rfl)) rfl ?_
  replace h := Option.bind_eq_some_iff.1 h
  obtain ⟨t258, hA259, h⟩ := h
  refine VL.sC (o_call0 FO90 (cmp_isNaN_int.ok a1 t258 hA259) rfl rfl (ltn rfl) (All_of .nil)) rfl ?_
  rintro _ _ _ ⟨rfl, rfl, rfl⟩
  refine VL.va (op_assign rfl (ltn rfl)) rfl ?_
  refine VL.done ?_
  refine VN.then ?_
  refine VC.seq ?_
  refine VC.seq ?_
  refine VC.region ?_
  refine VL.va (op_move rfl (ltn rfl)) rfl ?_
  refine VL.done ?_
  refine VN.then ?_
  by_cases c263 : t256 = true
  · rw [if_pos c263] at h
    obtain rfl := c263
    refine VC.cond_t rfl ?_
    refine VC.seq ?_
    refine VC.seq ?_
    refine VC.region ?_
    refine VL.va (op_move rfl (ltn rfl)) rfl ?_
    refine VL.done ?_
    refine VN.then ?_
    by_cases c265 : t258 = true
    · rw [if_pos c265] at h
      obtain rfl := c265
      refine VC.cond_t rfl ?_
      refine VC.seq ?_
      refine VC.region ?_
      refine VL.va (op_assign rfl (ltn rfl)) rfl ?_
      refine VL.done ?_
      refine VN.then ?_
      refine VC.ret ?_
      refine VR.then ?_
      refine VR.then ?_
      obtain rfl := Option.some.inj h
      exact VR.fn (rs := [.tmp 4]) [] [] [] rfl (.tmp rfl .nil) ⟨rfl, rfl, rfl⟩ trivial rfl (by decide)
    · rw [if_neg c265] at h
      obtain rfl := Bool.eq_false_iff.2 c265
      refine VC.cond_f rfl ?_
      refine VC.skip ?_
      refine VN.then ?_
      refine VC.seq ?_
      refine VC.region ?_
      refine VL.va (op_assign rfl (ltn rfl)) rfl ?_
      refine VL.done ?_
      refine VN.then ?_
      refine VC.ret ?_
      refine VR.then ?_
      obtain rfl := Option.some.inj h
      exact VR.fn (rs := [.tmp 4]) [] [] [] rfl (.tmp rfl .nil) ⟨rfl, rfl, rfl⟩ trivial rfl (by decide)
  · rw [if_neg c263] at h
    obtain rfl := Bool.eq_false_iff.2 c263
    refine VC.cond_f rfl ?_
    refine VC.skip ?_
    refine VN.then ?_
    refine VC.seq ?_
    refine VC.seq ?_
    refine VC.region ?_
    refine VL.va (op_move rfl (ltn rfl)) rfl ?_
    refine VL.done ?_
    refine VN.then ?_
    by_cases c267 : t258 = true
    · rw [if_pos c267] at h
      obtain rfl := c267
      refine VC.cond_t rfl ?_
      refine VC.seq ?_
      refine VC.region ?_
      refine VL.va (op_assign rfl (ltn rfl)) rfl ?_
      refine VL.done ?_
      refine VN.then ?_
      refine VC.ret ?_
      refine VR.then ?_
      obtain rfl := Option.some.inj h
      exact VR.fn (rs := [.tmp 4]) [] [] [] rfl (.tmp rfl .nil) ⟨rfl, rfl, rfl⟩ trivial rfl (by decide)
    · rw [if_neg c267] at h
      obtain rfl := Bool.eq_false_iff.2 c267
      refine VC.cond_f rfl ?_
      refine VC.skip ?_
      refine VN.then ?_
      refine VC.seq ?_
      refine VC.seq ?_
      refine VC.region ?_
      refine VL.va (op_move rfl (ltn rfl)) rfl ?_
      refine VL.va (op_move rfl (ltn rfl)) rfl ?_
      refine VL.letter (decide (a0 < a1)) fun b270 hb270 => ?_
      refine VL.va (op_cmp rfl rfl (congrArg some hb270) (ltn rfl)) rfl ?_
      refine VL.done ?_
      refine VN.then ?_
      by_cases c271 : a0 < a1
      · rw [if_pos c271] at h
        obtain rfl : b270 = true := hb270.symm.trans (decide_eq_true c271)
        refine VC.cond_t rfl ?_
        refine VC.seq ?_
        refine VC.region ?_
        refine VL.va (op_assign rfl (ltn rfl)) rfl ?_
        refine VL.done ?_
        refine VN.then ?_
        refine VC.ret ?_
        refine VR.then ?_
        obtain rfl := Option.some.inj h
        exact VR.fn (rs := [.tmp 4]) [] [] [] rfl (.tmp rfl .nil) ⟨rfl, rfl, rfl⟩ trivial rfl (by decide)
      · rw [if_neg c271] at h
        obtain rfl : b270 = false := hb270.symm.trans (decide_eq_false c271)
        refine VC.cond_f rfl ?_
        refine VC.skip ?_
        refine VN.then ?_
        refine VC.seq ?_
        refine VC.seq ?_
        refine VC.region ?_
        refine VL.va (op_move rfl (ltn rfl)) rfl ?_
        refine VL.va (op_move rfl (ltn rfl)) rfl ?_
        refine VL.letter (decide (a0 > a1)) fun b274 hb274 => ?_
        refine VL.va (op_cmp rfl rfl (congrArg some hb274) (ltn rfl)) rfl ?_
        refine VL.done ?_
        refine VN.then ?_
        by_cases c275 : a0 > a1
        · rw [if_pos c275] at h
          obtain rfl : b274 = true := hb274.symm.trans (decide_eq_true c275)
          refine VC.cond_t rfl ?_
          refine VC.seq ?_
          refine VC.region ?_
          refine VL.va (op_assign rfl (ltn rfl)) rfl ?_
          refine VL.done ?_
          refine VN.then ?_
          refine VC.ret ?_
          refine VR.then ?_
          obtain rfl := Option.some.inj h
          exact VR.fn (rs := [.tmp 4]) [] [] [] rfl (.tmp rfl .nil) ⟨rfl, rfl, rfl⟩ trivial rfl (by decide)
        · rw [if_neg c275] at h
          obtain rfl : b274 = false := hb274.symm.trans (decide_eq_false c275)
          refine VC.cond_f rfl ?_
          refine VC.skip ?_
          refine VN.then ?_
          refine VC.seq ?_
          refine VC.region ?_
          refine VL.va (op_assign rfl (ltn rfl)) rfl ?_
          refine VL.done ?_
          refine VN.then ?_
          refine VC.ret ?_
          obtain rfl := Option.some.inj h
          exact VR.fn (rs := [.tmp 4]) [] [] [] rfl (.tmp rfl .nil) ⟨rfl, rfl, rfl⟩ trivial rfl (by decide)
set_option maxHeartbeats 4000000 in
set_option maxRecDepth 100000 in
theorem cmp_Or_int.ok (k : Nat) (l0 : List Int) (v0 : Value) (r1 : Int) (h : cmp_Or_int.f k l0 = some r1) :
    VCalls Try.prog 79 [v0] [.row v0 1 (l0.map enc_inti64)] (fun v G own => v = .int .i64 r1 ∧ G = [] ∧ own = []) := by
  refine VCalls.intro Try.func79 rfl (len rfl) fun E hC => ?_
  unfold cmp_Or_int.f at h
  refine VC.seq ?_
  refine VC.region ?_
  refine VL.va (op_assign rfl (ltn rfl)) rfl ?_
  refine VL.done ?_
  refine VN.then ?_
  refine VC.seq ?_
  refine VC.region ?_
  refine VL.va (op_assign rfl (ltn rfl)) rfl ?_
  refine VL.done ?_
  refine VN.then ?_
  refine VC.seq ?_
  refine VC.seq ?_
  refine VC.region ?_
  refine VL.va (op_move rfl (ltn rfl)) rfl ?_
  refine VL.va (op_len (m := l0.length) 0 lenm Try.underlying42 rfl rfl (ltn rfl)) rfl ?_
  refine VL.va (op_move rfl (ltn rfl)) rfl ?_
  refine VL.done ?_
  refine VN.then ?_
  refine VC.block ?_
  refine VC.loop1 (fun (i342 : Int) => ⟨18, [(2, .int .i64 0), (3, .int .i64 0), (6, v0), (7, .int .i64 (l0.length : Int)), (8, .int .i64 i342)], [.row v0 1 (l0.map enc_inti64)], [], []⟩) (fun (ml1 : Nat) (i342 : Int) => cmp_Or_int.l1 k l0 ml1 i342 = some r1) k 0 [] [] h ⟨rfl, ⟨rfl, rfl, rfl, rfl, rfl, trivial⟩, ⟨⟨0, rfl⟩, trivial⟩, rfl, by decide, rfl, by decide⟩ (by intros; simp [cmp_Or_int.l1]) ?_
  clear h
  intro ml1 ihl1 i342 h
  simp only [cmp_Or_int.l1] at h
  refine VC.seq ?_
  refine VC.region ?_
  refine VL.letter (decide (i342 < (l0.length : Int))) fun b358 hb358 => ?_
  refine VL.va (op_cmp rfl rfl (congrArg some hb358) (ltn rfl)) rfl ?_
  refine VL.done ?_
  refine VN.then ?_
  refine VC.seq ?_
  by_cases c360 : i342 < (l0.length : Int)
  · rw [if_pos c360] at h
    obtain rfl : b358 = true := hb358.symm.trans (decide_eq_true c360)
    refine VC.cond_t rfl ?_
    refine VC.skip ?_
    refine VN.then ?_
    refine VC.seq ?_
    refine VC.block ?_
    refine VC.seq ?_
    refine VC.region ?_
    by_cases c367 : 0 ≤ i342
    · rw [if_pos c367] at h
      replace h := Option.bind_eq_some_iff.1 h
      obtain ⟨x368, hx368, h⟩ := h
      refine VL.open (m := l0.length) 0 lenm rfl (pos_get hx368) ?_
      rintro ad369 n370 rfl
      refine VL.va (op_indexAddr Try.underlying42 TI3 rfl rfl c367 (lt_get c367 hx368) rfl (ltn rfl)) rfl ?_
      refine VL.va (op_load_row (sz := 1) (o := 0) 0 i342.toNat 1 rfl rfl (get_map hx368) TI3 rfl (by decide) (ltn rfl)) rfl ?_
      refine VL.va (op_assign rfl (ltn rfl)) rfl ?_
      refine VL.done ?_
      refine VN.then ?_
      refine VC.seq ?_
      refine VC.region ?_
      refine VL.va (op_move rfl (ltn rfl)) rfl ?_
      refine VL.va (op_move rfl (ltn rfl)) rfl ?_
      refine VL.letter ((x368 != 0)) fun b371 hb371 => ?_
      refine VL.va (op_cmp rfl rfl (congrArg some hb371) (ltn rfl)) rfl ?_
      refine VL.done ?_
      refine VN.then ?_
      by_cases c372 : x368 = 0
      · rw [if_pos c372] at h
        obtain rfl : b371 = false := hb371.symm.trans (bne_eq_false_iff_eq.2 c372)
        refine VC.cond_f rfl ?_
        refine VC.skip ?_
        refine VN.block ?_
        refine VN.then ?_
        refine VC.region ?_
        refine VL.va (op_ari64 rfl rfl rfl (ltn rfl)) rfl ?_
        refine VL.va (op_move rfl (ltn rfl)) rfl ?_
        refine VL.done ?_
        refine VN.again [] [] (ihl1 (wrap64 (i342 + 1)) h) ⟨rfl, ⟨rfl, rfl, rfl, rfl, rfl, trivial⟩, ⟨⟨0, rfl⟩, trivial⟩, rfl, by decide, rfl, by decide⟩
      · rw [if_neg c372] at h
        obtain rfl : b371 = true := hb371.symm.trans (bne_iff_ne.2 c372)
        refine VC.cond_t rfl ?_
        refine VC.seq ?_
        refine VC.region ?_
        refine VL.va (op_move rfl (ltn rfl)) rfl ?_
        refine VL.va (op_assign rfl (ltn rfl)) rfl ?_
        refine VL.done ?_
        refine VN.then ?_
        refine VC.ret ?_
        refine VR.block ?_
        refine VR.then ?_
        refine VR.then ?_
        refine VR.block ?_
        refine VR.then ?_
        obtain rfl := Option.some.inj h
        exact VR.fn (rs := [.tmp 2]) [] [] [] rfl (.tmp rfl .nil) ⟨rfl, rfl, rfl⟩ trivial rfl (by decide)
    · rw [if_neg c367] at h; cases h
  · rw [if_neg c360] at h
    obtain rfl : b358 = false := hb358.symm.trans (decide_eq_false c360)
    refine VC.cond_f rfl ?_
    refine VC.exit ?_
    refine VX.then ?_
    refine VX.then ?_
    refine VX.hit ?_
    refine VN.then ?_
    refine VC.seq ?_
    refine VC.region ?_
    refine VL.va (op_move rfl (ltn rfl)) rfl ?_
    refine VL.va (op_assign rfl (ltn rfl)) rfl ?_
    refine VL.done ?_
    refine VN.then ?_
    refine VC.ret ?_
    obtain rfl := Option.some.inj h
    exact VR.fn (rs := [.tmp 2]) [] [] [] rfl (.tmp rfl .nil) ⟨rfl, rfl, rfl⟩ trivial rfl (by decide)

end Go.Proofs.Ytlmpfogfgefngaa.POrderComes
