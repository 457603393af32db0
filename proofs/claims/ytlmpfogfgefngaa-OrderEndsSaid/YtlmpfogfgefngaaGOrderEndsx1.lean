/- Written by a program of this repo: what the program's functions do, each as a Lean function, shown of the loaded code; or a statement's row over that; no condition of its own. -/
import Derived.Test.YtlmpfogfgefngaaGOrderEndsx0
namespace Go.Proofs.Ytlmpfogfgefngaa.GOrderEnds
open Go Go.RowKit Go.Proofs.YtlmpfogfgefngaaV Go.Proofs.Ytlmpfogfgefngaa.POrderParts
set_option linter.unusedVariables false
set_option linter.unusedSimpArgs false

set_option maxHeartbeats 4000000 in
set_option maxRecDepth 100000 in
theorem order_in.ok (a0 : Int) (a1 : Int) (a2 : Int)  (r1 : Bool) (h : order_in.f a0 a1 a2 = some r1) :
    VCalls Try.prog 31 [.int .i64 a0, .int .i64 a1, .int .i64 a2] [] (fun v G own => v = .bool r1 ∧ G = [] ∧ own = []) := by
  refine VCalls.intro Try.func31 rfl (len rfl) fun E hC => ?_
  unfold order_in.f at h
  refine VC.seq ?_
  refine VC.region ?_
  refine VL.va (op_assign rfl (ltn rfl)) rfl ?_
  refine VL.done ?_
  refine VN.then ?_
  refine VC.seq ?_
  refine VC.region ?_
  refine VL.va (op_move rfl (ltn rfl)) rfl ?_
  refine VL.va (op_move rfl (ltn rfl)) rfl ?_
  refine VL.letter (decide (a0 ≥ a1)) fun b20 hb20 => ?_
  refine VL.va (op_cmp rfl rfl (congrArg some hb20) (ltn rfl)) rfl ?_
  refine VL.va (op_move rfl (ltn rfl)) rfl ?_
  by_cases c21 : a0 ≥ a1
  · rw [if_pos c21] at h
    obtain rfl : b20 = true := hb20.symm.trans (decide_eq_true c21)
    refine VL.va (op_move rfl (ltn rfl)) rfl ?_
    refine VL.va (op_move rfl (ltn rfl)) rfl ?_
    refine VL.letter (decide (a0 ≤ a2)) fun b22 hb22 => ?_
    refine VL.va (op_cmp rfl rfl (congrArg some hb22) (ltn rfl)) rfl ?_
    refine VL.va (op_pick rfl rfl (ltn rfl)) rfl ?_
    refine VL.va (op_assign rfl (ltn rfl)) rfl ?_
    refine VL.done ?_
    refine VN.then ?_
    refine VC.ret ?_
    obtain rfl := Option.some.inj h
    subst hb22
    exact VR.fn (rs := [.tmp 6]) [] [] [] rfl (.tmp rfl .nil) ⟨rfl, rfl, rfl⟩ trivial rfl (by decide)
  · rw [if_neg c21] at h
    obtain rfl : b20 = false := hb20.symm.trans (decide_eq_false c21)
    refine VL.un rfl rfl (ltn rfl) ?_
    refine VL.un rfl rfl (ltn rfl) ?_
    refine VL.un rfl rfl (ltn rfl) ?_
    refine VL.va (op_pick rfl rfl (ltn rfl)) rfl ?_
    refine VL.va (op_assign rfl (ltn rfl)) rfl ?_
    refine VL.done ?_
    refine VN.then ?_
    refine VC.ret ?_
    obtain rfl := Option.some.inj h
    exact VR.fn (rs := [.tmp 6]) [] [] [] rfl (.tmp rfl .nil) ⟨rfl, rfl, rfl⟩ trivial rfl (by decide)
set_option maxHeartbeats 4000000 in
set_option maxRecDepth 100000 in
theorem cmp_isNaN_int.ok (a0 : Int)  (r1 : Bool) (h : cmp_isNaN_int.f a0 = some r1) :
    VCalls Try.prog 90 [.int .i64 a0] [] (fun v G own => v = .bool r1 ∧ G = [] ∧ own = []) := by
  refine VCalls.intro Try.func90 rfl (len rfl) fun E hC => ?_
  unfold cmp_isNaN_int.f at h
  refine VC.seq ?_
  refine VC.region ?_
  refine VL.va (op_assign rfl (ltn rfl)) rfl ?_
  refine VL.done ?_
  refine VN.then ?_
  refine VC.seq ?_
  refine VC.region ?_
  refine VL.va (op_move rfl (ltn rfl)) rfl ?_
  refine VL.va (op_move rfl (ltn rfl)) rfl ?_
  refine VL.letter ((a0 != a0)) fun b99 hb99 => ?_
  refine VL.va (op_cmp rfl rfl (congrArg some hb99) (ltn rfl)) rfl ?_
  refine VL.va (op_assign rfl (ltn rfl)) rfl ?_
  refine VL.done ?_
  refine VN.then ?_
  refine VC.ret ?_
  obtain rfl := Option.some.inj h
  subst hb99
  exact VR.fn (rs := [.tmp 2]) [] [] [] rfl (.tmp rfl .nil) ⟨rfl, rfl, rfl⟩ trivial rfl (by decide)
set_option maxHeartbeats 4000000 in
set_option maxRecDepth 100000 in
theorem cmp_Compare_int.ok (a0 : Int) (a1 : Int)  (r1 : Int) (h : cmp_Compare_int.f a0 a1 = some r1) :
    VCalls Try.prog 80 [.int .i64 a0, .int .i64 a1] [] (fun v G own => v = .int .i64 r1 ∧ G = [] ∧ own = []) := by
  refine VCalls.intro Try.func80 rfl (len rfl) fun E hC => ?_
  unfold cmp_Compare_int.f at h
  refine VC.seq ?_
  refine VC.region ?_
  refine VL.va (op_assign rfl (ltn rfl)) rfl ?_
  refine VL.done ?_
  refine VN.then ?_
  refine VC.seq ?_
  refine VC.region ?_
  refine VL.va (op_move rfl (ltn rfl)) rfl ?_
  replace h := Option.bind_eq_some_iff.1 h
  obtain ⟨t100, hA101, h⟩ := h
  refine VL.sC (o_call0 FO90 (cmp_isNaN_int.ok a0 t100 hA101) rfl rfl (ltn rfl) (All_of .nil)) rfl ?_
  rintro _ _ _ ⟨rfl, rfl, rfl⟩
  refine VL.va (op_assign rfl (ltn rfl)) rfl ?_
  refine VL.done ?_
  refine VN.then ?_
  refine VC.seq ?_
  refine VC.region ?_
  refine VL.va (op_move rfl (ltn rfl)) rfl ?_
  replace h := Option.bind_eq_some_iff.1 h
  obtain ⟨t102, hA103, h⟩ := h
  refine VL.sC (o_call0 FO90 (cmp_isNaN_int.ok a1 t102 hA103) rfl rfl (ltn rfl) (All_of .nil)) rfl ?_
  rintro _ _ _ ⟨rfl, rfl, rfl⟩
  refine VL.va (op_assign rfl (ltn rfl)) rfl ?_
  refine VL.done ?_
  refine VN.then ?_
  refine VC.seq ?_
  refine VC.seq ?_
  refine VC.region ?_
  refine VL.va (op_move rfl (ltn rfl)) rfl ?_
  refine VL.done ?_
  refine VN.then ?_
  by_cases c107 : t100 = true
  · rw [if_pos c107] at h
    obtain rfl := c107
    refine VC.cond_t rfl ?_
    refine VC.seq ?_
    refine VC.seq ?_
    refine VC.region ?_
    refine VL.va (op_move rfl (ltn rfl)) rfl ?_
    refine VL.done ?_
    refine VN.then ?_
    by_cases c109 : t102 = true
    · rw [if_pos c109] at h
      obtain rfl := c109
      refine VC.cond_t rfl ?_
      refine VC.seq ?_
      refine VC.region ?_
      refine VL.va (op_assign rfl (ltn rfl)) rfl ?_
      refine VL.done ?_
      refine VN.then ?_
      refine VC.ret ?_
      refine VR.then ?_
      refine VR.then ?_
      obtain rfl := Option.some.inj h
      exact VR.fn (rs := [.tmp 4]) [] [] [] rfl (.tmp rfl .nil) ⟨rfl, rfl, rfl⟩ trivial rfl (by decide)
    · rw [if_neg c109] at h
      obtain rfl := Bool.eq_false_iff.2 c109
      refine VC.cond_f rfl ?_
      refine VC.skip ?_
      refine VN.then ?_
      refine VC.seq ?_
      refine VC.region ?_
      refine VL.va (op_assign rfl (ltn rfl)) rfl ?_
      refine VL.done ?_
      refine VN.then ?_
      refine VC.ret ?_
      refine VR.then ?_
      obtain rfl := Option.some.inj h
      exact VR.fn (rs := [.tmp 4]) [] [] [] rfl (.tmp rfl .nil) ⟨rfl, rfl, rfl⟩ trivial rfl (by decide)
  · rw [if_neg c107] at h
    obtain rfl := Bool.eq_false_iff.2 c107
    refine VC.cond_f rfl ?_
    refine VC.skip ?_
    refine VN.then ?_
    refine VC.seq ?_
    refine VC.seq ?_
    refine VC.region ?_
    refine VL.va (op_move rfl (ltn rfl)) rfl ?_
    refine VL.done ?_
    refine VN.then ?_
    by_cases c111 : t102 = true
    · rw [if_pos c111] at h
      obtain rfl := c111
      refine VC.cond_t rfl ?_
      refine VC.seq ?_
      refine VC.region ?_
      refine VL.va (op_assign rfl (ltn rfl)) rfl ?_
      refine VL.done ?_
      refine VN.then ?_
      refine VC.ret ?_
      refine VR.then ?_
      obtain rfl := Option.some.inj h
      exact VR.fn (rs := [.tmp 4]) [] [] [] rfl (.tmp rfl .nil) ⟨rfl, rfl, rfl⟩ trivial rfl (by decide)
    · rw [if_neg c111] at h
      obtain rfl := Bool.eq_false_iff.2 c111
      refine VC.cond_f rfl ?_
      refine VC.skip ?_
      refine VN.then ?_
      refine VC.seq ?_
      refine VC.seq ?_
      refine VC.region ?_
      refine VL.va (op_move rfl (ltn rfl)) rfl ?_
      refine VL.va (op_move rfl (ltn rfl)) rfl ?_
      refine VL.letter (decide (a0 < a1)) fun b114 hb114 => ?_
      refine VL.va (op_cmp rfl rfl (congrArg some hb114) (ltn rfl)) rfl ?_
      refine VL.done ?_
      refine VN.then ?_
      by_cases c115 : a0 < a1
      · rw [if_pos c115] at h
        obtain rfl : b114 = true := hb114.symm.trans (decide_eq_true c115)
        refine VC.cond_t rfl ?_
        refine VC.seq ?_
        refine VC.region ?_
        refine VL.va (op_assign rfl (ltn rfl)) rfl ?_
        refine VL.done ?_
        refine VN.then ?_
        refine VC.ret ?_
        refine VR.then ?_
        obtain rfl := Option.some.inj h
        exact VR.fn (rs := [.tmp 4]) [] [] [] rfl (.tmp rfl .nil) ⟨rfl, rfl, rfl⟩ trivial rfl (by decide)
      · rw [if_neg c115] at h
        obtain rfl : b114 = false := hb114.symm.trans (decide_eq_false c115)
        refine VC.cond_f rfl ?_
        refine VC.skip ?_
        refine VN.then ?_
        refine VC.seq ?_
        refine VC.seq ?_
        refine VC.region ?_
        refine VL.va (op_move rfl (ltn rfl)) rfl ?_
        refine VL.va (op_move rfl (ltn rfl)) rfl ?_
        refine VL.letter (decide (a0 > a1)) fun b118 hb118 => ?_
        refine VL.va (op_cmp rfl rfl (congrArg some hb118) (ltn rfl)) rfl ?_
        refine VL.done ?_
        refine VN.then ?_
        by_cases c119 : a0 > a1
        · rw [if_pos c119] at h
          obtain rfl : b118 = true := hb118.symm.trans (decide_eq_true c119)
          refine VC.cond_t rfl ?_
          refine VC.seq ?_
          refine VC.region ?_
          refine VL.va (op_assign rfl (ltn rfl)) rfl ?_
          refine VL.done ?_
          refine VN.then ?_
          refine VC.ret ?_
          refine VR.then ?_
          obtain rfl := Option.some.inj h
          exact VR.fn (rs := [.tmp 4]) [] [] [] rfl (.tmp rfl .nil) ⟨rfl, rfl, rfl⟩ trivial rfl (by decide)
        · rw [if_neg c119] at h
          obtain rfl : b118 = false := hb118.symm.trans (decide_eq_false c119)
          refine VC.cond_f rfl ?_
          refine VC.skip ?_
          refine VN.then ?_
          refine VC.seq ?_
          refine VC.region ?_
          refine VL.va (op_assign rfl (ltn rfl)) rfl ?_
          refine VL.done ?_
          refine VN.then ?_
          refine VC.ret ?_
          obtain rfl := Option.some.inj h
          exact VR.fn (rs := [.tmp 4]) [] [] [] rfl (.tmp rfl .nil) ⟨rfl, rfl, rfl⟩ trivial rfl (by decide)
set_option maxHeartbeats 4000000 in
set_option maxRecDepth 100000 in
theorem cmp_Or_int.ok (k : Nat) (l0 : List Int) (v0 : Value) (r1 : Int) (h : cmp_Or_int.f k l0 = some r1) :
    VCalls Try.prog 79 [v0] [.row v0 1 (l0.map enc_inti64)] (fun v G own => v = .int .i64 r1 ∧ G = [] ∧ own = []) := by
  refine VCalls.intro Try.func79 rfl (len rfl) fun E hC => ?_
  unfold cmp_Or_int.f at h
  refine VC.seq ?_
  refine VC.region ?_
  refine VL.va (op_assign rfl (ltn rfl)) rfl ?_
  refine VL.done ?_
  refine VN.then ?_
  refine VC.seq ?_
  refine VC.region ?_
  refine VL.va (op_assign rfl (ltn rfl)) rfl ?_
  refine VL.done ?_
  refine VN.then ?_
  refine VC.seq ?_
  refine VC.seq ?_
  refine VC.region ?_
  refine VL.va (op_move rfl (ltn rfl)) rfl ?_
  refine VL.va (op_len (m := l0.length) 0 lenm Try.underlying42 rfl rfl (ltn rfl)) rfl ?_
  refine VL.va (op_move rfl (ltn rfl)) rfl ?_
  refine VL.done ?_
  refine VN.then ?_
  refine VC.block ?_
  refine VC.loop1 (fun (i186 : Int) => ⟨18, [(2, .int .i64 0), (3, .int .i64 0), (6, v0), (7, .int .i64 (l0.length : Int)), (8, .int .i64 i186)], [.row v0 1 (l0.map enc_inti64)], [], []⟩) (fun (ml1 : Nat) (i186 : Int) => cmp_Or_int.l1 k l0 ml1 i186 = some r1) k 0 [] [] h ⟨rfl, ⟨rfl, rfl, rfl, rfl, rfl, trivial⟩, ⟨⟨0, rfl⟩, trivial⟩, rfl, by decide, rfl, by decide⟩ (by intros; simp [cmp_Or_int.l1]) ?_
  clear h
  intro ml1 ihl1 i186 h
  simp only [cmp_Or_int.l1] at h
  refine VC.seq ?_
  refine VC.region ?_
  refine VL.letter (decide (i186 < (l0.length : Int))) fun b202 hb202 => ?_
  refine VL.va (op_cmp rfl rfl (congrArg some hb202) (ltn rfl)) rfl ?_
  refine VL.done ?_
  refine VN.then ?_
  refine VC.seq ?_
  by_cases c204 : i186 < (l0.length : Int)
  · rw [if_pos c204] at h
    obtain rfl : b202 = true := hb202.symm.trans (decide_eq_true c204)
    refine VC.cond_t rfl ?_
    refine VC.skip ?_
    refine VN.then ?_
    refine VC.seq ?_
    refine VC.block ?_
    refine VC.seq ?_
    refine VC.region ?_
    by_cases c211 : 0 ≤ i186
    · rw [if_pos c211] at h
      replace h := Option.bind_eq_some_iff.1 h
      obtain ⟨x212, hx212, h⟩ := h
      refine VL.open (m := l0.length) 0 lenm rfl (pos_get hx212) ?_
      rintro ad213 n214 rfl
      refine VL.va (op_indexAddr Try.underlying42 TI3 rfl rfl c211 (lt_get c211 hx212) rfl (ltn rfl)) rfl ?_
      refine VL.va (op_load_row (o := 0) 0 i186.toNat 1 rfl rfl (get_map hx212) TI3 rfl (by decide) (ltn rfl)) rfl ?_
      refine VL.va (op_assign rfl (ltn rfl)) rfl ?_
      refine VL.done ?_
      refine VN.then ?_
      refine VC.seq ?_
      refine VC.region ?_
      refine VL.va (op_move rfl (ltn rfl)) rfl ?_
      refine VL.va (op_move rfl (ltn rfl)) rfl ?_
      refine VL.letter ((x212 != 0)) fun b215 hb215 => ?_
      refine VL.va (op_cmp rfl rfl (congrArg some hb215) (ltn rfl)) rfl ?_
      refine VL.done ?_
      refine VN.then ?_
      by_cases c216 : x212 = 0
      · rw [if_pos c216] at h
        obtain rfl : b215 = false := hb215.symm.trans (bne_eq_false_iff_eq.2 c216)
        refine VC.cond_f rfl ?_
        refine VC.skip ?_
        refine VN.block ?_
        refine VN.then ?_
        refine VC.region ?_
        refine VL.va (op_ari64 rfl rfl rfl (ltn rfl)) rfl ?_
        refine VL.va (op_move rfl (ltn rfl)) rfl ?_
        refine VL.done ?_
        refine VN.again [] [] (ihl1 (wrap64 (i186 + 1)) h) ⟨rfl, ⟨rfl, rfl, rfl, rfl, rfl, trivial⟩, ⟨⟨0, rfl⟩, trivial⟩, rfl, by decide, rfl, by decide⟩
      · rw [if_neg c216] at h
        obtain rfl : b215 = true := hb215.symm.trans (bne_iff_ne.2 c216)
        refine VC.cond_t rfl ?_
        refine VC.seq ?_
        refine VC.region ?_
        refine VL.va (op_move rfl (ltn rfl)) rfl ?_
        refine VL.va (op_assign rfl (ltn rfl)) rfl ?_
        refine VL.done ?_
        refine VN.then ?_
        refine VC.ret ?_
        refine VR.block ?_
        refine VR.then ?_
        refine VR.then ?_
        refine VR.block ?_
        refine VR.then ?_
        obtain rfl := Option.some.inj h
        exact VR.fn (rs := [.tmp 2]) [] [] [] rfl (.tmp rfl .nil) ⟨rfl, rfl, rfl⟩ trivial rfl (by decide)
    · rw [if_neg c211] at h; cases h
  · rw [if_neg c204] at h
    obtain rfl : b202 = false := hb202.symm.trans (decide_eq_false c204)
    refine VC.cond_f rfl ?_
    refine VC.exit ?_
    refine VX.then ?_
    refine VX.then ?_
    refine VX.hit ?_
    refine VN.then ?_
    refine VC.seq ?_
    refine VC.region ?_
    refine VL.va (op_move rfl (ltn rfl)) rfl ?_
    refine VL.va (op_assign rfl (ltn rfl)) rfl ?_
    refine VL.done ?_
    refine VN.then ?_
    refine VC.ret ?_
    obtain rfl := Option.some.inj h
    exact VR.fn (rs := [.tmp 2]) [] [] [] rfl (.tmp rfl .nil) ⟨rfl, rfl, rfl⟩ trivial rfl (by decide)
set_option maxHeartbeats 4000000 in
set_option maxRecDepth 100000 in
theorem queue_compare.ok (k : Nat) (a0_0 : Int) (a0_1 : Int) (a0_2 : Int) (a1_0 : Int) (a1_1 : Int) (a1_2 : Int)  (r1 : Int) (h : queue_compare.f k a0_0 a0_1 a0_2 a1_0 a1_1 a1_2 = some r1) :
    VCalls Try.prog 62 [.agg #[.int .i64 a0_0, .int .i64 a0_1, .int .i64 a0_2], .agg #[.int .i64 a1_0, .int .i64 a1_1, .int .i64 a1_2]] [] (fun v G own => v = .int .i64 r1 ∧ G = [] ∧ own = []) := by
  refine VCalls.intro Try.func62 rfl (len rfl) fun E hC => ?_
  unfold queue_compare.f at h
  refine VC.seq ?_
  refine VC.region ?_
  refine VL.sG (o_box rfl (.agg (.c rfl (.c rfl (.c rfl .nil)))) (ltn rfl)) rfl ?_
  intro g97
  refine VL.sG (o_box rfl (.agg (.c rfl (.c rfl (.c rfl .nil)))) (ltn rfl)) rfl ?_
  intro g98
  refine VL.va (op_assign rfl (ltn rfl)) rfl ?_
  refine VL.done ?_
  refine VN.then ?_
  replace h := Option.bind_eq_some_iff.1 h
  obtain ⟨t120, hA121, h⟩ := h
  replace h := Option.bind_eq_some_iff.1 h
  obtain ⟨t122, hA123, h⟩ := h
  replace h := Option.bind_eq_some_iff.1 h
  obtain ⟨t124, hA125, h⟩ := h
  replace h := Option.bind_eq_some_iff.1 h
  obtain ⟨t217, hA218, h⟩ := h
  refine VC.join0 (⟨22, [(4, .int .i64 t217)], [], [], []⟩) (True) ?_ ?_
  · refine VC.draw ⟨0, [], [], [(g98, 60, [.int .i64 a1_0, .int .i64 a1_1, .int .i64 a1_2]), (g97, 60, [.int .i64 a0_0, .int .i64 a0_1, .int .i64 a0_2])], []⟩ (by kernel_rfl) rfl (by kernel_rfl) (n := 18) (listed := LB 18 0) ?_
    refine VA.va (i := 0) (listed' := LB 18 1) rfl (op_fieldAddr FI60_0 rfl (add_at _ _ _) (ltn rfl)) rfl (by kernel_rfl) (by kernel_rfl) (by kernel_rfl) (by kernel_rfl) ⟨trivial, ⟨⟨0, rfl⟩, ⟨1, rfl⟩, trivial⟩, trivial⟩ (fun _ _ _ h => h) ?_
    refine VA.va (i := 1) (listed' := LB 18 3) rfl (op_load 1 1 rfl rfl TI3 rfl (by decide) (ltn rfl)) rfl (by kernel_rfl) (by kernel_rfl) (by kernel_rfl) (by kernel_rfl) ⟨trivial, ⟨⟨0, rfl⟩, ⟨1, rfl⟩, trivial⟩, trivial⟩ (fun _ _ _ h => h) ?_
    refine VA.va (i := 2) (listed' := LB 18 7) rfl (op_fieldAddr FI60_0 rfl (add_at _ _ _) (ltn rfl)) rfl (by kernel_rfl) (by kernel_rfl) (by kernel_rfl) (by kernel_rfl) ⟨trivial, ⟨⟨0, rfl⟩, ⟨1, rfl⟩, trivial⟩, trivial⟩ (fun _ _ _ h => h) ?_
    refine VA.va (i := 3) (listed' := LB 18 15) rfl (op_load 0 1 rfl rfl TI3 rfl (by decide) (ltn rfl)) rfl (by kernel_rfl) (by kernel_rfl) (by kernel_rfl) (by kernel_rfl) ⟨trivial, ⟨⟨0, rfl⟩, ⟨1, rfl⟩, trivial⟩, trivial⟩ (fun _ _ _ h => h) ?_
    refine VA.va (i := 5) (listed' := LB 18 47) rfl (op_fieldAddr FI60_1 rfl (add_at _ _ _) (ltn rfl)) rfl (by kernel_rfl) (by kernel_rfl) (by kernel_rfl) (by kernel_rfl) ⟨trivial, ⟨⟨0, rfl⟩, ⟨1, rfl⟩, trivial⟩, trivial⟩ (fun _ _ _ h => h) ?_
    refine VA.va (i := 6) (listed' := LB 18 111) rfl (op_load 1 1 rfl rfl TI3 rfl (by decide) (ltn rfl)) rfl (by kernel_rfl) (by kernel_rfl) (by kernel_rfl) (by kernel_rfl) ⟨trivial, ⟨⟨0, rfl⟩, ⟨1, rfl⟩, trivial⟩, trivial⟩ (fun _ _ _ h => h) ?_
    refine VA.va (i := 7) (listed' := LB 18 239) rfl (op_fieldAddr FI60_1 rfl (add_at _ _ _) (ltn rfl)) rfl (by kernel_rfl) (by kernel_rfl) (by kernel_rfl) (by kernel_rfl) ⟨trivial, ⟨⟨0, rfl⟩, ⟨1, rfl⟩, trivial⟩, trivial⟩ (fun _ _ _ h => h) ?_
    refine VA.va (i := 8) (listed' := LB 18 495) rfl (op_load 0 1 rfl rfl TI3 rfl (by decide) (ltn rfl)) rfl (by kernel_rfl) (by kernel_rfl) (by kernel_rfl) (by kernel_rfl) ⟨trivial, ⟨⟨0, rfl⟩, ⟨1, rfl⟩, trivial⟩, trivial⟩ (fun _ _ _ h => h) ?_
    refine VA.va (i := 10) (listed' := LB 18 1519) rfl (op_fieldAddr FI60_2 rfl (add_at _ _ _) (ltn rfl)) rfl (by kernel_rfl) (by kernel_rfl) (by kernel_rfl) (by kernel_rfl) ⟨trivial, ⟨⟨0, rfl⟩, ⟨1, rfl⟩, trivial⟩, trivial⟩ (fun _ _ _ h => h) ?_
    refine VA.va (i := 11) (listed' := LB 18 3567) rfl (op_load 1 1 rfl rfl TI3 rfl (by decide) (ltn rfl)) rfl (by kernel_rfl) (by kernel_rfl) (by kernel_rfl) (by kernel_rfl) ⟨trivial, ⟨⟨0, rfl⟩, ⟨1, rfl⟩, trivial⟩, trivial⟩ (fun _ _ _ h => h) ?_
    refine VA.va (i := 12) (listed' := LB 18 7663) rfl (op_fieldAddr FI60_2 rfl (add_at _ _ _) (ltn rfl)) rfl (by kernel_rfl) (by kernel_rfl) (by kernel_rfl) (by kernel_rfl) ⟨trivial, ⟨⟨0, rfl⟩, ⟨1, rfl⟩, trivial⟩, trivial⟩ (fun _ _ _ h => h) ?_
    refine VA.va (i := 13) (listed' := LB 18 15855) rfl (op_load 0 1 rfl rfl TI3 rfl (by decide) (ltn rfl)) rfl (by kernel_rfl) (by kernel_rfl) (by kernel_rfl) (by kernel_rfl) ⟨trivial, ⟨⟨0, rfl⟩, ⟨1, rfl⟩, trivial⟩, trivial⟩ (fun _ _ _ h => h) ?_
    refine VA.oneC (i := 4) (listed' := LB 18 15871) (by kernel_rfl) rfl (o_call0 FO80 (cmp_Compare_int.ok a0_0 a1_0 t120 hA121) rfl rfl (ltn rfl) (All_of .nil)) rfl (by kernel_rfl) ?_
    rintro _ _ _ ⟨rfl, rfl, rfl⟩
    refine ⟨⟨trivial, ⟨⟨0, rfl⟩, ⟨1, rfl⟩, trivial⟩, trivial⟩, ?_⟩
    refine VA.oneC (i := 9) (listed' := LB 18 16383) (by kernel_rfl) rfl (o_call0 FO80 (cmp_Compare_int.ok a0_1 a1_1 t122 hA123) rfl rfl (ltn rfl) (All_of .nil)) rfl (by kernel_rfl) ?_
    rintro _ _ _ ⟨rfl, rfl, rfl⟩
    refine ⟨⟨trivial, ⟨⟨0, rfl⟩, ⟨1, rfl⟩, trivial⟩, trivial⟩, ?_⟩
    refine VA.oneC (i := 14) (listed' := LB 18 32767) (by kernel_rfl) rfl (o_call0 FO80 (cmp_Compare_int.ok a0_2 a1_2 t124 hA125) rfl rfl (ltn rfl) (All_of .nil)) rfl (by kernel_rfl) ?_
    rintro _ _ _ ⟨rfl, rfl, rfl⟩
    refine ⟨⟨trivial, ⟨⟨0, rfl⟩, ⟨1, rfl⟩, trivial⟩, trivial⟩, ?_⟩
    refine VA.oneG (i := 15) (listed' := LB 18 65535) (by kernel_rfl) rfl (o_buildSlice (vals := [(0, .int .i64 t120), (1, .int .i64 t122), (2, .int .i64 t124)]) (cells := #[.int .i64 t120, .int .i64 t122, .int .i64 t124]) (es := List.map enc_inti64 ([t120, t122, t124] : List Int)) Try.underlying42 TI3 Z3 rfl (by decide) (by decide) (by kernel_rfl) (by kernel_rfl) rfl (flat_map enc_inti64_ok _) (ltn rfl)) rfl (by kernel_rfl) (fun _ => ⟨trivial, ⟨⟨0, rfl⟩, ⟨1, rfl⟩, trivial⟩, trivial⟩) ?_
    intro v127
    refine VA.oneC (i := 16) (listed' := LB 18 131071) (by kernel_rfl) rfl (o_call_b0 FO79 (cmp_Or_int.ok k ([t120, t122, t124] : List Int) v127 t217 hA218) rfl rfl (ltn rfl) (All_of (.cons (.inr (.inl ⟨_, List.mem_of_getElem? (i := 0) rfl, rfl⟩)) .nil)) (by rintro _ _ _ ⟨rfl, rfl, rfl⟩; rfl)) rfl (by kernel_rfl) ?_
    rintro _ _ _ ⟨rfl, rfl, rfl⟩
    refine ⟨⟨trivial, ⟨⟨0, rfl⟩, ⟨1, rfl⟩, trivial⟩, trivial⟩, ?_⟩
    refine VA.va (i := 17) (listed' := LB 18 262143) rfl (op_assign rfl (ltn rfl)) rfl (by kernel_rfl) (by kernel_rfl) (by kernel_rfl) (by kernel_rfl) ⟨trivial, ⟨⟨0, rfl⟩, ⟨1, rfl⟩, trivial⟩, trivial⟩ (fun _ _ _ h => h) ?_
    refine VA.done (by kernel_rfl) ?_
    exact VN.meet0  [] [] trivial ⟨rfl, ⟨rfl, trivial⟩, trivial, rfl, by decide, rfl, by decide⟩
  intro _
  refine VC.ret ?_
  obtain rfl := Option.some.inj h
  exact VR.fn (rs := [.tmp 4]) [] [] [] rfl (.tmp rfl .nil) ⟨rfl, rfl, rfl⟩ trivial rfl (by decide)
set_option maxHeartbeats 4000000 in
set_option maxRecDepth 100000 in
theorem queue_Less.ok (k : Nat) (a0_0 : Int) (a0_1 : Int) (a0_2 : Int) (a1_0 : Int) (a1_1 : Int) (a1_2 : Int)  (r1 : Bool) (h : queue_Less.f k a0_0 a0_1 a0_2 a1_0 a1_1 a1_2 = some r1) :
    VCalls Try.prog 43 [.agg #[.int .i64 a0_0, .int .i64 a0_1, .int .i64 a0_2], .agg #[.int .i64 a1_0, .int .i64 a1_1, .int .i64 a1_2]] [] (fun v G own => v = .bool r1 ∧ G = [] ∧ own = []) := by
  refine VCalls.intro Try.func43 rfl (len rfl) fun E hC => ?_
  unfold queue_Less.f at h
  refine VC.seq ?_
  refine VC.region ?_
  refine VL.sG (o_box rfl (.agg (.c rfl (.c rfl (.c rfl .nil)))) (ltn rfl)) rfl ?_
  intro g95
  refine VL.sG (o_box rfl (.agg (.c rfl (.c rfl (.c rfl .nil)))) (ltn rfl)) rfl ?_
  intro g96
  refine VL.va (op_assign rfl (ltn rfl)) rfl ?_
  refine VL.done ?_
  refine VN.then ?_
  refine VC.seq ?_
  refine VC.region ?_
  refine VL.va (op_load 1 3 rfl rfl TI60 rfl (fun h => absurd h (by decide)) (ltn rfl)) rfl ?_
  refine VL.va (op_load 0 3 rfl rfl TI60 rfl (fun h => absurd h (by decide)) (ltn rfl)) rfl ?_
  replace h := Option.bind_eq_some_iff.1 h
  obtain ⟨t219, hA220, h⟩ := h
  refine VL.sC (o_call0 FO62 (queue_compare.ok k a0_0 a0_1 a0_2 a1_0 a1_1 a1_2 t219 hA220) rfl rfl (ltn rfl) (All_of .nil)) rfl ?_
  rintro _ _ _ ⟨rfl, rfl, rfl⟩
  refine VL.letter (decide (t219 < 0)) fun b221 hb221 => ?_
  refine VL.va (op_cmp rfl rfl (congrArg some hb221) (ltn rfl)) rfl ?_
  refine VL.va (op_assign rfl (ltn rfl)) rfl ?_
  refine VL.done ?_
  refine VN.then ?_
  refine VC.ret ?_
  obtain rfl := Option.some.inj h
  subst hb221
  exact VR.fn (rs := [.tmp 4]) [] [] [] rfl (.tmp rfl .nil) ⟨rfl, rfl, rfl⟩ trivial rfl (by decide)
set_option maxHeartbeats 4000000 in
set_option maxRecDepth 100000 in
theorem queue_number.ok (a0 : Int)  (r1 : Bool) (h : queue_number.f a0 = some r1) :
    VCalls Try.prog 82 [.int .i64 a0] [] (fun v G own => v = .bool r1 ∧ G = [] ∧ own = []) := by
  refine VCalls.intro Try.func82 rfl (len rfl) fun E hC => ?_
  unfold queue_number.f at h
  refine VC.seq ?_
  refine VC.region ?_
  refine VL.va (op_assign rfl (ltn rfl)) rfl ?_
  refine VL.done ?_
  refine VN.then ?_
  refine VC.seq ?_
  refine VC.region ?_
  refine VL.va (op_move rfl (ltn rfl)) rfl ?_
  refine VL.letter (decide (a0 ≥ 1)) fun b325 hb325 => ?_
  refine VL.va (op_cmp rfl rfl (congrArg some hb325) (ltn rfl)) rfl ?_
  refine VL.va (op_move rfl (ltn rfl)) rfl ?_
  by_cases c326 : a0 ≥ 1
  · rw [if_pos c326] at h
    obtain rfl : b325 = true := hb325.symm.trans (decide_eq_true c326)
    refine VL.va (op_move rfl (ltn rfl)) rfl ?_
    refine VL.letter (decide (a0 ≤ 1099511627776)) fun b327 hb327 => ?_
    refine VL.va (op_cmp rfl rfl (congrArg some hb327) (ltn rfl)) rfl ?_
    refine VL.va (op_pick rfl rfl (ltn rfl)) rfl ?_
    refine VL.va (op_assign rfl (ltn rfl)) rfl ?_
    refine VL.done ?_
    refine VN.then ?_
    refine VC.ret ?_
    obtain rfl := Option.some.inj h
    subst hb327
    exact VR.fn (rs := [.tmp 2]) [] [] [] rfl (.tmp rfl .nil) ⟨rfl, rfl, rfl⟩ trivial rfl (by decide)
  · rw [if_neg c326] at h
    obtain rfl : b325 = false := hb325.symm.trans (decide_eq_false c326)
    refine VL.un rfl rfl (ltn rfl) ?_
    refine VL.un rfl rfl (ltn rfl) ?_
    refine VL.va (op_pick rfl rfl (ltn rfl)) rfl ?_
    refine VL.va (op_assign rfl (ltn rfl)) rfl ?_
    refine VL.done ?_
    refine VN.then ?_
    refine VC.ret ?_
    obtain rfl := Option.some.inj h
    exact VR.fn (rs := [.tmp 2]) [] [] [] rfl (.tmp rfl .nil) ⟨rfl, rfl, rfl⟩ trivial rfl (by decide)
set_option maxHeartbeats 4000000 in
set_option maxRecDepth 100000 in
theorem queue_may.ok (a0_0 : Int) (a0_1 : Int) (a0_2 : Int)  (r1 : Bool) (h : queue_may.f a0_0 a0_1 a0_2 = some r1) :
    VCalls Try.prog 65 [.agg #[.int .i64 a0_0, .int .i64 a0_1, .int .i64 a0_2]] [] (fun v G own => v = .bool r1 ∧ G = [] ∧ own = []) := by
  refine VCalls.intro Try.func65 rfl (len rfl) fun E hC => ?_
  unfold queue_may.f at h
  refine VC.seq ?_
  refine VC.region ?_
  refine VL.sG (o_box rfl (.agg (.c rfl (.c rfl (.c rfl .nil)))) (ltn rfl)) rfl ?_
  intro g317
  refine VL.va (op_assign rfl (ltn rfl)) rfl ?_
  refine VL.done ?_
  refine VN.then ?_
  refine VC.seq ?_
  refine VC.region ?_
  refine VL.va (op_fieldAddr FI60_0 rfl (add_at _ _ _) (ltn rfl)) rfl ?_
  refine VL.va (op_load 0 1 rfl rfl TI3 rfl (by decide) (ltn rfl)) rfl ?_
  refine VL.letter (decide (a0_0 ≥ 0)) fun b333 hb333 => ?_
  refine VL.va (op_cmp rfl rfl (congrArg some hb333) (ltn rfl)) rfl ?_
  refine VL.va (op_move rfl (ltn rfl)) rfl ?_
  by_cases c334 : a0_0 ≥ 0
  · rw [if_pos c334] at h
    obtain rfl : b333 = true := hb333.symm.trans (decide_eq_true c334)
    refine VL.va (op_fieldAddr FI60_0 rfl (add_at _ _ _) (ltn rfl)) rfl ?_
    refine VL.va (op_load 0 1 rfl rfl TI3 rfl (by decide) (ltn rfl)) rfl ?_
    refine VL.letter (decide (a0_0 < 4)) fun b335 hb335 => ?_
    refine VL.va (op_cmp rfl rfl (congrArg some hb335) (ltn rfl)) rfl ?_
    refine VL.va (op_pick rfl rfl (ltn rfl)) rfl ?_
    refine VL.va (op_move rfl (ltn rfl)) rfl ?_
    by_cases c336 : a0_0 < 4
    · rw [if_pos c336] at h
      obtain rfl : b335 = true := hb335.symm.trans (decide_eq_true c336)
      refine VL.va (op_fieldAddr FI60_1 rfl (add_at _ _ _) (ltn rfl)) rfl ?_
      refine VL.va (op_load 0 1 rfl rfl TI3 rfl (by decide) (ltn rfl)) rfl ?_
      replace h := Option.bind_eq_some_iff.1 h
      obtain ⟨t337, hA338, h⟩ := h
      refine VL.sC (o_call0 FO82 (queue_number.ok a0_1 t337 hA338) rfl rfl (ltn rfl) (All_of .nil)) rfl ?_
      rintro _ _ _ ⟨rfl, rfl, rfl⟩
      refine VL.va (op_pick rfl rfl (ltn rfl)) rfl ?_
      refine VL.va (op_move rfl (ltn rfl)) rfl ?_
      by_cases c339 : t337 = true
      · rw [if_pos c339] at h
        obtain rfl := c339
        refine VL.va (op_fieldAddr FI60_2 rfl (add_at _ _ _) (ltn rfl)) rfl ?_
        refine VL.va (op_load 0 1 rfl rfl TI3 rfl (by decide) (ltn rfl)) rfl ?_
        replace h := Option.bind_eq_some_iff.1 h
        obtain ⟨t340, hA341, h⟩ := h
        refine VL.sC (o_call0 FO82 (queue_number.ok a0_2 t340 hA341) rfl rfl (ltn rfl) (All_of .nil)) rfl ?_
        rintro _ _ _ ⟨rfl, rfl, rfl⟩
        refine VL.va (op_pick rfl rfl (ltn rfl)) rfl ?_
        refine VL.va (op_assign rfl (ltn rfl)) rfl ?_
        refine VL.done ?_
        refine VN.then ?_
        refine VC.ret ?_
        obtain rfl := Option.some.inj h
        exact VR.fn (rs := [.tmp 2]) [] [] [] rfl (.tmp rfl .nil) ⟨rfl, rfl, rfl⟩ trivial rfl (by decide)
      · rw [if_neg c339] at h
        obtain rfl := Bool.eq_false_iff.2 c339
        refine VL.un rfl rfl (ltn rfl) ?_
        refine VL.un rfl rfl (ltn rfl) ?_
        refine VL.un rfl rfl (ltn rfl) ?_
        refine VL.va (op_pick rfl rfl (ltn rfl)) rfl ?_
        refine VL.va (op_assign rfl (ltn rfl)) rfl ?_
        refine VL.done ?_
        refine VN.then ?_
        refine VC.ret ?_
        obtain rfl := Option.some.inj h
        exact VR.fn (rs := [.tmp 2]) [] [] [] rfl (.tmp rfl .nil) ⟨rfl, rfl, rfl⟩ trivial rfl (by decide)
    · rw [if_neg c336] at h
      obtain rfl : b335 = false := hb335.symm.trans (decide_eq_false c336)
      refine VL.un rfl rfl (ltn rfl) ?_
      refine VL.un rfl rfl (ltn rfl) ?_
      refine VL.un rfl rfl (ltn rfl) ?_
      refine VL.va (op_pick rfl rfl (ltn rfl)) rfl ?_
      refine VL.va (op_move rfl (ltn rfl)) rfl ?_
      refine VL.un rfl rfl (ltn rfl) ?_
      refine VL.un rfl rfl (ltn rfl) ?_
      refine VL.un rfl rfl (ltn rfl) ?_
      refine VL.va (op_pick rfl rfl (ltn rfl)) rfl ?_
      refine VL.va (op_assign rfl (ltn rfl)) rfl ?_
      refine VL.done ?_
      refine VN.then ?_
      refine VC.ret ?_
      obtain rfl := Option.some.inj h
      exact VR.fn (rs := [.tmp 2]) [] [] [] rfl (.tmp rfl .nil) ⟨rfl, rfl, rfl⟩ trivial rfl (by decide)
  · rw [if_neg c334] at h
    obtain rfl : b333 = false := hb333.symm.trans (decide_eq_false c334)
    refine VL.un rfl rfl (ltn rfl) ?_
    refine VL.un rfl rfl (ltn rfl) ?_
    refine VL.un rfl rfl (ltn rfl) ?_
    refine VL.va (op_pick rfl rfl (ltn rfl)) rfl ?_
    refine VL.va (op_move rfl (ltn rfl)) rfl ?_
    refine VL.un rfl rfl (ltn rfl) ?_
    refine VL.un rfl rfl (ltn rfl) ?_
    refine VL.un rfl rfl (ltn rfl) ?_
    refine VL.va (op_pick rfl rfl (ltn rfl)) rfl ?_
    refine VL.va (op_move rfl (ltn rfl)) rfl ?_
    refine VL.un rfl rfl (ltn rfl) ?_
    refine VL.un rfl rfl (ltn rfl) ?_
    refine VL.un rfl rfl (ltn rfl) ?_
    refine VL.va (op_pick rfl rfl (ltn rfl)) rfl ?_
    refine VL.va (op_assign rfl (ltn rfl)) rfl ?_
    refine VL.done ?_
    refine VN.then ?_
    refine VC.ret ?_
    obtain rfl := Option.some.inj h
    exact VR.fn (rs := [.tmp 2]) [] [] [] rfl (.tmp rfl .nil) ⟨rfl, rfl, rfl⟩ trivial rfl (by decide)
set_option maxHeartbeats 4000000 in
set_option maxRecDepth 100000 in
theorem queue_all_1.ok (a0_0 : Int) (a0_1 : Int) (a0_2 : Int)  (r1 : Bool) (h : queue_all_1.f a0_0 a0_1 a0_2 = some r1) :
    VCalls Try.prog 64 [.agg #[.int .i64 a0_0, .int .i64 a0_1, .int .i64 a0_2]] [] (fun v G own => v = .bool r1 ∧ G = [] ∧ own = []) := by
  refine VCalls.intro Try.func64 rfl (len rfl) fun E hC => ?_
  unfold queue_all_1.f at h
  refine VC.seq ?_
  refine VC.region ?_
  refine VL.sG (o_box rfl (.agg (.c rfl (.c rfl (.c rfl .nil)))) (ltn rfl)) rfl ?_
  intro g316
  refine VL.va (op_assign rfl (ltn rfl)) rfl ?_
  refine VL.done ?_
  refine VN.then ?_
  refine VC.seq ?_
  refine VC.region ?_
  refine VL.va (op_load 0 3 rfl rfl TI60 rfl (fun h => absurd h (by decide)) (ltn rfl)) rfl ?_
  replace h := Option.bind_eq_some_iff.1 h
  obtain ⟨t345, hA346, h⟩ := h
  refine VL.sC (o_call0 FO65 (queue_may.ok a0_0 a0_1 a0_2 t345 hA346) rfl rfl (ltn rfl) (All_of .nil)) rfl ?_
  rintro _ _ _ ⟨rfl, rfl, rfl⟩
  by_cases c347 : t345 = true
  · rw [if_pos c347] at h
    obtain rfl := c347
    refine VL.va (op_not rfl rfl (ltn rfl)) rfl ?_
    refine VL.va (op_assign rfl (ltn rfl)) rfl ?_
    refine VL.done ?_
    refine VN.then ?_
    refine VC.ret ?_
    obtain rfl := Option.some.inj h
    exact VR.fn (rs := [.tmp 2]) [] [] [] rfl (.tmp rfl .nil) ⟨rfl, rfl, rfl⟩ trivial rfl (by decide)
  · rw [if_neg c347] at h
    obtain rfl := Bool.eq_false_iff.2 c347
    refine VL.va (op_not rfl rfl (ltn rfl)) rfl ?_
    refine VL.va (op_assign rfl (ltn rfl)) rfl ?_
    refine VL.done ?_
    refine VN.then ?_
    refine VC.ret ?_
    obtain rfl := Option.some.inj h
    exact VR.fn (rs := [.tmp 2]) [] [] [] rfl (.tmp rfl .nil) ⟨rfl, rfl, rfl⟩ trivial rfl (by decide)
set_option maxHeartbeats 4000000 in
set_option maxRecDepth 100000 in
theorem slices_IndexFunc_api_Wait_api_Wait.ok (k : Nat) (l0 : List S59) (v0 : Value) (r1 : Int) (h : slices_IndexFunc_api_Wait_api_Wait.f k l0 = some r1) :
    VCalls Try.prog 81 [v0, (.func (.func 64) #[] #[])] [.row v0 3 (l0.map enc59)] (fun v G own => v = .int .i64 r1 ∧ G = [] ∧ own = []) := by
  refine VCalls.intro Try.func81 rfl (len rfl) fun E hC => ?_
  unfold slices_IndexFunc_api_Wait_api_Wait.f at h
  refine VC.seq ?_
  refine VC.region ?_
  refine VL.va (op_assign rfl (ltn rfl)) rfl ?_
  refine VL.done ?_
  refine VN.then ?_
  refine VC.seq ?_
  refine VC.seq ?_
  refine VC.region ?_
  refine VL.va (op_move rfl (ltn rfl)) rfl ?_
  refine VL.va (op_len (m := l0.length) 0 lenm Try.underlying66 rfl rfl (ltn rfl)) rfl ?_
  refine VL.va (op_move rfl (ltn rfl)) rfl ?_
  refine VL.done ?_
  refine VN.then ?_
  refine VC.block ?_
  refine VC.loop1 (fun (i407 : Int) => ⟨19, [(0, v0), (1, (.func (.func 64) #[] #[])), (4, .int .i64 0), (7, .int .i64 (l0.length : Int)), (8, .int .i64 i407)], [.row v0 3 (l0.map enc59)], [], []⟩) (fun (ml1 : Nat) (i407 : Int) => slices_IndexFunc_api_Wait_api_Wait.l1 k l0 ml1 i407 = some r1) k 0 [] [] h ⟨rfl, ⟨rfl, rfl, rfl, rfl, rfl, trivial⟩, ⟨⟨0, rfl⟩, trivial⟩, rfl, by decide, rfl, by decide⟩ (by intros; simp [slices_IndexFunc_api_Wait_api_Wait.l1]) ?_
  clear h
  intro ml1 ihl1 i407 h
  simp only [slices_IndexFunc_api_Wait_api_Wait.l1] at h
  refine VC.seq ?_
  refine VC.region ?_
  refine VL.letter (decide (i407 < (l0.length : Int))) fun b425 hb425 => ?_
  refine VL.va (op_cmp rfl rfl (congrArg some hb425) (ltn rfl)) rfl ?_
  refine VL.done ?_
  refine VN.then ?_
  refine VC.seq ?_
  by_cases c427 : i407 < (l0.length : Int)
  · rw [if_pos c427] at h
    obtain rfl : b425 = true := hb425.symm.trans (decide_eq_true c427)
    refine VC.cond_t rfl ?_
    refine VC.skip ?_
    refine VN.then ?_
    refine VC.seq ?_
    refine VC.block ?_
    refine VC.seq ?_
    refine VC.region ?_
    refine VL.va (op_move rfl (ltn rfl)) rfl ?_
    refine VL.va (op_assign rfl (ltn rfl)) rfl ?_
    refine VL.done ?_
    refine VN.then ?_
    refine VC.seq ?_
    refine VC.region ?_
    refine VL.va (op_move rfl (ltn rfl)) rfl ?_
    refine VL.va (op_move rfl (ltn rfl)) rfl ?_
    refine VL.va (op_move rfl (ltn rfl)) rfl ?_
    by_cases c435 : 0 ≤ i407
    · rw [if_pos c435] at h
      replace h := Option.bind_eq_some_iff.1 h
      obtain ⟨x436, hx436, h⟩ := h
      refine VL.open (m := l0.length) 0 lenm rfl (pos_get hx436) ?_
      rintro ad437 n438 rfl
      refine VL.va (op_indexAddr Try.underlying66 TI60 rfl rfl c435 (lt_get c435 hx436) rfl (ltn rfl)) rfl ?_
      refine VL.va (op_load_row (o := 0) 0 i407.toNat 3 rfl rfl (get_map hx436) TI60 rfl (fun h => absurd h (by decide)) (ltn rfl)) rfl ?_
      replace h := Option.bind_eq_some_iff.1 h
      obtain ⟨t439, hA440, h⟩ := h
      refine VL.sC (o_call0 FO64 (queue_all_1.ok x436.f0 x436.f1 x436.f2 t439 hA440) rfl rfl (ltn rfl) (All_of .nil)) rfl ?_
      rintro _ _ _ ⟨rfl, rfl, rfl⟩
      refine VL.done ?_
      refine VN.then ?_
      by_cases c441 : t439 = true
      · rw [if_pos c441] at h
        obtain rfl := c441
        refine VC.cond_t rfl ?_
        refine VC.seq ?_
        refine VC.region ?_
        refine VL.va (op_move rfl (ltn rfl)) rfl ?_
        refine VL.va (op_assign rfl (ltn rfl)) rfl ?_
        refine VL.done ?_
        refine VN.then ?_
        refine VC.ret ?_
        refine VR.block ?_
        refine VR.then ?_
        refine VR.then ?_
        refine VR.block ?_
        refine VR.then ?_
        obtain rfl := Option.some.inj h
        exact VR.fn (rs := [.tmp 4]) [] [] [] rfl (.tmp rfl .nil) ⟨rfl, rfl, rfl⟩ trivial rfl (by decide)
      · rw [if_neg c441] at h
        obtain rfl := Bool.eq_false_iff.2 c441
        refine VC.cond_f rfl ?_
        refine VC.skip ?_
        refine VN.block ?_
        refine VN.then ?_
        refine VC.region ?_
        refine VL.va (op_ari64 rfl rfl rfl (ltn rfl)) rfl ?_
        refine VL.va (op_move rfl (ltn rfl)) rfl ?_
        refine VL.done ?_
        refine VN.again [] [] (ihl1 (wrap64 (i407 + 1)) h) ⟨rfl, ⟨rfl, rfl, rfl, rfl, rfl, trivial⟩, ⟨⟨0, rfl⟩, trivial⟩, rfl, by decide, rfl, by decide⟩
    · rw [if_neg c435] at h; cases h
  · rw [if_neg c427] at h
    obtain rfl : b425 = false := hb425.symm.trans (decide_eq_false c427)
    refine VC.cond_f rfl ?_
    refine VC.exit ?_
    refine VX.then ?_
    refine VX.then ?_
    refine VX.hit ?_
    refine VN.then ?_
    refine VC.seq ?_
    refine VC.region ?_
    refine VL.va (op_assign rfl (ltn rfl)) rfl ?_
    refine VL.done ?_
    refine VN.then ?_
    refine VC.ret ?_
    obtain rfl := Option.some.inj h
    exact VR.fn (rs := [.tmp 4]) [] [] [] rfl (.tmp rfl .nil) ⟨rfl, rfl, rfl⟩ trivial rfl (by decide)
set_option maxHeartbeats 4000000 in
set_option maxRecDepth 100000 in
theorem slices_ContainsFunc_api_Wait_api_Wait.ok (k : Nat) (l0 : List S59) (v0 : Value) (r1 : Bool) (h : slices_ContainsFunc_api_Wait_api_Wait.f k l0 = some r1) :
    VCalls Try.prog 63 [v0, (.func (.func 64) #[] #[])] [.row v0 3 (l0.map enc59)] (fun v G own => v = .bool r1 ∧ G = [] ∧ own = []) := by
  refine VCalls.intro Try.func63 rfl (len rfl) fun E hC => ?_
  unfold slices_ContainsFunc_api_Wait_api_Wait.f at h
  refine VC.seq ?_
  refine VC.region ?_
  refine VL.va (op_assign rfl (ltn rfl)) rfl ?_
  refine VL.done ?_
  refine VN.then ?_
  refine VC.seq ?_
  refine VC.region ?_
  refine VL.va (op_move rfl (ltn rfl)) rfl ?_
  refine VL.va (op_move rfl (ltn rfl)) rfl ?_
  replace h := Option.bind_eq_some_iff.1 h
  obtain ⟨t442, hA443, h⟩ := h
  refine VL.sC (o_call0 FO81 (slices_IndexFunc_api_Wait_api_Wait.ok k l0 v0 t442 hA443) rfl rfl (ltn rfl) (All_of (.cons (List.mem_of_getElem? (i := 0) rfl) .nil))) rfl ?_
  rintro _ _ _ ⟨rfl, rfl, rfl⟩
  refine VL.letter (decide (t442 ≥ 0)) fun b444 hb444 => ?_
  refine VL.va (op_cmp rfl rfl (congrArg some hb444) (ltn rfl)) rfl ?_
  refine VL.va (op_assign rfl (ltn rfl)) rfl ?_
  refine VL.done ?_
  refine VN.then ?_
  refine VC.ret ?_
  obtain rfl := Option.some.inj h
  subst hb444
  exact VR.fn (rs := [.tmp 4]) [] [] [] rfl (.tmp rfl .nil) ⟨rfl, rfl, rfl⟩ trivial rfl (by decide)
set_option maxHeartbeats 4000000 in
set_option maxRecDepth 100000 in
theorem queue_all.ok (k : Nat) (l0 : List S59) (v0 : Value) (r1 : Bool) (h : queue_all.f k l0 = some r1) :
    VCalls Try.prog 44 [v0] [.row v0 3 (l0.map enc59)] (fun v G own => v = .bool r1 ∧ G = [] ∧ own = []) := by
  refine VCalls.intro Try.func44 rfl (len rfl) fun E hC => ?_
  unfold queue_all.f at h
  refine VC.seq ?_
  refine VC.region ?_
  refine VL.va (op_assign rfl (ltn rfl)) rfl ?_
  refine VL.done ?_
  refine VN.then ?_
  refine VC.seq ?_
  refine VC.region ?_
  refine VL.va (op_move rfl (ltn rfl)) rfl ?_
  refine VL.va (op_len (m := l0.length) 0 lenm Try.underlying66 rfl rfl (ltn rfl)) rfl ?_
  refine VL.letter (decide ((l0.length : Int) ≤ 64)) fun b448 hb448 => ?_
  refine VL.va (op_cmp rfl rfl (congrArg some hb448) (ltn rfl)) rfl ?_
  refine VL.va (op_move rfl (ltn rfl)) rfl ?_
  by_cases c449 : (l0.length : Int) ≤ 64
  · rw [if_pos c449] at h
    obtain rfl : b448 = true := hb448.symm.trans (decide_eq_true c449)
    refine VL.va (op_move rfl (ltn rfl)) rfl ?_
    replace h := Option.bind_eq_some_iff.1 h
    obtain ⟨t450, hA451, h⟩ := h
    refine VL.sC (o_call0 FO63 (slices_ContainsFunc_api_Wait_api_Wait.ok k l0 v0 t450 hA451) rfl rfl (ltn rfl) (All_of (.cons (List.mem_of_getElem? (i := 0) rfl) .nil))) rfl ?_
    rintro _ _ _ ⟨rfl, rfl, rfl⟩
    by_cases c452 : t450 = true
    · rw [if_pos c452] at h
      obtain rfl := c452
      refine VL.va (op_not rfl rfl (ltn rfl)) rfl ?_
      refine VL.va (op_pick rfl rfl (ltn rfl)) rfl ?_
      refine VL.va (op_assign rfl (ltn rfl)) rfl ?_
      refine VL.done ?_
      refine VN.then ?_
      refine VC.ret ?_
      obtain rfl := Option.some.inj h
      exact VR.fn (rs := [.tmp 2]) [] [] [] rfl (.tmp rfl .nil) ⟨rfl, rfl, rfl⟩ trivial rfl (by decide)
    · rw [if_neg c452] at h
      obtain rfl := Bool.eq_false_iff.2 c452
      refine VL.va (op_not rfl rfl (ltn rfl)) rfl ?_
      refine VL.va (op_pick rfl rfl (ltn rfl)) rfl ?_
      refine VL.va (op_assign rfl (ltn rfl)) rfl ?_
      refine VL.done ?_
      refine VN.then ?_
      refine VC.ret ?_
      obtain rfl := Option.some.inj h
      exact VR.fn (rs := [.tmp 2]) [] [] [] rfl (.tmp rfl .nil) ⟨rfl, rfl, rfl⟩ trivial rfl (by decide)
  · rw [if_neg c449] at h
    obtain rfl : b448 = false := hb448.symm.trans (decide_eq_false c449)
    refine VL.un rfl rfl (ltn rfl) ?_
    refine VL.un rfl rfl (ltn rfl) ?_
    refine VL.un rfl rfl (ltn rfl) ?_
    refine VL.va (op_pick rfl rfl (ltn rfl)) rfl ?_
    refine VL.va (op_assign rfl (ltn rfl)) rfl ?_
    refine VL.done ?_
    refine VN.then ?_
    refine VC.ret ?_
    obtain rfl := Option.some.inj h
    exact VR.fn (rs := [.tmp 2]) [] [] [] rfl (.tmp rfl .nil) ⟨rfl, rfl, rfl⟩ trivial rfl (by decide)
set_option maxHeartbeats 4000000 in
set_option maxRecDepth 100000 in
theorem queue_Right.ok (k : Nat) (l0 : List S59) (v0 : Value) (r1 : Bool) (h : queue_Right.f k l0 = some r1) :
    VCalls Try.prog 32 [v0] [.row v0 3 (l0.map enc59)] (fun v G own => v = .bool r1 ∧ G = [] ∧ own = []) := by
  refine VCalls.intro Try.func32 rfl (len rfl) fun E hC => ?_
  unfold queue_Right.f at h
  refine VC.seq ?_
  refine VC.region ?_
  refine VL.va (op_assign rfl (ltn rfl)) rfl ?_
  refine VL.done ?_
  refine VN.then ?_
  refine VC.seq ?_
  refine VC.seq ?_
  refine VC.region ?_
  refine VL.va (op_assign rfl (ltn rfl)) rfl ?_
  refine VL.done ?_
  refine VN.then ?_
  refine VC.block ?_
  refine VC.loop1 (fun (i284 : Int) => ⟨23, [(0, v0), (2, .bool false), (3, .int .i64 i284)], [.row v0 3 (l0.map enc59)], [], []⟩) (fun (ml1 : Nat) (i284 : Int) => queue_Right.l1 k l0 ml1 i284 = some r1) k 1 [] [] h ⟨rfl, ⟨rfl, rfl, rfl, trivial⟩, ⟨⟨0, rfl⟩, trivial⟩, rfl, by decide, rfl, by decide⟩ (by intros; simp [queue_Right.l1]) ?_
  clear h
  intro ml1 ihl1 i284 h
  simp only [queue_Right.l1] at h
  refine VC.seq ?_
  refine VC.seq ?_
  refine VC.region ?_
  refine VL.va (op_move rfl (ltn rfl)) rfl ?_
  refine VL.va (op_move rfl (ltn rfl)) rfl ?_
  refine VL.va (op_len (m := l0.length) 0 lenm Try.underlying66 rfl rfl (ltn rfl)) rfl ?_
  refine VL.letter (decide (i284 < (l0.length : Int))) fun b455 hb455 => ?_
  refine VL.va (op_cmp rfl rfl (congrArg some hb455) (ltn rfl)) rfl ?_
  refine VL.done ?_
  refine VN.then ?_
  by_cases c456 : i284 < (l0.length : Int)
  · rw [if_pos c456] at h
    obtain rfl : b455 = true := hb455.symm.trans (decide_eq_true c456)
    refine VC.cond_t rfl ?_
    refine VC.skip ?_
    refine VN.then ?_
    refine VC.seq ?_
    refine VC.block ?_
    by_cases c464 : 0 ≤ i284
    · rw [if_pos c464] at h
      replace h := Option.bind_eq_some_iff.1 h
      obtain ⟨x465, hx465, h⟩ := h
      by_cases c466 : 0 ≤ IntKind.i64.wrap ((wrap64 (i284 - 1)).tdiv 2)
      · rw [if_pos c466] at h
        replace h := Option.bind_eq_some_iff.1 h
        obtain ⟨x467, hx467, h⟩ := h
        replace h := Option.bind_eq_some_iff.1 h
        obtain ⟨t468, hA469, h⟩ := h
        refine VC.open (m := l0.length) 0 lenm rfl (pos_get hx465) ?_
        rintro ad91 n92 rfl
        refine VC.join0 (⟨23, [(0, (.slice (some ad91) l0.length n92)), (2, .bool false), (3, .int .i64 i284), (4, .int .i64 i284), (5, (.slice (some ad91) l0.length n92)), (6, .int .i64 (l0.length : Int)), (7, .bool true), (10, (.slice (some ad91) l0.length n92)), (11, .int .i64 i284), (13, .agg #[.int .i64 x465.f0, .int .i64 x465.f1, .int .i64 x465.f2]), (14, (.slice (some ad91) l0.length n92)), (15, .int .i64 i284), (16, .int .i64 (wrap64 (i284 - 1))), (17, .int .i64 (IntKind.i64.wrap ((wrap64 (i284 - 1)).tdiv 2))), (19, .agg #[.int .i64 x467.f0, .int .i64 x467.f1, .int .i64 x467.f2]), (20, .bool t468)], [.row (.slice (some ad91) l0.length n92) 3 (l0.map enc59)], [], []⟩) (True) ?_ ?_
        · refine VC.draw ⟨0, [], [.row (.slice (some ad91) l0.length n92) 3 (l0.map enc59)], [], []⟩ (by kernel_rfl) rfl (by kernel_rfl) (n := 11) (listed := LB 11 0) ?_
          refine VA.va (i := 0) (listed' := LB 11 1) rfl (op_move rfl (ltn rfl)) rfl (by kernel_rfl) (by kernel_rfl) (by kernel_rfl) (by kernel_rfl) ⟨⟨⟨0, rfl⟩, trivial⟩, trivial, trivial⟩ (fun _ _ _ h => h) ?_
          refine VA.va (i := 1) (listed' := LB 11 3) rfl (op_move rfl (ltn rfl)) rfl (by kernel_rfl) (by kernel_rfl) (by kernel_rfl) (by kernel_rfl) ⟨⟨⟨0, rfl⟩, trivial⟩, trivial, trivial⟩ (fun _ _ _ h => h) ?_
          refine VA.va (i := 2) (listed' := LB 11 7) rfl (op_indexAddr Try.underlying66 TI60 rfl rfl c464 (lt_get c464 hx465) rfl (ltn rfl)) rfl (by kernel_rfl) (by kernel_rfl) (by kernel_rfl) (by kernel_rfl) ⟨⟨⟨0, rfl⟩, trivial⟩, trivial, trivial⟩ (fun _ _ _ h => h) ?_
          refine VA.va (i := 3) (listed' := LB 11 15) rfl (op_load_row (o := 0) 0 i284.toNat 3 rfl rfl (get_map hx465) TI60 rfl (fun h => absurd h (by decide)) (ltn rfl)) rfl (by kernel_rfl) (by kernel_rfl) (by kernel_rfl) (by kernel_rfl) ⟨⟨⟨0, rfl⟩, trivial⟩, trivial, trivial⟩ (fun _ _ _ h => h) ?_
          refine VA.va (i := 4) (listed' := LB 11 31) rfl (op_move rfl (ltn rfl)) rfl (by kernel_rfl) (by kernel_rfl) (by kernel_rfl) (by kernel_rfl) ⟨⟨⟨0, rfl⟩, trivial⟩, trivial, trivial⟩ (fun _ _ _ h => h) ?_
          refine VA.va (i := 5) (listed' := LB 11 63) rfl (op_move rfl (ltn rfl)) rfl (by kernel_rfl) (by kernel_rfl) (by kernel_rfl) (by kernel_rfl) ⟨⟨⟨0, rfl⟩, trivial⟩, trivial, trivial⟩ (fun _ _ _ h => h) ?_
          refine VA.va (i := 6) (listed' := LB 11 127) rfl (op_ari64 rfl rfl rfl (ltn rfl)) rfl (by kernel_rfl) (by kernel_rfl) (by kernel_rfl) (by kernel_rfl) ⟨⟨⟨0, rfl⟩, trivial⟩, trivial, trivial⟩ (fun _ _ _ h => h) ?_
          refine VA.va (i := 7) (listed' := LB 11 255) rfl (op_quo rfl rfl (by decide) rfl (ltn rfl)) rfl (by kernel_rfl) (by kernel_rfl) (by kernel_rfl) (by kernel_rfl) ⟨⟨⟨0, rfl⟩, trivial⟩, trivial, trivial⟩ (fun _ _ _ h => h) ?_
          refine VA.va (i := 8) (listed' := LB 11 511) rfl (op_indexAddr Try.underlying66 TI60 rfl rfl c466 (lt_get c466 hx467) rfl (ltn rfl)) rfl (by kernel_rfl) (by kernel_rfl) (by kernel_rfl) (by kernel_rfl) ⟨⟨⟨0, rfl⟩, trivial⟩, trivial, trivial⟩ (fun _ _ _ h => h) ?_
          refine VA.va (i := 9) (listed' := LB 11 1023) rfl (op_load_row (o := 0) 0 (IntKind.i64.wrap ((wrap64 (i284 - 1)).tdiv 2)).toNat 3 rfl rfl (get_map hx467) TI60 rfl (fun h => absurd h (by decide)) (ltn rfl)) rfl (by kernel_rfl) (by kernel_rfl) (by kernel_rfl) (by kernel_rfl) ⟨⟨⟨0, rfl⟩, trivial⟩, trivial, trivial⟩ (fun _ _ _ h => h) ?_
          refine VA.oneC (i := 10) (listed' := LB 11 2047) (by kernel_rfl) rfl (o_call0 FO43 (queue_Less.ok k x465.f0 x465.f1 x465.f2 x467.f0 x467.f1 x467.f2 t468 hA469) rfl rfl (ltn rfl) (All_of .nil)) rfl (by kernel_rfl) ?_
          rintro _ _ _ ⟨rfl, rfl, rfl⟩
          refine ⟨⟨⟨⟨0, rfl⟩, trivial⟩, trivial, trivial⟩, ?_⟩
          refine VA.done (by kernel_rfl) ?_
          exact VN.meet0  [] [] trivial ⟨rfl, ⟨rfl, rfl, rfl, rfl, rfl, rfl, rfl, rfl, rfl, rfl, rfl, rfl, rfl, rfl, rfl, rfl, trivial⟩, ⟨⟨0, rfl⟩, trivial⟩, rfl, by decide, rfl, by decide⟩
        intro _
        by_cases c470 : t468 = true
        · rw [if_pos c470] at h
          obtain rfl := c470
          refine VC.cond_t rfl ?_
          refine VC.seq ?_
          refine VC.region ?_
          refine VL.va (op_assign rfl (ltn rfl)) rfl ?_
          refine VL.done ?_
          refine VN.then ?_
          refine VC.ret ?_
          refine VR.block ?_
          refine VR.then ?_
          refine VR.then ?_
          refine VR.block ?_
          refine VR.then ?_
          obtain rfl := Option.some.inj h
          exact VR.fn (rs := [.tmp 2]) [] [] [] rfl (.tmp rfl .nil) ⟨rfl, rfl, rfl⟩ trivial rfl (by decide)
        · rw [if_neg c470] at h
          obtain rfl := Bool.eq_false_iff.2 c470
          refine VC.cond_f rfl ?_
          refine VC.skip ?_
          refine VN.block ?_
          refine VN.then ?_
          refine VC.region ?_
          refine VL.va (op_move rfl (ltn rfl)) rfl ?_
          refine VL.va (op_ari64 rfl rfl rfl (ltn rfl)) rfl ?_
          refine VL.va (op_assign rfl (ltn rfl)) rfl ?_
          refine VL.done ?_
          refine VN.again [] [] (ihl1 (wrap64 (i284 + 1)) h) ⟨rfl, ⟨rfl, rfl, rfl, trivial⟩, ⟨⟨0, rfl⟩, trivial⟩, rfl, by decide, rfl, by decide⟩
      · rw [if_neg c466] at h; cases h
    · rw [if_neg c464] at h; cases h
  · rw [if_neg c456] at h
    obtain rfl : b455 = false := hb455.symm.trans (decide_eq_false c456)
    refine VC.cond_f rfl ?_
    refine VC.exit ?_
    refine VX.then ?_
    refine VX.then ?_
    refine VX.hit ?_
    refine VN.then ?_
    refine VC.seq ?_
    refine VC.region ?_
    refine VL.va (op_move rfl (ltn rfl)) rfl ?_
    replace h := Option.bind_eq_some_iff.1 h
    obtain ⟨t471, hA472, h⟩ := h
    refine VL.sC (o_call0 FO44 (queue_all.ok k l0 v0 t471 hA472) rfl rfl (ltn rfl) (All_of (.cons (List.mem_of_getElem? (i := 0) rfl) .nil))) rfl ?_
    rintro _ _ _ ⟨rfl, rfl, rfl⟩
    refine VL.va (op_assign rfl (ltn rfl)) rfl ?_
    refine VL.done ?_
    refine VN.then ?_
    refine VC.ret ?_
    obtain rfl := Option.some.inj h
    exact VR.fn (rs := [.tmp 2]) [] [] [] rfl (.tmp rfl .nil) ⟨rfl, rfl, rfl⟩ trivial rfl (by decide)
set_option maxHeartbeats 4000000 in
set_option maxRecDepth 100000 in
theorem goods_Right_1.ok (a0_0 : ByteArray) (a0_1 : ByteArray) (a0_2 : Int) (a0_3 : Int) (a0_4 : Int) (a1_0 : ByteArray) (a1_1 : ByteArray) (a1_2 : Int) (a1_3 : Int) (a1_4 : Int) (p1 : Nat) (r1 : Bool) (h : goods_Right_1.f a0_0 a0_1 a0_2 a0_3 a0_4 a1_0 a1_1 a1_2 a1_3 a1_4 = some r1) :
    VCalls Try.prog 67 [.agg #[.string a0_0, .string a0_1, .int .i64 a0_2, .int .i64 a0_3, .int .i64 a0_4], .pointer (some ⟨p1, 0, none⟩)] [.at_ ⟨p1, 0, none⟩ [.string a1_0, .string a1_1, .int .i64 a1_2, .int .i64 a1_3, .int .i64 a1_4]] (fun v G own => v = .bool r1 ∧ G = [] ∧ own = []) := by
  refine VCalls.intro Try.func67 rfl (len rfl) fun E hC => ?_
  unfold goods_Right_1.f at h
  refine VC.seq ?_
  refine VC.region ?_
  refine VL.sG (o_box rfl (.agg (.c rfl (.c rfl (.c rfl (.c rfl (.c rfl .nil)))))) (ltn rfl)) rfl ?_
  intro g512
  refine VL.va (op_assign rfl (ltn rfl)) rfl ?_
  refine VL.done ?_
  refine VN.then ?_
  refine VC.seq ?_
  refine VC.region ?_
  refine VL.va (op_fieldAddr FI94_0 rfl (add_at _ _ _) (ltn rfl)) rfl ?_
  refine VL.va (op_load 0 1 rfl rfl TI9 rfl (by decide) (ltn rfl)) rfl ?_
  refine VL.va (op_fieldAddr FI94_0 rfl (add_at _ _ _) (ltn rfl)) rfl ?_
  refine VL.va (op_load_at (ad := ⟨p1, 0, none⟩) 0 0 1 (by first | rfl | exact congrArg (fun a => some (Value.pointer (some a))) (add_at _ 0 _).symm) rfl TI9 rfl (by decide) (ltn rfl)) rfl ?_
  refine VL.letter ((a0_0 == a1_0)) fun b516 hb516 => ?_
  refine VL.va (op_cmps rfl rfl (congrArg some hb516) (ltn rfl)) rfl ?_
  refine VL.va (op_move rfl (ltn rfl)) rfl ?_
  by_cases c517 : (a0_0 == a1_0) = true
  · rw [if_pos c517] at h
    obtain rfl : b516 = true := hb516.symm.trans (c517)
    refine VL.va (op_fieldAddr FI94_1 rfl (add_at _ _ _) (ltn rfl)) rfl ?_
    refine VL.va (op_load 0 1 rfl rfl TI9 rfl (by decide) (ltn rfl)) rfl ?_
    refine VL.va (op_fieldAddr FI94_1 rfl (add_at _ _ _) (ltn rfl)) rfl ?_
    refine VL.va (op_load_at (ad := ⟨p1, 0, none⟩) 0 1 1 (by first | rfl | exact congrArg (fun a => some (Value.pointer (some a))) (add_at _ 0 _).symm) rfl TI9 rfl (by decide) (ltn rfl)) rfl ?_
    refine VL.letter ((a0_1 == a1_1)) fun b518 hb518 => ?_
    refine VL.va (op_cmps rfl rfl (congrArg some hb518) (ltn rfl)) rfl ?_
    refine VL.va (op_pick rfl rfl (ltn rfl)) rfl ?_
    refine VL.va (op_assign rfl (ltn rfl)) rfl ?_
    refine VL.done ?_
    refine VN.then ?_
    refine VC.ret ?_
    obtain rfl := Option.some.inj h
    subst hb518
    exact VR.fn (rs := [.tmp 3]) [] [] [] rfl (.tmp rfl .nil) ⟨rfl, rfl, rfl⟩ trivial rfl (by decide)
  · rw [if_neg c517] at h
    obtain rfl : b516 = false := hb516.symm.trans (Bool.eq_false_iff.2 c517)
    refine VL.un rfl rfl (ltn rfl) ?_
    refine VL.un rfl rfl (ltn rfl) ?_
    refine VL.un rfl rfl (ltn rfl) ?_
    refine VL.un rfl rfl (ltn rfl) ?_
    refine VL.un rfl rfl (ltn rfl) ?_
    refine VL.va (op_pick rfl rfl (ltn rfl)) rfl ?_
    refine VL.va (op_assign rfl (ltn rfl)) rfl ?_
    refine VL.done ?_
    refine VN.then ?_
    refine VC.ret ?_
    obtain rfl := Option.some.inj h
    exact VR.fn (rs := [.tmp 3]) [] [] [] rfl (.tmp rfl .nil) ⟨rfl, rfl, rfl⟩ trivial rfl (by decide)
set_option maxHeartbeats 4000000 in
set_option maxRecDepth 100000 in
theorem slices_IndexFunc_api_Sub_api_Sub.ok (k : Nat) (l0 : List S93) (a1_0_0 : ByteArray) (a1_0_1 : ByteArray) (a1_0_2 : Int) (a1_0_3 : Int) (a1_0_4 : Int) (v0 : Value) (p1_0 : Nat) (r1 : Int) (h : slices_IndexFunc_api_Sub_api_Sub.f k l0 a1_0_0 a1_0_1 a1_0_2 a1_0_3 a1_0_4 = some r1) :
    VCalls Try.prog 83 [v0, (.func (.func 67) #[] #[.pointer (some ⟨p1_0, 0, none⟩)])] [.row v0 5 (l0.map enc93), .at_ ⟨p1_0, 0, none⟩ [.string a1_0_0, .string a1_0_1, .int .i64 a1_0_2, .int .i64 a1_0_3, .int .i64 a1_0_4]] (fun v G own => v = .int .i64 r1 ∧ G = [] ∧ own = []) := by
  refine VCalls.intro Try.func83 rfl (len rfl) fun E hC => ?_
  unfold slices_IndexFunc_api_Sub_api_Sub.f at h
  refine VC.seq ?_
  refine VC.region ?_
  refine VL.va (op_assign rfl (ltn rfl)) rfl ?_
  refine VL.done ?_
  refine VN.then ?_
  refine VC.seq ?_
  refine VC.seq ?_
  refine VC.region ?_
  refine VL.va (op_move rfl (ltn rfl)) rfl ?_
  refine VL.va (op_len (m := l0.length) 0 lenm Try.underlying78 rfl rfl (ltn rfl)) rfl ?_
  refine VL.va (op_move rfl (ltn rfl)) rfl ?_
  refine VL.done ?_
  refine VN.then ?_
  refine VC.block ?_
  refine VC.loop1 (fun (i578 : Int) => ⟨19, [(0, v0), (1, (.func (.func 67) #[] #[.pointer (some ⟨p1_0, 0, none⟩)])), (4, .int .i64 0), (7, .int .i64 (l0.length : Int)), (8, .int .i64 i578)], [.at_ ⟨p1_0, 0, none⟩ [.string a1_0_0, .string a1_0_1, .int .i64 a1_0_2, .int .i64 a1_0_3, .int .i64 a1_0_4], .row v0 5 (l0.map enc93)], [], []⟩) (fun (ml1 : Nat) (i578 : Int) => slices_IndexFunc_api_Sub_api_Sub.l1 k a1_0_0 a1_0_1 a1_0_2 a1_0_3 a1_0_4 l0 ml1 i578 = some r1) k 0 [] [] h ⟨rfl, ⟨rfl, rfl, rfl, rfl, rfl, trivial⟩, ⟨⟨1, rfl⟩, ⟨0, rfl⟩, trivial⟩, rfl, by decide, rfl, by decide⟩ (by intros; simp [slices_IndexFunc_api_Sub_api_Sub.l1]) ?_
  clear h
  intro ml1 ihl1 i578 h
  simp only [slices_IndexFunc_api_Sub_api_Sub.l1] at h
  refine VC.seq ?_
  refine VC.region ?_
  refine VL.letter (decide (i578 < (l0.length : Int))) fun b596 hb596 => ?_
  refine VL.va (op_cmp rfl rfl (congrArg some hb596) (ltn rfl)) rfl ?_
  refine VL.done ?_
  refine VN.then ?_
  refine VC.seq ?_
  by_cases c598 : i578 < (l0.length : Int)
  · rw [if_pos c598] at h
    obtain rfl : b596 = true := hb596.symm.trans (decide_eq_true c598)
    refine VC.cond_t rfl ?_
    refine VC.skip ?_
    refine VN.then ?_
    refine VC.seq ?_
    refine VC.block ?_
    refine VC.seq ?_
    refine VC.region ?_
    refine VL.va (op_move rfl (ltn rfl)) rfl ?_
    refine VL.va (op_assign rfl (ltn rfl)) rfl ?_
    refine VL.done ?_
    refine VN.then ?_
    refine VC.seq ?_
    refine VC.region ?_
    refine VL.va (op_move rfl (ltn rfl)) rfl ?_
    refine VL.va (op_move rfl (ltn rfl)) rfl ?_
    refine VL.va (op_move rfl (ltn rfl)) rfl ?_
    by_cases c606 : 0 ≤ i578
    · rw [if_pos c606] at h
      replace h := Option.bind_eq_some_iff.1 h
      obtain ⟨x607, hx607, h⟩ := h
      refine VL.open (m := l0.length) 1 lenm rfl (pos_get hx607) ?_
      rintro ad608 n609 rfl
      refine VL.va (op_indexAddr Try.underlying78 TI94 rfl rfl c606 (lt_get c606 hx607) rfl (ltn rfl)) rfl ?_
      refine VL.va (op_load_row (o := 0) 1 i578.toNat 5 rfl rfl (get_map hx607) TI94 rfl (fun h => absurd h (by decide)) (ltn rfl)) rfl ?_
      replace h := Option.bind_eq_some_iff.1 h
      obtain ⟨t610, hA611, h⟩ := h
      refine VL.sC (o_call (vals := [.agg #[.string x607.f0, .string x607.f1, .int .i64 x607.f2, .int .i64 x607.f3, .int .i64 x607.f4]]) (caps := [.pointer (some ⟨p1_0, 0, none⟩)]) FO67 (goods_Right_1.ok x607.f0 x607.f1 x607.f2 x607.f3 x607.f4 a1_0_0 a1_0_1 a1_0_2 a1_0_3 a1_0_4 p1_0 t610 hA611) rfl rfl (ltn rfl) (All_of (.cons (List.mem_of_getElem? (i := 0) rfl) .nil))) rfl ?_
      rintro _ _ _ ⟨rfl, rfl, rfl⟩
      refine VL.done ?_
      refine VN.then ?_
      by_cases c612 : t610 = true
      · rw [if_pos c612] at h
        obtain rfl := c612
        refine VC.cond_t rfl ?_
        refine VC.seq ?_
        refine VC.region ?_
        refine VL.va (op_move rfl (ltn rfl)) rfl ?_
        refine VL.va (op_assign rfl (ltn rfl)) rfl ?_
        refine VL.done ?_
        refine VN.then ?_
        refine VC.ret ?_
        refine VR.block ?_
        refine VR.then ?_
        refine VR.then ?_
        refine VR.block ?_
        refine VR.then ?_
        obtain rfl := Option.some.inj h
        exact VR.fn (rs := [.tmp 4]) [] [] [] rfl (.tmp rfl .nil) ⟨rfl, rfl, rfl⟩ trivial rfl (by decide)
      · rw [if_neg c612] at h
        obtain rfl := Bool.eq_false_iff.2 c612
        refine VC.cond_f rfl ?_
        refine VC.skip ?_
        refine VN.block ?_
        refine VN.then ?_
        refine VC.region ?_
        refine VL.va (op_ari64 rfl rfl rfl (ltn rfl)) rfl ?_
        refine VL.va (op_move rfl (ltn rfl)) rfl ?_
        refine VL.done ?_
        refine VN.again [] [] (ihl1 (wrap64 (i578 + 1)) h) ⟨rfl, ⟨rfl, rfl, rfl, rfl, rfl, trivial⟩, ⟨⟨0, rfl⟩, ⟨1, rfl⟩, trivial⟩, rfl, by decide, rfl, by decide⟩
    · rw [if_neg c606] at h; cases h
  · rw [if_neg c598] at h
    obtain rfl : b596 = false := hb596.symm.trans (decide_eq_false c598)
    refine VC.cond_f rfl ?_
    refine VC.exit ?_
    refine VX.then ?_
    refine VX.then ?_
    refine VX.hit ?_
    refine VN.then ?_
    refine VC.seq ?_
    refine VC.region ?_
    refine VL.va (op_assign rfl (ltn rfl)) rfl ?_
    refine VL.done ?_
    refine VN.then ?_
    refine VC.ret ?_
    obtain rfl := Option.some.inj h
    exact VR.fn (rs := [.tmp 4]) [] [] [] rfl (.tmp rfl .nil) ⟨rfl, rfl, rfl⟩ trivial rfl (by decide)
set_option maxHeartbeats 4000000 in
set_option maxRecDepth 100000 in
theorem slices_ContainsFunc_api_Sub_api_Sub.ok (k : Nat) (l0 : List S93) (a1_0_0 : ByteArray) (a1_0_1 : ByteArray) (a1_0_2 : Int) (a1_0_3 : Int) (a1_0_4 : Int) (v0 : Value) (p1_0 : Nat) (r1 : Bool) (h : slices_ContainsFunc_api_Sub_api_Sub.f k l0 a1_0_0 a1_0_1 a1_0_2 a1_0_3 a1_0_4 = some r1) :
    VCalls Try.prog 66 [v0, (.func (.func 67) #[] #[.pointer (some ⟨p1_0, 0, none⟩)])] [.row v0 5 (l0.map enc93), .at_ ⟨p1_0, 0, none⟩ [.string a1_0_0, .string a1_0_1, .int .i64 a1_0_2, .int .i64 a1_0_3, .int .i64 a1_0_4]] (fun v G own => v = .bool r1 ∧ G = [] ∧ own = []) := by
  refine VCalls.intro Try.func66 rfl (len rfl) fun E hC => ?_
  unfold slices_ContainsFunc_api_Sub_api_Sub.f at h
  refine VC.seq ?_
  refine VC.region ?_
  refine VL.va (op_assign rfl (ltn rfl)) rfl ?_
  refine VL.done ?_
  refine VN.then ?_
  refine VC.seq ?_
  refine VC.region ?_
  refine VL.va (op_move rfl (ltn rfl)) rfl ?_
  refine VL.va (op_move rfl (ltn rfl)) rfl ?_
  replace h := Option.bind_eq_some_iff.1 h
  obtain ⟨t613, hA614, h⟩ := h
  refine VL.sC (o_call0 FO83 (slices_IndexFunc_api_Sub_api_Sub.ok k l0 a1_0_0 a1_0_1 a1_0_2 a1_0_3 a1_0_4 v0 p1_0 t613 hA614) rfl rfl (ltn rfl) (All_of (.cons (List.mem_of_getElem? (i := 0) rfl) (.cons (List.mem_of_getElem? (i := 1) rfl) .nil)))) rfl ?_
  rintro _ _ _ ⟨rfl, rfl, rfl⟩
  refine VL.letter (decide (t613 ≥ 0)) fun b615 hb615 => ?_
  refine VL.va (op_cmp rfl rfl (congrArg some hb615) (ltn rfl)) rfl ?_
  refine VL.va (op_assign rfl (ltn rfl)) rfl ?_
  refine VL.done ?_
  refine VN.then ?_
  refine VC.ret ?_
  obtain rfl := Option.some.inj h
  subst hb615
  exact VR.fn (rs := [.tmp 4]) [] [] [] rfl (.tmp rfl .nil) ⟨rfl, rfl, rfl⟩ trivial rfl (by decide)

end Go.Proofs.Ytlmpfogfgefngaa.GOrderEnds
