/- Written by a program of this repo: what the program's functions do, each as a Lean function, shown of the loaded code; or a statement's row over that; no condition of its own. -/
import Derived.Test.YtoiihpmncphplaaPGoodsKnowx1
namespace Go.Proofs.Ytoiihpmncphplaa.PGoodsKnow
open Go Go.RowKit Go.Proofs.YtoiihpmncphplaaV
set_option linter.unusedVariables false
set_option linter.unusedSimpArgs false

set_option maxHeartbeats 4000000 in
set_option maxRecDepth 100000 in
theorem goods_in.ok (a0 : Int) (a1 : Int)  (r1 : Bool) (h : goods_in.f a0 a1 = some r1) :
    VCalls Try.prog 24 [.int .i64 a0, .int .i64 a1] [] (fun v G own => v = .bool r1 ∧ G = [] ∧ own = []) := by
  refine VCalls.intro Try.func24 rfl (len rfl) fun E hC => ?_
  unfold goods_in.f at h
  refine VC.seq ?_
  refine VC.region ?_
  refine VL.va (op_assign rfl (ltn rfl)) rfl ?_
  refine VL.done ?_
  refine VN.then ?_
  refine VC.seq ?_
  refine VC.region ?_
  refine VL.va (op_move rfl (ltn rfl)) rfl ?_
  refine VL.letter (decide (a0 ≥ 1)) fun b686 hb686 => ?_
  refine VL.va (op_cmp rfl rfl (congrArg some hb686) (ltn rfl)) rfl ?_
  refine VL.va (op_move rfl (ltn rfl)) rfl ?_
  by_cases c687 : a0 ≥ 1
  · rw [if_pos c687] at h
    obtain rfl : b686 = true := hb686.symm.trans (decide_eq_true c687)
    refine VL.va (op_move rfl (ltn rfl)) rfl ?_
    refine VL.va (op_move rfl (ltn rfl)) rfl ?_
    refine VL.letter (decide (a0 ≤ a1)) fun b688 hb688 => ?_
    refine VL.va (op_cmp rfl rfl (congrArg some hb688) (ltn rfl)) rfl ?_
    refine VL.va (op_pick rfl rfl (ltn rfl)) rfl ?_
    refine VL.va (op_assign rfl (ltn rfl)) rfl ?_
    refine VL.done ?_
    refine VN.then ?_
    refine VC.ret ?_
    obtain rfl := Option.some.inj h
    subst hb688
    exact VR.fn (rs := [.tmp 4]) [] [] [] rfl (.tmp rfl .nil) ⟨rfl, rfl, rfl⟩ trivial rfl (by decide)
  · rw [if_neg c687] at h
    obtain rfl : b686 = false := hb686.symm.trans (decide_eq_false c687)
    refine VL.un rfl rfl (ltn rfl) ?_
    refine VL.un rfl rfl (ltn rfl) ?_
    refine VL.un rfl rfl (ltn rfl) ?_
    refine VL.va (op_pick rfl rfl (ltn rfl)) rfl ?_
    refine VL.va (op_assign rfl (ltn rfl)) rfl ?_
    refine VL.done ?_
    refine VN.then ?_
    refine VC.ret ?_
    obtain rfl := Option.some.inj h
    exact VR.fn (rs := [.tmp 4]) [] [] [] rfl (.tmp rfl .nil) ⟨rfl, rfl, rfl⟩ trivial rfl (by decide)
set_option maxHeartbeats 4000000 in
set_option maxRecDepth 100000 in
theorem goods_may.ok (k : Nat) (a0_0 : ByteArray) (a0_1 : ByteArray) (a0_2 : Int) (a0_3 : Int) (a0_4 : Int)  (r1 : Bool) (h : goods_may.f k a0_0 a0_1 a0_2 a0_3 a0_4 = some r1) :
    VCalls Try.prog 23 [.agg #[.string a0_0, .string a0_1, .int .i64 a0_2, .int .i64 a0_3, .int .i64 a0_4]] [] (fun v G own => v = .bool r1 ∧ G = [] ∧ own = []) := by
  refine VCalls.intro Try.func23 rfl (len rfl) fun E hC => ?_
  unfold goods_may.f at h
  refine VC.seq ?_
  refine VC.region ?_
  refine VL.sG (o_box rfl (.agg (.of rfl)) (ltn rfl)) rfl ?_
  intro g529
  refine VL.va (op_assign rfl (ltn rfl)) rfl ?_
  refine VL.done ?_
  refine VN.then ?_
  refine VC.seq ?_
  refine VC.region ?_
  refine VL.va (op_fieldAddr FI23_0 rfl (add_at _ _ _) (ltn rfl)) rfl ?_
  refine VL.va (op_load 0 1 rfl rfl TI9 rfl (by decide) (ltn rfl)) rfl ?_
  replace h := Option.bind_eq_some_iff.1 h
  obtain ⟨t697, hA698, h⟩ := h
  refine VL.sC (o_call0 FO36 (goods_name.ok k a0_0 t697 hA698) rfl rfl (ltn rfl) (All_of .nil)) rfl ?_
  rintro _ _ _ ⟨rfl, rfl, rfl⟩
  refine VL.va (op_move rfl (ltn rfl)) rfl ?_
  by_cases c699 : t697 = true
  · rw [if_pos c699] at h
    obtain rfl := c699
    refine VL.va (op_fieldAddr FI23_1 rfl (add_at _ _ _) (ltn rfl)) rfl ?_
    refine VL.va (op_load 0 1 rfl rfl TI9 rfl (by decide) (ltn rfl)) rfl ?_
    replace h := Option.bind_eq_some_iff.1 h
    obtain ⟨t700, hA701, h⟩ := h
    refine VL.sC (o_call0 FO36 (goods_name.ok k a0_1 t700 hA701) rfl rfl (ltn rfl) (All_of .nil)) rfl ?_
    rintro _ _ _ ⟨rfl, rfl, rfl⟩
    refine VL.va (op_pick rfl rfl (ltn rfl)) rfl ?_
    refine VL.va (op_move rfl (ltn rfl)) rfl ?_
    by_cases c702 : t700 = true
    · rw [if_pos c702] at h
      obtain rfl := c702
      refine VL.va (op_fieldAddr FI23_0 rfl (add_at _ _ _) (ltn rfl)) rfl ?_
      refine VL.va (op_load 0 1 rfl rfl TI9 rfl (by decide) (ltn rfl)) rfl ?_
      refine VL.va (op_fieldAddr FI23_1 rfl (add_at _ _ _) (ltn rfl)) rfl ?_
      refine VL.va (op_load 0 1 rfl rfl TI9 rfl (by decide) (ltn rfl)) rfl ?_
      refine VL.letter ((a0_0 != a0_1)) fun b703 hb703 => ?_
      refine VL.va (op_cmps rfl rfl (congrArg some hb703) (ltn rfl)) rfl ?_
      refine VL.va (op_pick rfl rfl (ltn rfl)) rfl ?_
      refine VL.va (op_move rfl (ltn rfl)) rfl ?_
      by_cases c704 : (a0_0 == a0_1) = true
      · rw [if_pos c704] at h
        obtain rfl : b703 = false := hb703.symm.trans (bne_of_t c704)
        refine VL.un rfl rfl (ltn rfl) ?_
        refine VL.un rfl rfl (ltn rfl) ?_
        refine VL.un rfl rfl (ltn rfl) ?_
        refine VL.va (op_pick rfl rfl (ltn rfl)) rfl ?_
        refine VL.va (op_move rfl (ltn rfl)) rfl ?_
        refine VL.un rfl rfl (ltn rfl) ?_
        refine VL.un rfl rfl (ltn rfl) ?_
        refine VL.un rfl rfl (ltn rfl) ?_
        refine VL.va (op_pick rfl rfl (ltn rfl)) rfl ?_
        refine VL.va (op_move rfl (ltn rfl)) rfl ?_
        refine VL.un rfl rfl (ltn rfl) ?_
        refine VL.un rfl rfl (ltn rfl) ?_
        refine VL.un rfl rfl (ltn rfl) ?_
        refine VL.va (op_pick rfl rfl (ltn rfl)) rfl ?_
        refine VL.va (op_assign rfl (ltn rfl)) rfl ?_
        refine VL.done ?_
        refine VN.then ?_
        refine VC.ret ?_
        obtain rfl := Option.some.inj h
        exact VR.fn (rs := [.tmp 2]) [] [] [] rfl (.tmp rfl .nil) ⟨rfl, rfl, rfl⟩ trivial rfl (by decide)
      · rw [if_neg c704] at h
        obtain rfl : b703 = true := hb703.symm.trans (bne_of_f c704)
        refine VL.va (op_fieldAddr FI23_2 rfl (add_at _ _ _) (ltn rfl)) rfl ?_
        refine VL.va (op_load 0 1 rfl rfl TI3 rfl (by decide) (ltn rfl)) rfl ?_
        replace h := Option.bind_eq_some_iff.1 h
        obtain ⟨t705, hA706, h⟩ := h
        refine VL.sC (o_call0 FO24 (goods_in.ok a0_2 9 t705 hA706) rfl rfl (ltn rfl) (All_of .nil)) rfl ?_
        rintro _ _ _ ⟨rfl, rfl, rfl⟩
        refine VL.va (op_pick rfl rfl (ltn rfl)) rfl ?_
        refine VL.va (op_move rfl (ltn rfl)) rfl ?_
        by_cases c707 : t705 = true
        · rw [if_pos c707] at h
          obtain rfl := c707
          refine VL.va (op_fieldAddr FI23_3 rfl (add_at _ _ _) (ltn rfl)) rfl ?_
          refine VL.va (op_load 0 1 rfl rfl TI3 rfl (by decide) (ltn rfl)) rfl ?_
          replace h := Option.bind_eq_some_iff.1 h
          obtain ⟨t708, hA709, h⟩ := h
          refine VL.sC (o_call0 FO24 (goods_in.ok a0_3 100 t708 hA709) rfl rfl (ltn rfl) (All_of .nil)) rfl ?_
          rintro _ _ _ ⟨rfl, rfl, rfl⟩
          refine VL.va (op_pick rfl rfl (ltn rfl)) rfl ?_
          refine VL.va (op_move rfl (ltn rfl)) rfl ?_
          by_cases c710 : t708 = true
          · rw [if_pos c710] at h
            obtain rfl := c710
            refine VL.va (op_fieldAddr FI23_4 rfl (add_at _ _ _) (ltn rfl)) rfl ?_
            refine VL.va (op_load 0 1 rfl rfl TI3 rfl (by decide) (ltn rfl)) rfl ?_
            replace h := Option.bind_eq_some_iff.1 h
            obtain ⟨t711, hA712, h⟩ := h
            refine VL.sC (o_call0 FO24 (goods_in.ok a0_4 100 t711 hA712) rfl rfl (ltn rfl) (All_of .nil)) rfl ?_
            rintro _ _ _ ⟨rfl, rfl, rfl⟩
            refine VL.va (op_pick rfl rfl (ltn rfl)) rfl ?_
            refine VL.va (op_assign rfl (ltn rfl)) rfl ?_
            refine VL.done ?_
            refine VN.then ?_
            refine VC.ret ?_
            obtain rfl := Option.some.inj h
            exact VR.fn (rs := [.tmp 2]) [] [] [] rfl (.tmp rfl .nil) ⟨rfl, rfl, rfl⟩ trivial rfl (by decide)
          · rw [if_neg c710] at h
            obtain rfl := Bool.eq_false_iff.2 c710
            refine VL.un rfl rfl (ltn rfl) ?_
            refine VL.un rfl rfl (ltn rfl) ?_
            refine VL.un rfl rfl (ltn rfl) ?_
            refine VL.va (op_pick rfl rfl (ltn rfl)) rfl ?_
            refine VL.va (op_assign rfl (ltn rfl)) rfl ?_
            refine VL.done ?_
            refine VN.then ?_
            refine VC.ret ?_
            obtain rfl := Option.some.inj h
            exact VR.fn (rs := [.tmp 2]) [] [] [] rfl (.tmp rfl .nil) ⟨rfl, rfl, rfl⟩ trivial rfl (by decide)
        · rw [if_neg c707] at h
          obtain rfl := Bool.eq_false_iff.2 c707
          refine VL.un rfl rfl (ltn rfl) ?_
          refine VL.un rfl rfl (ltn rfl) ?_
          refine VL.un rfl rfl (ltn rfl) ?_
          refine VL.va (op_pick rfl rfl (ltn rfl)) rfl ?_
          refine VL.va (op_move rfl (ltn rfl)) rfl ?_
          refine VL.un rfl rfl (ltn rfl) ?_
          refine VL.un rfl rfl (ltn rfl) ?_
          refine VL.un rfl rfl (ltn rfl) ?_
          refine VL.va (op_pick rfl rfl (ltn rfl)) rfl ?_
          refine VL.va (op_assign rfl (ltn rfl)) rfl ?_
          refine VL.done ?_
          refine VN.then ?_
          refine VC.ret ?_
          obtain rfl := Option.some.inj h
          exact VR.fn (rs := [.tmp 2]) [] [] [] rfl (.tmp rfl .nil) ⟨rfl, rfl, rfl⟩ trivial rfl (by decide)
    · rw [if_neg c702] at h
      obtain rfl := Bool.eq_false_iff.2 c702
      refine VL.un rfl rfl (ltn rfl) ?_
      refine VL.un rfl rfl (ltn rfl) ?_
      refine VL.un rfl rfl (ltn rfl) ?_
      refine VL.un rfl rfl (ltn rfl) ?_
      refine VL.un rfl rfl (ltn rfl) ?_
      refine VL.va (op_pick rfl rfl (ltn rfl)) rfl ?_
      refine VL.va (op_move rfl (ltn rfl)) rfl ?_
      refine VL.un rfl rfl (ltn rfl) ?_
      refine VL.un rfl rfl (ltn rfl) ?_
      refine VL.un rfl rfl (ltn rfl) ?_
      refine VL.va (op_pick rfl rfl (ltn rfl)) rfl ?_
      refine VL.va (op_move rfl (ltn rfl)) rfl ?_
      refine VL.un rfl rfl (ltn rfl) ?_
      refine VL.un rfl rfl (ltn rfl) ?_
      refine VL.un rfl rfl (ltn rfl) ?_
      refine VL.va (op_pick rfl rfl (ltn rfl)) rfl ?_
      refine VL.va (op_move rfl (ltn rfl)) rfl ?_
      refine VL.un rfl rfl (ltn rfl) ?_
      refine VL.un rfl rfl (ltn rfl) ?_
      refine VL.un rfl rfl (ltn rfl) ?_
      refine VL.va (op_pick rfl rfl (ltn rfl)) rfl ?_
      refine VL.va (op_assign rfl (ltn rfl)) rfl ?_
      refine VL.done ?_
      refine VN.then ?_
      refine VC.ret ?_
      obtain rfl := Option.some.inj h
      exact VR.fn (rs := [.tmp 2]) [] [] [] rfl (.tmp rfl .nil) ⟨rfl, rfl, rfl⟩ trivial rfl (by decide)
  · rw [if_neg c699] at h
    obtain rfl := Bool.eq_false_iff.2 c699
    refine VL.un rfl rfl (ltn rfl) ?_
    refine VL.un rfl rfl (ltn rfl) ?_
    refine VL.un rfl rfl (ltn rfl) ?_
    refine VL.va (op_pick rfl rfl (ltn rfl)) rfl ?_
    refine VL.va (op_move rfl (ltn rfl)) rfl ?_
    refine VL.un rfl rfl (ltn rfl) ?_
    refine VL.un rfl rfl (ltn rfl) ?_
    refine VL.un rfl rfl (ltn rfl) ?_
    refine VL.un rfl rfl (ltn rfl) ?_
    refine VL.un rfl rfl (ltn rfl) ?_
    refine VL.va (op_pick rfl rfl (ltn rfl)) rfl ?_
    refine VL.va (op_move rfl (ltn rfl)) rfl ?_
    refine VL.un rfl rfl (ltn rfl) ?_
    refine VL.un rfl rfl (ltn rfl) ?_
    refine VL.un rfl rfl (ltn rfl) ?_
    refine VL.va (op_pick rfl rfl (ltn rfl)) rfl ?_
    refine VL.va (op_move rfl (ltn rfl)) rfl ?_
    refine VL.un rfl rfl (ltn rfl) ?_
    refine VL.un rfl rfl (ltn rfl) ?_
    refine VL.un rfl rfl (ltn rfl) ?_
    refine VL.va (op_pick rfl rfl (ltn rfl)) rfl ?_
    refine VL.va (op_move rfl (ltn rfl)) rfl ?_
    refine VL.un rfl rfl (ltn rfl) ?_
    refine VL.un rfl rfl (ltn rfl) ?_
    refine VL.un rfl rfl (ltn rfl) ?_
    refine VL.va (op_pick rfl rfl (ltn rfl)) rfl ?_
    refine VL.va (op_assign rfl (ltn rfl)) rfl ?_
    refine VL.done ?_
    refine VN.then ?_
    refine VC.ret ?_
    obtain rfl := Option.some.inj h
    exact VR.fn (rs := [.tmp 2]) [] [] [] rfl (.tmp rfl .nil) ⟨rfl, rfl, rfl⟩ trivial rfl (by decide)
set_option maxHeartbeats 4000000 in
set_option maxRecDepth 100000 in
theorem slices_Index_string_string.ok (k : Nat) (l0 : List ByteArray) (a1 : ByteArray) (v0 : Value) (r1 : Int) (h : slices_Index_string_string.f k l0 a1 = some r1) :
    VCalls Try.prog 43 [v0, .string a1] [.row v0 1 (l0.map enc_str)] (fun v G own => v = .int .i64 r1 ∧ G = [] ∧ own = []) := by
  refine VCalls.intro Try.func43 rfl (len rfl) fun E hC => ?_
  unfold slices_Index_string_string.f at h
  refine VC.seq ?_
  refine VC.region ?_
  refine VL.va (op_assign rfl (ltn rfl)) rfl ?_
  refine VL.done ?_
  refine VN.then ?_
  refine VC.seq ?_
  refine VC.seq ?_
  refine VC.region ?_
  refine VL.va (op_move rfl (ltn rfl)) rfl ?_
  refine VL.va (op_len (m := l0.length) 0 lenm Try.underlying32 rfl rfl (ltn rfl)) rfl ?_
  refine VL.va (op_move rfl (ltn rfl)) rfl ?_
  refine VL.done ?_
  refine VN.then ?_
  refine VC.block ?_
  refine VC.loop1 (fun (i775 : Int) => ⟨19, [(0, v0), (1, .string a1), (4, .int .i64 0), (7, .int .i64 (l0.length : Int)), (8, .int .i64 i775)], [.row v0 1 (l0.map enc_str)], [], []⟩) (fun (ml1 : Nat) (i775 : Int) => slices_Index_string_string.l1 k a1 l0 ml1 i775 = some r1) k 0 [] [] h ⟨rfl, ⟨rfl, rfl, rfl, rfl, rfl, trivial⟩, ⟨⟨0, rfl⟩, trivial⟩, rfl, by decide, rfl, by decide⟩ (by intros; simp [slices_Index_string_string.l1]) ?_
  clear h
  intro ml1 ihl1 i775 h
  simp only [slices_Index_string_string.l1] at h
  refine VC.seq ?_
  refine VC.region ?_
  refine VL.letter (decide (i775 < (l0.length : Int))) fun b791 hb791 => ?_
  refine VL.va (op_cmp rfl rfl (congrArg some hb791) (ltn rfl)) rfl ?_
  refine VL.done ?_
  refine VN.then ?_
  refine VC.seq ?_
  by_cases c793 : i775 < (l0.length : Int)
  · rw [if_pos c793] at h
    obtain rfl : b791 = true := hb791.symm.trans (decide_eq_true c793)
    refine VC.cond_t rfl ?_
    refine VC.skip ?_
    refine VN.then ?_
    refine VC.seq ?_
    refine VC.block ?_
    refine VC.seq ?_
    refine VC.region ?_
    refine VL.va (op_move rfl (ltn rfl)) rfl ?_
    refine VL.va (op_assign rfl (ltn rfl)) rfl ?_
    refine VL.done ?_
    refine VN.then ?_
    refine VC.seq ?_
    refine VC.region ?_
    refine VL.va (op_move rfl (ltn rfl)) rfl ?_
    refine VL.va (op_move rfl (ltn rfl)) rfl ?_
    refine VL.va (op_move rfl (ltn rfl)) rfl ?_
    by_cases c800 : 0 ≤ i775
    · rw [if_pos c800] at h
      replace h := Option.bind_eq_some_iff.1 h
      obtain ⟨x801, hx801, h⟩ := h
      refine VL.open (m := l0.length) 0 lenm rfl (pos_get hx801) ?_
      rintro ad802 n803 rfl
      refine VL.va (op_indexAddr Try.underlying32 TI9 rfl rfl c800 (lt_get c800 hx801) rfl (ltn rfl)) rfl ?_
      refine VL.va (op_load_row (sz := 1) (o := 0) 0 i775.toNat 1 rfl rfl (get_map hx801) TI9 rfl (by decide) (ltn rfl)) rfl ?_
      refine VL.letter ((a1 == x801)) fun b804 hb804 => ?_
      refine VL.va (op_cmps rfl rfl (congrArg some hb804) (ltn rfl)) rfl ?_
      refine VL.done ?_
      refine VN.then ?_
      by_cases c805 : (a1 == x801) = true
      · rw [if_pos c805] at h
        obtain rfl : b804 = true := hb804.symm.trans (c805)
        refine VC.cond_t rfl ?_
        refine VC.seq ?_
        refine VC.region ?_
        refine VL.va (op_move rfl (ltn rfl)) rfl ?_
        refine VL.va (op_assign rfl (ltn rfl)) rfl ?_
        refine VL.done ?_
        refine VN.then ?_
        refine VC.ret ?_
        refine VR.block ?_
        refine VR.then ?_
        refine VR.then ?_
        refine VR.block ?_
        refine VR.then ?_
        obtain rfl := Option.some.inj h
        exact VR.fn (rs := [.tmp 4]) [] [] [] rfl (.tmp rfl .nil) ⟨rfl, rfl, rfl⟩ trivial rfl (by decide)
      · rw [if_neg c805] at h
        obtain rfl : b804 = false := hb804.symm.trans (Bool.eq_false_iff.2 c805)
        refine VC.cond_f rfl ?_
        refine VC.skip ?_
        refine VN.block ?_
        refine VN.then ?_
        refine VC.region ?_
        refine VL.va (op_ari64 rfl rfl rfl (ltn rfl)) rfl ?_
        refine VL.va (op_move rfl (ltn rfl)) rfl ?_
        refine VL.done ?_
        refine VN.again [] [] (ihl1 (wrap64 (i775 + 1)) h) ⟨rfl, ⟨rfl, rfl, rfl, rfl, rfl, trivial⟩, ⟨⟨0, rfl⟩, trivial⟩, rfl, by decide, rfl, by decide⟩
    · rw [if_neg c800] at h; cases h
  · rw [if_neg c793] at h
    obtain rfl : b791 = false := hb791.symm.trans (decide_eq_false c793)
    refine VC.cond_f rfl ?_
    refine VC.exit ?_
    refine VX.then ?_
    refine VX.then ?_
    refine VX.hit ?_
    refine VN.then ?_
    refine VC.seq ?_
    refine VC.region ?_
    refine VL.va (op_assign rfl (ltn rfl)) rfl ?_
    refine VL.done ?_
    refine VN.then ?_
    refine VC.ret ?_
    obtain rfl := Option.some.inj h
    exact VR.fn (rs := [.tmp 4]) [] [] [] rfl (.tmp rfl .nil) ⟨rfl, rfl, rfl⟩ trivial rfl (by decide)
set_option maxHeartbeats 4000000 in
set_option maxRecDepth 100000 in
theorem slices_Contains_string_string.ok (k : Nat) (l0 : List ByteArray) (a1 : ByteArray) (v0 : Value) (r1 : Bool) (h : slices_Contains_string_string.f k l0 a1 = some r1) :
    VCalls Try.prog 26 [v0, .string a1] [.row v0 1 (l0.map enc_str)] (fun v G own => v = .bool r1 ∧ G = [] ∧ own = []) := by
  refine VCalls.intro Try.func26 rfl (len rfl) fun E hC => ?_
  unfold slices_Contains_string_string.f at h
  refine VC.seq ?_
  refine VC.region ?_
  refine VL.va (op_assign rfl (ltn rfl)) rfl ?_
  refine VL.done ?_
  refine VN.then ?_
  refine VC.seq ?_
  refine VC.region ?_
  refine VL.va (op_move rfl (ltn rfl)) rfl ?_
  refine VL.va (op_move rfl (ltn rfl)) rfl ?_
  replace h := Option.bind_eq_some_iff.1 h
  obtain ⟨t806, hA807, h⟩ := h
  refine VL.sC (o_call0 FO43 (slices_Index_string_string.ok k l0 a1 v0 t806 hA807) rfl rfl (ltn rfl) (All_of (.cons (List.mem_of_getElem? (i := 0) rfl) .nil))) rfl ?_
  rintro _ _ _ ⟨rfl, rfl, rfl⟩
  refine VL.letter (decide (t806 ≥ 0)) fun b808 hb808 => ?_
  refine VL.va (op_cmp rfl rfl (congrArg some hb808) (ltn rfl)) rfl ?_
  refine VL.va (op_assign rfl (ltn rfl)) rfl ?_
  refine VL.done ?_
  refine VN.then ?_
  refine VC.ret ?_
  obtain rfl := Option.some.inj h
  subst hb808
  exact VR.fn (rs := [.tmp 4]) [] [] [] rfl (.tmp rfl .nil) ⟨rfl, rfl, rfl⟩ trivial rfl (by decide)
set_option maxHeartbeats 4000000 in
set_option maxRecDepth 100000 in
theorem goods_Right_2.ok (k : Nat) (a0 : ByteArray)  (r1 : Bool) (h : goods_Right_2.f k a0 = some r1) :
    VCalls Try.prog 35 [.string a0] [] (fun v G own => v = .bool r1 ∧ G = [] ∧ own = []) := by
  refine VCalls.intro Try.func35 rfl (len rfl) fun E hC => ?_
  unfold goods_Right_2.f at h
  refine VC.seq ?_
  refine VC.region ?_
  refine VL.va (op_assign rfl (ltn rfl)) rfl ?_
  refine VL.done ?_
  refine VN.then ?_
  refine VC.seq ?_
  refine VC.region ?_
  refine VL.va (op_move rfl (ltn rfl)) rfl ?_
  replace h := Option.bind_eq_some_iff.1 h
  obtain ⟨t1119, hA1120, h⟩ := h
  refine VL.sC (o_call0 FO36 (goods_name.ok k a0 t1119 hA1120) rfl rfl (ltn rfl) (All_of .nil)) rfl ?_
  rintro _ _ _ ⟨rfl, rfl, rfl⟩
  by_cases c1121 : t1119 = true
  · rw [if_pos c1121] at h
    obtain rfl := c1121
    refine VL.va (op_not rfl rfl (ltn rfl)) rfl ?_
    refine VL.va (op_assign rfl (ltn rfl)) rfl ?_
    refine VL.done ?_
    refine VN.then ?_
    refine VC.ret ?_
    obtain rfl := Option.some.inj h
    exact VR.fn (rs := [.tmp 2]) [] [] [] rfl (.tmp rfl .nil) ⟨rfl, rfl, rfl⟩ trivial rfl (by decide)
  · rw [if_neg c1121] at h
    obtain rfl := Bool.eq_false_iff.2 c1121
    refine VL.va (op_not rfl rfl (ltn rfl)) rfl ?_
    refine VL.va (op_assign rfl (ltn rfl)) rfl ?_
    refine VL.done ?_
    refine VN.then ?_
    refine VC.ret ?_
    obtain rfl := Option.some.inj h
    exact VR.fn (rs := [.tmp 2]) [] [] [] rfl (.tmp rfl .nil) ⟨rfl, rfl, rfl⟩ trivial rfl (by decide)
set_option maxHeartbeats 4000000 in
set_option maxRecDepth 100000 in
theorem slices_IndexFunc_string_string.ok (k : Nat) (l0 : List ByteArray) (v0 : Value) (r1 : Int) (h : slices_IndexFunc_string_string.f k l0 = some r1) :
    VCalls Try.prog 49 [v0, (.func (.func 35) #[] #[])] [.row v0 1 (l0.map enc_str)] (fun v G own => v = .int .i64 r1 ∧ G = [] ∧ own = []) := by
  refine VCalls.intro Try.func49 rfl (len rfl) fun E hC => ?_
  unfold slices_IndexFunc_string_string.f at h
  refine VC.seq ?_
  refine VC.region ?_
  refine VL.va (op_assign rfl (ltn rfl)) rfl ?_
  refine VL.done ?_
  refine VN.then ?_
  refine VC.seq ?_
  refine VC.seq ?_
  refine VC.region ?_
  refine VL.va (op_move rfl (ltn rfl)) rfl ?_
  refine VL.va (op_len (m := l0.length) 0 lenm Try.underlying32 rfl rfl (ltn rfl)) rfl ?_
  refine VL.va (op_move rfl (ltn rfl)) rfl ?_
  refine VL.done ?_
  refine VN.then ?_
  refine VC.block ?_
  refine VC.loop1 (fun (i1181 : Int) => ⟨19, [(0, v0), (1, (.func (.func 35) #[] #[])), (4, .int .i64 0), (7, .int .i64 (l0.length : Int)), (8, .int .i64 i1181)], [.row v0 1 (l0.map enc_str)], [], []⟩) (fun (ml1 : Nat) (i1181 : Int) => slices_IndexFunc_string_string.l1 k l0 ml1 i1181 = some r1) k 0 [] [] h ⟨rfl, ⟨rfl, rfl, rfl, rfl, rfl, trivial⟩, ⟨⟨0, rfl⟩, trivial⟩, rfl, by decide, rfl, by decide⟩ (by intros; simp [slices_IndexFunc_string_string.l1]) ?_
  clear h
  intro ml1 ihl1 i1181 h
  simp only [slices_IndexFunc_string_string.l1] at h
  refine VC.seq ?_
  refine VC.region ?_
  refine VL.letter (decide (i1181 < (l0.length : Int))) fun b1199 hb1199 => ?_
  refine VL.va (op_cmp rfl rfl (congrArg some hb1199) (ltn rfl)) rfl ?_
  refine VL.done ?_
  refine VN.then ?_
  refine VC.seq ?_
  by_cases c1201 : i1181 < (l0.length : Int)
  · rw [if_pos c1201] at h
    obtain rfl : b1199 = true := hb1199.symm.trans (decide_eq_true c1201)
    refine VC.cond_t rfl ?_
    refine VC.skip ?_
    refine VN.then ?_
    refine VC.seq ?_
    refine VC.block ?_
    refine VC.seq ?_
    refine VC.region ?_
    refine VL.va (op_move rfl (ltn rfl)) rfl ?_
    refine VL.va (op_assign rfl (ltn rfl)) rfl ?_
    refine VL.done ?_
    refine VN.then ?_
    refine VC.seq ?_
    refine VC.region ?_
    refine VL.va (op_move rfl (ltn rfl)) rfl ?_
    refine VL.va (op_move rfl (ltn rfl)) rfl ?_
    refine VL.va (op_move rfl (ltn rfl)) rfl ?_
    by_cases c1209 : 0 ≤ i1181
    · rw [if_pos c1209] at h
      replace h := Option.bind_eq_some_iff.1 h
      obtain ⟨x1210, hx1210, h⟩ := h
      refine VL.open (m := l0.length) 0 lenm rfl (pos_get hx1210) ?_
      rintro ad1211 n1212 rfl
      refine VL.va (op_indexAddr Try.underlying32 TI9 rfl rfl c1209 (lt_get c1209 hx1210) rfl (ltn rfl)) rfl ?_
      refine VL.va (op_load_row (sz := 1) (o := 0) 0 i1181.toNat 1 rfl rfl (get_map hx1210) TI9 rfl (by decide) (ltn rfl)) rfl ?_
      replace h := Option.bind_eq_some_iff.1 h
      obtain ⟨t1213, hA1214, h⟩ := h
      refine VL.sC (o_call0 FO35 (goods_Right_2.ok k x1210 t1213 hA1214) rfl rfl (ltn rfl) (All_of .nil)) rfl ?_
      rintro _ _ _ ⟨rfl, rfl, rfl⟩
      refine VL.done ?_
      refine VN.then ?_
      by_cases c1215 : t1213 = true
      · rw [if_pos c1215] at h
        obtain rfl := c1215
        refine VC.cond_t rfl ?_
        refine VC.seq ?_
        refine VC.region ?_
        refine VL.va (op_move rfl (ltn rfl)) rfl ?_
        refine VL.va (op_assign rfl (ltn rfl)) rfl ?_
        refine VL.done ?_
        refine VN.then ?_
        refine VC.ret ?_
        refine VR.block ?_
        refine VR.then ?_
        refine VR.then ?_
        refine VR.block ?_
        refine VR.then ?_
        obtain rfl := Option.some.inj h
        exact VR.fn (rs := [.tmp 4]) [] [] [] rfl (.tmp rfl .nil) ⟨rfl, rfl, rfl⟩ trivial rfl (by decide)
      · rw [if_neg c1215] at h
        obtain rfl := Bool.eq_false_iff.2 c1215
        refine VC.cond_f rfl ?_
        refine VC.skip ?_
        refine VN.block ?_
        refine VN.then ?_
        refine VC.region ?_
        refine VL.va (op_ari64 rfl rfl rfl (ltn rfl)) rfl ?_
        refine VL.va (op_move rfl (ltn rfl)) rfl ?_
        refine VL.done ?_
        refine VN.again [] [] (ihl1 (wrap64 (i1181 + 1)) h) ⟨rfl, ⟨rfl, rfl, rfl, rfl, rfl, trivial⟩, ⟨⟨0, rfl⟩, trivial⟩, rfl, by decide, rfl, by decide⟩
    · rw [if_neg c1209] at h; cases h
  · rw [if_neg c1201] at h
    obtain rfl : b1199 = false := hb1199.symm.trans (decide_eq_false c1201)
    refine VC.cond_f rfl ?_
    refine VC.exit ?_
    refine VX.then ?_
    refine VX.then ?_
    refine VX.hit ?_
    refine VN.then ?_
    refine VC.seq ?_
    refine VC.region ?_
    refine VL.va (op_assign rfl (ltn rfl)) rfl ?_
    refine VL.done ?_
    refine VN.then ?_
    refine VC.ret ?_
    obtain rfl := Option.some.inj h
    exact VR.fn (rs := [.tmp 4]) [] [] [] rfl (.tmp rfl .nil) ⟨rfl, rfl, rfl⟩ trivial rfl (by decide)
set_option maxHeartbeats 4000000 in
set_option maxRecDepth 100000 in
theorem slices_ContainsFunc_string_string.ok (k : Nat) (l0 : List ByteArray) (v0 : Value) (r1 : Bool) (h : slices_ContainsFunc_string_string.f k l0 = some r1) :
    VCalls Try.prog 34 [v0, (.func (.func 35) #[] #[])] [.row v0 1 (l0.map enc_str)] (fun v G own => v = .bool r1 ∧ G = [] ∧ own = []) := by
  refine VCalls.intro Try.func34 rfl (len rfl) fun E hC => ?_
  unfold slices_ContainsFunc_string_string.f at h
  refine VC.seq ?_
  refine VC.region ?_
  refine VL.va (op_assign rfl (ltn rfl)) rfl ?_
  refine VL.done ?_
  refine VN.then ?_
  refine VC.seq ?_
  refine VC.region ?_
  refine VL.va (op_move rfl (ltn rfl)) rfl ?_
  refine VL.va (op_move rfl (ltn rfl)) rfl ?_
  replace h := Option.bind_eq_some_iff.1 h
  obtain ⟨t1216, hA1217, h⟩ := h
  refine VL.sC (o_call0 FO49 (slices_IndexFunc_string_string.ok k l0 v0 t1216 hA1217) rfl rfl (ltn rfl) (All_of (.cons (List.mem_of_getElem? (i := 0) rfl) .nil))) rfl ?_
  rintro _ _ _ ⟨rfl, rfl, rfl⟩
  refine VL.letter (decide (t1216 ≥ 0)) fun b1218 hb1218 => ?_
  refine VL.va (op_cmp rfl rfl (congrArg some hb1218) (ltn rfl)) rfl ?_
  refine VL.va (op_assign rfl (ltn rfl)) rfl ?_
  refine VL.done ?_
  refine VN.then ?_
  refine VC.ret ?_
  obtain rfl := Option.some.inj h
  subst hb1218
  exact VR.fn (rs := [.tmp 4]) [] [] [] rfl (.tmp rfl .nil) ⟨rfl, rfl, rfl⟩ trivial rfl (by decide)
set_option maxHeartbeats 4000000 in
set_option maxRecDepth 100000 in
theorem internal_bytealg_CompareString.ok (a0 : ByteArray) (a1 : ByteArray)  (r1 : Int) (h : internal_bytealg_CompareString.f a0 a1 = some r1) :
    VCalls Try.prog 52 [.string a0, .string a1] [] (fun v G own => v = .int .i64 r1 ∧ G = [] ∧ own = []) := by
  refine VCalls.intro Try.func52 rfl (len rfl) fun E hC => ?_
  unfold internal_bytealg_CompareString.f at h
  refine VC.seq ?_
  refine VC.region ?_
  refine VL.va (op_assign rfl (ltn rfl)) rfl ?_
  refine VL.done ?_
  refine VN.then ?_
  refine VC.seq ?_
  refine VC.region ?_
  refine VL.va (op_move rfl (ltn rfl)) rfl ?_
  refine VL.va (op_move rfl (ltn rfl)) rfl ?_
  refine VL.va (op_call_ext (vals := [.string a0, .string a1]) rfl rfl (ltn rfl) (fun w _ => run_cmpstring Try.func60 (by kernel_rfl) (by kernel_rfl) (by kernel_rfl) (by kernel_rfl) a0 a1 w)) rfl ?_
  refine VL.va (op_assign rfl (ltn rfl)) rfl ?_
  refine VL.done ?_
  refine VN.then ?_
  refine VC.ret ?_
  obtain rfl := Option.some.inj h
  exact VR.fn (rs := [.tmp 4]) [] [] [] rfl (.tmp rfl .nil) ⟨rfl, rfl, rfl⟩ trivial rfl (by decide)
set_option maxHeartbeats 4000000 in
set_option maxRecDepth 100000 in
theorem strings_Compare.ok (a0 : ByteArray) (a1 : ByteArray)  (r1 : Int) (h : strings_Compare.f a0 a1 = some r1) :
    VCalls Try.prog 38 [.string a0, .string a1] [] (fun v G own => v = .int .i64 r1 ∧ G = [] ∧ own = []) := by
  refine VCalls.intro Try.func38 rfl (len rfl) fun E hC => ?_
  unfold strings_Compare.f at h
  refine VC.seq ?_
  refine VC.region ?_
  refine VL.va (op_assign rfl (ltn rfl)) rfl ?_
  refine VL.done ?_
  refine VN.then ?_
  refine VC.seq ?_
  refine VC.region ?_
  refine VL.va (op_move rfl (ltn rfl)) rfl ?_
  refine VL.va (op_move rfl (ltn rfl)) rfl ?_
  replace h := Option.bind_eq_some_iff.1 h
  obtain ⟨t1235, hA1236, h⟩ := h
  refine VL.sC (o_call0 FO52 (internal_bytealg_CompareString.ok a0 a1 t1235 hA1236) rfl rfl (ltn rfl) (All_of .nil)) rfl ?_
  rintro _ _ _ ⟨rfl, rfl, rfl⟩
  refine VL.va (op_assign rfl (ltn rfl)) rfl ?_
  refine VL.done ?_
  refine VN.then ?_
  refine VC.ret ?_
  obtain rfl := Option.some.inj h
  exact VR.fn (rs := [.tmp 4]) [] [] [] rfl (.tmp rfl .nil) ⟨rfl, rfl, rfl⟩ trivial rfl (by decide)
set_option maxHeartbeats 4000000 in
set_option maxRecDepth 100000 in
theorem goods_rising_string.ok (k : Nat) (l0 : List ByteArray) (a1 : Int) (v0 : Value) (r1 : Bool) (h : goods_rising_string.f k l0 a1 = some r1) :
    VCalls Try.prog 37 [v0, .int .i64 a1, (.func (.func 38) #[] #[])] [.row v0 1 (l0.map enc_str)] (fun v G own => v = .bool r1 ∧ G = [] ∧ own = []) := by
  refine VCalls.intro Try.func37 rfl (len rfl) fun E hC => ?_
  unfold goods_rising_string.f at h
  refine VC.seq ?_
  refine VC.region ?_
  refine VL.va (op_assign rfl (ltn rfl)) rfl ?_
  refine VL.done ?_
  refine VN.then ?_
  refine VC.seq ?_
  refine VC.seq ?_
  refine VC.region ?_
  refine VL.va (op_assign rfl (ltn rfl)) rfl ?_
  refine VL.done ?_
  refine VN.then ?_
  refine VC.block ?_
  refine VC.loop1 (fun (i1307 : Int) => ⟨30, [(0, v0), (1, .int .i64 a1), (2, (.func (.func 38) #[] #[])), (6, .bool false), (7, .int .i64 i1307)], [.row v0 1 (l0.map enc_str)], [], []⟩) (fun (ml1 : Nat) (i1307 : Int) => goods_rising_string.l1 k a1 l0 ml1 i1307 = some r1) k 1 [] [] h ⟨rfl, ⟨rfl, rfl, rfl, rfl, rfl, trivial⟩, ⟨⟨0, rfl⟩, trivial⟩, rfl, by decide, rfl, by decide⟩ (by intros; simp [goods_rising_string.l1]) ?_
  clear h
  intro ml1 ihl1 i1307 h
  simp only [goods_rising_string.l1] at h
  refine VC.seq ?_
  refine VC.seq ?_
  refine VC.region ?_
  refine VL.va (op_move rfl (ltn rfl)) rfl ?_
  refine VL.va (op_move rfl (ltn rfl)) rfl ?_
  refine VL.va (op_len (m := l0.length) 0 lenm Try.underlying32 rfl rfl (ltn rfl)) rfl ?_
  refine VL.letter (decide (i1307 < (l0.length : Int))) fun b1331 hb1331 => ?_
  refine VL.va (op_cmp rfl rfl (congrArg some hb1331) (ltn rfl)) rfl ?_
  refine VL.done ?_
  refine VN.then ?_
  by_cases c1332 : i1307 < (l0.length : Int)
  · rw [if_pos c1332] at h
    obtain rfl : b1331 = true := hb1331.symm.trans (decide_eq_true c1332)
    refine VC.cond_t rfl ?_
    refine VC.skip ?_
    refine VN.then ?_
    refine VC.seq ?_
    refine VC.block ?_
    by_cases c1341 : 0 ≤ wrap64 (i1307 - 1)
    · rw [if_pos c1341] at h
      replace h := Option.bind_eq_some_iff.1 h
      obtain ⟨x1342, hx1342, h⟩ := h
      by_cases c1343 : 0 ≤ i1307
      · rw [if_pos c1343] at h
        replace h := Option.bind_eq_some_iff.1 h
        obtain ⟨x1344, hx1344, h⟩ := h
        replace h := Option.bind_eq_some_iff.1 h
        obtain ⟨t1345, hA1346, h⟩ := h
        refine VC.letter (decide (t1345 ≥ 0)) fun b1347 hb1347 => ?_
        refine VC.open (m := l0.length) 0 lenm rfl (pos_get hx1342) ?_
        rintro ad1232 n1233 rfl
        refine VC.join0 (⟨30, [(0, (.slice (some ad1232) l0.length n1233)), (1, .int .i64 a1), (2, (.func (.func 38) #[] #[])), (6, .bool false), (7, .int .i64 i1307), (8, .int .i64 i1307), (9, (.slice (some ad1232) l0.length n1233)), (10, .int .i64 (l0.length : Int)), (11, .bool true), (14, (.func (.func 38) #[] #[])), (15, (.slice (some ad1232) l0.length n1233)), (16, .int .i64 i1307), (17, .int .i64 (wrap64 (i1307 - 1))), (19, .string x1342), (20, (.slice (some ad1232) l0.length n1233)), (21, .int .i64 i1307), (23, .string x1344), (24, .int .i64 t1345), (25, .bool b1347)], [.row (.slice (some ad1232) l0.length n1233) 1 (l0.map enc_str)], [], []⟩) (True) ?_ ?_
        · refine VC.draw ⟨0, [], [.row (.slice (some ad1232) l0.length n1233) 1 (l0.map enc_str)], [], []⟩ (by kernel_rfl) rfl (by kernel_rfl) (n := 12) (listed := LB 12 0) ?_
          refine VA.va (i := 0) (listed' := LB 12 1) rfl (op_move rfl (ltn rfl)) rfl (by kernel_rfl) (by kernel_rfl) (by kernel_rfl) (by kernel_rfl) ⟨⟨⟨0, rfl⟩, trivial⟩, trivial, trivial⟩ (fun _ _ _ h => h) ?_
          refine VA.va (i := 1) (listed' := LB 12 3) rfl (op_move rfl (ltn rfl)) rfl (by kernel_rfl) (by kernel_rfl) (by kernel_rfl) (by kernel_rfl) ⟨⟨⟨0, rfl⟩, trivial⟩, trivial, trivial⟩ (fun _ _ _ h => h) ?_
          refine VA.va (i := 2) (listed' := LB 12 7) rfl (op_move rfl (ltn rfl)) rfl (by kernel_rfl) (by kernel_rfl) (by kernel_rfl) (by kernel_rfl) ⟨⟨⟨0, rfl⟩, trivial⟩, trivial, trivial⟩ (fun _ _ _ h => h) ?_
          refine VA.va (i := 3) (listed' := LB 12 15) rfl (op_ari64 rfl rfl rfl (ltn rfl)) rfl (by kernel_rfl) (by kernel_rfl) (by kernel_rfl) (by kernel_rfl) ⟨⟨⟨0, rfl⟩, trivial⟩, trivial, trivial⟩ (fun _ _ _ h => h) ?_
          refine VA.va (i := 4) (listed' := LB 12 31) rfl (op_indexAddr Try.underlying32 TI9 rfl rfl c1341 (lt_get c1341 hx1342) rfl (ltn rfl)) rfl (by kernel_rfl) (by kernel_rfl) (by kernel_rfl) (by kernel_rfl) ⟨⟨⟨0, rfl⟩, trivial⟩, trivial, trivial⟩ (fun _ _ _ h => h) ?_
          refine VA.va (i := 5) (listed' := LB 12 63) rfl (op_load_row (sz := 1) (o := 0) 0 (wrap64 (i1307 - 1)).toNat 1 rfl rfl (get_map hx1342) TI9 rfl (by decide) (ltn rfl)) rfl (by kernel_rfl) (by kernel_rfl) (by kernel_rfl) (by kernel_rfl) ⟨⟨⟨0, rfl⟩, trivial⟩, trivial, trivial⟩ (fun _ _ _ h => h) ?_
          refine VA.va (i := 6) (listed' := LB 12 127) rfl (op_move rfl (ltn rfl)) rfl (by kernel_rfl) (by kernel_rfl) (by kernel_rfl) (by kernel_rfl) ⟨⟨⟨0, rfl⟩, trivial⟩, trivial, trivial⟩ (fun _ _ _ h => h) ?_
          refine VA.va (i := 7) (listed' := LB 12 255) rfl (op_move rfl (ltn rfl)) rfl (by kernel_rfl) (by kernel_rfl) (by kernel_rfl) (by kernel_rfl) ⟨⟨⟨0, rfl⟩, trivial⟩, trivial, trivial⟩ (fun _ _ _ h => h) ?_
          refine VA.va (i := 8) (listed' := LB 12 511) rfl (op_indexAddr Try.underlying32 TI9 rfl rfl c1343 (lt_get c1343 hx1344) rfl (ltn rfl)) rfl (by kernel_rfl) (by kernel_rfl) (by kernel_rfl) (by kernel_rfl) ⟨⟨⟨0, rfl⟩, trivial⟩, trivial, trivial⟩ (fun _ _ _ h => h) ?_
          refine VA.va (i := 9) (listed' := LB 12 1023) rfl (op_load_row (sz := 1) (o := 0) 0 i1307.toNat 1 rfl rfl (get_map hx1344) TI9 rfl (by decide) (ltn rfl)) rfl (by kernel_rfl) (by kernel_rfl) (by kernel_rfl) (by kernel_rfl) ⟨⟨⟨0, rfl⟩, trivial⟩, trivial, trivial⟩ (fun _ _ _ h => h) ?_
          refine VA.oneC (i := 10) (listed' := LB 12 2047) (by kernel_rfl) rfl (o_call0 FO38 (strings_Compare.ok x1342 x1344 t1345 hA1346) rfl rfl (ltn rfl) (All_of .nil)) rfl (by kernel_rfl) ?_
          rintro _ _ _ ⟨rfl, rfl, rfl⟩
          refine ⟨⟨⟨⟨0, rfl⟩, trivial⟩, trivial, trivial⟩, ?_⟩
          refine VA.va (i := 11) (listed' := LB 12 4095) rfl (op_cmp rfl rfl (congrArg some hb1347) (ltn rfl)) rfl (by kernel_rfl) (by kernel_rfl) (by kernel_rfl) (by kernel_rfl) ⟨⟨⟨0, rfl⟩, trivial⟩, trivial, trivial⟩ (fun _ _ _ h => h) ?_
          refine VA.done (by kernel_rfl) ?_
          exact VN.meet0  [] [] trivial ⟨rfl, ⟨rfl, rfl, rfl, rfl, rfl, rfl, rfl, rfl, rfl, rfl, rfl, rfl, rfl, rfl, rfl, rfl, rfl, rfl, rfl, trivial⟩, ⟨⟨0, rfl⟩, trivial⟩, rfl, by decide, rfl, by decide⟩
        intro _
        by_cases c1348 : t1345 ≥ 0
        · rw [if_pos c1348] at h
          obtain rfl : b1347 = true := hb1347.symm.trans (decide_eq_true c1348)
          refine VC.cond_t rfl ?_
          refine VC.seq ?_
          refine VC.region ?_
          refine VL.va (op_assign rfl (ltn rfl)) rfl ?_
          refine VL.done ?_
          refine VN.then ?_
          refine VC.ret ?_
          refine VR.block ?_
          refine VR.then ?_
          refine VR.then ?_
          refine VR.block ?_
          refine VR.then ?_
          obtain rfl := Option.some.inj h
          exact VR.fn (rs := [.tmp 6]) [] [] [] rfl (.tmp rfl .nil) ⟨rfl, rfl, rfl⟩ trivial rfl (by decide)
        · rw [if_neg c1348] at h
          obtain rfl : b1347 = false := hb1347.symm.trans (decide_eq_false c1348)
          refine VC.cond_f rfl ?_
          refine VC.skip ?_
          refine VN.block ?_
          refine VN.then ?_
          refine VC.region ?_
          refine VL.va (op_move rfl (ltn rfl)) rfl ?_
          refine VL.va (op_ari64 rfl rfl rfl (ltn rfl)) rfl ?_
          refine VL.va (op_assign rfl (ltn rfl)) rfl ?_
          refine VL.done ?_
          refine VN.again [] [] (ihl1 (wrap64 (i1307 + 1)) h) ⟨rfl, ⟨rfl, rfl, rfl, rfl, rfl, trivial⟩, ⟨⟨0, rfl⟩, trivial⟩, rfl, by decide, rfl, by decide⟩
      · rw [if_neg c1343] at h; cases h
    · rw [if_neg c1341] at h; cases h
  · rw [if_neg c1332] at h
    obtain rfl : b1331 = false := hb1331.symm.trans (decide_eq_false c1332)
    refine VC.cond_f rfl ?_
    refine VC.exit ?_
    refine VX.then ?_
    refine VX.then ?_
    refine VX.hit ?_
    refine VN.then ?_
    refine VC.seq ?_
    refine VC.region ?_
    refine VL.va (op_move rfl (ltn rfl)) rfl ?_
    refine VL.va (op_len (m := l0.length) 0 lenm Try.underlying32 rfl rfl (ltn rfl)) rfl ?_
    refine VL.va (op_move rfl (ltn rfl)) rfl ?_
    refine VL.letter (decide ((l0.length : Int) ≤ a1)) fun b1349 hb1349 => ?_
    refine VL.va (op_cmp rfl rfl (congrArg some hb1349) (ltn rfl)) rfl ?_
    refine VL.va (op_assign rfl (ltn rfl)) rfl ?_
    refine VL.done ?_
    refine VN.then ?_
    refine VC.ret ?_
    obtain rfl := Option.some.inj h
    subst hb1349
    exact VR.fn (rs := [.tmp 6]) [] [] [] rfl (.tmp rfl .nil) ⟨rfl, rfl, rfl⟩ trivial rfl (by decide)
set_option maxHeartbeats 4000000 in
set_option maxRecDepth 100000 in
theorem cmp_isNaN_int.ok (a0 : Int)  (r1 : Bool) (h : cmp_isNaN_int.f a0 = some r1) :
    VCalls Try.prog 58 [.int .i64 a0] [] (fun v G own => v = .bool r1 ∧ G = [] ∧ own = []) := by
  refine VCalls.intro Try.func58 rfl (len rfl) fun E hC => ?_
  unfold cmp_isNaN_int.f at h
  refine VC.seq ?_
  refine VC.region ?_
  refine VL.va (op_assign rfl (ltn rfl)) rfl ?_
  refine VL.done ?_
  refine VN.then ?_
  refine VC.seq ?_
  refine VC.region ?_
  refine VL.va (op_move rfl (ltn rfl)) rfl ?_
  refine VL.va (op_move rfl (ltn rfl)) rfl ?_
  refine VL.letter ((a0 != a0)) fun b1367 hb1367 => ?_
  refine VL.va (op_cmp rfl rfl (congrArg some hb1367) (ltn rfl)) rfl ?_
  refine VL.va (op_assign rfl (ltn rfl)) rfl ?_
  refine VL.done ?_
  refine VN.then ?_
  refine VC.ret ?_
  obtain rfl := Option.some.inj h
  subst hb1367
  exact VR.fn (rs := [.tmp 2]) [] [] [] rfl (.tmp rfl .nil) ⟨rfl, rfl, rfl⟩ trivial rfl (by decide)
set_option maxHeartbeats 4000000 in
set_option maxRecDepth 100000 in
theorem cmp_Compare_int.ok (a0 : Int) (a1 : Int)  (r1 : Int) (h : cmp_Compare_int.f a0 a1 = some r1) :
    VCalls Try.prog 48 [.int .i64 a0, .int .i64 a1] [] (fun v G own => v = .int .i64 r1 ∧ G = [] ∧ own = []) := by
  refine VCalls.intro Try.func48 rfl (len rfl) fun E hC => ?_
  unfold cmp_Compare_int.f at h
  refine VC.seq ?_
  refine VC.region ?_
  refine VL.va (op_assign rfl (ltn rfl)) rfl ?_
  refine VL.done ?_
  refine VN.then ?_
  refine VC.seq ?_
  refine VC.region ?_
  refine VL.va (op_move rfl (ltn rfl)) rfl ?_
  replace h := Option.bind_eq_some_iff.1 h
  obtain ⟨t1368, hA1369, h⟩ := h
  refine VL.sC (o_call0 FO58 (cmp_isNaN_int.ok a0 t1368 hA1369) rfl rfl (ltn rfl) (All_of .nil)) rfl ?_
  rintro _ _ _ ⟨rfl, rfl, rfl⟩
  refine VL.va (op_assign rfl (ltn rfl)) rfl ?_
  refine VL.done ?_
  refine VN.then ?_
  refine VC.seq ?_
  refine VC.region ?_
  refine VL.va (op_move rfl (ltn rfl)) rfl ?_
  replace h := Option.bind_eq_some_iff.1 h
  obtain ⟨t1370, hA1371, h⟩ := h
  refine VL.sC (o_call0 FO58 (cmp_isNaN_int.ok a1 t1370 hA1371) rfl rfl (ltn rfl) (All_of .nil)) rfl ?_
  rintro _ _ _ ⟨rfl, rfl, rfl⟩
  refine VL.va (op_assign rfl (ltn rfl)) rfl ?_
  refine VL.done ?_
  refine VN.then ?_
  refine VC.seq ?_
  refine VC.seq ?_
  refine VC.region ?_
  refine VL.va (op_move rfl (ltn rfl)) rfl ?_
  refine VL.done ?_
  refine VN.then ?_
  by_cases c1375 : t1368 = true
  · rw [if_pos c1375] at h
    obtain rfl := c1375
    refine VC.cond_t rfl ?_
    refine VC.seq ?_
    refine VC.seq ?_
    refine VC.region ?_
    refine VL.va (op_move rfl (ltn rfl)) rfl ?_
    refine VL.done ?_
    refine VN.then ?_
    by_cases c1377 : t1370 = true
    · rw [if_pos c1377] at h
      obtain rfl := c1377
      refine VC.cond_t rfl ?_
      refine VC.seq ?_
      refine VC.region ?_
      refine VL.va (op_assign rfl (ltn rfl)) rfl ?_
      refine VL.done ?_
      refine VN.then ?_
      refine VC.ret ?_
      refine VR.then ?_
      refine VR.then ?_
      obtain rfl := Option.some.inj h
      exact VR.fn (rs := [.tmp 4]) [] [] [] rfl (.tmp rfl .nil) ⟨rfl, rfl, rfl⟩ trivial rfl (by decide)
    · rw [if_neg c1377] at h
      obtain rfl := Bool.eq_false_iff.2 c1377
      refine VC.cond_f rfl ?_
      refine VC.skip ?_
      refine VN.then ?_
      refine VC.seq ?_
      refine VC.region ?_
      refine VL.va (op_assign rfl (ltn rfl)) rfl ?_
      refine VL.done ?_
      refine VN.then ?_
      refine VC.ret ?_
      refine VR.then ?_
      obtain rfl := Option.some.inj h
      exact VR.fn (rs := [.tmp 4]) [] [] [] rfl (.tmp rfl .nil) ⟨rfl, rfl, rfl⟩ trivial rfl (by decide)
  · rw [if_neg c1375] at h
    obtain rfl := Bool.eq_false_iff.2 c1375
    refine VC.cond_f rfl ?_
    refine VC.skip ?_
    refine VN.then ?_
    refine VC.seq ?_
    refine VC.seq ?_
    refine VC.region ?_
    refine VL.va (op_move rfl (ltn rfl)) rfl ?_
    refine VL.done ?_
    refine VN.then ?_
    by_cases c1379 : t1370 = true
    · rw [if_pos c1379] at h
      obtain rfl := c1379
      refine VC.cond_t rfl ?_
      refine VC.seq ?_
      refine VC.region ?_
      refine VL.va (op_assign rfl (ltn rfl)) rfl ?_
      refine VL.done ?_
      refine VN.then ?_
      refine VC.ret ?_
      refine VR.then ?_
      obtain rfl := Option.some.inj h
      exact VR.fn (rs := [.tmp 4]) [] [] [] rfl (.tmp rfl .nil) ⟨rfl, rfl, rfl⟩ trivial rfl (by decide)
    · rw [if_neg c1379] at h
      obtain rfl := Bool.eq_false_iff.2 c1379
      refine VC.cond_f rfl ?_
      refine VC.skip ?_
      refine VN.then ?_
      refine VC.seq ?_
      refine VC.seq ?_
      refine VC.region ?_
      refine VL.va (op_move rfl (ltn rfl)) rfl ?_
      refine VL.va (op_move rfl (ltn rfl)) rfl ?_
      refine VL.letter (decide (a0 < a1)) fun b1382 hb1382 => ?_
      refine VL.va (op_cmp rfl rfl (congrArg some hb1382) (ltn rfl)) rfl ?_
      refine VL.done ?_
      refine VN.then ?_
      by_cases c1383 : a0 < a1
      · rw [if_pos c1383] at h
        obtain rfl : b1382 = true := hb1382.symm.trans (decide_eq_true c1383)
        refine VC.cond_t rfl ?_
        refine VC.seq ?_
        refine VC.region ?_
        refine VL.va (op_assign rfl (ltn rfl)) rfl ?_
        refine VL.done ?_
        refine VN.then ?_
        refine VC.ret ?_
        refine VR.then ?_
        obtain rfl := Option.some.inj h
        exact VR.fn (rs := [.tmp 4]) [] [] [] rfl (.tmp rfl .nil) ⟨rfl, rfl, rfl⟩ trivial rfl (by decide)
      · rw [if_neg c1383] at h
        obtain rfl : b1382 = false := hb1382.symm.trans (decide_eq_false c1383)
        refine VC.cond_f rfl ?_
        refine VC.skip ?_
        refine VN.then ?_
        refine VC.seq ?_
        refine VC.seq ?_
        refine VC.region ?_
        refine VL.va (op_move rfl (ltn rfl)) rfl ?_
        refine VL.va (op_move rfl (ltn rfl)) rfl ?_
        refine VL.letter (decide (a0 > a1)) fun b1386 hb1386 => ?_
        refine VL.va (op_cmp rfl rfl (congrArg some hb1386) (ltn rfl)) rfl ?_
        refine VL.done ?_
        refine VN.then ?_
        by_cases c1387 : a0 > a1
        · rw [if_pos c1387] at h
          obtain rfl : b1386 = true := hb1386.symm.trans (decide_eq_true c1387)
          refine VC.cond_t rfl ?_
          refine VC.seq ?_
          refine VC.region ?_
          refine VL.va (op_assign rfl (ltn rfl)) rfl ?_
          refine VL.done ?_
          refine VN.then ?_
          refine VC.ret ?_
          refine VR.then ?_
          obtain rfl := Option.some.inj h
          exact VR.fn (rs := [.tmp 4]) [] [] [] rfl (.tmp rfl .nil) ⟨rfl, rfl, rfl⟩ trivial rfl (by decide)
        · rw [if_neg c1387] at h
          obtain rfl : b1386 = false := hb1386.symm.trans (decide_eq_false c1387)
          refine VC.cond_f rfl ?_
          refine VC.skip ?_
          refine VN.then ?_
          refine VC.seq ?_
          refine VC.region ?_
          refine VL.va (op_assign rfl (ltn rfl)) rfl ?_
          refine VL.done ?_
          refine VN.then ?_
          refine VC.ret ?_
          obtain rfl := Option.some.inj h
          exact VR.fn (rs := [.tmp 4]) [] [] [] rfl (.tmp rfl .nil) ⟨rfl, rfl, rfl⟩ trivial rfl (by decide)
set_option maxHeartbeats 4000000 in
set_option maxRecDepth 100000 in
theorem cmp_Or_int.ok (k : Nat) (l0 : List Int) (v0 : Value) (r1 : Int) (h : cmp_Or_int.f k l0 = some r1) :
    VCalls Try.prog 47 [v0] [.row v0 1 (l0.map enc_inti64)] (fun v G own => v = .int .i64 r1 ∧ G = [] ∧ own = []) := by
  refine VCalls.intro Try.func47 rfl (len rfl) fun E hC => ?_
  unfold cmp_Or_int.f at h
  refine VC.seq ?_
  refine VC.region ?_
  refine VL.va (op_assign rfl (ltn rfl)) rfl ?_
  refine VL.done ?_
  refine VN.then ?_
  refine VC.seq ?_
  refine VC.region ?_
  refine VL.va (op_assign rfl (ltn rfl)) rfl ?_
  refine VL.done ?_
  refine VN.then ?_
  refine VC.seq ?_
  refine VC.seq ?_
  refine VC.region ?_
  refine VL.va (op_move rfl (ltn rfl)) rfl ?_
  refine VL.va (op_len (m := l0.length) 0 lenm Try.underlying81 rfl rfl (ltn rfl)) rfl ?_
  refine VL.va (op_move rfl (ltn rfl)) rfl ?_
  refine VL.done ?_
  refine VN.then ?_
  refine VC.block ?_
  refine VC.loop1 (fun (i1450 : Int) => ⟨18, [(2, .int .i64 0), (3, .int .i64 0), (6, v0), (7, .int .i64 (l0.length : Int)), (8, .int .i64 i1450)], [.row v0 1 (l0.map enc_inti64)], [], []⟩) (fun (ml1 : Nat) (i1450 : Int) => cmp_Or_int.l1 k l0 ml1 i1450 = some r1) k 0 [] [] h ⟨rfl, ⟨rfl, rfl, rfl, rfl, rfl, trivial⟩, ⟨⟨0, rfl⟩, trivial⟩, rfl, by decide, rfl, by decide⟩ (by intros; simp [cmp_Or_int.l1]) ?_
  clear h
  intro ml1 ihl1 i1450 h
  simp only [cmp_Or_int.l1] at h
  refine VC.seq ?_
  refine VC.region ?_
  refine VL.letter (decide (i1450 < (l0.length : Int))) fun b1466 hb1466 => ?_
  refine VL.va (op_cmp rfl rfl (congrArg some hb1466) (ltn rfl)) rfl ?_
  refine VL.done ?_
  refine VN.then ?_
  refine VC.seq ?_
  by_cases c1468 : i1450 < (l0.length : Int)
  · rw [if_pos c1468] at h
    obtain rfl : b1466 = true := hb1466.symm.trans (decide_eq_true c1468)
    refine VC.cond_t rfl ?_
    refine VC.skip ?_
    refine VN.then ?_
    refine VC.seq ?_
    refine VC.block ?_
    refine VC.seq ?_
    refine VC.region ?_
    by_cases c1475 : 0 ≤ i1450
    · rw [if_pos c1475] at h
      replace h := Option.bind_eq_some_iff.1 h
      obtain ⟨x1476, hx1476, h⟩ := h
      refine VL.open (m := l0.length) 0 lenm rfl (pos_get hx1476) ?_
      rintro ad1477 n1478 rfl
      refine VL.va (op_indexAddr Try.underlying81 TI3 rfl rfl c1475 (lt_get c1475 hx1476) rfl (ltn rfl)) rfl ?_
      refine VL.va (op_load_row (sz := 1) (o := 0) 0 i1450.toNat 1 rfl rfl (get_map hx1476) TI3 rfl (by decide) (ltn rfl)) rfl ?_
      refine VL.va (op_assign rfl (ltn rfl)) rfl ?_
      refine VL.done ?_
      refine VN.then ?_
      refine VC.seq ?_
      refine VC.region ?_
      refine VL.va (op_move rfl (ltn rfl)) rfl ?_
      refine VL.va (op_move rfl (ltn rfl)) rfl ?_
      refine VL.letter ((x1476 != 0)) fun b1479 hb1479 => ?_
      refine VL.va (op_cmp rfl rfl (congrArg some hb1479) (ltn rfl)) rfl ?_
      refine VL.done ?_
      refine VN.then ?_
      by_cases c1480 : x1476 = 0
      · rw [if_pos c1480] at h
        obtain rfl : b1479 = false := hb1479.symm.trans (bne_eq_false_iff_eq.2 c1480)
        refine VC.cond_f rfl ?_
        refine VC.skip ?_
        refine VN.block ?_
        refine VN.then ?_
        refine VC.region ?_
        refine VL.va (op_ari64 rfl rfl rfl (ltn rfl)) rfl ?_
        refine VL.va (op_move rfl (ltn rfl)) rfl ?_
        refine VL.done ?_
        refine VN.again [] [] (ihl1 (wrap64 (i1450 + 1)) h) ⟨rfl, ⟨rfl, rfl, rfl, rfl, rfl, trivial⟩, ⟨⟨0, rfl⟩, trivial⟩, rfl, by decide, rfl, by decide⟩
      · rw [if_neg c1480] at h
        obtain rfl : b1479 = true := hb1479.symm.trans (bne_iff_ne.2 c1480)
        refine VC.cond_t rfl ?_
        refine VC.seq ?_
        refine VC.region ?_
        refine VL.va (op_move rfl (ltn rfl)) rfl ?_
        refine VL.va (op_assign rfl (ltn rfl)) rfl ?_
        refine VL.done ?_
        refine VN.then ?_
        refine VC.ret ?_
        refine VR.block ?_
        refine VR.then ?_
        refine VR.then ?_
        refine VR.block ?_
        refine VR.then ?_
        obtain rfl := Option.some.inj h
        exact VR.fn (rs := [.tmp 2]) [] [] [] rfl (.tmp rfl .nil) ⟨rfl, rfl, rfl⟩ trivial rfl (by decide)
    · rw [if_neg c1475] at h; cases h
  · rw [if_neg c1468] at h
    obtain rfl : b1466 = false := hb1466.symm.trans (decide_eq_false c1468)
    refine VC.cond_f rfl ?_
    refine VC.exit ?_
    refine VX.then ?_
    refine VX.then ?_
    refine VX.hit ?_
    refine VN.then ?_
    refine VC.seq ?_
    refine VC.region ?_
    refine VL.va (op_move rfl (ltn rfl)) rfl ?_
    refine VL.va (op_assign rfl (ltn rfl)) rfl ?_
    refine VL.done ?_
    refine VN.then ?_
    refine VC.ret ?_
    obtain rfl := Option.some.inj h
    exact VR.fn (rs := [.tmp 2]) [] [] [] rfl (.tmp rfl .nil) ⟨rfl, rfl, rfl⟩ trivial rfl (by decide)
set_option maxHeartbeats 4000000 in
set_option maxRecDepth 100000 in
theorem goods_compare.ok (k : Nat) (a0_0 : ByteArray) (a0_1 : ByteArray) (a0_2 : Int) (a0_3 : Int) (a0_4 : Int) (a1_0 : ByteArray) (a1_1 : ByteArray) (a1_2 : Int) (a1_3 : Int) (a1_4 : Int)  (r1 : Int) (h : goods_compare.f k a0_0 a0_1 a0_2 a0_3 a0_4 a1_0 a1_1 a1_2 a1_3 a1_4 = some r1) :
    VCalls Try.prog 29 [.agg #[.string a0_0, .string a0_1, .int .i64 a0_2, .int .i64 a0_3, .int .i64 a0_4], .agg #[.string a1_0, .string a1_1, .int .i64 a1_2, .int .i64 a1_3, .int .i64 a1_4]] [] (fun v G own => v = .int .i64 r1 ∧ G = [] ∧ own = []) := by
  refine VCalls.intro Try.func29 rfl (len rfl) fun E hC => ?_
  unfold goods_compare.f at h
  refine VC.seq ?_
  refine VC.region ?_
  refine VL.sG (o_box rfl (.agg (.of rfl)) (ltn rfl)) rfl ?_
  intro g1363
  refine VL.sG (o_box rfl (.agg (.of rfl)) (ltn rfl)) rfl ?_
  intro g1364
  refine VL.va (op_assign rfl (ltn rfl)) rfl ?_
  refine VL.done ?_
  refine VN.then ?_
  replace h := Option.bind_eq_some_iff.1 h
  obtain ⟨t1365, hA1366, h⟩ := h
  replace h := Option.bind_eq_some_iff.1 h
  obtain ⟨t1388, hA1389, h⟩ := h
  replace h := Option.bind_eq_some_iff.1 h
  obtain ⟨t1481, hA1482, h⟩ := h
  refine VC.join0 (⟨17, [(4, .int .i64 t1481)], [], [], []⟩) (True) ?_ ?_
  · refine VC.draw ⟨0, [], [], [(g1364, 23, [.string a1_0, .string a1_1, .int .i64 a1_2, .int .i64 a1_3, .int .i64 a1_4]), (g1363, 23, [.string a0_0, .string a0_1, .int .i64 a0_2, .int .i64 a0_3, .int .i64 a0_4])], []⟩ (by kernel_rfl) rfl (by kernel_rfl) (n := 13) (listed := LB 13 0) ?_
    refine VA.va (i := 0) (listed' := LB 13 1) rfl (op_fieldAddr FI23_0 rfl (add_at _ _ _) (ltn rfl)) rfl (by kernel_rfl) (by kernel_rfl) (by kernel_rfl) (by kernel_rfl) ⟨trivial, ⟨⟨0, rfl⟩, ⟨1, rfl⟩, trivial⟩, trivial⟩ (fun _ _ _ h => h) ?_
    refine VA.va (i := 1) (listed' := LB 13 3) rfl (op_load 1 1 rfl rfl TI9 rfl (by decide) (ltn rfl)) rfl (by kernel_rfl) (by kernel_rfl) (by kernel_rfl) (by kernel_rfl) ⟨trivial, ⟨⟨0, rfl⟩, ⟨1, rfl⟩, trivial⟩, trivial⟩ (fun _ _ _ h => h) ?_
    refine VA.va (i := 2) (listed' := LB 13 7) rfl (op_fieldAddr FI23_0 rfl (add_at _ _ _) (ltn rfl)) rfl (by kernel_rfl) (by kernel_rfl) (by kernel_rfl) (by kernel_rfl) ⟨trivial, ⟨⟨0, rfl⟩, ⟨1, rfl⟩, trivial⟩, trivial⟩ (fun _ _ _ h => h) ?_
    refine VA.va (i := 3) (listed' := LB 13 15) rfl (op_load 0 1 rfl rfl TI9 rfl (by decide) (ltn rfl)) rfl (by kernel_rfl) (by kernel_rfl) (by kernel_rfl) (by kernel_rfl) ⟨trivial, ⟨⟨0, rfl⟩, ⟨1, rfl⟩, trivial⟩, trivial⟩ (fun _ _ _ h => h) ?_
    refine VA.va (i := 5) (listed' := LB 13 47) rfl (op_fieldAddr FI23_2 rfl (add_at _ _ _) (ltn rfl)) rfl (by kernel_rfl) (by kernel_rfl) (by kernel_rfl) (by kernel_rfl) ⟨trivial, ⟨⟨0, rfl⟩, ⟨1, rfl⟩, trivial⟩, trivial⟩ (fun _ _ _ h => h) ?_
    refine VA.va (i := 6) (listed' := LB 13 111) rfl (op_load 1 1 rfl rfl TI3 rfl (by decide) (ltn rfl)) rfl (by kernel_rfl) (by kernel_rfl) (by kernel_rfl) (by kernel_rfl) ⟨trivial, ⟨⟨0, rfl⟩, ⟨1, rfl⟩, trivial⟩, trivial⟩ (fun _ _ _ h => h) ?_
    refine VA.va (i := 7) (listed' := LB 13 239) rfl (op_fieldAddr FI23_2 rfl (add_at _ _ _) (ltn rfl)) rfl (by kernel_rfl) (by kernel_rfl) (by kernel_rfl) (by kernel_rfl) ⟨trivial, ⟨⟨0, rfl⟩, ⟨1, rfl⟩, trivial⟩, trivial⟩ (fun _ _ _ h => h) ?_
    refine VA.va (i := 8) (listed' := LB 13 495) rfl (op_load 0 1 rfl rfl TI3 rfl (by decide) (ltn rfl)) rfl (by kernel_rfl) (by kernel_rfl) (by kernel_rfl) (by kernel_rfl) ⟨trivial, ⟨⟨0, rfl⟩, ⟨1, rfl⟩, trivial⟩, trivial⟩ (fun _ _ _ h => h) ?_
    refine VA.oneC (i := 4) (listed' := LB 13 511) (by kernel_rfl) rfl (o_call0 FO38 (strings_Compare.ok a0_0 a1_0 t1365 hA1366) rfl rfl (ltn rfl) (All_of .nil)) rfl (by kernel_rfl) ?_
    rintro _ _ _ ⟨rfl, rfl, rfl⟩
    refine ⟨⟨trivial, ⟨⟨0, rfl⟩, ⟨1, rfl⟩, trivial⟩, trivial⟩, ?_⟩
    refine VA.oneC (i := 9) (listed' := LB 13 1023) (by kernel_rfl) rfl (o_call0 FO48 (cmp_Compare_int.ok a0_2 a1_2 t1388 hA1389) rfl rfl (ltn rfl) (All_of .nil)) rfl (by kernel_rfl) ?_
    rintro _ _ _ ⟨rfl, rfl, rfl⟩
    refine ⟨⟨trivial, ⟨⟨0, rfl⟩, ⟨1, rfl⟩, trivial⟩, trivial⟩, ?_⟩
    refine VA.oneG (i := 10) (listed' := LB 13 2047) (by kernel_rfl) rfl (o_buildSlice (vals := [(0, .int .i64 t1365), (1, .int .i64 t1388)]) (cells := #[.int .i64 t1365, .int .i64 t1388]) (es := List.map enc_inti64 ([t1365, t1388] : List Int)) Try.underlying81 TI3 Z3 rfl (by decide) (by decide) (by kernel_rfl) (by kernel_rfl) rfl (flat_map enc_inti64_ok _) (ltn rfl)) rfl (by kernel_rfl) (fun _ => ⟨trivial, ⟨⟨0, rfl⟩, ⟨1, rfl⟩, trivial⟩, trivial⟩) ?_
    intro v1391
    refine VA.oneC (i := 11) (listed' := LB 13 4095) (by kernel_rfl) rfl (o_call_b0 FO47 (cmp_Or_int.ok k ([t1365, t1388] : List Int) v1391 t1481 hA1482) rfl rfl (ltn rfl) (All_of (.cons (.inr (.inl ⟨_, List.mem_of_getElem? (i := 0) rfl, rfl⟩)) .nil)) (by rintro _ _ _ ⟨rfl, rfl, rfl⟩; rfl)) rfl (by kernel_rfl) ?_
    rintro _ _ _ ⟨rfl, rfl, rfl⟩
    refine ⟨⟨trivial, ⟨⟨0, rfl⟩, ⟨1, rfl⟩, trivial⟩, trivial⟩, ?_⟩
    refine VA.va (i := 12) (listed' := LB 13 8191) rfl (op_assign rfl (ltn rfl)) rfl (by kernel_rfl) (by kernel_rfl) (by kernel_rfl) (by kernel_rfl) ⟨trivial, ⟨⟨0, rfl⟩, ⟨1, rfl⟩, trivial⟩, trivial⟩ (fun _ _ _ h => h) ?_
    refine VA.done (by kernel_rfl) ?_
    exact VN.meet0  [] [] trivial ⟨rfl, ⟨rfl, trivial⟩, trivial, rfl, by decide, rfl, by decide⟩
  intro _
  refine VC.ret ?_
  obtain rfl := Option.some.inj h
  exact VR.fn (rs := [.tmp 4]) [] [] [] rfl (.tmp rfl .nil) ⟨rfl, rfl, rfl⟩ trivial rfl (by decide)

end Go.Proofs.Ytoiihpmncphplaa.PGoodsKnow
