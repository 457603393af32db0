/- Written by a program of this repo: what the program's functions do, each as a Lean function, shown of the loaded code; or a statement's row over that; no condition of its own. -/
import Derived.Test.YtdofmkbffffbpaaPWaitsStandx6
namespace Go.Proofs.Ytdofmkbffffbpaa.PWaitsStand
open Go Go.RowKit Go.Proofs.YtdofmkbffffbpaaV
set_option linter.unusedVariables false
set_option linter.unusedSimpArgs false

set_option maxHeartbeats 4000000 in
set_option maxRecDepth 100000 in
theorem tarryref06_Less.ok (a0_0 : Int) (a0_1 : Int) (a0_2 : Int) (a1_0 : Int) (a1_1 : Int) (a1_2 : Int)  (r1 : Bool) (h : tarryref06_Less.f a0_0 a0_1 a0_2 a1_0 a1_1 a1_2 = some r1) :
    VCalls Try.prog 52 [.agg #[.int .i64 a0_0, .int .i64 a0_1, .int .i64 a0_2], .agg #[.int .i64 a1_0, .int .i64 a1_1, .int .i64 a1_2]] [] (fun v G own => v = .bool r1 ∧ G = [] ∧ own = []) := by
  refine VCalls.intro Try.func52 rfl (len rfl) fun E hC hW hD hU => ?_
  unfold tarryref06_Less.f at h
  refine VC.seq ?_
  refine VC.region ?_
  refine VL.sG (o_box rfl (.agg (.of rfl)) (ltn rfl)) rfl ?_
  intro g3202
  refine VL.sG (o_box rfl (.agg (.of rfl)) (ltn rfl)) rfl ?_
  intro g3203
  refine VL.va (op_assign rfl (ltn rfl)) rfl ?_
  refine VL.done ?_
  refine VN.then ?_
  refine VC.seq ?_
  refine VC.seq ?_
  refine VC.region ?_
  refine VL.va (op_fieldAddr FI24_0 rfl (add_at _ _ _) (ltn rfl)) rfl ?_
  refine VL.va (op_load 1 1 rfl rfl TI3 rfl (by decide) (ltn rfl)) rfl ?_
  refine VL.va (op_fieldAddr FI24_0 rfl (add_at _ _ _) (ltn rfl)) rfl ?_
  refine VL.va (op_load 0 1 rfl rfl TI3 rfl (by decide) (ltn rfl)) rfl ?_
  refine VL.letter ((a0_0 != a1_0)) fun b3207 hb3207 => ?_
  refine VL.va (op_cmp rfl rfl (congrArg some hb3207) (ltn rfl)) rfl ?_
  refine VL.done ?_
  refine VN.then ?_
  by_cases c3208 : a0_0 = a1_0
  · rw [if_pos c3208] at h
    obtain rfl : b3207 = false := hb3207.symm.trans (bne_eq_false_iff_eq.2 c3208)
    refine VC.cond_f rfl ?_
    refine VC.skip ?_
    refine VN.then ?_
    refine VC.seq ?_
    refine VC.seq ?_
    refine VC.region ?_
    refine VL.va (op_fieldAddr FI24_1 rfl (add_at _ _ _) (ltn rfl)) rfl ?_
    refine VL.va (op_load 1 1 rfl rfl TI3 rfl (by decide) (ltn rfl)) rfl ?_
    refine VL.va (op_fieldAddr FI24_1 rfl (add_at _ _ _) (ltn rfl)) rfl ?_
    refine VL.va (op_load 0 1 rfl rfl TI3 rfl (by decide) (ltn rfl)) rfl ?_
    refine VL.letter ((a0_1 != a1_1)) fun b3212 hb3212 => ?_
    refine VL.va (op_cmp rfl rfl (congrArg some hb3212) (ltn rfl)) rfl ?_
    refine VL.done ?_
    refine VN.then ?_
    by_cases c3213 : a0_1 = a1_1
    · rw [if_pos c3213] at h
      obtain rfl : b3212 = false := hb3212.symm.trans (bne_eq_false_iff_eq.2 c3213)
      refine VC.cond_f rfl ?_
      refine VC.skip ?_
      refine VN.then ?_
      refine VC.seq ?_
      refine VC.region ?_
      refine VL.va (op_fieldAddr FI24_2 rfl (add_at _ _ _) (ltn rfl)) rfl ?_
      refine VL.va (op_load 1 1 rfl rfl TI3 rfl (by decide) (ltn rfl)) rfl ?_
      refine VL.va (op_fieldAddr FI24_2 rfl (add_at _ _ _) (ltn rfl)) rfl ?_
      refine VL.va (op_load 0 1 rfl rfl TI3 rfl (by decide) (ltn rfl)) rfl ?_
      refine VL.letter (decide (a0_2 < a1_2)) fun b3214 hb3214 => ?_
      refine VL.va (op_cmp rfl rfl (congrArg some hb3214) (ltn rfl)) rfl ?_
      refine VL.va (op_assign rfl (ltn rfl)) rfl ?_
      refine VL.done ?_
      refine VN.then ?_
      refine VC.ret ?_
      obtain rfl := Option.some.inj h
      subst hb3214
      exact VR.fn (rs := [.tmp 4]) [] [] [] rfl (.tmp rfl .nil) ⟨rfl, rfl, rfl⟩ trivial rfl (by decide)
    · rw [if_neg c3213] at h
      obtain rfl : b3212 = true := hb3212.symm.trans (bne_iff_ne.2 c3213)
      refine VC.cond_t rfl ?_
      refine VC.seq ?_
      refine VC.region ?_
      refine VL.va (op_fieldAddr FI24_1 rfl (add_at _ _ _) (ltn rfl)) rfl ?_
      refine VL.va (op_load 1 1 rfl rfl TI3 rfl (by decide) (ltn rfl)) rfl ?_
      refine VL.va (op_fieldAddr FI24_1 rfl (add_at _ _ _) (ltn rfl)) rfl ?_
      refine VL.va (op_load 0 1 rfl rfl TI3 rfl (by decide) (ltn rfl)) rfl ?_
      refine VL.letter (decide (a0_1 < a1_1)) fun b3215 hb3215 => ?_
      refine VL.va (op_cmp rfl rfl (congrArg some hb3215) (ltn rfl)) rfl ?_
      refine VL.va (op_assign rfl (ltn rfl)) rfl ?_
      refine VL.done ?_
      refine VN.then ?_
      refine VC.ret ?_
      refine VR.then ?_
      obtain rfl := Option.some.inj h
      subst hb3215
      exact VR.fn (rs := [.tmp 4]) [] [] [] rfl (.tmp rfl .nil) ⟨rfl, rfl, rfl⟩ trivial rfl (by decide)
  · rw [if_neg c3208] at h
    obtain rfl : b3207 = true := hb3207.symm.trans (bne_iff_ne.2 c3208)
    refine VC.cond_t rfl ?_
    refine VC.seq ?_
    refine VC.region ?_
    refine VL.va (op_fieldAddr FI24_0 rfl (add_at _ _ _) (ltn rfl)) rfl ?_
    refine VL.va (op_load 1 1 rfl rfl TI3 rfl (by decide) (ltn rfl)) rfl ?_
    refine VL.va (op_fieldAddr FI24_0 rfl (add_at _ _ _) (ltn rfl)) rfl ?_
    refine VL.va (op_load 0 1 rfl rfl TI3 rfl (by decide) (ltn rfl)) rfl ?_
    refine VL.letter (decide (a0_0 < a1_0)) fun b3216 hb3216 => ?_
    refine VL.va (op_cmp rfl rfl (congrArg some hb3216) (ltn rfl)) rfl ?_
    refine VL.va (op_assign rfl (ltn rfl)) rfl ?_
    refine VL.done ?_
    refine VN.then ?_
    refine VC.ret ?_
    refine VR.then ?_
    obtain rfl := Option.some.inj h
    subst hb3216
    exact VR.fn (rs := [.tmp 4]) [] [] [] rfl (.tmp rfl .nil) ⟨rfl, rfl, rfl⟩ trivial rfl (by decide)
set_option maxHeartbeats 4000000 in
set_option maxRecDepth 100000 in
theorem tarryref09_Less.ok (k : Nat) (a0_0 : ByteArray) (a0_1 : Int) (a0_2 : Int) (a0_3 : Int) (a1_0 : ByteArray) (a1_1 : Int) (a1_2 : Int) (a1_3 : Int)  (r1 : Bool) (h : tarryref09_Less.f k a0_0 a0_1 a0_2 a0_3 a1_0 a1_1 a1_2 a1_3 = some r1) :
    VCalls Try.prog 38 [.agg #[.string a0_0, .int .i64 a0_1, .int .i64 a0_2, .int .i64 a0_3], .agg #[.string a1_0, .int .i64 a1_1, .int .i64 a1_2, .int .i64 a1_3]] [] (fun v G own => v = .bool r1 ∧ G = [] ∧ own = []) := by
  refine VCalls.intro Try.func38 rfl (len rfl) fun E hC hW hD hU => ?_
  unfold tarryref09_Less.f at h
  refine VC.seq ?_
  refine VC.region ?_
  refine VL.sG (o_box rfl (.agg (.of rfl)) (ltn rfl)) rfl ?_
  intro g3037
  refine VL.sG (o_box rfl (.agg (.of rfl)) (ltn rfl)) rfl ?_
  intro g3038
  refine VL.va (op_assign rfl (ltn rfl)) rfl ?_
  refine VL.done ?_
  refine VN.then ?_
  refine VC.seq ?_
  refine VC.region ?_
  refine VL.va (op_fieldAddr FI26_0 rfl (add_at _ _ _) (ltn rfl)) rfl ?_
  refine VL.va (op_load 1 1 rfl rfl TI9 rfl (by decide) (ltn rfl)) rfl ?_
  refine VL.va (op_fieldAddr FI26_0 rfl (add_at _ _ _) (ltn rfl)) rfl ?_
  refine VL.va (op_load 0 1 rfl rfl TI9 rfl (by decide) (ltn rfl)) rfl ?_
  replace h := Option.bind_eq_some_iff.1 h
  obtain ⟨t3219, hA3220, h⟩ := h
  refine VL.sC (o_call0 FO51 (tarryref07_Less.ok k a0_0 a1_0 t3219 hA3220) rfl rfl (ltn rfl) (All_of .nil)) rfl ?_
  rintro _ _ _ ⟨rfl, rfl, rfl⟩
  refine VL.va (op_move rfl (ltn rfl)) rfl ?_
  by_cases c3221 : t3219 = true
  · rw [if_pos c3221] at h
    obtain rfl := c3221
    refine VL.un rfl rfl (ltn rfl) ?_
    refine VL.un rfl rfl (ltn rfl) ?_
    refine VL.un rfl rfl (ltn rfl) ?_
    refine VL.un rfl rfl (ltn rfl) ?_
    refine VL.un rfl rfl (ltn rfl) ?_
    refine VL.un rfl rfl (ltn rfl) ?_
    refine VL.un rfl rfl (ltn rfl) ?_
    refine VL.un rfl rfl (ltn rfl) ?_
    refine VL.un rfl rfl (ltn rfl) ?_
    refine VL.un rfl rfl (ltn rfl) ?_
    refine VL.un rfl rfl (ltn rfl) ?_
    refine VL.un rfl rfl (ltn rfl) ?_
    refine VL.va (op_pick rfl rfl (ltn rfl)) rfl ?_
    refine VL.va (op_assign rfl (ltn rfl)) rfl ?_
    refine VL.done ?_
    refine VN.then ?_
    refine VC.ret ?_
    obtain rfl := Option.some.inj h
    exact VR.fn (rs := [.tmp 4]) [] [] [] rfl (.tmp rfl .nil) ⟨rfl, rfl, rfl⟩ trivial rfl (by decide)
  · rw [if_neg c3221] at h
    obtain rfl := Bool.eq_false_iff.2 c3221
    refine VL.va (op_fieldAddr FI26_0 rfl (add_at _ _ _) (ltn rfl)) rfl ?_
    refine VL.va (op_load 1 1 rfl rfl TI9 rfl (by decide) (ltn rfl)) rfl ?_
    refine VL.va (op_fieldAddr FI26_0 rfl (add_at _ _ _) (ltn rfl)) rfl ?_
    refine VL.va (op_load 0 1 rfl rfl TI9 rfl (by decide) (ltn rfl)) rfl ?_
    refine VL.letter ((a0_0 == a1_0)) fun b3222 hb3222 => ?_
    refine VL.va (op_cmps rfl rfl (congrArg some hb3222) (ltn rfl)) rfl ?_
    refine VL.va (op_move rfl (ltn rfl)) rfl ?_
    by_cases c3223 : (a0_0 == a1_0) = true
    · rw [if_pos c3223] at h
      obtain rfl : b3222 = true := hb3222.symm.trans (c3223)
      refine VL.va (op_fieldAddr FI26_1 rfl (add_at _ _ _) (ltn rfl)) rfl ?_
      refine VL.va (op_load 1 3 rfl rfl TI24 rfl (fun h => absurd h (by decide)) (ltn rfl)) rfl ?_
      refine VL.va (op_fieldAddr FI26_1 rfl (add_at _ _ _) (ltn rfl)) rfl ?_
      refine VL.va (op_load 0 3 rfl rfl TI24 rfl (fun h => absurd h (by decide)) (ltn rfl)) rfl ?_
      replace h := Option.bind_eq_some_iff.1 h
      obtain ⟨t3224, hA3225, h⟩ := h
      refine VL.sC (o_call0 FO52 (tarryref06_Less.ok a0_1 a0_2 a0_3 a1_1 a1_2 a1_3 t3224 hA3225) rfl rfl (ltn rfl) (All_of .nil)) rfl ?_
      rintro _ _ _ ⟨rfl, rfl, rfl⟩
      refine VL.va (op_pick rfl rfl (ltn rfl)) rfl ?_
      refine VL.va (op_pick rfl rfl (ltn rfl)) rfl ?_
      refine VL.va (op_assign rfl (ltn rfl)) rfl ?_
      refine VL.done ?_
      refine VN.then ?_
      refine VC.ret ?_
      obtain rfl := Option.some.inj h
      exact VR.fn (rs := [.tmp 4]) [] [] [] rfl (.tmp rfl .nil) ⟨rfl, rfl, rfl⟩ trivial rfl (by decide)
    · rw [if_neg c3223] at h
      obtain rfl : b3222 = false := hb3222.symm.trans (Bool.eq_false_iff.2 c3223)
      refine VL.un rfl rfl (ltn rfl) ?_
      refine VL.un rfl rfl (ltn rfl) ?_
      refine VL.un rfl rfl (ltn rfl) ?_
      refine VL.un rfl rfl (ltn rfl) ?_
      refine VL.un rfl rfl (ltn rfl) ?_
      refine VL.va (op_pick rfl rfl (ltn rfl)) rfl ?_
      refine VL.va (op_pick rfl rfl (ltn rfl)) rfl ?_
      refine VL.va (op_assign rfl (ltn rfl)) rfl ?_
      refine VL.done ?_
      refine VN.then ?_
      refine VC.ret ?_
      obtain rfl := Option.some.inj h
      exact VR.fn (rs := [.tmp 4]) [] [] [] rfl (.tmp rfl .nil) ⟨rfl, rfl, rfl⟩ trivial rfl (by decide)
set_option maxHeartbeats 4000000 in
set_option maxRecDepth 100000 in
theorem tarryref09_Make.ok (k : Nat) (l0 : List S25) (v0 : Value) (r1 : List S25) (h : tarryref09_Make.f k l0 = some r1) :
    VCalls Try.prog 16 [v0] [.row v0 4 (l0.map enc25)] (fun v G own => ∃ w0 : Value, v = w0 ∧ G = [] ∧ own = [(w0, 26, 4, r1.map enc25)]) := by
  refine VCalls.intro Try.func16 rfl (len rfl) fun E hC hW hD hU => ?_
  unfold tarryref09_Make.f at h
  refine VC.seq ?_
  refine VC.region ?_
  refine VL.va (op_assign rfl (ltn rfl)) rfl ?_
  refine VL.done ?_
  refine VN.then ?_
  refine VC.seq ?_
  refine VC.region ?_
  refine VL.sG (o_buildSlice (vals := []) (cells := #[]) (es := List.map enc25 ([] : List S25)) Try.underlying22 TI26 Z26 rfl (by decide) (by decide) (by kernel_rfl) (by kernel_rfl) rfl (flat_map enc25_ok _) (ltn rfl)) rfl ?_
  intro v3024
  refine VL.va (op_assign rfl (ltn rfl)) rfl ?_
  refine VL.done ?_
  refine VN.then ?_
  refine VC.seq ?_
  refine VC.seq ?_
  refine VC.region ?_
  refine VL.va (op_move rfl (ltn rfl)) rfl ?_
  refine VL.va (op_len (m := l0.length) 0 lenm Try.underlying22 rfl rfl (ltn rfl)) rfl ?_
  refine VL.va (op_move rfl (ltn rfl)) rfl ?_
  refine VL.done ?_
  refine VN.then ?_
  refine VC.block ?_
  refine VC.loop3 (fun (v4519 : Value) (l4520 : List S25) (i4521 : Int) => ⟨47, [(2, .slice none 0 0), (3, v4519), (9, v0), (10, .int .i64 (l0.length : Int)), (11, .int .i64 i4521)], [.row v0 4 (l0.map enc25)], [], [(v4519, 26, 4, l4520.map enc25)]⟩) (fun (ml5 : Nat) (v4519 : Value) (l4520 : List S25) (i4521 : Int) => tarryref09_Make.l5 k l0 ml5 l4520 i4521 = some r1) k v3024 ([] : List S25) 0 [] [0] h ⟨rfl, ⟨rfl, rfl, rfl, rfl, rfl, trivial⟩, ⟨⟨0, rfl⟩, trivial⟩, rfl, by decide, rfl, by decide⟩ (by intros; simp [tarryref09_Make.l5]) ?_
  clear h
  intro ml5 ihl5 v4519 l4520 i4521 h
  simp only [tarryref09_Make.l5] at h
  refine VC.seq ?_
  refine VC.region ?_
  refine VL.letter (decide (i4521 < (l0.length : Int))) fun b4849 hb4849 => ?_
  refine VL.va (op_cmp rfl rfl (congrArg some hb4849) (ltn rfl)) rfl ?_
  refine VL.done ?_
  refine VN.then ?_
  refine VC.seq ?_
  by_cases c4851 : i4521 < (l0.length : Int)
  · rw [if_pos c4851] at h
    obtain rfl : b4849 = true := hb4849.symm.trans (decide_eq_true c4851)
    refine VC.cond_t rfl ?_
    refine VC.skip ?_
    refine VN.then ?_
    refine VC.seq ?_
    refine VC.block ?_
    refine VC.seq ?_
    refine VC.region ?_
    by_cases c5013 : 0 ≤ i4521
    · rw [if_pos c5013] at h
      replace h := Option.bind_eq_some_iff.1 h
      obtain ⟨x5014, hx5014, h⟩ := h
      refine VL.open (m := l0.length) 0 lenm rfl (pos_get hx5014) ?_
      rintro ad5015 n5016 rfl
      refine VL.va (op_indexAddr Try.underlying22 TI26 rfl rfl c5013 (lt_get c5013 hx5014) rfl (ltn rfl)) rfl ?_
      refine VL.va (op_load_row (sz := 4) (o := 0) 0 i4521.toNat 4 rfl rfl (get_map hx5014) TI26 rfl (fun h => absurd h (by decide)) (ltn rfl)) rfl ?_
      refine VL.sG (o_alloc Z26 ZL26 (ltn rfl)) rfl ?_
      intro g5017
      refine VL.step1 (o_store 0 4 rfl rfl rfl TI26 (.agg (.of rfl)) rfl (len rfl)) rfl ?_
      refine VL.done ?_
      refine VN.then ?_
      refine VC.seq ?_
      refine VC.region ?_
      refine VL.va (op_assign rfl (ltn rfl)) rfl ?_
      refine VL.done ?_
      refine VN.then ?_
      refine VC.seq ?_
      refine VC.block ?_
      refine VC.loop1 (fun (i5071 : Int) => ⟨47, [(2, .slice none 0 0), (3, v4519), (5, .pointer (some ⟨g5017, 0, none⟩)), (6, .int .i64 i5071), (9, (.slice (some ad5015) l0.length n5016)), (10, .int .i64 (l0.length : Int)), (11, .int .i64 i4521), (12, .bool true), (14, .agg #[.string x5014.f0, .int .i64 x5014.f1, .int .i64 x5014.f2, .int .i64 x5014.f3])], [.row (.slice (some ad5015) l0.length n5016) 4 (l0.map enc25)], [(g5017, 26, [.string x5014.f0, .int .i64 x5014.f1, .int .i64 x5014.f2, .int .i64 x5014.f3])], [(v4519, 26, 4, l4520.map enc25)]⟩) (fun (ml9 : Nat) (i5071 : Int) => tarryref09_Make.l9 k (tarryref09_Make.l5 k l0 ml5) i4521 l4520 x5014 ml9 i5071 = some r1) k 0 [0] [0] h ⟨rfl, ⟨rfl, rfl, rfl, rfl, rfl, rfl, rfl, rfl, rfl, trivial⟩, ⟨⟨0, rfl⟩, trivial⟩, rfl, by decide, rfl, by decide⟩ (by intros; simp [tarryref09_Make.l9]) ?_
      clear h
      intro ml9 ihl9 i5071 h
      simp only [tarryref09_Make.l9] at h
      refine VC.seq ?_
      refine VC.letter (decide (i5071 < (l4520.length : Int))) fun b5130 hb5130 => ?_
      by_cases c5131 : i5071 < (l4520.length : Int)
      · rw [if_pos c5131] at h
        obtain rfl : b5130 = true := hb5130.symm.trans (decide_eq_true c5131)
        by_cases c5132 : 0 ≤ i5071
        · rw [if_pos c5132] at h
          replace h := Option.bind_eq_some_iff.1 h
          obtain ⟨x5133, hx5133, h⟩ := h
          replace h := Option.bind_eq_some_iff.1 h
          obtain ⟨t5134, hA5135, h⟩ := h
          refine VC.openR (m := l4520.length) 0 lenm rfl (pos_get hx5133) ?_
          rintro g4533 n4534 rfl
          refine VC.join0 (⟨47, [(2, .slice none 0 0), (3, (.slice (some ⟨g4533, 0, none⟩) l4520.length n4534)), (5, .pointer (some ⟨g5017, 0, none⟩)), (6, .int .i64 i5071), (9, (.slice (some ad5015) l0.length n5016)), (10, .int .i64 (l0.length : Int)), (11, .int .i64 i4521), (12, .bool true), (14, .agg #[.string x5014.f0, .int .i64 x5014.f1, .int .i64 x5014.f2, .int .i64 x5014.f3]), (15, .int .i64 i5071), (16, (.slice (some ⟨g4533, 0, none⟩) l4520.length n4534)), (17, .int .i64 (l4520.length : Int)), (18, .bool true), (19, .bool true), (20, (.slice (some ⟨g4533, 0, none⟩) l4520.length n4534)), (21, .int .i64 i5071), (23, .agg #[.string x5133.f0, .int .i64 x5133.f1, .int .i64 x5133.f2, .int .i64 x5133.f3]), (24, .agg #[.string x5014.f0, .int .i64 x5014.f1, .int .i64 x5014.f2, .int .i64 x5014.f3]), (25, .bool t5134), (26, .bool t5134)], [.row (.slice (some ad5015) l0.length n5016) 4 (l0.map enc25)], [(g5017, 26, [.string x5014.f0, .int .i64 x5014.f1, .int .i64 x5014.f2, .int .i64 x5014.f3])], [((.slice (some ⟨g4533, 0, none⟩) l4520.length n4534), 26, 4, l4520.map enc25)]⟩) (True) ?_ ?_
          · refine VC.draw ⟨0, [], [], [(g5017, 26, [.string x5014.f0, .int .i64 x5014.f1, .int .i64 x5014.f2, .int .i64 x5014.f3])], [((.slice (some ⟨g4533, 0, none⟩) l4520.length n4534), 26, 4, l4520.map enc25)]⟩ (by kernel_rfl) rfl (by kernel_rfl) (n := 12) (listed := LB 12 0) ?_
            refine VA.va (i := 0) (listed' := LB 12 1) rfl (op_move rfl (ltn rfl)) rfl (by kernel_rfl) (by kernel_rfl) (by kernel_rfl) (by kernel_rfl) ⟨trivial, ⟨⟨0, rfl⟩, trivial⟩, ⟨⟨0, rfl⟩, trivial⟩⟩ (fun _ _ _ h => h) ?_
            refine VA.va (i := 1) (listed' := LB 12 3) rfl (op_move rfl (ltn rfl)) rfl (by kernel_rfl) (by kernel_rfl) (by kernel_rfl) (by kernel_rfl) ⟨trivial, ⟨⟨0, rfl⟩, trivial⟩, ⟨⟨0, rfl⟩, trivial⟩⟩ (fun _ _ _ h => h) ?_
            refine VA.va (i := 2) (listed' := LB 12 7) rfl (op_len_own (m := l4520.length) 0 lenm Try.underlying22 rfl rfl (ltn rfl)) rfl (by kernel_rfl) (by kernel_rfl) (by kernel_rfl) (by kernel_rfl) ⟨trivial, ⟨⟨0, rfl⟩, trivial⟩, ⟨⟨0, rfl⟩, trivial⟩⟩ (fun _ _ _ h => h) ?_
            refine VA.va (i := 3) (listed' := LB 12 15) rfl (op_cmp rfl rfl (congrArg some hb5130) (ltn rfl)) rfl (by kernel_rfl) (by kernel_rfl) (by kernel_rfl) (by kernel_rfl) ⟨trivial, ⟨⟨0, rfl⟩, trivial⟩, ⟨⟨0, rfl⟩, trivial⟩⟩ (fun _ _ _ h => h) ?_
            refine VA.va (i := 4) (listed' := LB 12 31) rfl (op_move rfl (ltn rfl)) rfl (by kernel_rfl) (by kernel_rfl) (by kernel_rfl) (by kernel_rfl) ⟨trivial, ⟨⟨0, rfl⟩, trivial⟩, ⟨⟨0, rfl⟩, trivial⟩⟩ (fun _ _ _ h => h) ?_
            refine VA.va (i := 5) (listed' := LB 12 63) rfl (op_move rfl (ltn rfl)) rfl (by kernel_rfl) (by kernel_rfl) (by kernel_rfl) (by kernel_rfl) ⟨trivial, ⟨⟨0, rfl⟩, trivial⟩, ⟨⟨0, rfl⟩, trivial⟩⟩ (fun _ _ _ h => h) ?_
            refine VA.va (i := 6) (listed' := LB 12 127) rfl (op_move rfl (ltn rfl)) rfl (by kernel_rfl) (by kernel_rfl) (by kernel_rfl) (by kernel_rfl) ⟨trivial, ⟨⟨0, rfl⟩, trivial⟩, ⟨⟨0, rfl⟩, trivial⟩⟩ (fun _ _ _ h => h) ?_
            refine VA.va (i := 7) (listed' := LB 12 255) rfl (op_indexAddr Try.underlying22 TI26 rfl rfl c5132 (lt_get c5132 hx5133) (add_zero_at _ _) (ltn rfl)) rfl (by kernel_rfl) (by kernel_rfl) (by kernel_rfl) (by kernel_rfl) ⟨trivial, ⟨⟨0, rfl⟩, trivial⟩, ⟨⟨0, rfl⟩, trivial⟩⟩ (fun _ _ _ h => h) ?_
            refine VA.va (i := 8) (listed' := LB 12 511) rfl (op_load_own (sz := 4) (o := 0) 0 i5071.toNat 4 rfl rfl (get_map hx5133) TI26 rfl (fun h => absurd h (by decide)) (ltn rfl)) rfl (by kernel_rfl) (by kernel_rfl) (by kernel_rfl) (by kernel_rfl) ⟨trivial, ⟨⟨0, rfl⟩, trivial⟩, ⟨⟨0, rfl⟩, trivial⟩⟩ (fun _ _ _ h => h) ?_
            refine VA.va (i := 9) (listed' := LB 12 1023) rfl (op_load 0 4 rfl rfl TI26 rfl (fun h => absurd h (by decide)) (ltn rfl)) rfl (by kernel_rfl) (by kernel_rfl) (by kernel_rfl) (by kernel_rfl) ⟨trivial, ⟨⟨0, rfl⟩, trivial⟩, ⟨⟨0, rfl⟩, trivial⟩⟩ (fun _ _ _ h => h) ?_
            refine VA.oneC (i := 10) (listed' := LB 12 2047) (by kernel_rfl) rfl (o_call0 FO38 (tarryref09_Less.ok k x5133.f0 x5133.f1 x5133.f2 x5133.f3 x5014.f0 x5014.f1 x5014.f2 x5014.f3 t5134 hA5135) rfl rfl (ltn rfl) (All_of .nil)) rfl (by kernel_rfl) ?_
            rintro _ _ _ ⟨rfl, rfl, rfl⟩
            refine ⟨⟨trivial, ⟨⟨0, rfl⟩, trivial⟩, ⟨⟨0, rfl⟩, trivial⟩⟩, ?_⟩
            refine VA.va (i := 11) (listed' := LB 12 4095) rfl (op_pick rfl rfl (ltn rfl)) rfl (by kernel_rfl) (by kernel_rfl) (by kernel_rfl) (by kernel_rfl) ⟨trivial, ⟨⟨0, rfl⟩, trivial⟩, ⟨⟨0, rfl⟩, trivial⟩⟩ (fun _ _ _ h => h) ?_
            refine VA.done (by kernel_rfl) ?_
            exact VN.meet0  [0] [0] trivial ⟨rfl, ⟨rfl, rfl, rfl, rfl, rfl, rfl, rfl, rfl, rfl, rfl, rfl, rfl, rfl, rfl, rfl, rfl, rfl, rfl, rfl, rfl, trivial⟩, ⟨⟨0, rfl⟩, trivial⟩, rfl, by decide, rfl, by decide⟩
          intro _
          by_cases c5136 : t5134 = true
          · rw [if_pos c5136] at h
            obtain rfl := c5136
            refine VC.cond_t rfl ?_
            refine VC.skip ?_
            refine VN.then ?_
            refine VC.block ?_
            refine VC.region ?_
            refine VL.va (op_move rfl (ltn rfl)) rfl ?_
            refine VL.va (op_ari64 rfl rfl rfl (ltn rfl)) rfl ?_
            refine VL.va (op_assign rfl (ltn rfl)) rfl ?_
            refine VL.done ?_
            refine VN.block ?_
            refine VN.again [0] [0] (ihl9 (wrap64 (i5071 + 1)) h) ⟨rfl, ⟨rfl, rfl, rfl, rfl, rfl, rfl, rfl, rfl, rfl, trivial⟩, ⟨⟨0, rfl⟩, trivial⟩, rfl, by decide, rfl, by decide⟩
          · rw [if_neg c5136] at h
            obtain rfl := Bool.eq_false_iff.2 c5136
            refine VC.cond_f rfl ?_
            refine VC.exit ?_
            refine VX.then ?_
            refine VX.then ?_
            refine VX.hit ?_
            refine VN.then ?_
            refine VC.seq ?_
            refine VC.region ?_
            refine VL.sG (o_buildSlice (vals := []) (cells := #[]) (es := List.map enc25 ([] : List S25)) Try.underlying22 TI26 Z26 rfl (by decide) (by decide) (by kernel_rfl) (by kernel_rfl) rfl (flat_map enc25_ok _) (ltn rfl)) rfl ?_
            intro v5138
            refine VL.va (op_assign rfl (ltn rfl)) rfl ?_
            refine VL.done ?_
            refine VN.then ?_
            refine VC.seq ?_
            refine VC.region ?_
            refine VL.va (op_move rfl (ltn rfl)) rfl ?_
            refine VL.va (op_move rfl (ltn rfl)) rfl ?_
            refine VL.va (op_move rfl (ltn rfl)) rfl ?_
            refine VL.freezeRow' 1 rfl ?_
            by_cases c5139 : i5071 ≤ (l4520.length : Int)
            · rw [if_pos c5139] at h
              refine VL.sG (o_slice (m := l4520.length) 0 0 i5071.toNat lenm cutm Try.underlying22 TI26 rfl rfl ⟨rfl, ⟨_, _, rfl, c5132, rfl⟩, by omega, by omega⟩ (ltn rfl)) rfl ?_
              intro v5141
              by_cases c5142 : (([] : List S25).length + ((l4520.take i5071.toNat).drop 0).length) * 40 ≤ 140737488355328
              · rw [if_pos c5142] at h
                refine VL.sG (o_append 0 appm Try.underlying22 EI26 rfl rfl rfl (.inl ⟨0, rfl⟩) (bndm c5142) (ltn rfl)) rfl ?_
                intro v5143
                refine VL.va (op_assign rfl (ltn rfl)) rfl ?_
                refine VL.done ?_
                refine VN.then ?_
                refine VC.seq ?_
                refine VC.region ?_
                refine VL.va (op_move rfl (ltn rfl)) rfl ?_
                refine VL.va (op_load 0 4 rfl rfl TI26 rfl (fun h => absurd h (by decide)) (ltn rfl)) rfl ?_
                refine VL.sG (o_buildSlice (vals := [(0, .agg #[.string x5014.f0, .int .i64 x5014.f1, .int .i64 x5014.f2, .int .i64 x5014.f3])]) (cells := #[.string x5014.f0, .int .i64 x5014.f1, .int .i64 x5014.f2, .int .i64 x5014.f3]) (es := List.map enc25 ([x5014] : List S25)) Try.underlying22 TI26 Z26 rfl (by decide) (by decide) (by kernel_rfl) (by kernel_rfl) rfl (flat_map enc25_ok _) (ltn rfl)) rfl ?_
                intro v5146
                by_cases c5147 : ((([] : List S25) ++ ((l4520.take i5071.toNat).drop 0)).length + ([x5014] : List S25).length) * 40 ≤ 140737488355328
                · rw [if_pos c5147] at h
                  refine VL.sG (o_append 1 appm Try.underlying22 EI26 rfl rfl rfl (.inr ⟨0, _, rfl⟩) (bndm c5147) (ltn rfl)) rfl ?_
                  intro v5148
                  refine VL.va (op_assign rfl (ltn rfl)) rfl ?_
                  refine VL.done ?_
                  refine VN.then ?_
                  refine VC.seq ?_
                  refine VC.region ?_
                  refine VL.va (op_move rfl (ltn rfl)) rfl ?_
                  refine VL.va (op_move rfl (ltn rfl)) rfl ?_
                  refine VL.va (op_move rfl (ltn rfl)) rfl ?_
                  refine VL.sG (o_slice (m := l4520.length) 1 i5071.toNat l4520.length lenm cutm Try.underlying22 TI26 rfl rfl ⟨⟨_, _, rfl, c5132, rfl⟩, rfl, by omega, by omega⟩ (ltn rfl)) rfl ?_
                  intro v5151
                  by_cases c5152 : (((([] : List S25) ++ ((l4520.take i5071.toNat).drop 0)) ++ ([x5014] : List S25)).length + ((l4520.take l4520.length).drop i5071.toNat).length) * 40 ≤ 140737488355328
                  · rw [if_pos c5152] at h
                    refine VL.sG (o_append 1 appm Try.underlying22 EI26 rfl rfl rfl (.inl ⟨0, rfl⟩) (bndm c5152) (ltn rfl)) rfl ?_
                    intro v5153
                    refine VL.va (op_assign rfl (ltn rfl)) rfl ?_
                    refine VL.done ?_
                    refine VN.then ?_
                    refine VC.region ?_
                    refine VL.va (op_move rfl (ltn rfl)) rfl ?_
                    refine VL.va (op_assign rfl (ltn rfl)) rfl ?_
                    refine VL.done ?_
                    refine VN.block ?_
                    refine VN.then ?_
                    refine VC.region ?_
                    refine VL.va (op_ari64 rfl rfl rfl (ltn rfl)) rfl ?_
                    refine VL.va (op_move rfl (ltn rfl)) rfl ?_
                    refine VL.done ?_
                    refine VN.again [] [1] (ihl5 v5153 (((([] : List S25) ++ ((l4520.take i5071.toNat).drop 0)) ++ ([x5014] : List S25)) ++ ((l4520.take l4520.length).drop i5071.toNat)) (wrap64 (i4521 + 1)) h) ⟨rfl, ⟨rfl, rfl, rfl, rfl, rfl, trivial⟩, ⟨⟨3, rfl⟩, trivial⟩, rfl, by decide, rfl, by decide⟩
                  · rw [if_neg c5152] at h; cases h
                · rw [if_neg c5147] at h; cases h
              · rw [if_neg c5142] at h; cases h
            · rw [if_neg c5139] at h; cases h
        · rw [if_neg c5132] at h; cases h
      · rw [if_neg c5131] at h
        obtain rfl : b5130 = false := hb5130.symm.trans (decide_eq_false c5131)
        refine VC.join0 (⟨47, [(2, .slice none 0 0), (3, v4519), (5, .pointer (some ⟨g5017, 0, none⟩)), (6, .int .i64 i5071), (9, (.slice (some ad5015) l0.length n5016)), (10, .int .i64 (l0.length : Int)), (11, .int .i64 i4521), (12, .bool true), (14, .agg #[.string x5014.f0, .int .i64 x5014.f1, .int .i64 x5014.f2, .int .i64 x5014.f3]), (15, .int .i64 i5071), (16, v4519), (17, .int .i64 (l4520.length : Int)), (18, .bool false), (19, .bool false), (20, undef), (21, undef), (22, undef), (23, undef), (24, undef), (25, undef), (26, .bool false)], [.row (.slice (some ad5015) l0.length n5016) 4 (l0.map enc25)], [(g5017, 26, [.string x5014.f0, .int .i64 x5014.f1, .int .i64 x5014.f2, .int .i64 x5014.f3])], [(v4519, 26, 4, l4520.map enc25)]⟩) (True) ?_ ?_
        · refine VC.draw ⟨0, [], [], [], [(v4519, 26, 4, l4520.map enc25)]⟩ (by kernel_rfl) rfl (by kernel_rfl) (n := 12) (listed := LB 12 0) ?_
          refine VA.va (i := 0) (listed' := LB 12 1) rfl (op_move rfl (ltn rfl)) rfl (by kernel_rfl) (by kernel_rfl) (by kernel_rfl) (by kernel_rfl) ⟨trivial, trivial, ⟨⟨0, rfl⟩, trivial⟩⟩ (fun _ _ _ h => h) ?_
          refine VA.va (i := 1) (listed' := LB 12 3) rfl (op_move rfl (ltn rfl)) rfl (by kernel_rfl) (by kernel_rfl) (by kernel_rfl) (by kernel_rfl) ⟨trivial, trivial, ⟨⟨0, rfl⟩, trivial⟩⟩ (fun _ _ _ h => h) ?_
          refine VA.va (i := 2) (listed' := LB 12 7) rfl (op_len_own (m := l4520.length) 0 lenm Try.underlying22 rfl rfl (ltn rfl)) rfl (by kernel_rfl) (by kernel_rfl) (by kernel_rfl) (by kernel_rfl) ⟨trivial, trivial, ⟨⟨0, rfl⟩, trivial⟩⟩ (fun _ _ _ h => h) ?_
          refine VA.va (i := 3) (listed' := LB 12 15) rfl (op_cmp rfl rfl (congrArg some hb5130) (ltn rfl)) rfl (by kernel_rfl) (by kernel_rfl) (by kernel_rfl) (by kernel_rfl) ⟨trivial, trivial, ⟨⟨0, rfl⟩, trivial⟩⟩ (fun _ _ _ h => h) ?_
          refine VA.va (i := 4) (listed' := LB 12 31) rfl (op_move rfl (ltn rfl)) rfl (by kernel_rfl) (by kernel_rfl) (by kernel_rfl) (by kernel_rfl) ⟨trivial, trivial, ⟨⟨0, rfl⟩, trivial⟩⟩ (fun _ _ _ h => h) ?_
          refine VA.un (i := 5) (listed' := LB 12 63) rfl rfl rfl (ltn rfl) (by kernel_rfl) (by kernel_rfl) (by kernel_rfl) (by kernel_rfl) ⟨trivial, trivial, ⟨⟨0, rfl⟩, trivial⟩⟩ (fun _ _ _ h => h) ?_
          refine VA.un (i := 6) (listed' := LB 12 127) rfl rfl rfl (ltn rfl) (by kernel_rfl) (by kernel_rfl) (by kernel_rfl) (by kernel_rfl) ⟨trivial, trivial, ⟨⟨0, rfl⟩, trivial⟩⟩ (fun _ _ _ h => h) ?_
          refine VA.un (i := 7) (listed' := LB 12 255) rfl rfl rfl (ltn rfl) (by kernel_rfl) (by kernel_rfl) (by kernel_rfl) (by kernel_rfl) ⟨trivial, trivial, ⟨⟨0, rfl⟩, trivial⟩⟩ (fun _ _ _ h => h) ?_
          refine VA.un (i := 8) (listed' := LB 12 511) rfl rfl rfl (ltn rfl) (by kernel_rfl) (by kernel_rfl) (by kernel_rfl) (by kernel_rfl) ⟨trivial, trivial, ⟨⟨0, rfl⟩, trivial⟩⟩ (fun _ _ _ h => h) ?_
          refine VA.un (i := 9) (listed' := LB 12 1023) rfl rfl rfl (ltn rfl) (by kernel_rfl) (by kernel_rfl) (by kernel_rfl) (by kernel_rfl) ⟨trivial, trivial, ⟨⟨0, rfl⟩, trivial⟩⟩ (fun _ _ _ h => h) ?_
          refine VA.un (i := 10) (listed' := LB 12 2047) rfl rfl rfl (ltn rfl) (by kernel_rfl) (by kernel_rfl) (by kernel_rfl) (by kernel_rfl) ⟨trivial, trivial, ⟨⟨0, rfl⟩, trivial⟩⟩ (fun _ _ _ h => h) ?_
          refine VA.va (i := 11) (listed' := LB 12 4095) rfl (op_pick rfl rfl (ltn rfl)) rfl (by kernel_rfl) (by kernel_rfl) (by kernel_rfl) (by kernel_rfl) ⟨trivial, trivial, ⟨⟨0, rfl⟩, trivial⟩⟩ (fun _ _ _ h => h) ?_
          refine VA.done (by kernel_rfl) ?_
          exact VN.meet0  [0] [0] trivial ⟨rfl, ⟨rfl, rfl, rfl, rfl, rfl, rfl, rfl, rfl, rfl, rfl, rfl, rfl, rfl, rfl, rfl, rfl, rfl, rfl, rfl, rfl, rfl, trivial⟩, ⟨⟨0, rfl⟩, trivial⟩, rfl, by decide, rfl, by decide⟩
        intro _
        refine VC.cond_f rfl ?_
        refine VC.exit ?_
        refine VX.then ?_
        refine VX.then ?_
        refine VX.hit ?_
        refine VN.then ?_
        refine VC.seq ?_
        refine VC.region ?_
        refine VL.sG (o_buildSlice (vals := []) (cells := #[]) (es := List.map enc25 ([] : List S25)) Try.underlying22 TI26 Z26 rfl (by decide) (by decide) (by kernel_rfl) (by kernel_rfl) rfl (flat_map enc25_ok _) (ltn rfl)) rfl ?_
        intro v5156
        refine VL.va (op_assign rfl (ltn rfl)) rfl ?_
        refine VL.done ?_
        refine VN.then ?_
        refine VC.seq ?_
        refine VC.region ?_
        refine VL.va (op_move rfl (ltn rfl)) rfl ?_
        refine VL.va (op_move rfl (ltn rfl)) rfl ?_
        refine VL.va (op_move rfl (ltn rfl)) rfl ?_
        refine VL.freezeRow' 1 rfl ?_
        by_cases c5157 : 0 ≤ i5071
        · rw [if_pos c5157] at h
          by_cases c5158 : i5071 ≤ (l4520.length : Int)
          · rw [if_pos c5158] at h
            refine VL.sG (o_slice (m := l4520.length) 0 0 i5071.toNat lenm cutm Try.underlying22 TI26 rfl rfl ⟨rfl, ⟨_, _, rfl, c5157, rfl⟩, by omega, by omega⟩ (ltn rfl)) rfl ?_
            intro v5160
            by_cases c5161 : (([] : List S25).length + ((l4520.take i5071.toNat).drop 0).length) * 40 ≤ 140737488355328
            · rw [if_pos c5161] at h
              refine VL.sG (o_append 0 appm Try.underlying22 EI26 rfl rfl rfl (.inl ⟨0, rfl⟩) (bndm c5161) (ltn rfl)) rfl ?_
              intro v5162
              refine VL.va (op_assign rfl (ltn rfl)) rfl ?_
              refine VL.done ?_
              refine VN.then ?_
              refine VC.seq ?_
              refine VC.region ?_
              refine VL.va (op_move rfl (ltn rfl)) rfl ?_
              refine VL.va (op_load 0 4 rfl rfl TI26 rfl (fun h => absurd h (by decide)) (ltn rfl)) rfl ?_
              refine VL.sG (o_buildSlice (vals := [(0, .agg #[.string x5014.f0, .int .i64 x5014.f1, .int .i64 x5014.f2, .int .i64 x5014.f3])]) (cells := #[.string x5014.f0, .int .i64 x5014.f1, .int .i64 x5014.f2, .int .i64 x5014.f3]) (es := List.map enc25 ([x5014] : List S25)) Try.underlying22 TI26 Z26 rfl (by decide) (by decide) (by kernel_rfl) (by kernel_rfl) rfl (flat_map enc25_ok _) (ltn rfl)) rfl ?_
              intro v5165
              by_cases c5166 : ((([] : List S25) ++ ((l4520.take i5071.toNat).drop 0)).length + ([x5014] : List S25).length) * 40 ≤ 140737488355328
              · rw [if_pos c5166] at h
                refine VL.sG (o_append 1 appm Try.underlying22 EI26 rfl rfl rfl (.inr ⟨0, _, rfl⟩) (bndm c5166) (ltn rfl)) rfl ?_
                intro v5167
                refine VL.va (op_assign rfl (ltn rfl)) rfl ?_
                refine VL.done ?_
                refine VN.then ?_
                refine VC.seq ?_
                refine VC.region ?_
                refine VL.va (op_move rfl (ltn rfl)) rfl ?_
                refine VL.va (op_move rfl (ltn rfl)) rfl ?_
                refine VL.va (op_move rfl (ltn rfl)) rfl ?_
                refine VL.sG (o_slice (m := l4520.length) 1 i5071.toNat l4520.length lenm cutm Try.underlying22 TI26 rfl rfl ⟨⟨_, _, rfl, c5157, rfl⟩, rfl, by omega, by omega⟩ (ltn rfl)) rfl ?_
                intro v5170
                by_cases c5171 : (((([] : List S25) ++ ((l4520.take i5071.toNat).drop 0)) ++ ([x5014] : List S25)).length + ((l4520.take l4520.length).drop i5071.toNat).length) * 40 ≤ 140737488355328
                · rw [if_pos c5171] at h
                  refine VL.sG (o_append 1 appm Try.underlying22 EI26 rfl rfl rfl (.inl ⟨0, rfl⟩) (bndm c5171) (ltn rfl)) rfl ?_
                  intro v5172
                  refine VL.va (op_assign rfl (ltn rfl)) rfl ?_
                  refine VL.done ?_
                  refine VN.then ?_
                  refine VC.region ?_
                  refine VL.va (op_move rfl (ltn rfl)) rfl ?_
                  refine VL.va (op_assign rfl (ltn rfl)) rfl ?_
                  refine VL.done ?_
                  refine VN.block ?_
                  refine VN.then ?_
                  refine VC.region ?_
                  refine VL.va (op_ari64 rfl rfl rfl (ltn rfl)) rfl ?_
                  refine VL.va (op_move rfl (ltn rfl)) rfl ?_
                  refine VL.done ?_
                  refine VN.again [] [1] (ihl5 v5172 (((([] : List S25) ++ ((l4520.take i5071.toNat).drop 0)) ++ ([x5014] : List S25)) ++ ((l4520.take l4520.length).drop i5071.toNat)) (wrap64 (i4521 + 1)) h) ⟨rfl, ⟨rfl, rfl, rfl, rfl, rfl, trivial⟩, ⟨⟨3, rfl⟩, trivial⟩, rfl, by decide, rfl, by decide⟩
                · rw [if_neg c5171] at h; cases h
              · rw [if_neg c5166] at h; cases h
            · rw [if_neg c5161] at h; cases h
          · rw [if_neg c5158] at h; cases h
        · rw [if_neg c5157] at h; cases h
    · rw [if_neg c5013] at h; cases h
  · rw [if_neg c4851] at h
    obtain rfl : b4849 = false := hb4849.symm.trans (decide_eq_false c4851)
    refine VC.cond_f rfl ?_
    refine VC.exit ?_
    refine VX.then ?_
    refine VX.then ?_
    refine VX.hit ?_
    refine VN.then ?_
    refine VC.seq ?_
    refine VC.region ?_
    refine VL.va (op_move rfl (ltn rfl)) rfl ?_
    refine VL.va (op_assign rfl (ltn rfl)) rfl ?_
    refine VL.done ?_
    refine VN.then ?_
    refine VC.ret ?_
    obtain rfl := Option.some.inj h
    exact VR.fn (rs := [.tmp 2]) [] [(v4519, 26, 4, l4520.map enc25)] [0] rfl (.tmp rfl .nil) ⟨v4519, rfl, rfl, rfl⟩ trivial rfl (by decide)
set_option maxHeartbeats 4000000 in
set_option maxRecDepth 100000 in
theorem tarryref09_Same.ok (k : Nat) (l0 : List S25) (l1 : List S25) (v0 : Value) (v1 : Value) (r1 : Bool) (h : tarryref09_Same.f k l0 l1 = some r1) :
    VCalls Try.prog 15 [v0, v1] [.row v0 4 (l0.map enc25), .row v1 4 (l1.map enc25)] (fun v G own => v = .bool r1 ∧ G = [] ∧ own = []) := by
  refine VCalls.intro Try.func15 rfl (len rfl) fun E hC hW hD hU => ?_
  unfold tarryref09_Same.f at h
  refine VC.seq ?_
  refine VC.region ?_
  refine VL.va (op_assign rfl (ltn rfl)) rfl ?_
  refine VL.done ?_
  refine VN.then ?_
  refine VC.seq ?_
  refine VC.seq ?_
  refine VC.region ?_
  refine VL.va (op_move rfl (ltn rfl)) rfl ?_
  refine VL.va (op_len (m := l0.length) 0 lenm Try.underlying22 rfl rfl (ltn rfl)) rfl ?_
  refine VL.va (op_move rfl (ltn rfl)) rfl ?_
  refine VL.va (op_len (m := l1.length) 1 lenm Try.underlying22 rfl rfl (ltn rfl)) rfl ?_
  refine VL.letter (((l0.length : Int) != (l1.length : Int))) fun b5182 hb5182 => ?_
  refine VL.va (op_cmp rfl rfl (congrArg some hb5182) (ltn rfl)) rfl ?_
  refine VL.done ?_
  refine VN.then ?_
  by_cases c5183 : (l0.length : Int) = (l1.length : Int)
  · rw [if_pos c5183] at h
    obtain rfl : b5182 = false := hb5182.symm.trans (bne_eq_false_iff_eq.2 c5183)
    refine VC.cond_f rfl ?_
    refine VC.skip ?_
    refine VN.then ?_
    refine VC.seq ?_
    refine VC.seq ?_
    refine VC.region ?_
    refine VL.va (op_move rfl (ltn rfl)) rfl ?_
    refine VL.va (op_len (m := l0.length) 0 lenm Try.underlying22 rfl rfl (ltn rfl)) rfl ?_
    refine VL.va (op_move rfl (ltn rfl)) rfl ?_
    refine VL.done ?_
    refine VN.then ?_
    refine VC.block ?_
    refine VC.loop1 (fun (i5237 : Int) => ⟨26, [(0, v0), (1, v1), (4, .bool false), (12, .int .i64 (l0.length : Int)), (13, .int .i64 i5237)], [.row v0 4 (l0.map enc25), .row v1 4 (l1.map enc25)], [], []⟩) (fun (ml1 : Nat) (i5237 : Int) => tarryref09_Same.l1 k l0 l1 ml1 i5237 = some r1) k 0 [] [] h ⟨rfl, ⟨rfl, rfl, rfl, rfl, rfl, trivial⟩, ⟨⟨0, rfl⟩, ⟨1, rfl⟩, trivial⟩, rfl, by decide, rfl, by decide⟩ (by intros; simp [tarryref09_Same.l1]) ?_
    clear h
    intro ml1 ihl1 i5237 h
    simp only [tarryref09_Same.l1] at h
    refine VC.seq ?_
    refine VC.region ?_
    refine VL.letter (decide (i5237 < (l0.length : Int))) fun b5251 hb5251 => ?_
    refine VL.va (op_cmp rfl rfl (congrArg some hb5251) (ltn rfl)) rfl ?_
    refine VL.done ?_
    refine VN.then ?_
    refine VC.seq ?_
    by_cases c5253 : i5237 < (l0.length : Int)
    · rw [if_pos c5253] at h
      obtain rfl : b5251 = true := hb5251.symm.trans (decide_eq_true c5253)
      refine VC.cond_t rfl ?_
      refine VC.skip ?_
      refine VN.then ?_
      refine VC.seq ?_
      refine VC.block ?_
      refine VC.seq ?_
      refine VC.region ?_
      refine VL.va (op_move rfl (ltn rfl)) rfl ?_
      refine VL.va (op_assign rfl (ltn rfl)) rfl ?_
      refine VL.done ?_
      refine VN.then ?_
      by_cases c5259 : 0 ≤ i5237
      · rw [if_pos c5259] at h
        replace h := Option.bind_eq_some_iff.1 h
        obtain ⟨x5260, hx5260, h⟩ := h
        replace h := Option.bind_eq_some_iff.1 h
        obtain ⟨x5261, hx5261, h⟩ := h
        refine VC.letter ((!(((x5260.f0 == x5261.f0) && ((x5260.f1 == x5261.f1) && ((x5260.f2 == x5261.f2) && (x5260.f3 == x5261.f3))))))) fun b5262 hb5262 => ?_
        refine VC.open (m := l0.length) 0 lenm rfl (pos_get hx5260) ?_
        rintro ad5188 n5189 rfl
        refine VC.open (m := l1.length) 1 lenm rfl (pos_get hx5261) ?_
        rintro ad5191 n5192 rfl
        refine VC.join0 (⟨26, [(0, (.slice (some ad5188) l0.length n5189)), (1, (.slice (some ad5191) l1.length n5192)), (4, .bool false), (5, .int .i64 i5237), (12, .int .i64 (l0.length : Int)), (13, .int .i64 i5237), (14, .bool true), (15, .int .i64 i5237), (16, (.slice (some ad5188) l0.length n5189)), (17, .int .i64 i5237), (19, .agg #[.string x5260.f0, .int .i64 x5260.f1, .int .i64 x5260.f2, .int .i64 x5260.f3]), (20, (.slice (some ad5191) l1.length n5192)), (21, .int .i64 i5237), (23, .agg #[.string x5261.f0, .int .i64 x5261.f1, .int .i64 x5261.f2, .int .i64 x5261.f3]), (24, .bool b5262)], [.row (.slice (some ad5188) l0.length n5189) 4 (l0.map enc25), .row (.slice (some ad5191) l1.length n5192) 4 (l1.map enc25)], [], []⟩) (True) ?_ ?_
        · refine VC.draw ⟨0, [], [.row (.slice (some ad5188) l0.length n5189) 4 (l0.map enc25), .row (.slice (some ad5191) l1.length n5192) 4 (l1.map enc25)], [], []⟩ (by kernel_rfl) rfl (by kernel_rfl) (n := 9) (listed := LB 9 0) ?_
          refine VA.va (i := 0) (listed' := LB 9 1) rfl (op_move rfl (ltn rfl)) rfl (by kernel_rfl) (by kernel_rfl) (by kernel_rfl) (by kernel_rfl) ⟨⟨⟨0, rfl⟩, ⟨1, rfl⟩, trivial⟩, trivial, trivial⟩ (fun _ _ _ h => h) ?_
          refine VA.va (i := 1) (listed' := LB 9 3) rfl (op_move rfl (ltn rfl)) rfl (by kernel_rfl) (by kernel_rfl) (by kernel_rfl) (by kernel_rfl) ⟨⟨⟨0, rfl⟩, ⟨1, rfl⟩, trivial⟩, trivial, trivial⟩ (fun _ _ _ h => h) ?_
          refine VA.va (i := 2) (listed' := LB 9 7) rfl (op_indexAddr Try.underlying22 TI26 rfl rfl c5259 (lt_get c5259 hx5260) rfl (ltn rfl)) rfl (by kernel_rfl) (by kernel_rfl) (by kernel_rfl) (by kernel_rfl) ⟨⟨⟨0, rfl⟩, ⟨1, rfl⟩, trivial⟩, trivial, trivial⟩ (fun _ _ _ h => h) ?_
          refine VA.va (i := 3) (listed' := LB 9 15) rfl (op_load_row (sz := 4) (o := 0) 0 i5237.toNat 4 rfl rfl (get_map hx5260) TI26 rfl (fun h => absurd h (by decide)) (ltn rfl)) rfl (by kernel_rfl) (by kernel_rfl) (by kernel_rfl) (by kernel_rfl) ⟨⟨⟨0, rfl⟩, ⟨1, rfl⟩, trivial⟩, trivial, trivial⟩ (fun _ _ _ h => h) ?_
          refine VA.va (i := 4) (listed' := LB 9 31) rfl (op_move rfl (ltn rfl)) rfl (by kernel_rfl) (by kernel_rfl) (by kernel_rfl) (by kernel_rfl) ⟨⟨⟨0, rfl⟩, ⟨1, rfl⟩, trivial⟩, trivial, trivial⟩ (fun _ _ _ h => h) ?_
          refine VA.va (i := 5) (listed' := LB 9 63) rfl (op_move rfl (ltn rfl)) rfl (by kernel_rfl) (by kernel_rfl) (by kernel_rfl) (by kernel_rfl) ⟨⟨⟨0, rfl⟩, ⟨1, rfl⟩, trivial⟩, trivial, trivial⟩ (fun _ _ _ h => h) ?_
          refine VA.va (i := 6) (listed' := LB 9 127) rfl (op_indexAddr Try.underlying22 TI26 rfl rfl c5259 (lt_get c5259 hx5261) rfl (ltn rfl)) rfl (by kernel_rfl) (by kernel_rfl) (by kernel_rfl) (by kernel_rfl) ⟨⟨⟨0, rfl⟩, ⟨1, rfl⟩, trivial⟩, trivial, trivial⟩ (fun _ _ _ h => h) ?_
          refine VA.va (i := 7) (listed' := LB 9 255) rfl (op_load_row (sz := 4) (o := 0) 1 i5237.toNat 4 rfl rfl (get_map hx5261) TI26 rfl (fun h => absurd h (by decide)) (ltn rfl)) rfl (by kernel_rfl) (by kernel_rfl) (by kernel_rfl) (by kernel_rfl) ⟨⟨⟨0, rfl⟩, ⟨1, rfl⟩, trivial⟩, trivial, trivial⟩ (fun _ _ _ h => h) ?_
          refine VA.va (i := 8) (listed' := LB 9 511) rfl (op_neS rfl rfl EG26 (EQ26 x5260.f0 x5260.f1 x5260.f2 x5260.f3 x5261.f0 x5261.f1 x5261.f2 x5261.f3) hb5262 (ltn rfl)) rfl (by kernel_rfl) (by kernel_rfl) (by kernel_rfl) (by kernel_rfl) ⟨⟨⟨0, rfl⟩, ⟨1, rfl⟩, trivial⟩, trivial, trivial⟩ (fun _ _ _ h => h) ?_
          refine VA.done (by kernel_rfl) ?_
          exact VN.meet0  [] [] trivial ⟨rfl, ⟨rfl, rfl, rfl, rfl, rfl, rfl, rfl, rfl, rfl, rfl, rfl, rfl, rfl, rfl, rfl, trivial⟩, ⟨⟨0, rfl⟩, ⟨1, rfl⟩, trivial⟩, rfl, by decide, rfl, by decide⟩
        intro _
        by_cases c5263 : (((x5260.f0 == x5261.f0) && ((x5260.f1 == x5261.f1) && ((x5260.f2 == x5261.f2) && (x5260.f3 == x5261.f3))))) = true
        · rw [if_pos c5263] at h
          obtain rfl : b5262 = false := hb5262.symm.trans (not_t c5263)
          refine VC.cond_f rfl ?_
          refine VC.skip ?_
          refine VN.block ?_
          refine VN.then ?_
          refine VC.region ?_
          refine VL.va (op_ari64 rfl rfl rfl (ltn rfl)) rfl ?_
          refine VL.va (op_move rfl (ltn rfl)) rfl ?_
          refine VL.done ?_
          refine VN.again [] [] (ihl1 (wrap64 (i5237 + 1)) h) ⟨rfl, ⟨rfl, rfl, rfl, rfl, rfl, trivial⟩, ⟨⟨0, rfl⟩, ⟨1, rfl⟩, trivial⟩, rfl, by decide, rfl, by decide⟩
        · rw [if_neg c5263] at h
          obtain rfl : b5262 = true := hb5262.symm.trans (not_f c5263)
          refine VC.cond_t rfl ?_
          refine VC.seq ?_
          refine VC.region ?_
          refine VL.va (op_assign rfl (ltn rfl)) rfl ?_
          refine VL.done ?_
          refine VN.then ?_
          refine VC.ret ?_
          refine VR.block ?_
          refine VR.then ?_
          refine VR.then ?_
          refine VR.block ?_
          refine VR.then ?_
          obtain rfl := Option.some.inj h
          exact VR.fn (rs := [.tmp 4]) [] [] [] rfl (.tmp rfl .nil) ⟨rfl, rfl, rfl⟩ trivial rfl (by decide)
      · rw [if_neg c5259] at h; cases h
    · rw [if_neg c5253] at h
      obtain rfl : b5251 = false := hb5251.symm.trans (decide_eq_false c5253)
      refine VC.cond_f rfl ?_
      refine VC.exit ?_
      refine VX.then ?_
      refine VX.then ?_
      refine VX.hit ?_
      refine VN.then ?_
      refine VC.seq ?_
      refine VC.region ?_
      refine VL.va (op_assign rfl (ltn rfl)) rfl ?_
      refine VL.done ?_
      refine VN.then ?_
      refine VC.ret ?_
      obtain rfl := Option.some.inj h
      exact VR.fn (rs := [.tmp 4]) [] [] [] rfl (.tmp rfl .nil) ⟨rfl, rfl, rfl⟩ trivial rfl (by decide)
  · rw [if_neg c5183] at h
    obtain rfl : b5182 = true := hb5182.symm.trans (bne_iff_ne.2 c5183)
    refine VC.cond_t rfl ?_
    refine VC.seq ?_
    refine VC.region ?_
    refine VL.va (op_assign rfl (ltn rfl)) rfl ?_
    refine VL.done ?_
    refine VN.then ?_
    refine VC.ret ?_
    refine VR.then ?_
    obtain rfl := Option.some.inj h
    exact VR.fn (rs := [.tmp 4]) [] [] [] rfl (.tmp rfl .nil) ⟨rfl, rfl, rfl⟩ trivial rfl (by decide)
set_option maxHeartbeats 4000000 in
set_option maxRecDepth 100000 in
theorem tarryref09_Right.ok (k : Nat) (l0 : List S25) (v0 : Value) (r1 : Bool) (h : tarryref09_Right.f k l0 = some r1) :
    VCalls Try.prog 12 [v0] [.row v0 4 (l0.map enc25)] (fun v G own => v = .bool r1 ∧ G = [] ∧ own = []) := by
  refine VCalls.intro Try.func12 rfl (len rfl) fun E hC hW hD hU => ?_
  unfold tarryref09_Right.f at h
  refine VC.seq ?_
  refine VC.region ?_
  refine VL.va (op_assign rfl (ltn rfl)) rfl ?_
  refine VL.done ?_
  refine VN.then ?_
  refine VC.seq ?_
  refine VC.region ?_
  refine VL.va (op_move rfl (ltn rfl)) rfl ?_
  replace h := Option.bind_eq_some_iff.1 h
  obtain ⟨t5266, hA5267, h⟩ := h
  refine VL.sC (o_call0 FO14 (tarryref09_All.ok k l0 v0 t5266 hA5267) rfl rfl (ltn rfl) (All_of (.cons (List.mem_of_getElem? (i := 0) rfl) .nil))) rfl ?_
  rintro _ _ _ ⟨rfl, rfl, rfl⟩
  refine VL.va (op_move rfl (ltn rfl)) rfl ?_
  by_cases c5268 : t5266 = true
  · rw [if_pos c5268] at h
    obtain rfl := c5268
    refine VL.va (op_move rfl (ltn rfl)) rfl ?_
    replace h := Option.bind_eq_some_iff.1 h
    obtain ⟨r5269, hA5270, h⟩ := h
    refine VL.sC (o_call0 FO16 (tarryref09_Make.ok k l0 v0 r5269 hA5270) rfl rfl (ltn rfl) (All_of (.cons (List.mem_of_getElem? (i := 0) rfl) .nil))) rfl ?_
    rintro v5272 _ _ ⟨_, rfl, rfl, rfl⟩
    refine VL.va (op_move rfl (ltn rfl)) rfl ?_
    replace h := Option.bind_eq_some_iff.1 h
    obtain ⟨t5273, hA5274, h⟩ := h
    refine VL.sC (o_call_b0 FO15 (tarryref09_Same.ok k r5269 l0 v5272 v0 t5273 hA5274) rfl rfl (ltn rfl) (All_of (.cons (.inr (.inl ⟨_, List.mem_of_getElem? (i := 0) rfl, rfl⟩)) (.cons (.inl (List.mem_of_getElem? (i := 0) rfl)) .nil))) (by rintro _ _ _ ⟨rfl, rfl, rfl⟩; rfl)) rfl ?_
    rintro _ _ _ ⟨rfl, rfl, rfl⟩
    refine VL.va (op_pick rfl rfl (ltn rfl)) rfl ?_
    refine VL.va (op_assign rfl (ltn rfl)) rfl ?_
    refine VL.done ?_
    refine VN.then ?_
    refine VC.ret ?_
    obtain rfl := Option.some.inj h
    exact VR.fn (rs := [.tmp 2]) [] [] [] rfl (.tmp rfl .nil) ⟨rfl, rfl, rfl⟩ trivial rfl (by decide)
  · rw [if_neg c5268] at h
    obtain rfl := Bool.eq_false_iff.2 c5268
    refine VL.un rfl rfl (ltn rfl) ?_
    refine VL.un rfl rfl (ltn rfl) ?_
    refine VL.un rfl rfl (ltn rfl) ?_
    refine VL.un rfl rfl (ltn rfl) ?_
    refine VL.va (op_pick rfl rfl (ltn rfl)) rfl ?_
    refine VL.va (op_assign rfl (ltn rfl)) rfl ?_
    refine VL.done ?_
    refine VN.then ?_
    refine VC.ret ?_
    obtain rfl := Option.some.inj h
    exact VR.fn (rs := [.tmp 2]) [] [] [] rfl (.tmp rfl .nil) ⟨rfl, rfl, rfl⟩ trivial rfl (by decide)
set_option maxHeartbeats 4000000 in
set_option maxRecDepth 100000 in
theorem waits_Of.ok (k : Nat) (l0 : List S25) (a1 : ByteArray) (v0 : Value) (r1 : List S23) (r2 : Int) (h : waits_Of.f k l0 a1 = some (r1, r2)) :
    VCalls Try.prog 22 [v0, .string a1] [.row v0 4 (l0.map enc25)] (fun v G own => ∃ w0 : Value, v = .tuple #[w0, .int .i64 r2] ∧ G = [] ∧ own = [(w0, 24, 3, r1.map enc23)]) := by
  refine VCalls.intro Try.func22 rfl (len rfl) fun E hC hW hD hU => ?_
  unfold waits_Of.f at h
  refine VC.seq ?_
  refine VC.region ?_
  refine VL.va (op_assign rfl (ltn rfl)) rfl ?_
  refine VL.va (op_assign rfl (ltn rfl)) rfl ?_
  refine VL.done ?_
  refine VN.then ?_
  refine VC.seq ?_
  refine VC.seq ?_
  refine VC.region ?_
  refine VL.va (op_move rfl (ltn rfl)) rfl ?_
  replace h := Option.bind_eq_some_iff.1 h
  obtain ⟨t5297, hA5298, h⟩ := h
  refine VL.sC (o_call0 FO11 (waits_Right.ok k l0 v0 t5297 hA5298) rfl rfl (ltn rfl) (All_of (.cons (List.mem_of_getElem? (i := 0) rfl) .nil))) rfl ?_
  rintro _ _ _ ⟨rfl, rfl, rfl⟩
  by_cases c5299 : t5297 = true
  · rw [if_pos c5299] at h
    obtain rfl := c5299
    refine VL.va (op_not rfl rfl (ltn rfl)) rfl ?_
    refine VL.done ?_
    refine VN.then ?_
    refine VC.cond_f rfl ?_
    refine VC.skip ?_
    refine VN.then ?_
    refine VC.seq ?_
    refine VC.region ?_
    refine VL.va (op_assign rfl (ltn rfl)) rfl ?_
    refine VL.done ?_
    refine VN.then ?_
    refine VC.seq ?_
    refine VC.seq ?_
    refine VC.region ?_
    refine VL.va (op_move rfl (ltn rfl)) rfl ?_
    refine VL.va (op_len (m := l0.length) 0 lenm Try.underlying22 rfl rfl (ltn rfl)) rfl ?_
    refine VL.va (op_move rfl (ltn rfl)) rfl ?_
    refine VL.done ?_
    refine VN.then ?_
    refine VC.block ?_
    refine VC.nilRow' 24 3 ?_
    refine VC.loop3 (fun (v5414 : Value) (l5415 : List S23) (i5417 : Int) => ⟨29, [(1, .string a1), (4, .slice none 0 0), (5, .int .i64 0), (6, v5414), (12, v0), (13, .int .i64 (l0.length : Int)), (14, .int .i64 i5417)], [.row v0 4 (l0.map enc25)], [], [(v5414, 24, 3, l5415.map enc23)]⟩) (fun (ml1 : Nat) (v5414 : Value) (l5415 : List S23) (i5417 : Int) => waits_Of.l1 k a1 l0 ml1 l5415 i5417 = some (r1, r2)) k (.slice none 0 0) ([] : List S23) 0 [] [0] h ⟨rfl, ⟨rfl, rfl, rfl, rfl, rfl, rfl, rfl, trivial⟩, ⟨⟨0, rfl⟩, trivial⟩, rfl, by decide, rfl, by decide⟩ (by intros; simp [waits_Of.l1]) ?_
    clear h
    intro ml1 ihl1 v5414 l5415 i5417 h
    simp only [waits_Of.l1] at h
    refine VC.seq ?_
    refine VC.region ?_
    refine VL.letter (decide (i5417 < (l0.length : Int))) fun b5445 hb5445 => ?_
    refine VL.va (op_cmp rfl rfl (congrArg some hb5445) (ltn rfl)) rfl ?_
    refine VL.done ?_
    refine VN.then ?_
    refine VC.seq ?_
    by_cases c5447 : i5417 < (l0.length : Int)
    · rw [if_pos c5447] at h
      obtain rfl : b5445 = true := hb5445.symm.trans (decide_eq_true c5447)
      refine VC.cond_t rfl ?_
      refine VC.skip ?_
      refine VN.then ?_
      refine VC.seq ?_
      refine VC.block ?_
      refine VC.seq ?_
      refine VC.region ?_
      by_cases c5460 : 0 ≤ i5417
      · rw [if_pos c5460] at h
        replace h := Option.bind_eq_some_iff.1 h
        obtain ⟨x5461, hx5461, h⟩ := h
        refine VL.open (m := l0.length) 0 lenm rfl (pos_get hx5461) ?_
        rintro ad5462 n5463 rfl
        refine VL.va (op_indexAddr Try.underlying22 TI26 rfl rfl c5460 (lt_get c5460 hx5461) rfl (ltn rfl)) rfl ?_
        refine VL.va (op_load_row (sz := 4) (o := 0) 0 i5417.toNat 4 rfl rfl (get_map hx5461) TI26 rfl (fun h => absurd h (by decide)) (ltn rfl)) rfl ?_
        refine VL.sG (o_alloc Z26 ZL26 (ltn rfl)) rfl ?_
        intro g5464
        refine VL.step1 (o_store 0 4 rfl rfl rfl TI26 (.agg (.of rfl)) rfl (len rfl)) rfl ?_
        refine VL.done ?_
        refine VN.then ?_
        refine VC.seq ?_
        refine VC.region ?_
        refine VL.va (op_fieldAddr FI26_0 rfl (add_at _ _ _) (ltn rfl)) rfl ?_
        refine VL.va (op_load 0 1 rfl rfl TI9 rfl (by decide) (ltn rfl)) rfl ?_
        refine VL.va (op_move rfl (ltn rfl)) rfl ?_
        refine VL.letter ((x5461.f0 == a1)) fun b5465 hb5465 => ?_
        refine VL.va (op_cmps rfl rfl (congrArg some hb5465) (ltn rfl)) rfl ?_
        refine VL.done ?_
        refine VN.then ?_
        by_cases c5466 : (x5461.f0 == a1) = true
        · rw [if_pos c5466] at h
          obtain rfl : b5465 = true := hb5465.symm.trans (c5466)
          refine VC.cond_t rfl ?_
          refine VC.region ?_
          refine VL.va (op_move rfl (ltn rfl)) rfl ?_
          refine VL.va (op_fieldAddr FI26_1 rfl (add_at _ _ _) (ltn rfl)) rfl ?_
          refine VL.va (op_load 0 3 rfl rfl TI24 rfl (fun h => absurd h (by decide)) (ltn rfl)) rfl ?_
          refine VL.sG (o_buildSlice (vals := [(0, .agg #[.int .i64 x5461.f1, .int .i64 x5461.f2, .int .i64 x5461.f3])]) (cells := #[.int .i64 x5461.f1, .int .i64 x5461.f2, .int .i64 x5461.f3]) (es := List.map enc23 ([(⟨x5461.f1, x5461.f2, x5461.f3⟩ : S23)] : List S23)) Try.underlying42 TI24 Z24 rfl (by decide) (by decide) (by kernel_rfl) (by kernel_rfl) rfl (flat_map enc23_ok _) (ltn rfl)) rfl ?_
          intro v5468
          by_cases c5469 : (l5415.length + ([(⟨x5461.f1, x5461.f2, x5461.f3⟩ : S23)] : List S23).length) * 24 ≤ 140737488355328
          · rw [if_pos c5469] at h
            refine VL.sG (o_append 1 appm Try.underlying42 EI24 rfl rfl rfl (.inr ⟨0, _, rfl⟩) (bndm c5469) (ltn rfl)) rfl ?_
            intro v5470
            refine VL.va (op_assign rfl (ltn rfl)) rfl ?_
            refine VL.done ?_
            refine VN.block ?_
            refine VN.then ?_
            refine VC.region ?_
            refine VL.va (op_ari64 rfl rfl rfl (ltn rfl)) rfl ?_
            refine VL.va (op_move rfl (ltn rfl)) rfl ?_
            refine VL.done ?_
            refine VN.again [] [1] (ihl1 v5470 (l5415 ++ ([(⟨x5461.f1, x5461.f2, x5461.f3⟩ : S23)] : List S23)) (wrap64 (i5417 + 1)) h) ⟨rfl, ⟨rfl, rfl, rfl, rfl, rfl, rfl, rfl, trivial⟩, ⟨⟨0, rfl⟩, trivial⟩, rfl, by decide, rfl, by decide⟩
          · rw [if_neg c5469] at h; cases h
        · rw [if_neg c5466] at h
          obtain rfl : b5465 = false := hb5465.symm.trans (Bool.eq_false_iff.2 c5466)
          refine VC.cond_f rfl ?_
          refine VC.skip ?_
          refine VN.block ?_
          refine VN.then ?_
          refine VC.region ?_
          refine VL.va (op_ari64 rfl rfl rfl (ltn rfl)) rfl ?_
          refine VL.va (op_move rfl (ltn rfl)) rfl ?_
          refine VL.done ?_
          refine VN.again [] [0] (ihl1 v5414 l5415 (wrap64 (i5417 + 1)) h) ⟨rfl, ⟨rfl, rfl, rfl, rfl, rfl, rfl, rfl, trivial⟩, ⟨⟨0, rfl⟩, trivial⟩, rfl, by decide, rfl, by decide⟩
      · rw [if_neg c5460] at h; cases h
    · rw [if_neg c5447] at h
      obtain rfl : b5445 = false := hb5445.symm.trans (decide_eq_false c5447)
      refine VC.cond_f rfl ?_
      refine VC.exit ?_
      refine VX.then ?_
      refine VX.then ?_
      refine VX.hit ?_
      refine VN.then ?_
      refine VC.seq ?_
      refine VC.region ?_
      refine VL.va (op_move rfl (ltn rfl)) rfl ?_
      refine VL.va (op_assign rfl (ltn rfl)) rfl ?_
      refine VL.va (op_assign rfl (ltn rfl)) rfl ?_
      refine VL.done ?_
      refine VN.then ?_
      refine VC.ret ?_
      simp only [Option.some.injEq, Prod.mk.injEq] at h
      obtain ⟨rfl, rfl⟩ := h
      exact VR.fn (rs := [.tmp 4, .tmp 5]) [] [(v5414, 24, 3, l5415.map enc23)] [0] rfl (.tmp rfl (.tmp rfl .nil)) ⟨v5414, rfl, rfl, rfl⟩ trivial rfl (by decide)
  · rw [if_neg c5299] at h
    obtain rfl := Bool.eq_false_iff.2 c5299
    refine VL.va (op_not rfl rfl (ltn rfl)) rfl ?_
    refine VL.done ?_
    refine VN.then ?_
    refine VC.cond_t rfl ?_
    refine VC.seq ?_
    refine VC.region ?_
    refine VL.va (op_assign rfl (ltn rfl)) rfl ?_
    refine VL.va (op_assign rfl (ltn rfl)) rfl ?_
    refine VL.done ?_
    refine VN.then ?_
    refine VC.ret ?_
    refine VR.then ?_
    simp only [Option.some.injEq, Prod.mk.injEq] at h
    obtain ⟨rfl, rfl⟩ := h
    refine VR.nilRow' 24 3 ?_
    exact VR.fn (rs := [.tmp 4, .tmp 5]) [] [((.slice none 0 0), 24, 3, ([] : List S23).map enc23)] [0] rfl (.tmp rfl (.tmp rfl .nil)) ⟨(.slice none 0 0), rfl, rfl, rfl⟩ trivial rfl (by decide)

end Go.Proofs.Ytdofmkbffffbpaa.PWaitsStand
