/- Written by a program of this repo: what the program's functions do, each as a Lean function, shown of the loaded code; or a statement's row over that; no condition of its own. -/
import Derived.Test.YtoiihpmncphplaaPGoodsKnowx9
namespace Go.Proofs.Ytoiihpmncphplaa.PGoodsKnow
open Go Go.RowKit Go.Proofs.YtoiihpmncphplaaV
set_option linter.unusedVariables false
set_option linter.unusedSimpArgs false

set_option maxHeartbeats 4000000 in
set_option maxRecDepth 100000 in
theorem tarryref07_Know.ok (k : Nat) (l0_0 : List ByteArray) (l0_1 : List S22) (a1 : ByteArray) (v0_0 : Value) (v0_1 : Value) (r1 : List ByteArray) (r2 : List S22) (h : tarryref07_Know.f k l0_0 l0_1 a1 = some (r1, r2)) :
    VCalls Try.prog 20 [.agg #[v0_0, v0_1], .string a1] [.row v0_0 1 (l0_0.map enc_str), .row v0_1 5 (l0_1.map enc22)] (fun v G own => ∃ w0 w1 : Value, v = .agg #[w0, w1] ∧ G = [.row w1 5 (r2.map enc22)] ∧ own = [(w0, 9, 1, r1.map enc_str)]) := by
  refine VCalls.intro Try.func20 rfl (len rfl) fun E hC => ?_
  unfold tarryref07_Know.f at h
  refine VC.seq ?_
  refine VC.region ?_
  refine VL.sG (o_box rfl (.agg (.f 0 rfl (.f 1 rfl .nil))) (ltn rfl)) rfl ?_
  intro g22614
  refine VL.sG (o_alloc Z35 ZL35 (ltn rfl)) rfl ?_
  intro g22615
  refine VL.done ?_
  refine VN.then ?_
  refine VC.seq ?_
  refine VC.region ?_
  refine VL.sG (o_buildSlice (vals := []) (cells := #[]) (es := List.map enc_str ([] : List ByteArray)) Try.underlying32 TI9 Z9 rfl (by decide) (by decide) (by kernel_rfl) (by kernel_rfl) rfl (flat_map enc_str_ok _) (ltn rfl)) rfl ?_
  intro v22617
  refine VL.va (op_assign rfl (ltn rfl)) rfl ?_
  refine VL.done ?_
  refine VN.then ?_
  refine VC.seq ?_
  refine VC.region ?_
  refine VL.va (op_assign rfl (ltn rfl)) rfl ?_
  refine VL.done ?_
  refine VN.then ?_
  refine VC.seq ?_
  refine VC.seq ?_
  refine VC.region ?_
  refine VL.va (op_fieldAddr FI35_0 rfl (add_at _ _ _) (ltn rfl)) rfl ?_
  refine VL.va (op_load 1 1 rfl rfl TI32 rfl (by decide) (ltn rfl)) rfl ?_
  refine VL.va (op_len (m := l0_0.length) 0 lenm Try.underlying32 rfl rfl (ltn rfl)) rfl ?_
  refine VL.va (op_move rfl (ltn rfl)) rfl ?_
  refine VL.done ?_
  refine VN.then ?_
  refine VC.block ?_
  refine VC.loop4 (fun (v22940 : Value) (l22941 : List ByteArray) (q22942 : Bool) (i22943 : Int) => ⟨42, [(1, .string a1), (2, .pointer (some ⟨g22614, 0, none⟩)), (4, .pointer (some ⟨g22615, 0, none⟩)), (5, v22940), (6, .bool q22942), (11, v0_0), (12, .int .i64 (l0_0.length : Int)), (13, .int .i64 i22943)], [.row v0_0 1 (l0_0.map enc_str), .row v0_1 5 (l0_1.map enc22)], [(g22615, 35, [.slice none 0 0, .slice none 0 0]), (g22614, 35, [v0_0, v0_1])], [(v22940, 9, 1, l22941.map enc_str)]⟩) (fun (ml1 : Nat) (v22940 : Value) (l22941 : List ByteArray) (q22942 : Bool) (i22943 : Int) => tarryref07_Know.l1 k a1 l0_0 l0_1 ml1 l22941 q22942 i22943 = some (r1, r2)) k v22617 ([] : List ByteArray) false 0 [0, 1] [0] h ⟨rfl, ⟨rfl, rfl, rfl, rfl, rfl, rfl, rfl, rfl, trivial⟩, ⟨⟨0, rfl⟩, ⟨1, rfl⟩, trivial⟩, rfl, by decide, rfl, by decide⟩ (by intros; simp [tarryref07_Know.l1]) ?_
  clear h
  intro ml1 ihl1 v22940 l22941 q22942 i22943 h
  simp only [tarryref07_Know.l1] at h
  refine VC.seq ?_
  refine VC.region ?_
  refine VL.letter (decide (i22943 < (l0_0.length : Int))) fun b23033 hb23033 => ?_
  refine VL.va (op_cmp rfl rfl (congrArg some hb23033) (ltn rfl)) rfl ?_
  refine VL.done ?_
  refine VN.then ?_
  refine VC.seq ?_
  by_cases c23049 : i22943 < (l0_0.length : Int)
  · rw [if_pos c23049] at h
    obtain rfl : b23033 = true := hb23033.symm.trans (decide_eq_true c23049)
    refine VC.cond_t rfl ?_
    refine VC.skip ?_
    refine VN.then ?_
    refine VC.seq ?_
    refine VC.block ?_
    refine VC.seq ?_
    refine VC.region ?_
    by_cases c23093 : 0 ≤ i22943
    · rw [if_pos c23093] at h
      replace h := Option.bind_eq_some_iff.1 h
      obtain ⟨x23094, hx23094, h⟩ := h
      refine VL.open (m := l0_0.length) 0 lenm rfl (pos_get hx23094) ?_
      rintro ad23095 n23096 rfl
      refine VL.va (op_indexAddr Try.underlying32 TI9 rfl rfl c23093 (lt_get c23093 hx23094) rfl (ltn rfl)) rfl ?_
      refine VL.va (op_load_row (sz := 1) (o := 0) 0 i22943.toNat 1 rfl rfl (get_map hx23094) TI9 rfl (by decide) (ltn rfl)) rfl ?_
      refine VL.va (op_assign rfl (ltn rfl)) rfl ?_
      refine VL.done ?_
      refine VN.then ?_
      refine VC.seq ?_
      refine VC.seq ?_
      refine VC.region ?_
      refine VL.va (op_move rfl (ltn rfl)) rfl ?_
      by_cases c23112 : q22942 = true
      · rw [if_pos c23112] at h
        obtain rfl := c23112
        refine VL.va (op_not rfl rfl (ltn rfl)) rfl ?_
        refine VL.va (op_move rfl (ltn rfl)) rfl ?_
        refine VL.un rfl rfl (ltn rfl) ?_
        refine VL.un rfl rfl (ltn rfl) ?_
        refine VL.un rfl rfl (ltn rfl) ?_
        refine VL.va (op_pick rfl rfl (ltn rfl)) rfl ?_
        refine VL.done ?_
        refine VN.then ?_
        refine VC.cond_f rfl ?_
        refine VC.skip ?_
        refine VN.then ?_
        refine VC.region ?_
        refine VL.va (op_move rfl (ltn rfl)) rfl ?_
        refine VL.va (op_move rfl (ltn rfl)) rfl ?_
        refine VL.sG (o_buildSlice (vals := [(0, .string x23094)]) (cells := #[.string x23094]) (es := List.map enc_str ([x23094] : List ByteArray)) Try.underlying32 TI9 Z9 rfl (by decide) (by decide) (by kernel_rfl) (by kernel_rfl) rfl (flat_map enc_str_ok _) (ltn rfl)) rfl ?_
        intro v23114
        by_cases c23115 : (l22941.length + ([x23094] : List ByteArray).length) * 16 ≤ 140737488355328
        · rw [if_pos c23115] at h
          refine VL.sG (o_append 1 appm Try.underlying32 EI9 rfl rfl rfl (.inr ⟨0, _, rfl⟩) (bndm c23115) (ltn rfl)) rfl ?_
          intro v23116
          refine VL.va (op_assign rfl (ltn rfl)) rfl ?_
          refine VL.done ?_
          refine VN.block ?_
          refine VN.then ?_
          refine VC.region ?_
          refine VL.va (op_ari64 rfl rfl rfl (ltn rfl)) rfl ?_
          refine VL.va (op_move rfl (ltn rfl)) rfl ?_
          refine VL.done ?_
          refine VN.again [0, 1] [1] (ihl1 v23116 (l22941 ++ ([x23094] : List ByteArray)) true (wrap64 (i22943 + 1)) h) ⟨rfl, ⟨rfl, rfl, rfl, rfl, rfl, rfl, rfl, rfl, trivial⟩, ⟨⟨0, rfl⟩, ⟨1, rfl⟩, trivial⟩, rfl, by decide, rfl, by decide⟩
        · rw [if_neg c23115] at h; cases h
      · rw [if_neg c23112] at h
        obtain rfl := Bool.eq_false_iff.2 c23112
        refine VL.va (op_not rfl rfl (ltn rfl)) rfl ?_
        refine VL.va (op_move rfl (ltn rfl)) rfl ?_
        refine VL.va (op_move rfl (ltn rfl)) rfl ?_
        refine VL.va (op_move rfl (ltn rfl)) rfl ?_
        replace h := Option.bind_eq_some_iff.1 h
        obtain ⟨t23118, hA23119, h⟩ := h
        refine VL.sC (o_call0 FO41 (tarryref07_Less.ok k a1 x23094 t23118 hA23119) rfl rfl (ltn rfl) (All_of .nil)) rfl ?_
        rintro _ _ _ ⟨rfl, rfl, rfl⟩
        refine VL.va (op_pick rfl rfl (ltn rfl)) rfl ?_
        refine VL.done ?_
        refine VN.then ?_
        by_cases c23120 : t23118 = true
        · rw [if_pos c23120] at h
          obtain rfl := c23120
          refine VC.cond_t rfl ?_
          refine VC.seq ?_
          refine VC.region ?_
          refine VL.va (op_move rfl (ltn rfl)) rfl ?_
          refine VL.va (op_move rfl (ltn rfl)) rfl ?_
          refine VL.sG (o_buildSlice (vals := [(0, .string a1)]) (cells := #[.string a1]) (es := List.map enc_str ([a1] : List ByteArray)) Try.underlying32 TI9 Z9 rfl (by decide) (by decide) (by kernel_rfl) (by kernel_rfl) rfl (flat_map enc_str_ok _) (ltn rfl)) rfl ?_
          intro v23122
          by_cases c23123 : (l22941.length + ([a1] : List ByteArray).length) * 16 ≤ 140737488355328
          · rw [if_pos c23123] at h
            refine VL.sG (o_append 1 appm Try.underlying32 EI9 rfl rfl rfl (.inr ⟨0, _, rfl⟩) (bndm c23123) (ltn rfl)) rfl ?_
            intro v23124
            refine VL.va (op_assign rfl (ltn rfl)) rfl ?_
            refine VL.done ?_
            refine VN.then ?_
            refine VC.region ?_
            refine VL.va (op_assign rfl (ltn rfl)) rfl ?_
            refine VL.done ?_
            refine VN.then ?_
            refine VC.region ?_
            refine VL.va (op_move rfl (ltn rfl)) rfl ?_
            refine VL.va (op_move rfl (ltn rfl)) rfl ?_
            refine VL.sG (o_buildSlice (vals := [(0, .string x23094)]) (cells := #[.string x23094]) (es := List.map enc_str ([x23094] : List ByteArray)) Try.underlying32 TI9 Z9 rfl (by decide) (by decide) (by kernel_rfl) (by kernel_rfl) rfl (flat_map enc_str_ok _) (ltn rfl)) rfl ?_
            intro v23127
            by_cases c23128 : ((l22941 ++ ([a1] : List ByteArray)).length + ([x23094] : List ByteArray).length) * 16 ≤ 140737488355328
            · rw [if_pos c23128] at h
              refine VL.sG (o_append 2 appm Try.underlying32 EI9 rfl rfl rfl (.inr ⟨0, _, rfl⟩) (bndm c23128) (ltn rfl)) rfl ?_
              intro v23129
              refine VL.va (op_assign rfl (ltn rfl)) rfl ?_
              refine VL.done ?_
              refine VN.block ?_
              refine VN.then ?_
              refine VC.region ?_
              refine VL.va (op_ari64 rfl rfl rfl (ltn rfl)) rfl ?_
              refine VL.va (op_move rfl (ltn rfl)) rfl ?_
              refine VL.done ?_
              refine VN.again [0, 1] [2] (ihl1 v23129 ((l22941 ++ ([a1] : List ByteArray)) ++ ([x23094] : List ByteArray)) true (wrap64 (i22943 + 1)) h) ⟨rfl, ⟨rfl, rfl, rfl, rfl, rfl, rfl, rfl, rfl, trivial⟩, ⟨⟨0, rfl⟩, ⟨1, rfl⟩, trivial⟩, rfl, by decide, rfl, by decide⟩
            · rw [if_neg c23128] at h; cases h
          · rw [if_neg c23123] at h; cases h
        · rw [if_neg c23120] at h
          obtain rfl := Bool.eq_false_iff.2 c23120
          refine VC.cond_f rfl ?_
          refine VC.skip ?_
          refine VN.then ?_
          refine VC.region ?_
          refine VL.va (op_move rfl (ltn rfl)) rfl ?_
          refine VL.va (op_move rfl (ltn rfl)) rfl ?_
          refine VL.sG (o_buildSlice (vals := [(0, .string x23094)]) (cells := #[.string x23094]) (es := List.map enc_str ([x23094] : List ByteArray)) Try.underlying32 TI9 Z9 rfl (by decide) (by decide) (by kernel_rfl) (by kernel_rfl) rfl (flat_map enc_str_ok _) (ltn rfl)) rfl ?_
          intro v23132
          by_cases c23133 : (l22941.length + ([x23094] : List ByteArray).length) * 16 ≤ 140737488355328
          · rw [if_pos c23133] at h
            refine VL.sG (o_append 1 appm Try.underlying32 EI9 rfl rfl rfl (.inr ⟨0, _, rfl⟩) (bndm c23133) (ltn rfl)) rfl ?_
            intro v23134
            refine VL.va (op_assign rfl (ltn rfl)) rfl ?_
            refine VL.done ?_
            refine VN.block ?_
            refine VN.then ?_
            refine VC.region ?_
            refine VL.va (op_ari64 rfl rfl rfl (ltn rfl)) rfl ?_
            refine VL.va (op_move rfl (ltn rfl)) rfl ?_
            refine VL.done ?_
            refine VN.again [0, 1] [1] (ihl1 v23134 (l22941 ++ ([x23094] : List ByteArray)) false (wrap64 (i22943 + 1)) h) ⟨rfl, ⟨rfl, rfl, rfl, rfl, rfl, rfl, rfl, rfl, trivial⟩, ⟨⟨0, rfl⟩, ⟨1, rfl⟩, trivial⟩, rfl, by decide, rfl, by decide⟩
          · rw [if_neg c23133] at h; cases h
    · rw [if_neg c23093] at h; cases h
  · rw [if_neg c23049] at h
    obtain rfl : b23033 = false := hb23033.symm.trans (decide_eq_false c23049)
    refine VC.cond_f rfl ?_
    refine VC.exit ?_
    refine VX.then ?_
    refine VX.then ?_
    refine VX.hit ?_
    refine VN.then ?_
    refine VC.seq ?_
    refine VC.seq ?_
    refine VC.region ?_
    refine VL.va (op_move rfl (ltn rfl)) rfl ?_
    by_cases c23144 : q22942 = true
    · rw [if_pos c23144] at h
      obtain rfl := c23144
      refine VL.va (op_not rfl rfl (ltn rfl)) rfl ?_
      refine VL.done ?_
      refine VN.then ?_
      refine VC.cond_f rfl ?_
      refine VC.skip ?_
      refine VN.then ?_
      refine VC.seq ?_
      refine VC.region ?_
      refine VL.va (op_move rfl (ltn rfl)) rfl ?_
      refine VL.va (op_fieldAddr FI35_0 rfl (add_at _ _ _) (ltn rfl)) rfl ?_
      refine VL.step1 (o_store 1 1 rfl rfl rfl TI32 (.r 0 rfl) rfl (len rfl)) rfl ?_
      refine VL.done ?_
      refine VN.then ?_
      refine VC.seq ?_
      refine VC.region ?_
      refine VL.va (op_load 1 2 rfl rfl TI35 rfl (fun h => absurd h (by decide)) (ltn rfl)) rfl ?_
      refine VL.step1 (o_store 0 2 rfl rfl rfl TI35 (.agg (.r 0 rfl (.f 1 rfl .nil))) rfl (len rfl)) rfl ?_
      refine VL.done ?_
      refine VN.then ?_
      refine VC.ret ?_
      simp only [Option.some.injEq, Prod.mk.injEq] at h
      obtain ⟨rfl, rfl⟩ := h
      exact VR.fn (rs := [.cell 4 35]) [.row v0_1 5 (l0_1.map enc22)] [(v22940, 9, 1, l22941.map enc_str)] [0] rfl (.cell 0 rfl rfl TI35 (fun h => absurd h (by decide)) .nil) ⟨v22940, v0_1, rfl, rfl, rfl⟩ ⟨⟨1, rfl⟩, trivial⟩ rfl (by decide)
    · rw [if_neg c23144] at h
      obtain rfl := Bool.eq_false_iff.2 c23144
      refine VL.va (op_not rfl rfl (ltn rfl)) rfl ?_
      refine VL.done ?_
      refine VN.then ?_
      refine VC.cond_t rfl ?_
      refine VC.region ?_
      refine VL.va (op_move rfl (ltn rfl)) rfl ?_
      refine VL.va (op_move rfl (ltn rfl)) rfl ?_
      refine VL.sG (o_buildSlice (vals := [(0, .string a1)]) (cells := #[.string a1]) (es := List.map enc_str ([a1] : List ByteArray)) Try.underlying32 TI9 Z9 rfl (by decide) (by decide) (by kernel_rfl) (by kernel_rfl) rfl (flat_map enc_str_ok _) (ltn rfl)) rfl ?_
      intro v23146
      by_cases c23147 : (l22941.length + ([a1] : List ByteArray).length) * 16 ≤ 140737488355328
      · rw [if_pos c23147] at h
        refine VL.sG (o_append 1 appm Try.underlying32 EI9 rfl rfl rfl (.inr ⟨0, _, rfl⟩) (bndm c23147) (ltn rfl)) rfl ?_
        intro v23148
        refine VL.va (op_assign rfl (ltn rfl)) rfl ?_
        refine VL.done ?_
        refine VN.then ?_
        refine VC.seq ?_
        refine VC.region ?_
        refine VL.va (op_move rfl (ltn rfl)) rfl ?_
        refine VL.va (op_fieldAddr FI35_0 rfl (add_at _ _ _) (ltn rfl)) rfl ?_
        refine VL.step1 (o_store 1 1 rfl rfl rfl TI32 (.r 1 rfl) rfl (len rfl)) rfl ?_
        refine VL.done ?_
        refine VN.then ?_
        refine VC.seq ?_
        refine VC.region ?_
        refine VL.va (op_load 1 2 rfl rfl TI35 rfl (fun h => absurd h (by decide)) (ltn rfl)) rfl ?_
        refine VL.step1 (o_store 0 2 rfl rfl rfl TI35 (.agg (.r 1 rfl (.f 1 rfl .nil))) rfl (len rfl)) rfl ?_
        refine VL.done ?_
        refine VN.then ?_
        refine VC.ret ?_
        simp only [Option.some.injEq, Prod.mk.injEq] at h
        obtain ⟨rfl, rfl⟩ := h
        exact VR.fn (rs := [.cell 4 35]) [.row v0_1 5 (l0_1.map enc22)] [(v23148, 9, 1, (l22941 ++ ([a1] : List ByteArray)).map enc_str)] [1] rfl (.cell 0 rfl rfl TI35 (fun h => absurd h (by decide)) .nil) ⟨v23148, v0_1, rfl, rfl, rfl⟩ ⟨⟨1, rfl⟩, trivial⟩ rfl (by decide)
      · rw [if_neg c23147] at h; cases h

end Go.Proofs.Ytoiihpmncphplaa.PGoodsKnow
