/- Written by a program of this repo: what the program's functions do, each as a Lean function, shown of the loaded code; or a statement's row over that; no condition of its own. -/
import Derived.Test.YtoiihpmncphplaaPGoodsKnowx7
namespace Go.Proofs.Ytoiihpmncphplaa.PGoodsKnow
open Go Go.RowKit Go.Proofs.YtoiihpmncphplaaV
set_option linter.unusedVariables false
set_option linter.unusedSimpArgs false

set_option maxHeartbeats 4000000 in
set_option maxRecDepth 100000 in
theorem tarryref07_Right.ok (k : Nat) (l0_0 : List ByteArray) (l0_1 : List S22) (v0_0 : Value) (v0_1 : Value) (r1 : Bool) (h : tarryref07_Right.f k l0_0 l0_1 = some r1) :
    VCalls Try.prog 17 [.agg #[v0_0, v0_1]] [.row v0_0 1 (l0_0.map enc_str), .row v0_1 5 (l0_1.map enc22)] (fun v G own => v = .bool r1 ∧ G = [] ∧ own = []) := by
  refine VCalls.intro Try.func17 rfl (len rfl) fun E hC => ?_
  unfold tarryref07_Right.f at h
  refine VC.seq ?_
  refine VC.region ?_
  refine VL.sG (o_box rfl (.agg (.f 0 rfl (.f 1 rfl .nil))) (ltn rfl)) rfl ?_
  intro g2473
  refine VL.va (op_assign rfl (ltn rfl)) rfl ?_
  refine VL.done ?_
  refine VN.then ?_
  refine VC.join0 (⟨111, [(1, .pointer (some ⟨g2473, 0, none⟩)), (2, .bool false)], [.row v0_0 1 (l0_0.map enc_str), .row v0_1 5 (l0_1.map enc22)], [(g2473, 35, [v0_0, v0_1])], []⟩) (tarryref07_Right.j22 k l0_0 l0_1 = some r1) ?_ ?_
  · refine VC.seq ?_
    refine VC.region ?_
    refine VL.va (op_fieldAddr FI35_0 rfl (add_at _ _ _) (ltn rfl)) rfl ?_
    refine VL.va (op_load 0 1 rfl rfl TI32 rfl (by decide) (ltn rfl)) rfl ?_
    refine VL.va (op_len (m := l0_0.length) 0 lenm Try.underlying32 rfl rfl (ltn rfl)) rfl ?_
    refine VL.va (op_move rfl (ltn rfl)) rfl ?_
    refine VL.done ?_
    refine VN.then ?_
    refine VC.block ?_
    refine VC.loop1 (fun (i7537 : Int) => ⟨111, [(1, .pointer (some ⟨g2473, 0, none⟩)), (2, .bool false), (10, v0_0), (11, .int .i64 (l0_0.length : Int)), (12, .int .i64 i7537)], [.row v0_0 1 (l0_0.map enc_str), .row v0_1 5 (l0_1.map enc22)], [(g2473, 35, [v0_0, v0_1])], []⟩) (fun (ml23 : Nat) (i7537 : Int) => tarryref07_Right.l23 k l0_0 l0_1 ml23 i7537 = some r1) k 0 [0] [] h ⟨rfl, ⟨rfl, rfl, rfl, rfl, rfl, trivial⟩, ⟨⟨0, rfl⟩, ⟨1, rfl⟩, trivial⟩, rfl, by decide, rfl, by decide⟩ (by intros; simp [tarryref07_Right.l23]) ?_
    clear h
    intro ml23 ihl23 i7537 h
    simp only [tarryref07_Right.l23] at h
    refine VC.seq ?_
    refine VC.region ?_
    refine VL.letter (decide (i7537 < (l0_0.length : Int))) fun b7589 hb7589 => ?_
    refine VL.va (op_cmp rfl rfl (congrArg some hb7589) (ltn rfl)) rfl ?_
    refine VL.done ?_
    refine VN.then ?_
    refine VC.seq ?_
    by_cases c7591 : i7537 < (l0_0.length : Int)
    · rw [if_pos c7591] at h
      obtain rfl : b7589 = true := hb7589.symm.trans (decide_eq_true c7591)
      refine VC.cond_t rfl ?_
      refine VC.skip ?_
      refine VN.then ?_
      refine VC.seq ?_
      refine VC.block ?_
      refine VC.seq ?_
      refine VC.region ?_
      refine VL.va (op_move rfl (ltn rfl)) rfl ?_
      by_cases c7616 : 0 ≤ i7537
      · rw [if_pos c7616] at h
        replace h := Option.bind_eq_some_iff.1 h
        obtain ⟨x7617, hx7617, h⟩ := h
        refine VL.open (m := l0_0.length) 0 lenm rfl (pos_get hx7617) ?_
        rintro ad7618 n7619 rfl
        refine VL.va (op_indexAddr Try.underlying32 TI9 rfl rfl c7616 (lt_get c7616 hx7617) rfl (ltn rfl)) rfl ?_
        refine VL.va (op_load_row (sz := 1) (o := 0) 0 i7537.toNat 1 rfl rfl (get_map hx7617) TI9 rfl (by decide) (ltn rfl)) rfl ?_
        refine VL.va (op_assign rfl (ltn rfl)) rfl ?_
        refine VL.va (op_assign rfl (ltn rfl)) rfl ?_
        refine VL.done ?_
        refine VN.then ?_
        refine VC.seq ?_
        refine VC.region ?_
        refine VL.va (op_move rfl (ltn rfl)) rfl ?_
        replace h := Option.bind_eq_some_iff.1 h
        obtain ⟨t7630, hA7631, h⟩ := h
        refine VL.sC (o_call0 FO18 (tarryref07_Name.ok k x7617 t7630 hA7631) rfl rfl (ltn rfl) (All_of .nil)) rfl ?_
        rintro _ _ _ ⟨rfl, rfl, rfl⟩
        by_cases c7632 : t7630 = true
        · rw [if_pos c7632] at h
          obtain rfl := c7632
          refine VL.va (op_not rfl rfl (ltn rfl)) rfl ?_
          refine VL.va (op_move rfl (ltn rfl)) rfl ?_
          refine VL.va (op_move rfl (ltn rfl)) rfl ?_
          refine VL.letter (decide (i7537 > 0)) fun b7633 hb7633 => ?_
          refine VL.va (op_cmp rfl rfl (congrArg some hb7633) (ltn rfl)) rfl ?_
          refine VL.va (op_move rfl (ltn rfl)) rfl ?_
          by_cases c7634 : i7537 > 0
          · rw [if_pos c7634] at h
            obtain rfl : b7633 = true := hb7633.symm.trans (decide_eq_true c7634)
            refine VL.va (op_fieldAddr FI35_0 rfl (add_at _ _ _) (ltn rfl)) rfl ?_
            refine VL.va (op_load 0 1 rfl rfl TI32 rfl (by decide) (ltn rfl)) rfl ?_
            refine VL.va (op_move rfl (ltn rfl)) rfl ?_
            refine VL.va (op_ari64 rfl rfl rfl (ltn rfl)) rfl ?_
            by_cases c7635 : 0 ≤ wrap64 (i7537 - 1)
            · rw [if_pos c7635] at h
              replace h := Option.bind_eq_some_iff.1 h
              obtain ⟨x7636, hx7636, h⟩ := h
              refine VL.va (op_indexAddr Try.underlying32 TI9 rfl rfl c7635 (lt_get c7635 hx7636) rfl (ltn rfl)) rfl ?_
              refine VL.va (op_load_row (sz := 1) (o := 0) 0 (wrap64 (i7537 - 1)).toNat 1 rfl rfl (get_map hx7636) TI9 rfl (by decide) (ltn rfl)) rfl ?_
              refine VL.va (op_move rfl (ltn rfl)) rfl ?_
              replace h := Option.bind_eq_some_iff.1 h
              obtain ⟨t7637, hA7638, h⟩ := h
              refine VL.sC (o_call0 FO41 (tarryref07_Less.ok k x7636 x7617 t7637 hA7638) rfl rfl (ltn rfl) (All_of .nil)) rfl ?_
              rintro _ _ _ ⟨rfl, rfl, rfl⟩
              by_cases c7639 : t7637 = true
              · rw [if_pos c7639] at h
                obtain rfl := c7639
                refine VL.va (op_not rfl rfl (ltn rfl)) rfl ?_
                refine VL.va (op_pick rfl rfl (ltn rfl)) rfl ?_
                refine VL.va (op_pick rfl rfl (ltn rfl)) rfl ?_
                refine VL.done ?_
                refine VN.then ?_
                refine VC.cond_f rfl ?_
                refine VC.skip ?_
                refine VN.block ?_
                refine VN.then ?_
                refine VC.region ?_
                refine VL.va (op_ari64 rfl rfl rfl (ltn rfl)) rfl ?_
                refine VL.va (op_move rfl (ltn rfl)) rfl ?_
                refine VL.done ?_
                refine VN.again [0] [] (ihl23 (wrap64 (i7537 + 1)) h) ⟨rfl, ⟨rfl, rfl, rfl, rfl, rfl, trivial⟩, ⟨⟨0, rfl⟩, ⟨1, rfl⟩, trivial⟩, rfl, by decide, rfl, by decide⟩
              · rw [if_neg c7639] at h
                obtain rfl := Bool.eq_false_iff.2 c7639
                refine VL.va (op_not rfl rfl (ltn rfl)) rfl ?_
                refine VL.va (op_pick rfl rfl (ltn rfl)) rfl ?_
                refine VL.va (op_pick rfl rfl (ltn rfl)) rfl ?_
                refine VL.done ?_
                refine VN.then ?_
                refine VC.cond_t rfl ?_
                refine VC.seq ?_
                refine VC.region ?_
                refine VL.va (op_assign rfl (ltn rfl)) rfl ?_
                refine VL.done ?_
                refine VN.then ?_
                refine VC.ret ?_
                refine VR.block ?_
                refine VR.then ?_
                refine VR.then ?_
                refine VR.block ?_
                refine VR.then ?_
                obtain rfl := Option.some.inj h
                exact VR.fn (rs := [.tmp 2]) [] [] [] rfl (.tmp rfl .nil) ⟨rfl, rfl, rfl⟩ trivial rfl (by decide)
            · rw [if_neg c7635] at h; cases h
          · rw [if_neg c7634] at h
            obtain rfl : b7633 = false := hb7633.symm.trans (decide_eq_false c7634)
            refine VL.un rfl rfl (ltn rfl) ?_
            refine VL.un rfl rfl (ltn rfl) ?_
            refine VL.un rfl rfl (ltn rfl) ?_
            refine VL.un rfl rfl (ltn rfl) ?_
            refine VL.un rfl rfl (ltn rfl) ?_
            refine VL.un rfl rfl (ltn rfl) ?_
            refine VL.un rfl rfl (ltn rfl) ?_
            refine VL.un rfl rfl (ltn rfl) ?_
            refine VL.un rfl rfl (ltn rfl) ?_
            refine VL.va (op_pick rfl rfl (ltn rfl)) rfl ?_
            refine VL.va (op_pick rfl rfl (ltn rfl)) rfl ?_
            refine VL.done ?_
            refine VN.then ?_
            refine VC.cond_f rfl ?_
            refine VC.skip ?_
            refine VN.block ?_
            refine VN.then ?_
            refine VC.region ?_
            refine VL.va (op_ari64 rfl rfl rfl (ltn rfl)) rfl ?_
            refine VL.va (op_move rfl (ltn rfl)) rfl ?_
            refine VL.done ?_
            refine VN.again [0] [] (ihl23 (wrap64 (i7537 + 1)) h) ⟨rfl, ⟨rfl, rfl, rfl, rfl, rfl, trivial⟩, ⟨⟨0, rfl⟩, ⟨1, rfl⟩, trivial⟩, rfl, by decide, rfl, by decide⟩
        · rw [if_neg c7632] at h
          obtain rfl := Bool.eq_false_iff.2 c7632
          refine VL.va (op_not rfl rfl (ltn rfl)) rfl ?_
          refine VL.va (op_move rfl (ltn rfl)) rfl ?_
          refine VL.un rfl rfl (ltn rfl) ?_
          refine VL.un rfl rfl (ltn rfl) ?_
          refine VL.un rfl rfl (ltn rfl) ?_
          refine VL.un rfl rfl (ltn rfl) ?_
          refine VL.un rfl rfl (ltn rfl) ?_
          refine VL.un rfl rfl (ltn rfl) ?_
          refine VL.un rfl rfl (ltn rfl) ?_
          refine VL.un rfl rfl (ltn rfl) ?_
          refine VL.un rfl rfl (ltn rfl) ?_
          refine VL.un rfl rfl (ltn rfl) ?_
          refine VL.un rfl rfl (ltn rfl) ?_
          refine VL.un rfl rfl (ltn rfl) ?_
          refine VL.un rfl rfl (ltn rfl) ?_
          refine VL.va (op_pick rfl rfl (ltn rfl)) rfl ?_
          refine VL.done ?_
          refine VN.then ?_
          refine VC.cond_t rfl ?_
          refine VC.seq ?_
          refine VC.region ?_
          refine VL.va (op_assign rfl (ltn rfl)) rfl ?_
          refine VL.done ?_
          refine VN.then ?_
          refine VC.ret ?_
          refine VR.block ?_
          refine VR.then ?_
          refine VR.then ?_
          refine VR.block ?_
          refine VR.then ?_
          obtain rfl := Option.some.inj h
          exact VR.fn (rs := [.tmp 2]) [] [] [] rfl (.tmp rfl .nil) ⟨rfl, rfl, rfl⟩ trivial rfl (by decide)
      · rw [if_neg c7616] at h; cases h
    · rw [if_neg c7591] at h
      obtain rfl : b7589 = false := hb7589.symm.trans (decide_eq_false c7591)
      refine VC.cond_f rfl ?_
      refine VC.exit ?_
      refine VX.then ?_
      refine VX.then ?_
      refine VX.hit ?_
      refine VN.meet0  [0] [] h ⟨rfl, ⟨rfl, rfl, trivial⟩, ⟨⟨0, rfl⟩, ⟨1, rfl⟩, trivial⟩, rfl, by decide, rfl, by decide⟩
  clear h
  intro  h
  unfold tarryref07_Right.j22 at h
  refine VC.seq ?_
  refine VC.seq ?_
  refine VC.region ?_
  refine VL.va (op_fieldAddr FI35_1 rfl (add_at _ _ _) (ltn rfl)) rfl ?_
  refine VL.va (op_load 0 1 rfl rfl TI33 rfl (by decide) (ltn rfl)) rfl ?_
  refine VL.va (op_len (m := l0_1.length) 1 lenm Try.underlying33 rfl rfl (ltn rfl)) rfl ?_
  refine VL.va (op_move rfl (ltn rfl)) rfl ?_
  refine VL.done ?_
  refine VN.then ?_
  refine VC.block ?_
  refine VC.loop1 (fun (i8885 : Int) => ⟨111, [(1, .pointer (some ⟨g2473, 0, none⟩)), (2, .bool false), (37, v0_1), (38, .int .i64 (l0_1.length : Int)), (39, .int .i64 i8885)], [.row v0_1 5 (l0_1.map enc22), .row v0_0 1 (l0_0.map enc_str)], [(g2473, 35, [v0_0, v0_1])], []⟩) (fun (ml29 : Nat) (i8885 : Int) => tarryref07_Right.l29 k l0_0 l0_1 ml29 i8885 = some r1) k 0 [0] [] h ⟨rfl, ⟨rfl, rfl, rfl, rfl, rfl, trivial⟩, ⟨⟨1, rfl⟩, ⟨0, rfl⟩, trivial⟩, rfl, by decide, rfl, by decide⟩ (by intros; simp [tarryref07_Right.l29]) ?_
  clear h
  intro ml29 ihl29 i8885 h
  simp only [tarryref07_Right.l29] at h
  refine VC.seq ?_
  refine VC.region ?_
  refine VL.letter (decide (i8885 < (l0_1.length : Int))) fun b9295 hb9295 => ?_
  refine VL.va (op_cmp rfl rfl (congrArg some hb9295) (ltn rfl)) rfl ?_
  refine VL.done ?_
  refine VN.then ?_
  refine VC.seq ?_
  by_cases c9303 : i8885 < (l0_1.length : Int)
  · rw [if_pos c9303] at h
    obtain rfl : b9295 = true := hb9295.symm.trans (decide_eq_true c9303)
    refine VC.cond_t rfl ?_
    refine VC.skip ?_
    refine VN.then ?_
    refine VC.seq ?_
    refine VC.block ?_
    refine VC.seq ?_
    refine VC.region ?_
    refine VL.va (op_move rfl (ltn rfl)) rfl ?_
    by_cases c9507 : 0 ≤ i8885
    · rw [if_pos c9507] at h
      replace h := Option.bind_eq_some_iff.1 h
      obtain ⟨x9508, hx9508, h⟩ := h
      refine VL.open (m := l0_1.length) 0 lenm rfl (pos_get hx9508) ?_
      rintro ad9509 n9510 rfl
      refine VL.va (op_indexAddr Try.underlying33 TI23 rfl rfl c9507 (lt_get c9507 hx9508) rfl (ltn rfl)) rfl ?_
      refine VL.va (op_load_row (sz := 5) (o := 0) 0 i8885.toNat 5 rfl rfl (get_map hx9508) TI23 rfl (fun h => absurd h (by decide)) (ltn rfl)) rfl ?_
      refine VL.sG (o_alloc Z23 ZL23 (ltn rfl)) rfl ?_
      intro g9511
      refine VL.va (op_assign rfl (ltn rfl)) rfl ?_
      refine VL.step1 (o_store 0 5 rfl rfl rfl TI23 (.agg (.of rfl)) rfl (len rfl)) rfl ?_
      refine VL.done ?_
      refine VN.then ?_
      refine VC.seq ?_
      replace h := Option.bind_eq_some_iff.1 h
      obtain ⟨t9528, hA9529, h⟩ := h
      by_cases c9530 : t9528 = true
      · rw [if_pos c9530] at h
        obtain rfl := c9530
        replace h := Option.bind_eq_some_iff.1 h
        obtain ⟨t9531, hA9532, h⟩ := h
        by_cases c9533 : t9531 = true
        · rw [if_pos c9533] at h
          obtain rfl := c9533
          replace h := Option.bind_eq_some_iff.1 h
          obtain ⟨t9534, hA9535, h⟩ := h
          by_cases c9536 : t9534 = true
          · rw [if_pos c9536] at h
            obtain rfl := c9536
            refine VC.letter (decide (i8885 > 0)) fun b9537 hb9537 => ?_
            by_cases c9538 : i8885 > 0
            · rw [if_pos c9538] at h
              obtain rfl : b9537 = true := hb9537.symm.trans (decide_eq_true c9538)
              by_cases c9539 : 0 ≤ wrap64 (i8885 - 1)
              · rw [if_pos c9539] at h
                replace h := Option.bind_eq_some_iff.1 h
                obtain ⟨x9540, hx9540, h⟩ := h
                replace h := Option.bind_eq_some_iff.1 h
                obtain ⟨t9541, hA9542, h⟩ := h
                by_cases c9543 : t9541 = true
                · rw [if_pos c9543] at h
                  obtain rfl := c9543
                  refine VC.join0 (⟨111, [(1, .pointer (some ⟨g2473, 0, none⟩)), (2, .bool false), (5, .int .i64 i8885), (6, .pointer (some ⟨g9511, 0, none⟩)), (37, (.slice (some ad9509) l0_1.length n9510)), (38, .int .i64 (l0_1.length : Int)), (39, .int .i64 i8885), (40, .bool true), (41, .int .i64 i8885), (43, .agg #[.string x9508.f0, .string x9508.f1, .int .i64 x9508.f2, .int .i64 x9508.f3, .int .i64 x9508.f4]), (44, .agg #[.string x9508.f0, .string x9508.f1, .int .i64 x9508.f2, .int .i64 x9508.f3, .int .i64 x9508.f4]), (45, .bool true), (46, .bool false), (47, .bool false), (48, .pointer (some ⟨g2473, 0, none⟩)), (49, v0_0), (50, .pointer (some ⟨g9511, 0, none⟩)), (51, .string x9508.f0), (52, .bool true), (53, .bool false), (54, .bool false), (55, .bool false), (56, .pointer (some ⟨g2473, 0, none⟩)), (57, v0_0), (58, .pointer (some ⟨g9511, 1, none⟩)), (59, .string x9508.f1), (60, .bool true), (61, .bool false), (62, .bool false), (63, .bool false), (64, .int .i64 i8885), (65, .bool true), (66, .bool true), (67, .agg #[.string x9508.f0, .string x9508.f1, .int .i64 x9508.f2, .int .i64 x9508.f3, .int .i64 x9508.f4]), (68, .pointer (some ⟨g2473, 1, none⟩)), (69, (.slice (some ad9509) l0_1.length n9510)), (70, .int .i64 i8885), (71, .int .i64 (wrap64 (i8885 - 1))), (73, .agg #[.string x9540.f0, .string x9540.f1, .int .i64 x9540.f2, .int .i64 x9540.f3, .int .i64 x9540.f4]), (74, .bool true), (75, .bool false), (76, .bool false), (77, .bool false)], [.row (.slice (some ad9509) l0_1.length n9510) 5 (l0_1.map enc22), .row v0_0 1 (l0_0.map enc_str)], [(g9511, 23, [.string x9508.f0, .string x9508.f1, .int .i64 x9508.f2, .int .i64 x9508.f3, .int .i64 x9508.f4]), (g2473, 35, [v0_0, (.slice (some ad9509) l0_1.length n9510)])], []⟩) (True) ?_ ?_
                  · refine VC.draw ⟨0, [], [.row (.slice (some ad9509) l0_1.length n9510) 5 (l0_1.map enc22)], [(g9511, 23, [.string x9508.f0, .string x9508.f1, .int .i64 x9508.f2, .int .i64 x9508.f3, .int .i64 x9508.f4]), (g2473, 35, [v0_0, (.slice (some ad9509) l0_1.length n9510)])], []⟩ (by kernel_rfl) rfl (by kernel_rfl) (n := 34) (listed := LB 34 0) ?_
                    refine VA.va (i := 0) (listed' := LB 34 1) rfl (op_load 0 5 rfl rfl TI23 rfl (fun h => absurd h (by decide)) (ltn rfl)) rfl (by kernel_rfl) (by kernel_rfl) (by kernel_rfl) (by kernel_rfl) ⟨⟨⟨0, rfl⟩, trivial⟩, ⟨⟨0, rfl⟩, ⟨1, rfl⟩, trivial⟩, trivial⟩ (fun _ _ _ h => h) ?_
                    refine VA.oneC (i := 1) (listed' := LB 34 3) (by kernel_rfl) rfl (o_call0 FO8 (tarryref07_May.ok k x9508.f0 x9508.f1 x9508.f2 x9508.f3 x9508.f4 true hA9529) rfl rfl (ltn rfl) (All_of .nil)) rfl (by kernel_rfl) ?_
                    rintro _ _ _ ⟨rfl, rfl, rfl⟩
                    refine ⟨⟨⟨⟨0, rfl⟩, trivial⟩, ⟨⟨0, rfl⟩, ⟨1, rfl⟩, trivial⟩, trivial⟩, ?_⟩
                    refine VA.va (i := 2) (listed' := LB 34 7) rfl (op_not rfl rfl (ltn rfl)) rfl (by kernel_rfl) (by kernel_rfl) (by kernel_rfl) (by kernel_rfl) ⟨⟨⟨0, rfl⟩, trivial⟩, ⟨⟨0, rfl⟩, ⟨1, rfl⟩, trivial⟩, trivial⟩ (fun _ _ _ h => h) ?_
                    refine VA.va (i := 3) (listed' := LB 34 15) rfl (op_move rfl (ltn rfl)) rfl (by kernel_rfl) (by kernel_rfl) (by kernel_rfl) (by kernel_rfl) ⟨⟨⟨0, rfl⟩, trivial⟩, ⟨⟨0, rfl⟩, ⟨1, rfl⟩, trivial⟩, trivial⟩ (fun _ _ _ h => h) ?_
                    refine VA.va (i := 4) (listed' := LB 34 31) rfl (op_fieldAddr FI35_0 rfl (add_at _ _ _) (ltn rfl)) rfl (by kernel_rfl) (by kernel_rfl) (by kernel_rfl) (by kernel_rfl) ⟨⟨⟨0, rfl⟩, trivial⟩, ⟨⟨0, rfl⟩, ⟨1, rfl⟩, trivial⟩, trivial⟩ (fun _ _ _ h => h) ?_
                    refine VA.va (i := 5) (listed' := LB 34 63) rfl (op_load 1 1 rfl rfl TI32 rfl (by decide) (ltn rfl)) rfl (by kernel_rfl) (by kernel_rfl) (by kernel_rfl) (by kernel_rfl) ⟨⟨⟨0, rfl⟩, trivial⟩, ⟨⟨0, rfl⟩, ⟨1, rfl⟩, trivial⟩, trivial⟩ (fun _ _ _ h => h) ?_
                    refine VA.va (i := 6) (listed' := LB 34 127) rfl (op_fieldAddr FI23_0 rfl (add_at _ _ _) (ltn rfl)) rfl (by kernel_rfl) (by kernel_rfl) (by kernel_rfl) (by kernel_rfl) ⟨⟨⟨0, rfl⟩, trivial⟩, ⟨⟨0, rfl⟩, ⟨1, rfl⟩, trivial⟩, trivial⟩ (fun _ _ _ h => h) ?_
                    refine VA.va (i := 7) (listed' := LB 34 255) rfl (op_load 0 1 rfl rfl TI9 rfl (by decide) (ltn rfl)) rfl (by kernel_rfl) (by kernel_rfl) (by kernel_rfl) (by kernel_rfl) ⟨⟨⟨0, rfl⟩, trivial⟩, ⟨⟨0, rfl⟩, ⟨1, rfl⟩, trivial⟩, trivial⟩ (fun _ _ _ h => h) ?_
                    refine VA.oneC (i := 8) (listed' := LB 34 511) (by kernel_rfl) rfl (o_call0 FO19 (tarryref07_Has.ok k l0_0 x9508.f0 v0_0 true hA9532) rfl rfl (ltn rfl) (All_of (.cons (List.mem_of_getElem? (i := 1) rfl) .nil))) rfl (by kernel_rfl) ?_
                    rintro _ _ _ ⟨rfl, rfl, rfl⟩
                    refine ⟨⟨⟨⟨0, rfl⟩, trivial⟩, ⟨⟨0, rfl⟩, ⟨1, rfl⟩, trivial⟩, trivial⟩, ?_⟩
                    refine VA.va (i := 9) (listed' := LB 34 1023) rfl (op_not rfl rfl (ltn rfl)) rfl (by kernel_rfl) (by kernel_rfl) (by kernel_rfl) (by kernel_rfl) ⟨⟨⟨0, rfl⟩, trivial⟩, ⟨⟨0, rfl⟩, ⟨1, rfl⟩, trivial⟩, trivial⟩ (fun _ _ _ h => h) ?_
                    refine VA.va (i := 10) (listed' := LB 34 2047) rfl (op_pick rfl rfl (ltn rfl)) rfl (by kernel_rfl) (by kernel_rfl) (by kernel_rfl) (by kernel_rfl) ⟨⟨⟨0, rfl⟩, trivial⟩, ⟨⟨0, rfl⟩, ⟨1, rfl⟩, trivial⟩, trivial⟩ (fun _ _ _ h => h) ?_
                    refine VA.va (i := 11) (listed' := LB 34 4095) rfl (op_move rfl (ltn rfl)) rfl (by kernel_rfl) (by kernel_rfl) (by kernel_rfl) (by kernel_rfl) ⟨⟨⟨0, rfl⟩, trivial⟩, ⟨⟨0, rfl⟩, ⟨1, rfl⟩, trivial⟩, trivial⟩ (fun _ _ _ h => h) ?_
                    refine VA.va (i := 12) (listed' := LB 34 8191) rfl (op_fieldAddr FI35_0 rfl (add_at _ _ _) (ltn rfl)) rfl (by kernel_rfl) (by kernel_rfl) (by kernel_rfl) (by kernel_rfl) ⟨⟨⟨0, rfl⟩, trivial⟩, ⟨⟨0, rfl⟩, ⟨1, rfl⟩, trivial⟩, trivial⟩ (fun _ _ _ h => h) ?_
                    refine VA.va (i := 13) (listed' := LB 34 16383) rfl (op_load 1 1 rfl rfl TI32 rfl (by decide) (ltn rfl)) rfl (by kernel_rfl) (by kernel_rfl) (by kernel_rfl) (by kernel_rfl) ⟨⟨⟨0, rfl⟩, trivial⟩, ⟨⟨0, rfl⟩, ⟨1, rfl⟩, trivial⟩, trivial⟩ (fun _ _ _ h => h) ?_
                    refine VA.va (i := 14) (listed' := LB 34 32767) rfl (op_fieldAddr FI23_1 rfl (add_at _ _ _) (ltn rfl)) rfl (by kernel_rfl) (by kernel_rfl) (by kernel_rfl) (by kernel_rfl) ⟨⟨⟨0, rfl⟩, trivial⟩, ⟨⟨0, rfl⟩, ⟨1, rfl⟩, trivial⟩, trivial⟩ (fun _ _ _ h => h) ?_
                    refine VA.va (i := 15) (listed' := LB 34 65535) rfl (op_load 0 1 rfl rfl TI9 rfl (by decide) (ltn rfl)) rfl (by kernel_rfl) (by kernel_rfl) (by kernel_rfl) (by kernel_rfl) ⟨⟨⟨0, rfl⟩, trivial⟩, ⟨⟨0, rfl⟩, ⟨1, rfl⟩, trivial⟩, trivial⟩ (fun _ _ _ h => h) ?_
                    refine VA.oneC (i := 16) (listed' := LB 34 131071) (by kernel_rfl) rfl (o_call0 FO19 (tarryref07_Has.ok k l0_0 x9508.f1 v0_0 true hA9535) rfl rfl (ltn rfl) (All_of (.cons (List.mem_of_getElem? (i := 1) rfl) .nil))) rfl (by kernel_rfl) ?_
                    rintro _ _ _ ⟨rfl, rfl, rfl⟩
                    refine ⟨⟨⟨⟨0, rfl⟩, trivial⟩, ⟨⟨0, rfl⟩, ⟨1, rfl⟩, trivial⟩, trivial⟩, ?_⟩
                    refine VA.va (i := 17) (listed' := LB 34 262143) rfl (op_not rfl rfl (ltn rfl)) rfl (by kernel_rfl) (by kernel_rfl) (by kernel_rfl) (by kernel_rfl) ⟨⟨⟨0, rfl⟩, trivial⟩, ⟨⟨0, rfl⟩, ⟨1, rfl⟩, trivial⟩, trivial⟩ (fun _ _ _ h => h) ?_
                    refine VA.va (i := 18) (listed' := LB 34 524287) rfl (op_pick rfl rfl (ltn rfl)) rfl (by kernel_rfl) (by kernel_rfl) (by kernel_rfl) (by kernel_rfl) ⟨⟨⟨0, rfl⟩, trivial⟩, ⟨⟨0, rfl⟩, ⟨1, rfl⟩, trivial⟩, trivial⟩ (fun _ _ _ h => h) ?_
                    refine VA.va (i := 19) (listed' := LB 34 1048575) rfl (op_move rfl (ltn rfl)) rfl (by kernel_rfl) (by kernel_rfl) (by kernel_rfl) (by kernel_rfl) ⟨⟨⟨0, rfl⟩, trivial⟩, ⟨⟨0, rfl⟩, ⟨1, rfl⟩, trivial⟩, trivial⟩ (fun _ _ _ h => h) ?_
                    refine VA.va (i := 20) (listed' := LB 34 2097151) rfl (op_move rfl (ltn rfl)) rfl (by kernel_rfl) (by kernel_rfl) (by kernel_rfl) (by kernel_rfl) ⟨⟨⟨0, rfl⟩, trivial⟩, ⟨⟨0, rfl⟩, ⟨1, rfl⟩, trivial⟩, trivial⟩ (fun _ _ _ h => h) ?_
                    refine VA.va (i := 21) (listed' := LB 34 4194303) rfl (op_cmp rfl rfl (congrArg some hb9537) (ltn rfl)) rfl (by kernel_rfl) (by kernel_rfl) (by kernel_rfl) (by kernel_rfl) ⟨⟨⟨0, rfl⟩, trivial⟩, ⟨⟨0, rfl⟩, ⟨1, rfl⟩, trivial⟩, trivial⟩ (fun _ _ _ h => h) ?_
                    refine VA.va (i := 22) (listed' := LB 34 8388607) rfl (op_move rfl (ltn rfl)) rfl (by kernel_rfl) (by kernel_rfl) (by kernel_rfl) (by kernel_rfl) ⟨⟨⟨0, rfl⟩, trivial⟩, ⟨⟨0, rfl⟩, ⟨1, rfl⟩, trivial⟩, trivial⟩ (fun _ _ _ h => h) ?_
                    refine VA.va (i := 23) (listed' := LB 34 16777215) rfl (op_load 0 5 rfl rfl TI23 rfl (fun h => absurd h (by decide)) (ltn rfl)) rfl (by kernel_rfl) (by kernel_rfl) (by kernel_rfl) (by kernel_rfl) ⟨⟨⟨0, rfl⟩, trivial⟩, ⟨⟨0, rfl⟩, ⟨1, rfl⟩, trivial⟩, trivial⟩ (fun _ _ _ h => h) ?_
                    refine VA.va (i := 24) (listed' := LB 34 33554431) rfl (op_fieldAddr FI35_1 rfl (add_at _ _ _) (ltn rfl)) rfl (by kernel_rfl) (by kernel_rfl) (by kernel_rfl) (by kernel_rfl) ⟨⟨⟨0, rfl⟩, trivial⟩, ⟨⟨0, rfl⟩, ⟨1, rfl⟩, trivial⟩, trivial⟩ (fun _ _ _ h => h) ?_
                    refine VA.va (i := 25) (listed' := LB 34 67108863) rfl (op_load 1 1 rfl rfl TI33 rfl (by decide) (ltn rfl)) rfl (by kernel_rfl) (by kernel_rfl) (by kernel_rfl) (by kernel_rfl) ⟨⟨⟨0, rfl⟩, trivial⟩, ⟨⟨0, rfl⟩, ⟨1, rfl⟩, trivial⟩, trivial⟩ (fun _ _ _ h => h) ?_
                    refine VA.va (i := 26) (listed' := LB 34 134217727) rfl (op_move rfl (ltn rfl)) rfl (by kernel_rfl) (by kernel_rfl) (by kernel_rfl) (by kernel_rfl) ⟨⟨⟨0, rfl⟩, trivial⟩, ⟨⟨0, rfl⟩, ⟨1, rfl⟩, trivial⟩, trivial⟩ (fun _ _ _ h => h) ?_
                    refine VA.va (i := 27) (listed' := LB 34 268435455) rfl (op_ari64 rfl rfl rfl (ltn rfl)) rfl (by kernel_rfl) (by kernel_rfl) (by kernel_rfl) (by kernel_rfl) ⟨⟨⟨0, rfl⟩, trivial⟩, ⟨⟨0, rfl⟩, ⟨1, rfl⟩, trivial⟩, trivial⟩ (fun _ _ _ h => h) ?_
                    refine VA.va (i := 28) (listed' := LB 34 536870911) rfl (op_indexAddr Try.underlying33 TI23 rfl rfl c9539 (lt_get c9539 hx9540) rfl (ltn rfl)) rfl (by kernel_rfl) (by kernel_rfl) (by kernel_rfl) (by kernel_rfl) ⟨⟨⟨0, rfl⟩, trivial⟩, ⟨⟨0, rfl⟩, ⟨1, rfl⟩, trivial⟩, trivial⟩ (fun _ _ _ h => h) ?_
                    refine VA.va (i := 29) (listed' := LB 34 1073741823) rfl (op_load_row (sz := 5) (o := 0) 0 (wrap64 (i8885 - 1)).toNat 5 rfl rfl (get_map hx9540) TI23 rfl (fun h => absurd h (by decide)) (ltn rfl)) rfl (by kernel_rfl) (by kernel_rfl) (by kernel_rfl) (by kernel_rfl) ⟨⟨⟨0, rfl⟩, trivial⟩, ⟨⟨0, rfl⟩, ⟨1, rfl⟩, trivial⟩, trivial⟩ (fun _ _ _ h => h) ?_
                    refine VA.oneC (i := 30) (listed' := LB 34 2147483647) (by kernel_rfl) rfl (o_call0 FO42 (tarryref07_above.ok k x9508.f0 x9508.f1 x9508.f2 x9508.f3 x9508.f4 x9540.f0 x9540.f1 x9540.f2 x9540.f3 x9540.f4 true hA9542) rfl rfl (ltn rfl) (All_of .nil)) rfl (by kernel_rfl) ?_
                    rintro _ _ _ ⟨rfl, rfl, rfl⟩
                    refine ⟨⟨⟨⟨0, rfl⟩, trivial⟩, ⟨⟨0, rfl⟩, ⟨1, rfl⟩, trivial⟩, trivial⟩, ?_⟩
                    refine VA.va (i := 31) (listed' := LB 34 4294967295) rfl (op_not rfl rfl (ltn rfl)) rfl (by kernel_rfl) (by kernel_rfl) (by kernel_rfl) (by kernel_rfl) ⟨⟨⟨0, rfl⟩, trivial⟩, ⟨⟨0, rfl⟩, ⟨1, rfl⟩, trivial⟩, trivial⟩ (fun _ _ _ h => h) ?_
                    refine VA.va (i := 32) (listed' := LB 34 8589934591) rfl (op_pick rfl rfl (ltn rfl)) rfl (by kernel_rfl) (by kernel_rfl) (by kernel_rfl) (by kernel_rfl) ⟨⟨⟨0, rfl⟩, trivial⟩, ⟨⟨0, rfl⟩, ⟨1, rfl⟩, trivial⟩, trivial⟩ (fun _ _ _ h => h) ?_
                    refine VA.va (i := 33) (listed' := LB 34 17179869183) rfl (op_pick rfl rfl (ltn rfl)) rfl (by kernel_rfl) (by kernel_rfl) (by kernel_rfl) (by kernel_rfl) ⟨⟨⟨0, rfl⟩, trivial⟩, ⟨⟨0, rfl⟩, ⟨1, rfl⟩, trivial⟩, trivial⟩ (fun _ _ _ h => h) ?_
                    refine VA.done (by kernel_rfl) ?_
                    exact VN.meet0  [0, 1] [] trivial ⟨rfl, ⟨rfl, rfl, rfl, rfl, rfl, rfl, rfl, rfl, rfl, rfl, rfl, rfl, rfl, rfl, rfl, rfl, rfl, rfl, rfl, rfl, rfl, rfl, rfl, rfl, rfl, rfl, rfl, rfl, rfl, rfl, rfl, rfl, rfl, rfl, rfl, rfl, rfl, rfl, rfl, rfl, rfl, rfl, rfl, trivial⟩, ⟨⟨0, rfl⟩, ⟨1, rfl⟩, trivial⟩, rfl, by decide, rfl, by decide⟩
                  intro _
                  refine VC.cond_f rfl ?_
                  refine VC.skip ?_
                  refine VN.then ?_
                  refine VC.seq ?_
                  refine VC.region ?_
                  refine VL.va (op_fieldAddr FI35_1 rfl (add_at _ _ _) (ltn rfl)) rfl ?_
                  refine VL.va (op_load 1 1 rfl rfl TI33 rfl (by decide) (ltn rfl)) rfl ?_
                  refine VL.va (op_move rfl (ltn rfl)) rfl ?_
                  by_cases c9544 : i8885 ≤ (l0_1.length : Int)
                  · rw [if_pos c9544] at h
                    refine VL.sG (o_slice (m := l0_1.length) 0 0 i8885.toNat lenm cutm Try.underlying33 TI23 rfl rfl ⟨rfl, ⟨_, _, rfl, c9507, rfl⟩, by omega, by omega⟩ (ltn rfl)) rfl ?_
                    intro v9546
                    refine VL.va (op_len (m := ((l0_1.take i8885.toNat).drop 0).length) 0 lenm Try.underlying33 rfl rfl (ltn rfl)) rfl ?_
                    refine VL.va (op_move rfl (ltn rfl)) rfl ?_
                    refine VL.done ?_
                    refine VN.then ?_
                    refine VC.block ?_
                    refine VC.loop1 (fun (i9572 : Int) => ⟨111, [(1, .pointer (some ⟨g2473, 0, none⟩)), (2, .bool false), (5, .int .i64 i8885), (6, .pointer (some ⟨g9511, 0, none⟩)), (37, (.slice (some ad9509) l0_1.length n9510)), (38, .int .i64 (l0_1.length : Int)), (39, .int .i64 i8885), (40, .bool true), (41, .int .i64 i8885), (43, .agg #[.string x9508.f0, .string x9508.f1, .int .i64 x9508.f2, .int .i64 x9508.f3, .int .i64 x9508.f4]), (44, .agg #[.string x9508.f0, .string x9508.f1, .int .i64 x9508.f2, .int .i64 x9508.f3, .int .i64 x9508.f4]), (45, .bool true), (46, .bool false), (47, .bool false), (48, .pointer (some ⟨g2473, 0, none⟩)), (49, v0_0), (50, .pointer (some ⟨g9511, 0, none⟩)), (51, .string x9508.f0), (52, .bool true), (53, .bool false), (54, .bool false), (55, .bool false), (56, .pointer (some ⟨g2473, 0, none⟩)), (57, v0_0), (58, .pointer (some ⟨g9511, 1, none⟩)), (59, .string x9508.f1), (60, .bool true), (61, .bool false), (62, .bool false), (63, .bool false), (64, .int .i64 i8885), (65, .bool true), (66, .bool true), (67, .agg #[.string x9508.f0, .string x9508.f1, .int .i64 x9508.f2, .int .i64 x9508.f3, .int .i64 x9508.f4]), (68, .pointer (some ⟨g2473, 1, none⟩)), (69, (.slice (some ad9509) l0_1.length n9510)), (70, .int .i64 i8885), (71, .int .i64 (wrap64 (i8885 - 1))), (73, .agg #[.string x9540.f0, .string x9540.f1, .int .i64 x9540.f2, .int .i64 x9540.f3, .int .i64 x9540.f4]), (74, .bool true), (75, .bool false), (76, .bool false), (77, .bool false), (78, .pointer (some ⟨g2473, 1, none⟩)), (79, (.slice (some ad9509) l0_1.length n9510)), (80, .int .i64 i8885), (81, v9546), (82, .int .i64 (((l0_1.take i8885.toNat).drop 0).length : Int)), (83, .int .i64 i9572)], [.row (.slice (some ad9509) l0_1.length n9510) 5 (l0_1.map enc22), .row v0_0 1 (l0_0.map enc_str), .row v9546 5 (((l0_1.take i8885.toNat).drop 0).map enc22)], [(g9511, 23, [.string x9508.f0, .string x9508.f1, .int .i64 x9508.f2, .int .i64 x9508.f3, .int .i64 x9508.f4]), (g2473, 35, [v0_0, (.slice (some ad9509) l0_1.length n9510)])], []⟩) (fun (ml32 : Nat) (i9572 : Int) => tarryref07_Right.l32 k (tarryref07_Right.l29 k l0_0 l0_1 ml29) i8885 l0_1 x9508 ml32 i9572 = some r1) k 0 [0, 1] [] h ⟨rfl, ⟨rfl, rfl, rfl, rfl, rfl, rfl, rfl, rfl, rfl, rfl, rfl, rfl, rfl, rfl, rfl, rfl, rfl, rfl, rfl, rfl, rfl, rfl, rfl, rfl, rfl, rfl, rfl, rfl, rfl, rfl, rfl, rfl, rfl, rfl, rfl, rfl, rfl, rfl, rfl, rfl, rfl, rfl, rfl, rfl, rfl, rfl, rfl, rfl, rfl, trivial⟩, ⟨⟨1, rfl⟩, ⟨2, rfl⟩, ⟨0, rfl⟩, trivial⟩, rfl, by decide, rfl, by decide⟩ (by intros; simp [tarryref07_Right.l32]) ?_
                    clear h
                    intro ml32 ihl32 i9572 h
                    simp only [tarryref07_Right.l32] at h
                    refine VC.seq ?_
                    refine VC.region ?_
                    refine VL.letter (decide (i9572 < (((l0_1.take i8885.toNat).drop 0).length : Int))) fun b9600 hb9600 => ?_
                    refine VL.va (op_cmp rfl rfl (congrArg some hb9600) (ltn rfl)) rfl ?_
                    refine VL.done ?_
                    refine VN.then ?_
                    refine VC.seq ?_
                    by_cases c9602 : i9572 < (((l0_1.take i8885.toNat).drop 0).length : Int)
                    · rw [if_pos c9602] at h
                      obtain rfl : b9600 = true := hb9600.symm.trans (decide_eq_true c9602)
                      refine VC.cond_t rfl ?_
                      refine VC.skip ?_
                      refine VN.then ?_
                      refine VC.seq ?_
                      refine VC.block ?_
                      refine VC.seq ?_
                      refine VC.region ?_
                      by_cases c9615 : 0 ≤ i9572
                      · rw [if_pos c9615] at h
                        replace h := Option.bind_eq_some_iff.1 h
                        obtain ⟨x9616, hx9616, h⟩ := h
                        refine VL.open (m := ((l0_1.take i8885.toNat).drop 0).length) 2 lenm rfl (pos_get hx9616) ?_
                        rintro ad9617 n9618 rfl
                        refine VL.va (op_indexAddr Try.underlying33 TI23 rfl rfl c9615 (lt_get c9615 hx9616) rfl (ltn rfl)) rfl ?_
                        refine VL.va (op_load_row (sz := 5) (o := 0) 2 i9572.toNat 5 rfl rfl (get_map hx9616) TI23 rfl (fun h => absurd h (by decide)) (ltn rfl)) rfl ?_
                        refine VL.sG (o_alloc Z23 ZL23 (ltn rfl)) rfl ?_
                        intro g9619
                        refine VL.step1 (o_store 0 5 rfl rfl rfl TI23 (.agg (.of rfl)) rfl (len rfl)) rfl ?_
                        refine VL.done ?_
                        refine VN.then ?_
                        refine VC.seq ?_
                        refine VC.region ?_
                        refine VL.va (op_fieldAddr FI23_0 rfl (add_at _ _ _) (ltn rfl)) rfl ?_
                        refine VL.va (op_load 0 1 rfl rfl TI9 rfl (by decide) (ltn rfl)) rfl ?_
                        refine VL.va (op_fieldAddr FI23_0 rfl (add_at _ _ _) (ltn rfl)) rfl ?_
                        refine VL.va (op_load 1 1 rfl rfl TI9 rfl (by decide) (ltn rfl)) rfl ?_
                        refine VL.letter ((x9616.f0 == x9508.f0)) fun b9623 hb9623 => ?_
                        refine VL.va (op_cmps rfl rfl (congrArg some hb9623) (ltn rfl)) rfl ?_
                        refine VL.va (op_move rfl (ltn rfl)) rfl ?_
                        by_cases c9624 : (x9616.f0 == x9508.f0) = true
                        · rw [if_pos c9624] at h
                          obtain rfl : b9623 = true := hb9623.symm.trans (c9624)
                          refine VL.va (op_fieldAddr FI23_1 rfl (add_at _ _ _) (ltn rfl)) rfl ?_
                          refine VL.va (op_load 0 1 rfl rfl TI9 rfl (by decide) (ltn rfl)) rfl ?_
                          refine VL.va (op_fieldAddr FI23_1 rfl (add_at _ _ _) (ltn rfl)) rfl ?_
                          refine VL.va (op_load 1 1 rfl rfl TI9 rfl (by decide) (ltn rfl)) rfl ?_
                          refine VL.letter ((x9616.f1 == x9508.f1)) fun b9625 hb9625 => ?_
                          refine VL.va (op_cmps rfl rfl (congrArg some hb9625) (ltn rfl)) rfl ?_
                          refine VL.va (op_pick rfl rfl (ltn rfl)) rfl ?_
                          refine VL.done ?_
                          refine VN.then ?_
                          by_cases c9626 : (x9616.f1 == x9508.f1) = true
                          · rw [if_pos c9626] at h
                            obtain rfl : b9625 = true := hb9625.symm.trans (c9626)
                            refine VC.cond_t rfl ?_
                            refine VC.seq ?_
                            refine VC.region ?_
                            refine VL.va (op_assign rfl (ltn rfl)) rfl ?_
                            refine VL.done ?_
                            refine VN.then ?_
                            refine VC.ret ?_
                            refine VR.block ?_
                            refine VR.then ?_
                            refine VR.then ?_
                            refine VR.block ?_
                            refine VR.block ?_
                            refine VR.then ?_
                            refine VR.then ?_
                            refine VR.block ?_
                            refine VR.then ?_
                            obtain rfl := Option.some.inj h
                            exact VR.fn (rs := [.tmp 2]) [] [] [] rfl (.tmp rfl .nil) ⟨rfl, rfl, rfl⟩ trivial rfl (by decide)
                          · rw [if_neg c9626] at h
                            obtain rfl : b9625 = false := hb9625.symm.trans (Bool.eq_false_iff.2 c9626)
                            refine VC.cond_f rfl ?_
                            refine VC.skip ?_
                            refine VN.block ?_
                            refine VN.then ?_
                            refine VC.region ?_
                            refine VL.va (op_ari64 rfl rfl rfl (ltn rfl)) rfl ?_
                            refine VL.va (op_move rfl (ltn rfl)) rfl ?_
                            refine VL.done ?_
                            refine VN.again [1, 2] [] (ihl32 (wrap64 (i9572 + 1)) h) ⟨rfl, ⟨rfl, rfl, rfl, rfl, rfl, rfl, rfl, rfl, rfl, rfl, rfl, rfl, rfl, rfl, rfl, rfl, rfl, rfl, rfl, rfl, rfl, rfl, rfl, rfl, rfl, rfl, rfl, rfl, rfl, rfl, rfl, rfl, rfl, rfl, rfl, rfl, rfl, rfl, rfl, rfl, rfl, rfl, rfl, rfl, rfl, rfl, rfl, rfl, rfl, trivial⟩, ⟨⟨0, rfl⟩, ⟨1, rfl⟩, ⟨2, rfl⟩, trivial⟩, rfl, by decide, rfl, by decide⟩
                        · rw [if_neg c9624] at h
                          obtain rfl : b9623 = false := hb9623.symm.trans (Bool.eq_false_iff.2 c9624)
                          refine VL.un rfl rfl (ltn rfl) ?_
                          refine VL.un rfl rfl (ltn rfl) ?_
                          refine VL.un rfl rfl (ltn rfl) ?_
                          refine VL.un rfl rfl (ltn rfl) ?_
                          refine VL.un rfl rfl (ltn rfl) ?_
                          refine VL.va (op_pick rfl rfl (ltn rfl)) rfl ?_
                          refine VL.done ?_
                          refine VN.then ?_
                          refine VC.cond_f rfl ?_
                          refine VC.skip ?_
                          refine VN.block ?_
                          refine VN.then ?_
                          refine VC.region ?_
                          refine VL.va (op_ari64 rfl rfl rfl (ltn rfl)) rfl ?_
                          refine VL.va (op_move rfl (ltn rfl)) rfl ?_
                          refine VL.done ?_
                          refine VN.again [1, 2] [] (ihl32 (wrap64 (i9572 + 1)) h) ⟨rfl, ⟨rfl, rfl, rfl, rfl, rfl, rfl, rfl, rfl, rfl, rfl, rfl, rfl, rfl, rfl, rfl, rfl, rfl, rfl, rfl, rfl, rfl, rfl, rfl, rfl, rfl, rfl, rfl, rfl, rfl, rfl, rfl, rfl, rfl, rfl, rfl, rfl, rfl, rfl, rfl, rfl, rfl, rfl, rfl, rfl, rfl, rfl, rfl, rfl, rfl, trivial⟩, ⟨⟨0, rfl⟩, ⟨1, rfl⟩, ⟨2, rfl⟩, trivial⟩, rfl, by decide, rfl, by decide⟩
                      · rw [if_neg c9615] at h; cases h
                    · rw [if_neg c9602] at h
                      obtain rfl : b9600 = false := hb9600.symm.trans (decide_eq_false c9602)
                      refine VC.cond_f rfl ?_
                      refine VC.exit ?_
                      refine VX.then ?_
                      refine VX.then ?_
                      refine VX.hit ?_
                      refine VN.block ?_
                      refine VN.then ?_
                      refine VC.region ?_
                      refine VL.va (op_ari64 rfl rfl rfl (ltn rfl)) rfl ?_
                      refine VL.va (op_move rfl (ltn rfl)) rfl ?_
                      refine VL.done ?_
                      refine VN.again [1] [] (ihl29 (wrap64 (i8885 + 1)) h) ⟨rfl, ⟨rfl, rfl, rfl, rfl, rfl, trivial⟩, ⟨⟨0, rfl⟩, ⟨1, rfl⟩, trivial⟩, rfl, by decide, rfl, by decide⟩
                  · rw [if_neg c9544] at h; cases h
                · rw [if_neg c9543] at h
                  obtain rfl := Bool.eq_false_iff.2 c9543
                  refine VC.join0 (⟨111, [(1, .pointer (some ⟨g2473, 0, none⟩)), (2, .bool false), (5, .int .i64 i8885), (6, .pointer (some ⟨g9511, 0, none⟩)), (37, (.slice (some ad9509) l0_1.length n9510)), (38, .int .i64 (l0_1.length : Int)), (39, .int .i64 i8885), (40, .bool true), (41, .int .i64 i8885), (43, .agg #[.string x9508.f0, .string x9508.f1, .int .i64 x9508.f2, .int .i64 x9508.f3, .int .i64 x9508.f4]), (44, .agg #[.string x9508.f0, .string x9508.f1, .int .i64 x9508.f2, .int .i64 x9508.f3, .int .i64 x9508.f4]), (45, .bool true), (46, .bool false), (47, .bool false), (48, .pointer (some ⟨g2473, 0, none⟩)), (49, v0_0), (50, .pointer (some ⟨g9511, 0, none⟩)), (51, .string x9508.f0), (52, .bool true), (53, .bool false), (54, .bool false), (55, .bool false), (56, .pointer (some ⟨g2473, 0, none⟩)), (57, v0_0), (58, .pointer (some ⟨g9511, 1, none⟩)), (59, .string x9508.f1), (60, .bool true), (61, .bool false), (62, .bool false), (63, .bool false), (64, .int .i64 i8885), (65, .bool true), (66, .bool true), (67, .agg #[.string x9508.f0, .string x9508.f1, .int .i64 x9508.f2, .int .i64 x9508.f3, .int .i64 x9508.f4]), (68, .pointer (some ⟨g2473, 1, none⟩)), (69, (.slice (some ad9509) l0_1.length n9510)), (70, .int .i64 i8885), (71, .int .i64 (wrap64 (i8885 - 1))), (73, .agg #[.string x9540.f0, .string x9540.f1, .int .i64 x9540.f2, .int .i64 x9540.f3, .int .i64 x9540.f4]), (74, .bool false), (75, .bool true), (76, .bool true), (77, .bool true)], [.row (.slice (some ad9509) l0_1.length n9510) 5 (l0_1.map enc22), .row v0_0 1 (l0_0.map enc_str)], [(g9511, 23, [.string x9508.f0, .string x9508.f1, .int .i64 x9508.f2, .int .i64 x9508.f3, .int .i64 x9508.f4]), (g2473, 35, [v0_0, (.slice (some ad9509) l0_1.length n9510)])], []⟩) (True) ?_ ?_
                  · refine VC.draw ⟨0, [], [.row (.slice (some ad9509) l0_1.length n9510) 5 (l0_1.map enc22)], [(g9511, 23, [.string x9508.f0, .string x9508.f1, .int .i64 x9508.f2, .int .i64 x9508.f3, .int .i64 x9508.f4]), (g2473, 35, [v0_0, (.slice (some ad9509) l0_1.length n9510)])], []⟩ (by kernel_rfl) rfl (by kernel_rfl) (n := 34) (listed := LB 34 0) ?_
                    refine VA.va (i := 0) (listed' := LB 34 1) rfl (op_load 0 5 rfl rfl TI23 rfl (fun h => absurd h (by decide)) (ltn rfl)) rfl (by kernel_rfl) (by kernel_rfl) (by kernel_rfl) (by kernel_rfl) ⟨⟨⟨0, rfl⟩, trivial⟩, ⟨⟨0, rfl⟩, ⟨1, rfl⟩, trivial⟩, trivial⟩ (fun _ _ _ h => h) ?_
                    refine VA.oneC (i := 1) (listed' := LB 34 3) (by kernel_rfl) rfl (o_call0 FO8 (tarryref07_May.ok k x9508.f0 x9508.f1 x9508.f2 x9508.f3 x9508.f4 true hA9529) rfl rfl (ltn rfl) (All_of .nil)) rfl (by kernel_rfl) ?_
                    rintro _ _ _ ⟨rfl, rfl, rfl⟩
                    refine ⟨⟨⟨⟨0, rfl⟩, trivial⟩, ⟨⟨0, rfl⟩, ⟨1, rfl⟩, trivial⟩, trivial⟩, ?_⟩
                    refine VA.va (i := 2) (listed' := LB 34 7) rfl (op_not rfl rfl (ltn rfl)) rfl (by kernel_rfl) (by kernel_rfl) (by kernel_rfl) (by kernel_rfl) ⟨⟨⟨0, rfl⟩, trivial⟩, ⟨⟨0, rfl⟩, ⟨1, rfl⟩, trivial⟩, trivial⟩ (fun _ _ _ h => h) ?_
                    refine VA.va (i := 3) (listed' := LB 34 15) rfl (op_move rfl (ltn rfl)) rfl (by kernel_rfl) (by kernel_rfl) (by kernel_rfl) (by kernel_rfl) ⟨⟨⟨0, rfl⟩, trivial⟩, ⟨⟨0, rfl⟩, ⟨1, rfl⟩, trivial⟩, trivial⟩ (fun _ _ _ h => h) ?_
                    refine VA.va (i := 4) (listed' := LB 34 31) rfl (op_fieldAddr FI35_0 rfl (add_at _ _ _) (ltn rfl)) rfl (by kernel_rfl) (by kernel_rfl) (by kernel_rfl) (by kernel_rfl) ⟨⟨⟨0, rfl⟩, trivial⟩, ⟨⟨0, rfl⟩, ⟨1, rfl⟩, trivial⟩, trivial⟩ (fun _ _ _ h => h) ?_
                    refine VA.va (i := 5) (listed' := LB 34 63) rfl (op_load 1 1 rfl rfl TI32 rfl (by decide) (ltn rfl)) rfl (by kernel_rfl) (by kernel_rfl) (by kernel_rfl) (by kernel_rfl) ⟨⟨⟨0, rfl⟩, trivial⟩, ⟨⟨0, rfl⟩, ⟨1, rfl⟩, trivial⟩, trivial⟩ (fun _ _ _ h => h) ?_
                    refine VA.va (i := 6) (listed' := LB 34 127) rfl (op_fieldAddr FI23_0 rfl (add_at _ _ _) (ltn rfl)) rfl (by kernel_rfl) (by kernel_rfl) (by kernel_rfl) (by kernel_rfl) ⟨⟨⟨0, rfl⟩, trivial⟩, ⟨⟨0, rfl⟩, ⟨1, rfl⟩, trivial⟩, trivial⟩ (fun _ _ _ h => h) ?_
                    refine VA.va (i := 7) (listed' := LB 34 255) rfl (op_load 0 1 rfl rfl TI9 rfl (by decide) (ltn rfl)) rfl (by kernel_rfl) (by kernel_rfl) (by kernel_rfl) (by kernel_rfl) ⟨⟨⟨0, rfl⟩, trivial⟩, ⟨⟨0, rfl⟩, ⟨1, rfl⟩, trivial⟩, trivial⟩ (fun _ _ _ h => h) ?_
                    refine VA.oneC (i := 8) (listed' := LB 34 511) (by kernel_rfl) rfl (o_call0 FO19 (tarryref07_Has.ok k l0_0 x9508.f0 v0_0 true hA9532) rfl rfl (ltn rfl) (All_of (.cons (List.mem_of_getElem? (i := 1) rfl) .nil))) rfl (by kernel_rfl) ?_
                    rintro _ _ _ ⟨rfl, rfl, rfl⟩
                    refine ⟨⟨⟨⟨0, rfl⟩, trivial⟩, ⟨⟨0, rfl⟩, ⟨1, rfl⟩, trivial⟩, trivial⟩, ?_⟩
                    refine VA.va (i := 9) (listed' := LB 34 1023) rfl (op_not rfl rfl (ltn rfl)) rfl (by kernel_rfl) (by kernel_rfl) (by kernel_rfl) (by kernel_rfl) ⟨⟨⟨0, rfl⟩, trivial⟩, ⟨⟨0, rfl⟩, ⟨1, rfl⟩, trivial⟩, trivial⟩ (fun _ _ _ h => h) ?_
                    refine VA.va (i := 10) (listed' := LB 34 2047) rfl (op_pick rfl rfl (ltn rfl)) rfl (by kernel_rfl) (by kernel_rfl) (by kernel_rfl) (by kernel_rfl) ⟨⟨⟨0, rfl⟩, trivial⟩, ⟨⟨0, rfl⟩, ⟨1, rfl⟩, trivial⟩, trivial⟩ (fun _ _ _ h => h) ?_
                    refine VA.va (i := 11) (listed' := LB 34 4095) rfl (op_move rfl (ltn rfl)) rfl (by kernel_rfl) (by kernel_rfl) (by kernel_rfl) (by kernel_rfl) ⟨⟨⟨0, rfl⟩, trivial⟩, ⟨⟨0, rfl⟩, ⟨1, rfl⟩, trivial⟩, trivial⟩ (fun _ _ _ h => h) ?_
                    refine VA.va (i := 12) (listed' := LB 34 8191) rfl (op_fieldAddr FI35_0 rfl (add_at _ _ _) (ltn rfl)) rfl (by kernel_rfl) (by kernel_rfl) (by kernel_rfl) (by kernel_rfl) ⟨⟨⟨0, rfl⟩, trivial⟩, ⟨⟨0, rfl⟩, ⟨1, rfl⟩, trivial⟩, trivial⟩ (fun _ _ _ h => h) ?_
                    refine VA.va (i := 13) (listed' := LB 34 16383) rfl (op_load 1 1 rfl rfl TI32 rfl (by decide) (ltn rfl)) rfl (by kernel_rfl) (by kernel_rfl) (by kernel_rfl) (by kernel_rfl) ⟨⟨⟨0, rfl⟩, trivial⟩, ⟨⟨0, rfl⟩, ⟨1, rfl⟩, trivial⟩, trivial⟩ (fun _ _ _ h => h) ?_
                    refine VA.va (i := 14) (listed' := LB 34 32767) rfl (op_fieldAddr FI23_1 rfl (add_at _ _ _) (ltn rfl)) rfl (by kernel_rfl) (by kernel_rfl) (by kernel_rfl) (by kernel_rfl) ⟨⟨⟨0, rfl⟩, trivial⟩, ⟨⟨0, rfl⟩, ⟨1, rfl⟩, trivial⟩, trivial⟩ (fun _ _ _ h => h) ?_
                    refine VA.va (i := 15) (listed' := LB 34 65535) rfl (op_load 0 1 rfl rfl TI9 rfl (by decide) (ltn rfl)) rfl (by kernel_rfl) (by kernel_rfl) (by kernel_rfl) (by kernel_rfl) ⟨⟨⟨0, rfl⟩, trivial⟩, ⟨⟨0, rfl⟩, ⟨1, rfl⟩, trivial⟩, trivial⟩ (fun _ _ _ h => h) ?_
                    refine VA.oneC (i := 16) (listed' := LB 34 131071) (by kernel_rfl) rfl (o_call0 FO19 (tarryref07_Has.ok k l0_0 x9508.f1 v0_0 true hA9535) rfl rfl (ltn rfl) (All_of (.cons (List.mem_of_getElem? (i := 1) rfl) .nil))) rfl (by kernel_rfl) ?_
                    rintro _ _ _ ⟨rfl, rfl, rfl⟩
                    refine ⟨⟨⟨⟨0, rfl⟩, trivial⟩, ⟨⟨0, rfl⟩, ⟨1, rfl⟩, trivial⟩, trivial⟩, ?_⟩
                    refine VA.va (i := 17) (listed' := LB 34 262143) rfl (op_not rfl rfl (ltn rfl)) rfl (by kernel_rfl) (by kernel_rfl) (by kernel_rfl) (by kernel_rfl) ⟨⟨⟨0, rfl⟩, trivial⟩, ⟨⟨0, rfl⟩, ⟨1, rfl⟩, trivial⟩, trivial⟩ (fun _ _ _ h => h) ?_
                    refine VA.va (i := 18) (listed' := LB 34 524287) rfl (op_pick rfl rfl (ltn rfl)) rfl (by kernel_rfl) (by kernel_rfl) (by kernel_rfl) (by kernel_rfl) ⟨⟨⟨0, rfl⟩, trivial⟩, ⟨⟨0, rfl⟩, ⟨1, rfl⟩, trivial⟩, trivial⟩ (fun _ _ _ h => h) ?_
                    refine VA.va (i := 19) (listed' := LB 34 1048575) rfl (op_move rfl (ltn rfl)) rfl (by kernel_rfl) (by kernel_rfl) (by kernel_rfl) (by kernel_rfl) ⟨⟨⟨0, rfl⟩, trivial⟩, ⟨⟨0, rfl⟩, ⟨1, rfl⟩, trivial⟩, trivial⟩ (fun _ _ _ h => h) ?_
                    refine VA.va (i := 20) (listed' := LB 34 2097151) rfl (op_move rfl (ltn rfl)) rfl (by kernel_rfl) (by kernel_rfl) (by kernel_rfl) (by kernel_rfl) ⟨⟨⟨0, rfl⟩, trivial⟩, ⟨⟨0, rfl⟩, ⟨1, rfl⟩, trivial⟩, trivial⟩ (fun _ _ _ h => h) ?_
                    refine VA.va (i := 21) (listed' := LB 34 4194303) rfl (op_cmp rfl rfl (congrArg some hb9537) (ltn rfl)) rfl (by kernel_rfl) (by kernel_rfl) (by kernel_rfl) (by kernel_rfl) ⟨⟨⟨0, rfl⟩, trivial⟩, ⟨⟨0, rfl⟩, ⟨1, rfl⟩, trivial⟩, trivial⟩ (fun _ _ _ h => h) ?_
                    refine VA.va (i := 22) (listed' := LB 34 8388607) rfl (op_move rfl (ltn rfl)) rfl (by kernel_rfl) (by kernel_rfl) (by kernel_rfl) (by kernel_rfl) ⟨⟨⟨0, rfl⟩, trivial⟩, ⟨⟨0, rfl⟩, ⟨1, rfl⟩, trivial⟩, trivial⟩ (fun _ _ _ h => h) ?_
                    refine VA.va (i := 23) (listed' := LB 34 16777215) rfl (op_load 0 5 rfl rfl TI23 rfl (fun h => absurd h (by decide)) (ltn rfl)) rfl (by kernel_rfl) (by kernel_rfl) (by kernel_rfl) (by kernel_rfl) ⟨⟨⟨0, rfl⟩, trivial⟩, ⟨⟨0, rfl⟩, ⟨1, rfl⟩, trivial⟩, trivial⟩ (fun _ _ _ h => h) ?_
                    refine VA.va (i := 24) (listed' := LB 34 33554431) rfl (op_fieldAddr FI35_1 rfl (add_at _ _ _) (ltn rfl)) rfl (by kernel_rfl) (by kernel_rfl) (by kernel_rfl) (by kernel_rfl) ⟨⟨⟨0, rfl⟩, trivial⟩, ⟨⟨0, rfl⟩, ⟨1, rfl⟩, trivial⟩, trivial⟩ (fun _ _ _ h => h) ?_
                    refine VA.va (i := 25) (listed' := LB 34 67108863) rfl (op_load 1 1 rfl rfl TI33 rfl (by decide) (ltn rfl)) rfl (by kernel_rfl) (by kernel_rfl) (by kernel_rfl) (by kernel_rfl) ⟨⟨⟨0, rfl⟩, trivial⟩, ⟨⟨0, rfl⟩, ⟨1, rfl⟩, trivial⟩, trivial⟩ (fun _ _ _ h => h) ?_
                    refine VA.va (i := 26) (listed' := LB 34 134217727) rfl (op_move rfl (ltn rfl)) rfl (by kernel_rfl) (by kernel_rfl) (by kernel_rfl) (by kernel_rfl) ⟨⟨⟨0, rfl⟩, trivial⟩, ⟨⟨0, rfl⟩, ⟨1, rfl⟩, trivial⟩, trivial⟩ (fun _ _ _ h => h) ?_
                    refine VA.va (i := 27) (listed' := LB 34 268435455) rfl (op_ari64 rfl rfl rfl (ltn rfl)) rfl (by kernel_rfl) (by kernel_rfl) (by kernel_rfl) (by kernel_rfl) ⟨⟨⟨0, rfl⟩, trivial⟩, ⟨⟨0, rfl⟩, ⟨1, rfl⟩, trivial⟩, trivial⟩ (fun _ _ _ h => h) ?_
                    refine VA.va (i := 28) (listed' := LB 34 536870911) rfl (op_indexAddr Try.underlying33 TI23 rfl rfl c9539 (lt_get c9539 hx9540) rfl (ltn rfl)) rfl (by kernel_rfl) (by kernel_rfl) (by kernel_rfl) (by kernel_rfl) ⟨⟨⟨0, rfl⟩, trivial⟩, ⟨⟨0, rfl⟩, ⟨1, rfl⟩, trivial⟩, trivial⟩ (fun _ _ _ h => h) ?_
                    refine VA.va (i := 29) (listed' := LB 34 1073741823) rfl (op_load_row (sz := 5) (o := 0) 0 (wrap64 (i8885 - 1)).toNat 5 rfl rfl (get_map hx9540) TI23 rfl (fun h => absurd h (by decide)) (ltn rfl)) rfl (by kernel_rfl) (by kernel_rfl) (by kernel_rfl) (by kernel_rfl) ⟨⟨⟨0, rfl⟩, trivial⟩, ⟨⟨0, rfl⟩, ⟨1, rfl⟩, trivial⟩, trivial⟩ (fun _ _ _ h => h) ?_
                    refine VA.oneC (i := 30) (listed' := LB 34 2147483647) (by kernel_rfl) rfl (o_call0 FO42 (tarryref07_above.ok k x9508.f0 x9508.f1 x9508.f2 x9508.f3 x9508.f4 x9540.f0 x9540.f1 x9540.f2 x9540.f3 x9540.f4 false hA9542) rfl rfl (ltn rfl) (All_of .nil)) rfl (by kernel_rfl) ?_
                    rintro _ _ _ ⟨rfl, rfl, rfl⟩
                    refine ⟨⟨⟨⟨0, rfl⟩, trivial⟩, ⟨⟨0, rfl⟩, ⟨1, rfl⟩, trivial⟩, trivial⟩, ?_⟩
                    refine VA.va (i := 31) (listed' := LB 34 4294967295) rfl (op_not rfl rfl (ltn rfl)) rfl (by kernel_rfl) (by kernel_rfl) (by kernel_rfl) (by kernel_rfl) ⟨⟨⟨0, rfl⟩, trivial⟩, ⟨⟨0, rfl⟩, ⟨1, rfl⟩, trivial⟩, trivial⟩ (fun _ _ _ h => h) ?_
                    refine VA.va (i := 32) (listed' := LB 34 8589934591) rfl (op_pick rfl rfl (ltn rfl)) rfl (by kernel_rfl) (by kernel_rfl) (by kernel_rfl) (by kernel_rfl) ⟨⟨⟨0, rfl⟩, trivial⟩, ⟨⟨0, rfl⟩, ⟨1, rfl⟩, trivial⟩, trivial⟩ (fun _ _ _ h => h) ?_
                    refine VA.va (i := 33) (listed' := LB 34 17179869183) rfl (op_pick rfl rfl (ltn rfl)) rfl (by kernel_rfl) (by kernel_rfl) (by kernel_rfl) (by kernel_rfl) ⟨⟨⟨0, rfl⟩, trivial⟩, ⟨⟨0, rfl⟩, ⟨1, rfl⟩, trivial⟩, trivial⟩ (fun _ _ _ h => h) ?_
                    refine VA.done (by kernel_rfl) ?_
                    exact VN.meet0  [0, 1] [] trivial ⟨rfl, ⟨rfl, rfl, rfl, rfl, rfl, rfl, rfl, rfl, rfl, rfl, rfl, rfl, rfl, rfl, rfl, rfl, rfl, rfl, rfl, rfl, rfl, rfl, rfl, rfl, rfl, rfl, rfl, rfl, rfl, rfl, rfl, rfl, rfl, rfl, rfl, rfl, rfl, rfl, rfl, rfl, rfl, rfl, rfl, trivial⟩, ⟨⟨0, rfl⟩, ⟨1, rfl⟩, trivial⟩, rfl, by decide, rfl, by decide⟩
                  intro _
                  refine VC.cond_t rfl ?_
                  refine VC.seq ?_
                  refine VC.region ?_
                  refine VL.va (op_assign rfl (ltn rfl)) rfl ?_
                  refine VL.done ?_
                  refine VN.then ?_
                  refine VC.ret ?_
                  refine VR.then ?_
                  refine VR.block ?_
                  refine VR.then ?_
                  refine VR.then ?_
                  refine VR.block ?_
                  refine VR.then ?_
                  obtain rfl := Option.some.inj h
                  exact VR.fn (rs := [.tmp 2]) [] [] [] rfl (.tmp rfl .nil) ⟨rfl, rfl, rfl⟩ trivial rfl (by decide)
              · rw [if_neg c9539] at h; cases h
            · rw [if_neg c9538] at h
              obtain rfl : b9537 = false := hb9537.symm.trans (decide_eq_false c9538)
              refine VC.join0 (⟨111, [(1, .pointer (some ⟨g2473, 0, none⟩)), (2, .bool false), (5, .int .i64 i8885), (6, .pointer (some ⟨g9511, 0, none⟩)), (37, (.slice (some ad9509) l0_1.length n9510)), (38, .int .i64 (l0_1.length : Int)), (39, .int .i64 i8885), (40, .bool true), (41, .int .i64 i8885), (43, .agg #[.string x9508.f0, .string x9508.f1, .int .i64 x9508.f2, .int .i64 x9508.f3, .int .i64 x9508.f4]), (44, .agg #[.string x9508.f0, .string x9508.f1, .int .i64 x9508.f2, .int .i64 x9508.f3, .int .i64 x9508.f4]), (45, .bool true), (46, .bool false), (47, .bool false), (48, .pointer (some ⟨g2473, 0, none⟩)), (49, v0_0), (50, .pointer (some ⟨g9511, 0, none⟩)), (51, .string x9508.f0), (52, .bool true), (53, .bool false), (54, .bool false), (55, .bool false), (56, .pointer (some ⟨g2473, 0, none⟩)), (57, v0_0), (58, .pointer (some ⟨g9511, 1, none⟩)), (59, .string x9508.f1), (60, .bool true), (61, .bool false), (62, .bool false), (63, .bool false), (64, .int .i64 i8885), (65, .bool false), (66, .bool false), (67, undef), (68, undef), (69, undef), (70, undef), (71, undef), (72, undef), (73, undef), (74, undef), (75, undef), (76, .bool false), (77, .bool false)], [.row (.slice (some ad9509) l0_1.length n9510) 5 (l0_1.map enc22), .row v0_0 1 (l0_0.map enc_str)], [(g9511, 23, [.string x9508.f0, .string x9508.f1, .int .i64 x9508.f2, .int .i64 x9508.f3, .int .i64 x9508.f4]), (g2473, 35, [v0_0, (.slice (some ad9509) l0_1.length n9510)])], []⟩) (True) ?_ ?_
              · refine VC.draw ⟨0, [], [], [(g9511, 23, [.string x9508.f0, .string x9508.f1, .int .i64 x9508.f2, .int .i64 x9508.f3, .int .i64 x9508.f4]), (g2473, 35, [v0_0, (.slice (some ad9509) l0_1.length n9510)])], []⟩ (by kernel_rfl) rfl (by kernel_rfl) (n := 34) (listed := LB 34 0) ?_
                refine VA.va (i := 0) (listed' := LB 34 1) rfl (op_load 0 5 rfl rfl TI23 rfl (fun h => absurd h (by decide)) (ltn rfl)) rfl (by kernel_rfl) (by kernel_rfl) (by kernel_rfl) (by kernel_rfl) ⟨trivial, ⟨⟨0, rfl⟩, ⟨1, rfl⟩, trivial⟩, trivial⟩ (fun _ _ _ h => h) ?_
                refine VA.oneC (i := 1) (listed' := LB 34 3) (by kernel_rfl) rfl (o_call0 FO8 (tarryref07_May.ok k x9508.f0 x9508.f1 x9508.f2 x9508.f3 x9508.f4 true hA9529) rfl rfl (ltn rfl) (All_of .nil)) rfl (by kernel_rfl) ?_
                rintro _ _ _ ⟨rfl, rfl, rfl⟩
                refine ⟨⟨trivial, ⟨⟨0, rfl⟩, ⟨1, rfl⟩, trivial⟩, trivial⟩, ?_⟩
                refine VA.va (i := 2) (listed' := LB 34 7) rfl (op_not rfl rfl (ltn rfl)) rfl (by kernel_rfl) (by kernel_rfl) (by kernel_rfl) (by kernel_rfl) ⟨trivial, ⟨⟨0, rfl⟩, ⟨1, rfl⟩, trivial⟩, trivial⟩ (fun _ _ _ h => h) ?_
                refine VA.va (i := 3) (listed' := LB 34 15) rfl (op_move rfl (ltn rfl)) rfl (by kernel_rfl) (by kernel_rfl) (by kernel_rfl) (by kernel_rfl) ⟨trivial, ⟨⟨0, rfl⟩, ⟨1, rfl⟩, trivial⟩, trivial⟩ (fun _ _ _ h => h) ?_
                refine VA.va (i := 4) (listed' := LB 34 31) rfl (op_fieldAddr FI35_0 rfl (add_at _ _ _) (ltn rfl)) rfl (by kernel_rfl) (by kernel_rfl) (by kernel_rfl) (by kernel_rfl) ⟨trivial, ⟨⟨0, rfl⟩, ⟨1, rfl⟩, trivial⟩, trivial⟩ (fun _ _ _ h => h) ?_
                refine VA.va (i := 5) (listed' := LB 34 63) rfl (op_load 1 1 rfl rfl TI32 rfl (by decide) (ltn rfl)) rfl (by kernel_rfl) (by kernel_rfl) (by kernel_rfl) (by kernel_rfl) ⟨trivial, ⟨⟨0, rfl⟩, ⟨1, rfl⟩, trivial⟩, trivial⟩ (fun _ _ _ h => h) ?_
                refine VA.va (i := 6) (listed' := LB 34 127) rfl (op_fieldAddr FI23_0 rfl (add_at _ _ _) (ltn rfl)) rfl (by kernel_rfl) (by kernel_rfl) (by kernel_rfl) (by kernel_rfl) ⟨trivial, ⟨⟨0, rfl⟩, ⟨1, rfl⟩, trivial⟩, trivial⟩ (fun _ _ _ h => h) ?_
                refine VA.va (i := 7) (listed' := LB 34 255) rfl (op_load 0 1 rfl rfl TI9 rfl (by decide) (ltn rfl)) rfl (by kernel_rfl) (by kernel_rfl) (by kernel_rfl) (by kernel_rfl) ⟨trivial, ⟨⟨0, rfl⟩, ⟨1, rfl⟩, trivial⟩, trivial⟩ (fun _ _ _ h => h) ?_
                refine VA.oneC (i := 8) (listed' := LB 34 511) (by kernel_rfl) rfl (o_call0 FO19 (tarryref07_Has.ok k l0_0 x9508.f0 v0_0 true hA9532) rfl rfl (ltn rfl) (All_of (.cons (List.mem_of_getElem? (i := 1) rfl) .nil))) rfl (by kernel_rfl) ?_
                rintro _ _ _ ⟨rfl, rfl, rfl⟩
                refine ⟨⟨trivial, ⟨⟨0, rfl⟩, ⟨1, rfl⟩, trivial⟩, trivial⟩, ?_⟩
                refine VA.va (i := 9) (listed' := LB 34 1023) rfl (op_not rfl rfl (ltn rfl)) rfl (by kernel_rfl) (by kernel_rfl) (by kernel_rfl) (by kernel_rfl) ⟨trivial, ⟨⟨0, rfl⟩, ⟨1, rfl⟩, trivial⟩, trivial⟩ (fun _ _ _ h => h) ?_
                refine VA.va (i := 10) (listed' := LB 34 2047) rfl (op_pick rfl rfl (ltn rfl)) rfl (by kernel_rfl) (by kernel_rfl) (by kernel_rfl) (by kernel_rfl) ⟨trivial, ⟨⟨0, rfl⟩, ⟨1, rfl⟩, trivial⟩, trivial⟩ (fun _ _ _ h => h) ?_
                refine VA.va (i := 11) (listed' := LB 34 4095) rfl (op_move rfl (ltn rfl)) rfl (by kernel_rfl) (by kernel_rfl) (by kernel_rfl) (by kernel_rfl) ⟨trivial, ⟨⟨0, rfl⟩, ⟨1, rfl⟩, trivial⟩, trivial⟩ (fun _ _ _ h => h) ?_
                refine VA.va (i := 12) (listed' := LB 34 8191) rfl (op_fieldAddr FI35_0 rfl (add_at _ _ _) (ltn rfl)) rfl (by kernel_rfl) (by kernel_rfl) (by kernel_rfl) (by kernel_rfl) ⟨trivial, ⟨⟨0, rfl⟩, ⟨1, rfl⟩, trivial⟩, trivial⟩ (fun _ _ _ h => h) ?_
                refine VA.va (i := 13) (listed' := LB 34 16383) rfl (op_load 1 1 rfl rfl TI32 rfl (by decide) (ltn rfl)) rfl (by kernel_rfl) (by kernel_rfl) (by kernel_rfl) (by kernel_rfl) ⟨trivial, ⟨⟨0, rfl⟩, ⟨1, rfl⟩, trivial⟩, trivial⟩ (fun _ _ _ h => h) ?_
                refine VA.va (i := 14) (listed' := LB 34 32767) rfl (op_fieldAddr FI23_1 rfl (add_at _ _ _) (ltn rfl)) rfl (by kernel_rfl) (by kernel_rfl) (by kernel_rfl) (by kernel_rfl) ⟨trivial, ⟨⟨0, rfl⟩, ⟨1, rfl⟩, trivial⟩, trivial⟩ (fun _ _ _ h => h) ?_
                refine VA.va (i := 15) (listed' := LB 34 65535) rfl (op_load 0 1 rfl rfl TI9 rfl (by decide) (ltn rfl)) rfl (by kernel_rfl) (by kernel_rfl) (by kernel_rfl) (by kernel_rfl) ⟨trivial, ⟨⟨0, rfl⟩, ⟨1, rfl⟩, trivial⟩, trivial⟩ (fun _ _ _ h => h) ?_
                refine VA.oneC (i := 16) (listed' := LB 34 131071) (by kernel_rfl) rfl (o_call0 FO19 (tarryref07_Has.ok k l0_0 x9508.f1 v0_0 true hA9535) rfl rfl (ltn rfl) (All_of (.cons (List.mem_of_getElem? (i := 1) rfl) .nil))) rfl (by kernel_rfl) ?_
                rintro _ _ _ ⟨rfl, rfl, rfl⟩
                refine ⟨⟨trivial, ⟨⟨0, rfl⟩, ⟨1, rfl⟩, trivial⟩, trivial⟩, ?_⟩
                refine VA.va (i := 17) (listed' := LB 34 262143) rfl (op_not rfl rfl (ltn rfl)) rfl (by kernel_rfl) (by kernel_rfl) (by kernel_rfl) (by kernel_rfl) ⟨trivial, ⟨⟨0, rfl⟩, ⟨1, rfl⟩, trivial⟩, trivial⟩ (fun _ _ _ h => h) ?_
                refine VA.va (i := 18) (listed' := LB 34 524287) rfl (op_pick rfl rfl (ltn rfl)) rfl (by kernel_rfl) (by kernel_rfl) (by kernel_rfl) (by kernel_rfl) ⟨trivial, ⟨⟨0, rfl⟩, ⟨1, rfl⟩, trivial⟩, trivial⟩ (fun _ _ _ h => h) ?_
                refine VA.va (i := 19) (listed' := LB 34 1048575) rfl (op_move rfl (ltn rfl)) rfl (by kernel_rfl) (by kernel_rfl) (by kernel_rfl) (by kernel_rfl) ⟨trivial, ⟨⟨0, rfl⟩, ⟨1, rfl⟩, trivial⟩, trivial⟩ (fun _ _ _ h => h) ?_
                refine VA.va (i := 20) (listed' := LB 34 2097151) rfl (op_move rfl (ltn rfl)) rfl (by kernel_rfl) (by kernel_rfl) (by kernel_rfl) (by kernel_rfl) ⟨trivial, ⟨⟨0, rfl⟩, ⟨1, rfl⟩, trivial⟩, trivial⟩ (fun _ _ _ h => h) ?_
                refine VA.va (i := 21) (listed' := LB 34 4194303) rfl (op_cmp rfl rfl (congrArg some hb9537) (ltn rfl)) rfl (by kernel_rfl) (by kernel_rfl) (by kernel_rfl) (by kernel_rfl) ⟨trivial, ⟨⟨0, rfl⟩, ⟨1, rfl⟩, trivial⟩, trivial⟩ (fun _ _ _ h => h) ?_
                refine VA.va (i := 22) (listed' := LB 34 8388607) rfl (op_move rfl (ltn rfl)) rfl (by kernel_rfl) (by kernel_rfl) (by kernel_rfl) (by kernel_rfl) ⟨trivial, ⟨⟨0, rfl⟩, ⟨1, rfl⟩, trivial⟩, trivial⟩ (fun _ _ _ h => h) ?_
                refine VA.un (i := 23) (listed' := LB 34 16777215) rfl rfl rfl (ltn rfl) (by kernel_rfl) (by kernel_rfl) (by kernel_rfl) (by kernel_rfl) ⟨trivial, ⟨⟨0, rfl⟩, ⟨1, rfl⟩, trivial⟩, trivial⟩ (fun _ _ _ h => h) ?_
                refine VA.un (i := 24) (listed' := LB 34 33554431) rfl rfl rfl (ltn rfl) (by kernel_rfl) (by kernel_rfl) (by kernel_rfl) (by kernel_rfl) ⟨trivial, ⟨⟨0, rfl⟩, ⟨1, rfl⟩, trivial⟩, trivial⟩ (fun _ _ _ h => h) ?_
                refine VA.un (i := 25) (listed' := LB 34 67108863) rfl rfl rfl (ltn rfl) (by kernel_rfl) (by kernel_rfl) (by kernel_rfl) (by kernel_rfl) ⟨trivial, ⟨⟨0, rfl⟩, ⟨1, rfl⟩, trivial⟩, trivial⟩ (fun _ _ _ h => h) ?_
                refine VA.un (i := 26) (listed' := LB 34 134217727) rfl rfl rfl (ltn rfl) (by kernel_rfl) (by kernel_rfl) (by kernel_rfl) (by kernel_rfl) ⟨trivial, ⟨⟨0, rfl⟩, ⟨1, rfl⟩, trivial⟩, trivial⟩ (fun _ _ _ h => h) ?_
                refine VA.un (i := 27) (listed' := LB 34 268435455) rfl rfl rfl (ltn rfl) (by kernel_rfl) (by kernel_rfl) (by kernel_rfl) (by kernel_rfl) ⟨trivial, ⟨⟨0, rfl⟩, ⟨1, rfl⟩, trivial⟩, trivial⟩ (fun _ _ _ h => h) ?_
                refine VA.un (i := 28) (listed' := LB 34 536870911) rfl rfl rfl (ltn rfl) (by kernel_rfl) (by kernel_rfl) (by kernel_rfl) (by kernel_rfl) ⟨trivial, ⟨⟨0, rfl⟩, ⟨1, rfl⟩, trivial⟩, trivial⟩ (fun _ _ _ h => h) ?_
                refine VA.un (i := 29) (listed' := LB 34 1073741823) rfl rfl rfl (ltn rfl) (by kernel_rfl) (by kernel_rfl) (by kernel_rfl) (by kernel_rfl) ⟨trivial, ⟨⟨0, rfl⟩, ⟨1, rfl⟩, trivial⟩, trivial⟩ (fun _ _ _ h => h) ?_
                refine VA.un (i := 30) (listed' := LB 34 2147483647) rfl rfl rfl (ltn rfl) (by kernel_rfl) (by kernel_rfl) (by kernel_rfl) (by kernel_rfl) ⟨trivial, ⟨⟨0, rfl⟩, ⟨1, rfl⟩, trivial⟩, trivial⟩ (fun _ _ _ h => h) ?_
                refine VA.un (i := 31) (listed' := LB 34 4294967295) rfl rfl rfl (ltn rfl) (by kernel_rfl) (by kernel_rfl) (by kernel_rfl) (by kernel_rfl) ⟨trivial, ⟨⟨0, rfl⟩, ⟨1, rfl⟩, trivial⟩, trivial⟩ (fun _ _ _ h => h) ?_
                refine VA.va (i := 32) (listed' := LB 34 8589934591) rfl (op_pick rfl rfl (ltn rfl)) rfl (by kernel_rfl) (by kernel_rfl) (by kernel_rfl) (by kernel_rfl) ⟨trivial, ⟨⟨0, rfl⟩, ⟨1, rfl⟩, trivial⟩, trivial⟩ (fun _ _ _ h => h) ?_
                refine VA.va (i := 33) (listed' := LB 34 17179869183) rfl (op_pick rfl rfl (ltn rfl)) rfl (by kernel_rfl) (by kernel_rfl) (by kernel_rfl) (by kernel_rfl) ⟨trivial, ⟨⟨0, rfl⟩, ⟨1, rfl⟩, trivial⟩, trivial⟩ (fun _ _ _ h => h) ?_
                refine VA.done (by kernel_rfl) ?_
                exact VN.meet0  [0, 1] [] trivial ⟨rfl, ⟨rfl, rfl, rfl, rfl, rfl, rfl, rfl, rfl, rfl, rfl, rfl, rfl, rfl, rfl, rfl, rfl, rfl, rfl, rfl, rfl, rfl, rfl, rfl, rfl, rfl, rfl, rfl, rfl, rfl, rfl, rfl, rfl, rfl, rfl, rfl, rfl, rfl, rfl, rfl, rfl, rfl, rfl, rfl, rfl, trivial⟩, ⟨⟨0, rfl⟩, ⟨1, rfl⟩, trivial⟩, rfl, by decide, rfl, by decide⟩
              intro _
              refine VC.cond_f rfl ?_
              refine VC.skip ?_
              refine VN.then ?_
              refine VC.seq ?_
              refine VC.region ?_
              refine VL.va (op_fieldAddr FI35_1 rfl (add_at _ _ _) (ltn rfl)) rfl ?_
              refine VL.va (op_load 1 1 rfl rfl TI33 rfl (by decide) (ltn rfl)) rfl ?_
              refine VL.va (op_move rfl (ltn rfl)) rfl ?_
              by_cases c9627 : i8885 ≤ (l0_1.length : Int)
              · rw [if_pos c9627] at h
                refine VL.sG (o_slice (m := l0_1.length) 0 0 i8885.toNat lenm cutm Try.underlying33 TI23 rfl rfl ⟨rfl, ⟨_, _, rfl, c9507, rfl⟩, by omega, by omega⟩ (ltn rfl)) rfl ?_
                intro v9629
                refine VL.va (op_len (m := ((l0_1.take i8885.toNat).drop 0).length) 0 lenm Try.underlying33 rfl rfl (ltn rfl)) rfl ?_
                refine VL.va (op_move rfl (ltn rfl)) rfl ?_
                refine VL.done ?_
                refine VN.then ?_
                refine VC.block ?_
                refine VC.loop1 (fun (i9655 : Int) => ⟨111, [(1, .pointer (some ⟨g2473, 0, none⟩)), (2, .bool false), (5, .int .i64 i8885), (6, .pointer (some ⟨g9511, 0, none⟩)), (37, (.slice (some ad9509) l0_1.length n9510)), (38, .int .i64 (l0_1.length : Int)), (39, .int .i64 i8885), (40, .bool true), (41, .int .i64 i8885), (43, .agg #[.string x9508.f0, .string x9508.f1, .int .i64 x9508.f2, .int .i64 x9508.f3, .int .i64 x9508.f4]), (44, .agg #[.string x9508.f0, .string x9508.f1, .int .i64 x9508.f2, .int .i64 x9508.f3, .int .i64 x9508.f4]), (45, .bool true), (46, .bool false), (47, .bool false), (48, .pointer (some ⟨g2473, 0, none⟩)), (49, v0_0), (50, .pointer (some ⟨g9511, 0, none⟩)), (51, .string x9508.f0), (52, .bool true), (53, .bool false), (54, .bool false), (55, .bool false), (56, .pointer (some ⟨g2473, 0, none⟩)), (57, v0_0), (58, .pointer (some ⟨g9511, 1, none⟩)), (59, .string x9508.f1), (60, .bool true), (61, .bool false), (62, .bool false), (63, .bool false), (64, .int .i64 i8885), (65, .bool false), (66, .bool false), (67, undef), (68, undef), (69, undef), (70, undef), (71, undef), (72, undef), (73, undef), (74, undef), (75, undef), (76, .bool false), (77, .bool false), (78, .pointer (some ⟨g2473, 1, none⟩)), (79, (.slice (some ad9509) l0_1.length n9510)), (80, .int .i64 i8885), (81, v9629), (82, .int .i64 (((l0_1.take i8885.toNat).drop 0).length : Int)), (83, .int .i64 i9655)], [.row (.slice (some ad9509) l0_1.length n9510) 5 (l0_1.map enc22), .row v0_0 1 (l0_0.map enc_str), .row v9629 5 (((l0_1.take i8885.toNat).drop 0).map enc22)], [(g9511, 23, [.string x9508.f0, .string x9508.f1, .int .i64 x9508.f2, .int .i64 x9508.f3, .int .i64 x9508.f4]), (g2473, 35, [v0_0, (.slice (some ad9509) l0_1.length n9510)])], []⟩) (fun (ml33 : Nat) (i9655 : Int) => tarryref07_Right.l33 k (tarryref07_Right.l29 k l0_0 l0_1 ml29) i8885 l0_1 x9508 ml33 i9655 = some r1) k 0 [0, 1] [] h ⟨rfl, ⟨rfl, rfl, rfl, rfl, rfl, rfl, rfl, rfl, rfl, rfl, rfl, rfl, rfl, rfl, rfl, rfl, rfl, rfl, rfl, rfl, rfl, rfl, rfl, rfl, rfl, rfl, rfl, rfl, rfl, rfl, rfl, rfl, rfl, rfl, rfl, rfl, rfl, rfl, rfl, rfl, rfl, rfl, rfl, rfl, rfl, rfl, rfl, rfl, rfl, rfl, trivial⟩, ⟨⟨1, rfl⟩, ⟨2, rfl⟩, ⟨0, rfl⟩, trivial⟩, rfl, by decide, rfl, by decide⟩ (by intros; simp [tarryref07_Right.l33]) ?_
                clear h
                intro ml33 ihl33 i9655 h
                simp only [tarryref07_Right.l33] at h
                refine VC.seq ?_
                refine VC.region ?_
                refine VL.letter (decide (i9655 < (((l0_1.take i8885.toNat).drop 0).length : Int))) fun b9683 hb9683 => ?_
                refine VL.va (op_cmp rfl rfl (congrArg some hb9683) (ltn rfl)) rfl ?_
                refine VL.done ?_
                refine VN.then ?_
                refine VC.seq ?_
                by_cases c9685 : i9655 < (((l0_1.take i8885.toNat).drop 0).length : Int)
                · rw [if_pos c9685] at h
                  obtain rfl : b9683 = true := hb9683.symm.trans (decide_eq_true c9685)
                  refine VC.cond_t rfl ?_
                  refine VC.skip ?_
                  refine VN.then ?_
                  refine VC.seq ?_
                  refine VC.block ?_
                  refine VC.seq ?_
                  refine VC.region ?_
                  by_cases c9698 : 0 ≤ i9655
                  · rw [if_pos c9698] at h
                    replace h := Option.bind_eq_some_iff.1 h
                    obtain ⟨x9699, hx9699, h⟩ := h
                    refine VL.open (m := ((l0_1.take i8885.toNat).drop 0).length) 2 lenm rfl (pos_get hx9699) ?_
                    rintro ad9700 n9701 rfl
                    refine VL.va (op_indexAddr Try.underlying33 TI23 rfl rfl c9698 (lt_get c9698 hx9699) rfl (ltn rfl)) rfl ?_
                    refine VL.va (op_load_row (sz := 5) (o := 0) 2 i9655.toNat 5 rfl rfl (get_map hx9699) TI23 rfl (fun h => absurd h (by decide)) (ltn rfl)) rfl ?_
                    refine VL.sG (o_alloc Z23 ZL23 (ltn rfl)) rfl ?_
                    intro g9702
                    refine VL.step1 (o_store 0 5 rfl rfl rfl TI23 (.agg (.of rfl)) rfl (len rfl)) rfl ?_
                    refine VL.done ?_
                    refine VN.then ?_
                    refine VC.seq ?_
                    refine VC.region ?_
                    refine VL.va (op_fieldAddr FI23_0 rfl (add_at _ _ _) (ltn rfl)) rfl ?_
                    refine VL.va (op_load 0 1 rfl rfl TI9 rfl (by decide) (ltn rfl)) rfl ?_
                    refine VL.va (op_fieldAddr FI23_0 rfl (add_at _ _ _) (ltn rfl)) rfl ?_
                    refine VL.va (op_load 1 1 rfl rfl TI9 rfl (by decide) (ltn rfl)) rfl ?_
                    refine VL.letter ((x9699.f0 == x9508.f0)) fun b9706 hb9706 => ?_
                    refine VL.va (op_cmps rfl rfl (congrArg some hb9706) (ltn rfl)) rfl ?_
                    refine VL.va (op_move rfl (ltn rfl)) rfl ?_
                    by_cases c9707 : (x9699.f0 == x9508.f0) = true
                    · rw [if_pos c9707] at h
                      obtain rfl : b9706 = true := hb9706.symm.trans (c9707)
                      refine VL.va (op_fieldAddr FI23_1 rfl (add_at _ _ _) (ltn rfl)) rfl ?_
                      refine VL.va (op_load 0 1 rfl rfl TI9 rfl (by decide) (ltn rfl)) rfl ?_
                      refine VL.va (op_fieldAddr FI23_1 rfl (add_at _ _ _) (ltn rfl)) rfl ?_
                      refine VL.va (op_load 1 1 rfl rfl TI9 rfl (by decide) (ltn rfl)) rfl ?_
                      refine VL.letter ((x9699.f1 == x9508.f1)) fun b9708 hb9708 => ?_
                      refine VL.va (op_cmps rfl rfl (congrArg some hb9708) (ltn rfl)) rfl ?_
                      refine VL.va (op_pick rfl rfl (ltn rfl)) rfl ?_
                      refine VL.done ?_
                      refine VN.then ?_
                      by_cases c9709 : (x9699.f1 == x9508.f1) = true
                      · rw [if_pos c9709] at h
                        obtain rfl : b9708 = true := hb9708.symm.trans (c9709)
                        refine VC.cond_t rfl ?_
                        refine VC.seq ?_
                        refine VC.region ?_
                        refine VL.va (op_assign rfl (ltn rfl)) rfl ?_
                        refine VL.done ?_
                        refine VN.then ?_
                        refine VC.ret ?_
                        refine VR.block ?_
                        refine VR.then ?_
                        refine VR.then ?_
                        refine VR.block ?_
                        refine VR.block ?_
                        refine VR.then ?_
                        refine VR.then ?_
                        refine VR.block ?_
                        refine VR.then ?_
                        obtain rfl := Option.some.inj h
                        exact VR.fn (rs := [.tmp 2]) [] [] [] rfl (.tmp rfl .nil) ⟨rfl, rfl, rfl⟩ trivial rfl (by decide)
                      · rw [if_neg c9709] at h
                        obtain rfl : b9708 = false := hb9708.symm.trans (Bool.eq_false_iff.2 c9709)
                        refine VC.cond_f rfl ?_
                        refine VC.skip ?_
                        refine VN.block ?_
                        refine VN.then ?_
                        refine VC.region ?_
                        refine VL.va (op_ari64 rfl rfl rfl (ltn rfl)) rfl ?_
                        refine VL.va (op_move rfl (ltn rfl)) rfl ?_
                        refine VL.done ?_
                        refine VN.again [1, 2] [] (ihl33 (wrap64 (i9655 + 1)) h) ⟨rfl, ⟨rfl, rfl, rfl, rfl, rfl, rfl, rfl, rfl, rfl, rfl, rfl, rfl, rfl, rfl, rfl, rfl, rfl, rfl, rfl, rfl, rfl, rfl, rfl, rfl, rfl, rfl, rfl, rfl, rfl, rfl, rfl, rfl, rfl, rfl, rfl, rfl, rfl, rfl, rfl, rfl, rfl, rfl, rfl, rfl, rfl, rfl, rfl, rfl, rfl, rfl, trivial⟩, ⟨⟨0, rfl⟩, ⟨1, rfl⟩, ⟨2, rfl⟩, trivial⟩, rfl, by decide, rfl, by decide⟩
                    · rw [if_neg c9707] at h
                      obtain rfl : b9706 = false := hb9706.symm.trans (Bool.eq_false_iff.2 c9707)
                      refine VL.un rfl rfl (ltn rfl) ?_
                      refine VL.un rfl rfl (ltn rfl) ?_
                      refine VL.un rfl rfl (ltn rfl) ?_
                      refine VL.un rfl rfl (ltn rfl) ?_
                      refine VL.un rfl rfl (ltn rfl) ?_
                      refine VL.va (op_pick rfl rfl (ltn rfl)) rfl ?_
                      refine VL.done ?_
                      refine VN.then ?_
                      refine VC.cond_f rfl ?_
                      refine VC.skip ?_
                      refine VN.block ?_
                      refine VN.then ?_
                      refine VC.region ?_
                      refine VL.va (op_ari64 rfl rfl rfl (ltn rfl)) rfl ?_
                      refine VL.va (op_move rfl (ltn rfl)) rfl ?_
                      refine VL.done ?_
                      refine VN.again [1, 2] [] (ihl33 (wrap64 (i9655 + 1)) h) ⟨rfl, ⟨rfl, rfl, rfl, rfl, rfl, rfl, rfl, rfl, rfl, rfl, rfl, rfl, rfl, rfl, rfl, rfl, rfl, rfl, rfl, rfl, rfl, rfl, rfl, rfl, rfl, rfl, rfl, rfl, rfl, rfl, rfl, rfl, rfl, rfl, rfl, rfl, rfl, rfl, rfl, rfl, rfl, rfl, rfl, rfl, rfl, rfl, rfl, rfl, rfl, rfl, trivial⟩, ⟨⟨0, rfl⟩, ⟨1, rfl⟩, ⟨2, rfl⟩, trivial⟩, rfl, by decide, rfl, by decide⟩
                  · rw [if_neg c9698] at h; cases h
                · rw [if_neg c9685] at h
                  obtain rfl : b9683 = false := hb9683.symm.trans (decide_eq_false c9685)
                  refine VC.cond_f rfl ?_
                  refine VC.exit ?_
                  refine VX.then ?_
                  refine VX.then ?_
                  refine VX.hit ?_
                  refine VN.block ?_
                  refine VN.then ?_
                  refine VC.region ?_
                  refine VL.va (op_ari64 rfl rfl rfl (ltn rfl)) rfl ?_
                  refine VL.va (op_move rfl (ltn rfl)) rfl ?_
                  refine VL.done ?_
                  refine VN.again [1] [] (ihl29 (wrap64 (i8885 + 1)) h) ⟨rfl, ⟨rfl, rfl, rfl, rfl, rfl, trivial⟩, ⟨⟨0, rfl⟩, ⟨1, rfl⟩, trivial⟩, rfl, by decide, rfl, by decide⟩
              · rw [if_neg c9627] at h; cases h
          · rw [if_neg c9536] at h
            obtain rfl := Bool.eq_false_iff.2 c9536
            refine VC.join0 (⟨111, [(1, .pointer (some ⟨g2473, 0, none⟩)), (2, .bool false), (5, .int .i64 i8885), (6, .pointer (some ⟨g9511, 0, none⟩)), (37, (.slice (some ad9509) l0_1.length n9510)), (38, .int .i64 (l0_1.length : Int)), (39, .int .i64 i8885), (40, .bool true), (41, .int .i64 i8885), (43, .agg #[.string x9508.f0, .string x9508.f1, .int .i64 x9508.f2, .int .i64 x9508.f3, .int .i64 x9508.f4]), (44, .agg #[.string x9508.f0, .string x9508.f1, .int .i64 x9508.f2, .int .i64 x9508.f3, .int .i64 x9508.f4]), (45, .bool true), (46, .bool false), (47, .bool false), (48, .pointer (some ⟨g2473, 0, none⟩)), (49, v0_0), (50, .pointer (some ⟨g9511, 0, none⟩)), (51, .string x9508.f0), (52, .bool true), (53, .bool false), (54, .bool false), (55, .bool false), (56, .pointer (some ⟨g2473, 0, none⟩)), (57, v0_0), (58, .pointer (some ⟨g9511, 1, none⟩)), (59, .string x9508.f1), (60, .bool false), (61, .bool true), (62, .bool true), (63, .bool true), (64, undef), (65, undef), (66, undef), (67, undef), (68, undef), (69, undef), (70, undef), (71, undef), (72, undef), (73, undef), (74, undef), (75, undef), (76, undef), (77, .bool true)], [.row (.slice (some ad9509) l0_1.length n9510) 5 (l0_1.map enc22), .row v0_0 1 (l0_0.map enc_str)], [(g9511, 23, [.string x9508.f0, .string x9508.f1, .int .i64 x9508.f2, .int .i64 x9508.f3, .int .i64 x9508.f4]), (g2473, 35, [v0_0, (.slice (some ad9509) l0_1.length n9510)])], []⟩) (True) ?_ ?_
            · refine VC.draw ⟨0, [], [], [(g9511, 23, [.string x9508.f0, .string x9508.f1, .int .i64 x9508.f2, .int .i64 x9508.f3, .int .i64 x9508.f4]), (g2473, 35, [v0_0, (.slice (some ad9509) l0_1.length n9510)])], []⟩ (by kernel_rfl) rfl (by kernel_rfl) (n := 34) (listed := LB 34 0) ?_
              refine VA.va (i := 0) (listed' := LB 34 1) rfl (op_load 0 5 rfl rfl TI23 rfl (fun h => absurd h (by decide)) (ltn rfl)) rfl (by kernel_rfl) (by kernel_rfl) (by kernel_rfl) (by kernel_rfl) ⟨trivial, ⟨⟨0, rfl⟩, ⟨1, rfl⟩, trivial⟩, trivial⟩ (fun _ _ _ h => h) ?_
              refine VA.oneC (i := 1) (listed' := LB 34 3) (by kernel_rfl) rfl (o_call0 FO8 (tarryref07_May.ok k x9508.f0 x9508.f1 x9508.f2 x9508.f3 x9508.f4 true hA9529) rfl rfl (ltn rfl) (All_of .nil)) rfl (by kernel_rfl) ?_
              rintro _ _ _ ⟨rfl, rfl, rfl⟩
              refine ⟨⟨trivial, ⟨⟨0, rfl⟩, ⟨1, rfl⟩, trivial⟩, trivial⟩, ?_⟩
              refine VA.va (i := 2) (listed' := LB 34 7) rfl (op_not rfl rfl (ltn rfl)) rfl (by kernel_rfl) (by kernel_rfl) (by kernel_rfl) (by kernel_rfl) ⟨trivial, ⟨⟨0, rfl⟩, ⟨1, rfl⟩, trivial⟩, trivial⟩ (fun _ _ _ h => h) ?_
              refine VA.va (i := 3) (listed' := LB 34 15) rfl (op_move rfl (ltn rfl)) rfl (by kernel_rfl) (by kernel_rfl) (by kernel_rfl) (by kernel_rfl) ⟨trivial, ⟨⟨0, rfl⟩, ⟨1, rfl⟩, trivial⟩, trivial⟩ (fun _ _ _ h => h) ?_
              refine VA.va (i := 4) (listed' := LB 34 31) rfl (op_fieldAddr FI35_0 rfl (add_at _ _ _) (ltn rfl)) rfl (by kernel_rfl) (by kernel_rfl) (by kernel_rfl) (by kernel_rfl) ⟨trivial, ⟨⟨0, rfl⟩, ⟨1, rfl⟩, trivial⟩, trivial⟩ (fun _ _ _ h => h) ?_
              refine VA.va (i := 5) (listed' := LB 34 63) rfl (op_load 1 1 rfl rfl TI32 rfl (by decide) (ltn rfl)) rfl (by kernel_rfl) (by kernel_rfl) (by kernel_rfl) (by kernel_rfl) ⟨trivial, ⟨⟨0, rfl⟩, ⟨1, rfl⟩, trivial⟩, trivial⟩ (fun _ _ _ h => h) ?_
              refine VA.va (i := 6) (listed' := LB 34 127) rfl (op_fieldAddr FI23_0 rfl (add_at _ _ _) (ltn rfl)) rfl (by kernel_rfl) (by kernel_rfl) (by kernel_rfl) (by kernel_rfl) ⟨trivial, ⟨⟨0, rfl⟩, ⟨1, rfl⟩, trivial⟩, trivial⟩ (fun _ _ _ h => h) ?_
              refine VA.va (i := 7) (listed' := LB 34 255) rfl (op_load 0 1 rfl rfl TI9 rfl (by decide) (ltn rfl)) rfl (by kernel_rfl) (by kernel_rfl) (by kernel_rfl) (by kernel_rfl) ⟨trivial, ⟨⟨0, rfl⟩, ⟨1, rfl⟩, trivial⟩, trivial⟩ (fun _ _ _ h => h) ?_
              refine VA.oneC (i := 8) (listed' := LB 34 511) (by kernel_rfl) rfl (o_call0 FO19 (tarryref07_Has.ok k l0_0 x9508.f0 v0_0 true hA9532) rfl rfl (ltn rfl) (All_of (.cons (List.mem_of_getElem? (i := 1) rfl) .nil))) rfl (by kernel_rfl) ?_
              rintro _ _ _ ⟨rfl, rfl, rfl⟩
              refine ⟨⟨trivial, ⟨⟨0, rfl⟩, ⟨1, rfl⟩, trivial⟩, trivial⟩, ?_⟩
              refine VA.va (i := 9) (listed' := LB 34 1023) rfl (op_not rfl rfl (ltn rfl)) rfl (by kernel_rfl) (by kernel_rfl) (by kernel_rfl) (by kernel_rfl) ⟨trivial, ⟨⟨0, rfl⟩, ⟨1, rfl⟩, trivial⟩, trivial⟩ (fun _ _ _ h => h) ?_
              refine VA.va (i := 10) (listed' := LB 34 2047) rfl (op_pick rfl rfl (ltn rfl)) rfl (by kernel_rfl) (by kernel_rfl) (by kernel_rfl) (by kernel_rfl) ⟨trivial, ⟨⟨0, rfl⟩, ⟨1, rfl⟩, trivial⟩, trivial⟩ (fun _ _ _ h => h) ?_
              refine VA.va (i := 11) (listed' := LB 34 4095) rfl (op_move rfl (ltn rfl)) rfl (by kernel_rfl) (by kernel_rfl) (by kernel_rfl) (by kernel_rfl) ⟨trivial, ⟨⟨0, rfl⟩, ⟨1, rfl⟩, trivial⟩, trivial⟩ (fun _ _ _ h => h) ?_
              refine VA.va (i := 12) (listed' := LB 34 8191) rfl (op_fieldAddr FI35_0 rfl (add_at _ _ _) (ltn rfl)) rfl (by kernel_rfl) (by kernel_rfl) (by kernel_rfl) (by kernel_rfl) ⟨trivial, ⟨⟨0, rfl⟩, ⟨1, rfl⟩, trivial⟩, trivial⟩ (fun _ _ _ h => h) ?_
              refine VA.va (i := 13) (listed' := LB 34 16383) rfl (op_load 1 1 rfl rfl TI32 rfl (by decide) (ltn rfl)) rfl (by kernel_rfl) (by kernel_rfl) (by kernel_rfl) (by kernel_rfl) ⟨trivial, ⟨⟨0, rfl⟩, ⟨1, rfl⟩, trivial⟩, trivial⟩ (fun _ _ _ h => h) ?_
              refine VA.va (i := 14) (listed' := LB 34 32767) rfl (op_fieldAddr FI23_1 rfl (add_at _ _ _) (ltn rfl)) rfl (by kernel_rfl) (by kernel_rfl) (by kernel_rfl) (by kernel_rfl) ⟨trivial, ⟨⟨0, rfl⟩, ⟨1, rfl⟩, trivial⟩, trivial⟩ (fun _ _ _ h => h) ?_
              refine VA.va (i := 15) (listed' := LB 34 65535) rfl (op_load 0 1 rfl rfl TI9 rfl (by decide) (ltn rfl)) rfl (by kernel_rfl) (by kernel_rfl) (by kernel_rfl) (by kernel_rfl) ⟨trivial, ⟨⟨0, rfl⟩, ⟨1, rfl⟩, trivial⟩, trivial⟩ (fun _ _ _ h => h) ?_
              refine VA.oneC (i := 16) (listed' := LB 34 131071) (by kernel_rfl) rfl (o_call0 FO19 (tarryref07_Has.ok k l0_0 x9508.f1 v0_0 false hA9535) rfl rfl (ltn rfl) (All_of (.cons (List.mem_of_getElem? (i := 1) rfl) .nil))) rfl (by kernel_rfl) ?_
              rintro _ _ _ ⟨rfl, rfl, rfl⟩
              refine ⟨⟨trivial, ⟨⟨0, rfl⟩, ⟨1, rfl⟩, trivial⟩, trivial⟩, ?_⟩
              refine VA.va (i := 17) (listed' := LB 34 262143) rfl (op_not rfl rfl (ltn rfl)) rfl (by kernel_rfl) (by kernel_rfl) (by kernel_rfl) (by kernel_rfl) ⟨trivial, ⟨⟨0, rfl⟩, ⟨1, rfl⟩, trivial⟩, trivial⟩ (fun _ _ _ h => h) ?_
              refine VA.va (i := 18) (listed' := LB 34 524287) rfl (op_pick rfl rfl (ltn rfl)) rfl (by kernel_rfl) (by kernel_rfl) (by kernel_rfl) (by kernel_rfl) ⟨trivial, ⟨⟨0, rfl⟩, ⟨1, rfl⟩, trivial⟩, trivial⟩ (fun _ _ _ h => h) ?_
              refine VA.va (i := 19) (listed' := LB 34 1048575) rfl (op_move rfl (ltn rfl)) rfl (by kernel_rfl) (by kernel_rfl) (by kernel_rfl) (by kernel_rfl) ⟨trivial, ⟨⟨0, rfl⟩, ⟨1, rfl⟩, trivial⟩, trivial⟩ (fun _ _ _ h => h) ?_
              refine VA.un (i := 20) (listed' := LB 34 2097151) rfl rfl rfl (ltn rfl) (by kernel_rfl) (by kernel_rfl) (by kernel_rfl) (by kernel_rfl) ⟨trivial, ⟨⟨0, rfl⟩, ⟨1, rfl⟩, trivial⟩, trivial⟩ (fun _ _ _ h => h) ?_
              refine VA.un (i := 21) (listed' := LB 34 4194303) rfl rfl rfl (ltn rfl) (by kernel_rfl) (by kernel_rfl) (by kernel_rfl) (by kernel_rfl) ⟨trivial, ⟨⟨0, rfl⟩, ⟨1, rfl⟩, trivial⟩, trivial⟩ (fun _ _ _ h => h) ?_
              refine VA.un (i := 22) (listed' := LB 34 8388607) rfl rfl rfl (ltn rfl) (by kernel_rfl) (by kernel_rfl) (by kernel_rfl) (by kernel_rfl) ⟨trivial, ⟨⟨0, rfl⟩, ⟨1, rfl⟩, trivial⟩, trivial⟩ (fun _ _ _ h => h) ?_
              refine VA.un (i := 23) (listed' := LB 34 16777215) rfl rfl rfl (ltn rfl) (by kernel_rfl) (by kernel_rfl) (by kernel_rfl) (by kernel_rfl) ⟨trivial, ⟨⟨0, rfl⟩, ⟨1, rfl⟩, trivial⟩, trivial⟩ (fun _ _ _ h => h) ?_
              refine VA.un (i := 24) (listed' := LB 34 33554431) rfl rfl rfl (ltn rfl) (by kernel_rfl) (by kernel_rfl) (by kernel_rfl) (by kernel_rfl) ⟨trivial, ⟨⟨0, rfl⟩, ⟨1, rfl⟩, trivial⟩, trivial⟩ (fun _ _ _ h => h) ?_
              refine VA.un (i := 25) (listed' := LB 34 67108863) rfl rfl rfl (ltn rfl) (by kernel_rfl) (by kernel_rfl) (by kernel_rfl) (by kernel_rfl) ⟨trivial, ⟨⟨0, rfl⟩, ⟨1, rfl⟩, trivial⟩, trivial⟩ (fun _ _ _ h => h) ?_
              refine VA.un (i := 26) (listed' := LB 34 134217727) rfl rfl rfl (ltn rfl) (by kernel_rfl) (by kernel_rfl) (by kernel_rfl) (by kernel_rfl) ⟨trivial, ⟨⟨0, rfl⟩, ⟨1, rfl⟩, trivial⟩, trivial⟩ (fun _ _ _ h => h) ?_
              refine VA.un (i := 27) (listed' := LB 34 268435455) rfl rfl rfl (ltn rfl) (by kernel_rfl) (by kernel_rfl) (by kernel_rfl) (by kernel_rfl) ⟨trivial, ⟨⟨0, rfl⟩, ⟨1, rfl⟩, trivial⟩, trivial⟩ (fun _ _ _ h => h) ?_
              refine VA.un (i := 28) (listed' := LB 34 536870911) rfl rfl rfl (ltn rfl) (by kernel_rfl) (by kernel_rfl) (by kernel_rfl) (by kernel_rfl) ⟨trivial, ⟨⟨0, rfl⟩, ⟨1, rfl⟩, trivial⟩, trivial⟩ (fun _ _ _ h => h) ?_
              refine VA.un (i := 29) (listed' := LB 34 1073741823) rfl rfl rfl (ltn rfl) (by kernel_rfl) (by kernel_rfl) (by kernel_rfl) (by kernel_rfl) ⟨trivial, ⟨⟨0, rfl⟩, ⟨1, rfl⟩, trivial⟩, trivial⟩ (fun _ _ _ h => h) ?_
              refine VA.un (i := 30) (listed' := LB 34 2147483647) rfl rfl rfl (ltn rfl) (by kernel_rfl) (by kernel_rfl) (by kernel_rfl) (by kernel_rfl) ⟨trivial, ⟨⟨0, rfl⟩, ⟨1, rfl⟩, trivial⟩, trivial⟩ (fun _ _ _ h => h) ?_
              refine VA.un (i := 31) (listed' := LB 34 4294967295) rfl rfl rfl (ltn rfl) (by kernel_rfl) (by kernel_rfl) (by kernel_rfl) (by kernel_rfl) ⟨trivial, ⟨⟨0, rfl⟩, ⟨1, rfl⟩, trivial⟩, trivial⟩ (fun _ _ _ h => h) ?_
              refine VA.un (i := 32) (listed' := LB 34 8589934591) rfl rfl rfl (ltn rfl) (by kernel_rfl) (by kernel_rfl) (by kernel_rfl) (by kernel_rfl) ⟨trivial, ⟨⟨0, rfl⟩, ⟨1, rfl⟩, trivial⟩, trivial⟩ (fun _ _ _ h => h) ?_
              refine VA.va (i := 33) (listed' := LB 34 17179869183) rfl (op_pick rfl rfl (ltn rfl)) rfl (by kernel_rfl) (by kernel_rfl) (by kernel_rfl) (by kernel_rfl) ⟨trivial, ⟨⟨0, rfl⟩, ⟨1, rfl⟩, trivial⟩, trivial⟩ (fun _ _ _ h => h) ?_
              refine VA.done (by kernel_rfl) ?_
              exact VN.meet0  [0, 1] [] trivial ⟨rfl, ⟨rfl, rfl, rfl, rfl, rfl, rfl, rfl, rfl, rfl, rfl, rfl, rfl, rfl, rfl, rfl, rfl, rfl, rfl, rfl, rfl, rfl, rfl, rfl, rfl, rfl, rfl, rfl, rfl, rfl, rfl, rfl, rfl, rfl, rfl, rfl, rfl, rfl, rfl, rfl, rfl, rfl, rfl, rfl, rfl, trivial⟩, ⟨⟨0, rfl⟩, ⟨1, rfl⟩, trivial⟩, rfl, by decide, rfl, by decide⟩
            intro _
            refine VC.cond_t rfl ?_
            refine VC.seq ?_
            refine VC.region ?_
            refine VL.va (op_assign rfl (ltn rfl)) rfl ?_
            refine VL.done ?_
            refine VN.then ?_
            refine VC.ret ?_
            refine VR.then ?_
            refine VR.block ?_
            refine VR.then ?_
            refine VR.then ?_
            refine VR.block ?_
            refine VR.then ?_
            obtain rfl := Option.some.inj h
            exact VR.fn (rs := [.tmp 2]) [] [] [] rfl (.tmp rfl .nil) ⟨rfl, rfl, rfl⟩ trivial rfl (by decide)
        · rw [if_neg c9533] at h
          obtain rfl := Bool.eq_false_iff.2 c9533
          refine VC.join0 (⟨111, [(1, .pointer (some ⟨g2473, 0, none⟩)), (2, .bool false), (5, .int .i64 i8885), (6, .pointer (some ⟨g9511, 0, none⟩)), (37, (.slice (some ad9509) l0_1.length n9510)), (38, .int .i64 (l0_1.length : Int)), (39, .int .i64 i8885), (40, .bool true), (41, .int .i64 i8885), (43, .agg #[.string x9508.f0, .string x9508.f1, .int .i64 x9508.f2, .int .i64 x9508.f3, .int .i64 x9508.f4]), (44, .agg #[.string x9508.f0, .string x9508.f1, .int .i64 x9508.f2, .int .i64 x9508.f3, .int .i64 x9508.f4]), (45, .bool true), (46, .bool false), (47, .bool false), (48, .pointer (some ⟨g2473, 0, none⟩)), (49, v0_0), (50, .pointer (some ⟨g9511, 0, none⟩)), (51, .string x9508.f0), (52, .bool false), (53, .bool true), (54, .bool true), (55, .bool true), (56, undef), (57, undef), (58, undef), (59, undef), (60, undef), (61, undef), (62, .bool true), (63, .bool true), (64, undef), (65, undef), (66, undef), (67, undef), (68, undef), (69, undef), (70, undef), (71, undef), (72, undef), (73, undef), (74, undef), (75, undef), (76, undef), (77, .bool true)], [.row (.slice (some ad9509) l0_1.length n9510) 5 (l0_1.map enc22), .row v0_0 1 (l0_0.map enc_str)], [(g9511, 23, [.string x9508.f0, .string x9508.f1, .int .i64 x9508.f2, .int .i64 x9508.f3, .int .i64 x9508.f4]), (g2473, 35, [v0_0, (.slice (some ad9509) l0_1.length n9510)])], []⟩) (True) ?_ ?_
          · refine VC.draw ⟨0, [], [], [(g9511, 23, [.string x9508.f0, .string x9508.f1, .int .i64 x9508.f2, .int .i64 x9508.f3, .int .i64 x9508.f4]), (g2473, 35, [v0_0, (.slice (some ad9509) l0_1.length n9510)])], []⟩ (by kernel_rfl) rfl (by kernel_rfl) (n := 34) (listed := LB 34 0) ?_
            refine VA.va (i := 0) (listed' := LB 34 1) rfl (op_load 0 5 rfl rfl TI23 rfl (fun h => absurd h (by decide)) (ltn rfl)) rfl (by kernel_rfl) (by kernel_rfl) (by kernel_rfl) (by kernel_rfl) ⟨trivial, ⟨⟨0, rfl⟩, ⟨1, rfl⟩, trivial⟩, trivial⟩ (fun _ _ _ h => h) ?_
            refine VA.oneC (i := 1) (listed' := LB 34 3) (by kernel_rfl) rfl (o_call0 FO8 (tarryref07_May.ok k x9508.f0 x9508.f1 x9508.f2 x9508.f3 x9508.f4 true hA9529) rfl rfl (ltn rfl) (All_of .nil)) rfl (by kernel_rfl) ?_
            rintro _ _ _ ⟨rfl, rfl, rfl⟩
            refine ⟨⟨trivial, ⟨⟨0, rfl⟩, ⟨1, rfl⟩, trivial⟩, trivial⟩, ?_⟩
            refine VA.va (i := 2) (listed' := LB 34 7) rfl (op_not rfl rfl (ltn rfl)) rfl (by kernel_rfl) (by kernel_rfl) (by kernel_rfl) (by kernel_rfl) ⟨trivial, ⟨⟨0, rfl⟩, ⟨1, rfl⟩, trivial⟩, trivial⟩ (fun _ _ _ h => h) ?_
            refine VA.va (i := 3) (listed' := LB 34 15) rfl (op_move rfl (ltn rfl)) rfl (by kernel_rfl) (by kernel_rfl) (by kernel_rfl) (by kernel_rfl) ⟨trivial, ⟨⟨0, rfl⟩, ⟨1, rfl⟩, trivial⟩, trivial⟩ (fun _ _ _ h => h) ?_
            refine VA.va (i := 4) (listed' := LB 34 31) rfl (op_fieldAddr FI35_0 rfl (add_at _ _ _) (ltn rfl)) rfl (by kernel_rfl) (by kernel_rfl) (by kernel_rfl) (by kernel_rfl) ⟨trivial, ⟨⟨0, rfl⟩, ⟨1, rfl⟩, trivial⟩, trivial⟩ (fun _ _ _ h => h) ?_
            refine VA.va (i := 5) (listed' := LB 34 63) rfl (op_load 1 1 rfl rfl TI32 rfl (by decide) (ltn rfl)) rfl (by kernel_rfl) (by kernel_rfl) (by kernel_rfl) (by kernel_rfl) ⟨trivial, ⟨⟨0, rfl⟩, ⟨1, rfl⟩, trivial⟩, trivial⟩ (fun _ _ _ h => h) ?_
            refine VA.va (i := 6) (listed' := LB 34 127) rfl (op_fieldAddr FI23_0 rfl (add_at _ _ _) (ltn rfl)) rfl (by kernel_rfl) (by kernel_rfl) (by kernel_rfl) (by kernel_rfl) ⟨trivial, ⟨⟨0, rfl⟩, ⟨1, rfl⟩, trivial⟩, trivial⟩ (fun _ _ _ h => h) ?_
            refine VA.va (i := 7) (listed' := LB 34 255) rfl (op_load 0 1 rfl rfl TI9 rfl (by decide) (ltn rfl)) rfl (by kernel_rfl) (by kernel_rfl) (by kernel_rfl) (by kernel_rfl) ⟨trivial, ⟨⟨0, rfl⟩, ⟨1, rfl⟩, trivial⟩, trivial⟩ (fun _ _ _ h => h) ?_
            refine VA.oneC (i := 8) (listed' := LB 34 511) (by kernel_rfl) rfl (o_call0 FO19 (tarryref07_Has.ok k l0_0 x9508.f0 v0_0 false hA9532) rfl rfl (ltn rfl) (All_of (.cons (List.mem_of_getElem? (i := 1) rfl) .nil))) rfl (by kernel_rfl) ?_
            rintro _ _ _ ⟨rfl, rfl, rfl⟩
            refine ⟨⟨trivial, ⟨⟨0, rfl⟩, ⟨1, rfl⟩, trivial⟩, trivial⟩, ?_⟩
            refine VA.va (i := 9) (listed' := LB 34 1023) rfl (op_not rfl rfl (ltn rfl)) rfl (by kernel_rfl) (by kernel_rfl) (by kernel_rfl) (by kernel_rfl) ⟨trivial, ⟨⟨0, rfl⟩, ⟨1, rfl⟩, trivial⟩, trivial⟩ (fun _ _ _ h => h) ?_
            refine VA.va (i := 10) (listed' := LB 34 2047) rfl (op_pick rfl rfl (ltn rfl)) rfl (by kernel_rfl) (by kernel_rfl) (by kernel_rfl) (by kernel_rfl) ⟨trivial, ⟨⟨0, rfl⟩, ⟨1, rfl⟩, trivial⟩, trivial⟩ (fun _ _ _ h => h) ?_
            refine VA.va (i := 11) (listed' := LB 34 4095) rfl (op_move rfl (ltn rfl)) rfl (by kernel_rfl) (by kernel_rfl) (by kernel_rfl) (by kernel_rfl) ⟨trivial, ⟨⟨0, rfl⟩, ⟨1, rfl⟩, trivial⟩, trivial⟩ (fun _ _ _ h => h) ?_
            refine VA.un (i := 12) (listed' := LB 34 8191) rfl rfl rfl (ltn rfl) (by kernel_rfl) (by kernel_rfl) (by kernel_rfl) (by kernel_rfl) ⟨trivial, ⟨⟨0, rfl⟩, ⟨1, rfl⟩, trivial⟩, trivial⟩ (fun _ _ _ h => h) ?_
            refine VA.un (i := 13) (listed' := LB 34 16383) rfl rfl rfl (ltn rfl) (by kernel_rfl) (by kernel_rfl) (by kernel_rfl) (by kernel_rfl) ⟨trivial, ⟨⟨0, rfl⟩, ⟨1, rfl⟩, trivial⟩, trivial⟩ (fun _ _ _ h => h) ?_
            refine VA.un (i := 14) (listed' := LB 34 32767) rfl rfl rfl (ltn rfl) (by kernel_rfl) (by kernel_rfl) (by kernel_rfl) (by kernel_rfl) ⟨trivial, ⟨⟨0, rfl⟩, ⟨1, rfl⟩, trivial⟩, trivial⟩ (fun _ _ _ h => h) ?_
            refine VA.un (i := 15) (listed' := LB 34 65535) rfl rfl rfl (ltn rfl) (by kernel_rfl) (by kernel_rfl) (by kernel_rfl) (by kernel_rfl) ⟨trivial, ⟨⟨0, rfl⟩, ⟨1, rfl⟩, trivial⟩, trivial⟩ (fun _ _ _ h => h) ?_
            refine VA.un (i := 16) (listed' := LB 34 131071) rfl rfl rfl (ltn rfl) (by kernel_rfl) (by kernel_rfl) (by kernel_rfl) (by kernel_rfl) ⟨trivial, ⟨⟨0, rfl⟩, ⟨1, rfl⟩, trivial⟩, trivial⟩ (fun _ _ _ h => h) ?_
            refine VA.un (i := 17) (listed' := LB 34 262143) rfl rfl rfl (ltn rfl) (by kernel_rfl) (by kernel_rfl) (by kernel_rfl) (by kernel_rfl) ⟨trivial, ⟨⟨0, rfl⟩, ⟨1, rfl⟩, trivial⟩, trivial⟩ (fun _ _ _ h => h) ?_
            refine VA.va (i := 18) (listed' := LB 34 524287) rfl (op_pick rfl rfl (ltn rfl)) rfl (by kernel_rfl) (by kernel_rfl) (by kernel_rfl) (by kernel_rfl) ⟨trivial, ⟨⟨0, rfl⟩, ⟨1, rfl⟩, trivial⟩, trivial⟩ (fun _ _ _ h => h) ?_
            refine VA.va (i := 19) (listed' := LB 34 1048575) rfl (op_move rfl (ltn rfl)) rfl (by kernel_rfl) (by kernel_rfl) (by kernel_rfl) (by kernel_rfl) ⟨trivial, ⟨⟨0, rfl⟩, ⟨1, rfl⟩, trivial⟩, trivial⟩ (fun _ _ _ h => h) ?_
            refine VA.un (i := 20) (listed' := LB 34 2097151) rfl rfl rfl (ltn rfl) (by kernel_rfl) (by kernel_rfl) (by kernel_rfl) (by kernel_rfl) ⟨trivial, ⟨⟨0, rfl⟩, ⟨1, rfl⟩, trivial⟩, trivial⟩ (fun _ _ _ h => h) ?_
            refine VA.un (i := 21) (listed' := LB 34 4194303) rfl rfl rfl (ltn rfl) (by kernel_rfl) (by kernel_rfl) (by kernel_rfl) (by kernel_rfl) ⟨trivial, ⟨⟨0, rfl⟩, ⟨1, rfl⟩, trivial⟩, trivial⟩ (fun _ _ _ h => h) ?_
            refine VA.un (i := 22) (listed' := LB 34 8388607) rfl rfl rfl (ltn rfl) (by kernel_rfl) (by kernel_rfl) (by kernel_rfl) (by kernel_rfl) ⟨trivial, ⟨⟨0, rfl⟩, ⟨1, rfl⟩, trivial⟩, trivial⟩ (fun _ _ _ h => h) ?_
            refine VA.un (i := 23) (listed' := LB 34 16777215) rfl rfl rfl (ltn rfl) (by kernel_rfl) (by kernel_rfl) (by kernel_rfl) (by kernel_rfl) ⟨trivial, ⟨⟨0, rfl⟩, ⟨1, rfl⟩, trivial⟩, trivial⟩ (fun _ _ _ h => h) ?_
            refine VA.un (i := 24) (listed' := LB 34 33554431) rfl rfl rfl (ltn rfl) (by kernel_rfl) (by kernel_rfl) (by kernel_rfl) (by kernel_rfl) ⟨trivial, ⟨⟨0, rfl⟩, ⟨1, rfl⟩, trivial⟩, trivial⟩ (fun _ _ _ h => h) ?_
            refine VA.un (i := 25) (listed' := LB 34 67108863) rfl rfl rfl (ltn rfl) (by kernel_rfl) (by kernel_rfl) (by kernel_rfl) (by kernel_rfl) ⟨trivial, ⟨⟨0, rfl⟩, ⟨1, rfl⟩, trivial⟩, trivial⟩ (fun _ _ _ h => h) ?_
            refine VA.un (i := 26) (listed' := LB 34 134217727) rfl rfl rfl (ltn rfl) (by kernel_rfl) (by kernel_rfl) (by kernel_rfl) (by kernel_rfl) ⟨trivial, ⟨⟨0, rfl⟩, ⟨1, rfl⟩, trivial⟩, trivial⟩ (fun _ _ _ h => h) ?_
            refine VA.un (i := 27) (listed' := LB 34 268435455) rfl rfl rfl (ltn rfl) (by kernel_rfl) (by kernel_rfl) (by kernel_rfl) (by kernel_rfl) ⟨trivial, ⟨⟨0, rfl⟩, ⟨1, rfl⟩, trivial⟩, trivial⟩ (fun _ _ _ h => h) ?_
            refine VA.un (i := 28) (listed' := LB 34 536870911) rfl rfl rfl (ltn rfl) (by kernel_rfl) (by kernel_rfl) (by kernel_rfl) (by kernel_rfl) ⟨trivial, ⟨⟨0, rfl⟩, ⟨1, rfl⟩, trivial⟩, trivial⟩ (fun _ _ _ h => h) ?_
            refine VA.un (i := 29) (listed' := LB 34 1073741823) rfl rfl rfl (ltn rfl) (by kernel_rfl) (by kernel_rfl) (by kernel_rfl) (by kernel_rfl) ⟨trivial, ⟨⟨0, rfl⟩, ⟨1, rfl⟩, trivial⟩, trivial⟩ (fun _ _ _ h => h) ?_
            refine VA.un (i := 30) (listed' := LB 34 2147483647) rfl rfl rfl (ltn rfl) (by kernel_rfl) (by kernel_rfl) (by kernel_rfl) (by kernel_rfl) ⟨trivial, ⟨⟨0, rfl⟩, ⟨1, rfl⟩, trivial⟩, trivial⟩ (fun _ _ _ h => h) ?_
            refine VA.un (i := 31) (listed' := LB 34 4294967295) rfl rfl rfl (ltn rfl) (by kernel_rfl) (by kernel_rfl) (by kernel_rfl) (by kernel_rfl) ⟨trivial, ⟨⟨0, rfl⟩, ⟨1, rfl⟩, trivial⟩, trivial⟩ (fun _ _ _ h => h) ?_
            refine VA.un (i := 32) (listed' := LB 34 8589934591) rfl rfl rfl (ltn rfl) (by kernel_rfl) (by kernel_rfl) (by kernel_rfl) (by kernel_rfl) ⟨trivial, ⟨⟨0, rfl⟩, ⟨1, rfl⟩, trivial⟩, trivial⟩ (fun _ _ _ h => h) ?_
            refine VA.va (i := 33) (listed' := LB 34 17179869183) rfl (op_pick rfl rfl (ltn rfl)) rfl (by kernel_rfl) (by kernel_rfl) (by kernel_rfl) (by kernel_rfl) ⟨trivial, ⟨⟨0, rfl⟩, ⟨1, rfl⟩, trivial⟩, trivial⟩ (fun _ _ _ h => h) ?_
            refine VA.done (by kernel_rfl) ?_
            exact VN.meet0  [0, 1] [] trivial ⟨rfl, ⟨rfl, rfl, rfl, rfl, rfl, rfl, rfl, rfl, rfl, rfl, rfl, rfl, rfl, rfl, rfl, rfl, rfl, rfl, rfl, rfl, rfl, rfl, rfl, rfl, rfl, rfl, rfl, rfl, rfl, rfl, rfl, rfl, rfl, rfl, rfl, rfl, rfl, rfl, rfl, rfl, rfl, rfl, rfl, rfl, trivial⟩, ⟨⟨0, rfl⟩, ⟨1, rfl⟩, trivial⟩, rfl, by decide, rfl, by decide⟩
          intro _
          refine VC.cond_t rfl ?_
          refine VC.seq ?_
          refine VC.region ?_
          refine VL.va (op_assign rfl (ltn rfl)) rfl ?_
          refine VL.done ?_
          refine VN.then ?_
          refine VC.ret ?_
          refine VR.then ?_
          refine VR.block ?_
          refine VR.then ?_
          refine VR.then ?_
          refine VR.block ?_
          refine VR.then ?_
          obtain rfl := Option.some.inj h
          exact VR.fn (rs := [.tmp 2]) [] [] [] rfl (.tmp rfl .nil) ⟨rfl, rfl, rfl⟩ trivial rfl (by decide)
      · rw [if_neg c9530] at h
        obtain rfl := Bool.eq_false_iff.2 c9530
        refine VC.join0 (⟨111, [(1, .pointer (some ⟨g2473, 0, none⟩)), (2, .bool false), (5, .int .i64 i8885), (6, .pointer (some ⟨g9511, 0, none⟩)), (37, (.slice (some ad9509) l0_1.length n9510)), (38, .int .i64 (l0_1.length : Int)), (39, .int .i64 i8885), (40, .bool true), (41, .int .i64 i8885), (43, .agg #[.string x9508.f0, .string x9508.f1, .int .i64 x9508.f2, .int .i64 x9508.f3, .int .i64 x9508.f4]), (44, .agg #[.string x9508.f0, .string x9508.f1, .int .i64 x9508.f2, .int .i64 x9508.f3, .int .i64 x9508.f4]), (45, .bool false), (46, .bool true), (47, .bool true), (48, undef), (49, undef), (50, undef), (51, undef), (52, undef), (53, undef), (54, .bool true), (55, .bool true), (56, undef), (57, undef), (58, undef), (59, undef), (60, undef), (61, undef), (62, .bool true), (63, .bool true), (64, undef), (65, undef), (66, undef), (67, undef), (68, undef), (69, undef), (70, undef), (71, undef), (72, undef), (73, undef), (74, undef), (75, undef), (76, undef), (77, .bool true)], [.row (.slice (some ad9509) l0_1.length n9510) 5 (l0_1.map enc22), .row v0_0 1 (l0_0.map enc_str)], [(g9511, 23, [.string x9508.f0, .string x9508.f1, .int .i64 x9508.f2, .int .i64 x9508.f3, .int .i64 x9508.f4]), (g2473, 35, [v0_0, (.slice (some ad9509) l0_1.length n9510)])], []⟩) (True) ?_ ?_
        · refine VC.draw ⟨0, [], [], [(g9511, 23, [.string x9508.f0, .string x9508.f1, .int .i64 x9508.f2, .int .i64 x9508.f3, .int .i64 x9508.f4])], []⟩ (by kernel_rfl) rfl (by kernel_rfl) (n := 34) (listed := LB 34 0) ?_
          refine VA.va (i := 0) (listed' := LB 34 1) rfl (op_load 0 5 rfl rfl TI23 rfl (fun h => absurd h (by decide)) (ltn rfl)) rfl (by kernel_rfl) (by kernel_rfl) (by kernel_rfl) (by kernel_rfl) ⟨trivial, ⟨⟨0, rfl⟩, trivial⟩, trivial⟩ (fun _ _ _ h => h) ?_
          refine VA.oneC (i := 1) (listed' := LB 34 3) (by kernel_rfl) rfl (o_call0 FO8 (tarryref07_May.ok k x9508.f0 x9508.f1 x9508.f2 x9508.f3 x9508.f4 false hA9529) rfl rfl (ltn rfl) (All_of .nil)) rfl (by kernel_rfl) ?_
          rintro _ _ _ ⟨rfl, rfl, rfl⟩
          refine ⟨⟨trivial, ⟨⟨0, rfl⟩, trivial⟩, trivial⟩, ?_⟩
          refine VA.va (i := 2) (listed' := LB 34 7) rfl (op_not rfl rfl (ltn rfl)) rfl (by kernel_rfl) (by kernel_rfl) (by kernel_rfl) (by kernel_rfl) ⟨trivial, ⟨⟨0, rfl⟩, trivial⟩, trivial⟩ (fun _ _ _ h => h) ?_
          refine VA.va (i := 3) (listed' := LB 34 15) rfl (op_move rfl (ltn rfl)) rfl (by kernel_rfl) (by kernel_rfl) (by kernel_rfl) (by kernel_rfl) ⟨trivial, ⟨⟨0, rfl⟩, trivial⟩, trivial⟩ (fun _ _ _ h => h) ?_
          refine VA.un (i := 4) (listed' := LB 34 31) rfl rfl rfl (ltn rfl) (by kernel_rfl) (by kernel_rfl) (by kernel_rfl) (by kernel_rfl) ⟨trivial, ⟨⟨0, rfl⟩, trivial⟩, trivial⟩ (fun _ _ _ h => h) ?_
          refine VA.un (i := 5) (listed' := LB 34 63) rfl rfl rfl (ltn rfl) (by kernel_rfl) (by kernel_rfl) (by kernel_rfl) (by kernel_rfl) ⟨trivial, ⟨⟨0, rfl⟩, trivial⟩, trivial⟩ (fun _ _ _ h => h) ?_
          refine VA.un (i := 6) (listed' := LB 34 127) rfl rfl rfl (ltn rfl) (by kernel_rfl) (by kernel_rfl) (by kernel_rfl) (by kernel_rfl) ⟨trivial, ⟨⟨0, rfl⟩, trivial⟩, trivial⟩ (fun _ _ _ h => h) ?_
          refine VA.un (i := 7) (listed' := LB 34 255) rfl rfl rfl (ltn rfl) (by kernel_rfl) (by kernel_rfl) (by kernel_rfl) (by kernel_rfl) ⟨trivial, ⟨⟨0, rfl⟩, trivial⟩, trivial⟩ (fun _ _ _ h => h) ?_
          refine VA.un (i := 8) (listed' := LB 34 511) rfl rfl rfl (ltn rfl) (by kernel_rfl) (by kernel_rfl) (by kernel_rfl) (by kernel_rfl) ⟨trivial, ⟨⟨0, rfl⟩, trivial⟩, trivial⟩ (fun _ _ _ h => h) ?_
          refine VA.un (i := 9) (listed' := LB 34 1023) rfl rfl rfl (ltn rfl) (by kernel_rfl) (by kernel_rfl) (by kernel_rfl) (by kernel_rfl) ⟨trivial, ⟨⟨0, rfl⟩, trivial⟩, trivial⟩ (fun _ _ _ h => h) ?_
          refine VA.va (i := 10) (listed' := LB 34 2047) rfl (op_pick rfl rfl (ltn rfl)) rfl (by kernel_rfl) (by kernel_rfl) (by kernel_rfl) (by kernel_rfl) ⟨trivial, ⟨⟨0, rfl⟩, trivial⟩, trivial⟩ (fun _ _ _ h => h) ?_
          refine VA.va (i := 11) (listed' := LB 34 4095) rfl (op_move rfl (ltn rfl)) rfl (by kernel_rfl) (by kernel_rfl) (by kernel_rfl) (by kernel_rfl) ⟨trivial, ⟨⟨0, rfl⟩, trivial⟩, trivial⟩ (fun _ _ _ h => h) ?_
          refine VA.un (i := 12) (listed' := LB 34 8191) rfl rfl rfl (ltn rfl) (by kernel_rfl) (by kernel_rfl) (by kernel_rfl) (by kernel_rfl) ⟨trivial, ⟨⟨0, rfl⟩, trivial⟩, trivial⟩ (fun _ _ _ h => h) ?_
          refine VA.un (i := 13) (listed' := LB 34 16383) rfl rfl rfl (ltn rfl) (by kernel_rfl) (by kernel_rfl) (by kernel_rfl) (by kernel_rfl) ⟨trivial, ⟨⟨0, rfl⟩, trivial⟩, trivial⟩ (fun _ _ _ h => h) ?_
          refine VA.un (i := 14) (listed' := LB 34 32767) rfl rfl rfl (ltn rfl) (by kernel_rfl) (by kernel_rfl) (by kernel_rfl) (by kernel_rfl) ⟨trivial, ⟨⟨0, rfl⟩, trivial⟩, trivial⟩ (fun _ _ _ h => h) ?_
          refine VA.un (i := 15) (listed' := LB 34 65535) rfl rfl rfl (ltn rfl) (by kernel_rfl) (by kernel_rfl) (by kernel_rfl) (by kernel_rfl) ⟨trivial, ⟨⟨0, rfl⟩, trivial⟩, trivial⟩ (fun _ _ _ h => h) ?_
          refine VA.un (i := 16) (listed' := LB 34 131071) rfl rfl rfl (ltn rfl) (by kernel_rfl) (by kernel_rfl) (by kernel_rfl) (by kernel_rfl) ⟨trivial, ⟨⟨0, rfl⟩, trivial⟩, trivial⟩ (fun _ _ _ h => h) ?_
          refine VA.un (i := 17) (listed' := LB 34 262143) rfl rfl rfl (ltn rfl) (by kernel_rfl) (by kernel_rfl) (by kernel_rfl) (by kernel_rfl) ⟨trivial, ⟨⟨0, rfl⟩, trivial⟩, trivial⟩ (fun _ _ _ h => h) ?_
          refine VA.va (i := 18) (listed' := LB 34 524287) rfl (op_pick rfl rfl (ltn rfl)) rfl (by kernel_rfl) (by kernel_rfl) (by kernel_rfl) (by kernel_rfl) ⟨trivial, ⟨⟨0, rfl⟩, trivial⟩, trivial⟩ (fun _ _ _ h => h) ?_
          refine VA.va (i := 19) (listed' := LB 34 1048575) rfl (op_move rfl (ltn rfl)) rfl (by kernel_rfl) (by kernel_rfl) (by kernel_rfl) (by kernel_rfl) ⟨trivial, ⟨⟨0, rfl⟩, trivial⟩, trivial⟩ (fun _ _ _ h => h) ?_
          refine VA.un (i := 20) (listed' := LB 34 2097151) rfl rfl rfl (ltn rfl) (by kernel_rfl) (by kernel_rfl) (by kernel_rfl) (by kernel_rfl) ⟨trivial, ⟨⟨0, rfl⟩, trivial⟩, trivial⟩ (fun _ _ _ h => h) ?_
          refine VA.un (i := 21) (listed' := LB 34 4194303) rfl rfl rfl (ltn rfl) (by kernel_rfl) (by kernel_rfl) (by kernel_rfl) (by kernel_rfl) ⟨trivial, ⟨⟨0, rfl⟩, trivial⟩, trivial⟩ (fun _ _ _ h => h) ?_
          refine VA.un (i := 22) (listed' := LB 34 8388607) rfl rfl rfl (ltn rfl) (by kernel_rfl) (by kernel_rfl) (by kernel_rfl) (by kernel_rfl) ⟨trivial, ⟨⟨0, rfl⟩, trivial⟩, trivial⟩ (fun _ _ _ h => h) ?_
          refine VA.un (i := 23) (listed' := LB 34 16777215) rfl rfl rfl (ltn rfl) (by kernel_rfl) (by kernel_rfl) (by kernel_rfl) (by kernel_rfl) ⟨trivial, ⟨⟨0, rfl⟩, trivial⟩, trivial⟩ (fun _ _ _ h => h) ?_
          refine VA.un (i := 24) (listed' := LB 34 33554431) rfl rfl rfl (ltn rfl) (by kernel_rfl) (by kernel_rfl) (by kernel_rfl) (by kernel_rfl) ⟨trivial, ⟨⟨0, rfl⟩, trivial⟩, trivial⟩ (fun _ _ _ h => h) ?_
          refine VA.un (i := 25) (listed' := LB 34 67108863) rfl rfl rfl (ltn rfl) (by kernel_rfl) (by kernel_rfl) (by kernel_rfl) (by kernel_rfl) ⟨trivial, ⟨⟨0, rfl⟩, trivial⟩, trivial⟩ (fun _ _ _ h => h) ?_
          refine VA.un (i := 26) (listed' := LB 34 134217727) rfl rfl rfl (ltn rfl) (by kernel_rfl) (by kernel_rfl) (by kernel_rfl) (by kernel_rfl) ⟨trivial, ⟨⟨0, rfl⟩, trivial⟩, trivial⟩ (fun _ _ _ h => h) ?_
          refine VA.un (i := 27) (listed' := LB 34 268435455) rfl rfl rfl (ltn rfl) (by kernel_rfl) (by kernel_rfl) (by kernel_rfl) (by kernel_rfl) ⟨trivial, ⟨⟨0, rfl⟩, trivial⟩, trivial⟩ (fun _ _ _ h => h) ?_
          refine VA.un (i := 28) (listed' := LB 34 536870911) rfl rfl rfl (ltn rfl) (by kernel_rfl) (by kernel_rfl) (by kernel_rfl) (by kernel_rfl) ⟨trivial, ⟨⟨0, rfl⟩, trivial⟩, trivial⟩ (fun _ _ _ h => h) ?_
          refine VA.un (i := 29) (listed' := LB 34 1073741823) rfl rfl rfl (ltn rfl) (by kernel_rfl) (by kernel_rfl) (by kernel_rfl) (by kernel_rfl) ⟨trivial, ⟨⟨0, rfl⟩, trivial⟩, trivial⟩ (fun _ _ _ h => h) ?_
          refine VA.un (i := 30) (listed' := LB 34 2147483647) rfl rfl rfl (ltn rfl) (by kernel_rfl) (by kernel_rfl) (by kernel_rfl) (by kernel_rfl) ⟨trivial, ⟨⟨0, rfl⟩, trivial⟩, trivial⟩ (fun _ _ _ h => h) ?_
          refine VA.un (i := 31) (listed' := LB 34 4294967295) rfl rfl rfl (ltn rfl) (by kernel_rfl) (by kernel_rfl) (by kernel_rfl) (by kernel_rfl) ⟨trivial, ⟨⟨0, rfl⟩, trivial⟩, trivial⟩ (fun _ _ _ h => h) ?_
          refine VA.un (i := 32) (listed' := LB 34 8589934591) rfl rfl rfl (ltn rfl) (by kernel_rfl) (by kernel_rfl) (by kernel_rfl) (by kernel_rfl) ⟨trivial, ⟨⟨0, rfl⟩, trivial⟩, trivial⟩ (fun _ _ _ h => h) ?_
          refine VA.va (i := 33) (listed' := LB 34 17179869183) rfl (op_pick rfl rfl (ltn rfl)) rfl (by kernel_rfl) (by kernel_rfl) (by kernel_rfl) (by kernel_rfl) ⟨trivial, ⟨⟨0, rfl⟩, trivial⟩, trivial⟩ (fun _ _ _ h => h) ?_
          refine VA.done (by kernel_rfl) ?_
          exact VN.meet0  [0, 1] [] trivial ⟨rfl, ⟨rfl, rfl, rfl, rfl, rfl, rfl, rfl, rfl, rfl, rfl, rfl, rfl, rfl, rfl, rfl, rfl, rfl, rfl, rfl, rfl, rfl, rfl, rfl, rfl, rfl, rfl, rfl, rfl, rfl, rfl, rfl, rfl, rfl, rfl, rfl, rfl, rfl, rfl, rfl, rfl, rfl, rfl, rfl, rfl, trivial⟩, ⟨⟨0, rfl⟩, ⟨1, rfl⟩, trivial⟩, rfl, by decide, rfl, by decide⟩
        intro _
        refine VC.cond_t rfl ?_
        refine VC.seq ?_
        refine VC.region ?_
        refine VL.va (op_assign rfl (ltn rfl)) rfl ?_
        refine VL.done ?_
        refine VN.then ?_
        refine VC.ret ?_
        refine VR.then ?_
        refine VR.block ?_
        refine VR.then ?_
        refine VR.then ?_
        refine VR.block ?_
        refine VR.then ?_
        obtain rfl := Option.some.inj h
        exact VR.fn (rs := [.tmp 2]) [] [] [] rfl (.tmp rfl .nil) ⟨rfl, rfl, rfl⟩ trivial rfl (by decide)
    · rw [if_neg c9507] at h; cases h
  · rw [if_neg c9303] at h
    obtain rfl : b9295 = false := hb9295.symm.trans (decide_eq_false c9303)
    refine VC.cond_f rfl ?_
    refine VC.exit ?_
    refine VX.then ?_
    refine VX.then ?_
    refine VX.hit ?_
    refine VN.then ?_
    refine VC.seq ?_
    refine VC.region ?_
    refine VL.va (op_fieldAddr FI35_0 rfl (add_at _ _ _) (ltn rfl)) rfl ?_
    refine VL.va (op_load 0 1 rfl rfl TI32 rfl (by decide) (ltn rfl)) rfl ?_
    refine VL.va (op_len (m := l0_0.length) 1 lenm Try.underlying32 rfl rfl (ltn rfl)) rfl ?_
    refine VL.letter (decide ((l0_0.length : Int) ≤ 8)) fun b9713 hb9713 => ?_
    refine VL.va (op_cmp rfl rfl (congrArg some hb9713) (ltn rfl)) rfl ?_
    refine VL.va (op_move rfl (ltn rfl)) rfl ?_
    by_cases c9714 : (l0_0.length : Int) ≤ 8
    · rw [if_pos c9714] at h
      obtain rfl : b9713 = true := hb9713.symm.trans (decide_eq_true c9714)
      refine VL.va (op_fieldAddr FI35_1 rfl (add_at _ _ _) (ltn rfl)) rfl ?_
      refine VL.va (op_load 0 1 rfl rfl TI33 rfl (by decide) (ltn rfl)) rfl ?_
      refine VL.va (op_len (m := l0_1.length) 0 lenm Try.underlying33 rfl rfl (ltn rfl)) rfl ?_
      refine VL.letter (decide ((l0_1.length : Int) ≤ 16)) fun b9715 hb9715 => ?_
      refine VL.va (op_cmp rfl rfl (congrArg some hb9715) (ltn rfl)) rfl ?_
      refine VL.va (op_pick rfl rfl (ltn rfl)) rfl ?_
      refine VL.va (op_assign rfl (ltn rfl)) rfl ?_
      refine VL.done ?_
      refine VN.then ?_
      refine VC.ret ?_
      obtain rfl := Option.some.inj h
      subst hb9715
      exact VR.fn (rs := [.tmp 2]) [] [] [] rfl (.tmp rfl .nil) ⟨rfl, rfl, rfl⟩ trivial rfl (by decide)
    · rw [if_neg c9714] at h
      obtain rfl : b9713 = false := hb9713.symm.trans (decide_eq_false c9714)
      refine VL.un rfl rfl (ltn rfl) ?_
      refine VL.un rfl rfl (ltn rfl) ?_
      refine VL.un rfl rfl (ltn rfl) ?_
      refine VL.un rfl rfl (ltn rfl) ?_
      refine VL.va (op_pick rfl rfl (ltn rfl)) rfl ?_
      refine VL.va (op_assign rfl (ltn rfl)) rfl ?_
      refine VL.done ?_
      refine VN.then ?_
      refine VC.ret ?_
      obtain rfl := Option.some.inj h
      exact VR.fn (rs := [.tmp 2]) [] [] [] rfl (.tmp rfl .nil) ⟨rfl, rfl, rfl⟩ trivial rfl (by decide)

end Go.Proofs.Ytoiihpmncphplaa.PGoodsKnow
