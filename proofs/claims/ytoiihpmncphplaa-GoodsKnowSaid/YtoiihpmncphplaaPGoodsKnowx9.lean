/- Written by a program of this repo: what the program's functions do, each as a Lean function, shown of the loaded code; or a statement's row over that; no condition of its own. -/
import Derived.Test.YtoiihpmncphplaaPGoodsKnowx8
namespace Go.Proofs.Ytoiihpmncphplaa.PGoodsKnow
open Go Go.RowKit Go.Proofs.YtoiihpmncphplaaV
set_option linter.unusedVariables false
set_option linter.unusedSimpArgs false

set_option maxHeartbeats 4000000 in
set_option maxRecDepth 100000 in
theorem goods_Units.ok (k : Nat) (a0_0 : ByteArray) (a0_1 : ByteArray) (a0_2 : Int) (a0_3 : Int) (a0_4 : Int) (a1 : Int)  (r1 : Int) (r2 : Int) (h : goods_Units.f k a0_0 a0_1 a0_2 a0_3 a0_4 a1 = some (r1, r2)) :
    VCalls Try.prog 7 [.agg #[.string a0_0, .string a0_1, .int .i64 a0_2, .int .i64 a0_3, .int .i64 a0_4], .int .i64 a1] [] (fun v G own => v = .tuple #[.int .i64 r1, .int .i64 r2] ∧ G = [] ∧ own = []) := by
  refine VCalls.intro Try.func7 rfl (len rfl) fun E hC => ?_
  unfold goods_Units.f at h
  refine VC.seq ?_
  refine VC.region ?_
  refine VL.sG (o_box rfl (.agg (.of rfl)) (ltn rfl)) rfl ?_
  intro g9720
  refine VL.va (op_assign rfl (ltn rfl)) rfl ?_
  refine VL.va (op_assign rfl (ltn rfl)) rfl ?_
  refine VL.done ?_
  refine VN.then ?_
  refine VC.seq ?_
  refine VC.seq ?_
  refine VC.region ?_
  refine VL.va (op_load 0 5 rfl rfl TI23 rfl (fun h => absurd h (by decide)) (ltn rfl)) rfl ?_
  replace h := Option.bind_eq_some_iff.1 h
  obtain ⟨t9739, hA9740, h⟩ := h
  refine VL.sC (o_call0 FO23 (goods_may.ok k a0_0 a0_1 a0_2 a0_3 a0_4 t9739 hA9740) rfl rfl (ltn rfl) (All_of .nil)) rfl ?_
  rintro _ _ _ ⟨rfl, rfl, rfl⟩
  by_cases c9741 : t9739 = true
  · rw [if_pos c9741] at h
    obtain rfl := c9741
    refine VL.va (op_not rfl rfl (ltn rfl)) rfl ?_
    refine VL.va (op_move rfl (ltn rfl)) rfl ?_
    refine VL.va (op_move rfl (ltn rfl)) rfl ?_
    replace h := Option.bind_eq_some_iff.1 h
    obtain ⟨t9742, hA9743, h⟩ := h
    refine VL.sC (o_call0 FO24 (goods_in.ok a1 1073741824 t9742 hA9743) rfl rfl (ltn rfl) (All_of .nil)) rfl ?_
    rintro _ _ _ ⟨rfl, rfl, rfl⟩
    by_cases c9744 : t9742 = true
    · rw [if_pos c9744] at h
      obtain rfl := c9744
      refine VL.va (op_not rfl rfl (ltn rfl)) rfl ?_
      refine VL.va (op_pick rfl rfl (ltn rfl)) rfl ?_
      refine VL.done ?_
      refine VN.then ?_
      refine VC.cond_f rfl ?_
      refine VC.skip ?_
      refine VN.then ?_
      refine VC.seq ?_
      refine VC.region ?_
      refine VL.va (op_move rfl (ltn rfl)) rfl ?_
      refine VL.va (op_fieldAddr FI23_3 rfl (add_at _ _ _) (ltn rfl)) rfl ?_
      refine VL.va (op_load 0 1 rfl rfl TI3 rfl (by decide) (ltn rfl)) rfl ?_
      refine VL.va (op_ari64 rfl rfl rfl (ltn rfl)) rfl ?_
      refine VL.va (op_fieldAddr FI23_4 rfl (add_at _ _ _) (ltn rfl)) rfl ?_
      refine VL.va (op_load 0 1 rfl rfl TI3 rfl (by decide) (ltn rfl)) rfl ?_
      refine VL.va (op_ari64 rfl rfl rfl (ltn rfl)) rfl ?_
      refine VL.va (op_ari64 rfl rfl rfl (ltn rfl)) rfl ?_
      refine VL.va (op_fieldAddr FI23_4 rfl (add_at _ _ _) (ltn rfl)) rfl ?_
      refine VL.va (op_load 0 1 rfl rfl TI3 rfl (by decide) (ltn rfl)) rfl ?_
      by_cases c9745 : a0_4 ≠ 0
      · rw [if_pos c9745] at h
        refine VL.va (op_quo rfl rfl c9745 rfl (ltn rfl)) rfl ?_
        refine VL.va (op_assign rfl (ltn rfl)) rfl ?_
        refine VL.done ?_
        refine VN.then ?_
        refine VC.seq ?_
        refine VC.seq ?_
        refine VC.region ?_
        refine VL.va (op_move rfl (ltn rfl)) rfl ?_
        refine VL.letter (decide ((IntKind.i64.wrap ((wrap64 ((wrap64 ((wrap64 (a1 * a0_3)) + a0_4)) - 1)).tdiv a0_4)) > 1073741824)) fun b9748 hb9748 => ?_
        refine VL.va (op_cmp rfl rfl (congrArg some hb9748) (ltn rfl)) rfl ?_
        refine VL.done ?_
        refine VN.then ?_
        by_cases c9749 : (IntKind.i64.wrap ((wrap64 ((wrap64 ((wrap64 (a1 * a0_3)) + a0_4)) - 1)).tdiv a0_4)) > 1073741824
        · rw [if_pos c9749] at h
          obtain rfl : b9748 = true := hb9748.symm.trans (decide_eq_true c9749)
          refine VC.cond_t rfl ?_
          refine VC.seq ?_
          refine VC.region ?_
          refine VL.va (op_assign rfl (ltn rfl)) rfl ?_
          refine VL.va (op_assign rfl (ltn rfl)) rfl ?_
          refine VL.done ?_
          refine VN.then ?_
          refine VC.ret ?_
          refine VR.then ?_
          simp only [Option.some.injEq, Prod.mk.injEq] at h
          obtain ⟨rfl, rfl⟩ := h
          exact VR.fn (rs := [.tmp 4, .tmp 5]) [] [] [] rfl (.tmp rfl (.tmp rfl .nil)) ⟨rfl, rfl, rfl⟩ trivial rfl (by decide)
        · rw [if_neg c9749] at h
          obtain rfl : b9748 = false := hb9748.symm.trans (decide_eq_false c9749)
          refine VC.cond_f rfl ?_
          refine VC.skip ?_
          refine VN.then ?_
          refine VC.seq ?_
          refine VC.region ?_
          refine VL.va (op_move rfl (ltn rfl)) rfl ?_
          refine VL.va (op_assign rfl (ltn rfl)) rfl ?_
          refine VL.va (op_assign rfl (ltn rfl)) rfl ?_
          refine VL.done ?_
          refine VN.then ?_
          refine VC.ret ?_
          simp only [Option.some.injEq, Prod.mk.injEq] at h
          obtain ⟨rfl, rfl⟩ := h
          exact VR.fn (rs := [.tmp 4, .tmp 5]) [] [] [] rfl (.tmp rfl (.tmp rfl .nil)) ⟨rfl, rfl, rfl⟩ trivial rfl (by decide)
      · rw [if_neg c9745] at h; cases h
    · rw [if_neg c9744] at h
      obtain rfl := Bool.eq_false_iff.2 c9744
      refine VL.va (op_not rfl rfl (ltn rfl)) rfl ?_
      refine VL.va (op_pick rfl rfl (ltn rfl)) rfl ?_
      refine VL.done ?_
      refine VN.then ?_
      refine VC.cond_t rfl ?_
      refine VC.seq ?_
      refine VC.region ?_
      refine VL.va (op_assign rfl (ltn rfl)) rfl ?_
      refine VL.va (op_assign rfl (ltn rfl)) rfl ?_
      refine VL.done ?_
      refine VN.then ?_
      refine VC.ret ?_
      refine VR.then ?_
      simp only [Option.some.injEq, Prod.mk.injEq] at h
      obtain ⟨rfl, rfl⟩ := h
      exact VR.fn (rs := [.tmp 4, .tmp 5]) [] [] [] rfl (.tmp rfl (.tmp rfl .nil)) ⟨rfl, rfl, rfl⟩ trivial rfl (by decide)
  · rw [if_neg c9741] at h
    obtain rfl := Bool.eq_false_iff.2 c9741
    refine VL.va (op_not rfl rfl (ltn rfl)) rfl ?_
    refine VL.va (op_move rfl (ltn rfl)) rfl ?_
    refine VL.un rfl rfl (ltn rfl) ?_
    refine VL.un rfl rfl (ltn rfl) ?_
    refine VL.un rfl rfl (ltn rfl) ?_
    refine VL.va (op_pick rfl rfl (ltn rfl)) rfl ?_
    refine VL.done ?_
    refine VN.then ?_
    refine VC.cond_t rfl ?_
    refine VC.seq ?_
    refine VC.region ?_
    refine VL.va (op_assign rfl (ltn rfl)) rfl ?_
    refine VL.va (op_assign rfl (ltn rfl)) rfl ?_
    refine VL.done ?_
    refine VN.then ?_
    refine VC.ret ?_
    refine VR.then ?_
    simp only [Option.some.injEq, Prod.mk.injEq] at h
    obtain ⟨rfl, rfl⟩ := h
    exact VR.fn (rs := [.tmp 4, .tmp 5]) [] [] [] rfl (.tmp rfl (.tmp rfl .nil)) ⟨rfl, rfl, rfl⟩ trivial rfl (by decide)
set_option maxHeartbeats 4000000 in
set_option maxRecDepth 100000 in
theorem tarrylaw07_alive.ok (k : Nat)   (r1 : Bool) (h : tarrylaw07_alive.f k = some r1) :
    VCalls Try.prog 9 [] [] (fun v G own => v = .bool r1 ∧ G = [] ∧ own = []) := by
  refine VCalls.intro Try.func9 rfl (len rfl) fun E hC => ?_
  unfold tarrylaw07_alive.f at h
  refine VC.seq ?_
  refine VC.region ?_
  refine VL.va (op_assign rfl (ltn rfl)) rfl ?_
  refine VL.done ?_
  refine VN.then ?_
  refine VC.seq ?_
  refine VC.region ?_
  refine VL.va (op_build (vals := [(0, .string (⟨#[97]⟩ : ByteArray)), (1, .string (⟨#[98]⟩ : ByteArray)), (2, .int .i64 1), (3, .int .i64 3), (4, .int .i64 2)]) (vcs := [(0, [.string (⟨#[97]⟩ : ByteArray)]), (1, [.string (⟨#[98]⟩ : ByteArray)]), (2, [.int .i64 1]), (3, [.int .i64 3]), (4, [.int .i64 2])]) (cells := [.string (⟨#[97]⟩ : ByteArray), .string (⟨#[98]⟩ : ByteArray), .int .i64 1, .int .i64 3, .int .i64 2]) SI23 rfl (.cons ⟨rfl, (.c rfl)⟩ (.cons ⟨rfl, (.c rfl)⟩ (.cons ⟨rfl, (.c rfl)⟩ (.cons ⟨rfl, (.c rfl)⟩ (.cons ⟨rfl, (.c rfl)⟩ .nil))))) (by kernel_rfl) (ltn rfl)) rfl ?_
  replace h := Option.bind_eq_some_iff.1 h
  obtain ⟨⟨t9750, t9751⟩, hA9752, h⟩ := h
  dsimp only at h
  refine VL.sC (o_call0 FO7 (goods_Units.ok k (⟨#[97]⟩ : ByteArray) (⟨#[98]⟩ : ByteArray) 1 3 2 5 t9750 t9751 hA9752) rfl rfl (ltn rfl) (All_of .nil)) rfl ?_
  rintro _ _ _ ⟨rfl, rfl, rfl⟩
  refine VL.va (op_move rfl (ltn rfl)) rfl ?_
  refine VL.va (op_extract rfl rfl (ltn rfl)) rfl ?_
  refine VL.va (op_extract rfl rfl (ltn rfl)) rfl ?_
  refine VL.va (op_assign rfl (ltn rfl)) rfl ?_
  refine VL.va (op_assign rfl (ltn rfl)) rfl ?_
  refine VL.done ?_
  refine VN.then ?_
  refine VC.seq ?_
  refine VC.region ?_
  refine VL.va (op_move rfl (ltn rfl)) rfl ?_
  refine VL.letter ((t9751 == 0)) fun b9756 hb9756 => ?_
  refine VL.va (op_cmp rfl rfl (congrArg some hb9756) (ltn rfl)) rfl ?_
  refine VL.va (op_move rfl (ltn rfl)) rfl ?_
  by_cases c9757 : t9751 = 0
  · rw [if_pos c9757] at h
    obtain rfl : b9756 = true := hb9756.symm.trans (beq_iff_eq.2 c9757)
    refine VL.va (op_move rfl (ltn rfl)) rfl ?_
    refine VL.letter ((t9750 == 8)) fun b9758 hb9758 => ?_
    refine VL.va (op_cmp rfl rfl (congrArg some hb9758) (ltn rfl)) rfl ?_
    refine VL.va (op_pick rfl rfl (ltn rfl)) rfl ?_
    refine VL.va (op_assign rfl (ltn rfl)) rfl ?_
    refine VL.done ?_
    refine VN.then ?_
    refine VC.ret ?_
    obtain rfl := Option.some.inj h
    subst hb9758
    exact VR.fn (rs := [.tmp 0]) [] [] [] rfl (.tmp rfl .nil) ⟨rfl, rfl, rfl⟩ trivial rfl (by decide)
  · rw [if_neg c9757] at h
    obtain rfl : b9756 = false := hb9756.symm.trans (beq_eq_false_iff_ne.2 c9757)
    refine VL.un rfl rfl (ltn rfl) ?_
    refine VL.un rfl rfl (ltn rfl) ?_
    refine VL.va (op_pick rfl rfl (ltn rfl)) rfl ?_
    refine VL.va (op_assign rfl (ltn rfl)) rfl ?_
    refine VL.done ?_
    refine VN.then ?_
    refine VC.ret ?_
    obtain rfl := Option.some.inj h
    exact VR.fn (rs := [.tmp 0]) [] [] [] rfl (.tmp rfl .nil) ⟨rfl, rfl, rfl⟩ trivial rfl (by decide)
set_option maxHeartbeats 4000000 in
set_option maxRecDepth 100000 in
theorem tarryref07_Like.ok (k : Nat) (l0_0 : List ByteArray) (l0_1 : List S22) (l1_0 : List ByteArray) (l1_1 : List S22) (v0_0 : Value) (v0_1 : Value) (v1_0 : Value) (v1_1 : Value) (r1 : Bool) (h : tarryref07_Like.f k l0_0 l0_1 l1_0 l1_1 = some r1) :
    VCalls Try.prog 15 [.agg #[v0_0, v0_1], .agg #[v1_0, v1_1]] [.row v0_0 1 (l0_0.map enc_str), .row v0_1 5 (l0_1.map enc22), .row v1_0 1 (l1_0.map enc_str), .row v1_1 5 (l1_1.map enc22)] (fun v G own => v = .bool r1 ∧ G = [] ∧ own = []) := by
  refine VCalls.intro Try.func15 rfl (len rfl) fun E hC => ?_
  unfold tarryref07_Like.f at h
  refine VC.seq ?_
  refine VC.region ?_
  refine VL.sG (o_box rfl (.agg (.f 0 rfl (.f 1 rfl .nil))) (ltn rfl)) rfl ?_
  intro g9789
  refine VL.sG (o_box rfl (.agg (.f 2 rfl (.f 3 rfl .nil))) (ltn rfl)) rfl ?_
  intro g9790
  refine VL.va (op_assign rfl (ltn rfl)) rfl ?_
  refine VL.done ?_
  refine VN.then ?_
  refine VC.seq ?_
  refine VC.seq ?_
  refine VC.region ?_
  refine VL.va (op_fieldAddr FI35_0 rfl (add_at _ _ _) (ltn rfl)) rfl ?_
  refine VL.va (op_load 1 1 rfl rfl TI32 rfl (by decide) (ltn rfl)) rfl ?_
  refine VL.va (op_len (m := l0_0.length) 0 lenm Try.underlying32 rfl rfl (ltn rfl)) rfl ?_
  refine VL.va (op_fieldAddr FI35_0 rfl (add_at _ _ _) (ltn rfl)) rfl ?_
  refine VL.va (op_load 0 1 rfl rfl TI32 rfl (by decide) (ltn rfl)) rfl ?_
  refine VL.va (op_len (m := l1_0.length) 2 lenm Try.underlying32 rfl rfl (ltn rfl)) rfl ?_
  refine VL.letter (((l0_0.length : Int) != (l1_0.length : Int))) fun b9801 hb9801 => ?_
  refine VL.va (op_cmp rfl rfl (congrArg some hb9801) (ltn rfl)) rfl ?_
  refine VL.va (op_move rfl (ltn rfl)) rfl ?_
  by_cases c9802 : (l0_0.length : Int) = (l1_0.length : Int)
  · rw [if_pos c9802] at h
    obtain rfl : b9801 = false := hb9801.symm.trans (bne_eq_false_iff_eq.2 c9802)
    refine VL.va (op_fieldAddr FI35_1 rfl (add_at _ _ _) (ltn rfl)) rfl ?_
    refine VL.va (op_load 1 1 rfl rfl TI33 rfl (by decide) (ltn rfl)) rfl ?_
    refine VL.va (op_len (m := l0_1.length) 1 lenm Try.underlying33 rfl rfl (ltn rfl)) rfl ?_
    refine VL.va (op_fieldAddr FI35_1 rfl (add_at _ _ _) (ltn rfl)) rfl ?_
    refine VL.va (op_load 0 1 rfl rfl TI33 rfl (by decide) (ltn rfl)) rfl ?_
    refine VL.va (op_len (m := l1_1.length) 3 lenm Try.underlying33 rfl rfl (ltn rfl)) rfl ?_
    refine VL.letter (((l0_1.length : Int) != (l1_1.length : Int))) fun b9803 hb9803 => ?_
    refine VL.va (op_cmp rfl rfl (congrArg some hb9803) (ltn rfl)) rfl ?_
    refine VL.va (op_pick rfl rfl (ltn rfl)) rfl ?_
    refine VL.done ?_
    refine VN.then ?_
    by_cases c9804 : (l0_1.length : Int) = (l1_1.length : Int)
    · rw [if_pos c9804] at h
      obtain rfl : b9803 = false := hb9803.symm.trans (bne_eq_false_iff_eq.2 c9804)
      refine VC.cond_f rfl ?_
      refine VC.skip ?_
      refine VN.then ?_
      refine VC.seq ?_
      refine VC.seq ?_
      refine VC.region ?_
      refine VL.va (op_fieldAddr FI35_0 rfl (add_at _ _ _) (ltn rfl)) rfl ?_
      refine VL.va (op_load 1 1 rfl rfl TI32 rfl (by decide) (ltn rfl)) rfl ?_
      refine VL.va (op_len (m := l0_0.length) 0 lenm Try.underlying32 rfl rfl (ltn rfl)) rfl ?_
      refine VL.va (op_move rfl (ltn rfl)) rfl ?_
      refine VL.done ?_
      refine VN.then ?_
      refine VC.block ?_
      refine VC.loop1 (fun (i9858 : Int) => ⟨59, [(2, .pointer (some ⟨g9789, 0, none⟩)), (3, .pointer (some ⟨g9790, 0, none⟩)), (4, .bool false), (25, .int .i64 (l0_0.length : Int)), (26, .int .i64 i9858)], [.row v1_0 1 (l1_0.map enc_str), .row v1_1 5 (l1_1.map enc22), .row v0_0 1 (l0_0.map enc_str), .row v0_1 5 (l0_1.map enc22)], [(g9790, 35, [v1_0, v1_1]), (g9789, 35, [v0_0, v0_1])], []⟩) (fun (ml1 : Nat) (i9858 : Int) => tarryref07_Like.l1 k l0_0 l0_1 l1_0 l1_1 ml1 i9858 = some r1) k 0 [0, 1] [] h ⟨rfl, ⟨rfl, rfl, rfl, rfl, rfl, trivial⟩, ⟨⟨2, rfl⟩, ⟨3, rfl⟩, ⟨0, rfl⟩, ⟨1, rfl⟩, trivial⟩, rfl, by decide, rfl, by decide⟩ (by intros; simp [tarryref07_Like.l1]) ?_
      clear h
      intro ml1 ihl1 i9858 h
      simp only [tarryref07_Like.l1] at h
      refine VC.seq ?_
      refine VC.region ?_
      refine VL.letter (decide (i9858 < (l0_0.length : Int))) fun b9872 hb9872 => ?_
      refine VL.va (op_cmp rfl rfl (congrArg some hb9872) (ltn rfl)) rfl ?_
      refine VL.done ?_
      refine VN.then ?_
      refine VC.seq ?_
      by_cases c9954 : i9858 < (l0_0.length : Int)
      · rw [if_pos c9954] at h
        obtain rfl : b9872 = true := hb9872.symm.trans (decide_eq_true c9954)
        refine VC.cond_t rfl ?_
        refine VC.skip ?_
        refine VN.then ?_
        refine VC.seq ?_
        refine VC.block ?_
        refine VC.seq ?_
        refine VC.region ?_
        refine VL.va (op_move rfl (ltn rfl)) rfl ?_
        refine VL.va (op_assign rfl (ltn rfl)) rfl ?_
        refine VL.done ?_
        refine VN.then ?_
        by_cases c9960 : 0 ≤ i9858
        · rw [if_pos c9960] at h
          replace h := Option.bind_eq_some_iff.1 h
          obtain ⟨x9961, hx9961, h⟩ := h
          replace h := Option.bind_eq_some_iff.1 h
          obtain ⟨x9962, hx9962, h⟩ := h
          refine VC.letter ((x9961 != x9962)) fun b9963 hb9963 => ?_
          refine VC.open (m := l0_0.length) 2 lenm rfl (pos_get hx9961) ?_
          rintro ad9809 n9810 rfl
          refine VC.open (m := l1_0.length) 0 lenm rfl (pos_get hx9962) ?_
          rintro ad9812 n9813 rfl
          refine VC.join0 (⟨59, [(2, .pointer (some ⟨g9789, 0, none⟩)), (3, .pointer (some ⟨g9790, 0, none⟩)), (4, .bool false), (5, .int .i64 i9858), (25, .int .i64 (l0_0.length : Int)), (26, .int .i64 i9858), (27, .bool true), (28, .int .i64 i9858), (29, .pointer (some ⟨g9789, 0, none⟩)), (30, (.slice (some ad9809) l0_0.length n9810)), (31, .int .i64 i9858), (33, .string x9961), (34, .pointer (some ⟨g9790, 0, none⟩)), (35, (.slice (some ad9812) l1_0.length n9813)), (36, .int .i64 i9858), (38, .string x9962), (39, .bool b9963)], [.row (.slice (some ad9812) l1_0.length n9813) 1 (l1_0.map enc_str), .row v1_1 5 (l1_1.map enc22), .row (.slice (some ad9809) l0_0.length n9810) 1 (l0_0.map enc_str), .row v0_1 5 (l0_1.map enc22)], [(g9790, 35, [(.slice (some ad9812) l1_0.length n9813), v1_1]), (g9789, 35, [(.slice (some ad9809) l0_0.length n9810), v0_1])], []⟩) (True) ?_ ?_
          · refine VC.draw ⟨0, [], [.row (.slice (some ad9812) l1_0.length n9813) 1 (l1_0.map enc_str), .row (.slice (some ad9809) l0_0.length n9810) 1 (l0_0.map enc_str)], [(g9790, 35, [(.slice (some ad9812) l1_0.length n9813), v1_1]), (g9789, 35, [(.slice (some ad9809) l0_0.length n9810), v0_1])], []⟩ (by kernel_rfl) rfl (by kernel_rfl) (n := 11) (listed := LB 11 0) ?_
            refine VA.va (i := 0) (listed' := LB 11 1) rfl (op_fieldAddr FI35_0 rfl (add_at _ _ _) (ltn rfl)) rfl (by kernel_rfl) (by kernel_rfl) (by kernel_rfl) (by kernel_rfl) ⟨⟨⟨0, rfl⟩, ⟨2, rfl⟩, trivial⟩, ⟨⟨0, rfl⟩, ⟨1, rfl⟩, trivial⟩, trivial⟩ (fun _ _ _ h => h) ?_
            refine VA.va (i := 1) (listed' := LB 11 3) rfl (op_load 1 1 rfl rfl TI32 rfl (by decide) (ltn rfl)) rfl (by kernel_rfl) (by kernel_rfl) (by kernel_rfl) (by kernel_rfl) ⟨⟨⟨0, rfl⟩, ⟨2, rfl⟩, trivial⟩, ⟨⟨0, rfl⟩, ⟨1, rfl⟩, trivial⟩, trivial⟩ (fun _ _ _ h => h) ?_
            refine VA.va (i := 2) (listed' := LB 11 7) rfl (op_move rfl (ltn rfl)) rfl (by kernel_rfl) (by kernel_rfl) (by kernel_rfl) (by kernel_rfl) ⟨⟨⟨0, rfl⟩, ⟨2, rfl⟩, trivial⟩, ⟨⟨0, rfl⟩, ⟨1, rfl⟩, trivial⟩, trivial⟩ (fun _ _ _ h => h) ?_
            refine VA.va (i := 3) (listed' := LB 11 15) rfl (op_indexAddr Try.underlying32 TI9 rfl rfl c9960 (lt_get c9960 hx9961) rfl (ltn rfl)) rfl (by kernel_rfl) (by kernel_rfl) (by kernel_rfl) (by kernel_rfl) ⟨⟨⟨0, rfl⟩, ⟨2, rfl⟩, trivial⟩, ⟨⟨0, rfl⟩, ⟨1, rfl⟩, trivial⟩, trivial⟩ (fun _ _ _ h => h) ?_
            refine VA.va (i := 4) (listed' := LB 11 31) rfl (op_load_row (sz := 1) (o := 0) 1 i9858.toNat 1 rfl rfl (get_map hx9961) TI9 rfl (by decide) (ltn rfl)) rfl (by kernel_rfl) (by kernel_rfl) (by kernel_rfl) (by kernel_rfl) ⟨⟨⟨0, rfl⟩, ⟨2, rfl⟩, trivial⟩, ⟨⟨0, rfl⟩, ⟨1, rfl⟩, trivial⟩, trivial⟩ (fun _ _ _ h => h) ?_
            refine VA.va (i := 5) (listed' := LB 11 63) rfl (op_fieldAddr FI35_0 rfl (add_at _ _ _) (ltn rfl)) rfl (by kernel_rfl) (by kernel_rfl) (by kernel_rfl) (by kernel_rfl) ⟨⟨⟨0, rfl⟩, ⟨2, rfl⟩, trivial⟩, ⟨⟨0, rfl⟩, ⟨1, rfl⟩, trivial⟩, trivial⟩ (fun _ _ _ h => h) ?_
            refine VA.va (i := 6) (listed' := LB 11 127) rfl (op_load 0 1 rfl rfl TI32 rfl (by decide) (ltn rfl)) rfl (by kernel_rfl) (by kernel_rfl) (by kernel_rfl) (by kernel_rfl) ⟨⟨⟨0, rfl⟩, ⟨2, rfl⟩, trivial⟩, ⟨⟨0, rfl⟩, ⟨1, rfl⟩, trivial⟩, trivial⟩ (fun _ _ _ h => h) ?_
            refine VA.va (i := 7) (listed' := LB 11 255) rfl (op_move rfl (ltn rfl)) rfl (by kernel_rfl) (by kernel_rfl) (by kernel_rfl) (by kernel_rfl) ⟨⟨⟨0, rfl⟩, ⟨2, rfl⟩, trivial⟩, ⟨⟨0, rfl⟩, ⟨1, rfl⟩, trivial⟩, trivial⟩ (fun _ _ _ h => h) ?_
            refine VA.va (i := 8) (listed' := LB 11 511) rfl (op_indexAddr Try.underlying32 TI9 rfl rfl c9960 (lt_get c9960 hx9962) rfl (ltn rfl)) rfl (by kernel_rfl) (by kernel_rfl) (by kernel_rfl) (by kernel_rfl) ⟨⟨⟨0, rfl⟩, ⟨2, rfl⟩, trivial⟩, ⟨⟨0, rfl⟩, ⟨1, rfl⟩, trivial⟩, trivial⟩ (fun _ _ _ h => h) ?_
            refine VA.va (i := 9) (listed' := LB 11 1023) rfl (op_load_row (sz := 1) (o := 0) 0 i9858.toNat 1 rfl rfl (get_map hx9962) TI9 rfl (by decide) (ltn rfl)) rfl (by kernel_rfl) (by kernel_rfl) (by kernel_rfl) (by kernel_rfl) ⟨⟨⟨0, rfl⟩, ⟨2, rfl⟩, trivial⟩, ⟨⟨0, rfl⟩, ⟨1, rfl⟩, trivial⟩, trivial⟩ (fun _ _ _ h => h) ?_
            refine VA.va (i := 10) (listed' := LB 11 2047) rfl (op_cmps rfl rfl (congrArg some hb9963) (ltn rfl)) rfl (by kernel_rfl) (by kernel_rfl) (by kernel_rfl) (by kernel_rfl) ⟨⟨⟨0, rfl⟩, ⟨2, rfl⟩, trivial⟩, ⟨⟨0, rfl⟩, ⟨1, rfl⟩, trivial⟩, trivial⟩ (fun _ _ _ h => h) ?_
            refine VA.done (by kernel_rfl) ?_
            exact VN.meet0  [0, 1] [] trivial ⟨rfl, ⟨rfl, rfl, rfl, rfl, rfl, rfl, rfl, rfl, rfl, rfl, rfl, rfl, rfl, rfl, rfl, rfl, rfl, trivial⟩, ⟨⟨0, rfl⟩, ⟨1, rfl⟩, ⟨2, rfl⟩, ⟨3, rfl⟩, trivial⟩, rfl, by decide, rfl, by decide⟩
          intro _
          by_cases c9964 : (x9961 == x9962) = true
          · rw [if_pos c9964] at h
            obtain rfl : b9963 = false := hb9963.symm.trans (bne_of_t c9964)
            refine VC.cond_f rfl ?_
            refine VC.skip ?_
            refine VN.block ?_
            refine VN.then ?_
            refine VC.region ?_
            refine VL.va (op_ari64 rfl rfl rfl (ltn rfl)) rfl ?_
            refine VL.va (op_move rfl (ltn rfl)) rfl ?_
            refine VL.done ?_
            refine VN.again [0, 1] [] (ihl1 (wrap64 (i9858 + 1)) h) ⟨rfl, ⟨rfl, rfl, rfl, rfl, rfl, trivial⟩, ⟨⟨0, rfl⟩, ⟨1, rfl⟩, ⟨2, rfl⟩, ⟨3, rfl⟩, trivial⟩, rfl, by decide, rfl, by decide⟩
          · rw [if_neg c9964] at h
            obtain rfl : b9963 = true := hb9963.symm.trans (bne_of_f c9964)
            refine VC.cond_t rfl ?_
            refine VC.seq ?_
            refine VC.region ?_
            refine VL.va (op_assign rfl (ltn rfl)) rfl ?_
            refine VL.done ?_
            refine VN.then ?_
            refine VC.ret ?_
            refine VR.block ?_
            refine VR.then ?_
            refine VR.then ?_
            refine VR.block ?_
            refine VR.then ?_
            obtain rfl := Option.some.inj h
            exact VR.fn (rs := [.tmp 4]) [] [] [] rfl (.tmp rfl .nil) ⟨rfl, rfl, rfl⟩ trivial rfl (by decide)
        · rw [if_neg c9960] at h; cases h
      · rw [if_neg c9954] at h
        obtain rfl : b9872 = false := hb9872.symm.trans (decide_eq_false c9954)
        refine VC.cond_f rfl ?_
        refine VC.exit ?_
        refine VX.then ?_
        refine VX.then ?_
        refine VX.hit ?_
        refine VN.then ?_
        refine VC.seq ?_
        refine VC.seq ?_
        refine VC.region ?_
        refine VL.va (op_fieldAddr FI35_1 rfl (add_at _ _ _) (ltn rfl)) rfl ?_
        refine VL.va (op_load 1 1 rfl rfl TI33 rfl (by decide) (ltn rfl)) rfl ?_
        refine VL.va (op_len (m := l0_1.length) 3 lenm Try.underlying33 rfl rfl (ltn rfl)) rfl ?_
        refine VL.va (op_move rfl (ltn rfl)) rfl ?_
        refine VL.done ?_
        refine VN.then ?_
        refine VC.block ?_
        refine VC.loop1 (fun (i10014 : Int) => ⟨59, [(2, .pointer (some ⟨g9789, 0, none⟩)), (3, .pointer (some ⟨g9790, 0, none⟩)), (4, .bool false), (43, .int .i64 (l0_1.length : Int)), (44, .int .i64 i10014)], [.row v1_0 1 (l1_0.map enc_str), .row v1_1 5 (l1_1.map enc22), .row v0_0 1 (l0_0.map enc_str), .row v0_1 5 (l0_1.map enc22)], [(g9790, 35, [v1_0, v1_1]), (g9789, 35, [v0_0, v0_1])], []⟩) (fun (ml5 : Nat) (i10014 : Int) => tarryref07_Like.l5 k l0_1 l1_1 ml5 i10014 = some r1) k 0 [0, 1] [] h ⟨rfl, ⟨rfl, rfl, rfl, rfl, rfl, trivial⟩, ⟨⟨0, rfl⟩, ⟨1, rfl⟩, ⟨2, rfl⟩, ⟨3, rfl⟩, trivial⟩, rfl, by decide, rfl, by decide⟩ (by intros; simp [tarryref07_Like.l5]) ?_
        clear h
        intro ml5 ihl5 i10014 h
        simp only [tarryref07_Like.l5] at h
        refine VC.seq ?_
        refine VC.region ?_
        refine VL.letter (decide (i10014 < (l0_1.length : Int))) fun b10028 hb10028 => ?_
        refine VL.va (op_cmp rfl rfl (congrArg some hb10028) (ltn rfl)) rfl ?_
        refine VL.done ?_
        refine VN.then ?_
        refine VC.seq ?_
        by_cases c10030 : i10014 < (l0_1.length : Int)
        · rw [if_pos c10030] at h
          obtain rfl : b10028 = true := hb10028.symm.trans (decide_eq_true c10030)
          refine VC.cond_t rfl ?_
          refine VC.skip ?_
          refine VN.then ?_
          refine VC.seq ?_
          refine VC.block ?_
          refine VC.seq ?_
          refine VC.region ?_
          refine VL.va (op_move rfl (ltn rfl)) rfl ?_
          refine VL.va (op_assign rfl (ltn rfl)) rfl ?_
          refine VL.done ?_
          refine VN.then ?_
          by_cases c10036 : 0 ≤ i10014
          · rw [if_pos c10036] at h
            replace h := Option.bind_eq_some_iff.1 h
            obtain ⟨x10037, hx10037, h⟩ := h
            replace h := Option.bind_eq_some_iff.1 h
            obtain ⟨x10038, hx10038, h⟩ := h
            refine VC.letter ((!(((x10037.f0 == x10038.f0) && ((x10037.f1 == x10038.f1) && ((x10037.f2 == x10038.f2) && ((x10037.f3 == x10038.f3) && (x10037.f4 == x10038.f4)))))))) fun b10039 hb10039 => ?_
            refine VC.open (m := l0_1.length) 3 lenm rfl (pos_get hx10037) ?_
            rintro ad9878 n9879 rfl
            refine VC.open (m := l1_1.length) 1 lenm rfl (pos_get hx10038) ?_
            rintro ad9881 n9882 rfl
            refine VC.join0 (⟨59, [(2, .pointer (some ⟨g9789, 0, none⟩)), (3, .pointer (some ⟨g9790, 0, none⟩)), (4, .bool false), (6, .int .i64 i10014), (43, .int .i64 (l0_1.length : Int)), (44, .int .i64 i10014), (45, .bool true), (46, .int .i64 i10014), (47, .pointer (some ⟨g9789, 1, none⟩)), (48, (.slice (some ad9878) l0_1.length n9879)), (49, .int .i64 i10014), (51, .agg #[.string x10037.f0, .string x10037.f1, .int .i64 x10037.f2, .int .i64 x10037.f3, .int .i64 x10037.f4]), (52, .pointer (some ⟨g9790, 1, none⟩)), (53, (.slice (some ad9881) l1_1.length n9882)), (54, .int .i64 i10014), (56, .agg #[.string x10038.f0, .string x10038.f1, .int .i64 x10038.f2, .int .i64 x10038.f3, .int .i64 x10038.f4]), (57, .bool b10039)], [.row v1_0 1 (l1_0.map enc_str), .row (.slice (some ad9881) l1_1.length n9882) 5 (l1_1.map enc22), .row v0_0 1 (l0_0.map enc_str), .row (.slice (some ad9878) l0_1.length n9879) 5 (l0_1.map enc22)], [(g9790, 35, [v1_0, (.slice (some ad9881) l1_1.length n9882)]), (g9789, 35, [v0_0, (.slice (some ad9878) l0_1.length n9879)])], []⟩) (True) ?_ ?_
            · refine VC.draw ⟨0, [], [.row (.slice (some ad9881) l1_1.length n9882) 5 (l1_1.map enc22), .row (.slice (some ad9878) l0_1.length n9879) 5 (l0_1.map enc22)], [(g9790, 35, [v1_0, (.slice (some ad9881) l1_1.length n9882)]), (g9789, 35, [v0_0, (.slice (some ad9878) l0_1.length n9879)])], []⟩ (by kernel_rfl) rfl (by kernel_rfl) (n := 11) (listed := LB 11 0) ?_
              refine VA.va (i := 0) (listed' := LB 11 1) rfl (op_fieldAddr FI35_1 rfl (add_at _ _ _) (ltn rfl)) rfl (by kernel_rfl) (by kernel_rfl) (by kernel_rfl) (by kernel_rfl) ⟨⟨⟨1, rfl⟩, ⟨3, rfl⟩, trivial⟩, ⟨⟨0, rfl⟩, ⟨1, rfl⟩, trivial⟩, trivial⟩ (fun _ _ _ h => h) ?_
              refine VA.va (i := 1) (listed' := LB 11 3) rfl (op_load 1 1 rfl rfl TI33 rfl (by decide) (ltn rfl)) rfl (by kernel_rfl) (by kernel_rfl) (by kernel_rfl) (by kernel_rfl) ⟨⟨⟨1, rfl⟩, ⟨3, rfl⟩, trivial⟩, ⟨⟨0, rfl⟩, ⟨1, rfl⟩, trivial⟩, trivial⟩ (fun _ _ _ h => h) ?_
              refine VA.va (i := 2) (listed' := LB 11 7) rfl (op_move rfl (ltn rfl)) rfl (by kernel_rfl) (by kernel_rfl) (by kernel_rfl) (by kernel_rfl) ⟨⟨⟨1, rfl⟩, ⟨3, rfl⟩, trivial⟩, ⟨⟨0, rfl⟩, ⟨1, rfl⟩, trivial⟩, trivial⟩ (fun _ _ _ h => h) ?_
              refine VA.va (i := 3) (listed' := LB 11 15) rfl (op_indexAddr Try.underlying33 TI23 rfl rfl c10036 (lt_get c10036 hx10037) rfl (ltn rfl)) rfl (by kernel_rfl) (by kernel_rfl) (by kernel_rfl) (by kernel_rfl) ⟨⟨⟨1, rfl⟩, ⟨3, rfl⟩, trivial⟩, ⟨⟨0, rfl⟩, ⟨1, rfl⟩, trivial⟩, trivial⟩ (fun _ _ _ h => h) ?_
              refine VA.va (i := 4) (listed' := LB 11 31) rfl (op_load_row (sz := 5) (o := 0) 1 i10014.toNat 5 rfl rfl (get_map hx10037) TI23 rfl (fun h => absurd h (by decide)) (ltn rfl)) rfl (by kernel_rfl) (by kernel_rfl) (by kernel_rfl) (by kernel_rfl) ⟨⟨⟨1, rfl⟩, ⟨3, rfl⟩, trivial⟩, ⟨⟨0, rfl⟩, ⟨1, rfl⟩, trivial⟩, trivial⟩ (fun _ _ _ h => h) ?_
              refine VA.va (i := 5) (listed' := LB 11 63) rfl (op_fieldAddr FI35_1 rfl (add_at _ _ _) (ltn rfl)) rfl (by kernel_rfl) (by kernel_rfl) (by kernel_rfl) (by kernel_rfl) ⟨⟨⟨1, rfl⟩, ⟨3, rfl⟩, trivial⟩, ⟨⟨0, rfl⟩, ⟨1, rfl⟩, trivial⟩, trivial⟩ (fun _ _ _ h => h) ?_
              refine VA.va (i := 6) (listed' := LB 11 127) rfl (op_load 0 1 rfl rfl TI33 rfl (by decide) (ltn rfl)) rfl (by kernel_rfl) (by kernel_rfl) (by kernel_rfl) (by kernel_rfl) ⟨⟨⟨1, rfl⟩, ⟨3, rfl⟩, trivial⟩, ⟨⟨0, rfl⟩, ⟨1, rfl⟩, trivial⟩, trivial⟩ (fun _ _ _ h => h) ?_
              refine VA.va (i := 7) (listed' := LB 11 255) rfl (op_move rfl (ltn rfl)) rfl (by kernel_rfl) (by kernel_rfl) (by kernel_rfl) (by kernel_rfl) ⟨⟨⟨1, rfl⟩, ⟨3, rfl⟩, trivial⟩, ⟨⟨0, rfl⟩, ⟨1, rfl⟩, trivial⟩, trivial⟩ (fun _ _ _ h => h) ?_
              refine VA.va (i := 8) (listed' := LB 11 511) rfl (op_indexAddr Try.underlying33 TI23 rfl rfl c10036 (lt_get c10036 hx10038) rfl (ltn rfl)) rfl (by kernel_rfl) (by kernel_rfl) (by kernel_rfl) (by kernel_rfl) ⟨⟨⟨1, rfl⟩, ⟨3, rfl⟩, trivial⟩, ⟨⟨0, rfl⟩, ⟨1, rfl⟩, trivial⟩, trivial⟩ (fun _ _ _ h => h) ?_
              refine VA.va (i := 9) (listed' := LB 11 1023) rfl (op_load_row (sz := 5) (o := 0) 0 i10014.toNat 5 rfl rfl (get_map hx10038) TI23 rfl (fun h => absurd h (by decide)) (ltn rfl)) rfl (by kernel_rfl) (by kernel_rfl) (by kernel_rfl) (by kernel_rfl) ⟨⟨⟨1, rfl⟩, ⟨3, rfl⟩, trivial⟩, ⟨⟨0, rfl⟩, ⟨1, rfl⟩, trivial⟩, trivial⟩ (fun _ _ _ h => h) ?_
              refine VA.va (i := 10) (listed' := LB 11 2047) rfl (op_neS rfl rfl EG23 (EQ23 x10037.f0 x10037.f1 x10037.f2 x10037.f3 x10037.f4 x10038.f0 x10038.f1 x10038.f2 x10038.f3 x10038.f4) hb10039 (ltn rfl)) rfl (by kernel_rfl) (by kernel_rfl) (by kernel_rfl) (by kernel_rfl) ⟨⟨⟨1, rfl⟩, ⟨3, rfl⟩, trivial⟩, ⟨⟨0, rfl⟩, ⟨1, rfl⟩, trivial⟩, trivial⟩ (fun _ _ _ h => h) ?_
              refine VA.done (by kernel_rfl) ?_
              exact VN.meet0  [0, 1] [] trivial ⟨rfl, ⟨rfl, rfl, rfl, rfl, rfl, rfl, rfl, rfl, rfl, rfl, rfl, rfl, rfl, rfl, rfl, rfl, rfl, trivial⟩, ⟨⟨0, rfl⟩, ⟨1, rfl⟩, ⟨2, rfl⟩, ⟨3, rfl⟩, trivial⟩, rfl, by decide, rfl, by decide⟩
            intro _
            by_cases c10040 : (((x10037.f0 == x10038.f0) && ((x10037.f1 == x10038.f1) && ((x10037.f2 == x10038.f2) && ((x10037.f3 == x10038.f3) && (x10037.f4 == x10038.f4)))))) = true
            · rw [if_pos c10040] at h
              obtain rfl : b10039 = false := hb10039.symm.trans (not_t c10040)
              refine VC.cond_f rfl ?_
              refine VC.skip ?_
              refine VN.block ?_
              refine VN.then ?_
              refine VC.region ?_
              refine VL.va (op_ari64 rfl rfl rfl (ltn rfl)) rfl ?_
              refine VL.va (op_move rfl (ltn rfl)) rfl ?_
              refine VL.done ?_
              refine VN.again [0, 1] [] (ihl5 (wrap64 (i10014 + 1)) h) ⟨rfl, ⟨rfl, rfl, rfl, rfl, rfl, trivial⟩, ⟨⟨0, rfl⟩, ⟨1, rfl⟩, ⟨2, rfl⟩, ⟨3, rfl⟩, trivial⟩, rfl, by decide, rfl, by decide⟩
            · rw [if_neg c10040] at h
              obtain rfl : b10039 = true := hb10039.symm.trans (not_f c10040)
              refine VC.cond_t rfl ?_
              refine VC.seq ?_
              refine VC.region ?_
              refine VL.va (op_assign rfl (ltn rfl)) rfl ?_
              refine VL.done ?_
              refine VN.then ?_
              refine VC.ret ?_
              refine VR.block ?_
              refine VR.then ?_
              refine VR.then ?_
              refine VR.block ?_
              refine VR.then ?_
              obtain rfl := Option.some.inj h
              exact VR.fn (rs := [.tmp 4]) [] [] [] rfl (.tmp rfl .nil) ⟨rfl, rfl, rfl⟩ trivial rfl (by decide)
          · rw [if_neg c10036] at h; cases h
        · rw [if_neg c10030] at h
          obtain rfl : b10028 = false := hb10028.symm.trans (decide_eq_false c10030)
          refine VC.cond_f rfl ?_
          refine VC.exit ?_
          refine VX.then ?_
          refine VX.then ?_
          refine VX.hit ?_
          refine VN.then ?_
          refine VC.seq ?_
          refine VC.region ?_
          refine VL.va (op_assign rfl (ltn rfl)) rfl ?_
          refine VL.done ?_
          refine VN.then ?_
          refine VC.ret ?_
          obtain rfl := Option.some.inj h
          exact VR.fn (rs := [.tmp 4]) [] [] [] rfl (.tmp rfl .nil) ⟨rfl, rfl, rfl⟩ trivial rfl (by decide)
    · rw [if_neg c9804] at h
      obtain rfl : b9803 = true := hb9803.symm.trans (bne_iff_ne.2 c9804)
      refine VC.cond_t rfl ?_
      refine VC.seq ?_
      refine VC.region ?_
      refine VL.va (op_assign rfl (ltn rfl)) rfl ?_
      refine VL.done ?_
      refine VN.then ?_
      refine VC.ret ?_
      refine VR.then ?_
      obtain rfl := Option.some.inj h
      exact VR.fn (rs := [.tmp 4]) [] [] [] rfl (.tmp rfl .nil) ⟨rfl, rfl, rfl⟩ trivial rfl (by decide)
  · rw [if_neg c9802] at h
    obtain rfl : b9801 = true := hb9801.symm.trans (bne_iff_ne.2 c9802)
    refine VL.un rfl rfl (ltn rfl) ?_
    refine VL.un rfl rfl (ltn rfl) ?_
    refine VL.un rfl rfl (ltn rfl) ?_
    refine VL.un rfl rfl (ltn rfl) ?_
    refine VL.un rfl rfl (ltn rfl) ?_
    refine VL.un rfl rfl (ltn rfl) ?_
    refine VL.un rfl rfl (ltn rfl) ?_
    refine VL.va (op_pick rfl rfl (ltn rfl)) rfl ?_
    refine VL.done ?_
    refine VN.then ?_
    refine VC.cond_t rfl ?_
    refine VC.seq ?_
    refine VC.region ?_
    refine VL.va (op_assign rfl (ltn rfl)) rfl ?_
    refine VL.done ?_
    refine VN.then ?_
    refine VC.ret ?_
    refine VR.then ?_
    obtain rfl := Option.some.inj h
    exact VR.fn (rs := [.tmp 4]) [] [] [] rfl (.tmp rfl .nil) ⟨rfl, rfl, rfl⟩ trivial rfl (by decide)
set_option maxHeartbeats 4000000 in
set_option maxRecDepth 100000 in
theorem tarryref07_For.ok (k : Nat) (l0_0 : List ByteArray) (l0_1 : List S22) (a1 : ByteArray) (v0_0 : Value) (v0_1 : Value) (r1 : List S22) (h : tarryref07_For.f k l0_0 l0_1 a1 = some r1) :
    VCalls Try.prog 21 [.agg #[v0_0, v0_1], .string a1] [.row v0_0 1 (l0_0.map enc_str), .row v0_1 5 (l0_1.map enc22)] (fun v G own => ∃ w0 : Value, v = w0 ∧ G = [] ∧ own = [(w0, 23, 5, r1.map enc22)]) := by
  refine VCalls.intro Try.func21 rfl (len rfl) fun E hC => ?_
  unfold tarryref07_For.f at h
  refine VC.seq ?_
  refine VC.region ?_
  refine VL.sG (o_box rfl (.agg (.f 0 rfl (.f 1 rfl .nil))) (ltn rfl)) rfl ?_
  intro g10117
  refine VL.va (op_assign rfl (ltn rfl)) rfl ?_
  refine VL.done ?_
  refine VN.then ?_
  refine VC.seq ?_
  refine VC.region ?_
  refine VL.sG (o_buildSlice (vals := []) (cells := #[]) (es := List.map enc22 ([] : List S22)) Try.underlying33 TI23 Z23 rfl (by decide) (by decide) (by kernel_rfl) (by kernel_rfl) rfl (flat_map enc22_ok _) (ltn rfl)) rfl ?_
  intro v10119
  refine VL.va (op_assign rfl (ltn rfl)) rfl ?_
  refine VL.done ?_
  refine VN.then ?_
  refine VC.seq ?_
  refine VC.seq ?_
  refine VC.region ?_
  refine VL.va (op_fieldAddr FI35_1 rfl (add_at _ _ _) (ltn rfl)) rfl ?_
  refine VL.va (op_load 0 1 rfl rfl TI33 rfl (by decide) (ltn rfl)) rfl ?_
  refine VL.va (op_len (m := l0_1.length) 1 lenm Try.underlying33 rfl rfl (ltn rfl)) rfl ?_
  refine VL.va (op_move rfl (ltn rfl)) rfl ?_
  refine VL.done ?_
  refine VN.then ?_
  refine VC.block ?_
  refine VC.loop3 (fun (v10229 : Value) (l10230 : List S22) (i10231 : Int) => ⟨26, [(1, .string a1), (4, .slice none 0 0), (5, v10229), (10, v0_1), (11, .int .i64 (l0_1.length : Int)), (12, .int .i64 i10231)], [.row v0_1 5 (l0_1.map enc22)], [], [(v10229, 23, 5, l10230.map enc22)]⟩) (fun (ml1 : Nat) (v10229 : Value) (l10230 : List S22) (i10231 : Int) => tarryref07_For.l1 k a1 l0_1 ml1 l10230 i10231 = some r1) k v10119 ([] : List S22) 0 [] [0] h ⟨rfl, ⟨rfl, rfl, rfl, rfl, rfl, rfl, trivial⟩, ⟨⟨1, rfl⟩, trivial⟩, rfl, by decide, rfl, by decide⟩ (by intros; simp [tarryref07_For.l1]) ?_
  clear h
  intro ml1 ihl1 v10229 l10230 i10231 h
  simp only [tarryref07_For.l1] at h
  refine VC.seq ?_
  refine VC.region ?_
  refine VL.letter (decide (i10231 < (l0_1.length : Int))) fun b10259 hb10259 => ?_
  refine VL.va (op_cmp rfl rfl (congrArg some hb10259) (ltn rfl)) rfl ?_
  refine VL.done ?_
  refine VN.then ?_
  refine VC.seq ?_
  by_cases c10261 : i10231 < (l0_1.length : Int)
  · rw [if_pos c10261] at h
    obtain rfl : b10259 = true := hb10259.symm.trans (decide_eq_true c10261)
    refine VC.cond_t rfl ?_
    refine VC.skip ?_
    refine VN.then ?_
    refine VC.seq ?_
    refine VC.block ?_
    refine VC.seq ?_
    refine VC.region ?_
    by_cases c10274 : 0 ≤ i10231
    · rw [if_pos c10274] at h
      replace h := Option.bind_eq_some_iff.1 h
      obtain ⟨x10275, hx10275, h⟩ := h
      refine VL.open (m := l0_1.length) 0 lenm rfl (pos_get hx10275) ?_
      rintro ad10276 n10277 rfl
      refine VL.va (op_indexAddr Try.underlying33 TI23 rfl rfl c10274 (lt_get c10274 hx10275) rfl (ltn rfl)) rfl ?_
      refine VL.va (op_load_row (sz := 5) (o := 0) 0 i10231.toNat 5 rfl rfl (get_map hx10275) TI23 rfl (fun h => absurd h (by decide)) (ltn rfl)) rfl ?_
      refine VL.sG (o_alloc Z23 ZL23 (ltn rfl)) rfl ?_
      intro g10278
      refine VL.step1 (o_store 0 5 rfl rfl rfl TI23 (.agg (.of rfl)) rfl (len rfl)) rfl ?_
      refine VL.done ?_
      refine VN.then ?_
      refine VC.seq ?_
      refine VC.region ?_
      refine VL.va (op_fieldAddr FI23_0 rfl (add_at _ _ _) (ltn rfl)) rfl ?_
      refine VL.va (op_load 0 1 rfl rfl TI9 rfl (by decide) (ltn rfl)) rfl ?_
      refine VL.va (op_move rfl (ltn rfl)) rfl ?_
      refine VL.letter ((x10275.f0 == a1)) fun b10279 hb10279 => ?_
      refine VL.va (op_cmps rfl rfl (congrArg some hb10279) (ltn rfl)) rfl ?_
      refine VL.done ?_
      refine VN.then ?_
      by_cases c10280 : (x10275.f0 == a1) = true
      · rw [if_pos c10280] at h
        obtain rfl : b10279 = true := hb10279.symm.trans (c10280)
        refine VC.cond_t rfl ?_
        refine VC.region ?_
        refine VL.va (op_move rfl (ltn rfl)) rfl ?_
        refine VL.va (op_load 0 5 rfl rfl TI23 rfl (fun h => absurd h (by decide)) (ltn rfl)) rfl ?_
        refine VL.sG (o_buildSlice (vals := [(0, .agg #[.string x10275.f0, .string x10275.f1, .int .i64 x10275.f2, .int .i64 x10275.f3, .int .i64 x10275.f4])]) (cells := #[.string x10275.f0, .string x10275.f1, .int .i64 x10275.f2, .int .i64 x10275.f3, .int .i64 x10275.f4]) (es := List.map enc22 ([x10275] : List S22)) Try.underlying33 TI23 Z23 rfl (by decide) (by decide) (by kernel_rfl) (by kernel_rfl) rfl (flat_map enc22_ok _) (ltn rfl)) rfl ?_
        intro v10282
        by_cases c10283 : (l10230.length + ([x10275] : List S22).length) * 56 ≤ 140737488355328
        · rw [if_pos c10283] at h
          refine VL.sG (o_append 1 appm Try.underlying33 EI23 rfl rfl rfl (.inr ⟨0, _, rfl⟩) (bndm c10283) (ltn rfl)) rfl ?_
          intro v10284
          refine VL.va (op_assign rfl (ltn rfl)) rfl ?_
          refine VL.done ?_
          refine VN.block ?_
          refine VN.then ?_
          refine VC.region ?_
          refine VL.va (op_ari64 rfl rfl rfl (ltn rfl)) rfl ?_
          refine VL.va (op_move rfl (ltn rfl)) rfl ?_
          refine VL.done ?_
          refine VN.again [] [1] (ihl1 v10284 (l10230 ++ ([x10275] : List S22)) (wrap64 (i10231 + 1)) h) ⟨rfl, ⟨rfl, rfl, rfl, rfl, rfl, rfl, trivial⟩, ⟨⟨0, rfl⟩, trivial⟩, rfl, by decide, rfl, by decide⟩
        · rw [if_neg c10283] at h; cases h
      · rw [if_neg c10280] at h
        obtain rfl : b10279 = false := hb10279.symm.trans (Bool.eq_false_iff.2 c10280)
        refine VC.cond_f rfl ?_
        refine VC.skip ?_
        refine VN.block ?_
        refine VN.then ?_
        refine VC.region ?_
        refine VL.va (op_ari64 rfl rfl rfl (ltn rfl)) rfl ?_
        refine VL.va (op_move rfl (ltn rfl)) rfl ?_
        refine VL.done ?_
        refine VN.again [] [0] (ihl1 v10229 l10230 (wrap64 (i10231 + 1)) h) ⟨rfl, ⟨rfl, rfl, rfl, rfl, rfl, rfl, trivial⟩, ⟨⟨0, rfl⟩, trivial⟩, rfl, by decide, rfl, by decide⟩
    · rw [if_neg c10274] at h; cases h
  · rw [if_neg c10261] at h
    obtain rfl : b10259 = false := hb10259.symm.trans (decide_eq_false c10261)
    refine VC.cond_f rfl ?_
    refine VC.exit ?_
    refine VX.then ?_
    refine VX.then ?_
    refine VX.hit ?_
    refine VN.then ?_
    refine VC.seq ?_
    refine VC.region ?_
    refine VL.va (op_move rfl (ltn rfl)) rfl ?_
    refine VL.va (op_assign rfl (ltn rfl)) rfl ?_
    refine VL.done ?_
    refine VN.then ?_
    refine VC.ret ?_
    obtain rfl := Option.some.inj h
    exact VR.fn (rs := [.tmp 4]) [] [(v10229, 23, 5, l10230.map enc22)] [0] rfl (.tmp rfl .nil) ⟨v10229, rfl, rfl, rfl⟩ trivial rfl (by decide)
set_option maxHeartbeats 4000000 in
set_option maxRecDepth 100000 in
theorem tarryref07_Rule.ok (k : Nat) (l0_0 : List ByteArray) (l0_1 : List S22) (a1_0 : ByteArray) (a1_1 : ByteArray) (a1_2 : Int) (a1_3 : Int) (a1_4 : Int) (v0_0 : Value) (v0_1 : Value) (r1 : List ByteArray) (r2 : List S22) (h : tarryref07_Rule.f k l0_0 l0_1 a1_0 a1_1 a1_2 a1_3 a1_4 = some (r1, r2)) :
    VCalls Try.prog 22 [.agg #[v0_0, v0_1], .agg #[.string a1_0, .string a1_1, .int .i64 a1_2, .int .i64 a1_3, .int .i64 a1_4]] [.row v0_0 1 (l0_0.map enc_str), .row v0_1 5 (l0_1.map enc22)] (fun v G own => ∃ w0 w1 : Value, v = .agg #[w0, w1] ∧ G = [.row w0 1 (r1.map enc_str)] ∧ own = [(w1, 23, 5, r2.map enc22)]) := by
  refine VCalls.intro Try.func22 rfl (len rfl) fun E hC => ?_
  unfold tarryref07_Rule.f at h
  refine VC.seq ?_
  refine VC.region ?_
  refine VL.sG (o_box rfl (.agg (.f 0 rfl (.f 1 rfl .nil))) (ltn rfl)) rfl ?_
  intro g10965
  refine VL.sG (o_box rfl (.agg (.of rfl)) (ltn rfl)) rfl ?_
  intro g10966
  refine VL.sG (o_alloc Z35 ZL35 (ltn rfl)) rfl ?_
  intro g10967
  refine VL.done ?_
  refine VN.then ?_
  refine VC.seq ?_
  refine VC.region ?_
  refine VL.sG (o_buildSlice (vals := []) (cells := #[]) (es := List.map enc22 ([] : List S22)) Try.underlying33 TI23 Z23 rfl (by decide) (by decide) (by kernel_rfl) (by kernel_rfl) rfl (flat_map enc22_ok _) (ltn rfl)) rfl ?_
  intro v10969
  refine VL.va (op_assign rfl (ltn rfl)) rfl ?_
  refine VL.done ?_
  refine VN.then ?_
  refine VC.seq ?_
  refine VC.region ?_
  refine VL.va (op_assign rfl (ltn rfl)) rfl ?_
  refine VL.done ?_
  refine VN.then ?_
  refine VC.seq ?_
  refine VC.seq ?_
  refine VC.region ?_
  refine VL.va (op_fieldAddr FI35_1 rfl (add_at _ _ _) (ltn rfl)) rfl ?_
  refine VL.va (op_load 2 1 rfl rfl TI33 rfl (by decide) (ltn rfl)) rfl ?_
  refine VL.va (op_len (m := l0_1.length) 1 lenm Try.underlying33 rfl rfl (ltn rfl)) rfl ?_
  refine VL.va (op_move rfl (ltn rfl)) rfl ?_
  refine VL.done ?_
  refine VN.then ?_
  refine VC.block ?_
  refine VC.loop4 (fun (v11300 : Value) (l11301 : List S22) (q11302 : Bool) (i11303 : Int) => ⟨42, [(2, .pointer (some ⟨g10965, 0, none⟩)), (3, .pointer (some ⟨g10966, 0, none⟩)), (4, .pointer (some ⟨g10967, 0, none⟩)), (5, v11300), (6, .bool q11302), (11, v0_1), (12, .int .i64 (l0_1.length : Int)), (13, .int .i64 i11303)], [.row v0_1 5 (l0_1.map enc22), .row v0_0 1 (l0_0.map enc_str)], [(g10967, 35, [.slice none 0 0, .slice none 0 0]), (g10966, 23, [.string a1_0, .string a1_1, .int .i64 a1_2, .int .i64 a1_3, .int .i64 a1_4]), (g10965, 35, [v0_0, v0_1])], [(v11300, 23, 5, l11301.map enc22)]⟩) (fun (ml1 : Nat) (v11300 : Value) (l11301 : List S22) (q11302 : Bool) (i11303 : Int) => tarryref07_Rule.l1 k a1_0 a1_1 a1_2 a1_3 a1_4 l0_0 l0_1 ml1 l11301 q11302 i11303 = some (r1, r2)) k v10969 ([] : List S22) false 0 [0, 1, 2] [0] h ⟨rfl, ⟨rfl, rfl, rfl, rfl, rfl, rfl, rfl, rfl, trivial⟩, ⟨⟨1, rfl⟩, ⟨0, rfl⟩, trivial⟩, rfl, by decide, rfl, by decide⟩ (by intros; simp [tarryref07_Rule.l1]) ?_
  clear h
  intro ml1 ihl1 v11300 l11301 q11302 i11303 h
  simp only [tarryref07_Rule.l1] at h
  refine VC.seq ?_
  refine VC.region ?_
  refine VL.letter (decide (i11303 < (l0_1.length : Int))) fun b11395 hb11395 => ?_
  refine VL.va (op_cmp rfl rfl (congrArg some hb11395) (ltn rfl)) rfl ?_
  refine VL.done ?_
  refine VN.then ?_
  refine VC.seq ?_
  by_cases c11411 : i11303 < (l0_1.length : Int)
  · rw [if_pos c11411] at h
    obtain rfl : b11395 = true := hb11395.symm.trans (decide_eq_true c11411)
    refine VC.cond_t rfl ?_
    refine VC.skip ?_
    refine VN.then ?_
    refine VC.seq ?_
    refine VC.block ?_
    refine VC.seq ?_
    refine VC.region ?_
    by_cases c11456 : 0 ≤ i11303
    · rw [if_pos c11456] at h
      replace h := Option.bind_eq_some_iff.1 h
      obtain ⟨x11457, hx11457, h⟩ := h
      refine VL.open (m := l0_1.length) 0 lenm rfl (pos_get hx11457) ?_
      rintro ad11458 n11459 rfl
      refine VL.va (op_indexAddr Try.underlying33 TI23 rfl rfl c11456 (lt_get c11456 hx11457) rfl (ltn rfl)) rfl ?_
      refine VL.va (op_load_row (sz := 5) (o := 0) 0 i11303.toNat 5 rfl rfl (get_map hx11457) TI23 rfl (fun h => absurd h (by decide)) (ltn rfl)) rfl ?_
      refine VL.sG (o_alloc Z23 ZL23 (ltn rfl)) rfl ?_
      intro g11460
      refine VL.step1 (o_store 0 5 rfl rfl rfl TI23 (.agg (.of rfl)) rfl (len rfl)) rfl ?_
      refine VL.done ?_
      refine VN.then ?_
      refine VC.seq ?_
      refine VC.seq ?_
      refine VC.region ?_
      refine VL.va (op_move rfl (ltn rfl)) rfl ?_
      by_cases c11476 : q11302 = true
      · rw [if_pos c11476] at h
        obtain rfl := c11476
        refine VL.va (op_not rfl rfl (ltn rfl)) rfl ?_
        refine VL.va (op_move rfl (ltn rfl)) rfl ?_
        refine VL.un rfl rfl (ltn rfl) ?_
        refine VL.un rfl rfl (ltn rfl) ?_
        refine VL.un rfl rfl (ltn rfl) ?_
        refine VL.va (op_pick rfl rfl (ltn rfl)) rfl ?_
        refine VL.done ?_
        refine VN.then ?_
        refine VC.cond_f rfl ?_
        refine VC.skip ?_
        refine VN.then ?_
        refine VC.region ?_
        refine VL.va (op_move rfl (ltn rfl)) rfl ?_
        refine VL.va (op_load 0 5 rfl rfl TI23 rfl (fun h => absurd h (by decide)) (ltn rfl)) rfl ?_
        refine VL.sG (o_buildSlice (vals := [(0, .agg #[.string x11457.f0, .string x11457.f1, .int .i64 x11457.f2, .int .i64 x11457.f3, .int .i64 x11457.f4])]) (cells := #[.string x11457.f0, .string x11457.f1, .int .i64 x11457.f2, .int .i64 x11457.f3, .int .i64 x11457.f4]) (es := List.map enc22 ([x11457] : List S22)) Try.underlying33 TI23 Z23 rfl (by decide) (by decide) (by kernel_rfl) (by kernel_rfl) rfl (flat_map enc22_ok _) (ltn rfl)) rfl ?_
        intro v11478
        by_cases c11479 : (l11301.length + ([x11457] : List S22).length) * 56 ≤ 140737488355328
        · rw [if_pos c11479] at h
          refine VL.sG (o_append 1 appm Try.underlying33 EI23 rfl rfl rfl (.inr ⟨0, _, rfl⟩) (bndm c11479) (ltn rfl)) rfl ?_
          intro v11480
          refine VL.va (op_assign rfl (ltn rfl)) rfl ?_
          refine VL.done ?_
          refine VN.block ?_
          refine VN.then ?_
          refine VC.region ?_
          refine VL.va (op_ari64 rfl rfl rfl (ltn rfl)) rfl ?_
          refine VL.va (op_move rfl (ltn rfl)) rfl ?_
          refine VL.done ?_
          refine VN.again [1, 2, 3] [1] (ihl1 v11480 (l11301 ++ ([x11457] : List S22)) true (wrap64 (i11303 + 1)) h) ⟨rfl, ⟨rfl, rfl, rfl, rfl, rfl, rfl, rfl, rfl, trivial⟩, ⟨⟨0, rfl⟩, ⟨1, rfl⟩, trivial⟩, rfl, by decide, rfl, by decide⟩
        · rw [if_neg c11479] at h; cases h
      · rw [if_neg c11476] at h
        obtain rfl := Bool.eq_false_iff.2 c11476
        refine VL.va (op_not rfl rfl (ltn rfl)) rfl ?_
        refine VL.va (op_move rfl (ltn rfl)) rfl ?_
        refine VL.va (op_load 0 5 rfl rfl TI23 rfl (fun h => absurd h (by decide)) (ltn rfl)) rfl ?_
        refine VL.va (op_load 2 5 rfl rfl TI23 rfl (fun h => absurd h (by decide)) (ltn rfl)) rfl ?_
        replace h := Option.bind_eq_some_iff.1 h
        obtain ⟨t11482, hA11483, h⟩ := h
        refine VL.sC (o_call0 FO42 (tarryref07_above.ok k x11457.f0 x11457.f1 x11457.f2 x11457.f3 x11457.f4 a1_0 a1_1 a1_2 a1_3 a1_4 t11482 hA11483) rfl rfl (ltn rfl) (All_of .nil)) rfl ?_
        rintro _ _ _ ⟨rfl, rfl, rfl⟩
        refine VL.va (op_pick rfl rfl (ltn rfl)) rfl ?_
        refine VL.done ?_
        refine VN.then ?_
        by_cases c11484 : t11482 = true
        · rw [if_pos c11484] at h
          obtain rfl := c11484
          refine VC.cond_t rfl ?_
          refine VC.seq ?_
          refine VC.region ?_
          refine VL.va (op_move rfl (ltn rfl)) rfl ?_
          refine VL.va (op_load 2 5 rfl rfl TI23 rfl (fun h => absurd h (by decide)) (ltn rfl)) rfl ?_
          refine VL.sG (o_buildSlice (vals := [(0, .agg #[.string a1_0, .string a1_1, .int .i64 a1_2, .int .i64 a1_3, .int .i64 a1_4])]) (cells := #[.string a1_0, .string a1_1, .int .i64 a1_2, .int .i64 a1_3, .int .i64 a1_4]) (es := List.map enc22 ([(⟨a1_0, a1_1, a1_2, a1_3, a1_4⟩ : S22)] : List S22)) Try.underlying33 TI23 Z23 rfl (by decide) (by decide) (by kernel_rfl) (by kernel_rfl) rfl (flat_map enc22_ok _) (ltn rfl)) rfl ?_
          intro v11486
          by_cases c11487 : (l11301.length + ([(⟨a1_0, a1_1, a1_2, a1_3, a1_4⟩ : S22)] : List S22).length) * 56 ≤ 140737488355328
          · rw [if_pos c11487] at h
            refine VL.sG (o_append 1 appm Try.underlying33 EI23 rfl rfl rfl (.inr ⟨0, _, rfl⟩) (bndm c11487) (ltn rfl)) rfl ?_
            intro v11488
            refine VL.va (op_assign rfl (ltn rfl)) rfl ?_
            refine VL.done ?_
            refine VN.then ?_
            refine VC.region ?_
            refine VL.va (op_assign rfl (ltn rfl)) rfl ?_
            refine VL.done ?_
            refine VN.then ?_
            refine VC.region ?_
            refine VL.va (op_move rfl (ltn rfl)) rfl ?_
            refine VL.va (op_load 0 5 rfl rfl TI23 rfl (fun h => absurd h (by decide)) (ltn rfl)) rfl ?_
            refine VL.sG (o_buildSlice (vals := [(0, .agg #[.string x11457.f0, .string x11457.f1, .int .i64 x11457.f2, .int .i64 x11457.f3, .int .i64 x11457.f4])]) (cells := #[.string x11457.f0, .string x11457.f1, .int .i64 x11457.f2, .int .i64 x11457.f3, .int .i64 x11457.f4]) (es := List.map enc22 ([x11457] : List S22)) Try.underlying33 TI23 Z23 rfl (by decide) (by decide) (by kernel_rfl) (by kernel_rfl) rfl (flat_map enc22_ok _) (ltn rfl)) rfl ?_
            intro v11491
            by_cases c11492 : ((l11301 ++ ([(⟨a1_0, a1_1, a1_2, a1_3, a1_4⟩ : S22)] : List S22)).length + ([x11457] : List S22).length) * 56 ≤ 140737488355328
            · rw [if_pos c11492] at h
              refine VL.sG (o_append 2 appm Try.underlying33 EI23 rfl rfl rfl (.inr ⟨0, _, rfl⟩) (bndm c11492) (ltn rfl)) rfl ?_
              intro v11493
              refine VL.va (op_assign rfl (ltn rfl)) rfl ?_
              refine VL.done ?_
              refine VN.block ?_
              refine VN.then ?_
              refine VC.region ?_
              refine VL.va (op_ari64 rfl rfl rfl (ltn rfl)) rfl ?_
              refine VL.va (op_move rfl (ltn rfl)) rfl ?_
              refine VL.done ?_
              refine VN.again [1, 2, 3] [2] (ihl1 v11493 ((l11301 ++ ([(⟨a1_0, a1_1, a1_2, a1_3, a1_4⟩ : S22)] : List S22)) ++ ([x11457] : List S22)) true (wrap64 (i11303 + 1)) h) ⟨rfl, ⟨rfl, rfl, rfl, rfl, rfl, rfl, rfl, rfl, trivial⟩, ⟨⟨0, rfl⟩, ⟨1, rfl⟩, trivial⟩, rfl, by decide, rfl, by decide⟩
            · rw [if_neg c11492] at h; cases h
          · rw [if_neg c11487] at h; cases h
        · rw [if_neg c11484] at h
          obtain rfl := Bool.eq_false_iff.2 c11484
          refine VC.cond_f rfl ?_
          refine VC.skip ?_
          refine VN.then ?_
          refine VC.region ?_
          refine VL.va (op_move rfl (ltn rfl)) rfl ?_
          refine VL.va (op_load 0 5 rfl rfl TI23 rfl (fun h => absurd h (by decide)) (ltn rfl)) rfl ?_
          refine VL.sG (o_buildSlice (vals := [(0, .agg #[.string x11457.f0, .string x11457.f1, .int .i64 x11457.f2, .int .i64 x11457.f3, .int .i64 x11457.f4])]) (cells := #[.string x11457.f0, .string x11457.f1, .int .i64 x11457.f2, .int .i64 x11457.f3, .int .i64 x11457.f4]) (es := List.map enc22 ([x11457] : List S22)) Try.underlying33 TI23 Z23 rfl (by decide) (by decide) (by kernel_rfl) (by kernel_rfl) rfl (flat_map enc22_ok _) (ltn rfl)) rfl ?_
          intro v11496
          by_cases c11497 : (l11301.length + ([x11457] : List S22).length) * 56 ≤ 140737488355328
          · rw [if_pos c11497] at h
            refine VL.sG (o_append 1 appm Try.underlying33 EI23 rfl rfl rfl (.inr ⟨0, _, rfl⟩) (bndm c11497) (ltn rfl)) rfl ?_
            intro v11498
            refine VL.va (op_assign rfl (ltn rfl)) rfl ?_
            refine VL.done ?_
            refine VN.block ?_
            refine VN.then ?_
            refine VC.region ?_
            refine VL.va (op_ari64 rfl rfl rfl (ltn rfl)) rfl ?_
            refine VL.va (op_move rfl (ltn rfl)) rfl ?_
            refine VL.done ?_
            refine VN.again [1, 2, 3] [1] (ihl1 v11498 (l11301 ++ ([x11457] : List S22)) false (wrap64 (i11303 + 1)) h) ⟨rfl, ⟨rfl, rfl, rfl, rfl, rfl, rfl, rfl, rfl, trivial⟩, ⟨⟨0, rfl⟩, ⟨1, rfl⟩, trivial⟩, rfl, by decide, rfl, by decide⟩
          · rw [if_neg c11497] at h; cases h
    · rw [if_neg c11456] at h; cases h
  · rw [if_neg c11411] at h
    obtain rfl : b11395 = false := hb11395.symm.trans (decide_eq_false c11411)
    refine VC.cond_f rfl ?_
    refine VC.exit ?_
    refine VX.then ?_
    refine VX.then ?_
    refine VX.hit ?_
    refine VN.then ?_
    refine VC.seq ?_
    refine VC.seq ?_
    refine VC.region ?_
    refine VL.va (op_move rfl (ltn rfl)) rfl ?_
    by_cases c11508 : q11302 = true
    · rw [if_pos c11508] at h
      obtain rfl := c11508
      refine VL.va (op_not rfl rfl (ltn rfl)) rfl ?_
      refine VL.done ?_
      refine VN.then ?_
      refine VC.cond_f rfl ?_
      refine VC.skip ?_
      refine VN.then ?_
      refine VC.seq ?_
      refine VC.region ?_
      refine VL.va (op_move rfl (ltn rfl)) rfl ?_
      refine VL.va (op_fieldAddr FI35_1 rfl (add_at _ _ _) (ltn rfl)) rfl ?_
      refine VL.step1 (o_store 2 1 rfl rfl rfl TI33 (.r 0 rfl) rfl (len rfl)) rfl ?_
      refine VL.done ?_
      refine VN.then ?_
      refine VC.seq ?_
      refine VC.region ?_
      refine VL.va (op_load 2 2 rfl rfl TI35 rfl (fun h => absurd h (by decide)) (ltn rfl)) rfl ?_
      refine VL.step1 (o_store 0 2 rfl rfl rfl TI35 (.agg (.f 1 rfl (.r 0 rfl .nil))) rfl (len rfl)) rfl ?_
      refine VL.done ?_
      refine VN.then ?_
      refine VC.ret ?_
      simp only [Option.some.injEq, Prod.mk.injEq] at h
      obtain ⟨rfl, rfl⟩ := h
      exact VR.fn (rs := [.cell 4 35]) [.row v0_0 1 (l0_0.map enc_str)] [(v11300, 23, 5, l11301.map enc22)] [0] rfl (.cell 0 rfl rfl TI35 (fun h => absurd h (by decide)) .nil) ⟨v0_0, v11300, rfl, rfl, rfl⟩ ⟨⟨1, rfl⟩, trivial⟩ rfl (by decide)
    · rw [if_neg c11508] at h
      obtain rfl := Bool.eq_false_iff.2 c11508
      refine VL.va (op_not rfl rfl (ltn rfl)) rfl ?_
      refine VL.done ?_
      refine VN.then ?_
      refine VC.cond_t rfl ?_
      refine VC.region ?_
      refine VL.va (op_move rfl (ltn rfl)) rfl ?_
      refine VL.va (op_load 1 5 rfl rfl TI23 rfl (fun h => absurd h (by decide)) (ltn rfl)) rfl ?_
      refine VL.sG (o_buildSlice (vals := [(0, .agg #[.string a1_0, .string a1_1, .int .i64 a1_2, .int .i64 a1_3, .int .i64 a1_4])]) (cells := #[.string a1_0, .string a1_1, .int .i64 a1_2, .int .i64 a1_3, .int .i64 a1_4]) (es := List.map enc22 ([(⟨a1_0, a1_1, a1_2, a1_3, a1_4⟩ : S22)] : List S22)) Try.underlying33 TI23 Z23 rfl (by decide) (by decide) (by kernel_rfl) (by kernel_rfl) rfl (flat_map enc22_ok _) (ltn rfl)) rfl ?_
      intro v11510
      by_cases c11511 : (l11301.length + ([(⟨a1_0, a1_1, a1_2, a1_3, a1_4⟩ : S22)] : List S22).length) * 56 ≤ 140737488355328
      · rw [if_pos c11511] at h
        refine VL.sG (o_append 1 appm Try.underlying33 EI23 rfl rfl rfl (.inr ⟨0, _, rfl⟩) (bndm c11511) (ltn rfl)) rfl ?_
        intro v11512
        refine VL.va (op_assign rfl (ltn rfl)) rfl ?_
        refine VL.done ?_
        refine VN.then ?_
        refine VC.seq ?_
        refine VC.region ?_
        refine VL.va (op_move rfl (ltn rfl)) rfl ?_
        refine VL.va (op_fieldAddr FI35_1 rfl (add_at _ _ _) (ltn rfl)) rfl ?_
        refine VL.step1 (o_store 2 1 rfl rfl rfl TI33 (.r 1 rfl) rfl (len rfl)) rfl ?_
        refine VL.done ?_
        refine VN.then ?_
        refine VC.seq ?_
        refine VC.region ?_
        refine VL.va (op_load 2 2 rfl rfl TI35 rfl (fun h => absurd h (by decide)) (ltn rfl)) rfl ?_
        refine VL.step1 (o_store 0 2 rfl rfl rfl TI35 (.agg (.f 1 rfl (.r 1 rfl .nil))) rfl (len rfl)) rfl ?_
        refine VL.done ?_
        refine VN.then ?_
        refine VC.ret ?_
        simp only [Option.some.injEq, Prod.mk.injEq] at h
        obtain ⟨rfl, rfl⟩ := h
        exact VR.fn (rs := [.cell 4 35]) [.row v0_0 1 (l0_0.map enc_str)] [(v11512, 23, 5, (l11301 ++ ([(⟨a1_0, a1_1, a1_2, a1_3, a1_4⟩ : S22)] : List S22)).map enc22)] [1] rfl (.cell 0 rfl rfl TI35 (fun h => absurd h (by decide)) .nil) ⟨v0_0, v11512, rfl, rfl, rfl⟩ ⟨⟨1, rfl⟩, trivial⟩ rfl (by decide)
      · rw [if_neg c11511] at h; cases h

end Go.Proofs.Ytoiihpmncphplaa.PGoodsKnow
