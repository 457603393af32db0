/- Written by a program of this repo: what the program's functions do, each as a Lean function, shown of the loaded code; or a statement's row over that; no condition of its own. -/
import Derived.Test.YtibpoajlnloloaaPStockMovesx6
namespace Go.Proofs.Ytibpoajlnloloaa.PStockMoves
open Go Go.RowKit Go.Proofs.YtibpoajlnloloaaV
set_option linter.unusedVariables false
set_option linter.unusedSimpArgs false

set_option maxHeartbeats 4000000 in
set_option maxRecDepth 100000 in
theorem tarryref08_units.ok (a0 : Int)  (r1 : Bool) (h : tarryref08_units.f a0 = some r1) :
    VCalls Try.prog 32 [.int .i64 a0] [] (fun v G own => v = .bool r1 ∧ G = [] ∧ own = []) := by
  refine VCalls.intro Try.func32 rfl (len rfl) fun E hC => ?_
  unfold tarryref08_units.f at h
  refine VC.seq ?_
  refine VC.region ?_
  refine VL.va (op_assign rfl (ltn rfl)) rfl ?_
  refine VL.done ?_
  refine VN.then ?_
  refine VC.seq ?_
  refine VC.region ?_
  refine VL.va (op_move rfl (ltn rfl)) rfl ?_
  refine VL.letter (decide (a0 ≥ 1)) fun b3424 hb3424 => ?_
  refine VL.va (op_cmp rfl rfl (congrArg some hb3424) (ltn rfl)) rfl ?_
  refine VL.va (op_move rfl (ltn rfl)) rfl ?_
  by_cases c3425 : a0 ≥ 1
  · rw [if_pos c3425] at h
    obtain rfl : b3424 = true := hb3424.symm.trans (decide_eq_true c3425)
    refine VL.va (op_move rfl (ltn rfl)) rfl ?_
    refine VL.letter (decide (a0 ≤ 1073741824)) fun b3426 hb3426 => ?_
    refine VL.va (op_cmp rfl rfl (congrArg some hb3426) (ltn rfl)) rfl ?_
    refine VL.va (op_pick rfl rfl (ltn rfl)) rfl ?_
    refine VL.va (op_assign rfl (ltn rfl)) rfl ?_
    refine VL.done ?_
    refine VN.then ?_
    refine VC.ret ?_
    obtain rfl := Option.some.inj h
    subst hb3426
    exact VR.fn (rs := [.tmp 2]) [] [] [] rfl (.tmp rfl .nil) ⟨rfl, rfl, rfl⟩ trivial rfl (by decide)
  · rw [if_neg c3425] at h
    obtain rfl : b3424 = false := hb3424.symm.trans (decide_eq_false c3425)
    refine VL.un rfl rfl (ltn rfl) ?_
    refine VL.un rfl rfl (ltn rfl) ?_
    refine VL.va (op_pick rfl rfl (ltn rfl)) rfl ?_
    refine VL.va (op_assign rfl (ltn rfl)) rfl ?_
    refine VL.done ?_
    refine VN.then ?_
    refine VC.ret ?_
    obtain rfl := Option.some.inj h
    exact VR.fn (rs := [.tmp 2]) [] [] [] rfl (.tmp rfl .nil) ⟨rfl, rfl, rfl⟩ trivial rfl (by decide)
set_option maxHeartbeats 4000000 in
set_option maxRecDepth 100000 in
theorem tarryref08_Get.ok (k : Nat) (l0 : List S32) (a1 : ByteArray) (v0 : Value) (r1 : ByteArray) (r2 : Int) (r3 : Int) (r4 : Int) (r5 : Int) (r6 : Int) (h : tarryref08_Get.f k l0 a1 = some (r1, r2, r3, r4, r5, r6)) :
    VCalls Try.prog 20 [v0, .string a1] [.row v0 6 (l0.map enc32)] (fun v G own => v = .agg #[.string r1, .int .i64 r2, .int .i64 r3, .int .i64 r4, .int .i64 r5, .int .i64 r6] ∧ G = [] ∧ own = []) := by
  refine VCalls.intro Try.func20 rfl (len rfl) fun E hC => ?_
  unfold tarryref08_Get.f at h
  refine VC.seq ?_
  refine VC.region ?_
  refine VL.sG (o_alloc (us := [.string (⟨#[]⟩ : ByteArray), .int .i64 0, .int .i64 0, .int .i64 0, .int .i64 0, .int .i64 0]) Z33 rfl (ltn rfl)) rfl ?_
  intro g3464
  refine VL.done ?_
  refine VN.then ?_
  refine VC.seq ?_
  refine VC.seq ?_
  refine VC.region ?_
  refine VL.va (op_move rfl (ltn rfl)) rfl ?_
  refine VL.va (op_len (m := l0.length) 0 lenm Try.underlying23 rfl rfl (ltn rfl)) rfl ?_
  refine VL.va (op_move rfl (ltn rfl)) rfl ?_
  refine VL.done ?_
  refine VN.then ?_
  refine VC.block ?_
  refine VC.loop1 (fun (i3530 : Int) => ⟨20, [(1, .string a1), (4, .pointer (some ⟨g3464, 0, none⟩)), (7, v0), (8, .int .i64 (l0.length : Int)), (9, .int .i64 i3530)], [.row v0 6 (l0.map enc32)], [(g3464, 33, [.string (⟨#[]⟩ : ByteArray), .int .i64 0, .int .i64 0, .int .i64 0, .int .i64 0, .int .i64 0])], []⟩) (fun (ml1 : Nat) (i3530 : Int) => tarryref08_Get.l1 k a1 l0 ml1 i3530 = some (r1, r2, r3, r4, r5, r6)) k 0 [0] [] h ⟨rfl, ⟨rfl, rfl, rfl, rfl, rfl, trivial⟩, ⟨⟨0, rfl⟩, trivial⟩, rfl, by decide, rfl, by decide⟩ (by intros; simp [tarryref08_Get.l1]) ?_
  clear h
  intro ml1 ihl1 i3530 h
  simp only [tarryref08_Get.l1] at h
  refine VC.seq ?_
  refine VC.region ?_
  refine VL.letter (decide (i3530 < (l0.length : Int))) fun b3548 hb3548 => ?_
  refine VL.va (op_cmp rfl rfl (congrArg some hb3548) (ltn rfl)) rfl ?_
  refine VL.done ?_
  refine VN.then ?_
  refine VC.seq ?_
  by_cases c3550 : i3530 < (l0.length : Int)
  · rw [if_pos c3550] at h
    obtain rfl : b3548 = true := hb3548.symm.trans (decide_eq_true c3550)
    refine VC.cond_t rfl ?_
    refine VC.skip ?_
    refine VN.then ?_
    refine VC.seq ?_
    refine VC.block ?_
    refine VC.seq ?_
    refine VC.region ?_
    by_cases c3558 : 0 ≤ i3530
    · rw [if_pos c3558] at h
      replace h := Option.bind_eq_some_iff.1 h
      obtain ⟨x3559, hx3559, h⟩ := h
      refine VL.open (m := l0.length) 0 lenm rfl (pos_get hx3559) ?_
      rintro ad3560 n3561 rfl
      refine VL.va (op_indexAddr Try.underlying23 TI33 rfl rfl c3558 (lt_get c3558 hx3559) rfl (ltn rfl)) rfl ?_
      refine VL.va (op_load_row (sz := 6) (o := 0) 0 i3530.toNat 6 rfl rfl (get_map hx3559) TI33 rfl (fun h => absurd h (by decide)) (ltn rfl)) rfl ?_
      refine VL.sG (o_alloc (us := [.string (⟨#[]⟩ : ByteArray), .int .i64 0, .int .i64 0, .int .i64 0, .int .i64 0, .int .i64 0]) Z33 rfl (ltn rfl)) rfl ?_
      intro g3562
      refine VL.step1 (o_store 0 6 rfl rfl rfl TI33 (.agg (.c rfl (.c rfl (.c rfl (.c rfl (.c rfl (.c rfl .nil))))))) rfl (len rfl)) rfl ?_
      refine VL.done ?_
      refine VN.then ?_
      refine VC.seq ?_
      refine VC.region ?_
      refine VL.va (op_fieldAddr FI33_0 rfl (add_at _ _ _) (ltn rfl)) rfl ?_
      refine VL.va (op_load 0 1 rfl rfl TI9 rfl (by decide) (ltn rfl)) rfl ?_
      refine VL.va (op_move rfl (ltn rfl)) rfl ?_
      refine VL.letter ((x3559.f0 == a1)) fun b3563 hb3563 => ?_
      refine VL.va (op_cmps rfl rfl (congrArg some hb3563) (ltn rfl)) rfl ?_
      refine VL.done ?_
      refine VN.then ?_
      by_cases c3564 : (x3559.f0 == a1) = true
      · rw [if_pos c3564] at h
        obtain rfl : b3563 = true := hb3563.symm.trans (c3564)
        refine VC.cond_t rfl ?_
        refine VC.seq ?_
        refine VC.region ?_
        refine VL.va (op_load 0 6 rfl rfl TI33 rfl (fun h => absurd h (by decide)) (ltn rfl)) rfl ?_
        refine VL.step1 (o_store 1 6 rfl rfl rfl TI33 (.agg (.c rfl (.c rfl (.c rfl (.c rfl (.c rfl (.c rfl .nil))))))) rfl (len rfl)) rfl ?_
        refine VL.done ?_
        refine VN.then ?_
        refine VC.ret ?_
        refine VR.block ?_
        refine VR.then ?_
        refine VR.then ?_
        refine VR.block ?_
        refine VR.then ?_
        simp only [Option.some.injEq, Prod.mk.injEq] at h
        obtain ⟨rfl, rfl, rfl, rfl, rfl, rfl⟩ := h
        exact VR.fn (rs := [.cell 4 33]) [] [] [] rfl (.cell 1 rfl rfl TI33 (fun h => absurd h (by decide)) .nil) ⟨rfl, rfl, rfl⟩ trivial rfl (by decide)
      · rw [if_neg c3564] at h
        obtain rfl : b3563 = false := hb3563.symm.trans (Bool.eq_false_iff.2 c3564)
        refine VC.cond_f rfl ?_
        refine VC.skip ?_
        refine VN.block ?_
        refine VN.then ?_
        refine VC.region ?_
        refine VL.va (op_ari64 rfl rfl rfl (ltn rfl)) rfl ?_
        refine VL.va (op_move rfl (ltn rfl)) rfl ?_
        refine VL.done ?_
        refine VN.again [1] [] (ihl1 (wrap64 (i3530 + 1)) h) ⟨rfl, ⟨rfl, rfl, rfl, rfl, rfl, trivial⟩, ⟨⟨0, rfl⟩, trivial⟩, rfl, by decide, rfl, by decide⟩
    · rw [if_neg c3558] at h; cases h
  · rw [if_neg c3550] at h
    obtain rfl : b3548 = false := hb3548.symm.trans (decide_eq_false c3550)
    refine VC.cond_f rfl ?_
    refine VC.exit ?_
    refine VX.then ?_
    refine VX.then ?_
    refine VX.hit ?_
    refine VN.then ?_
    refine VC.seq ?_
    refine VC.region ?_
    refine VL.va (op_build (vals := []) (vcs := []) (cells := [.string (⟨#[]⟩ : ByteArray), .int .i64 0, .int .i64 0, .int .i64 0, .int .i64 0, .int .i64 0]) SI33 rfl .nil (by kernel_rfl) (ltn rfl)) rfl ?_
    refine VL.step1 (o_store 0 6 rfl rfl rfl TI33 (.agg (.c rfl (.c rfl (.c rfl (.c rfl (.c rfl (.c rfl .nil))))))) rfl (len rfl)) rfl ?_
    refine VL.done ?_
    refine VN.then ?_
    refine VC.ret ?_
    simp only [Option.some.injEq, Prod.mk.injEq] at h
    obtain ⟨rfl, rfl, rfl, rfl, rfl, rfl⟩ := h
    exact VR.fn (rs := [.cell 4 33]) [] [] [] rfl (.cell 0 rfl rfl TI33 (fun h => absurd h (by decide)) .nil) ⟨rfl, rfl, rfl⟩ trivial rfl (by decide)
set_option maxHeartbeats 4000000 in
set_option maxRecDepth 100000 in
theorem tarryref08_Set.ok (k : Nat) (l0 : List S32) (a1_0 : ByteArray) (a1_1 : Int) (a1_2 : Int) (a1_3 : Int) (a1_4 : Int) (a1_5 : Int) (v0 : Value) (r1 : List S32) (h : tarryref08_Set.f k l0 a1_0 a1_1 a1_2 a1_3 a1_4 a1_5 = some r1) :
    VCalls Try.prog 34 [v0, .agg #[.string a1_0, .int .i64 a1_1, .int .i64 a1_2, .int .i64 a1_3, .int .i64 a1_4, .int .i64 a1_5]] [.row v0 6 (l0.map enc32)] (fun v G own => ∃ w0 : Value, v = w0 ∧ G = [] ∧ own = [(w0, 33, 6, r1.map enc32)]) := by
  refine VCalls.intro Try.func34 rfl (len rfl) fun E hC => ?_
  unfold tarryref08_Set.f at h
  refine VC.seq ?_
  refine VC.region ?_
  refine VL.sG (o_box rfl (.agg (.c rfl (.c rfl (.c rfl (.c rfl (.c rfl (.c rfl .nil))))))) (ltn rfl)) rfl ?_
  intro g3596
  refine VL.va (op_assign rfl (ltn rfl)) rfl ?_
  refine VL.done ?_
  refine VN.then ?_
  refine VC.seq ?_
  refine VC.region ?_
  refine VL.sG (o_buildSlice (vals := []) (cells := #[]) (es := List.map enc32 ([] : List S32)) Try.underlying23 TI33 Z33 rfl (by decide) (by decide) (by kernel_rfl) (by kernel_rfl) rfl (flat_map enc32_ok _) (ltn rfl)) rfl ?_
  intro v3598
  refine VL.va (op_assign rfl (ltn rfl)) rfl ?_
  refine VL.done ?_
  refine VN.then ?_
  refine VC.seq ?_
  refine VC.region ?_
  refine VL.va (op_assign rfl (ltn rfl)) rfl ?_
  refine VL.done ?_
  refine VN.then ?_
  refine VC.seq ?_
  refine VC.seq ?_
  refine VC.region ?_
  refine VL.va (op_move rfl (ltn rfl)) rfl ?_
  refine VL.va (op_len (m := l0.length) 0 lenm Try.underlying23 rfl rfl (ltn rfl)) rfl ?_
  refine VL.va (op_move rfl (ltn rfl)) rfl ?_
  refine VL.done ?_
  refine VN.then ?_
  refine VC.block ?_
  refine VC.loop4 (fun (v3985 : Value) (l3986 : List S32) (q3987 : Bool) (i3988 : Int) => ⟨47, [(3, .pointer (some ⟨g3596, 0, none⟩)), (4, .slice none 0 0), (5, v3985), (6, .bool q3987), (10, v0), (11, .int .i64 (l0.length : Int)), (12, .int .i64 i3988)], [.row v0 6 (l0.map enc32)], [(g3596, 33, [.string a1_0, .int .i64 a1_1, .int .i64 a1_2, .int .i64 a1_3, .int .i64 a1_4, .int .i64 a1_5])], [(v3985, 33, 6, l3986.map enc32)]⟩) (fun (ml1 : Nat) (v3985 : Value) (l3986 : List S32) (q3987 : Bool) (i3988 : Int) => tarryref08_Set.l1 k a1_0 a1_1 a1_2 a1_3 a1_4 a1_5 l0 ml1 l3986 q3987 i3988 = some r1) k v3598 ([] : List S32) false 0 [0] [0] h ⟨rfl, ⟨rfl, rfl, rfl, rfl, rfl, rfl, rfl, trivial⟩, ⟨⟨0, rfl⟩, trivial⟩, rfl, by decide, rfl, by decide⟩ (by intros; simp [tarryref08_Set.l1]) ?_
  clear h
  intro ml1 ihl1 v3985 l3986 q3987 i3988 h
  simp only [tarryref08_Set.l1] at h
  refine VC.seq ?_
  refine VC.region ?_
  refine VL.letter (decide (i3988 < (l0.length : Int))) fun b4096 hb4096 => ?_
  refine VL.va (op_cmp rfl rfl (congrArg some hb4096) (ltn rfl)) rfl ?_
  refine VL.done ?_
  refine VN.then ?_
  refine VC.seq ?_
  by_cases c4112 : i3988 < (l0.length : Int)
  · rw [if_pos c4112] at h
    obtain rfl : b4096 = true := hb4096.symm.trans (decide_eq_true c4112)
    refine VC.cond_t rfl ?_
    refine VC.skip ?_
    refine VN.then ?_
    refine VC.seq ?_
    refine VC.block ?_
    refine VC.seq ?_
    refine VC.region ?_
    by_cases c4165 : 0 ≤ i3988
    · rw [if_pos c4165] at h
      replace h := Option.bind_eq_some_iff.1 h
      obtain ⟨x4166, hx4166, h⟩ := h
      refine VL.open (m := l0.length) 0 lenm rfl (pos_get hx4166) ?_
      rintro ad4167 n4168 rfl
      refine VL.va (op_indexAddr Try.underlying23 TI33 rfl rfl c4165 (lt_get c4165 hx4166) rfl (ltn rfl)) rfl ?_
      refine VL.va (op_load_row (sz := 6) (o := 0) 0 i3988.toNat 6 rfl rfl (get_map hx4166) TI33 rfl (fun h => absurd h (by decide)) (ltn rfl)) rfl ?_
      refine VL.sG (o_alloc (us := [.string (⟨#[]⟩ : ByteArray), .int .i64 0, .int .i64 0, .int .i64 0, .int .i64 0, .int .i64 0]) Z33 rfl (ltn rfl)) rfl ?_
      intro g4169
      refine VL.step1 (o_store 0 6 rfl rfl rfl TI33 (.agg (.c rfl (.c rfl (.c rfl (.c rfl (.c rfl (.c rfl .nil))))))) rfl (len rfl)) rfl ?_
      refine VL.done ?_
      refine VN.then ?_
      refine VC.seq ?_
      refine VC.seq ?_
      refine VC.region ?_
      refine VL.va (op_move rfl (ltn rfl)) rfl ?_
      by_cases c4187 : q3987 = true
      · rw [if_pos c4187] at h
        obtain rfl := c4187
        refine VL.va (op_not rfl rfl (ltn rfl)) rfl ?_
        refine VL.va (op_move rfl (ltn rfl)) rfl ?_
        refine VL.un rfl rfl (ltn rfl) ?_
        refine VL.un rfl rfl (ltn rfl) ?_
        refine VL.un rfl rfl (ltn rfl) ?_
        refine VL.un rfl rfl (ltn rfl) ?_
        refine VL.un rfl rfl (ltn rfl) ?_
        refine VL.un rfl rfl (ltn rfl) ?_
        refine VL.va (op_pick rfl rfl (ltn rfl)) rfl ?_
        refine VL.done ?_
        refine VN.then ?_
        refine VC.cond_f rfl ?_
        refine VC.skip ?_
        refine VN.then ?_
        refine VC.seq ?_
        refine VC.region ?_
        refine VL.va (op_fieldAddr FI33_0 rfl (add_at _ _ _) (ltn rfl)) rfl ?_
        refine VL.va (op_load 0 1 rfl rfl TI9 rfl (by decide) (ltn rfl)) rfl ?_
        refine VL.va (op_fieldAddr FI33_0 rfl (add_at _ _ _) (ltn rfl)) rfl ?_
        refine VL.va (op_load 1 1 rfl rfl TI9 rfl (by decide) (ltn rfl)) rfl ?_
        refine VL.letter ((x4166.f0 != a1_0)) fun b4188 hb4188 => ?_
        refine VL.va (op_cmps rfl rfl (congrArg some hb4188) (ltn rfl)) rfl ?_
        refine VL.done ?_
        refine VN.then ?_
        by_cases c4189 : (x4166.f0 == a1_0) = true
        · rw [if_pos c4189] at h
          obtain rfl : b4188 = false := hb4188.symm.trans (bne_of_t c4189)
          refine VC.cond_f rfl ?_
          refine VC.skip ?_
          refine VN.block ?_
          refine VN.then ?_
          refine VC.region ?_
          refine VL.va (op_ari64 rfl rfl rfl (ltn rfl)) rfl ?_
          refine VL.va (op_move rfl (ltn rfl)) rfl ?_
          refine VL.done ?_
          refine VN.again [1] [0] (ihl1 v3985 l3986 true (wrap64 (i3988 + 1)) h) ⟨rfl, ⟨rfl, rfl, rfl, rfl, rfl, rfl, rfl, trivial⟩, ⟨⟨0, rfl⟩, trivial⟩, rfl, by decide, rfl, by decide⟩
        · rw [if_neg c4189] at h
          obtain rfl : b4188 = true := hb4188.symm.trans (bne_of_f c4189)
          refine VC.cond_t rfl ?_
          refine VC.region ?_
          refine VL.va (op_move rfl (ltn rfl)) rfl ?_
          refine VL.va (op_load 0 6 rfl rfl TI33 rfl (fun h => absurd h (by decide)) (ltn rfl)) rfl ?_
          refine VL.sG (o_buildSlice (vals := [(0, .agg #[.string x4166.f0, .int .i64 x4166.f1, .int .i64 x4166.f2, .int .i64 x4166.f3, .int .i64 x4166.f4, .int .i64 x4166.f5])]) (cells := #[.string x4166.f0, .int .i64 x4166.f1, .int .i64 x4166.f2, .int .i64 x4166.f3, .int .i64 x4166.f4, .int .i64 x4166.f5]) (es := List.map enc32 ([x4166] : List S32)) Try.underlying23 TI33 Z33 rfl (by decide) (by decide) (by kernel_rfl) (by kernel_rfl) rfl (flat_map enc32_ok _) (ltn rfl)) rfl ?_
          intro v4191
          by_cases c4192 : (l3986.length + ([x4166] : List S32).length) * 56 ≤ 140737488355328
          · rw [if_pos c4192] at h
            refine VL.sG (o_append 1 appm Try.underlying23 EI33 rfl rfl rfl (.inr ⟨0, _, rfl⟩) (bndm c4192) (ltn rfl)) rfl ?_
            intro v4193
            refine VL.va (op_assign rfl (ltn rfl)) rfl ?_
            refine VL.done ?_
            refine VN.block ?_
            refine VN.then ?_
            refine VC.region ?_
            refine VL.va (op_ari64 rfl rfl rfl (ltn rfl)) rfl ?_
            refine VL.va (op_move rfl (ltn rfl)) rfl ?_
            refine VL.done ?_
            refine VN.again [1] [1] (ihl1 v4193 (l3986 ++ ([x4166] : List S32)) true (wrap64 (i3988 + 1)) h) ⟨rfl, ⟨rfl, rfl, rfl, rfl, rfl, rfl, rfl, trivial⟩, ⟨⟨0, rfl⟩, trivial⟩, rfl, by decide, rfl, by decide⟩
          · rw [if_neg c4192] at h; cases h
      · rw [if_neg c4187] at h
        obtain rfl := Bool.eq_false_iff.2 c4187
        refine VL.va (op_not rfl rfl (ltn rfl)) rfl ?_
        refine VL.va (op_move rfl (ltn rfl)) rfl ?_
        refine VL.va (op_fieldAddr FI33_0 rfl (add_at _ _ _) (ltn rfl)) rfl ?_
        refine VL.va (op_load 0 1 rfl rfl TI9 rfl (by decide) (ltn rfl)) rfl ?_
        refine VL.va (op_fieldAddr FI33_0 rfl (add_at _ _ _) (ltn rfl)) rfl ?_
        refine VL.va (op_load 1 1 rfl rfl TI9 rfl (by decide) (ltn rfl)) rfl ?_
        replace h := Option.bind_eq_some_iff.1 h
        obtain ⟨t4195, hA4196, h⟩ := h
        refine VL.sC (o_call0 FO35 (tarryref07_Less.ok k x4166.f0 a1_0 t4195 hA4196) rfl rfl (ltn rfl) (All_of .nil)) rfl ?_
        rintro _ _ _ ⟨rfl, rfl, rfl⟩
        by_cases c4197 : t4195 = true
        · rw [if_pos c4197] at h
          obtain rfl := c4197
          refine VL.va (op_not rfl rfl (ltn rfl)) rfl ?_
          refine VL.va (op_pick rfl rfl (ltn rfl)) rfl ?_
          refine VL.done ?_
          refine VN.then ?_
          refine VC.cond_f rfl ?_
          refine VC.skip ?_
          refine VN.then ?_
          refine VC.seq ?_
          refine VC.region ?_
          refine VL.va (op_fieldAddr FI33_0 rfl (add_at _ _ _) (ltn rfl)) rfl ?_
          refine VL.va (op_load 0 1 rfl rfl TI9 rfl (by decide) (ltn rfl)) rfl ?_
          refine VL.va (op_fieldAddr FI33_0 rfl (add_at _ _ _) (ltn rfl)) rfl ?_
          refine VL.va (op_load 1 1 rfl rfl TI9 rfl (by decide) (ltn rfl)) rfl ?_
          refine VL.letter ((x4166.f0 != a1_0)) fun b4198 hb4198 => ?_
          refine VL.va (op_cmps rfl rfl (congrArg some hb4198) (ltn rfl)) rfl ?_
          refine VL.done ?_
          refine VN.then ?_
          by_cases c4199 : (x4166.f0 == a1_0) = true
          · rw [if_pos c4199] at h
            obtain rfl : b4198 = false := hb4198.symm.trans (bne_of_t c4199)
            refine VC.cond_f rfl ?_
            refine VC.skip ?_
            refine VN.block ?_
            refine VN.then ?_
            refine VC.region ?_
            refine VL.va (op_ari64 rfl rfl rfl (ltn rfl)) rfl ?_
            refine VL.va (op_move rfl (ltn rfl)) rfl ?_
            refine VL.done ?_
            refine VN.again [1] [0] (ihl1 v3985 l3986 false (wrap64 (i3988 + 1)) h) ⟨rfl, ⟨rfl, rfl, rfl, rfl, rfl, rfl, rfl, trivial⟩, ⟨⟨0, rfl⟩, trivial⟩, rfl, by decide, rfl, by decide⟩
          · rw [if_neg c4199] at h
            obtain rfl : b4198 = true := hb4198.symm.trans (bne_of_f c4199)
            refine VC.cond_t rfl ?_
            refine VC.region ?_
            refine VL.va (op_move rfl (ltn rfl)) rfl ?_
            refine VL.va (op_load 0 6 rfl rfl TI33 rfl (fun h => absurd h (by decide)) (ltn rfl)) rfl ?_
            refine VL.sG (o_buildSlice (vals := [(0, .agg #[.string x4166.f0, .int .i64 x4166.f1, .int .i64 x4166.f2, .int .i64 x4166.f3, .int .i64 x4166.f4, .int .i64 x4166.f5])]) (cells := #[.string x4166.f0, .int .i64 x4166.f1, .int .i64 x4166.f2, .int .i64 x4166.f3, .int .i64 x4166.f4, .int .i64 x4166.f5]) (es := List.map enc32 ([x4166] : List S32)) Try.underlying23 TI33 Z33 rfl (by decide) (by decide) (by kernel_rfl) (by kernel_rfl) rfl (flat_map enc32_ok _) (ltn rfl)) rfl ?_
            intro v4201
            by_cases c4202 : (l3986.length + ([x4166] : List S32).length) * 56 ≤ 140737488355328
            · rw [if_pos c4202] at h
              refine VL.sG (o_append 1 appm Try.underlying23 EI33 rfl rfl rfl (.inr ⟨0, _, rfl⟩) (bndm c4202) (ltn rfl)) rfl ?_
              intro v4203
              refine VL.va (op_assign rfl (ltn rfl)) rfl ?_
              refine VL.done ?_
              refine VN.block ?_
              refine VN.then ?_
              refine VC.region ?_
              refine VL.va (op_ari64 rfl rfl rfl (ltn rfl)) rfl ?_
              refine VL.va (op_move rfl (ltn rfl)) rfl ?_
              refine VL.done ?_
              refine VN.again [1] [1] (ihl1 v4203 (l3986 ++ ([x4166] : List S32)) false (wrap64 (i3988 + 1)) h) ⟨rfl, ⟨rfl, rfl, rfl, rfl, rfl, rfl, rfl, trivial⟩, ⟨⟨0, rfl⟩, trivial⟩, rfl, by decide, rfl, by decide⟩
            · rw [if_neg c4202] at h; cases h
        · rw [if_neg c4197] at h
          obtain rfl := Bool.eq_false_iff.2 c4197
          refine VL.va (op_not rfl rfl (ltn rfl)) rfl ?_
          refine VL.va (op_pick rfl rfl (ltn rfl)) rfl ?_
          refine VL.done ?_
          refine VN.then ?_
          refine VC.cond_t rfl ?_
          refine VC.seq ?_
          refine VC.region ?_
          refine VL.va (op_move rfl (ltn rfl)) rfl ?_
          refine VL.va (op_load 1 6 rfl rfl TI33 rfl (fun h => absurd h (by decide)) (ltn rfl)) rfl ?_
          refine VL.sG (o_buildSlice (vals := [(0, .agg #[.string a1_0, .int .i64 a1_1, .int .i64 a1_2, .int .i64 a1_3, .int .i64 a1_4, .int .i64 a1_5])]) (cells := #[.string a1_0, .int .i64 a1_1, .int .i64 a1_2, .int .i64 a1_3, .int .i64 a1_4, .int .i64 a1_5]) (es := List.map enc32 ([(⟨a1_0, a1_1, a1_2, a1_3, a1_4, a1_5⟩ : S32)] : List S32)) Try.underlying23 TI33 Z33 rfl (by decide) (by decide) (by kernel_rfl) (by kernel_rfl) rfl (flat_map enc32_ok _) (ltn rfl)) rfl ?_
          intro v4206
          by_cases c4207 : (l3986.length + ([(⟨a1_0, a1_1, a1_2, a1_3, a1_4, a1_5⟩ : S32)] : List S32).length) * 56 ≤ 140737488355328
          · rw [if_pos c4207] at h
            refine VL.sG (o_append 1 appm Try.underlying23 EI33 rfl rfl rfl (.inr ⟨0, _, rfl⟩) (bndm c4207) (ltn rfl)) rfl ?_
            intro v4208
            refine VL.va (op_assign rfl (ltn rfl)) rfl ?_
            refine VL.done ?_
            refine VN.then ?_
            refine VC.region ?_
            refine VL.va (op_assign rfl (ltn rfl)) rfl ?_
            refine VL.done ?_
            refine VN.then ?_
            refine VC.seq ?_
            refine VC.region ?_
            refine VL.va (op_fieldAddr FI33_0 rfl (add_at _ _ _) (ltn rfl)) rfl ?_
            refine VL.va (op_load 0 1 rfl rfl TI9 rfl (by decide) (ltn rfl)) rfl ?_
            refine VL.va (op_fieldAddr FI33_0 rfl (add_at _ _ _) (ltn rfl)) rfl ?_
            refine VL.va (op_load 1 1 rfl rfl TI9 rfl (by decide) (ltn rfl)) rfl ?_
            refine VL.letter ((x4166.f0 != a1_0)) fun b4210 hb4210 => ?_
            refine VL.va (op_cmps rfl rfl (congrArg some hb4210) (ltn rfl)) rfl ?_
            refine VL.done ?_
            refine VN.then ?_
            by_cases c4211 : (x4166.f0 == a1_0) = true
            · rw [if_pos c4211] at h
              obtain rfl : b4210 = false := hb4210.symm.trans (bne_of_t c4211)
              refine VC.cond_f rfl ?_
              refine VC.skip ?_
              refine VN.block ?_
              refine VN.then ?_
              refine VC.region ?_
              refine VL.va (op_ari64 rfl rfl rfl (ltn rfl)) rfl ?_
              refine VL.va (op_move rfl (ltn rfl)) rfl ?_
              refine VL.done ?_
              refine VN.again [1] [1] (ihl1 v4208 (l3986 ++ ([(⟨a1_0, a1_1, a1_2, a1_3, a1_4, a1_5⟩ : S32)] : List S32)) true (wrap64 (i3988 + 1)) h) ⟨rfl, ⟨rfl, rfl, rfl, rfl, rfl, rfl, rfl, trivial⟩, ⟨⟨0, rfl⟩, trivial⟩, rfl, by decide, rfl, by decide⟩
            · rw [if_neg c4211] at h
              obtain rfl : b4210 = true := hb4210.symm.trans (bne_of_f c4211)
              refine VC.cond_t rfl ?_
              refine VC.region ?_
              refine VL.va (op_move rfl (ltn rfl)) rfl ?_
              refine VL.va (op_load 0 6 rfl rfl TI33 rfl (fun h => absurd h (by decide)) (ltn rfl)) rfl ?_
              refine VL.sG (o_buildSlice (vals := [(0, .agg #[.string x4166.f0, .int .i64 x4166.f1, .int .i64 x4166.f2, .int .i64 x4166.f3, .int .i64 x4166.f4, .int .i64 x4166.f5])]) (cells := #[.string x4166.f0, .int .i64 x4166.f1, .int .i64 x4166.f2, .int .i64 x4166.f3, .int .i64 x4166.f4, .int .i64 x4166.f5]) (es := List.map enc32 ([x4166] : List S32)) Try.underlying23 TI33 Z33 rfl (by decide) (by decide) (by kernel_rfl) (by kernel_rfl) rfl (flat_map enc32_ok _) (ltn rfl)) rfl ?_
              intro v4213
              by_cases c4214 : ((l3986 ++ ([(⟨a1_0, a1_1, a1_2, a1_3, a1_4, a1_5⟩ : S32)] : List S32)).length + ([x4166] : List S32).length) * 56 ≤ 140737488355328
              · rw [if_pos c4214] at h
                refine VL.sG (o_append 2 appm Try.underlying23 EI33 rfl rfl rfl (.inr ⟨0, _, rfl⟩) (bndm c4214) (ltn rfl)) rfl ?_
                intro v4215
                refine VL.va (op_assign rfl (ltn rfl)) rfl ?_
                refine VL.done ?_
                refine VN.block ?_
                refine VN.then ?_
                refine VC.region ?_
                refine VL.va (op_ari64 rfl rfl rfl (ltn rfl)) rfl ?_
                refine VL.va (op_move rfl (ltn rfl)) rfl ?_
                refine VL.done ?_
                refine VN.again [1] [2] (ihl1 v4215 ((l3986 ++ ([(⟨a1_0, a1_1, a1_2, a1_3, a1_4, a1_5⟩ : S32)] : List S32)) ++ ([x4166] : List S32)) true (wrap64 (i3988 + 1)) h) ⟨rfl, ⟨rfl, rfl, rfl, rfl, rfl, rfl, rfl, trivial⟩, ⟨⟨0, rfl⟩, trivial⟩, rfl, by decide, rfl, by decide⟩
              · rw [if_neg c4214] at h; cases h
          · rw [if_neg c4207] at h; cases h
    · rw [if_neg c4165] at h; cases h
  · rw [if_neg c4112] at h
    obtain rfl : b4096 = false := hb4096.symm.trans (decide_eq_false c4112)
    refine VC.cond_f rfl ?_
    refine VC.exit ?_
    refine VX.then ?_
    refine VX.then ?_
    refine VX.hit ?_
    refine VN.then ?_
    refine VC.seq ?_
    refine VC.seq ?_
    refine VC.region ?_
    refine VL.va (op_move rfl (ltn rfl)) rfl ?_
    by_cases c4225 : q3987 = true
    · rw [if_pos c4225] at h
      obtain rfl := c4225
      refine VL.va (op_not rfl rfl (ltn rfl)) rfl ?_
      refine VL.done ?_
      refine VN.then ?_
      refine VC.cond_f rfl ?_
      refine VC.skip ?_
      refine VN.then ?_
      refine VC.seq ?_
      refine VC.region ?_
      refine VL.va (op_move rfl (ltn rfl)) rfl ?_
      refine VL.va (op_assign rfl (ltn rfl)) rfl ?_
      refine VL.done ?_
      refine VN.then ?_
      refine VC.ret ?_
      obtain rfl := Option.some.inj h
      exact VR.fn (rs := [.tmp 4]) [] [(v3985, 33, 6, l3986.map enc32)] [0] rfl (.tmp rfl .nil) ⟨v3985, rfl, rfl, rfl⟩ trivial rfl (by decide)
    · rw [if_neg c4225] at h
      obtain rfl := Bool.eq_false_iff.2 c4225
      refine VL.va (op_not rfl rfl (ltn rfl)) rfl ?_
      refine VL.done ?_
      refine VN.then ?_
      refine VC.cond_t rfl ?_
      refine VC.region ?_
      refine VL.va (op_move rfl (ltn rfl)) rfl ?_
      refine VL.va (op_load 0 6 rfl rfl TI33 rfl (fun h => absurd h (by decide)) (ltn rfl)) rfl ?_
      refine VL.sG (o_buildSlice (vals := [(0, .agg #[.string a1_0, .int .i64 a1_1, .int .i64 a1_2, .int .i64 a1_3, .int .i64 a1_4, .int .i64 a1_5])]) (cells := #[.string a1_0, .int .i64 a1_1, .int .i64 a1_2, .int .i64 a1_3, .int .i64 a1_4, .int .i64 a1_5]) (es := List.map enc32 ([(⟨a1_0, a1_1, a1_2, a1_3, a1_4, a1_5⟩ : S32)] : List S32)) Try.underlying23 TI33 Z33 rfl (by decide) (by decide) (by kernel_rfl) (by kernel_rfl) rfl (flat_map enc32_ok _) (ltn rfl)) rfl ?_
      intro v4227
      by_cases c4228 : (l3986.length + ([(⟨a1_0, a1_1, a1_2, a1_3, a1_4, a1_5⟩ : S32)] : List S32).length) * 56 ≤ 140737488355328
      · rw [if_pos c4228] at h
        refine VL.sG (o_append 1 appm Try.underlying23 EI33 rfl rfl rfl (.inr ⟨0, _, rfl⟩) (bndm c4228) (ltn rfl)) rfl ?_
        intro v4229
        refine VL.va (op_assign rfl (ltn rfl)) rfl ?_
        refine VL.done ?_
        refine VN.then ?_
        refine VC.seq ?_
        refine VC.region ?_
        refine VL.va (op_move rfl (ltn rfl)) rfl ?_
        refine VL.va (op_assign rfl (ltn rfl)) rfl ?_
        refine VL.done ?_
        refine VN.then ?_
        refine VC.ret ?_
        obtain rfl := Option.some.inj h
        exact VR.fn (rs := [.tmp 4]) [] [(v4229, 33, 6, (l3986 ++ ([(⟨a1_0, a1_1, a1_2, a1_3, a1_4, a1_5⟩ : S32)] : List S32)).map enc32)] [1] rfl (.tmp rfl .nil) ⟨v4229, rfl, rfl, rfl⟩ trivial rfl (by decide)
      · rw [if_neg c4228] at h; cases h
set_option maxHeartbeats 4000000 in
set_option maxRecDepth 100000 in
theorem tarryref08_Receive.ok (k : Nat) (l0 : List S32) (a1 : ByteArray) (a2 : Int) (v0 : Value) (r1 : List S32) (r2 : Int) (h : tarryref08_Receive.f k l0 a1 a2 = some (r1, r2)) :
    VCalls Try.prog 17 [v0, .string a1, .int .i64 a2] [.row v0 6 (l0.map enc32)] (fun v G own => ∃ w0 : Value, v = .agg #[w0, .int .i64 r2] ∧ G = [] ∧ own = [(w0, 33, 6, r1.map enc32)]) := by
  refine VCalls.intro Try.func17 rfl (len rfl) fun E hC => ?_
  unfold tarryref08_Receive.f at h
  refine VC.seq ?_
  refine VC.region ?_
  refine VL.sG (o_alloc (us := [.slice none 0 0, .int .i64 0]) Z43 rfl (ltn rfl)) rfl ?_
  intro g1988
  refine VL.done ?_
  refine VN.then ?_
  refine VC.seq ?_
  refine VC.seq ?_
  refine VC.region ?_
  refine VL.va (op_move rfl (ltn rfl)) rfl ?_
  replace h := Option.bind_eq_some_iff.1 h
  obtain ⟨t3454, hA3455, h⟩ := h
  refine VL.sC (o_call0 FO18 (tarryref08_Right.ok k l0 v0 t3454 hA3455) rfl rfl (ltn rfl) (All_of (.cons (List.mem_of_getElem? (i := 0) rfl) .nil))) rfl ?_
  rintro _ _ _ ⟨rfl, rfl, rfl⟩
  by_cases c3456 : t3454 = true
  · rw [if_pos c3456] at h
    obtain rfl := c3456
    refine VL.va (op_not rfl rfl (ltn rfl)) rfl ?_
    refine VL.va (op_move rfl (ltn rfl)) rfl ?_
    refine VL.va (op_move rfl (ltn rfl)) rfl ?_
    replace h := Option.bind_eq_some_iff.1 h
    obtain ⟨t3457, hA3458, h⟩ := h
    refine VL.sC (o_call0 FO32 (tarryref08_units.ok a2 t3457 hA3458) rfl rfl (ltn rfl) (All_of .nil)) rfl ?_
    rintro _ _ _ ⟨rfl, rfl, rfl⟩
    by_cases c3459 : t3457 = true
    · rw [if_pos c3459] at h
      obtain rfl := c3459
      refine VL.va (op_not rfl rfl (ltn rfl)) rfl ?_
      refine VL.va (op_pick rfl rfl (ltn rfl)) rfl ?_
      refine VL.va (op_move rfl (ltn rfl)) rfl ?_
      refine VL.va (op_move rfl (ltn rfl)) rfl ?_
      replace h := Option.bind_eq_some_iff.1 h
      obtain ⟨t3460, hA3461, h⟩ := h
      refine VL.sC (o_call0 FO33 (tarryref07_Name.ok k a1 t3460 hA3461) rfl rfl (ltn rfl) (All_of .nil)) rfl ?_
      rintro _ _ _ ⟨rfl, rfl, rfl⟩
      by_cases c3462 : t3460 = true
      · rw [if_pos c3462] at h
        obtain rfl := c3462
        refine VL.va (op_not rfl rfl (ltn rfl)) rfl ?_
        refine VL.va (op_pick rfl rfl (ltn rfl)) rfl ?_
        refine VL.done ?_
        refine VN.then ?_
        refine VC.cond_f rfl ?_
        refine VC.skip ?_
        refine VN.then ?_
        refine VC.seq ?_
        refine VC.region ?_
        refine VL.va (op_move rfl (ltn rfl)) rfl ?_
        refine VL.va (op_move rfl (ltn rfl)) rfl ?_
        replace h := Option.bind_eq_some_iff.1 h
        obtain ⟨⟨t3565, t3566, t3567, t3568, t3569, t3570⟩, hA3571, h⟩ := h
        dsimp only at h
        refine VL.sC (o_call0 FO20 (tarryref08_Get.ok k l0 a1 v0 t3565 t3566 t3567 t3568 t3569 t3570 hA3571) rfl rfl (ltn rfl) (All_of (.cons (List.mem_of_getElem? (i := 0) rfl) .nil))) rfl ?_
        rintro _ _ _ ⟨rfl, rfl, rfl⟩
        refine VL.sG (o_alloc (us := [.string (⟨#[]⟩ : ByteArray), .int .i64 0, .int .i64 0, .int .i64 0, .int .i64 0, .int .i64 0]) Z33 rfl (ltn rfl)) rfl ?_
        intro g3572
        refine VL.step1 (o_store 0 6 rfl rfl rfl TI33 (.agg (.c rfl (.c rfl (.c rfl (.c rfl (.c rfl (.c rfl .nil))))))) rfl (len rfl)) rfl ?_
        refine VL.done ?_
        refine VN.then ?_
        refine VC.seq ?_
        refine VC.seq ?_
        refine VC.region ?_
        refine VL.va (op_fieldAddr FI33_0 rfl (add_at _ _ _) (ltn rfl)) rfl ?_
        refine VL.va (op_load 0 1 rfl rfl TI9 rfl (by decide) (ltn rfl)) rfl ?_
        refine VL.letter ((t3565 == (⟨#[]⟩ : ByteArray))) fun b3584 hb3584 => ?_
        refine VL.va (op_cmps rfl rfl (congrArg some hb3584) (ltn rfl)) rfl ?_
        refine VL.va (op_move rfl (ltn rfl)) rfl ?_
        by_cases c3585 : (t3565 == (⟨#[]⟩ : ByteArray)) = true
        · rw [if_pos c3585] at h
          obtain rfl : b3584 = true := hb3584.symm.trans (c3585)
          refine VL.va (op_move rfl (ltn rfl)) rfl ?_
          refine VL.va (op_len (m := l0.length) 0 lenm Try.underlying23 rfl rfl (ltn rfl)) rfl ?_
          refine VL.letter (((l0.length : Int) == 8)) fun b3586 hb3586 => ?_
          refine VL.va (op_cmp rfl rfl (congrArg some hb3586) (ltn rfl)) rfl ?_
          refine VL.va (op_pick rfl rfl (ltn rfl)) rfl ?_
          refine VL.done ?_
          refine VN.then ?_
          by_cases c3587 : (l0.length : Int) = 8
          · rw [if_pos c3587] at h
            obtain rfl : b3586 = true := hb3586.symm.trans (beq_iff_eq.2 c3587)
            refine VC.cond_t rfl ?_
            refine VC.seq ?_
            refine VC.region ?_
            refine VL.va (op_build (vals := [(1, .int .i64 7)]) (vcs := [(1, [.int .i64 7])]) (cells := [.slice none 0 0, .int .i64 7]) SI43 rfl (.cons ⟨rfl, (.c rfl)⟩ .nil) (by kernel_rfl) (ltn rfl)) rfl ?_
            refine VL.step1 (o_store 1 2 rfl rfl rfl TI43 (.agg (.c rfl (.c rfl .nil))) rfl (len rfl)) rfl ?_
            refine VL.done ?_
            refine VN.then ?_
            refine VC.ret ?_
            refine VR.then ?_
            simp only [Option.some.injEq, Prod.mk.injEq] at h
            obtain ⟨rfl, rfl⟩ := h
            refine VR.nilRow' 33 6 ?_
            exact VR.fn (rs := [.cell 6 43]) [] [((.slice none 0 0), 33, 6, ([] : List S32).map enc32)] [0] rfl (.cell 1 rfl rfl TI43 (fun h => absurd h (by decide)) .nil) ⟨(.slice none 0 0), rfl, rfl, rfl⟩ trivial rfl (by decide)
          · rw [if_neg c3587] at h
            obtain rfl : b3586 = false := hb3586.symm.trans (beq_eq_false_iff_ne.2 c3587)
            refine VC.cond_f rfl ?_
            refine VC.skip ?_
            refine VN.then ?_
            refine VC.seq ?_
            refine VC.seq ?_
            refine VC.region ?_
            refine VL.va (op_fieldAddr FI33_1 rfl (add_at _ _ _) (ltn rfl)) rfl ?_
            refine VL.va (op_load 0 1 rfl rfl TI3 rfl (by decide) (ltn rfl)) rfl ?_
            refine VL.va (op_move rfl (ltn rfl)) rfl ?_
            refine VL.va (op_ari64 rfl rfl rfl (ltn rfl)) rfl ?_
            refine VL.letter (decide ((wrap64 (t3566 + a2)) > 1073741824)) fun b3592 hb3592 => ?_
            refine VL.va (op_cmp rfl rfl (congrArg some hb3592) (ltn rfl)) rfl ?_
            refine VL.done ?_
            refine VN.then ?_
            by_cases c3593 : (wrap64 (t3566 + a2)) > 1073741824
            · rw [if_pos c3593] at h
              obtain rfl : b3592 = true := hb3592.symm.trans (decide_eq_true c3593)
              refine VC.cond_t rfl ?_
              refine VC.seq ?_
              refine VC.region ?_
              refine VL.va (op_build (vals := [(1, .int .i64 2)]) (vcs := [(1, [.int .i64 2])]) (cells := [.slice none 0 0, .int .i64 2]) SI43 rfl (.cons ⟨rfl, (.c rfl)⟩ .nil) (by kernel_rfl) (ltn rfl)) rfl ?_
              refine VL.step1 (o_store 1 2 rfl rfl rfl TI43 (.agg (.c rfl (.c rfl .nil))) rfl (len rfl)) rfl ?_
              refine VL.done ?_
              refine VN.then ?_
              refine VC.ret ?_
              refine VR.then ?_
              simp only [Option.some.injEq, Prod.mk.injEq] at h
              obtain ⟨rfl, rfl⟩ := h
              refine VR.nilRow' 33 6 ?_
              exact VR.fn (rs := [.cell 6 43]) [] [((.slice none 0 0), 33, 6, ([] : List S32).map enc32)] [0] rfl (.cell 1 rfl rfl TI43 (fun h => absurd h (by decide)) .nil) ⟨(.slice none 0 0), rfl, rfl, rfl⟩ trivial rfl (by decide)
            · rw [if_neg c3593] at h
              obtain rfl : b3592 = false := hb3592.symm.trans (decide_eq_false c3593)
              refine VC.cond_f rfl ?_
              refine VC.skip ?_
              refine VN.then ?_
              refine VC.seq ?_
              refine VC.region ?_
              refine VL.va (op_move rfl (ltn rfl)) rfl ?_
              refine VL.va (op_fieldAddr FI33_0 rfl (add_at _ _ _) (ltn rfl)) rfl ?_
              refine VL.step1 (o_store 0 1 rfl rfl rfl TI9 (.c rfl) rfl (len rfl)) rfl ?_
              refine VL.done ?_
              refine VN.then ?_
              refine VC.seq ?_
              refine VC.region ?_
              refine VL.va (op_fieldAddr FI33_1 rfl (add_at _ _ _) (ltn rfl)) rfl ?_
              refine VL.va (op_load 0 1 rfl rfl TI3 rfl (by decide) (ltn rfl)) rfl ?_
              refine VL.va (op_move rfl (ltn rfl)) rfl ?_
              refine VL.va (op_ari64 rfl rfl rfl (ltn rfl)) rfl ?_
              refine VL.va (op_fieldAddr FI33_1 rfl (add_at _ _ _) (ltn rfl)) rfl ?_
              refine VL.step1 (o_store 0 1 rfl rfl rfl TI3 (.c rfl) rfl (len rfl)) rfl ?_
              refine VL.done ?_
              refine VN.then ?_
              refine VC.seq ?_
              refine VC.region ?_
              refine VL.va (op_fieldAddr FI33_2 rfl (add_at _ _ _) (ltn rfl)) rfl ?_
              refine VL.va (op_load 0 1 rfl rfl TI3 rfl (by decide) (ltn rfl)) rfl ?_
              refine VL.va (op_move rfl (ltn rfl)) rfl ?_
              refine VL.va (op_ari64 rfl rfl rfl (ltn rfl)) rfl ?_
              refine VL.va (op_fieldAddr FI33_2 rfl (add_at _ _ _) (ltn rfl)) rfl ?_
              refine VL.step1 (o_store 0 1 rfl rfl rfl TI3 (.c rfl) rfl (len rfl)) rfl ?_
              refine VL.done ?_
              refine VN.then ?_
              refine VC.seq ?_
              refine VC.region ?_
              refine VL.va (op_move rfl (ltn rfl)) rfl ?_
              refine VL.va (op_load 0 6 rfl rfl TI33 rfl (fun h => absurd h (by decide)) (ltn rfl)) rfl ?_
              replace h := Option.bind_eq_some_iff.1 h
              obtain ⟨r4231, hA4232, h⟩ := h
              refine VL.sC (o_call0 FO34 (tarryref08_Set.ok k l0 a1 (wrap64 (t3566 + a2)) (wrap64 (t3567 + a2)) t3568 t3569 t3570 v0 r4231 hA4232) rfl rfl (ltn rfl) (All_of (.cons (List.mem_of_getElem? (i := 0) rfl) .nil))) rfl ?_
              rintro v4234 _ _ ⟨_, rfl, rfl, rfl⟩
              refine VL.va (op_build (vals := [(0, v4234)]) (vcs := [(0, [v4234])]) (cells := [v4234, .int .i64 0]) SI43 rfl (.cons ⟨rfl, (.r 0 rfl)⟩ .nil) (by kernel_rfl) (ltn rfl)) rfl ?_
              refine VL.step1 (o_store 1 2 rfl rfl rfl TI43 (.agg (.r 0 rfl (.c rfl .nil))) rfl (len rfl)) rfl ?_
              refine VL.done ?_
              refine VN.then ?_
              refine VC.ret ?_
              simp only [Option.some.injEq, Prod.mk.injEq] at h
              obtain ⟨rfl, rfl⟩ := h
              exact VR.fn (rs := [.cell 6 43]) [] [(v4234, 33, 6, r4231.map enc32)] [0] rfl (.cell 1 rfl rfl TI43 (fun h => absurd h (by decide)) .nil) ⟨v4234, rfl, rfl, rfl⟩ trivial rfl (by decide)
        · rw [if_neg c3585] at h
          obtain rfl : b3584 = false := hb3584.symm.trans (Bool.eq_false_iff.2 c3585)
          refine VL.un rfl rfl (ltn rfl) ?_
          refine VL.un rfl rfl (ltn rfl) ?_
          refine VL.un rfl rfl (ltn rfl) ?_
          refine VL.va (op_pick rfl rfl (ltn rfl)) rfl ?_
          refine VL.done ?_
          refine VN.then ?_
          refine VC.cond_f rfl ?_
          refine VC.skip ?_
          refine VN.then ?_
          refine VC.seq ?_
          refine VC.seq ?_
          refine VC.region ?_
          refine VL.va (op_fieldAddr FI33_1 rfl (add_at _ _ _) (ltn rfl)) rfl ?_
          refine VL.va (op_load 0 1 rfl rfl TI3 rfl (by decide) (ltn rfl)) rfl ?_
          refine VL.va (op_move rfl (ltn rfl)) rfl ?_
          refine VL.va (op_ari64 rfl rfl rfl (ltn rfl)) rfl ?_
          refine VL.letter (decide ((wrap64 (t3566 + a2)) > 1073741824)) fun b4238 hb4238 => ?_
          refine VL.va (op_cmp rfl rfl (congrArg some hb4238) (ltn rfl)) rfl ?_
          refine VL.done ?_
          refine VN.then ?_
          by_cases c4239 : (wrap64 (t3566 + a2)) > 1073741824
          · rw [if_pos c4239] at h
            obtain rfl : b4238 = true := hb4238.symm.trans (decide_eq_true c4239)
            refine VC.cond_t rfl ?_
            refine VC.seq ?_
            refine VC.region ?_
            refine VL.va (op_build (vals := [(1, .int .i64 2)]) (vcs := [(1, [.int .i64 2])]) (cells := [.slice none 0 0, .int .i64 2]) SI43 rfl (.cons ⟨rfl, (.c rfl)⟩ .nil) (by kernel_rfl) (ltn rfl)) rfl ?_
            refine VL.step1 (o_store 1 2 rfl rfl rfl TI43 (.agg (.c rfl (.c rfl .nil))) rfl (len rfl)) rfl ?_
            refine VL.done ?_
            refine VN.then ?_
            refine VC.ret ?_
            refine VR.then ?_
            simp only [Option.some.injEq, Prod.mk.injEq] at h
            obtain ⟨rfl, rfl⟩ := h
            refine VR.nilRow' 33 6 ?_
            exact VR.fn (rs := [.cell 6 43]) [] [((.slice none 0 0), 33, 6, ([] : List S32).map enc32)] [0] rfl (.cell 1 rfl rfl TI43 (fun h => absurd h (by decide)) .nil) ⟨(.slice none 0 0), rfl, rfl, rfl⟩ trivial rfl (by decide)
          · rw [if_neg c4239] at h
            obtain rfl : b4238 = false := hb4238.symm.trans (decide_eq_false c4239)
            refine VC.cond_f rfl ?_
            refine VC.skip ?_
            refine VN.then ?_
            refine VC.seq ?_
            refine VC.region ?_
            refine VL.va (op_move rfl (ltn rfl)) rfl ?_
            refine VL.va (op_fieldAddr FI33_0 rfl (add_at _ _ _) (ltn rfl)) rfl ?_
            refine VL.step1 (o_store 0 1 rfl rfl rfl TI9 (.c rfl) rfl (len rfl)) rfl ?_
            refine VL.done ?_
            refine VN.then ?_
            refine VC.seq ?_
            refine VC.region ?_
            refine VL.va (op_fieldAddr FI33_1 rfl (add_at _ _ _) (ltn rfl)) rfl ?_
            refine VL.va (op_load 0 1 rfl rfl TI3 rfl (by decide) (ltn rfl)) rfl ?_
            refine VL.va (op_move rfl (ltn rfl)) rfl ?_
            refine VL.va (op_ari64 rfl rfl rfl (ltn rfl)) rfl ?_
            refine VL.va (op_fieldAddr FI33_1 rfl (add_at _ _ _) (ltn rfl)) rfl ?_
            refine VL.step1 (o_store 0 1 rfl rfl rfl TI3 (.c rfl) rfl (len rfl)) rfl ?_
            refine VL.done ?_
            refine VN.then ?_
            refine VC.seq ?_
            refine VC.region ?_
            refine VL.va (op_fieldAddr FI33_2 rfl (add_at _ _ _) (ltn rfl)) rfl ?_
            refine VL.va (op_load 0 1 rfl rfl TI3 rfl (by decide) (ltn rfl)) rfl ?_
            refine VL.va (op_move rfl (ltn rfl)) rfl ?_
            refine VL.va (op_ari64 rfl rfl rfl (ltn rfl)) rfl ?_
            refine VL.va (op_fieldAddr FI33_2 rfl (add_at _ _ _) (ltn rfl)) rfl ?_
            refine VL.step1 (o_store 0 1 rfl rfl rfl TI3 (.c rfl) rfl (len rfl)) rfl ?_
            refine VL.done ?_
            refine VN.then ?_
            refine VC.seq ?_
            refine VC.region ?_
            refine VL.va (op_move rfl (ltn rfl)) rfl ?_
            refine VL.va (op_load 0 6 rfl rfl TI33 rfl (fun h => absurd h (by decide)) (ltn rfl)) rfl ?_
            replace h := Option.bind_eq_some_iff.1 h
            obtain ⟨r4241, hA4242, h⟩ := h
            refine VL.sC (o_call0 FO34 (tarryref08_Set.ok k l0 a1 (wrap64 (t3566 + a2)) (wrap64 (t3567 + a2)) t3568 t3569 t3570 v0 r4241 hA4242) rfl rfl (ltn rfl) (All_of (.cons (List.mem_of_getElem? (i := 0) rfl) .nil))) rfl ?_
            rintro v4244 _ _ ⟨_, rfl, rfl, rfl⟩
            refine VL.va (op_build (vals := [(0, v4244)]) (vcs := [(0, [v4244])]) (cells := [v4244, .int .i64 0]) SI43 rfl (.cons ⟨rfl, (.r 0 rfl)⟩ .nil) (by kernel_rfl) (ltn rfl)) rfl ?_
            refine VL.step1 (o_store 1 2 rfl rfl rfl TI43 (.agg (.r 0 rfl (.c rfl .nil))) rfl (len rfl)) rfl ?_
            refine VL.done ?_
            refine VN.then ?_
            refine VC.ret ?_
            simp only [Option.some.injEq, Prod.mk.injEq] at h
            obtain ⟨rfl, rfl⟩ := h
            exact VR.fn (rs := [.cell 6 43]) [] [(v4244, 33, 6, r4241.map enc32)] [0] rfl (.cell 1 rfl rfl TI43 (fun h => absurd h (by decide)) .nil) ⟨v4244, rfl, rfl, rfl⟩ trivial rfl (by decide)
      · rw [if_neg c3462] at h
        obtain rfl := Bool.eq_false_iff.2 c3462
        refine VL.va (op_not rfl rfl (ltn rfl)) rfl ?_
        refine VL.va (op_pick rfl rfl (ltn rfl)) rfl ?_
        refine VL.done ?_
        refine VN.then ?_
        refine VC.cond_t rfl ?_
        refine VC.seq ?_
        refine VC.region ?_
        refine VL.va (op_build (vals := [(1, .int .i64 1)]) (vcs := [(1, [.int .i64 1])]) (cells := [.slice none 0 0, .int .i64 1]) SI43 rfl (.cons ⟨rfl, (.c rfl)⟩ .nil) (by kernel_rfl) (ltn rfl)) rfl ?_
        refine VL.step1 (o_store 0 2 rfl rfl rfl TI43 (.agg (.c rfl (.c rfl .nil))) rfl (len rfl)) rfl ?_
        refine VL.done ?_
        refine VN.then ?_
        refine VC.ret ?_
        refine VR.then ?_
        simp only [Option.some.injEq, Prod.mk.injEq] at h
        obtain ⟨rfl, rfl⟩ := h
        refine VR.nilRow' 33 6 ?_
        exact VR.fn (rs := [.cell 6 43]) [] [((.slice none 0 0), 33, 6, ([] : List S32).map enc32)] [0] rfl (.cell 0 rfl rfl TI43 (fun h => absurd h (by decide)) .nil) ⟨(.slice none 0 0), rfl, rfl, rfl⟩ trivial rfl (by decide)
    · rw [if_neg c3459] at h
      obtain rfl := Bool.eq_false_iff.2 c3459
      refine VL.va (op_not rfl rfl (ltn rfl)) rfl ?_
      refine VL.va (op_pick rfl rfl (ltn rfl)) rfl ?_
      refine VL.va (op_move rfl (ltn rfl)) rfl ?_
      refine VL.un rfl rfl (ltn rfl) ?_
      refine VL.un rfl rfl (ltn rfl) ?_
      refine VL.un rfl rfl (ltn rfl) ?_
      refine VL.va (op_pick rfl rfl (ltn rfl)) rfl ?_
      refine VL.done ?_
      refine VN.then ?_
      refine VC.cond_t rfl ?_
      refine VC.seq ?_
      refine VC.region ?_
      refine VL.va (op_build (vals := [(1, .int .i64 1)]) (vcs := [(1, [.int .i64 1])]) (cells := [.slice none 0 0, .int .i64 1]) SI43 rfl (.cons ⟨rfl, (.c rfl)⟩ .nil) (by kernel_rfl) (ltn rfl)) rfl ?_
      refine VL.step1 (o_store 0 2 rfl rfl rfl TI43 (.agg (.c rfl (.c rfl .nil))) rfl (len rfl)) rfl ?_
      refine VL.done ?_
      refine VN.then ?_
      refine VC.ret ?_
      refine VR.then ?_
      simp only [Option.some.injEq, Prod.mk.injEq] at h
      obtain ⟨rfl, rfl⟩ := h
      refine VR.nilRow' 33 6 ?_
      exact VR.fn (rs := [.cell 6 43]) [] [((.slice none 0 0), 33, 6, ([] : List S32).map enc32)] [0] rfl (.cell 0 rfl rfl TI43 (fun h => absurd h (by decide)) .nil) ⟨(.slice none 0 0), rfl, rfl, rfl⟩ trivial rfl (by decide)
  · rw [if_neg c3456] at h
    obtain rfl := Bool.eq_false_iff.2 c3456
    refine VL.va (op_not rfl rfl (ltn rfl)) rfl ?_
    refine VL.va (op_move rfl (ltn rfl)) rfl ?_
    refine VL.un rfl rfl (ltn rfl) ?_
    refine VL.un rfl rfl (ltn rfl) ?_
    refine VL.un rfl rfl (ltn rfl) ?_
    refine VL.va (op_pick rfl rfl (ltn rfl)) rfl ?_
    refine VL.va (op_move rfl (ltn rfl)) rfl ?_
    refine VL.un rfl rfl (ltn rfl) ?_
    refine VL.un rfl rfl (ltn rfl) ?_
    refine VL.un rfl rfl (ltn rfl) ?_
    refine VL.va (op_pick rfl rfl (ltn rfl)) rfl ?_
    refine VL.done ?_
    refine VN.then ?_
    refine VC.cond_t rfl ?_
    refine VC.seq ?_
    refine VC.region ?_
    refine VL.va (op_build (vals := [(1, .int .i64 1)]) (vcs := [(1, [.int .i64 1])]) (cells := [.slice none 0 0, .int .i64 1]) SI43 rfl (.cons ⟨rfl, (.c rfl)⟩ .nil) (by kernel_rfl) (ltn rfl)) rfl ?_
    refine VL.step1 (o_store 0 2 rfl rfl rfl TI43 (.agg (.c rfl (.c rfl .nil))) rfl (len rfl)) rfl ?_
    refine VL.done ?_
    refine VN.then ?_
    refine VC.ret ?_
    refine VR.then ?_
    simp only [Option.some.injEq, Prod.mk.injEq] at h
    obtain ⟨rfl, rfl⟩ := h
    refine VR.nilRow' 33 6 ?_
    exact VR.fn (rs := [.cell 6 43]) [] [((.slice none 0 0), 33, 6, ([] : List S32).map enc32)] [0] rfl (.cell 0 rfl rfl TI43 (fun h => absurd h (by decide)) .nil) ⟨(.slice none 0 0), rfl, rfl, rfl⟩ trivial rfl (by decide)
set_option maxHeartbeats 4000000 in
set_option maxRecDepth 100000 in
theorem tarryref08_Same.ok (k : Nat) (l0 : List S32) (l1 : List S32) (v0 : Value) (v1 : Value) (r1 : Bool) (h : tarryref08_Same.f k l0 l1 = some r1) :
    VCalls Try.prog 12 [v0, v1] [.row v0 6 (l0.map enc32), .row v1 6 (l1.map enc32)] (fun v G own => v = .bool r1 ∧ G = [] ∧ own = []) := by
  refine VCalls.intro Try.func12 rfl (len rfl) fun E hC => ?_
  unfold tarryref08_Same.f at h
  refine VC.seq ?_
  refine VC.region ?_
  refine VL.va (op_assign rfl (ltn rfl)) rfl ?_
  refine VL.done ?_
  refine VN.then ?_
  refine VC.seq ?_
  refine VC.seq ?_
  refine VC.region ?_
  refine VL.va (op_move rfl (ltn rfl)) rfl ?_
  refine VL.va (op_len (m := l0.length) 0 lenm Try.underlying23 rfl rfl (ltn rfl)) rfl ?_
  refine VL.va (op_move rfl (ltn rfl)) rfl ?_
  refine VL.va (op_len (m := l1.length) 1 lenm Try.underlying23 rfl rfl (ltn rfl)) rfl ?_
  refine VL.letter (((l0.length : Int) != (l1.length : Int))) fun b4266 hb4266 => ?_
  refine VL.va (op_cmp rfl rfl (congrArg some hb4266) (ltn rfl)) rfl ?_
  refine VL.done ?_
  refine VN.then ?_
  by_cases c4267 : (l0.length : Int) = (l1.length : Int)
  · rw [if_pos c4267] at h
    obtain rfl : b4266 = false := hb4266.symm.trans (bne_eq_false_iff_eq.2 c4267)
    refine VC.cond_f rfl ?_
    refine VC.skip ?_
    refine VN.then ?_
    refine VC.seq ?_
    refine VC.seq ?_
    refine VC.region ?_
    refine VL.va (op_move rfl (ltn rfl)) rfl ?_
    refine VL.va (op_len (m := l0.length) 0 lenm Try.underlying23 rfl rfl (ltn rfl)) rfl ?_
    refine VL.va (op_move rfl (ltn rfl)) rfl ?_
    refine VL.done ?_
    refine VN.then ?_
    refine VC.block ?_
    refine VC.loop1 (fun (i4321 : Int) => ⟨26, [(0, v0), (1, v1), (4, .bool false), (12, .int .i64 (l0.length : Int)), (13, .int .i64 i4321)], [.row v0 6 (l0.map enc32), .row v1 6 (l1.map enc32)], [], []⟩) (fun (ml1 : Nat) (i4321 : Int) => tarryref08_Same.l1 k l0 l1 ml1 i4321 = some r1) k 0 [] [] h ⟨rfl, ⟨rfl, rfl, rfl, rfl, rfl, trivial⟩, ⟨⟨0, rfl⟩, ⟨1, rfl⟩, trivial⟩, rfl, by decide, rfl, by decide⟩ (by intros; simp [tarryref08_Same.l1]) ?_
    clear h
    intro ml1 ihl1 i4321 h
    simp only [tarryref08_Same.l1] at h
    refine VC.seq ?_
    refine VC.region ?_
    refine VL.letter (decide (i4321 < (l0.length : Int))) fun b4335 hb4335 => ?_
    refine VL.va (op_cmp rfl rfl (congrArg some hb4335) (ltn rfl)) rfl ?_
    refine VL.done ?_
    refine VN.then ?_
    refine VC.seq ?_
    by_cases c4337 : i4321 < (l0.length : Int)
    · rw [if_pos c4337] at h
      obtain rfl : b4335 = true := hb4335.symm.trans (decide_eq_true c4337)
      refine VC.cond_t rfl ?_
      refine VC.skip ?_
      refine VN.then ?_
      refine VC.seq ?_
      refine VC.block ?_
      refine VC.seq ?_
      refine VC.region ?_
      refine VL.va (op_move rfl (ltn rfl)) rfl ?_
      refine VL.va (op_assign rfl (ltn rfl)) rfl ?_
      refine VL.done ?_
      refine VN.then ?_
      by_cases c4343 : 0 ≤ i4321
      · rw [if_pos c4343] at h
        replace h := Option.bind_eq_some_iff.1 h
        obtain ⟨x4344, hx4344, h⟩ := h
        replace h := Option.bind_eq_some_iff.1 h
        obtain ⟨x4345, hx4345, h⟩ := h
        refine VC.letter ((!(((x4344.f0 == x4345.f0) && ((x4344.f1 == x4345.f1) && ((x4344.f2 == x4345.f2) && ((x4344.f3 == x4345.f3) && ((x4344.f4 == x4345.f4) && (x4344.f5 == x4345.f5))))))))) fun b4346 hb4346 => ?_
        refine VC.open (m := l0.length) 0 lenm rfl (pos_get hx4344) ?_
        rintro ad4272 n4273 rfl
        refine VC.open (m := l1.length) 1 lenm rfl (pos_get hx4345) ?_
        rintro ad4275 n4276 rfl
        refine VC.join0 (⟨26, [(0, (.slice (some ad4272) l0.length n4273)), (1, (.slice (some ad4275) l1.length n4276)), (4, .bool false), (5, .int .i64 i4321), (12, .int .i64 (l0.length : Int)), (13, .int .i64 i4321), (14, .bool true), (15, .int .i64 i4321), (16, (.slice (some ad4272) l0.length n4273)), (17, .int .i64 i4321), (19, .agg #[.string x4344.f0, .int .i64 x4344.f1, .int .i64 x4344.f2, .int .i64 x4344.f3, .int .i64 x4344.f4, .int .i64 x4344.f5]), (20, (.slice (some ad4275) l1.length n4276)), (21, .int .i64 i4321), (23, .agg #[.string x4345.f0, .int .i64 x4345.f1, .int .i64 x4345.f2, .int .i64 x4345.f3, .int .i64 x4345.f4, .int .i64 x4345.f5]), (24, .bool b4346)], [.row (.slice (some ad4272) l0.length n4273) 6 (l0.map enc32), .row (.slice (some ad4275) l1.length n4276) 6 (l1.map enc32)], [], []⟩) (True) ?_ ?_
        · refine VC.draw ⟨0, [], [.row (.slice (some ad4272) l0.length n4273) 6 (l0.map enc32), .row (.slice (some ad4275) l1.length n4276) 6 (l1.map enc32)], [], []⟩ (by kernel_rfl) rfl (by kernel_rfl) (n := 9) (listed := LB 9 0) ?_
          refine VA.va (i := 0) (listed' := LB 9 1) rfl (op_move rfl (ltn rfl)) rfl (by kernel_rfl) (by kernel_rfl) (by kernel_rfl) (by kernel_rfl) ⟨⟨⟨0, rfl⟩, ⟨1, rfl⟩, trivial⟩, trivial, trivial⟩ (fun _ _ _ h => h) ?_
          refine VA.va (i := 1) (listed' := LB 9 3) rfl (op_move rfl (ltn rfl)) rfl (by kernel_rfl) (by kernel_rfl) (by kernel_rfl) (by kernel_rfl) ⟨⟨⟨0, rfl⟩, ⟨1, rfl⟩, trivial⟩, trivial, trivial⟩ (fun _ _ _ h => h) ?_
          refine VA.va (i := 2) (listed' := LB 9 7) rfl (op_indexAddr Try.underlying23 TI33 rfl rfl c4343 (lt_get c4343 hx4344) rfl (ltn rfl)) rfl (by kernel_rfl) (by kernel_rfl) (by kernel_rfl) (by kernel_rfl) ⟨⟨⟨0, rfl⟩, ⟨1, rfl⟩, trivial⟩, trivial, trivial⟩ (fun _ _ _ h => h) ?_
          refine VA.va (i := 3) (listed' := LB 9 15) rfl (op_load_row (sz := 6) (o := 0) 0 i4321.toNat 6 rfl rfl (get_map hx4344) TI33 rfl (fun h => absurd h (by decide)) (ltn rfl)) rfl (by kernel_rfl) (by kernel_rfl) (by kernel_rfl) (by kernel_rfl) ⟨⟨⟨0, rfl⟩, ⟨1, rfl⟩, trivial⟩, trivial, trivial⟩ (fun _ _ _ h => h) ?_
          refine VA.va (i := 4) (listed' := LB 9 31) rfl (op_move rfl (ltn rfl)) rfl (by kernel_rfl) (by kernel_rfl) (by kernel_rfl) (by kernel_rfl) ⟨⟨⟨0, rfl⟩, ⟨1, rfl⟩, trivial⟩, trivial, trivial⟩ (fun _ _ _ h => h) ?_
          refine VA.va (i := 5) (listed' := LB 9 63) rfl (op_move rfl (ltn rfl)) rfl (by kernel_rfl) (by kernel_rfl) (by kernel_rfl) (by kernel_rfl) ⟨⟨⟨0, rfl⟩, ⟨1, rfl⟩, trivial⟩, trivial, trivial⟩ (fun _ _ _ h => h) ?_
          refine VA.va (i := 6) (listed' := LB 9 127) rfl (op_indexAddr Try.underlying23 TI33 rfl rfl c4343 (lt_get c4343 hx4345) rfl (ltn rfl)) rfl (by kernel_rfl) (by kernel_rfl) (by kernel_rfl) (by kernel_rfl) ⟨⟨⟨0, rfl⟩, ⟨1, rfl⟩, trivial⟩, trivial, trivial⟩ (fun _ _ _ h => h) ?_
          refine VA.va (i := 7) (listed' := LB 9 255) rfl (op_load_row (sz := 6) (o := 0) 1 i4321.toNat 6 rfl rfl (get_map hx4345) TI33 rfl (fun h => absurd h (by decide)) (ltn rfl)) rfl (by kernel_rfl) (by kernel_rfl) (by kernel_rfl) (by kernel_rfl) ⟨⟨⟨0, rfl⟩, ⟨1, rfl⟩, trivial⟩, trivial, trivial⟩ (fun _ _ _ h => h) ?_
          refine VA.va (i := 8) (listed' := LB 9 511) rfl (op_neS rfl rfl EG33 (EQ33 x4344.f0 x4344.f1 x4344.f2 x4344.f3 x4344.f4 x4344.f5 x4345.f0 x4345.f1 x4345.f2 x4345.f3 x4345.f4 x4345.f5) hb4346 (ltn rfl)) rfl (by kernel_rfl) (by kernel_rfl) (by kernel_rfl) (by kernel_rfl) ⟨⟨⟨0, rfl⟩, ⟨1, rfl⟩, trivial⟩, trivial, trivial⟩ (fun _ _ _ h => h) ?_
          refine VA.done (by kernel_rfl) ?_
          exact VN.meet0  [] [] trivial ⟨rfl, ⟨rfl, rfl, rfl, rfl, rfl, rfl, rfl, rfl, rfl, rfl, rfl, rfl, rfl, rfl, rfl, trivial⟩, ⟨⟨0, rfl⟩, ⟨1, rfl⟩, trivial⟩, rfl, by decide, rfl, by decide⟩
        intro _
        by_cases c4347 : (((x4344.f0 == x4345.f0) && ((x4344.f1 == x4345.f1) && ((x4344.f2 == x4345.f2) && ((x4344.f3 == x4345.f3) && ((x4344.f4 == x4345.f4) && (x4344.f5 == x4345.f5))))))) = true
        · rw [if_pos c4347] at h
          obtain rfl : b4346 = false := hb4346.symm.trans (not_t c4347)
          refine VC.cond_f rfl ?_
          refine VC.skip ?_
          refine VN.block ?_
          refine VN.then ?_
          refine VC.region ?_
          refine VL.va (op_ari64 rfl rfl rfl (ltn rfl)) rfl ?_
          refine VL.va (op_move rfl (ltn rfl)) rfl ?_
          refine VL.done ?_
          refine VN.again [] [] (ihl1 (wrap64 (i4321 + 1)) h) ⟨rfl, ⟨rfl, rfl, rfl, rfl, rfl, trivial⟩, ⟨⟨0, rfl⟩, ⟨1, rfl⟩, trivial⟩, rfl, by decide, rfl, by decide⟩
        · rw [if_neg c4347] at h
          obtain rfl : b4346 = true := hb4346.symm.trans (not_f c4347)
          refine VC.cond_t rfl ?_
          refine VC.seq ?_
          refine VC.region ?_
          refine VL.va (op_assign rfl (ltn rfl)) rfl ?_
          refine VL.done ?_
          refine VN.then ?_
          refine VC.ret ?_
          refine VR.block ?_
          refine VR.then ?_
          refine VR.then ?_
          refine VR.block ?_
          refine VR.then ?_
          obtain rfl := Option.some.inj h
          exact VR.fn (rs := [.tmp 4]) [] [] [] rfl (.tmp rfl .nil) ⟨rfl, rfl, rfl⟩ trivial rfl (by decide)
      · rw [if_neg c4343] at h; cases h
    · rw [if_neg c4337] at h
      obtain rfl : b4335 = false := hb4335.symm.trans (decide_eq_false c4337)
      refine VC.cond_f rfl ?_
      refine VC.exit ?_
      refine VX.then ?_
      refine VX.then ?_
      refine VX.hit ?_
      refine VN.then ?_
      refine VC.seq ?_
      refine VC.region ?_
      refine VL.va (op_assign rfl (ltn rfl)) rfl ?_
      refine VL.done ?_
      refine VN.then ?_
      refine VC.ret ?_
      obtain rfl := Option.some.inj h
      exact VR.fn (rs := [.tmp 4]) [] [] [] rfl (.tmp rfl .nil) ⟨rfl, rfl, rfl⟩ trivial rfl (by decide)
  · rw [if_neg c4267] at h
    obtain rfl : b4266 = true := hb4266.symm.trans (bne_iff_ne.2 c4267)
    refine VC.cond_t rfl ?_
    refine VC.seq ?_
    refine VC.region ?_
    refine VL.va (op_assign rfl (ltn rfl)) rfl ?_
    refine VL.done ?_
    refine VN.then ?_
    refine VC.ret ?_
    refine VR.then ?_
    obtain rfl := Option.some.inj h
    exact VR.fn (rs := [.tmp 4]) [] [] [] rfl (.tmp rfl .nil) ⟨rfl, rfl, rfl⟩ trivial rfl (by decide)

end Go.Proofs.Ytibpoajlnloloaa.PStockMoves
