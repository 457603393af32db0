/- Written by a program of this repo: what the program's functions do, each as a Lean function, shown of the loaded code; or a statement's row over that; no condition of its own. -/
import Derived.Test.YtlfkendmepdbkaaPDiskCrashesx2
namespace Go.Proofs.Ytlfkendmepdbkaa.PDiskCrashes
open Go Go.RowKit Go.Proofs.YtlfkendmepdbkaaV
set_option linter.unusedVariables false
set_option linter.unusedSimpArgs false

set_option maxHeartbeats 4000000 in
set_option maxRecDepth 100000 in
theorem disk_Put.ok (k : Nat) (l0_0 : List ByteArray) (l0_1 : List S32) (a1 : Int) (a2 : ByteArray) (v0_0 : Value) (v0_1 : Value) (r1 : List ByteArray) (r2 : List S32) (r3 : Int) (h : disk_Put.f k l0_0 l0_1 a1 a2 = some (r1, r2, r3)) :
    VCalls Try.prog 10 [.agg #[v0_0, v0_1], .int .i64 a1, .string a2] [.row v0_0 1 (l0_0.map enc_str), .row v0_1 2 (l0_1.map enc32)] (fun v G own => ∃ w0 w1 : Value, v = .tuple #[.agg #[w0, w1], .int .i64 r3] ∧ G = [.row w0 1 (r1.map enc_str), .row w1 2 (r2.map enc32)] ∧ own = []) := by
  refine VCalls.intro Try.func10 rfl (len rfl) fun E hC hW hD hU => ?_
  unfold disk_Put.f at h
  refine VC.seq ?_
  refine VC.region ?_
  refine VL.sG (o_box rfl (.agg (.f 0 rfl (.f 1 rfl .nil))) (ltn rfl)) rfl ?_
  intro g1200
  refine VL.sG (o_alloc Z25 ZL25 (ltn rfl)) rfl ?_
  intro g1201
  refine VL.va (op_assign rfl (ltn rfl)) rfl ?_
  refine VL.done ?_
  refine VN.then ?_
  refine VC.seq ?_
  refine VC.block ?_
  refine VC.seq ?_
  refine VC.region ?_
  refine VL.va (op_load 1 2 rfl rfl TI25 rfl (fun h => absurd h (by decide)) (ltn rfl)) rfl ?_
  replace h := Option.bind_eq_some_iff.1 h
  obtain ⟨t1232, hA1233, h⟩ := h
  refine VL.sC (o_call0 FO16 (disk_Right.ok k l0_0 l0_1 v0_0 v0_1 t1232 hA1233) rfl rfl (ltn rfl) (All_of (.cons (List.mem_of_getElem? (i := 0) rfl) (.cons (List.mem_of_getElem? (i := 1) rfl) .nil)))) rfl ?_
  rintro _ _ _ ⟨rfl, rfl, rfl⟩
  by_cases c1234 : t1232 = true
  · rw [if_pos c1234] at h
    obtain rfl := c1234
    refine VL.va (op_not rfl rfl (ltn rfl)) rfl ?_
    refine VL.va (op_assign rfl (ltn rfl)) rfl ?_
    refine VL.done ?_
    refine VN.then ?_
    refine VC.cond_f rfl ?_
    refine VC.seq ?_
    refine VC.region ?_
    refine VL.va (op_move rfl (ltn rfl)) rfl ?_
    refine VL.letter (decide (a1 < 0)) fun b1238 hb1238 => ?_
    refine VL.va (op_cmp rfl rfl (congrArg some hb1238) (ltn rfl)) rfl ?_
    refine VL.va (op_move rfl (ltn rfl)) rfl ?_
    by_cases c1239 : a1 < 0
    · rw [if_pos c1239] at h
      obtain rfl : b1238 = true := hb1238.symm.trans (decide_eq_true c1239)
      refine VL.un rfl rfl (ltn rfl) ?_
      refine VL.un rfl rfl (ltn rfl) ?_
      refine VL.un rfl rfl (ltn rfl) ?_
      refine VL.un rfl rfl (ltn rfl) ?_
      refine VL.un rfl rfl (ltn rfl) ?_
      refine VL.va (op_pick rfl rfl (ltn rfl)) rfl ?_
      refine VL.va (op_assign rfl (ltn rfl)) rfl ?_
      refine VL.done ?_
      refine VN.then ?_
      refine VC.cond_t rfl ?_
      refine VC.seq ?_
      refine VC.region ?_
      refine VL.va (op_build (vals := []) (vcs := []) (cells := [.slice none 0 0, .slice none 0 0]) SI25 rfl .nil (by kernel_rfl) (ltn rfl)) rfl ?_
      refine VL.step1 (o_store 0 2 rfl rfl rfl TI25 (.agg (.of rfl)) rfl (len rfl)) rfl ?_
      refine VL.va (op_assign rfl (ltn rfl)) rfl ?_
      refine VL.done ?_
      refine VN.then ?_
      refine VC.ret ?_
      refine VR.block ?_
      refine VR.then ?_
      simp only [Option.some.injEq, Prod.mk.injEq] at h
      obtain ⟨rfl, rfl, rfl⟩ := h
      refine VR.nilFact' 1 ?_
      refine VR.nilFact' 2 ?_
      exact VR.fn (rs := [.cell 6 25, .tmp 7]) [.row (.slice none 0 0) 1 (([] : List ByteArray).map enc_str), .row (.slice none 0 0) 2 (([] : List S32).map enc32)] [] [] rfl (.cell 0 rfl rfl TI25 (fun h => absurd h (by decide)) (.tmp rfl .nil)) ⟨(.slice none 0 0), (.slice none 0 0), rfl, rfl, rfl⟩ ⟨⟨1, rfl⟩, ⟨0, rfl⟩, trivial⟩ rfl (by decide)
    · rw [if_neg c1239] at h
      obtain rfl : b1238 = false := hb1238.symm.trans (decide_eq_false c1239)
      refine VL.va (op_move rfl (ltn rfl)) rfl ?_
      refine VL.va (op_fieldAddr FI25_0 rfl (add_at _ _ _) (ltn rfl)) rfl ?_
      refine VL.va (op_load 1 1 rfl rfl TI22 rfl (by decide) (ltn rfl)) rfl ?_
      refine VL.va (op_len (m := l0_0.length) 0 lenm Try.underlying22 rfl rfl (ltn rfl)) rfl ?_
      refine VL.letter (decide (a1 ≥ (l0_0.length : Int))) fun b1242 hb1242 => ?_
      refine VL.va (op_cmp rfl rfl (congrArg some hb1242) (ltn rfl)) rfl ?_
      refine VL.va (op_pick rfl rfl (ltn rfl)) rfl ?_
      refine VL.va (op_assign rfl (ltn rfl)) rfl ?_
      refine VL.done ?_
      refine VN.then ?_
      by_cases c1243 : a1 ≥ (l0_0.length : Int)
      · rw [if_pos c1243] at h
        obtain rfl : b1242 = true := hb1242.symm.trans (decide_eq_true c1243)
        refine VC.cond_t rfl ?_
        refine VC.seq ?_
        refine VC.region ?_
        refine VL.va (op_build (vals := []) (vcs := []) (cells := [.slice none 0 0, .slice none 0 0]) SI25 rfl .nil (by kernel_rfl) (ltn rfl)) rfl ?_
        refine VL.step1 (o_store 0 2 rfl rfl rfl TI25 (.agg (.of rfl)) rfl (len rfl)) rfl ?_
        refine VL.va (op_assign rfl (ltn rfl)) rfl ?_
        refine VL.done ?_
        refine VN.then ?_
        refine VC.ret ?_
        refine VR.block ?_
        refine VR.then ?_
        simp only [Option.some.injEq, Prod.mk.injEq] at h
        obtain ⟨rfl, rfl, rfl⟩ := h
        refine VR.nilFact' 1 ?_
        refine VR.nilFact' 2 ?_
        exact VR.fn (rs := [.cell 6 25, .tmp 7]) [.row (.slice none 0 0) 1 (([] : List ByteArray).map enc_str), .row (.slice none 0 0) 2 (([] : List S32).map enc32)] [] [] rfl (.cell 0 rfl rfl TI25 (fun h => absurd h (by decide)) (.tmp rfl .nil)) ⟨(.slice none 0 0), (.slice none 0 0), rfl, rfl, rfl⟩ ⟨⟨1, rfl⟩, ⟨0, rfl⟩, trivial⟩ rfl (by decide)
      · rw [if_neg c1243] at h
        obtain rfl : b1242 = false := hb1242.symm.trans (decide_eq_false c1243)
        refine VC.cond_f rfl ?_
        refine VC.seq ?_
        refine VC.region ?_
        refine VL.va (op_move rfl (ltn rfl)) rfl ?_
        refine VL.va (op_lens Try.underlying9 rfl (ltn rfl)) rfl ?_
        refine VL.letter (((a2.size : Int) != 64)) fun b1246 hb1246 => ?_
        refine VL.va (op_cmp rfl rfl (congrArg some hb1246) (ltn rfl)) rfl ?_
        refine VL.va (op_assign rfl (ltn rfl)) rfl ?_
        refine VL.done ?_
        refine VN.then ?_
        by_cases c1247 : (a2.size : Int) = 64
        · rw [if_pos c1247] at h
          obtain rfl : b1246 = false := hb1246.symm.trans (bne_eq_false_iff_eq.2 c1247)
          refine VC.cond_f rfl ?_
          refine VC.seq ?_
          refine VC.region ?_
          refine VL.va (op_fieldAddr FI25_1 rfl (add_at _ _ _) (ltn rfl)) rfl ?_
          refine VL.va (op_load 1 1 rfl rfl TI23 rfl (by decide) (ltn rfl)) rfl ?_
          refine VL.va (op_len (m := l0_1.length) 1 lenm Try.underlying23 rfl rfl (ltn rfl)) rfl ?_
          refine VL.letter (((l0_1.length : Int) == 64)) fun b1248 hb1248 => ?_
          refine VL.va (op_cmp rfl rfl (congrArg some hb1248) (ltn rfl)) rfl ?_
          refine VL.va (op_assign rfl (ltn rfl)) rfl ?_
          refine VL.done ?_
          refine VN.then ?_
          by_cases c1249 : (l0_1.length : Int) = 64
          · rw [if_pos c1249] at h
            obtain rfl : b1248 = true := hb1248.symm.trans (beq_iff_eq.2 c1249)
            refine VC.cond_t rfl ?_
            refine VC.seq ?_
            refine VC.region ?_
            refine VL.va (op_build (vals := []) (vcs := []) (cells := [.slice none 0 0, .slice none 0 0]) SI25 rfl .nil (by kernel_rfl) (ltn rfl)) rfl ?_
            refine VL.step1 (o_store 0 2 rfl rfl rfl TI25 (.agg (.of rfl)) rfl (len rfl)) rfl ?_
            refine VL.va (op_assign rfl (ltn rfl)) rfl ?_
            refine VL.done ?_
            refine VN.then ?_
            refine VC.ret ?_
            refine VR.block ?_
            refine VR.then ?_
            simp only [Option.some.injEq, Prod.mk.injEq] at h
            obtain ⟨rfl, rfl, rfl⟩ := h
            refine VR.nilFact' 1 ?_
            refine VR.nilFact' 2 ?_
            exact VR.fn (rs := [.cell 6 25, .tmp 7]) [.row (.slice none 0 0) 1 (([] : List ByteArray).map enc_str), .row (.slice none 0 0) 2 (([] : List S32).map enc32)] [] [] rfl (.cell 0 rfl rfl TI25 (fun h => absurd h (by decide)) (.tmp rfl .nil)) ⟨(.slice none 0 0), (.slice none 0 0), rfl, rfl, rfl⟩ ⟨⟨1, rfl⟩, ⟨0, rfl⟩, trivial⟩ rfl (by decide)
          · rw [if_neg c1249] at h
            obtain rfl : b1248 = false := hb1248.symm.trans (beq_eq_false_iff_ne.2 c1249)
            refine VC.cond_f rfl ?_
            refine VC.skip ?_
            refine VN.block ?_
            refine VN.then ?_
            refine VC.seq ?_
            refine VC.region ?_
            refine VL.va (op_fieldAddr FI25_1 rfl (add_at _ _ _) (ltn rfl)) rfl ?_
            refine VL.va (op_load 1 1 rfl rfl TI23 rfl (by decide) (ltn rfl)) rfl ?_
            replace h := Option.bind_eq_some_iff.1 h
            obtain ⟨r1252, hA1253, h⟩ := h
            refine VL.sC (o_call0 FO21 (slices_Clip_api_Write_api_Write.ok l0_1 v0_1 r1252 hA1253) rfl rfl (ltn rfl) (All_of (.cons (List.mem_of_getElem? (i := 1) rfl) .nil))) rfl ?_
            rintro _ _ _ ⟨A1254, rfl, rfl, rfl⟩
            refine VL.va (op_move rfl (ltn rfl)) rfl ?_
            refine VL.va (op_move rfl (ltn rfl)) rfl ?_
            refine VL.va (op_build (vals := [(0, .int .i64 a1), (1, .string a2)]) (vcs := [(0, [.int .i64 a1]), (1, [.string a2])]) (cells := [.int .i64 a1, .string a2]) SI33 rfl (.cons ⟨rfl, (.c rfl)⟩ (.cons ⟨rfl, (.c rfl)⟩ .nil)) (by kernel_rfl) (ltn rfl)) rfl ?_
            refine VL.sG (o_buildSlice (vals := [(0, .agg #[.int .i64 a1, .string a2])]) (cells := #[.int .i64 a1, .string a2]) (es := List.map enc32 ([(⟨a1, a2⟩ : S32)] : List S32)) Try.underlying23 TI33 Z33 rfl (by decide) (by decide) (by kernel_rfl) (by kernel_rfl) rfl (flat_map enc32_ok _) (ltn rfl)) rfl ?_
            intro v1257
            by_cases c1258 : (r1252.length + ([(⟨a1, a2⟩ : S32)] : List S32).length) * 24 ≤ 140737488355328
            · rw [if_pos c1258] at h
              refine VL.sG (o_append_clip 0 appm Try.underlying23 EI33 rfl rfl rfl (.inr ⟨0, _, rfl⟩) (bndm c1258) (ltn rfl)) rfl ?_
              intro v1259
              refine VL.va (op_fieldAddr FI25_1 rfl (add_at _ _ _) (ltn rfl)) rfl ?_
              refine VL.step1 (o_store 1 1 rfl rfl rfl TI23 (.f 0 rfl) rfl (len rfl)) rfl ?_
              refine VL.done ?_
              refine VN.then ?_
              refine VC.seq ?_
              refine VC.region ?_
              refine VL.va (op_load 1 2 rfl rfl TI25 rfl (fun h => absurd h (by decide)) (ltn rfl)) rfl ?_
              refine VL.step1 (o_store 0 2 rfl rfl rfl TI25 (.agg (.f 2 rfl (.f 0 rfl .nil))) rfl (len rfl)) rfl ?_
              refine VL.va (op_assign rfl (ltn rfl)) rfl ?_
              refine VL.done ?_
              refine VN.then ?_
              refine VC.ret ?_
              simp only [Option.some.injEq, Prod.mk.injEq] at h
              obtain ⟨rfl, rfl, rfl⟩ := h
              exact VR.fn (rs := [.cell 6 25, .tmp 7]) [.row v0_0 1 (l0_0.map enc_str), .row v1259 2 ((r1252 ++ ([(⟨a1, a2⟩ : S32)] : List S32)).map enc32)] [] [] rfl (.cell 0 rfl rfl TI25 (fun h => absurd h (by decide)) (.tmp rfl .nil)) ⟨v0_0, v1259, rfl, rfl, rfl⟩ ⟨⟨2, rfl⟩, ⟨0, rfl⟩, trivial⟩ rfl (by decide)
            · rw [if_neg c1258] at h; cases h
        · rw [if_neg c1247] at h
          obtain rfl : b1246 = true := hb1246.symm.trans (bne_iff_ne.2 c1247)
          refine VC.cond_t rfl ?_
          refine VC.seq ?_
          refine VC.region ?_
          refine VL.va (op_build (vals := []) (vcs := []) (cells := [.slice none 0 0, .slice none 0 0]) SI25 rfl .nil (by kernel_rfl) (ltn rfl)) rfl ?_
          refine VL.step1 (o_store 0 2 rfl rfl rfl TI25 (.agg (.of rfl)) rfl (len rfl)) rfl ?_
          refine VL.va (op_assign rfl (ltn rfl)) rfl ?_
          refine VL.done ?_
          refine VN.then ?_
          refine VC.ret ?_
          refine VR.block ?_
          refine VR.then ?_
          simp only [Option.some.injEq, Prod.mk.injEq] at h
          obtain ⟨rfl, rfl, rfl⟩ := h
          refine VR.nilFact' 1 ?_
          refine VR.nilFact' 2 ?_
          exact VR.fn (rs := [.cell 6 25, .tmp 7]) [.row (.slice none 0 0) 1 (([] : List ByteArray).map enc_str), .row (.slice none 0 0) 2 (([] : List S32).map enc32)] [] [] rfl (.cell 0 rfl rfl TI25 (fun h => absurd h (by decide)) (.tmp rfl .nil)) ⟨(.slice none 0 0), (.slice none 0 0), rfl, rfl, rfl⟩ ⟨⟨1, rfl⟩, ⟨0, rfl⟩, trivial⟩ rfl (by decide)
  · rw [if_neg c1234] at h
    obtain rfl := Bool.eq_false_iff.2 c1234
    refine VL.va (op_not rfl rfl (ltn rfl)) rfl ?_
    refine VL.va (op_assign rfl (ltn rfl)) rfl ?_
    refine VL.done ?_
    refine VN.then ?_
    refine VC.cond_t rfl ?_
    refine VC.seq ?_
    refine VC.region ?_
    refine VL.va (op_build (vals := []) (vcs := []) (cells := [.slice none 0 0, .slice none 0 0]) SI25 rfl .nil (by kernel_rfl) (ltn rfl)) rfl ?_
    refine VL.step1 (o_store 0 2 rfl rfl rfl TI25 (.agg (.of rfl)) rfl (len rfl)) rfl ?_
    refine VL.va (op_assign rfl (ltn rfl)) rfl ?_
    refine VL.done ?_
    refine VN.then ?_
    refine VC.ret ?_
    refine VR.block ?_
    refine VR.then ?_
    simp only [Option.some.injEq, Prod.mk.injEq] at h
    obtain ⟨rfl, rfl, rfl⟩ := h
    refine VR.nilFact' 1 ?_
    refine VR.nilFact' 2 ?_
    exact VR.fn (rs := [.cell 6 25, .tmp 7]) [.row (.slice none 0 0) 1 (([] : List ByteArray).map enc_str), .row (.slice none 0 0) 2 (([] : List S32).map enc32)] [] [] rfl (.cell 0 rfl rfl TI25 (fun h => absurd h (by decide)) (.tmp rfl .nil)) ⟨(.slice none 0 0), (.slice none 0 0), rfl, rfl, rfl⟩ ⟨⟨1, rfl⟩, ⟨0, rfl⟩, trivial⟩ rfl (by decide)
set_option maxHeartbeats 4000000 in
set_option maxRecDepth 100000 in
theorem slices_Backward_api_Write_api_Write.ok (l0 : List S32) (v0 : Value) (r1 : List S32) (h : slices_Backward_api_Write_api_Write.f l0 = some r1) :
    VCalls Try.prog 22 [v0] [.row v0 2 (l0.map enc32)] (fun v G own => ∃ w0 : Value, ∃ p0 : Nat, v = .func (.func 35) #[] #[.pointer (some ⟨p0, 0, none⟩)] ∧ G = [.row w0 2 (r1.map enc32), .at_ ⟨p0, 0, none⟩ [w0]] ∧ own = []) := by
  refine VCalls.intro Try.func22 rfl (len rfl) fun E hC hW hD hU => ?_
  unfold slices_Backward_api_Write_api_Write.f at h
  refine VC.seq ?_
  refine VC.region ?_
  refine VL.sG (o_box rfl (.f 0 rfl) (ltn rfl)) rfl ?_
  intro g1316
  refine VL.va (op_assign rfl (ltn rfl)) rfl ?_
  refine VL.done ?_
  refine VN.then ?_
  refine VC.seq ?_
  refine VC.region ?_
  refine VL.va (op_makeFunc (vals := [.pointer (some ⟨g1316, 0, none⟩)]) rfl (ltn rfl)) rfl ?_
  refine VL.va (op_assign rfl (ltn rfl)) rfl ?_
  refine VL.done ?_
  refine VN.then ?_
  refine VC.ret ?_
  obtain rfl := Option.some.inj h
  refine VR.freeze' 0 rfl ?_
  exact VR.fn (rs := [.tmp 2]) [.row v0 2 (l0.map enc32), .at_ ⟨g1316, 0, none⟩ [v0]] [] [] rfl (.tmp rfl .nil) ⟨v0, g1316, rfl, rfl, rfl⟩ ⟨⟨1, rfl⟩, ⟨0, rfl⟩, trivial⟩ rfl (by decide)
set_option maxHeartbeats 4000000 in
set_option maxRecDepth 100000 in
theorem disk_Get.ok (k : Nat) (l0_0 : List ByteArray) (l0_1 : List S32) (a1 : Int) (v0_0 : Value) (v0_1 : Value) (r1 : ByteArray) (r2 : Int) (h : disk_Get.f k l0_0 l0_1 a1 = some (r1, r2)) :
    VCalls Try.prog 11 [.agg #[v0_0, v0_1], .int .i64 a1] [.row v0_0 1 (l0_0.map enc_str), .row v0_1 2 (l0_1.map enc32)] (fun v G own => v = .tuple #[.string r1, .int .i64 r2] ∧ G = [] ∧ own = []) := by
  refine VCalls.introM Try.func11 rfl (len rfl) fun E hC hW hD hU => ?_
  unfold disk_Get.f at h
  refine VC.seq ?_
  refine VC.region ?_
  refine VL.sG (o_box rfl (.agg (.f 0 rfl (.f 1 rfl .nil))) (ltn rfl)) rfl ?_
  intro g1283
  refine VL.sG (o_box rfl (.c rfl) (ltn rfl)) rfl ?_
  intro g1284
  refine VL.sG (o_alloc Z9 ZL9 (ltn rfl)) rfl ?_
  intro g1285
  refine VL.sG (o_alloc Z28 ZL28 (ltn rfl)) rfl ?_
  intro g1286
  refine VL.done ?_
  refine VN.then ?_
  refine VC.seq ?_
  refine VC.block ?_
  refine VC.seq ?_
  refine VC.region ?_
  refine VL.va (op_load 3 2 rfl rfl TI25 rfl (fun h => absurd h (by decide)) (ltn rfl)) rfl ?_
  replace h := Option.bind_eq_some_iff.1 h
  obtain ⟨t1303, hA1304, h⟩ := h
  refine VL.sC (o_call0 FO16 (disk_Right.ok k l0_0 l0_1 v0_0 v0_1 t1303 hA1304) rfl rfl (ltn rfl) (All_of (.cons (List.mem_of_getElem? (i := 0) rfl) (.cons (List.mem_of_getElem? (i := 1) rfl) .nil)))) rfl ?_
  rintro _ _ _ ⟨rfl, rfl, rfl⟩
  by_cases c1305 : t1303 = true
  · rw [if_pos c1305] at h
    obtain rfl := c1305
    refine VL.va (op_not rfl rfl (ltn rfl)) rfl ?_
    refine VL.va (op_assign rfl (ltn rfl)) rfl ?_
    refine VL.done ?_
    refine VN.then ?_
    refine VC.cond_f rfl ?_
    refine VC.seq ?_
    refine VC.region ?_
    refine VL.va (op_load 2 1 rfl rfl TI3 rfl (by decide) (ltn rfl)) rfl ?_
    refine VL.letter (decide (a1 < 0)) fun b1309 hb1309 => ?_
    refine VL.va (op_cmp rfl rfl (congrArg some hb1309) (ltn rfl)) rfl ?_
    refine VL.va (op_move rfl (ltn rfl)) rfl ?_
    by_cases c1310 : a1 < 0
    · rw [if_pos c1310] at h
      obtain rfl : b1309 = true := hb1309.symm.trans (decide_eq_true c1310)
      refine VL.un rfl rfl (ltn rfl) ?_
      refine VL.un rfl rfl (ltn rfl) ?_
      refine VL.un rfl rfl (ltn rfl) ?_
      refine VL.un rfl rfl (ltn rfl) ?_
      refine VL.un rfl rfl (ltn rfl) ?_
      refine VL.va (op_pick rfl rfl (ltn rfl)) rfl ?_
      refine VL.va (op_assign rfl (ltn rfl)) rfl ?_
      refine VL.done ?_
      refine VN.then ?_
      refine VC.cond_t rfl ?_
      refine VC.seq ?_
      refine VC.region ?_
      refine VL.step1 (o_store 1 1 rfl rfl rfl TI9 (.c rfl) rfl (len rfl)) rfl ?_
      refine VL.step1 (o_store 0 1 rfl rfl rfl TI28 (.c rfl) rfl (len rfl)) rfl ?_
      refine VL.done ?_
      refine VN.then ?_
      refine VC.ret ?_
      refine VR.block ?_
      refine VR.then ?_
      simp only [Option.some.injEq, Prod.mk.injEq] at h
      obtain ⟨rfl, rfl⟩ := h
      refine VR.m0 ?_
      exact VR.fn (rs := [.cell 4 9, .cell 5 28]) [] [] [] rfl (.cell 1 rfl rfl TI9 (fun _ => rfl) (.cell 0 rfl rfl TI28 (fun _ => rfl) .nil)) ⟨rfl, rfl, rfl⟩ trivial rfl (by decide)
    · rw [if_neg c1310] at h
      obtain rfl : b1309 = false := hb1309.symm.trans (decide_eq_false c1310)
      refine VL.va (op_load 2 1 rfl rfl TI3 rfl (by decide) (ltn rfl)) rfl ?_
      refine VL.va (op_fieldAddr FI25_0 rfl (add_at _ _ _) (ltn rfl)) rfl ?_
      refine VL.va (op_load 3 1 rfl rfl TI22 rfl (by decide) (ltn rfl)) rfl ?_
      refine VL.va (op_len (m := l0_0.length) 0 lenm Try.underlying22 rfl rfl (ltn rfl)) rfl ?_
      refine VL.letter (decide (a1 ≥ (l0_0.length : Int))) fun b1311 hb1311 => ?_
      refine VL.va (op_cmp rfl rfl (congrArg some hb1311) (ltn rfl)) rfl ?_
      refine VL.va (op_pick rfl rfl (ltn rfl)) rfl ?_
      refine VL.va (op_assign rfl (ltn rfl)) rfl ?_
      refine VL.done ?_
      refine VN.then ?_
      by_cases c1312 : a1 ≥ (l0_0.length : Int)
      · rw [if_pos c1312] at h
        obtain rfl : b1311 = true := hb1311.symm.trans (decide_eq_true c1312)
        refine VC.cond_t rfl ?_
        refine VC.seq ?_
        refine VC.region ?_
        refine VL.step1 (o_store 1 1 rfl rfl rfl TI9 (.c rfl) rfl (len rfl)) rfl ?_
        refine VL.step1 (o_store 0 1 rfl rfl rfl TI28 (.c rfl) rfl (len rfl)) rfl ?_
        refine VL.done ?_
        refine VN.then ?_
        refine VC.ret ?_
        refine VR.block ?_
        refine VR.then ?_
        simp only [Option.some.injEq, Prod.mk.injEq] at h
        obtain ⟨rfl, rfl⟩ := h
        refine VR.m0 ?_
        exact VR.fn (rs := [.cell 4 9, .cell 5 28]) [] [] [] rfl (.cell 1 rfl rfl TI9 (fun _ => rfl) (.cell 0 rfl rfl TI28 (fun _ => rfl) .nil)) ⟨rfl, rfl, rfl⟩ trivial rfl (by decide)
      · rw [if_neg c1312] at h
        obtain rfl : b1311 = false := hb1311.symm.trans (decide_eq_false c1312)
        refine VC.cond_f rfl ?_
        refine VC.skip ?_
        refine VN.block ?_
        refine VN.then ?_
        refine VC.seq ?_
        refine VC.seq ?_
        refine VC.region ?_
        refine VL.va (op_fieldAddr FI25_1 rfl (add_at _ _ _) (ltn rfl)) rfl ?_
        refine VL.va (op_load 3 1 rfl rfl TI23 rfl (by decide) (ltn rfl)) rfl ?_
        replace h := Option.bind_eq_some_iff.1 h
        obtain ⟨r1317, hA1318, h⟩ := h
        refine VL.sC (o_call0 FO22 (slices_Backward_api_Write_api_Write.ok l0_1 v0_1 r1317 hA1318) rfl rfl (ltn rfl) (All_of (.cons (List.mem_of_getElem? (i := 1) rfl) .nil))) rfl ?_
        rintro _ _ _ ⟨v1320, g1321, rfl, rfl, rfl⟩
        refine VL.done ?_
        refine VN.then ?_
        refine VC.block ?_
        refine VC.rangeFunc (ps := [25, 26]) (caps := [.pointer (some ⟨g1321, 0, none⟩)]) Try.func35 FO35 rfl rfl (len rfl) fun D1322 l1323 L1324 hLl1323 hDD1322 => ?_
        refine VC.seq ?_
        refine VC.region ?_
        refine VL.va (op_load_at (ad := ⟨g1321, 0, none⟩) 3 0 1 (by first | rfl | exact congrArg (fun a => some (Value.pointer (some a))) (add_at _ 0 _).symm) rfl TI23 rfl (by decide) (ltn rfl)) rfl ?_
        refine VL.va (op_len (m := r1317.length) 2 lenm Try.underlying23 rfl rfl (ltn rfl)) rfl ?_
        refine VL.va (op_ari64 rfl rfl rfl (ltn rfl)) rfl ?_
        refine VL.va (op_assign rfl (ltn rfl)) rfl ?_
        refine VL.done ?_
        refine VN.then ?_
        refine VC.block ?_
        refine VC.loop1 (fun (i1357 : Int) => ⟨19, [(0, (.func (.yield l1323) #[] #[])), (1, .pointer (some ⟨g1321, 0, none⟩)), (3, .int .i64 i1357)], [.loop l1323 L1324 .ready none, .dfr D1322, .at_ ⟨g1321, 0, none⟩ [v1320], .row v0_0 1 (l0_0.map enc_str), .row v0_1 2 (l0_1.map enc32), .row v1320 2 (r1317.map enc32)], [(g1286, 28, [.int .i64 0]), (g1285, 9, [.string (⟨#[]⟩ : ByteArray)]), (g1284, 3, [.int .i64 a1]), (g1283, 25, [v0_0, v0_1])], []⟩) (fun (ml0 : Nat) (i1357 : Int) => disk_Get.l0 k a1 l0_0 r1317 ml0 i1357 = some (r1, r2)) k (wrap64 ((r1317.length : Int) - 1)) [0, 1, 2, 3] [] h ⟨rfl, ⟨rfl, rfl, rfl, trivial⟩, ⟨⟨0, rfl⟩, ⟨1, rfl⟩, ⟨3, rfl⟩, ⟨4, rfl⟩, ⟨5, rfl⟩, ⟨2, rfl⟩, trivial⟩, rfl, by decide, rfl, by decide⟩ (by intros; simp [disk_Get.l0]) ?_
        clear h
        intro ml0 ihl0 i1357 h
        simp only [disk_Get.l0] at h
        refine VC.seq ?_
        refine VC.seq ?_
        refine VC.region ?_
        refine VL.va (op_move rfl (ltn rfl)) rfl ?_
        refine VL.letter (decide (i1357 ≥ 0)) fun b1396 hb1396 => ?_
        refine VL.va (op_cmp rfl rfl (congrArg some hb1396) (ltn rfl)) rfl ?_
        refine VL.done ?_
        refine VN.then ?_
        by_cases c1397 : i1357 ≥ 0
        · rw [if_pos c1397] at h
          obtain rfl : b1396 = true := hb1396.symm.trans (decide_eq_true c1397)
          refine VC.cond_t rfl ?_
          refine VC.skip ?_
          refine VN.then ?_
          refine VC.seq ?_
          refine VC.block ?_
          refine VC.seq ?_
          refine VC.region ?_
          refine VL.va (op_move rfl (ltn rfl)) rfl ?_
          refine VL.va (op_move rfl (ltn rfl)) rfl ?_
          refine VL.va (op_load_at (ad := ⟨g1321, 0, none⟩) 2 0 1 (by first | rfl | exact congrArg (fun a => some (Value.pointer (some a))) (add_at _ 0 _).symm) rfl TI23 rfl (by decide) (ltn rfl)) rfl ?_
          refine VL.va (op_move rfl (ltn rfl)) rfl ?_
          by_cases c1419 : 0 ≤ i1357
          · rw [if_pos c1419] at h
            replace h := Option.bind_eq_some_iff.1 h
            obtain ⟨x1420, hx1420, h⟩ := h
            refine VL.open (m := r1317.length) 5 lenm rfl (pos_get hx1420) ?_
            rintro ad1421 n1422 rfl
            refine VL.va (op_indexAddr Try.underlying23 TI33 rfl rfl c1419 (lt_get c1419 hx1420) rfl (ltn rfl)) rfl ?_
            refine VL.va (op_load_row (sz := 2) (o := 0) 5 i1357.toNat 2 rfl rfl (get_map hx1420) TI33 rfl (fun h => absurd h (by decide)) (ltn rfl)) rfl ?_
            refine VL.yield (vals := [.int .i64 i1357, .agg #[.int .i64 x1420.f0, .string x1420.f1]]) hLl1323 rfl rfl rfl rfl (ltn rfl) 0 rfl rfl ?_
            refine VC.region ?_
            refine VL.sG (o_alloc Z33 ZL33 (ltn rfl)) rfl ?_
            intro g1423
            refine VL.step1 (o_store 0 2 rfl rfl rfl TI33 (.agg (.of rfl)) rfl (len rfl)) rfl ?_
            refine VL.done ?_
            refine VN.begin 0 hLl1323.base rfl rfl rfl ?_
            refine VC.block ?_
            refine VC.seq ?_
            refine VC.region ?_
            refine VL.va (op_fieldAddr FI33_0 rfl (add_at _ _ _) (ltn rfl)) rfl ?_
            refine VL.va (op_load 0 1 rfl rfl TI3 rfl (by decide) (ltn rfl)) rfl ?_
            refine VL.va (op_load 3 1 rfl rfl TI3 rfl (by decide) (ltn rfl)) rfl ?_
            refine VL.letter ((x1420.f0 == a1)) fun b1424 hb1424 => ?_
            refine VL.va (op_cmp rfl rfl (congrArg some hb1424) (ltn rfl)) rfl ?_
            refine VL.done ?_
            refine VN.then ?_
            by_cases c1425 : x1420.f0 = a1
            · rw [if_pos c1425] at h
              obtain rfl : b1424 = true := hb1424.symm.trans (beq_iff_eq.2 c1425)
              refine VC.cond_t rfl ?_
              refine VC.seq ?_
              refine VC.region ?_
              refine VL.va (op_fieldAddr FI33_1 rfl (add_at _ _ _) (ltn rfl)) rfl ?_
              refine VL.va (op_load 0 1 rfl rfl TI9 rfl (by decide) (ltn rfl)) rfl ?_
              refine VL.step1 (o_store 2 1 rfl rfl rfl TI9 (.c rfl) rfl (len rfl)) rfl ?_
              refine VL.step1 (o_store 1 1 rfl rfl rfl TI28 (.c rfl) rfl (len rfl)) rfl ?_
              refine VL.done ?_
              refine VN.then ?_
              refine VC.ret ?_
              refine VR.block ?_
              refine VR.endRound 0 hLl1323.base rfl rfl rfl ?_
              refine VL.va (op_not rfl rfl (ltn rfl)) rfl ?_
              refine VL.done ?_
              refine VN.then ?_
              refine VC.cond_t rfl ?_
              refine VC.ret ?_
              refine VR.block ?_
              refine VR.then ?_
              refine VR.then ?_
              refine VR.block ?_
              refine VR.endRFj 0 rfl rfl rfl rfl ?_
              refine VC.ret ?_
              refine VR.block ?_
              refine VR.then ?_
              simp only [Option.some.injEq, Prod.mk.injEq] at h
              obtain ⟨rfl, rfl⟩ := h
              refine VR.mark 0 hDD1322 rfl rfl rfl ?_
              exact VR.fn (rs := [.cell 4 9, .cell 5 28]) [] [] [] rfl (.cell 2 rfl rfl TI9 (fun _ => rfl) (.cell 1 rfl rfl TI28 (fun _ => rfl) .nil)) ⟨rfl, rfl, rfl⟩ trivial rfl (by decide)
            · rw [if_neg c1425] at h
              obtain rfl : b1424 = false := hb1424.symm.trans (beq_eq_false_iff_ne.2 c1425)
              refine VC.cond_f rfl ?_
              refine VC.skip ?_
              refine VN.block ?_
              refine VN.endRound 0 hLl1323.base rfl rfl rfl ?_
              refine VL.va (op_not rfl rfl (ltn rfl)) rfl ?_
              refine VL.done ?_
              refine VN.then ?_
              refine VC.cond_f rfl ?_
              refine VC.skip ?_
              refine VN.block ?_
              refine VN.then ?_
              refine VC.region ?_
              refine VL.va (op_move rfl (ltn rfl)) rfl ?_
              refine VL.va (op_ari64 rfl rfl rfl (ltn rfl)) rfl ?_
              refine VL.va (op_assign rfl (ltn rfl)) rfl ?_
              refine VL.done ?_
              refine VN.again [1, 2, 3, 4] [] (ihl0 (wrap64 (i1357 - 1)) h) ⟨rfl, ⟨rfl, rfl, rfl, trivial⟩, ⟨⟨0, rfl⟩, ⟨1, rfl⟩, ⟨2, rfl⟩, ⟨3, rfl⟩, ⟨4, rfl⟩, ⟨5, rfl⟩, trivial⟩, rfl, by decide, rfl, by decide⟩
          · rw [if_neg c1419] at h; cases h
        · rw [if_neg c1397] at h
          obtain rfl : b1396 = false := hb1396.symm.trans (decide_eq_false c1397)
          refine VC.cond_f rfl ?_
          refine VC.exit ?_
          refine VX.then ?_
          refine VX.then ?_
          refine VX.hit ?_
          refine VN.endRF 0 rfl rfl rfl rfl ?_
          refine VN.block ?_
          refine VN.then ?_
          refine VC.seq ?_
          refine VC.region ?_
          refine VL.va (op_fieldAddr FI25_0 rfl (add_at _ _ _) (ltn rfl)) rfl ?_
          refine VL.va (op_load 3 1 rfl rfl TI22 rfl (by decide) (ltn rfl)) rfl ?_
          refine VL.va (op_load 2 1 rfl rfl TI3 rfl (by decide) (ltn rfl)) rfl ?_
          by_cases c1426 : 0 ≤ a1
          · rw [if_pos c1426] at h
            replace h := Option.bind_eq_some_iff.1 h
            obtain ⟨x1427, hx1427, h⟩ := h
            refine VL.open (m := l0_0.length) 2 lenm rfl (pos_get hx1427) ?_
            rintro ad1428 n1429 rfl
            refine VL.va (op_indexAddr Try.underlying22 TI9 rfl rfl c1426 (lt_get c1426 hx1427) rfl (ltn rfl)) rfl ?_
            refine VL.va (op_load_row (sz := 1) (o := 0) 2 a1.toNat 1 rfl rfl (get_map hx1427) TI9 rfl (by decide) (ltn rfl)) rfl ?_
            refine VL.step1 (o_store 1 1 rfl rfl rfl TI9 (.c rfl) rfl (len rfl)) rfl ?_
            refine VL.step1 (o_store 0 1 rfl rfl rfl TI28 (.c rfl) rfl (len rfl)) rfl ?_
            refine VL.done ?_
            refine VN.then ?_
            refine VC.ret ?_
            simp only [Option.some.injEq, Prod.mk.injEq] at h
            obtain ⟨rfl, rfl⟩ := h
            refine VR.mark 0 hDD1322 rfl rfl rfl ?_
            exact VR.fn (rs := [.cell 4 9, .cell 5 28]) [] [] [] rfl (.cell 1 rfl rfl TI9 (fun _ => rfl) (.cell 0 rfl rfl TI28 (fun _ => rfl) .nil)) ⟨rfl, rfl, rfl⟩ trivial rfl (by decide)
          · rw [if_neg c1426] at h; cases h
  · rw [if_neg c1305] at h
    obtain rfl := Bool.eq_false_iff.2 c1305
    refine VL.va (op_not rfl rfl (ltn rfl)) rfl ?_
    refine VL.va (op_assign rfl (ltn rfl)) rfl ?_
    refine VL.done ?_
    refine VN.then ?_
    refine VC.cond_t rfl ?_
    refine VC.seq ?_
    refine VC.region ?_
    refine VL.step1 (o_store 1 1 rfl rfl rfl TI9 (.c rfl) rfl (len rfl)) rfl ?_
    refine VL.step1 (o_store 0 1 rfl rfl rfl TI28 (.c rfl) rfl (len rfl)) rfl ?_
    refine VL.done ?_
    refine VN.then ?_
    refine VC.ret ?_
    refine VR.block ?_
    refine VR.then ?_
    simp only [Option.some.injEq, Prod.mk.injEq] at h
    obtain ⟨rfl, rfl⟩ := h
    refine VR.m0 ?_
    exact VR.fn (rs := [.cell 4 9, .cell 5 28]) [] [] [] rfl (.cell 1 rfl rfl TI9 (fun _ => rfl) (.cell 0 rfl rfl TI28 (fun _ => rfl) .nil)) ⟨rfl, rfl, rfl⟩ trivial rfl (by decide)
set_option maxHeartbeats 4000000 in
set_option maxRecDepth 100000 in
theorem tarrylaw03_alive.ok (k : Nat)   (r1 : Bool) (h : tarrylaw03_alive.f k = some r1) :
    VCalls Try.prog 8 [] [] (fun v G own => v = .bool r1 ∧ G = [] ∧ own = []) := by
  refine VCalls.intro Try.func8 rfl (len rfl) fun E hC hW hD hU => ?_
  unfold tarrylaw03_alive.f at h
  refine VC.seq ?_
  refine VC.region ?_
  refine VL.va (op_assign rfl (ltn rfl)) rfl ?_
  refine VL.done ?_
  refine VN.then ?_
  refine VC.seq ?_
  refine VC.region ?_
  replace h := Option.bind_eq_some_iff.1 h
  obtain ⟨⟨r1124, r1125, t1126⟩, hA1127, h⟩ := h
  dsimp only at h
  refine VL.sC (o_call0 FO9 (disk_New.ok 2 r1124 r1125 t1126 hA1127) rfl rfl (ltn rfl) (All_of .nil)) rfl ?_
  rintro _ _ _ ⟨v1129, v1131, rfl, rfl, rfl⟩
  refine VL.va (op_move rfl (ltn rfl)) rfl ?_
  refine VL.va (op_extract rfl rfl (ltn rfl)) rfl ?_
  refine VL.va (op_extract rfl rfl (ltn rfl)) rfl ?_
  refine VL.sG (o_alloc Z25 ZL25 (ltn rfl)) rfl ?_
  intro g1132
  refine VL.step1 (o_store 0 2 rfl rfl rfl TI25 (.agg (.r 0 rfl (.r 1 rfl .nil))) rfl (len rfl)) rfl ?_
  refine VL.va (op_assign rfl (ltn rfl)) rfl ?_
  refine VL.done ?_
  refine VN.then ?_
  replace h := Option.bind_eq_some_iff.1 h
  obtain ⟨r1133, hA1134, h⟩ := h
  replace h := Option.bind_eq_some_iff.1 h
  obtain ⟨⟨r1265, r1266, t1267⟩, hA1268, h⟩ := h
  dsimp only at h
  refine VC.freezeRow' 0 rfl ?_
  refine VC.freezeRow' 0 rfl ?_
  refine VC.join2 (fun (v1270 : Value) (v1272 : Value) => ⟨51, [(0, .bool false), (1, .pointer (some ⟨g1132, 0, none⟩)), (2, .int .i64 t1126), (3, .int .i64 t1267)], [.row v1270 1 (r1265.map enc_str), .row v1272 2 (r1266.map enc32)], [(g1132, 25, [v1270, v1272])], []⟩) (fun (v1270 : Value) (v1272 : Value) => True) ?_ ?_
  · refine VC.drawB ⟨0, [], [], [], []⟩ [6] ⟨0, [], [], [(g1132, 25, [v1129, v1131])], []⟩ (by kernel_rfl) rfl (by kernel_rfl) (n := 8) (listed := LB 8 0) ?_
    refine VB.vb (i := 0) (listed' := LB 8 1) rfl (op_load 0 2 rfl rfl TI25 rfl (fun h => absurd h (by decide)) (ltn rfl)) rfl (by kernel_rfl) (by kernel_rfl) (by kernel_rfl) (by kernel_rfl) (by kernel_rfl) (by kernel_rfl) (PartP.on ⟨trivial, trivial, trivial⟩ ⟨trivial, ⟨⟨0, rfl⟩, trivial⟩, trivial⟩) (fun _ _ _ h => h) ?_
    refine VB.oneC (i := 1) (listed' := LB 8 3) (by kernel_rfl) rfl (o_call0 FO14 (strings_Repeat.ok (⟨#[97]⟩ : ByteArray) 64 r1133 hA1134) rfl rfl (ltn rfl) (All_of .nil)) rfl (by kernel_rfl) ?_
    rintro _ _ _ ⟨rfl, rfl, rfl⟩
    refine ⟨(PartP.on ⟨trivial, trivial, trivial⟩ ⟨trivial, ⟨⟨0, rfl⟩, trivial⟩, trivial⟩), ?_⟩
    refine VB.oneC (i := 2) (listed' := LB 8 7) (by kernel_rfl) rfl (o_call0 FO10 (disk_Put.ok k r1124 r1125 1 r1133 v1129 v1131 r1265 r1266 t1267 hA1268) rfl rfl (ltn rfl) (All_of (.cons (List.mem_of_getElem? (i := 1) rfl) (.cons (List.mem_of_getElem? (i := 0) rfl) .nil)))) rfl (by kernel_rfl) ?_
    rintro _ _ _ ⟨v1270, v1272, rfl, rfl, rfl⟩
    refine ⟨(PartP.on ⟨trivial, trivial, trivial⟩ ⟨trivial, ⟨⟨0, rfl⟩, trivial⟩, trivial⟩), ?_⟩
    refine VB.more ⟨0, [], [.row v1270 1 (r1265.map enc_str), .row v1272 2 (r1266.map enc32)], [], []⟩ ⟨trivial, trivial, trivial⟩ ?_
    refine VB.va (i := 3) (listed' := LB 8 15) rfl (op_move rfl (ltn rfl)) rfl (by kernel_rfl) (by kernel_rfl) (by kernel_rfl) (by kernel_rfl) (by decide) (PartP.on ⟨⟨⟨0, rfl⟩, ⟨1, rfl⟩, trivial⟩, trivial, trivial⟩ ⟨trivial, ⟨⟨0, rfl⟩, trivial⟩, trivial⟩) (fun _ _ _ h => h) ?_
    refine VB.va (i := 4) (listed' := LB 8 31) rfl (op_extract rfl rfl (ltn rfl)) rfl (by kernel_rfl) (by kernel_rfl) (by kernel_rfl) (by kernel_rfl) (by decide) (PartP.on ⟨⟨⟨0, rfl⟩, ⟨1, rfl⟩, trivial⟩, trivial, trivial⟩ ⟨trivial, ⟨⟨0, rfl⟩, trivial⟩, trivial⟩) (fun _ _ _ h => h) ?_
    refine VB.va (i := 5) (listed' := LB 8 63) rfl (op_extract rfl rfl (ltn rfl)) rfl (by kernel_rfl) (by kernel_rfl) (by kernel_rfl) (by kernel_rfl) (by decide) (PartP.on ⟨⟨⟨0, rfl⟩, ⟨1, rfl⟩, trivial⟩, trivial, trivial⟩ ⟨trivial, ⟨⟨0, rfl⟩, trivial⟩, trivial⟩) (fun _ _ _ h => h) ?_
    refine VB.one1 (i := 6) (listed' := LB 8 127) (by kernel_rfl) rfl (o_store 0 2 rfl rfl rfl TI25 (.agg (.f 0 rfl (.f 1 rfl .nil))) rfl (len rfl)) rfl (by kernel_rfl) (PartP.off (by kernel_rfl) ⟨⟨⟨0, rfl⟩, ⟨1, rfl⟩, trivial⟩, trivial, trivial⟩) ?_
    refine VB.va (i := 7) (listed' := LB 8 255) rfl (op_assign rfl (ltn rfl)) rfl (by kernel_rfl) (by kernel_rfl) (by kernel_rfl) (by kernel_rfl) (by decide) (PartP.off (by kernel_rfl) ⟨⟨⟨0, rfl⟩, ⟨1, rfl⟩, trivial⟩, trivial, trivial⟩) (fun _ _ _ h => h) ?_
    refine VB.done (by kernel_rfl) ?_
    exact VN.meet2 v1270 v1272 [0] [] trivial ⟨rfl, ⟨rfl, rfl, rfl, rfl, trivial⟩, ⟨⟨0, rfl⟩, ⟨1, rfl⟩, trivial⟩, rfl, by decide, rfl, by decide⟩
  intro v1270 v1272 _
  refine VC.seq ?_
  refine VC.region ?_
  refine VL.va (op_load 0 2 rfl rfl TI25 rfl (fun h => absurd h (by decide)) (ltn rfl)) rfl ?_
  replace h := Option.bind_eq_some_iff.1 h
  obtain ⟨⟨r1273, r1274, t1275⟩, hA1276, h⟩ := h
  dsimp only at h
  refine VL.sC (o_call0 FO7 (disk_Crash.ok k r1265 r1266 0 3 v1270 v1272 r1273 r1274 t1275 hA1276) rfl rfl (ltn rfl) (All_of (.cons (List.mem_of_getElem? (i := 0) rfl) (.cons (List.mem_of_getElem? (i := 1) rfl) .nil)))) rfl ?_
  rintro _ _ _ ⟨v1278, v1280, rfl, rfl, rfl⟩
  refine VL.va (op_move rfl (ltn rfl)) rfl ?_
  refine VL.va (op_extract rfl rfl (ltn rfl)) rfl ?_
  refine VL.va (op_extract rfl rfl (ltn rfl)) rfl ?_
  refine VL.step1 (o_store 0 2 rfl rfl rfl TI25 (.agg (.r 0 rfl (.r 1 rfl .nil))) rfl (len rfl)) rfl ?_
  refine VL.va (op_assign rfl (ltn rfl)) rfl ?_
  refine VL.done ?_
  refine VN.then ?_
  refine VC.seq ?_
  refine VC.region ?_
  refine VL.va (op_load 0 2 rfl rfl TI25 rfl (fun h => absurd h (by decide)) (ltn rfl)) rfl ?_
  replace h := Option.bind_eq_some_iff.1 h
  obtain ⟨⟨t1430, t1431⟩, hA1432, h⟩ := h
  dsimp only at h
  refine VL.sC (o_call_b0 FO11 (disk_Get.ok k r1273 r1274 1 v1278 v1280 t1430 t1431 hA1432) rfl rfl (ltn rfl) (All_of (.cons (.inr (.inl ⟨_, List.mem_of_getElem? (i := 0) rfl, rfl⟩)) (.cons (.inr (.inl ⟨_, List.mem_of_getElem? (i := 1) rfl, rfl⟩)) .nil))) (by rintro _ _ _ ⟨rfl, rfl, rfl⟩; rfl)) rfl ?_
  rintro _ _ _ ⟨rfl, rfl, rfl⟩
  refine VL.va (op_move rfl (ltn rfl)) rfl ?_
  refine VL.va (op_extract rfl rfl (ltn rfl)) rfl ?_
  refine VL.va (op_extract rfl rfl (ltn rfl)) rfl ?_
  refine VL.va (op_assign rfl (ltn rfl)) rfl ?_
  refine VL.va (op_assign rfl (ltn rfl)) rfl ?_
  refine VL.done ?_
  refine VN.then ?_
  refine VC.seq ?_
  refine VC.region ?_
  refine VL.va (op_move rfl (ltn rfl)) rfl ?_
  refine VL.letter ((t1126 == 0)) fun b1445 hb1445 => ?_
  refine VL.va (op_cmp rfl rfl (congrArg some hb1445) (ltn rfl)) rfl ?_
  refine VL.va (op_move rfl (ltn rfl)) rfl ?_
  by_cases c1446 : t1126 = 0
  · rw [if_pos c1446] at h
    obtain rfl : b1445 = true := hb1445.symm.trans (beq_iff_eq.2 c1446)
    refine VL.va (op_move rfl (ltn rfl)) rfl ?_
    refine VL.letter ((t1267 == 0)) fun b1447 hb1447 => ?_
    refine VL.va (op_cmp rfl rfl (congrArg some hb1447) (ltn rfl)) rfl ?_
    refine VL.va (op_pick rfl rfl (ltn rfl)) rfl ?_
    refine VL.va (op_move rfl (ltn rfl)) rfl ?_
    by_cases c1448 : t1267 = 0
    · rw [if_pos c1448] at h
      obtain rfl : b1447 = true := hb1447.symm.trans (beq_iff_eq.2 c1448)
      refine VL.va (op_move rfl (ltn rfl)) rfl ?_
      refine VL.letter ((t1275 == 0)) fun b1449 hb1449 => ?_
      refine VL.va (op_cmp rfl rfl (congrArg some hb1449) (ltn rfl)) rfl ?_
      refine VL.va (op_pick rfl rfl (ltn rfl)) rfl ?_
      refine VL.va (op_move rfl (ltn rfl)) rfl ?_
      by_cases c1450 : t1275 = 0
      · rw [if_pos c1450] at h
        obtain rfl : b1449 = true := hb1449.symm.trans (beq_iff_eq.2 c1450)
        refine VL.va (op_move rfl (ltn rfl)) rfl ?_
        refine VL.letter ((t1431 == 0)) fun b1451 hb1451 => ?_
        refine VL.va (op_cmp rfl rfl (congrArg some hb1451) (ltn rfl)) rfl ?_
        refine VL.va (op_pick rfl rfl (ltn rfl)) rfl ?_
        refine VL.va (op_move rfl (ltn rfl)) rfl ?_
        by_cases c1452 : t1431 = 0
        · rw [if_pos c1452] at h
          obtain rfl : b1451 = true := hb1451.symm.trans (beq_iff_eq.2 c1452)
          refine VL.va (op_move rfl (ltn rfl)) rfl ?_
          refine VL.va (op_lens Try.underlying9 rfl (ltn rfl)) rfl ?_
          refine VL.letter (((t1430.size : Int) == 64)) fun b1453 hb1453 => ?_
          refine VL.va (op_cmp rfl rfl (congrArg some hb1453) (ltn rfl)) rfl ?_
          refine VL.va (op_pick rfl rfl (ltn rfl)) rfl ?_
          refine VL.va (op_move rfl (ltn rfl)) rfl ?_
          by_cases c1454 : (t1430.size : Int) = 64
          · rw [if_pos c1454] at h
            obtain rfl : b1453 = true := hb1453.symm.trans (beq_iff_eq.2 c1454)
            refine VL.va (op_move rfl (ltn rfl)) rfl ?_
            by_cases c1455 : 4 ≤ (t1430.size : Int)
            · rw [if_pos c1455] at h
              refine VL.va (op_sliceS 0 4 Try.underlying9 rfl ⟨rfl, ⟨_, _, rfl, (by decide), rfl⟩, by omega, by omega⟩ rfl (ltn rfl)) rfl ?_
              refine VL.letter (((t1430.extract 0 4) == (⟨#[97, 97, 97, 0]⟩ : ByteArray))) fun b1456 hb1456 => ?_
              refine VL.va (op_cmps rfl rfl (congrArg some hb1456) (ltn rfl)) rfl ?_
              refine VL.va (op_pick rfl rfl (ltn rfl)) rfl ?_
              refine VL.va (op_assign rfl (ltn rfl)) rfl ?_
              refine VL.done ?_
              refine VN.then ?_
              refine VC.ret ?_
              obtain rfl := Option.some.inj h
              subst hb1456
              exact VR.fn (rs := [.tmp 0]) [] [] [] rfl (.tmp rfl .nil) ⟨rfl, rfl, rfl⟩ trivial rfl (by decide)
            · rw [if_neg c1455] at h; cases h
          · rw [if_neg c1454] at h
            obtain rfl : b1453 = false := hb1453.symm.trans (beq_eq_false_iff_ne.2 c1454)
            refine VL.un rfl rfl (ltn rfl) ?_
            refine VL.un rfl rfl (ltn rfl) ?_
            refine VL.un rfl rfl (ltn rfl) ?_
            refine VL.va (op_pick rfl rfl (ltn rfl)) rfl ?_
            refine VL.va (op_assign rfl (ltn rfl)) rfl ?_
            refine VL.done ?_
            refine VN.then ?_
            refine VC.ret ?_
            obtain rfl := Option.some.inj h
            exact VR.fn (rs := [.tmp 0]) [] [] [] rfl (.tmp rfl .nil) ⟨rfl, rfl, rfl⟩ trivial rfl (by decide)
        · rw [if_neg c1452] at h
          obtain rfl : b1451 = false := hb1451.symm.trans (beq_eq_false_iff_ne.2 c1452)
          refine VL.un rfl rfl (ltn rfl) ?_
          refine VL.un rfl rfl (ltn rfl) ?_
          refine VL.un rfl rfl (ltn rfl) ?_
          refine VL.va (op_pick rfl rfl (ltn rfl)) rfl ?_
          refine VL.va (op_move rfl (ltn rfl)) rfl ?_
          refine VL.un rfl rfl (ltn rfl) ?_
          refine VL.un rfl rfl (ltn rfl) ?_
          refine VL.un rfl rfl (ltn rfl) ?_
          refine VL.va (op_pick rfl rfl (ltn rfl)) rfl ?_
          refine VL.va (op_assign rfl (ltn rfl)) rfl ?_
          refine VL.done ?_
          refine VN.then ?_
          refine VC.ret ?_
          obtain rfl := Option.some.inj h
          exact VR.fn (rs := [.tmp 0]) [] [] [] rfl (.tmp rfl .nil) ⟨rfl, rfl, rfl⟩ trivial rfl (by decide)
      · rw [if_neg c1450] at h
        obtain rfl : b1449 = false := hb1449.symm.trans (beq_eq_false_iff_ne.2 c1450)
        refine VL.un rfl rfl (ltn rfl) ?_
        refine VL.un rfl rfl (ltn rfl) ?_
        refine VL.va (op_pick rfl rfl (ltn rfl)) rfl ?_
        refine VL.va (op_move rfl (ltn rfl)) rfl ?_
        refine VL.un rfl rfl (ltn rfl) ?_
        refine VL.un rfl rfl (ltn rfl) ?_
        refine VL.un rfl rfl (ltn rfl) ?_
        refine VL.va (op_pick rfl rfl (ltn rfl)) rfl ?_
        refine VL.va (op_move rfl (ltn rfl)) rfl ?_
        refine VL.un rfl rfl (ltn rfl) ?_
        refine VL.un rfl rfl (ltn rfl) ?_
        refine VL.un rfl rfl (ltn rfl) ?_
        refine VL.va (op_pick rfl rfl (ltn rfl)) rfl ?_
        refine VL.va (op_assign rfl (ltn rfl)) rfl ?_
        refine VL.done ?_
        refine VN.then ?_
        refine VC.ret ?_
        obtain rfl := Option.some.inj h
        exact VR.fn (rs := [.tmp 0]) [] [] [] rfl (.tmp rfl .nil) ⟨rfl, rfl, rfl⟩ trivial rfl (by decide)
    · rw [if_neg c1448] at h
      obtain rfl : b1447 = false := hb1447.symm.trans (beq_eq_false_iff_ne.2 c1448)
      refine VL.un rfl rfl (ltn rfl) ?_
      refine VL.un rfl rfl (ltn rfl) ?_
      refine VL.va (op_pick rfl rfl (ltn rfl)) rfl ?_
      refine VL.va (op_move rfl (ltn rfl)) rfl ?_
      refine VL.un rfl rfl (ltn rfl) ?_
      refine VL.un rfl rfl (ltn rfl) ?_
      refine VL.va (op_pick rfl rfl (ltn rfl)) rfl ?_
      refine VL.va (op_move rfl (ltn rfl)) rfl ?_
      refine VL.un rfl rfl (ltn rfl) ?_
      refine VL.un rfl rfl (ltn rfl) ?_
      refine VL.un rfl rfl (ltn rfl) ?_
      refine VL.va (op_pick rfl rfl (ltn rfl)) rfl ?_
      refine VL.va (op_move rfl (ltn rfl)) rfl ?_
      refine VL.un rfl rfl (ltn rfl) ?_
      refine VL.un rfl rfl (ltn rfl) ?_
      refine VL.un rfl rfl (ltn rfl) ?_
      refine VL.va (op_pick rfl rfl (ltn rfl)) rfl ?_
      refine VL.va (op_assign rfl (ltn rfl)) rfl ?_
      refine VL.done ?_
      refine VN.then ?_
      refine VC.ret ?_
      obtain rfl := Option.some.inj h
      exact VR.fn (rs := [.tmp 0]) [] [] [] rfl (.tmp rfl .nil) ⟨rfl, rfl, rfl⟩ trivial rfl (by decide)
  · rw [if_neg c1446] at h
    obtain rfl : b1445 = false := hb1445.symm.trans (beq_eq_false_iff_ne.2 c1446)
    refine VL.un rfl rfl (ltn rfl) ?_
    refine VL.un rfl rfl (ltn rfl) ?_
    refine VL.va (op_pick rfl rfl (ltn rfl)) rfl ?_
    refine VL.va (op_move rfl (ltn rfl)) rfl ?_
    refine VL.un rfl rfl (ltn rfl) ?_
    refine VL.un rfl rfl (ltn rfl) ?_
    refine VL.va (op_pick rfl rfl (ltn rfl)) rfl ?_
    refine VL.va (op_move rfl (ltn rfl)) rfl ?_
    refine VL.un rfl rfl (ltn rfl) ?_
    refine VL.un rfl rfl (ltn rfl) ?_
    refine VL.va (op_pick rfl rfl (ltn rfl)) rfl ?_
    refine VL.va (op_move rfl (ltn rfl)) rfl ?_
    refine VL.un rfl rfl (ltn rfl) ?_
    refine VL.un rfl rfl (ltn rfl) ?_
    refine VL.un rfl rfl (ltn rfl) ?_
    refine VL.va (op_pick rfl rfl (ltn rfl)) rfl ?_
    refine VL.va (op_move rfl (ltn rfl)) rfl ?_
    refine VL.un rfl rfl (ltn rfl) ?_
    refine VL.un rfl rfl (ltn rfl) ?_
    refine VL.un rfl rfl (ltn rfl) ?_
    refine VL.va (op_pick rfl rfl (ltn rfl)) rfl ?_
    refine VL.va (op_assign rfl (ltn rfl)) rfl ?_
    refine VL.done ?_
    refine VN.then ?_
    refine VC.ret ?_
    obtain rfl := Option.some.inj h
    exact VR.fn (rs := [.tmp 0]) [] [] [] rfl (.tmp rfl .nil) ⟨rfl, rfl, rfl⟩ trivial rfl (by decide)

end Go.Proofs.Ytlfkendmepdbkaa.PDiskCrashes
