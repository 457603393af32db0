/- Written by a program of this repo: what the program's functions do, each as a Lean function, shown of the loaded code; or a statement's row over that; no condition of its own. -/
import Derived.Test.YtipeglbeongfmaaPJournalUnusedx9
namespace Go.Proofs.Ytipeglbeongfmaa.PJournalUnused
open Go Go.RowKit Go.Proofs.YtipeglbeongfmaaV
set_option linter.unusedVariables false
set_option linter.unusedSimpArgs false

set_option maxHeartbeats 4000000 in
set_option maxRecDepth 100000 in
theorem journal_Append.ok (k : Nat) (l0_0 : List ByteArray) (l0_1 : List S55) (a0_2 : Int) (a0_3 : Int) (a0_4 : Int) (l0_5 : List ByteArray) (l0_6 : List ByteArray) (a1 : ByteArray) (v0_0 : Value) (v0_1 : Value) (v0_5 : Value) (v0_6 : Value) (r1 : List ByteArray) (r2 : List S55) (r3 : Int) (r4 : Int) (r5 : Int) (r6 : List ByteArray) (r7 : List ByteArray) (r8 : Int) (h : journal_Append.f k l0_0 l0_1 a0_2 a0_3 a0_4 l0_5 l0_6 a1 = some (r1, r2, r3, r4, r5, r6, r7, r8)) :
    VCalls Try.prog 18 [.agg #[v0_0, v0_1, .int .i64 a0_2, .int .i64 a0_3, .int .i64 a0_4, v0_5, v0_6], .string a1] [.row v0_0 1 (l0_0.map enc_str), .row v0_1 2 (l0_1.map enc55), .row v0_5 1 (l0_5.map enc_str), .row v0_6 1 (l0_6.map enc_str)] (fun v G own => ∃ w0 w1 w5 w6 : Value, v = .tuple #[.agg #[w0, w1, .int .i64 r3, .int .i64 r4, .int .i64 r5, w5, w6], .int .i64 r8] ∧ G = [.row w0 1 (r1.map enc_str), .row w1 2 (r2.map enc55), .row w5 1 (r6.map enc_str), .row w6 1 (r7.map enc_str)] ∧ own = []) := by
  refine VCalls.intro Try.func18 rfl (len rfl) fun E hC hW hD hU => ?_
  unfold journal_Append.f at h
  refine VC.seq ?_
  refine VC.region ?_
  refine VL.sG (o_box rfl (.agg (.f 0 rfl (.f 1 rfl (.c rfl (.c rfl (.c rfl (.f 2 rfl (.f 3 rfl .nil)))))))) (ltn rfl)) rfl ?_
  intro g7904
  refine VL.sG (o_alloc Z27 ZL27 (ltn rfl)) rfl ?_
  intro g7905
  refine VL.va (op_assign rfl (ltn rfl)) rfl ?_
  refine VL.done ?_
  refine VN.then ?_
  refine VC.seq ?_
  refine VC.seq ?_
  refine VC.region ?_
  refine VL.va (op_load 1 7 rfl rfl TI27 rfl (fun h => absurd h (by decide)) (ltn rfl)) rfl ?_
  replace h := Option.bind_eq_some_iff.1 h
  obtain ⟨t7919, hA7920, h⟩ := h
  refine VL.sC (o_call0 FO12 (journal_Right.ok k l0_0 l0_1 a0_2 a0_3 a0_4 l0_5 l0_6 v0_0 v0_1 v0_5 v0_6 t7919 hA7920) rfl rfl (ltn rfl) (All_of (.cons (List.mem_of_getElem? (i := 0) rfl) (.cons (List.mem_of_getElem? (i := 1) rfl) (.cons (List.mem_of_getElem? (i := 2) rfl) (.cons (List.mem_of_getElem? (i := 3) rfl) .nil)))))) rfl ?_
  rintro _ _ _ ⟨rfl, rfl, rfl⟩
  by_cases c7921 : t7919 = true
  · rw [if_pos c7921] at h
    obtain rfl := c7921
    refine VL.va (op_not rfl rfl (ltn rfl)) rfl ?_
    refine VL.done ?_
    refine VN.then ?_
    refine VC.cond_f rfl ?_
    refine VC.skip ?_
    refine VN.then ?_
    refine VC.seq ?_
    refine VC.region ?_
    refine VL.va (op_fieldAddr FI27_4 rfl (add_at _ _ _) (ltn rfl)) rfl ?_
    refine VL.va (op_load 1 1 rfl rfl TI22 rfl (by decide) (ltn rfl)) rfl ?_
    replace h := Option.bind_eq_some_iff.1 h
    obtain ⟨r7922, hA7923, h⟩ := h
    refine VL.sC (o_call0 FO43 (slices_Clip_string_string.ok l0_5 v0_5 r7922 hA7923) rfl rfl (ltn rfl) (All_of (.cons (List.mem_of_getElem? (i := 2) rfl) .nil))) rfl ?_
    rintro _ _ _ ⟨A7924, rfl, rfl, rfl⟩
    refine VL.va (op_move rfl (ltn rfl)) rfl ?_
    refine VL.sG (o_buildSlice (vals := [(0, .string a1)]) (cells := #[.string a1]) (es := List.map enc_str ([a1] : List ByteArray)) Try.underlying22 TI9 Z9 rfl (by decide) (by decide) (by kernel_rfl) (by kernel_rfl) rfl (flat_map enc_str_ok _) (ltn rfl)) rfl ?_
    intro v7927
    by_cases c7928 : (r7922.length + ([a1] : List ByteArray).length) * 16 ≤ 140737488355328
    · rw [if_pos c7928] at h
      refine VL.sG (o_append_clip 0 appm Try.underlying22 EI9 rfl rfl rfl (.inr ⟨0, _, rfl⟩) (bndm c7928) (ltn rfl)) rfl ?_
      intro v7929
      refine VL.va (op_assign rfl (ltn rfl)) rfl ?_
      refine VL.done ?_
      refine VN.then ?_
      refine VC.seq ?_
      refine VC.seq ?_
      refine VC.region ?_
      refine VL.va (op_load 1 7 rfl rfl TI27 rfl (fun h => absurd h (by decide)) (ltn rfl)) rfl ?_
      refine VL.va (op_move rfl (ltn rfl)) rfl ?_
      replace h := Option.bind_eq_some_iff.1 h
      obtain ⟨t7939, hA7940, h⟩ := h
      refine VL.sC (o_call0 FO35 (journal_waits.ok k l0_0 l0_1 a0_2 a0_3 a0_4 l0_5 l0_6 (r7922 ++ ([a1] : List ByteArray)) v0_0 v0_1 v0_5 v0_6 v7929 t7939 hA7940) rfl rfl (ltn rfl) (All_of (.cons (List.mem_of_getElem? (i := 2) rfl) (.cons (List.mem_of_getElem? (i := 3) rfl) (.cons (List.mem_of_getElem? (i := 4) rfl) (.cons (List.mem_of_getElem? (i := 5) rfl) (.cons (List.mem_of_getElem? (i := 0) rfl) .nil))))))) rfl ?_
      rintro _ _ _ ⟨rfl, rfl, rfl⟩
      refine VL.va (op_assign rfl (ltn rfl)) rfl ?_
      refine VL.done ?_
      refine VN.then ?_
      refine VC.seq ?_
      refine VC.region ?_
      refine VL.va (op_move rfl (ltn rfl)) rfl ?_
      refine VL.letter ((t7939 != 0)) fun b7941 hb7941 => ?_
      refine VL.va (op_cmp rfl rfl (congrArg some hb7941) (ltn rfl)) rfl ?_
      refine VL.done ?_
      refine VN.then ?_
      by_cases c7942 : t7939 = 0
      · rw [if_pos c7942] at h
        obtain rfl : b7941 = false := hb7941.symm.trans (bne_eq_false_iff_eq.2 c7942)
        refine VC.cond_f rfl ?_
        refine VC.skip ?_
        refine VN.then ?_
        refine VC.seq ?_
        refine VC.region ?_
        refine VL.va (op_move rfl (ltn rfl)) rfl ?_
        refine VL.va (op_fieldAddr FI27_4 rfl (add_at _ _ _) (ltn rfl)) rfl ?_
        refine VL.step1 (o_store 1 1 rfl rfl rfl TI22 (.f 0 rfl) rfl (len rfl)) rfl ?_
        refine VL.done ?_
        refine VN.then ?_
        refine VC.seq ?_
        refine VC.region ?_
        refine VL.va (op_load 1 7 rfl rfl TI27 rfl (fun h => absurd h (by decide)) (ltn rfl)) rfl ?_
        refine VL.step1 (o_store 0 7 rfl rfl rfl TI27 (.agg (.f 2 rfl (.f 3 rfl (.c rfl (.c rfl (.c rfl (.f 0 rfl (.f 5 rfl .nil)))))))) rfl (len rfl)) rfl ?_
        refine VL.va (op_assign rfl (ltn rfl)) rfl ?_
        refine VL.done ?_
        refine VN.then ?_
        refine VC.ret ?_
        simp only [Option.some.injEq, Prod.mk.injEq] at h
        obtain ⟨rfl, rfl, rfl, rfl, rfl, rfl, rfl, rfl⟩ := h
        exact VR.fn (rs := [.cell 4 27, .tmp 5]) [.row v0_0 1 (l0_0.map enc_str), .row v0_1 2 (l0_1.map enc55), .row v7929 1 ((r7922 ++ ([a1] : List ByteArray)).map enc_str), .row v0_6 1 (l0_6.map enc_str)] [] [] rfl (.cell 0 rfl rfl TI27 (fun h => absurd h (by decide)) (.tmp rfl .nil)) ⟨v0_0, v0_1, v7929, v0_6, rfl, rfl, rfl⟩ ⟨⟨2, rfl⟩, ⟨3, rfl⟩, ⟨0, rfl⟩, ⟨5, rfl⟩, trivial⟩ rfl (by decide)
      · rw [if_neg c7942] at h
        obtain rfl : b7941 = true := hb7941.symm.trans (bne_iff_ne.2 c7942)
        refine VC.cond_t rfl ?_
        refine VC.seq ?_
        refine VC.region ?_
        refine VL.va (op_build (vals := []) (vcs := []) (cells := [.slice none 0 0, .slice none 0 0, .int .i64 0, .int .i64 0, .int .i64 0, .slice none 0 0, .slice none 0 0]) SI27 rfl .nil (by kernel_rfl) (ltn rfl)) rfl ?_
        refine VL.va (op_move rfl (ltn rfl)) rfl ?_
        refine VL.step1 (o_store 0 7 rfl rfl rfl TI27 (.agg (.of rfl)) rfl (len rfl)) rfl ?_
        refine VL.va (op_assign rfl (ltn rfl)) rfl ?_
        refine VL.done ?_
        refine VN.then ?_
        refine VC.ret ?_
        refine VR.then ?_
        simp only [Option.some.injEq, Prod.mk.injEq] at h
        obtain ⟨rfl, rfl, rfl, rfl, rfl, rfl, rfl, rfl⟩ := h
        refine VR.nilFact' 1 ?_
        refine VR.nilFact' 2 ?_
        refine VR.nilFact' 1 ?_
        refine VR.nilFact' 1 ?_
        exact VR.fn (rs := [.cell 4 27, .tmp 5]) [.row (.slice none 0 0) 1 (([] : List ByteArray).map enc_str), .row (.slice none 0 0) 2 (([] : List S55).map enc55), .row (.slice none 0 0) 1 (([] : List ByteArray).map enc_str), .row (.slice none 0 0) 1 (([] : List ByteArray).map enc_str)] [] [] rfl (.cell 0 rfl rfl TI27 (fun h => absurd h (by decide)) (.tmp rfl .nil)) ⟨(.slice none 0 0), (.slice none 0 0), (.slice none 0 0), (.slice none 0 0), rfl, rfl, rfl⟩ ⟨⟨3, rfl⟩, ⟨2, rfl⟩, ⟨1, rfl⟩, ⟨0, rfl⟩, trivial⟩ rfl (by decide)
    · rw [if_neg c7928] at h; cases h
  · rw [if_neg c7921] at h
    obtain rfl := Bool.eq_false_iff.2 c7921
    refine VL.va (op_not rfl rfl (ltn rfl)) rfl ?_
    refine VL.done ?_
    refine VN.then ?_
    refine VC.cond_t rfl ?_
    refine VC.seq ?_
    refine VC.region ?_
    refine VL.va (op_build (vals := []) (vcs := []) (cells := [.slice none 0 0, .slice none 0 0, .int .i64 0, .int .i64 0, .int .i64 0, .slice none 0 0, .slice none 0 0]) SI27 rfl .nil (by kernel_rfl) (ltn rfl)) rfl ?_
    refine VL.step1 (o_store 0 7 rfl rfl rfl TI27 (.agg (.of rfl)) rfl (len rfl)) rfl ?_
    refine VL.va (op_assign rfl (ltn rfl)) rfl ?_
    refine VL.done ?_
    refine VN.then ?_
    refine VC.ret ?_
    refine VR.then ?_
    simp only [Option.some.injEq, Prod.mk.injEq] at h
    obtain ⟨rfl, rfl, rfl, rfl, rfl, rfl, rfl, rfl⟩ := h
    refine VR.nilFact' 1 ?_
    refine VR.nilFact' 2 ?_
    refine VR.nilFact' 1 ?_
    refine VR.nilFact' 1 ?_
    exact VR.fn (rs := [.cell 4 27, .tmp 5]) [.row (.slice none 0 0) 1 (([] : List ByteArray).map enc_str), .row (.slice none 0 0) 2 (([] : List S55).map enc55), .row (.slice none 0 0) 1 (([] : List ByteArray).map enc_str), .row (.slice none 0 0) 1 (([] : List ByteArray).map enc_str)] [] [] rfl (.cell 0 rfl rfl TI27 (fun h => absurd h (by decide)) (.tmp rfl .nil)) ⟨(.slice none 0 0), (.slice none 0 0), (.slice none 0 0), (.slice none 0 0), rfl, rfl, rfl⟩ ⟨⟨3, rfl⟩, ⟨2, rfl⟩, ⟨1, rfl⟩, ⟨0, rfl⟩, trivial⟩ rfl (by decide)
set_option maxHeartbeats 4000000 in
set_option maxRecDepth 100000 in
theorem journal_groups.ok (k : Nat) (l0_0 : List ByteArray) (l0_1 : List S55) (a0_2 : Int) (a0_3 : Int) (a0_4 : Int) (l0_5 : List ByteArray) (l0_6 : List ByteArray) (v0_0 : Value) (v0_1 : Value) (v0_5 : Value) (v0_6 : Value) (r1 : Int) (r2 : Int) (r3 : ByteArray) (h : journal_groups.f k l0_0 l0_1 a0_2 a0_3 a0_4 l0_5 l0_6 = some (r1, r2, r3)) :
    VCalls Try.prog 44 [.agg #[v0_0, v0_1, .int .i64 a0_2, .int .i64 a0_3, .int .i64 a0_4, v0_5, v0_6]] [.row v0_0 1 (l0_0.map enc_str), .row v0_1 2 (l0_1.map enc55), .row v0_5 1 (l0_5.map enc_str), .row v0_6 1 (l0_6.map enc_str)] (fun v G own => v = .agg #[.int .i64 r1, .int .i64 r2, .string r3] ∧ G = [] ∧ own = []) := by
  refine VCalls.intro Try.func44 rfl (len rfl) fun E hC hW hD hU => ?_
  unfold journal_groups.f at h
  refine VC.seq ?_
  refine VC.region ?_
  refine VL.sG (o_box rfl (.agg (.f 0 rfl (.f 1 rfl (.c rfl (.c rfl (.c rfl (.f 2 rfl (.f 3 rfl .nil)))))))) (ltn rfl)) rfl ?_
  intro g8006
  refine VL.sG (o_alloc Z81 ZL81 (ltn rfl)) rfl ?_
  intro g8007
  refine VL.done ?_
  refine VN.then ?_
  replace h := Option.bind_eq_some_iff.1 h
  obtain ⟨t8008, hA8009, h⟩ := h
  refine VC.join0 (⟨11, [(2, .pointer (some ⟨g8007, 0, none⟩))], [], [(g8007, 81, [.int .i64 a0_3, .int .i64 a0_4, .string t8008])], []⟩) (True) ?_ ?_
  · refine VC.draw ⟨0, [], [], [(g8006, 27, [v0_0, v0_1, .int .i64 a0_2, .int .i64 a0_3, .int .i64 a0_4, v0_5, v0_6])], []⟩ (by kernel_rfl) rfl (by kernel_rfl) (n := 9) (listed := LB 9 0) ?_
    refine VA.va (i := 0) (listed' := LB 9 1) rfl (op_fieldAddr FI27_2 rfl (add_at _ _ _) (ltn rfl)) rfl (by kernel_rfl) (by kernel_rfl) (by kernel_rfl) (by kernel_rfl) ⟨trivial, ⟨⟨1, rfl⟩, trivial⟩, trivial⟩ (fun _ _ _ h => h) ?_
    refine VA.va (i := 1) (listed' := LB 9 3) rfl (op_load 0 1 rfl rfl TI3 rfl (by decide) (ltn rfl)) rfl (by kernel_rfl) (by kernel_rfl) (by kernel_rfl) (by kernel_rfl) ⟨trivial, ⟨⟨1, rfl⟩, trivial⟩, trivial⟩ (fun _ _ _ h => h) ?_
    refine VA.va (i := 2) (listed' := LB 9 7) rfl (op_fieldAddr FI27_3 rfl (add_at _ _ _) (ltn rfl)) rfl (by kernel_rfl) (by kernel_rfl) (by kernel_rfl) (by kernel_rfl) ⟨trivial, ⟨⟨1, rfl⟩, trivial⟩, trivial⟩ (fun _ _ _ h => h) ?_
    refine VA.va (i := 3) (listed' := LB 9 15) rfl (op_load 0 1 rfl rfl TI3 rfl (by decide) (ltn rfl)) rfl (by kernel_rfl) (by kernel_rfl) (by kernel_rfl) (by kernel_rfl) ⟨trivial, ⟨⟨1, rfl⟩, trivial⟩, trivial⟩ (fun _ _ _ h => h) ?_
    refine VA.va (i := 4) (listed' := LB 9 31) rfl (op_fieldAddr FI27_4 rfl (add_at _ _ _) (ltn rfl)) rfl (by kernel_rfl) (by kernel_rfl) (by kernel_rfl) (by kernel_rfl) ⟨trivial, ⟨⟨1, rfl⟩, trivial⟩, trivial⟩ (fun _ _ _ h => h) ?_
    refine VA.va (i := 5) (listed' := LB 9 63) rfl (op_load 0 1 rfl rfl TI22 rfl (by decide) (ltn rfl)) rfl (by kernel_rfl) (by kernel_rfl) (by kernel_rfl) (by kernel_rfl) ⟨trivial, ⟨⟨1, rfl⟩, trivial⟩, trivial⟩ (fun _ _ _ h => h) ?_
    refine VA.oneC (i := 6) (listed' := LB 9 127) (by kernel_rfl) rfl (o_call0 FO68 (journal_frames.ok k l0_5 v0_5 t8008 hA8009) rfl rfl (ltn rfl) (All_of (.cons (List.mem_of_getElem? (i := 2) rfl) .nil))) rfl (by kernel_rfl) ?_
    rintro _ _ _ ⟨rfl, rfl, rfl⟩
    refine ⟨⟨trivial, ⟨⟨1, rfl⟩, trivial⟩, trivial⟩, ?_⟩
    refine VA.va (i := 7) (listed' := LB 9 255) rfl (op_build (vals := [(0, .int .i64 a0_3), (1, .int .i64 a0_4), (2, .string t8008)]) (vcs := [(0, [.int .i64 a0_3]), (1, [.int .i64 a0_4]), (2, [.string t8008])]) (cells := [.int .i64 a0_3, .int .i64 a0_4, .string t8008]) SI81 rfl (.cons ⟨rfl, (.c rfl)⟩ (.cons ⟨rfl, (.c rfl)⟩ (.cons ⟨rfl, (.c rfl)⟩ .nil))) (by kernel_rfl) (ltn rfl)) rfl (by kernel_rfl) (by kernel_rfl) (by kernel_rfl) (by kernel_rfl) ⟨trivial, ⟨⟨1, rfl⟩, trivial⟩, trivial⟩ (fun _ _ _ h => h) ?_
    refine VA.one1 (i := 8) (listed' := LB 9 511) (by kernel_rfl) rfl (o_store 0 3 rfl rfl rfl TI81 (.agg (.of rfl)) rfl (len rfl)) rfl (by kernel_rfl) ⟨trivial, ⟨⟨1, rfl⟩, trivial⟩, trivial⟩ ?_
    refine VA.done (by kernel_rfl) ?_
    exact VN.meet0  [0] [] trivial ⟨rfl, ⟨rfl, trivial⟩, trivial, rfl, by decide, rfl, by decide⟩
  intro _
  refine VC.ret ?_
  simp only [Option.some.injEq, Prod.mk.injEq] at h
  obtain ⟨rfl, rfl, rfl⟩ := h
  exact VR.fn (rs := [.cell 2 81]) [] [] [] rfl (.cell 0 rfl rfl TI81 (fun h => absurd h (by decide)) .nil) ⟨rfl, rfl, rfl⟩ trivial rfl (by decide)
set_option maxHeartbeats 4000000 in
set_option maxRecDepth 100000 in
theorem slices_Backward_api_Write_api_Write.ok (l0 : List S55) (v0 : Value) (r1 : List S55) (h : slices_Backward_api_Write_api_Write.f l0 = some r1) :
    VCalls Try.prog 98 [v0] [.row v0 2 (l0.map enc55)] (fun v G own => ∃ w0 : Value, ∃ p0 : Nat, v = .func (.func 101) #[] #[.pointer (some ⟨p0, 0, none⟩)] ∧ G = [.row w0 2 (r1.map enc55), .at_ ⟨p0, 0, none⟩ [w0]] ∧ own = []) := by
  refine VCalls.intro Try.func98 rfl (len rfl) fun E hC hW hD hU => ?_
  unfold slices_Backward_api_Write_api_Write.f at h
  refine VC.seq ?_
  refine VC.region ?_
  refine VL.sG (o_box rfl (.f 0 rfl) (ltn rfl)) rfl ?_
  intro g8080
  refine VL.va (op_assign rfl (ltn rfl)) rfl ?_
  refine VL.done ?_
  refine VN.then ?_
  refine VC.seq ?_
  refine VC.region ?_
  refine VL.va (op_makeFunc (vals := [.pointer (some ⟨g8080, 0, none⟩)]) rfl (ltn rfl)) rfl ?_
  refine VL.va (op_assign rfl (ltn rfl)) rfl ?_
  refine VL.done ?_
  refine VN.then ?_
  refine VC.ret ?_
  obtain rfl := Option.some.inj h
  refine VR.freeze' 0 rfl ?_
  exact VR.fn (rs := [.tmp 2]) [.row v0 2 (l0.map enc55), .at_ ⟨g8080, 0, none⟩ [v0]] [] [] rfl (.tmp rfl .nil) ⟨v0, g8080, rfl, rfl, rfl⟩ ⟨⟨1, rfl⟩, ⟨0, rfl⟩, trivial⟩ rfl (by decide)
set_option maxHeartbeats 4000000 in
set_option maxRecDepth 100000 in
theorem disk_Get.ok (k : Nat) (l0_0 : List ByteArray) (l0_1 : List S55) (a1 : Int) (v0_0 : Value) (v0_1 : Value) (r1 : ByteArray) (r2 : Int) (h : disk_Get.f k l0_0 l0_1 a1 = some (r1, r2)) :
    VCalls Try.prog 86 [.agg #[v0_0, v0_1], .int .i64 a1] [.row v0_0 1 (l0_0.map enc_str), .row v0_1 2 (l0_1.map enc55)] (fun v G own => v = .tuple #[.string r1, .int .i64 r2] ∧ G = [] ∧ own = []) := by
  refine VCalls.introM Try.func86 rfl (len rfl) fun E hC hW hD hU => ?_
  unfold disk_Get.f at h
  refine VC.seq ?_
  refine VC.region ?_
  refine VL.sG (o_box rfl (.agg (.f 0 rfl (.f 1 rfl .nil))) (ltn rfl)) rfl ?_
  intro g8047
  refine VL.sG (o_box rfl (.c rfl) (ltn rfl)) rfl ?_
  intro g8048
  refine VL.sG (o_alloc Z9 ZL9 (ltn rfl)) rfl ?_
  intro g8049
  refine VL.sG (o_alloc Z30 ZL30 (ltn rfl)) rfl ?_
  intro g8050
  refine VL.done ?_
  refine VN.then ?_
  refine VC.seq ?_
  refine VC.block ?_
  refine VC.seq ?_
  refine VC.region ?_
  refine VL.va (op_load 3 2 rfl rfl TI25 rfl (fun h => absurd h (by decide)) (ltn rfl)) rfl ?_
  replace h := Option.bind_eq_some_iff.1 h
  obtain ⟨t8067, hA8068, h⟩ := h
  refine VL.sC (o_call0 FO23 (disk_Right.ok k l0_0 l0_1 v0_0 v0_1 t8067 hA8068) rfl rfl (ltn rfl) (All_of (.cons (List.mem_of_getElem? (i := 0) rfl) (.cons (List.mem_of_getElem? (i := 1) rfl) .nil)))) rfl ?_
  rintro _ _ _ ⟨rfl, rfl, rfl⟩
  by_cases c8069 : t8067 = true
  · rw [if_pos c8069] at h
    obtain rfl := c8069
    refine VL.va (op_not rfl rfl (ltn rfl)) rfl ?_
    refine VL.va (op_assign rfl (ltn rfl)) rfl ?_
    refine VL.done ?_
    refine VN.then ?_
    refine VC.cond_f rfl ?_
    refine VC.seq ?_
    refine VC.region ?_
    refine VL.va (op_load 2 1 rfl rfl TI3 rfl (by decide) (ltn rfl)) rfl ?_
    refine VL.letter (decide (a1 < 0)) fun b8073 hb8073 => ?_
    refine VL.va (op_cmp rfl rfl (congrArg some hb8073) (ltn rfl)) rfl ?_
    refine VL.va (op_move rfl (ltn rfl)) rfl ?_
    by_cases c8074 : a1 < 0
    · rw [if_pos c8074] at h
      obtain rfl : b8073 = true := hb8073.symm.trans (decide_eq_true c8074)
      refine VL.un rfl rfl (ltn rfl) ?_
      refine VL.un rfl rfl (ltn rfl) ?_
      refine VL.un rfl rfl (ltn rfl) ?_
      refine VL.un rfl rfl (ltn rfl) ?_
      refine VL.un rfl rfl (ltn rfl) ?_
      refine VL.va (op_pick rfl rfl (ltn rfl)) rfl ?_
      refine VL.va (op_assign rfl (ltn rfl)) rfl ?_
      refine VL.done ?_
      refine VN.then ?_
      refine VC.cond_t rfl ?_
      refine VC.seq ?_
      refine VC.region ?_
      refine VL.step1 (o_store 1 1 rfl rfl rfl TI9 (.c rfl) rfl (len rfl)) rfl ?_
      refine VL.step1 (o_store 0 1 rfl rfl rfl TI30 (.c rfl) rfl (len rfl)) rfl ?_
      refine VL.done ?_
      refine VN.then ?_
      refine VC.ret ?_
      refine VR.block ?_
      refine VR.then ?_
      simp only [Option.some.injEq, Prod.mk.injEq] at h
      obtain ⟨rfl, rfl⟩ := h
      refine VR.m0 ?_
      exact VR.fn (rs := [.cell 4 9, .cell 5 30]) [] [] [] rfl (.cell 1 rfl rfl TI9 (fun _ => rfl) (.cell 0 rfl rfl TI30 (fun _ => rfl) .nil)) ⟨rfl, rfl, rfl⟩ trivial rfl (by decide)
    · rw [if_neg c8074] at h
      obtain rfl : b8073 = false := hb8073.symm.trans (decide_eq_false c8074)
      refine VL.va (op_load 2 1 rfl rfl TI3 rfl (by decide) (ltn rfl)) rfl ?_
      refine VL.va (op_fieldAddr FI25_0 rfl (add_at _ _ _) (ltn rfl)) rfl ?_
      refine VL.va (op_load 3 1 rfl rfl TI22 rfl (by decide) (ltn rfl)) rfl ?_
      refine VL.va (op_len (m := l0_0.length) 0 lenm Try.underlying22 rfl rfl (ltn rfl)) rfl ?_
      refine VL.letter (decide (a1 ≥ (l0_0.length : Int))) fun b8075 hb8075 => ?_
      refine VL.va (op_cmp rfl rfl (congrArg some hb8075) (ltn rfl)) rfl ?_
      refine VL.va (op_pick rfl rfl (ltn rfl)) rfl ?_
      refine VL.va (op_assign rfl (ltn rfl)) rfl ?_
      refine VL.done ?_
      refine VN.then ?_
      by_cases c8076 : a1 ≥ (l0_0.length : Int)
      · rw [if_pos c8076] at h
        obtain rfl : b8075 = true := hb8075.symm.trans (decide_eq_true c8076)
        refine VC.cond_t rfl ?_
        refine VC.seq ?_
        refine VC.region ?_
        refine VL.step1 (o_store 1 1 rfl rfl rfl TI9 (.c rfl) rfl (len rfl)) rfl ?_
        refine VL.step1 (o_store 0 1 rfl rfl rfl TI30 (.c rfl) rfl (len rfl)) rfl ?_
        refine VL.done ?_
        refine VN.then ?_
        refine VC.ret ?_
        refine VR.block ?_
        refine VR.then ?_
        simp only [Option.some.injEq, Prod.mk.injEq] at h
        obtain ⟨rfl, rfl⟩ := h
        refine VR.m0 ?_
        exact VR.fn (rs := [.cell 4 9, .cell 5 30]) [] [] [] rfl (.cell 1 rfl rfl TI9 (fun _ => rfl) (.cell 0 rfl rfl TI30 (fun _ => rfl) .nil)) ⟨rfl, rfl, rfl⟩ trivial rfl (by decide)
      · rw [if_neg c8076] at h
        obtain rfl : b8075 = false := hb8075.symm.trans (decide_eq_false c8076)
        refine VC.cond_f rfl ?_
        refine VC.skip ?_
        refine VN.block ?_
        refine VN.then ?_
        refine VC.seq ?_
        refine VC.seq ?_
        refine VC.region ?_
        refine VL.va (op_fieldAddr FI25_1 rfl (add_at _ _ _) (ltn rfl)) rfl ?_
        refine VL.va (op_load 3 1 rfl rfl TI23 rfl (by decide) (ltn rfl)) rfl ?_
        replace h := Option.bind_eq_some_iff.1 h
        obtain ⟨r8081, hA8082, h⟩ := h
        refine VL.sC (o_call0 FO98 (slices_Backward_api_Write_api_Write.ok l0_1 v0_1 r8081 hA8082) rfl rfl (ltn rfl) (All_of (.cons (List.mem_of_getElem? (i := 1) rfl) .nil))) rfl ?_
        rintro _ _ _ ⟨v8084, g8085, rfl, rfl, rfl⟩
        refine VL.done ?_
        refine VN.then ?_
        refine VC.block ?_
        refine VC.rangeFunc (ps := [25, 26]) (caps := [.pointer (some ⟨g8085, 0, none⟩)]) Try.func101 FO101 rfl rfl (len rfl) fun D8086 l8087 L8088 hLl8087 hDD8086 => ?_
        refine VC.seq ?_
        refine VC.region ?_
        refine VL.va (op_load_at (ad := ⟨g8085, 0, none⟩) 3 0 1 (by first | rfl | exact congrArg (fun a => some (Value.pointer (some a))) (add_at _ 0 _).symm) rfl TI23 rfl (by decide) (ltn rfl)) rfl ?_
        refine VL.va (op_len (m := r8081.length) 2 lenm Try.underlying23 rfl rfl (ltn rfl)) rfl ?_
        refine VL.va (op_ari64 rfl rfl rfl (ltn rfl)) rfl ?_
        refine VL.va (op_assign rfl (ltn rfl)) rfl ?_
        refine VL.done ?_
        refine VN.then ?_
        refine VC.block ?_
        refine VC.loop1 (fun (i8121 : Int) => ⟨19, [(0, (.func (.yield l8087) #[] #[])), (1, .pointer (some ⟨g8085, 0, none⟩)), (3, .int .i64 i8121)], [.loop l8087 L8088 .ready none, .dfr D8086, .at_ ⟨g8085, 0, none⟩ [v8084], .row v0_0 1 (l0_0.map enc_str), .row v0_1 2 (l0_1.map enc55), .row v8084 2 (r8081.map enc55)], [(g8050, 30, [.int .i64 0]), (g8049, 9, [.string (⟨#[]⟩ : ByteArray)]), (g8048, 3, [.int .i64 a1]), (g8047, 25, [v0_0, v0_1])], []⟩) (fun (ml0 : Nat) (i8121 : Int) => disk_Get.l0 k a1 l0_0 r8081 ml0 i8121 = some (r1, r2)) k (wrap64 ((r8081.length : Int) - 1)) [0, 1, 2, 3] [] h ⟨rfl, ⟨rfl, rfl, rfl, trivial⟩, ⟨⟨0, rfl⟩, ⟨1, rfl⟩, ⟨3, rfl⟩, ⟨4, rfl⟩, ⟨5, rfl⟩, ⟨2, rfl⟩, trivial⟩, rfl, by decide, rfl, by decide⟩ (by intros; simp [disk_Get.l0]) ?_
        clear h
        intro ml0 ihl0 i8121 h
        simp only [disk_Get.l0] at h
        refine VC.seq ?_
        refine VC.seq ?_
        refine VC.region ?_
        refine VL.va (op_move rfl (ltn rfl)) rfl ?_
        refine VL.letter (decide (i8121 ≥ 0)) fun b8160 hb8160 => ?_
        refine VL.va (op_cmp rfl rfl (congrArg some hb8160) (ltn rfl)) rfl ?_
        refine VL.done ?_
        refine VN.then ?_
        by_cases c8161 : i8121 ≥ 0
        · rw [if_pos c8161] at h
          obtain rfl : b8160 = true := hb8160.symm.trans (decide_eq_true c8161)
          refine VC.cond_t rfl ?_
          refine VC.skip ?_
          refine VN.then ?_
          refine VC.seq ?_
          refine VC.block ?_
          refine VC.seq ?_
          refine VC.region ?_
          refine VL.va (op_move rfl (ltn rfl)) rfl ?_
          refine VL.va (op_move rfl (ltn rfl)) rfl ?_
          refine VL.va (op_load_at (ad := ⟨g8085, 0, none⟩) 2 0 1 (by first | rfl | exact congrArg (fun a => some (Value.pointer (some a))) (add_at _ 0 _).symm) rfl TI23 rfl (by decide) (ltn rfl)) rfl ?_
          refine VL.va (op_move rfl (ltn rfl)) rfl ?_
          by_cases c8183 : 0 ≤ i8121
          · rw [if_pos c8183] at h
            replace h := Option.bind_eq_some_iff.1 h
            obtain ⟨x8184, hx8184, h⟩ := h
            refine VL.open (m := r8081.length) 5 lenm rfl (pos_get hx8184) ?_
            rintro ad8185 n8186 rfl
            refine VL.va (op_indexAddr Try.underlying23 TI56 rfl rfl c8183 (lt_get c8183 hx8184) rfl (ltn rfl)) rfl ?_
            refine VL.va (op_load_row (sz := 2) (o := 0) 5 i8121.toNat 2 rfl rfl (get_map hx8184) TI56 rfl (fun h => absurd h (by decide)) (ltn rfl)) rfl ?_
            refine VL.yield (vals := [.int .i64 i8121, .agg #[.int .i64 x8184.f0, .string x8184.f1]]) hLl8087 rfl rfl rfl rfl (ltn rfl) 0 rfl rfl ?_
            refine VC.region ?_
            refine VL.sG (o_alloc Z56 ZL56 (ltn rfl)) rfl ?_
            intro g8187
            refine VL.step1 (o_store 0 2 rfl rfl rfl TI56 (.agg (.of rfl)) rfl (len rfl)) rfl ?_
            refine VL.done ?_
            refine VN.begin 0 hLl8087.base rfl rfl rfl ?_
            refine VC.block ?_
            refine VC.seq ?_
            refine VC.region ?_
            refine VL.va (op_fieldAddr FI56_0 rfl (add_at _ _ _) (ltn rfl)) rfl ?_
            refine VL.va (op_load 0 1 rfl rfl TI3 rfl (by decide) (ltn rfl)) rfl ?_
            refine VL.va (op_load 3 1 rfl rfl TI3 rfl (by decide) (ltn rfl)) rfl ?_
            refine VL.letter ((x8184.f0 == a1)) fun b8188 hb8188 => ?_
            refine VL.va (op_cmp rfl rfl (congrArg some hb8188) (ltn rfl)) rfl ?_
            refine VL.done ?_
            refine VN.then ?_
            by_cases c8189 : x8184.f0 = a1
            · rw [if_pos c8189] at h
              obtain rfl : b8188 = true := hb8188.symm.trans (beq_iff_eq.2 c8189)
              refine VC.cond_t rfl ?_
              refine VC.seq ?_
              refine VC.region ?_
              refine VL.va (op_fieldAddr FI56_1 rfl (add_at _ _ _) (ltn rfl)) rfl ?_
              refine VL.va (op_load 0 1 rfl rfl TI9 rfl (by decide) (ltn rfl)) rfl ?_
              refine VL.step1 (o_store 2 1 rfl rfl rfl TI9 (.c rfl) rfl (len rfl)) rfl ?_
              refine VL.step1 (o_store 1 1 rfl rfl rfl TI30 (.c rfl) rfl (len rfl)) rfl ?_
              refine VL.done ?_
              refine VN.then ?_
              refine VC.ret ?_
              refine VR.block ?_
              refine VR.endRound 0 hLl8087.base rfl rfl rfl ?_
              refine VL.va (op_not rfl rfl (ltn rfl)) rfl ?_
              refine VL.done ?_
              refine VN.then ?_
              refine VC.cond_t rfl ?_
              refine VC.ret ?_
              refine VR.block ?_
              refine VR.then ?_
              refine VR.then ?_
              refine VR.block ?_
              refine VR.endRFj 0 rfl rfl rfl rfl ?_
              refine VC.ret ?_
              refine VR.block ?_
              refine VR.then ?_
              simp only [Option.some.injEq, Prod.mk.injEq] at h
              obtain ⟨rfl, rfl⟩ := h
              refine VR.mark 0 hDD8086 rfl rfl rfl ?_
              exact VR.fn (rs := [.cell 4 9, .cell 5 30]) [] [] [] rfl (.cell 2 rfl rfl TI9 (fun _ => rfl) (.cell 1 rfl rfl TI30 (fun _ => rfl) .nil)) ⟨rfl, rfl, rfl⟩ trivial rfl (by decide)
            · rw [if_neg c8189] at h
              obtain rfl : b8188 = false := hb8188.symm.trans (beq_eq_false_iff_ne.2 c8189)
              refine VC.cond_f rfl ?_
              refine VC.skip ?_
              refine VN.block ?_
              refine VN.endRound 0 hLl8087.base rfl rfl rfl ?_
              refine VL.va (op_not rfl rfl (ltn rfl)) rfl ?_
              refine VL.done ?_
              refine VN.then ?_
              refine VC.cond_f rfl ?_
              refine VC.skip ?_
              refine VN.block ?_
              refine VN.then ?_
              refine VC.region ?_
              refine VL.va (op_move rfl (ltn rfl)) rfl ?_
              refine VL.va (op_ari64 rfl rfl rfl (ltn rfl)) rfl ?_
              refine VL.va (op_assign rfl (ltn rfl)) rfl ?_
              refine VL.done ?_
              refine VN.again [1, 2, 3, 4] [] (ihl0 (wrap64 (i8121 - 1)) h) ⟨rfl, ⟨rfl, rfl, rfl, trivial⟩, ⟨⟨0, rfl⟩, ⟨1, rfl⟩, ⟨2, rfl⟩, ⟨3, rfl⟩, ⟨4, rfl⟩, ⟨5, rfl⟩, trivial⟩, rfl, by decide, rfl, by decide⟩
          · rw [if_neg c8183] at h; cases h
        · rw [if_neg c8161] at h
          obtain rfl : b8160 = false := hb8160.symm.trans (decide_eq_false c8161)
          refine VC.cond_f rfl ?_
          refine VC.exit ?_
          refine VX.then ?_
          refine VX.then ?_
          refine VX.hit ?_
          refine VN.endRF 0 rfl rfl rfl rfl ?_
          refine VN.block ?_
          refine VN.then ?_
          refine VC.seq ?_
          refine VC.region ?_
          refine VL.va (op_fieldAddr FI25_0 rfl (add_at _ _ _) (ltn rfl)) rfl ?_
          refine VL.va (op_load 3 1 rfl rfl TI22 rfl (by decide) (ltn rfl)) rfl ?_
          refine VL.va (op_load 2 1 rfl rfl TI3 rfl (by decide) (ltn rfl)) rfl ?_
          by_cases c8190 : 0 ≤ a1
          · rw [if_pos c8190] at h
            replace h := Option.bind_eq_some_iff.1 h
            obtain ⟨x8191, hx8191, h⟩ := h
            refine VL.open (m := l0_0.length) 2 lenm rfl (pos_get hx8191) ?_
            rintro ad8192 n8193 rfl
            refine VL.va (op_indexAddr Try.underlying22 TI9 rfl rfl c8190 (lt_get c8190 hx8191) rfl (ltn rfl)) rfl ?_
            refine VL.va (op_load_row (sz := 1) (o := 0) 2 a1.toNat 1 rfl rfl (get_map hx8191) TI9 rfl (by decide) (ltn rfl)) rfl ?_
            refine VL.step1 (o_store 1 1 rfl rfl rfl TI9 (.c rfl) rfl (len rfl)) rfl ?_
            refine VL.step1 (o_store 0 1 rfl rfl rfl TI30 (.c rfl) rfl (len rfl)) rfl ?_
            refine VL.done ?_
            refine VN.then ?_
            refine VC.ret ?_
            simp only [Option.some.injEq, Prod.mk.injEq] at h
            obtain ⟨rfl, rfl⟩ := h
            refine VR.mark 0 hDD8086 rfl rfl rfl ?_
            exact VR.fn (rs := [.cell 4 9, .cell 5 30]) [] [] [] rfl (.cell 1 rfl rfl TI9 (fun _ => rfl) (.cell 0 rfl rfl TI30 (fun _ => rfl) .nil)) ⟨rfl, rfl, rfl⟩ trivial rfl (by decide)
          · rw [if_neg c8190] at h; cases h
  · rw [if_neg c8069] at h
    obtain rfl := Bool.eq_false_iff.2 c8069
    refine VL.va (op_not rfl rfl (ltn rfl)) rfl ?_
    refine VL.va (op_assign rfl (ltn rfl)) rfl ?_
    refine VL.done ?_
    refine VN.then ?_
    refine VC.cond_t rfl ?_
    refine VC.seq ?_
    refine VC.region ?_
    refine VL.step1 (o_store 1 1 rfl rfl rfl TI9 (.c rfl) rfl (len rfl)) rfl ?_
    refine VL.step1 (o_store 0 1 rfl rfl rfl TI30 (.c rfl) rfl (len rfl)) rfl ?_
    refine VL.done ?_
    refine VN.then ?_
    refine VC.ret ?_
    refine VR.block ?_
    refine VR.then ?_
    simp only [Option.some.injEq, Prod.mk.injEq] at h
    obtain ⟨rfl, rfl⟩ := h
    refine VR.m0 ?_
    exact VR.fn (rs := [.cell 4 9, .cell 5 30]) [] [] [] rfl (.cell 1 rfl rfl TI9 (fun _ => rfl) (.cell 0 rfl rfl TI30 (fun _ => rfl) .nil)) ⟨rfl, rfl, rfl⟩ trivial rfl (by decide)
set_option maxHeartbeats 4000000 in
set_option maxRecDepth 100000 in
theorem journal_laid.ok (k : Nat) (l0_0 : List ByteArray) (l0_1 : List S55) (a1 : Int) (a2 : Int) (a3 : ByteArray) (v0_0 : Value) (v0_1 : Value) (r1 : List ByteArray) (r2 : List S55) (h : journal_laid.f k l0_0 l0_1 a1 a2 a3 = some (r1, r2)) :
    VCalls Try.prog 72 [.agg #[v0_0, v0_1], .int .i64 a1, .int .i64 a2, .string a3] [.row v0_0 1 (l0_0.map enc_str), .row v0_1 2 (l0_1.map enc55)] (fun v G own => ∃ w0 w1 : Value, v = .agg #[w0, w1] ∧ G = [.row w0 1 (r1.map enc_str), .row w1 2 (r2.map enc55)] ∧ own = []) := by
  refine VCalls.intro Try.func72 rfl (len rfl) fun E hC hW hD hU => ?_
  unfold journal_laid.f at h
  refine VC.seq ?_
  refine VC.region ?_
  refine VL.sG (o_box rfl (.agg (.f 0 rfl (.f 1 rfl .nil))) (ltn rfl)) rfl ?_
  intro g8325
  refine VL.sG (o_alloc Z25 ZL25 (ltn rfl)) rfl ?_
  intro g8326
  refine VL.done ?_
  refine VN.then ?_
  refine VC.seq ?_
  refine VC.region ?_
  refine VL.va (op_fieldAddr FI25_0 rfl (add_at _ _ _) (ltn rfl)) rfl ?_
  refine VL.va (op_load 1 1 rfl rfl TI22 rfl (by decide) (ltn rfl)) rfl ?_
  refine VL.va (op_len (m := l0_0.length) 0 lenm Try.underlying22 rfl rfl (ltn rfl)) rfl ?_
  refine VL.va (op_move rfl (ltn rfl)) rfl ?_
  replace h := Option.bind_eq_some_iff.1 h
  obtain ⟨t8327, hA8328, h⟩ := h
  refine VL.sC (o_call0 FO25 (journal_begin.ok (l0_0.length : Int) a1 t8327 hA8328) rfl rfl (ltn rfl) (All_of .nil)) rfl ?_
  rintro _ _ _ ⟨rfl, rfl, rfl⟩
  refine VL.va (op_assign rfl (ltn rfl)) rfl ?_
  refine VL.done ?_
  refine VN.then ?_
  refine VC.seq ?_
  refine VC.block ?_
  refine VC.loop6 (fun (i8429 : Int) (s8430 : ByteArray) (v8432 : Value) (l8433 : List ByteArray) (v8435 : Value) (l8436 : List S55) => ⟨65, [(2, .int .i64 i8429), (3, .string s8430), (4, .pointer (some ⟨g8325, 0, none⟩)), (8, .pointer (some ⟨g8326, 0, none⟩)), (9, .int .i64 t8327)], [.row v8432 1 (l8433.map enc_str), .row v8435 2 (l8436.map enc55)], [(g8326, 25, [.slice none 0 0, .slice none 0 0]), (g8325, 25, [v8432, v8435])], []⟩) (fun (ml1 : Nat) (i8429 : Int) (s8430 : ByteArray) (v8432 : Value) (l8433 : List ByteArray) (v8435 : Value) (l8436 : List S55) => journal_laid.l1 k t8327 ml1 i8429 s8430 l8433 l8436 = some (r1, r2)) k a2 a3 v0_0 l0_0 v0_1 l0_1 [0, 1] [] h ⟨rfl, ⟨rfl, rfl, rfl, rfl, rfl, trivial⟩, ⟨⟨0, rfl⟩, ⟨1, rfl⟩, trivial⟩, rfl, by decide, rfl, by decide⟩ (by intros; simp [journal_laid.l1]) ?_
  clear h
  intro ml1 ihl1 i8429 s8430 v8432 l8433 v8435 l8436 h
  simp only [journal_laid.l1] at h
  refine VC.seq ?_
  refine VC.seq ?_
  refine VC.region ?_
  refine VL.va (op_move rfl (ltn rfl)) rfl ?_
  refine VL.letter ((s8430 != (⟨#[]⟩ : ByteArray))) fun b8462 hb8462 => ?_
  refine VL.va (op_cmps rfl rfl (congrArg some hb8462) (ltn rfl)) rfl ?_
  refine VL.done ?_
  refine VN.then ?_
  by_cases c8463 : (s8430 == (⟨#[]⟩ : ByteArray)) = true
  · rw [if_pos c8463] at h
    obtain rfl : b8462 = false := hb8462.symm.trans (bne_of_t c8463)
    refine VC.cond_f rfl ?_
    refine VC.exit ?_
    refine VX.then ?_
    refine VX.then ?_
    refine VX.hit ?_
    refine VN.then ?_
    refine VC.seq ?_
    refine VC.region ?_
    refine VL.va (op_load 1 2 rfl rfl TI25 rfl (fun h => absurd h (by decide)) (ltn rfl)) rfl ?_
    refine VL.step1 (o_store 0 2 rfl rfl rfl TI25 (.agg (.f 0 rfl (.f 1 rfl .nil))) rfl (len rfl)) rfl ?_
    refine VL.done ?_
    refine VN.then ?_
    refine VC.ret ?_
    simp only [Option.some.injEq, Prod.mk.injEq] at h
    obtain ⟨rfl, rfl⟩ := h
    exact VR.fn (rs := [.cell 8 25]) [.row v8432 1 (l8433.map enc_str), .row v8435 2 (l8436.map enc55)] [] [] rfl (.cell 0 rfl rfl TI25 (fun h => absurd h (by decide)) .nil) ⟨v8432, v8435, rfl, rfl, rfl⟩ ⟨⟨0, rfl⟩, ⟨1, rfl⟩, trivial⟩ rfl (by decide)
  · rw [if_neg c8463] at h
    obtain rfl : b8462 = true := hb8462.symm.trans (bne_of_f c8463)
    refine VC.cond_t rfl ?_
    refine VC.skip ?_
    refine VN.then ?_
    refine VC.block ?_
    refine VC.seq ?_
    refine VC.region ?_
    refine VL.va (op_move rfl (ltn rfl)) rfl ?_
    refine VL.va (op_move rfl (ltn rfl)) rfl ?_
    refine VL.va (op_quo rfl rfl (by decide) rfl (ltn rfl)) rfl ?_
    refine VL.va (op_ari64 rfl rfl rfl (ltn rfl)) rfl ?_
    refine VL.va (op_move rfl (ltn rfl)) rfl ?_
    refine VL.va (op_rem rfl rfl (by decide) rfl (ltn rfl)) rfl ?_
    refine VL.va (op_assign rfl (ltn rfl)) rfl ?_
    refine VL.va (op_assign rfl (ltn rfl)) rfl ?_
    refine VL.done ?_
    refine VN.then ?_
    refine VC.seq ?_
    refine VC.region ?_
    refine VL.va (op_move rfl (ltn rfl)) rfl ?_
    refine VL.va (op_ari64 rfl rfl rfl (ltn rfl)) rfl ?_
    refine VL.va (op_move rfl (ltn rfl)) rfl ?_
    refine VL.va (op_lens Try.underlying9 rfl (ltn rfl)) rfl ?_
    refine VL.va (op_min rfl rfl (ltn rfl)) rfl ?_
    refine VL.va (op_assign rfl (ltn rfl)) rfl ?_
    refine VL.done ?_
    refine VN.then ?_
    refine VC.seq ?_
    refine VC.region ?_
    refine VL.va (op_load 1 2 rfl rfl TI25 rfl (fun h => absurd h (by decide)) (ltn rfl)) rfl ?_
    refine VL.va (op_move rfl (ltn rfl)) rfl ?_
    replace h := Option.bind_eq_some_iff.1 h
    obtain ⟨⟨t8464, t8465⟩, hA8466, h⟩ := h
    dsimp only at h
    refine VL.sC (o_call0 FO86 (disk_Get.ok k l8433 l8436 (wrap64 (t8327 + (IntKind.i64.wrap (i8429.tdiv 64)))) v8432 v8435 t8464 t8465 hA8466) rfl rfl (ltn rfl) (All_of (.cons (List.mem_of_getElem? (i := 0) rfl) (.cons (List.mem_of_getElem? (i := 1) rfl) .nil)))) rfl ?_
    rintro _ _ _ ⟨rfl, rfl, rfl⟩
    refine VL.va (op_move rfl (ltn rfl)) rfl ?_
    refine VL.va (op_extract rfl rfl (ltn rfl)) rfl ?_
    refine VL.va (op_extract rfl rfl (ltn rfl)) rfl ?_
    refine VL.va (op_assign rfl (ltn rfl)) rfl ?_
    refine VL.va (op_assign rfl (ltn rfl)) rfl ?_
    refine VL.done ?_
    refine VN.then ?_
    by_cases c8467 : 0 ≤ i8429.tmod 64
    · rw [if_pos c8467] at h
      by_cases c8468 : (i8429.tmod 64) ≤ (t8464.size : Int)
      · rw [if_pos c8468] at h
        by_cases c8469 : 0 ≤ mn (wrap64 (64 - (i8429.tmod 64))) (s8430.size : Int)
        · rw [if_pos c8469] at h
          by_cases c8470 : (mn (wrap64 (64 - (i8429.tmod 64))) (s8430.size : Int)) ≤ (s8430.size : Int)
          · rw [if_pos c8470] at h
            by_cases c8471 : (t8464.extract 0 ((i8429.tmod 64).toNat)).size + (s8430.extract 0 ((mn (wrap64 (64 - (i8429.tmod 64))) (s8430.size : Int)).toNat)).size ≤ 9223372036854775807
            · rw [if_pos c8471] at h
              by_cases c8472 : 0 ≤ wrap64 ((i8429.tmod 64) + (mn (wrap64 (64 - (i8429.tmod 64))) (s8430.size : Int)))
              · rw [if_pos c8472] at h
                by_cases c8473 : (wrap64 ((i8429.tmod 64) + (mn (wrap64 (64 - (i8429.tmod 64))) (s8430.size : Int)))) ≤ (t8464.size : Int)
                · rw [if_pos c8473] at h
                  by_cases c8474 : ((t8464.extract 0 ((i8429.tmod 64).toNat)) ++ (s8430.extract 0 ((mn (wrap64 (64 - (i8429.tmod 64))) (s8430.size : Int)).toNat))).size + (t8464.extract ((wrap64 ((i8429.tmod 64) + (mn (wrap64 (64 - (i8429.tmod 64))) (s8430.size : Int)))).toNat) t8464.size).size ≤ 9223372036854775807
                  · rw [if_pos c8474] at h
                    replace h := Option.bind_eq_some_iff.1 h
                    obtain ⟨⟨r8475, r8476, t8477⟩, hA8478, h⟩ := h
                    dsimp only at h
                    refine VC.join2 (fun (v8480 : Value) (v8482 : Value) => ⟨65, [(2, .int .i64 i8429), (3, .string s8430), (4, .pointer (some ⟨g8325, 0, none⟩)), (8, .pointer (some ⟨g8326, 0, none⟩)), (9, .int .i64 t8327), (10, .int .i64 (wrap64 (t8327 + (IntKind.i64.wrap (i8429.tdiv 64))))), (11, .int .i64 (i8429.tmod 64)), (12, .int .i64 (mn (wrap64 (64 - (i8429.tmod 64))) (s8430.size : Int))), (13, .string t8464), (20, .string s8430), (21, .bool true), (22, .int .i64 t8327), (23, .int .i64 i8429), (24, .int .i64 (IntKind.i64.wrap (i8429.tdiv 64))), (25, .int .i64 (wrap64 (t8327 + (IntKind.i64.wrap (i8429.tdiv 64))))), (26, .int .i64 i8429), (27, .int .i64 (i8429.tmod 64)), (28, .int .i64 (i8429.tmod 64)), (29, .int .i64 (wrap64 (64 - (i8429.tmod 64)))), (30, .string s8430), (31, .int .i64 (s8430.size : Int)), (32, .int .i64 (mn (wrap64 (64 - (i8429.tmod 64))) (s8430.size : Int))), (33, .tuple #[.string t8464, .int .i64 t8465]), (34, .agg #[v8432, v8435]), (35, .int .i64 (wrap64 (t8327 + (IntKind.i64.wrap (i8429.tdiv 64))))), (36, .tuple #[.string t8464, .int .i64 t8465]), (37, .string t8464), (38, .int .i64 t8465), (39, .tuple #[.agg #[v8480, v8482], .int .i64 t8477]), (40, .agg #[v8432, v8435]), (41, .int .i64 (wrap64 (t8327 + (IntKind.i64.wrap (i8429.tdiv 64))))), (42, .string t8464), (43, .int .i64 (i8429.tmod 64)), (44, .string (t8464.extract 0 ((i8429.tmod 64).toNat))), (45, .string s8430), (46, .int .i64 (mn (wrap64 (64 - (i8429.tmod 64))) (s8430.size : Int))), (47, .string (s8430.extract 0 ((mn (wrap64 (64 - (i8429.tmod 64))) (s8430.size : Int)).toNat))), (48, .string ((t8464.extract 0 ((i8429.tmod 64).toNat)) ++ (s8430.extract 0 ((mn (wrap64 (64 - (i8429.tmod 64))) (s8430.size : Int)).toNat)))), (49, .string t8464), (50, .int .i64 (i8429.tmod 64)), (51, .int .i64 (mn (wrap64 (64 - (i8429.tmod 64))) (s8430.size : Int))), (52, .int .i64 (wrap64 ((i8429.tmod 64) + (mn (wrap64 (64 - (i8429.tmod 64))) (s8430.size : Int))))), (53, .string (t8464.extract ((wrap64 ((i8429.tmod 64) + (mn (wrap64 (64 - (i8429.tmod 64))) (s8430.size : Int)))).toNat) t8464.size)), (54, .string (((t8464.extract 0 ((i8429.tmod 64).toNat)) ++ (s8430.extract 0 ((mn (wrap64 (64 - (i8429.tmod 64))) (s8430.size : Int)).toNat))) ++ (t8464.extract ((wrap64 ((i8429.tmod 64) + (mn (wrap64 (64 - (i8429.tmod 64))) (s8430.size : Int)))).toNat) t8464.size))), (55, .tuple #[.agg #[v8480, v8482], .int .i64 t8477]), (56, .agg #[v8480, v8482])], [.row v8480 1 (r8475.map enc_str), .row v8482 2 (r8476.map enc55), .row v8432 1 (l8433.map enc_str), .row v8435 2 (l8436.map enc55)], [(g8326, 25, [.slice none 0 0, .slice none 0 0]), (g8325, 25, [v8480, v8482])], []⟩) (fun (v8480 : Value) (v8482 : Value) => True) ?_ ?_
                    · refine VC.drawB ⟨0, [], [], [], []⟩ [19] ⟨0, [], [], [(g8325, 25, [v8432, v8435])], []⟩ (by kernel_rfl) rfl (by kernel_rfl) (n := 20) (listed := LB 20 0) ?_
                      refine VB.vb (i := 0) (listed' := LB 20 1) rfl (op_load 0 2 rfl rfl TI25 rfl (fun h => absurd h (by decide)) (ltn rfl)) rfl (by kernel_rfl) (by kernel_rfl) (by kernel_rfl) (by kernel_rfl) (by kernel_rfl) (by kernel_rfl) (PartP.on ⟨trivial, trivial, trivial⟩ ⟨trivial, ⟨⟨1, rfl⟩, trivial⟩, trivial⟩) (fun _ _ _ h => h) ?_
                      refine VB.va (i := 1) (listed' := LB 20 3) rfl (op_move rfl (ltn rfl)) rfl (by kernel_rfl) (by kernel_rfl) (by kernel_rfl) (by kernel_rfl) (by decide) (PartP.on ⟨trivial, trivial, trivial⟩ ⟨trivial, ⟨⟨1, rfl⟩, trivial⟩, trivial⟩) (fun _ _ _ h => h) ?_
                      refine VB.va (i := 2) (listed' := LB 20 7) rfl (op_move rfl (ltn rfl)) rfl (by kernel_rfl) (by kernel_rfl) (by kernel_rfl) (by kernel_rfl) (by decide) (PartP.on ⟨trivial, trivial, trivial⟩ ⟨trivial, ⟨⟨1, rfl⟩, trivial⟩, trivial⟩) (fun _ _ _ h => h) ?_
                      refine VB.va (i := 3) (listed' := LB 20 15) rfl (op_move rfl (ltn rfl)) rfl (by kernel_rfl) (by kernel_rfl) (by kernel_rfl) (by kernel_rfl) (by decide) (PartP.on ⟨trivial, trivial, trivial⟩ ⟨trivial, ⟨⟨1, rfl⟩, trivial⟩, trivial⟩) (fun _ _ _ h => h) ?_
                      refine VB.va (i := 4) (listed' := LB 20 31) rfl (op_sliceS 0 ((i8429.tmod 64).toNat) Try.underlying9 rfl ⟨rfl, ⟨_, _, rfl, c8467, rfl⟩, by omega, by omega⟩ rfl (ltn rfl)) rfl (by kernel_rfl) (by kernel_rfl) (by kernel_rfl) (by kernel_rfl) (by decide) (PartP.on ⟨trivial, trivial, trivial⟩ ⟨trivial, ⟨⟨1, rfl⟩, trivial⟩, trivial⟩) (fun _ _ _ h => h) ?_
                      refine VB.va (i := 5) (listed' := LB 20 63) rfl (op_move rfl (ltn rfl)) rfl (by kernel_rfl) (by kernel_rfl) (by kernel_rfl) (by kernel_rfl) (by decide) (PartP.on ⟨trivial, trivial, trivial⟩ ⟨trivial, ⟨⟨1, rfl⟩, trivial⟩, trivial⟩) (fun _ _ _ h => h) ?_
                      refine VB.va (i := 6) (listed' := LB 20 127) rfl (op_move rfl (ltn rfl)) rfl (by kernel_rfl) (by kernel_rfl) (by kernel_rfl) (by kernel_rfl) (by decide) (PartP.on ⟨trivial, trivial, trivial⟩ ⟨trivial, ⟨⟨1, rfl⟩, trivial⟩, trivial⟩) (fun _ _ _ h => h) ?_
                      refine VB.va (i := 7) (listed' := LB 20 255) rfl (op_sliceS 0 ((mn (wrap64 (64 - (i8429.tmod 64))) (s8430.size : Int)).toNat) Try.underlying9 rfl ⟨rfl, ⟨_, _, rfl, c8469, rfl⟩, by omega, by omega⟩ rfl (ltn rfl)) rfl (by kernel_rfl) (by kernel_rfl) (by kernel_rfl) (by kernel_rfl) (by decide) (PartP.on ⟨trivial, trivial, trivial⟩ ⟨trivial, ⟨⟨1, rfl⟩, trivial⟩, trivial⟩) (fun _ _ _ h => h) ?_
                      refine VB.va (i := 8) (listed' := LB 20 511) rfl (op_adds rfl rfl rfl c8471 (ltn rfl)) rfl (by kernel_rfl) (by kernel_rfl) (by kernel_rfl) (by kernel_rfl) (by decide) (PartP.on ⟨trivial, trivial, trivial⟩ ⟨trivial, ⟨⟨1, rfl⟩, trivial⟩, trivial⟩) (fun _ _ _ h => h) ?_
                      refine VB.va (i := 9) (listed' := LB 20 1023) rfl (op_move rfl (ltn rfl)) rfl (by kernel_rfl) (by kernel_rfl) (by kernel_rfl) (by kernel_rfl) (by decide) (PartP.on ⟨trivial, trivial, trivial⟩ ⟨trivial, ⟨⟨1, rfl⟩, trivial⟩, trivial⟩) (fun _ _ _ h => h) ?_
                      refine VB.va (i := 10) (listed' := LB 20 2047) rfl (op_move rfl (ltn rfl)) rfl (by kernel_rfl) (by kernel_rfl) (by kernel_rfl) (by kernel_rfl) (by decide) (PartP.on ⟨trivial, trivial, trivial⟩ ⟨trivial, ⟨⟨1, rfl⟩, trivial⟩, trivial⟩) (fun _ _ _ h => h) ?_
                      refine VB.va (i := 11) (listed' := LB 20 4095) rfl (op_move rfl (ltn rfl)) rfl (by kernel_rfl) (by kernel_rfl) (by kernel_rfl) (by kernel_rfl) (by decide) (PartP.on ⟨trivial, trivial, trivial⟩ ⟨trivial, ⟨⟨1, rfl⟩, trivial⟩, trivial⟩) (fun _ _ _ h => h) ?_
                      refine VB.va (i := 12) (listed' := LB 20 8191) rfl (op_ari64 rfl rfl rfl (ltn rfl)) rfl (by kernel_rfl) (by kernel_rfl) (by kernel_rfl) (by kernel_rfl) (by decide) (PartP.on ⟨trivial, trivial, trivial⟩ ⟨trivial, ⟨⟨1, rfl⟩, trivial⟩, trivial⟩) (fun _ _ _ h => h) ?_
                      refine VB.va (i := 13) (listed' := LB 20 16383) rfl (op_sliceS ((wrap64 ((i8429.tmod 64) + (mn (wrap64 (64 - (i8429.tmod 64))) (s8430.size : Int)))).toNat) t8464.size Try.underlying9 rfl ⟨⟨_, _, rfl, c8472, rfl⟩, rfl, by omega, by omega⟩ rfl (ltn rfl)) rfl (by kernel_rfl) (by kernel_rfl) (by kernel_rfl) (by kernel_rfl) (by decide) (PartP.on ⟨trivial, trivial, trivial⟩ ⟨trivial, ⟨⟨1, rfl⟩, trivial⟩, trivial⟩) (fun _ _ _ h => h) ?_
                      refine VB.va (i := 14) (listed' := LB 20 32767) rfl (op_adds rfl rfl rfl c8474 (ltn rfl)) rfl (by kernel_rfl) (by kernel_rfl) (by kernel_rfl) (by kernel_rfl) (by decide) (PartP.on ⟨trivial, trivial, trivial⟩ ⟨trivial, ⟨⟨1, rfl⟩, trivial⟩, trivial⟩) (fun _ _ _ h => h) ?_
                      refine VB.oneC (i := 15) (listed' := LB 20 65535) (by kernel_rfl) rfl (o_call0 FO38 (disk_Put.ok k l8433 l8436 (wrap64 (t8327 + (IntKind.i64.wrap (i8429.tdiv 64)))) (((t8464.extract 0 ((i8429.tmod 64).toNat)) ++ (s8430.extract 0 ((mn (wrap64 (64 - (i8429.tmod 64))) (s8430.size : Int)).toNat))) ++ (t8464.extract ((wrap64 ((i8429.tmod 64) + (mn (wrap64 (64 - (i8429.tmod 64))) (s8430.size : Int)))).toNat) t8464.size)) v8432 v8435 r8475 r8476 t8477 hA8478) rfl rfl (ltn rfl) (All_of (.cons (List.mem_of_getElem? (i := 0) rfl) (.cons (List.mem_of_getElem? (i := 1) rfl) .nil)))) rfl (by kernel_rfl) ?_
                      rintro _ _ _ ⟨v8480, v8482, rfl, rfl, rfl⟩
                      refine ⟨(PartP.on ⟨trivial, trivial, trivial⟩ ⟨trivial, ⟨⟨1, rfl⟩, trivial⟩, trivial⟩), ?_⟩
                      refine VB.more ⟨0, [], [.row v8480 1 (r8475.map enc_str), .row v8482 2 (r8476.map enc55)], [], []⟩ ⟨trivial, trivial, trivial⟩ ?_
                      refine VB.va (i := 16) (listed' := LB 20 131071) rfl (op_move rfl (ltn rfl)) rfl (by kernel_rfl) (by kernel_rfl) (by kernel_rfl) (by kernel_rfl) (by decide) (PartP.on ⟨⟨⟨0, rfl⟩, ⟨1, rfl⟩, trivial⟩, trivial, trivial⟩ ⟨trivial, ⟨⟨1, rfl⟩, trivial⟩, trivial⟩) (fun _ _ _ h => h) ?_
                      refine VB.va (i := 17) (listed' := LB 20 262143) rfl (op_extract rfl rfl (ltn rfl)) rfl (by kernel_rfl) (by kernel_rfl) (by kernel_rfl) (by kernel_rfl) (by decide) (PartP.on ⟨⟨⟨0, rfl⟩, ⟨1, rfl⟩, trivial⟩, trivial, trivial⟩ ⟨trivial, ⟨⟨1, rfl⟩, trivial⟩, trivial⟩) (fun _ _ _ h => h) ?_
                      refine VB.va (i := 18) (listed' := LB 20 524287) rfl (op_extract rfl rfl (ltn rfl)) rfl (by kernel_rfl) (by kernel_rfl) (by kernel_rfl) (by kernel_rfl) (by decide) (PartP.on ⟨⟨⟨0, rfl⟩, ⟨1, rfl⟩, trivial⟩, trivial, trivial⟩ ⟨trivial, ⟨⟨1, rfl⟩, trivial⟩, trivial⟩) (fun _ _ _ h => h) ?_
                      refine VB.one1 (i := 19) (listed' := LB 20 1048575) (by kernel_rfl) rfl (o_store 1 2 rfl rfl rfl TI25 (.agg (.f 0 rfl (.f 1 rfl .nil))) rfl (len rfl)) rfl (by kernel_rfl) (PartP.off (by kernel_rfl) ⟨⟨⟨0, rfl⟩, ⟨1, rfl⟩, trivial⟩, trivial, trivial⟩) ?_
                      refine VB.done (by kernel_rfl) ?_
                      exact VN.meet2 v8480 v8482 [0, 1] [] trivial ⟨rfl, ⟨rfl, rfl, rfl, rfl, rfl, rfl, rfl, rfl, rfl, rfl, rfl, rfl, rfl, rfl, rfl, rfl, rfl, rfl, rfl, rfl, rfl, rfl, rfl, rfl, rfl, rfl, rfl, rfl, rfl, rfl, rfl, rfl, rfl, rfl, rfl, rfl, rfl, rfl, rfl, rfl, rfl, rfl, rfl, rfl, rfl, rfl, trivial⟩, ⟨⟨0, rfl⟩, ⟨1, rfl⟩, ⟨2, rfl⟩, ⟨3, rfl⟩, trivial⟩, rfl, by decide, rfl, by decide⟩
                    intro v8480 v8482 _
                    refine VC.region ?_
                    refine VL.va (op_move rfl (ltn rfl)) rfl ?_
                    refine VL.va (op_move rfl (ltn rfl)) rfl ?_
                    refine VL.va (op_sliceS ((mn (wrap64 (64 - (i8429.tmod 64))) (s8430.size : Int)).toNat) s8430.size Try.underlying9 rfl ⟨⟨_, _, rfl, c8469, rfl⟩, rfl, by omega, by omega⟩ rfl (ltn rfl)) rfl ?_
                    refine VL.va (op_move rfl (ltn rfl)) rfl ?_
                    refine VL.va (op_move rfl (ltn rfl)) rfl ?_
                    refine VL.va (op_ari64 rfl rfl rfl (ltn rfl)) rfl ?_
                    refine VL.va (op_assign rfl (ltn rfl)) rfl ?_
                    refine VL.va (op_assign rfl (ltn rfl)) rfl ?_
                    refine VL.done ?_
                    refine VN.block ?_
                    refine VN.again [0, 1] [] (ihl1 (wrap64 (i8429 + (mn (wrap64 (64 - (i8429.tmod 64))) (s8430.size : Int)))) (s8430.extract ((mn (wrap64 (64 - (i8429.tmod 64))) (s8430.size : Int)).toNat) s8430.size) v8480 r8475 v8482 r8476 h) ⟨rfl, ⟨rfl, rfl, rfl, rfl, rfl, trivial⟩, ⟨⟨0, rfl⟩, ⟨1, rfl⟩, trivial⟩, rfl, by decide, rfl, by decide⟩
                  · rw [if_neg c8474] at h; cases h
                · rw [if_neg c8473] at h; cases h
              · rw [if_neg c8472] at h; cases h
            · rw [if_neg c8471] at h; cases h
          · rw [if_neg c8470] at h; cases h
        · rw [if_neg c8469] at h; cases h
      · rw [if_neg c8468] at h; cases h
    · rw [if_neg c8467] at h; cases h

end Go.Proofs.Ytipeglbeongfmaa.PJournalUnused
