/- Written by a program of this repo: what the program's functions do, each as a Lean function, shown of the loaded code; or a statement's row over that; no condition of its own. -/
import Derived.Test.YtipeglbeongfmaaPJournalUnusedx12
namespace Go.Proofs.Ytipeglbeongfmaa.PJournalUnused
open Go Go.RowKit Go.Proofs.YtipeglbeongfmaaV
set_option linter.unusedVariables false
set_option linter.unusedSimpArgs false

set_option maxHeartbeats 4000000 in
set_option maxRecDepth 100000 in
theorem tarrylaw05_JournalUnused.ok (k : Nat) (l0_0 : List ByteArray) (l0_1 : List S55) (a0_2 : Int) (a0_3 : Int) (a0_4 : Int) (l0_5 : List ByteArray) (l0_6 : List ByteArray) (a1 : Int) (a2 : Int) (a3 : ByteArray) (v0_0 : Value) (v0_1 : Value) (v0_5 : Value) (v0_6 : Value) (r1 : Bool) (h : tarrylaw05_JournalUnused.f k l0_0 l0_1 a0_2 a0_3 a0_4 l0_5 l0_6 a1 a2 a3 = some r1) :
    VCalls Try.prog 4 [.agg #[v0_0, v0_1, .int .i64 a0_2, .int .i64 a0_3, .int .i64 a0_4, v0_5, v0_6], .int .i64 a1, .int .u8 a2, .string a3] [.row v0_0 1 (l0_0.map enc_str), .row v0_1 2 (l0_1.map enc55), .row v0_5 1 (l0_5.map enc_str), .row v0_6 1 (l0_6.map enc_str)] (fun v G own => v = .bool r1 ∧ G = [] ∧ own = []) := by
  refine VCalls.intro Try.func4 rfl (len rfl) fun E hC hW hD hU => ?_
  unfold tarrylaw05_JournalUnused.f at h
  refine VC.seq ?_
  refine VC.region ?_
  refine VL.sG (o_box rfl (.agg (.f 0 rfl (.f 1 rfl (.c rfl (.c rfl (.c rfl (.f 2 rfl (.f 3 rfl .nil)))))))) (ltn rfl)) rfl ?_
  intro g5
  refine VL.va (op_assign rfl (ltn rfl)) rfl ?_
  refine VL.done ?_
  refine VN.then ?_
  replace h := Option.bind_eq_some_iff.1 h
  obtain ⟨⟨r453, r454, t455, t456, t457, r458, r459⟩, hA460, h⟩ := h
  dsimp only at h
  by_cases c469 : 0 ≤ mn (a3.size : Int) 100
  · rw [if_pos c469] at h
    by_cases c470 : (mn (a3.size : Int) 100) ≤ (a3.size : Int)
    · rw [if_pos c470] at h
      refine VC.join4 (fun (v462 : Value) (v464 : Value) (v466 : Value) (v468 : Value) => ⟨199, [(1, .int .i64 a1), (2, .int .u8 a2), (3, .string (a3.extract 0 ((mn (a3.size : Int) 100).toNat))), (4, .pointer (some ⟨g5, 0, none⟩)), (8, .bool false)], [], [(g5, 27, [v462, v464, .int .i64 t455, .int .i64 t456, .int .i64 t457, v466, v468])], [(v462, 9, 1, r453.map enc_str), (v464, 56, 2, r454.map enc55), (v466, 9, 1, r458.map enc_str), (v468, 9, 1, r459.map enc_str)]⟩) (fun (v462 : Value) (v464 : Value) (v466 : Value) (v468 : Value) => True) ?_ ?_
      · refine VC.drawB ⟨0, [], [], [], []⟩ [7] ⟨0, [], [], [(g5, 27, [v0_0, v0_1, .int .i64 a0_2, .int .i64 a0_3, .int .i64 a0_4, v0_5, v0_6])], []⟩ (by kernel_rfl) rfl (by kernel_rfl) (n := 9) (listed := LB 9 0) ?_
        refine VB.vb (i := 0) (listed' := LB 9 1) rfl (op_load 0 7 rfl rfl TI27 rfl (fun h => absurd h (by decide)) (ltn rfl)) rfl (by kernel_rfl) (by kernel_rfl) (by kernel_rfl) (by kernel_rfl) (by kernel_rfl) (by kernel_rfl) (PartP.on ⟨trivial, trivial, trivial⟩ ⟨trivial, ⟨⟨0, rfl⟩, trivial⟩, trivial⟩) (fun _ _ _ h => h) ?_
        refine VB.va (i := 2) (listed' := LB 9 5) rfl (op_move rfl (ltn rfl)) rfl (by kernel_rfl) (by kernel_rfl) (by kernel_rfl) (by kernel_rfl) (by decide) (PartP.on ⟨trivial, trivial, trivial⟩ ⟨trivial, ⟨⟨0, rfl⟩, trivial⟩, trivial⟩) (fun _ _ _ h => h) ?_
        refine VB.va (i := 3) (listed' := LB 9 13) rfl (op_move rfl (ltn rfl)) rfl (by kernel_rfl) (by kernel_rfl) (by kernel_rfl) (by kernel_rfl) (by decide) (PartP.on ⟨trivial, trivial, trivial⟩ ⟨trivial, ⟨⟨0, rfl⟩, trivial⟩, trivial⟩) (fun _ _ _ h => h) ?_
        refine VB.va (i := 4) (listed' := LB 9 29) rfl (op_lens Try.underlying9 rfl (ltn rfl)) rfl (by kernel_rfl) (by kernel_rfl) (by kernel_rfl) (by kernel_rfl) (by decide) (PartP.on ⟨trivial, trivial, trivial⟩ ⟨trivial, ⟨⟨0, rfl⟩, trivial⟩, trivial⟩) (fun _ _ _ h => h) ?_
        refine VB.va (i := 5) (listed' := LB 9 61) rfl (op_min rfl rfl (ltn rfl)) rfl (by kernel_rfl) (by kernel_rfl) (by kernel_rfl) (by kernel_rfl) (by decide) (PartP.on ⟨trivial, trivial, trivial⟩ ⟨trivial, ⟨⟨0, rfl⟩, trivial⟩, trivial⟩) (fun _ _ _ h => h) ?_
        refine VB.va (i := 6) (listed' := LB 9 125) rfl (op_sliceS 0 ((mn (a3.size : Int) 100).toNat) Try.underlying9 rfl ⟨rfl, ⟨_, _, rfl, c469, rfl⟩, by omega, by omega⟩ rfl (ltn rfl)) rfl (by kernel_rfl) (by kernel_rfl) (by kernel_rfl) (by kernel_rfl) (by decide) (PartP.on ⟨trivial, trivial, trivial⟩ ⟨trivial, ⟨⟨0, rfl⟩, trivial⟩, trivial⟩) (fun _ _ _ h => h) ?_
        refine VB.oneC (i := 1) (listed' := LB 9 127) (by kernel_rfl) rfl (o_call0 FO8 (tarrylaw05_few.ok k l0_0 l0_1 a0_2 a0_3 a0_4 l0_5 l0_6 v0_0 v0_1 v0_5 v0_6 r453 r454 t455 t456 t457 r458 r459 hA460) rfl rfl (ltn rfl) (All_of (.cons (List.mem_of_getElem? (i := 0) rfl) (.cons (List.mem_of_getElem? (i := 1) rfl) (.cons (List.mem_of_getElem? (i := 2) rfl) (.cons (List.mem_of_getElem? (i := 3) rfl) .nil)))))) rfl (by kernel_rfl) ?_
        rintro _ _ _ ⟨v462, v464, v466, v468, rfl, rfl, rfl⟩
        refine ⟨(PartP.on ⟨trivial, trivial, trivial⟩ ⟨trivial, ⟨⟨0, rfl⟩, trivial⟩, trivial⟩), ?_⟩
        refine VB.one1 (i := 7) (listed' := LB 9 255) (by kernel_rfl) rfl (o_store 0 7 rfl rfl rfl TI27 (.agg (.r 0 rfl (.r 1 rfl (.c rfl (.c rfl (.c rfl (.r 2 rfl (.r 3 rfl .nil)))))))) rfl (len rfl)) rfl (by kernel_rfl) (PartP.off (by kernel_rfl) ⟨trivial, trivial, trivial⟩) ?_
        refine VB.va (i := 8) (listed' := LB 9 511) rfl (op_assign rfl (ltn rfl)) rfl (by kernel_rfl) (by kernel_rfl) (by kernel_rfl) (by kernel_rfl) (by decide) (PartP.off (by kernel_rfl) ⟨trivial, trivial, trivial⟩) (fun _ _ _ h => h) ?_
        refine VB.done (by kernel_rfl) ?_
        exact VN.meet4 v462 v464 v466 v468 [0] [0, 1, 2, 3] trivial ⟨rfl, ⟨rfl, rfl, rfl, rfl, rfl, trivial⟩, trivial, rfl, by decide, rfl, by decide⟩
      intro v462 v464 v466 v468 _
      refine VC.seq ?_
      refine VC.join1 (fun (q10688 : Bool) => ⟨199, [(1, .int .i64 a1), (2, .int .u8 a2), (3, .string (a3.extract 0 ((mn (a3.size : Int) 100).toNat))), (4, .pointer (some ⟨g5, 0, none⟩)), (8, .bool false), (35, .bool q10688)], [], [(g5, 27, [v462, v464, .int .i64 t455, .int .i64 t456, .int .i64 t457, v466, v468])], [(v462, 9, 1, r453.map enc_str), (v464, 56, 2, r454.map enc55), (v466, 9, 1, r458.map enc_str), (v468, 9, 1, r459.map enc_str)]⟩) (fun (q10688 : Bool) => tarrylaw05_JournalUnused.j13 k a1 a2 a3 r453 r454 r459 t455 t456 t457 q10688 = some r1) ?_ ?_
      · refine VC.region ?_
        refine VL.va (op_load 0 7 rfl rfl TI27 rfl (fun h => absurd h (by decide)) (ltn rfl)) rfl ?_
        replace h := Option.bind_eq_some_iff.1 h
        obtain ⟨t10685, hA10686, h⟩ := h
        refine VL.sC (o_call_b0 FO12 (journal_Right.ok k r453 r454 t455 t456 t457 r458 r459 v462 v464 v466 v468 t10685 hA10686) rfl rfl (ltn rfl) (All_of (.cons (.inr (.inl ⟨_, List.mem_of_getElem? (i := 0) rfl, rfl⟩)) (.cons (.inr (.inl ⟨_, List.mem_of_getElem? (i := 1) rfl, rfl⟩)) (.cons (.inr (.inl ⟨_, List.mem_of_getElem? (i := 2) rfl, rfl⟩)) (.cons (.inr (.inl ⟨_, List.mem_of_getElem? (i := 3) rfl, rfl⟩)) .nil))))) (by rintro _ _ _ ⟨rfl, rfl, rfl⟩; rfl)) rfl ?_
        rintro _ _ _ ⟨rfl, rfl, rfl⟩
        by_cases c10687 : t10685 = true
        · rw [if_pos c10687] at h
          obtain rfl := c10687
          refine VL.va (op_not rfl rfl (ltn rfl)) rfl ?_
          refine VL.done ?_
          refine VN.meet1 false [0] [0, 1, 2, 3] h ⟨rfl, ⟨rfl, rfl, rfl, rfl, rfl, rfl, trivial⟩, trivial, rfl, by decide, rfl, by decide⟩
        · rw [if_neg c10687] at h
          obtain rfl := Bool.eq_false_iff.2 c10687
          refine VL.va (op_not rfl rfl (ltn rfl)) rfl ?_
          refine VL.done ?_
          refine VN.meet1 true [0] [0, 1, 2, 3] h ⟨rfl, ⟨rfl, rfl, rfl, rfl, rfl, rfl, trivial⟩, trivial, rfl, by decide, rfl, by decide⟩
      clear h
      intro q10688 h
      unfold tarrylaw05_JournalUnused.j13 at h
      by_cases c10689 : q10688 = true
      · rw [if_pos c10689] at h
        obtain rfl := c10689
        refine VC.cond_t rfl ?_
        refine VC.seq ?_
        refine VC.region ?_
        replace h := Option.bind_eq_some_iff.1 h
        obtain ⟨t10690, hA10691, h⟩ := h
        refine VL.sC (o_call0 FO14 (tarrylaw05_alive.ok k t10690 hA10691) rfl rfl (ltn rfl) (All_of .nil)) rfl ?_
        rintro _ _ _ ⟨rfl, rfl, rfl⟩
        refine VL.va (op_assign rfl (ltn rfl)) rfl ?_
        refine VL.done ?_
        refine VN.then ?_
        refine VC.ret ?_
        refine VR.then ?_
        obtain rfl := Option.some.inj h
        exact VR.fn (rs := [.tmp 8]) [] [] [] rfl (.tmp rfl .nil) ⟨rfl, rfl, rfl⟩ trivial rfl (by decide)
      · rw [if_neg c10689] at h
        obtain rfl := Bool.eq_false_iff.2 c10689
        refine VC.cond_f rfl ?_
        refine VC.skip ?_
        refine VN.then ?_
        refine VC.seq ?_
        refine VC.region ?_
        refine VL.va (op_fieldAddr FI27_0 rfl (add_at _ _ _) (ltn rfl)) rfl ?_
        refine VL.va (op_fieldAddr FI25_0 rfl (add_at _ _ _) (ltn rfl)) rfl ?_
        refine VL.va (op_load 0 1 rfl rfl TI22 rfl (by decide) (ltn rfl)) rfl ?_
        refine VL.va (op_len_own (m := r453.length) 0 lenm Try.underlying22 rfl rfl (ltn rfl)) rfl ?_
        refine VL.va (op_ari64 rfl rfl rfl (ltn rfl)) rfl ?_
        refine VL.va (op_quo rfl rfl (by decide) rfl (ltn rfl)) rfl ?_
        refine VL.va (op_assign rfl (ltn rfl)) rfl ?_
        refine VL.done ?_
        refine VN.then ?_
        refine VC.seq ?_
        refine VC.region ?_
        refine VL.va (op_fieldAddr FI27_3 rfl (add_at _ _ _) (ltn rfl)) rfl ?_
        refine VL.va (op_load 0 1 rfl rfl TI3 rfl (by decide) (ltn rfl)) rfl ?_
        refine VL.va (op_ari64 rfl rfl rfl (ltn rfl)) rfl ?_
        refine VL.va (op_quo rfl rfl (by decide) rfl (ltn rfl)) rfl ?_
        refine VL.va (op_assign rfl (ltn rfl)) rfl ?_
        refine VL.done ?_
        refine VN.then ?_
        refine VC.seq ?_
        refine VC.region ?_
        refine VL.va (op_move rfl (ltn rfl)) rfl ?_
        refine VL.va (op_ari64 rfl rfl rfl (ltn rfl)) rfl ?_
        refine VL.va (op_move rfl (ltn rfl)) rfl ?_
        refine VL.va (op_ari64 rfl rfl rfl (ltn rfl)) rfl ?_
        refine VL.va (op_max rfl rfl (ltn rfl)) rfl ?_
        refine VL.va (op_assign rfl (ltn rfl)) rfl ?_
        refine VL.done ?_
        refine VN.then ?_
        refine VC.seq ?_
        refine VC.region ?_
        refine VL.va (op_move rfl (ltn rfl)) rfl ?_
        refine VL.va (op_move rfl (ltn rfl)) rfl ?_
        by_cases c10692 : (mx (wrap64 ((wrap64 (2 * (IntKind.i64.wrap ((wrap64 ((r453.length : Int) - 2)).tdiv 2)))) - (IntKind.i64.wrap ((wrap64 (t457 + 63)).tdiv 64)))) 1) ≠ 0
        · rw [if_pos c10692] at h
          refine VL.va (op_rem rfl rfl c10692 rfl (ltn rfl)) rfl ?_
          refine VL.va (op_move rfl (ltn rfl)) rfl ?_
          refine VL.va (op_ari64 rfl rfl rfl (ltn rfl)) rfl ?_
          refine VL.va (op_move rfl (ltn rfl)) rfl ?_
          refine VL.va (op_rem rfl rfl c10692 rfl (ltn rfl)) rfl ?_
          refine VL.va (op_assign rfl (ltn rfl)) rfl ?_
          refine VL.done ?_
          refine VN.then ?_
          refine VC.seq ?_
          refine VC.region ?_
          refine VL.va (op_fieldAddr FI27_2 rfl (add_at _ _ _) (ltn rfl)) rfl ?_
          refine VL.va (op_load 0 1 rfl rfl TI3 rfl (by decide) (ltn rfl)) rfl ?_
          refine VL.va (op_ari64 rfl rfl rfl (ltn rfl)) rfl ?_
          refine VL.va (op_move rfl (ltn rfl)) rfl ?_
          refine VL.va (op_ari64 rfl rfl rfl (ltn rfl)) rfl ?_
          refine VL.va (op_ari64 rfl rfl rfl (ltn rfl)) rfl ?_
          refine VL.va (op_move rfl (ltn rfl)) rfl ?_
          refine VL.va (op_ari64 rfl rfl rfl (ltn rfl)) rfl ?_
          refine VL.va (op_assign rfl (ltn rfl)) rfl ?_
          refine VL.done ?_
          refine VN.then ?_
          refine VC.seq ?_
          refine VC.seq ?_
          refine VC.region ?_
          refine VL.va (op_move rfl (ltn rfl)) rfl ?_
          refine VL.letter (decide ((IntKind.i64.wrap ((wrap64 ((r453.length : Int) - 2)).tdiv 2)) < 3)) fun b10703 hb10703 => ?_
          refine VL.va (op_cmp rfl rfl (congrArg some hb10703) (ltn rfl)) rfl ?_
          refine VL.va (op_move rfl (ltn rfl)) rfl ?_
          by_cases c10704 : (IntKind.i64.wrap ((wrap64 ((r453.length : Int) - 2)).tdiv 2)) < 3
          · rw [if_pos c10704] at h
            obtain rfl : b10703 = true := hb10703.symm.trans (decide_eq_true c10704)
            refine VL.un rfl rfl (ltn rfl) ?_
            refine VL.un rfl rfl (ltn rfl) ?_
            refine VL.un rfl rfl (ltn rfl) ?_
            refine VL.va (op_pick rfl rfl (ltn rfl)) rfl ?_
            refine VL.done ?_
            refine VN.then ?_
            refine VC.cond_t rfl ?_
            refine VC.seq ?_
            refine VC.region ?_
            refine VL.va (op_assign rfl (ltn rfl)) rfl ?_
            refine VL.done ?_
            refine VN.then ?_
            refine VC.ret ?_
            refine VR.then ?_
            cases h
          · rw [if_neg c10704] at h
            obtain rfl : b10703 = false := hb10703.symm.trans (decide_eq_false c10704)
            refine VL.va (op_move rfl (ltn rfl)) rfl ?_
            refine VL.va (op_move rfl (ltn rfl)) rfl ?_
            refine VL.letter (decide ((IntKind.i64.wrap ((wrap64 (t457 + 63)).tdiv 64)) > (IntKind.i64.wrap ((wrap64 ((r453.length : Int) - 2)).tdiv 2)))) fun b10705 hb10705 => ?_
            refine VL.va (op_cmp rfl rfl (congrArg some hb10705) (ltn rfl)) rfl ?_
            refine VL.va (op_pick rfl rfl (ltn rfl)) rfl ?_
            refine VL.done ?_
            refine VN.then ?_
            by_cases c10706 : (IntKind.i64.wrap ((wrap64 (t457 + 63)).tdiv 64)) > (IntKind.i64.wrap ((wrap64 ((r453.length : Int) - 2)).tdiv 2))
            · rw [if_pos c10706] at h
              obtain rfl : b10705 = true := hb10705.symm.trans (decide_eq_true c10706)
              refine VC.cond_t rfl ?_
              refine VC.seq ?_
              refine VC.region ?_
              refine VL.va (op_assign rfl (ltn rfl)) rfl ?_
              refine VL.done ?_
              refine VN.then ?_
              refine VC.ret ?_
              refine VR.then ?_
              cases h
            · rw [if_neg c10706] at h
              obtain rfl : b10705 = false := hb10705.symm.trans (decide_eq_false c10706)
              refine VC.cond_f rfl ?_
              refine VC.skip ?_
              refine VN.then ?_
              refine VC.join1 (fun (i11902 : Int) => ⟨199, [(2, .int .u8 a2), (3, .string (a3.extract 0 ((mn (a3.size : Int) 100).toNat))), (4, .pointer (some ⟨g5, 0, none⟩)), (8, .bool false), (12, .int .i64 i11902)], [], [(g5, 27, [v462, v464, .int .i64 t455, .int .i64 t456, .int .i64 t457, v466, v468])], [(v462, 9, 1, r453.map enc_str), (v464, 56, 2, r454.map enc55), (v466, 9, 1, r458.map enc_str), (v468, 9, 1, r459.map enc_str)]⟩) (fun (i11902 : Int) => tarrylaw05_JournalUnused.j22 k a2 a3 r453 r454 r459 t455 t456 t457 i11902 = some r1) ?_ ?_
              · refine VC.seq ?_
                refine VC.region ?_
                refine VL.va (op_move rfl (ltn rfl)) rfl ?_
                refine VL.va (op_move rfl (ltn rfl)) rfl ?_
                refine VL.letter (decide (((wrap64 ((a1.tmod (mx (wrap64 ((wrap64 (2 * (IntKind.i64.wrap ((wrap64 ((r453.length : Int) - 2)).tdiv 2)))) - (IntKind.i64.wrap ((wrap64 (t457 + 63)).tdiv 64)))) 1)) + (mx (wrap64 ((wrap64 (2 * (IntKind.i64.wrap ((wrap64 ((r453.length : Int) - 2)).tdiv 2)))) - (IntKind.i64.wrap ((wrap64 (t457 + 63)).tdiv 64)))) 1))).tmod (mx (wrap64 ((wrap64 (2 * (IntKind.i64.wrap ((wrap64 ((r453.length : Int) - 2)).tdiv 2)))) - (IntKind.i64.wrap ((wrap64 (t457 + 63)).tdiv 64)))) 1)) ≥ (IntKind.i64.wrap ((wrap64 ((r453.length : Int) - 2)).tdiv 2)))) fun b11900 hb11900 => ?_
                refine VL.va (op_cmp rfl rfl (congrArg some hb11900) (ltn rfl)) rfl ?_
                refine VL.done ?_
                refine VN.then ?_
                by_cases c11901 : ((wrap64 ((a1.tmod (mx (wrap64 ((wrap64 (2 * (IntKind.i64.wrap ((wrap64 ((r453.length : Int) - 2)).tdiv 2)))) - (IntKind.i64.wrap ((wrap64 (t457 + 63)).tdiv 64)))) 1)) + (mx (wrap64 ((wrap64 (2 * (IntKind.i64.wrap ((wrap64 ((r453.length : Int) - 2)).tdiv 2)))) - (IntKind.i64.wrap ((wrap64 (t457 + 63)).tdiv 64)))) 1))).tmod (mx (wrap64 ((wrap64 (2 * (IntKind.i64.wrap ((wrap64 ((r453.length : Int) - 2)).tdiv 2)))) - (IntKind.i64.wrap ((wrap64 (t457 + 63)).tdiv 64)))) 1)) ≥ (IntKind.i64.wrap ((wrap64 ((r453.length : Int) - 2)).tdiv 2))
                · rw [if_pos c11901] at h
                  obtain rfl : b11900 = true := hb11900.symm.trans (decide_eq_true c11901)
                  refine VC.cond_t rfl ?_
                  refine VC.region ?_
                  refine VL.va (op_fieldAddr FI27_2 rfl (add_at _ _ _) (ltn rfl)) rfl ?_
                  refine VL.va (op_load 0 1 rfl rfl TI3 rfl (by decide) (ltn rfl)) rfl ?_
                  refine VL.va (op_move rfl (ltn rfl)) rfl ?_
                  refine VL.va (op_ari64 rfl rfl rfl (ltn rfl)) rfl ?_
                  refine VL.va (op_ari64 rfl rfl rfl (ltn rfl)) rfl ?_
                  refine VL.va (op_move rfl (ltn rfl)) rfl ?_
                  refine VL.va (op_ari64 rfl rfl rfl (ltn rfl)) rfl ?_
                  refine VL.va (op_move rfl (ltn rfl)) rfl ?_
                  refine VL.va (op_ari64 rfl rfl rfl (ltn rfl)) rfl ?_
                  refine VL.va (op_move rfl (ltn rfl)) rfl ?_
                  refine VL.va (op_ari64 rfl rfl rfl (ltn rfl)) rfl ?_
                  refine VL.va (op_assign rfl (ltn rfl)) rfl ?_
                  refine VL.done ?_
                  refine VN.meet1 (wrap64 ((wrap64 ((wrap64 ((wrap64 (2 + (wrap64 (t456 * (IntKind.i64.wrap ((wrap64 ((r453.length : Int) - 2)).tdiv 2)))))) + (IntKind.i64.wrap ((wrap64 (t457 + 63)).tdiv 64)))) + ((wrap64 ((a1.tmod (mx (wrap64 ((wrap64 (2 * (IntKind.i64.wrap ((wrap64 ((r453.length : Int) - 2)).tdiv 2)))) - (IntKind.i64.wrap ((wrap64 (t457 + 63)).tdiv 64)))) 1)) + (mx (wrap64 ((wrap64 (2 * (IntKind.i64.wrap ((wrap64 ((r453.length : Int) - 2)).tdiv 2)))) - (IntKind.i64.wrap ((wrap64 (t457 + 63)).tdiv 64)))) 1))).tmod (mx (wrap64 ((wrap64 (2 * (IntKind.i64.wrap ((wrap64 ((r453.length : Int) - 2)).tdiv 2)))) - (IntKind.i64.wrap ((wrap64 (t457 + 63)).tdiv 64)))) 1)))) - (IntKind.i64.wrap ((wrap64 ((r453.length : Int) - 2)).tdiv 2)))) [0] [0, 1, 2, 3] h ⟨rfl, ⟨rfl, rfl, rfl, rfl, rfl, trivial⟩, trivial, rfl, by decide, rfl, by decide⟩
                · rw [if_neg c11901] at h
                  obtain rfl : b11900 = false := hb11900.symm.trans (decide_eq_false c11901)
                  refine VC.cond_f rfl ?_
                  refine VC.skip ?_
                  refine VN.meet1 (wrap64 ((wrap64 (2 + (wrap64 ((wrap64 (1 - t456)) * (IntKind.i64.wrap ((wrap64 ((r453.length : Int) - 2)).tdiv 2)))))) + ((wrap64 ((a1.tmod (mx (wrap64 ((wrap64 (2 * (IntKind.i64.wrap ((wrap64 ((r453.length : Int) - 2)).tdiv 2)))) - (IntKind.i64.wrap ((wrap64 (t457 + 63)).tdiv 64)))) 1)) + (mx (wrap64 ((wrap64 (2 * (IntKind.i64.wrap ((wrap64 ((r453.length : Int) - 2)).tdiv 2)))) - (IntKind.i64.wrap ((wrap64 (t457 + 63)).tdiv 64)))) 1))).tmod (mx (wrap64 ((wrap64 (2 * (IntKind.i64.wrap ((wrap64 ((r453.length : Int) - 2)).tdiv 2)))) - (IntKind.i64.wrap ((wrap64 (t457 + 63)).tdiv 64)))) 1)))) [0] [0, 1, 2, 3] h ⟨rfl, ⟨rfl, rfl, rfl, rfl, rfl, trivial⟩, trivial, rfl, by decide, rfl, by decide⟩
              clear h
              intro i11902 h
              unfold tarrylaw05_JournalUnused.j22 at h
              refine VC.seq ?_
              refine VC.region ?_
              refine VL.va (op_fieldAddr FI27_0 rfl (add_at _ _ _) (ltn rfl)) rfl ?_
              refine VL.va (op_load 0 2 rfl rfl TI25 rfl (fun h => absurd h (by decide)) (ltn rfl)) rfl ?_
              refine VL.sG (o_alloc Z25 ZL25 (ltn rfl)) rfl ?_
              intro g11903
              refine VL.step1 (o_store 0 2 rfl rfl rfl TI25 (.agg (.r 0 rfl (.r 1 rfl .nil))) rfl (len rfl)) rfl ?_
              refine VL.done ?_
              refine VN.then ?_
              refine VC.seq ?_
              refine VC.region ?_
              refine VL.sG (o_buildSlice (vals := []) (cells := #[]) (es := List.map enc_str ([] : List ByteArray)) Try.underlying22 TI9 Z9 rfl (by decide) (by decide) (by kernel_rfl) (by kernel_rfl) rfl (flat_map enc_str_ok _) (ltn rfl)) rfl ?_
              intro v11905
              refine VL.va (op_fieldAddr FI25_0 rfl (add_at _ _ _) (ltn rfl)) rfl ?_
              refine VL.va (op_load 0 1 rfl rfl TI22 rfl (by decide) (ltn rfl)) rfl ?_
              by_cases c11906 : (([] : List ByteArray).length + r453.length) * 16 ≤ 140737488355328
              · rw [if_pos c11906] at h
                refine VL.sG (o_append 0 appm Try.underlying22 EI9 rfl rfl rfl (.inr ⟨1, _, rfl⟩) (bndm c11906) (ltn rfl)) rfl ?_
                intro v11907
                refine VL.va (op_fieldAddr FI25_0 rfl (add_at _ _ _) (ltn rfl)) rfl ?_
                refine VL.step1 (o_store 0 1 rfl rfl rfl TI22 (.r 0 rfl) rfl (len rfl)) rfl ?_
                refine VL.done ?_
                refine VN.then ?_
                refine VC.seq ?_
                refine VC.region ?_
                refine o_makeSliceI (k := .u8) Try.underlying41 EI5 (by kernel_rfl) rfl rfl (by decide) (ltn rfl) rfl fun g11909 => ?_
                refine VL.va (op_assign rfl (ltn rfl)) rfl ?_
                refine VL.done ?_
                refine VN.then ?_
                refine VC.join1 (fun (l12320 : List Int) => ⟨199, [(3, .string (a3.extract 0 ((mn (a3.size : Int) 100).toNat))), (4, .pointer (some ⟨g5, 0, none⟩)), (8, .bool false), (12, .int .i64 i11902), (13, .pointer (some ⟨g11903, 0, none⟩)), (14, .slice (some ⟨g11909, 0, none⟩) 64 64)], [], [(g11909, 5, ints .u8 (l12320 ++ [])), (g11903, 25, [v11907, v464]), (g5, 27, [v462, v464, .int .i64 t455, .int .i64 t456, .int .i64 t457, v466, v468])], [(v11907, 9, 1, (([] : List ByteArray) ++ r453).map enc_str), (v464, 56, 2, r454.map enc55), (v462, 9, 1, r453.map enc_str), (v466, 9, 1, r458.map enc_str), (v468, 9, 1, r459.map enc_str)]⟩) (fun (l12320 : List Int) => tarrylaw05_JournalUnused.j25 k a3 i11902 r453 r454 r459 t455 t456 t457 l12320 = some r1) ?_ ?_
                · refine VC.seq ?_
                  refine VC.region ?_
                  refine VL.va (op_move rfl (ltn rfl)) rfl ?_
                  refine VL.va (op_lenV Try.underlying41 rfl (ltn rfl)) rfl ?_
                  refine VL.va (op_move rfl (ltn rfl)) rfl ?_
                  refine VL.done ?_
                  refine VN.then ?_
                  refine VC.block ?_
                  refine VC.loop2 (fun (i12306 : Int) (l12307 : List Int) => ⟨199, [(2, .int .u8 a2), (3, .string (a3.extract 0 ((mn (a3.size : Int) 100).toNat))), (4, .pointer (some ⟨g5, 0, none⟩)), (8, .bool false), (12, .int .i64 i11902), (13, .pointer (some ⟨g11903, 0, none⟩)), (14, .slice (some ⟨g11909, 0, none⟩) 64 64), (97, .int .i64 (64 : Int)), (98, .int .i64 i12306)], [], [(g11909, 5, ints .u8 (l12307 ++ [])), (g11903, 25, [v11907, v464]), (g5, 27, [v462, v464, .int .i64 t455, .int .i64 t456, .int .i64 t457, v466, v468])], [(v11907, 9, 1, (([] : List ByteArray) ++ r453).map enc_str), (v464, 56, 2, r454.map enc55), (v462, 9, 1, r453.map enc_str), (v466, 9, 1, r458.map enc_str), (v468, 9, 1, r459.map enc_str)]⟩) (fun (ml26 : Nat) (i12306 : Int) (l12307 : List Int) => tarrylaw05_JournalUnused.l26 k a2 a3 i11902 r453 r454 r459 t455 t456 t457 ml26 i12306 l12307 = some r1) k 0 (List.replicate 64 (0 : Int)) [0, 1, 2] [0, 2, 1, 3, 4] h ⟨rfl, ⟨rfl, rfl, rfl, rfl, rfl, rfl, rfl, rfl, rfl, trivial⟩, trivial, rfl, by decide, rfl, by decide⟩ (by intros; simp [tarrylaw05_JournalUnused.l26]) ?_
                  clear h
                  intro ml26 ihl26 i12306 l12307 h
                  simp only [tarrylaw05_JournalUnused.l26] at h
                  refine VC.seq ?_
                  refine VC.region ?_
                  refine VL.letter (decide (i12306 < (64 : Int))) fun b12314 hb12314 => ?_
                  refine VL.va (op_cmp rfl rfl (congrArg some hb12314) (ltn rfl)) rfl ?_
                  refine VL.done ?_
                  refine VN.then ?_
                  refine VC.seq ?_
                  by_cases c12316 : i12306 < (64 : Int)
                  · rw [if_pos c12316] at h
                    obtain rfl : b12314 = true := hb12314.symm.trans (decide_eq_true c12316)
                    refine VC.cond_t rfl ?_
                    refine VC.skip ?_
                    refine VN.then ?_
                    refine VC.seq ?_
                    refine VC.block ?_
                    refine VC.seq ?_
                    refine VC.region ?_
                    refine VL.va (op_move rfl (ltn rfl)) rfl ?_
                    refine VL.va (op_assign rfl (ltn rfl)) rfl ?_
                    refine VL.done ?_
                    refine VN.then ?_
                    refine VC.region ?_
                    refine VL.va (op_move rfl (ltn rfl)) rfl ?_
                    refine VL.va (op_move rfl (ltn rfl)) rfl ?_
                    refine VL.va (op_move rfl (ltn rfl)) rfl ?_
                    by_cases c12317 : 0 ≤ i12306
                    · rw [if_pos c12317] at h
                      by_cases c12318 : i12306 < (64 : Int)
                      · rw [if_pos c12318] at h
                        refine VL.va (op_indexAddrB Try.underlying41 TI5 rfl rfl c12317 c12318 (ltn rfl)) rfl ?_
                        by_cases c12319 : i12306.toNat < l12307.length
                        · rw [if_pos c12319] at h
                          refine VL.step1 (o_storeB 0 rfl rfl rfl TI5 c12319) rfl ?_
                          refine VL.done ?_
                          refine VN.block ?_
                          refine VN.then ?_
                          refine VC.region ?_
                          refine VL.va (op_ari64 rfl rfl rfl (ltn rfl)) rfl ?_
                          refine VL.va (op_move rfl (ltn rfl)) rfl ?_
                          refine VL.done ?_
                          refine VN.again [0, 1, 2] [0, 1, 2, 3, 4] (ihl26 (wrap64 (i12306 + 1)) (l12307.set i12306.toNat a2) h) ⟨rfl, ⟨rfl, rfl, rfl, rfl, rfl, rfl, rfl, rfl, rfl, trivial⟩, trivial, rfl, by decide, rfl, by decide⟩
                        · rw [if_neg c12319] at h; cases h
                      · rw [if_neg c12318] at h; cases h
                    · rw [if_neg c12317] at h; cases h
                  · rw [if_neg c12316] at h
                    obtain rfl : b12314 = false := hb12314.symm.trans (decide_eq_false c12316)
                    refine VC.cond_f rfl ?_
                    refine VC.exit ?_
                    refine VX.then ?_
                    refine VX.then ?_
                    refine VX.hit ?_
                    refine VN.meet1 l12307 [0, 1, 2] [0, 1, 2, 3, 4] h ⟨rfl, ⟨rfl, rfl, rfl, rfl, rfl, rfl, trivial⟩, trivial, rfl, by decide, rfl, by decide⟩
                clear h
                intro l12320 h
                unfold tarrylaw05_JournalUnused.j25 at h
                refine VC.seq ?_
                refine VC.region ?_
                refine VL.va (op_fieldAddr FI25_0 rfl (add_at _ _ _) (ltn rfl)) rfl ?_
                refine VL.va (op_load 1 1 rfl rfl TI22 rfl (by decide) (ltn rfl)) rfl ?_
                refine VL.va (op_move rfl (ltn rfl)) rfl ?_
                refine VL.va (op_move rfl (ltn rfl)) rfl ?_
                by_cases c12321 : l12320.length = 64
                · rw [if_pos c12321] at h
                  refine VL.va (op_bytesStrB 0 Try.underlying41 Try.underlying9 Try.underlying5 rfl rfl c12321 (ltn rfl)) rfl ?_
                  by_cases c12322 : 0 ≤ i11902
                  · rw [if_pos c12322] at h
                    replace h := Option.bind_eq_some_iff.1 h
                    obtain ⟨x12323, hx12323, h⟩ := h
                    refine VL.openR (m := (([] : List ByteArray) ++ r453).length) 0 lenm rfl (pos_get hx12323) ?_
                    rintro g12324 n12325 rfl
                    refine VL.va (op_indexAddr Try.underlying22 TI9 rfl rfl c12322 (lt_get c12322 hx12323) (add_zero_at _ _) (ltn rfl)) rfl ?_
                    refine VL.step1 (o_store_own (sz := 1) (o := 0) (es3 := List.map enc_str ((([] : List ByteArray) ++ r453).set i11902.toNat (strOfNums l12320))) 0 i11902.toNat 1 lenm (setm rfl) rfl rfl rfl (get_map hx12323) TI9 (.c rfl) rfl (len rfl)) rfl ?_
                    refine VL.done ?_
                    refine VN.then ?_
                    refine VC.seq ?_
                    refine VC.region ?_
                    refine VL.va (op_load 1 2 rfl rfl TI25 rfl (fun h => absurd h (by decide)) (ltn rfl)) rfl ?_
                    refine VL.freezeRow' 0 rfl ?_
                    refine VL.freezeRow' 0 rfl ?_
                    replace h := Option.bind_eq_some_iff.1 h
                    obtain ⟨⟨r12328, r12329, t12330, t12331, t12332, r12333, r12334, t12335⟩, hA12336, h⟩ := h
                    dsimp only at h
                    refine VL.sC (o_call0 FO9 (journal_Open.ok k ((([] : List ByteArray) ++ r453).set i11902.toNat (strOfNums l12320)) r454 (.slice (some ⟨g12324, 0, none⟩) (([] : List ByteArray) ++ r453).length n12325) v464 r12328 r12329 t12330 t12331 t12332 r12333 r12334 t12335 hA12336) rfl rfl (ltn rfl) (All_of (.cons (List.mem_of_getElem? (i := 1) rfl) (.cons (List.mem_of_getElem? (i := 0) rfl) .nil)))) rfl ?_
                    rintro _ _ _ ⟨v12338, v12340, v12342, v12344, rfl, rfl, rfl⟩
                    refine VL.va (op_move rfl (ltn rfl)) rfl ?_
                    refine VL.va (op_extract rfl rfl (ltn rfl)) rfl ?_
                    refine VL.va (op_extract rfl rfl (ltn rfl)) rfl ?_
                    refine VL.sG (o_alloc Z27 ZL27 (ltn rfl)) rfl ?_
                    intro g12345
                    refine VL.step1 (o_store 0 7 rfl rfl rfl TI27 (.agg (.f 0 rfl (.f 1 rfl (.c rfl (.c rfl (.c rfl (.r 0 rfl (.r 1 rfl .nil)))))))) rfl (len rfl)) rfl ?_
                    refine VL.va (op_assign rfl (ltn rfl)) rfl ?_
                    refine VL.done ?_
                    refine VN.then ?_
                    refine VC.seq ?_
                    refine VC.seq ?_
                    refine VC.region ?_
                    refine VL.va (op_move rfl (ltn rfl)) rfl ?_
                    refine VL.letter ((t12335 != 0)) fun b12388 hb12388 => ?_
                    refine VL.va (op_cmp rfl rfl (congrArg some hb12388) (ltn rfl)) rfl ?_
                    refine VL.va (op_move rfl (ltn rfl)) rfl ?_
                    by_cases c12389 : t12335 = 0
                    · rw [if_pos c12389] at h
                      obtain rfl : b12388 = false := hb12388.symm.trans (bne_eq_false_iff_eq.2 c12389)
                      refine VL.va (op_fieldAddr FI27_1 rfl (add_at _ _ _) (ltn rfl)) rfl ?_
                      refine VL.va (op_load 0 1 rfl rfl TI3 rfl (by decide) (ltn rfl)) rfl ?_
                      refine VL.va (op_fieldAddr FI27_1 rfl (add_at _ _ _) (ltn rfl)) rfl ?_
                      refine VL.va (op_load 3 1 rfl rfl TI3 rfl (by decide) (ltn rfl)) rfl ?_
                      refine VL.letter ((t12330 != t455)) fun b12390 hb12390 => ?_
                      refine VL.va (op_cmp rfl rfl (congrArg some hb12390) (ltn rfl)) rfl ?_
                      refine VL.va (op_pick rfl rfl (ltn rfl)) rfl ?_
                      refine VL.va (op_move rfl (ltn rfl)) rfl ?_
                      by_cases c12391 : t12330 = t455
                      · rw [if_pos c12391] at h
                        obtain rfl : b12390 = false := hb12390.symm.trans (bne_eq_false_iff_eq.2 c12391)
                        refine VL.va (op_fieldAddr FI27_2 rfl (add_at _ _ _) (ltn rfl)) rfl ?_
                        refine VL.va (op_load 0 1 rfl rfl TI3 rfl (by decide) (ltn rfl)) rfl ?_
                        refine VL.va (op_fieldAddr FI27_2 rfl (add_at _ _ _) (ltn rfl)) rfl ?_
                        refine VL.va (op_load 3 1 rfl rfl TI3 rfl (by decide) (ltn rfl)) rfl ?_
                        refine VL.letter ((t12331 != t456)) fun b12392 hb12392 => ?_
                        refine VL.va (op_cmp rfl rfl (congrArg some hb12392) (ltn rfl)) rfl ?_
                        refine VL.va (op_pick rfl rfl (ltn rfl)) rfl ?_
                        refine VL.va (op_move rfl (ltn rfl)) rfl ?_
                        by_cases c12393 : t12331 = t456
                        · rw [if_pos c12393] at h
                          obtain rfl : b12392 = false := hb12392.symm.trans (bne_eq_false_iff_eq.2 c12393)
                          refine VL.va (op_fieldAddr FI27_3 rfl (add_at _ _ _) (ltn rfl)) rfl ?_
                          refine VL.va (op_load 0 1 rfl rfl TI3 rfl (by decide) (ltn rfl)) rfl ?_
                          refine VL.va (op_fieldAddr FI27_3 rfl (add_at _ _ _) (ltn rfl)) rfl ?_
                          refine VL.va (op_load 3 1 rfl rfl TI3 rfl (by decide) (ltn rfl)) rfl ?_
                          refine VL.letter ((t12332 != t457)) fun b12394 hb12394 => ?_
                          refine VL.va (op_cmp rfl rfl (congrArg some hb12394) (ltn rfl)) rfl ?_
                          refine VL.va (op_pick rfl rfl (ltn rfl)) rfl ?_
                          refine VL.va (op_move rfl (ltn rfl)) rfl ?_
                          by_cases c12395 : t12332 = t457
                          · rw [if_pos c12395] at h
                            obtain rfl : b12394 = false := hb12394.symm.trans (bne_eq_false_iff_eq.2 c12395)
                            refine VL.va (op_fieldAddr FI27_5 rfl (add_at _ _ _) (ltn rfl)) rfl ?_
                            refine VL.va (op_load 0 1 rfl rfl TI22 rfl (by decide) (ltn rfl)) rfl ?_
                            refine VL.va (op_fieldAddr FI27_5 rfl (add_at _ _ _) (ltn rfl)) rfl ?_
                            refine VL.va (op_load 3 1 rfl rfl TI22 rfl (by decide) (ltn rfl)) rfl ?_
                            replace h := Option.bind_eq_some_iff.1 h
                            obtain ⟨t12396, hA12397, h⟩ := h
                            refine VL.sC (o_call_b0 FO17 (tarryref01_Same.ok k r12334 r459 v12344 v468 t12396 hA12397) rfl rfl (ltn rfl) (All_of (.cons (.inr (.inl ⟨_, List.mem_of_getElem? (i := 1) rfl, rfl⟩)) (.cons (.inr (.inl ⟨_, List.mem_of_getElem? (i := 4) rfl, rfl⟩)) .nil))) (by rintro _ _ _ ⟨rfl, rfl, rfl⟩; rfl)) rfl ?_
                            rintro _ _ _ ⟨rfl, rfl, rfl⟩
                            by_cases c12398 : t12396 = true
                            · rw [if_pos c12398] at h
                              obtain rfl := c12398
                              refine VL.va (op_not rfl rfl (ltn rfl)) rfl ?_
                              refine VL.va (op_pick rfl rfl (ltn rfl)) rfl ?_
                              refine VL.va (op_move rfl (ltn rfl)) rfl ?_
                              replace h := Option.bind_eq_some_iff.1 h
                              obtain ⟨t12399, hA12400, h⟩ := h
                              refine VL.sC (o_call0 FO14 (tarrylaw05_alive.ok k t12399 hA12400) rfl rfl (ltn rfl) (All_of .nil)) rfl ?_
                              rintro _ _ _ ⟨rfl, rfl, rfl⟩
                              by_cases c12401 : t12399 = true
                              · rw [if_pos c12401] at h
                                obtain rfl := c12401
                                refine VL.va (op_not rfl rfl (ltn rfl)) rfl ?_
                                refine VL.va (op_pick rfl rfl (ltn rfl)) rfl ?_
                                refine VL.done ?_
                                refine VN.then ?_
                                refine VC.cond_f rfl ?_
                                refine VC.skip ?_
                                refine VN.then ?_
                                refine VC.seq ?_
                                refine VC.region ?_
                                refine VL.va (op_fieldAddr FI27_4 rfl (add_at _ _ _) (ltn rfl)) rfl ?_
                                refine VL.step1 (o_store 3 1 rfl rfl rfl TI22 (.c rfl) rfl (len rfl)) rfl ?_
                                refine VL.done ?_
                                refine VN.then ?_
                                refine VC.seq ?_
                                refine VC.region ?_
                                refine VL.va (op_load 3 7 rfl rfl TI27 rfl (fun h => absurd h (by decide)) (ltn rfl)) rfl ?_
                                refine VL.va (op_move rfl (ltn rfl)) rfl ?_
                                refine VL.nilFact' 1 ?_
                                refine VL.freezeRow' 2 rfl ?_
                                refine VL.freezeRow' 3 rfl ?_
                                replace h := Option.bind_eq_some_iff.1 h
                                obtain ⟨⟨r12403, r12404, t12405, t12406, t12407, r12408, r12409, t12410⟩, hA12411, h⟩ := h
                                dsimp only at h
                                refine VL.sC (o_call0 FO18 (journal_Append.ok k r453 r454 t455 t456 t457 [] r459 (a3.extract 0 ((mn (a3.size : Int) 100).toNat)) v462 v464 (.slice none 0 0) v468 r12403 r12404 t12405 t12406 t12407 r12408 r12409 t12410 hA12411) rfl rfl (ltn rfl) (All_of (.cons (List.mem_of_getElem? (i := 1) rfl) (.cons (List.mem_of_getElem? (i := 5) rfl) (.cons (List.mem_of_getElem? (i := 2) rfl) (.cons (List.mem_of_getElem? (i := 0) rfl) .nil)))))) rfl ?_
                                rintro _ _ _ ⟨v12413, v12415, v12417, v12419, rfl, rfl, rfl⟩
                                refine VL.va (op_move rfl (ltn rfl)) rfl ?_
                                refine VL.va (op_extract rfl rfl (ltn rfl)) rfl ?_
                                refine VL.va (op_extract rfl rfl (ltn rfl)) rfl ?_
                                refine VL.sG (o_alloc Z27 ZL27 (ltn rfl)) rfl ?_
                                intro g12420
                                refine VL.step1 (o_store 0 7 rfl rfl rfl TI27 (.agg (.f 0 rfl (.f 1 rfl (.c rfl (.c rfl (.c rfl (.f 2 rfl (.f 3 rfl .nil)))))))) rfl (len rfl)) rfl ?_
                                refine VL.va (op_assign rfl (ltn rfl)) rfl ?_
                                refine VL.done ?_
                                refine VN.then ?_
                                refine VC.seq ?_
                                refine VC.region ?_
                                refine VL.va (op_load 1 7 rfl rfl TI27 rfl (fun h => absurd h (by decide)) (ltn rfl)) rfl ?_
                                refine VL.va (op_move rfl (ltn rfl)) rfl ?_
                                refine VL.freezeRow' 0 rfl ?_
                                refine VL.freezeRow' 0 rfl ?_
                                replace h := Option.bind_eq_some_iff.1 h
                                obtain ⟨⟨r12421, r12422, t12423, t12424, t12425, r12426, r12427, t12428⟩, hA12429, h⟩ := h
                                dsimp only at h
                                refine VL.sC (o_call0 FO18 (journal_Append.ok k r12328 r12329 t12330 t12331 t12332 r12333 r12334 (a3.extract 0 ((mn (a3.size : Int) 100).toNat)) v12338 v12340 v12342 v12344 r12421 r12422 t12423 t12424 t12425 r12426 r12427 t12428 hA12429) rfl rfl (ltn rfl) (All_of (.cons (List.mem_of_getElem? (i := 9) rfl) (.cons (List.mem_of_getElem? (i := 10) rfl) (.cons (List.mem_of_getElem? (i := 1) rfl) (.cons (List.mem_of_getElem? (i := 0) rfl) .nil)))))) rfl ?_
                                rintro _ _ _ ⟨v12431, v12433, v12435, v12437, rfl, rfl, rfl⟩
                                refine VL.va (op_move rfl (ltn rfl)) rfl ?_
                                refine VL.va (op_extract rfl rfl (ltn rfl)) rfl ?_
                                refine VL.va (op_extract rfl rfl (ltn rfl)) rfl ?_
                                refine VL.sG (o_alloc Z27 ZL27 (ltn rfl)) rfl ?_
                                intro g12438
                                refine VL.step1 (o_store 0 7 rfl rfl rfl TI27 (.agg (.f 0 rfl (.f 1 rfl (.c rfl (.c rfl (.c rfl (.f 2 rfl (.f 3 rfl .nil)))))))) rfl (len rfl)) rfl ?_
                                refine VL.va (op_assign rfl (ltn rfl)) rfl ?_
                                refine VL.done ?_
                                refine VN.then ?_
                                refine VC.seq ?_
                                refine VC.seq ?_
                                refine VC.region ?_
                                refine VL.va (op_move rfl (ltn rfl)) rfl ?_
                                refine VL.va (op_move rfl (ltn rfl)) rfl ?_
                                refine VL.letter ((t12410 != t12428)) fun b12441 hb12441 => ?_
                                refine VL.va (op_cmp rfl rfl (congrArg some hb12441) (ltn rfl)) rfl ?_
                                refine VL.done ?_
                                refine VN.then ?_
                                by_cases c12442 : t12410 = t12428
                                · rw [if_pos c12442] at h
                                  obtain rfl : b12441 = false := hb12441.symm.trans (bne_eq_false_iff_eq.2 c12442)
                                  refine VC.cond_f rfl ?_
                                  refine VC.skip ?_
                                  refine VN.then ?_
                                  refine VC.seq ?_
                                  refine VC.seq ?_
                                  refine VC.region ?_
                                  refine VL.va (op_move rfl (ltn rfl)) rfl ?_
                                  refine VL.letter ((t12410 != 0)) fun b12446 hb12446 => ?_
                                  refine VL.va (op_cmp rfl rfl (congrArg some hb12446) (ltn rfl)) rfl ?_
                                  refine VL.done ?_
                                  refine VN.then ?_
                                  by_cases c12447 : t12410 = 0
                                  · rw [if_pos c12447] at h
                                    obtain rfl : b12446 = false := hb12446.symm.trans (bne_eq_false_iff_eq.2 c12447)
                                    refine VC.cond_f rfl ?_
                                    refine VC.skip ?_
                                    refine VN.then ?_
                                    refine VC.seq ?_
                                    refine VC.region ?_
                                    refine VL.va (op_load 1 7 rfl rfl TI27 rfl (fun h => absurd h (by decide)) (ltn rfl)) rfl ?_
                                    replace h := Option.bind_eq_some_iff.1 h
                                    obtain ⟨⟨r12448, r12449, t12450, t12451, t12452, r12453, r12454, t12455⟩, hA12456, h⟩ := h
                                    dsimp only at h
                                    refine VL.sC (o_call0 FO19 (journal_Commit.ok k r12403 r12404 t12405 t12406 t12407 r12408 r12409 v12413 v12415 v12417 v12419 r12448 r12449 t12450 t12451 t12452 r12453 r12454 t12455 hA12456) rfl rfl (ltn rfl) (All_of (.cons (List.mem_of_getElem? (i := 6) rfl) (.cons (List.mem_of_getElem? (i := 7) rfl) (.cons (List.mem_of_getElem? (i := 8) rfl) (.cons (List.mem_of_getElem? (i := 9) rfl) .nil)))))) rfl ?_
                                    rintro _ _ _ ⟨v12458, v12460, v12462, v12464, rfl, rfl, rfl⟩
                                    refine VL.va (op_move rfl (ltn rfl)) rfl ?_
                                    refine VL.va (op_extract rfl rfl (ltn rfl)) rfl ?_
                                    refine VL.va (op_extract rfl rfl (ltn rfl)) rfl ?_
                                    refine VL.sG (o_alloc Z27 ZL27 (ltn rfl)) rfl ?_
                                    intro g12465
                                    refine VL.step1 (o_store 0 7 rfl rfl rfl TI27 (.agg (.f 0 rfl (.f 1 rfl (.c rfl (.c rfl (.c rfl (.r 0 rfl (.r 1 rfl .nil)))))))) rfl (len rfl)) rfl ?_
                                    refine VL.va (op_assign rfl (ltn rfl)) rfl ?_
                                    refine VL.done ?_
                                    refine VN.then ?_
                                    refine VC.seq ?_
                                    refine VC.region ?_
                                    refine VL.va (op_load 1 7 rfl rfl TI27 rfl (fun h => absurd h (by decide)) (ltn rfl)) rfl ?_
                                    replace h := Option.bind_eq_some_iff.1 h
                                    obtain ⟨⟨r12466, r12467, t12468, t12469, t12470, r12471, r12472, t12473⟩, hA12474, h⟩ := h
                                    dsimp only at h
                                    refine VL.sC (o_call0 FO19 (journal_Commit.ok k r12421 r12422 t12423 t12424 t12425 r12426 r12427 v12431 v12433 v12435 v12437 r12466 r12467 t12468 t12469 t12470 r12471 r12472 t12473 hA12474) rfl rfl (ltn rfl) (All_of (.cons (List.mem_of_getElem? (i := 2) rfl) (.cons (List.mem_of_getElem? (i := 3) rfl) (.cons (List.mem_of_getElem? (i := 4) rfl) (.cons (List.mem_of_getElem? (i := 5) rfl) .nil)))))) rfl ?_
                                    rintro _ _ _ ⟨v12476, v12478, v12480, v12482, rfl, rfl, rfl⟩
                                    refine VL.va (op_move rfl (ltn rfl)) rfl ?_
                                    refine VL.va (op_extract rfl rfl (ltn rfl)) rfl ?_
                                    refine VL.va (op_extract rfl rfl (ltn rfl)) rfl ?_
                                    refine VL.sG (o_alloc Z27 ZL27 (ltn rfl)) rfl ?_
                                    intro g12483
                                    refine VL.step1 (o_store 0 7 rfl rfl rfl TI27 (.agg (.f 0 rfl (.f 1 rfl (.c rfl (.c rfl (.c rfl (.r 0 rfl (.r 1 rfl .nil)))))))) rfl (len rfl)) rfl ?_
                                    refine VL.va (op_assign rfl (ltn rfl)) rfl ?_
                                    refine VL.done ?_
                                    refine VN.then ?_
                                    refine VC.seq ?_
                                    refine VC.region ?_
                                    refine VL.va (op_move rfl (ltn rfl)) rfl ?_
                                    refine VL.va (op_move rfl (ltn rfl)) rfl ?_
                                    refine VL.letter ((t12455 == t12473)) fun b12490 hb12490 => ?_
                                    refine VL.va (op_cmp rfl rfl (congrArg some hb12490) (ltn rfl)) rfl ?_
                                    refine VL.va (op_move rfl (ltn rfl)) rfl ?_
                                    by_cases c12491 : t12455 = t12473
                                    · rw [if_pos c12491] at h
                                      obtain rfl : b12490 = true := hb12490.symm.trans (beq_iff_eq.2 c12491)
                                      refine VL.va (op_fieldAddr FI27_5 rfl (add_at _ _ _) (ltn rfl)) rfl ?_
                                      refine VL.va (op_load 1 1 rfl rfl TI22 rfl (by decide) (ltn rfl)) rfl ?_
                                      refine VL.va (op_fieldAddr FI27_5 rfl (add_at _ _ _) (ltn rfl)) rfl ?_
                                      refine VL.va (op_load 0 1 rfl rfl TI22 rfl (by decide) (ltn rfl)) rfl ?_
                                      replace h := Option.bind_eq_some_iff.1 h
                                      obtain ⟨t12492, hA12493, h⟩ := h
                                      refine VL.sC (o_call_b0 FO17 (tarryref01_Same.ok k r12454 r12472 v12464 v12482 t12492 hA12493) rfl rfl (ltn rfl) (All_of (.cons (.inr (.inl ⟨_, List.mem_of_getElem? (i := 3) rfl, rfl⟩)) (.cons (.inr (.inl ⟨_, List.mem_of_getElem? (i := 1) rfl, rfl⟩)) .nil))) (by rintro _ _ _ ⟨rfl, rfl, rfl⟩; rfl)) rfl ?_
                                      rintro _ _ _ ⟨rfl, rfl, rfl⟩
                                      refine VL.va (op_pick rfl rfl (ltn rfl)) rfl ?_
                                      refine VL.va (op_move rfl (ltn rfl)) rfl ?_
                                      by_cases c12494 : t12492 = true
                                      · rw [if_pos c12494] at h
                                        obtain rfl := c12494
                                        refine VL.va (op_fieldAddr FI27_3 rfl (add_at _ _ _) (ltn rfl)) rfl ?_
                                        refine VL.va (op_load 1 1 rfl rfl TI3 rfl (by decide) (ltn rfl)) rfl ?_
                                        refine VL.va (op_fieldAddr FI27_3 rfl (add_at _ _ _) (ltn rfl)) rfl ?_
                                        refine VL.va (op_load 0 1 rfl rfl TI3 rfl (by decide) (ltn rfl)) rfl ?_
                                        refine VL.letter ((t12452 == t12470)) fun b12495 hb12495 => ?_
                                        refine VL.va (op_cmp rfl rfl (congrArg some hb12495) (ltn rfl)) rfl ?_
                                        refine VL.va (op_pick rfl rfl (ltn rfl)) rfl ?_
                                        refine VL.va (op_assign rfl (ltn rfl)) rfl ?_
                                        refine VL.done ?_
                                        refine VN.then ?_
                                        refine VC.ret ?_
                                        obtain rfl := Option.some.inj h
                                        subst hb12495
                                        exact VR.fn (rs := [.tmp 8]) [] [] [] rfl (.tmp rfl .nil) ⟨rfl, rfl, rfl⟩ trivial rfl (by decide)
                                      · rw [if_neg c12494] at h
                                        obtain rfl := Bool.eq_false_iff.2 c12494
                                        refine VL.un rfl rfl (ltn rfl) ?_
                                        refine VL.un rfl rfl (ltn rfl) ?_
                                        refine VL.un rfl rfl (ltn rfl) ?_
                                        refine VL.un rfl rfl (ltn rfl) ?_
                                        refine VL.un rfl rfl (ltn rfl) ?_
                                        refine VL.va (op_pick rfl rfl (ltn rfl)) rfl ?_
                                        refine VL.va (op_assign rfl (ltn rfl)) rfl ?_
                                        refine VL.done ?_
                                        refine VN.then ?_
                                        refine VC.ret ?_
                                        cases h
                                    · rw [if_neg c12491] at h
                                      obtain rfl : b12490 = false := hb12490.symm.trans (beq_eq_false_iff_ne.2 c12491)
                                      refine VL.un rfl rfl (ltn rfl) ?_
                                      refine VL.un rfl rfl (ltn rfl) ?_
                                      refine VL.un rfl rfl (ltn rfl) ?_
                                      refine VL.un rfl rfl (ltn rfl) ?_
                                      refine VL.un rfl rfl (ltn rfl) ?_
                                      refine VL.va (op_pick rfl rfl (ltn rfl)) rfl ?_
                                      refine VL.va (op_move rfl (ltn rfl)) rfl ?_
                                      refine VL.un rfl rfl (ltn rfl) ?_
                                      refine VL.un rfl rfl (ltn rfl) ?_
                                      refine VL.un rfl rfl (ltn rfl) ?_
                                      refine VL.un rfl rfl (ltn rfl) ?_
                                      refine VL.un rfl rfl (ltn rfl) ?_
                                      refine VL.va (op_pick rfl rfl (ltn rfl)) rfl ?_
                                      refine VL.va (op_assign rfl (ltn rfl)) rfl ?_
                                      refine VL.done ?_
                                      refine VN.then ?_
                                      refine VC.ret ?_
                                      cases h
                                  · rw [if_neg c12447] at h
                                    obtain rfl : b12446 = true := hb12446.symm.trans (bne_iff_ne.2 c12447)
                                    refine VC.cond_t rfl ?_
                                    refine VC.seq ?_
                                    refine VC.region ?_
                                    refine VL.va (op_move rfl (ltn rfl)) rfl ?_
                                    refine VL.letter ((t12410 == 7)) fun b12496 hb12496 => ?_
                                    refine VL.va (op_cmp rfl rfl (congrArg some hb12496) (ltn rfl)) rfl ?_
                                    refine VL.va (op_assign rfl (ltn rfl)) rfl ?_
                                    refine VL.done ?_
                                    refine VN.then ?_
                                    refine VC.ret ?_
                                    refine VR.then ?_
                                    obtain rfl := Option.some.inj h
                                    subst hb12496
                                    exact VR.fn (rs := [.tmp 8]) [] [] [] rfl (.tmp rfl .nil) ⟨rfl, rfl, rfl⟩ trivial rfl (by decide)
                                · rw [if_neg c12442] at h
                                  obtain rfl : b12441 = true := hb12441.symm.trans (bne_iff_ne.2 c12442)
                                  refine VC.cond_t rfl ?_
                                  refine VC.seq ?_
                                  refine VC.region ?_
                                  refine VL.va (op_assign rfl (ltn rfl)) rfl ?_
                                  refine VL.done ?_
                                  refine VN.then ?_
                                  refine VC.ret ?_
                                  refine VR.then ?_
                                  cases h
                              · rw [if_neg c12401] at h
                                obtain rfl := Bool.eq_false_iff.2 c12401
                                refine VL.va (op_not rfl rfl (ltn rfl)) rfl ?_
                                refine VL.va (op_pick rfl rfl (ltn rfl)) rfl ?_
                                refine VL.done ?_
                                refine VN.then ?_
                                refine VC.cond_t rfl ?_
                                refine VC.seq ?_
                                refine VC.region ?_
                                refine VL.va (op_assign rfl (ltn rfl)) rfl ?_
                                refine VL.done ?_
                                refine VN.then ?_
                                refine VC.ret ?_
                                refine VR.then ?_
                                cases h
                            · rw [if_neg c12398] at h
                              obtain rfl := Bool.eq_false_iff.2 c12398
                              refine VL.va (op_not rfl rfl (ltn rfl)) rfl ?_
                              refine VL.va (op_pick rfl rfl (ltn rfl)) rfl ?_
                              refine VL.va (op_move rfl (ltn rfl)) rfl ?_
                              refine VL.un rfl rfl (ltn rfl) ?_
                              refine VL.un rfl rfl (ltn rfl) ?_
                              refine VL.va (op_pick rfl rfl (ltn rfl)) rfl ?_
                              refine VL.done ?_
                              refine VN.then ?_
                              refine VC.cond_t rfl ?_
                              refine VC.seq ?_
                              refine VC.region ?_
                              refine VL.va (op_assign rfl (ltn rfl)) rfl ?_
                              refine VL.done ?_
                              refine VN.then ?_
                              refine VC.ret ?_
                              refine VR.then ?_
                              cases h
                          · rw [if_neg c12395] at h
                            obtain rfl : b12394 = true := hb12394.symm.trans (bne_iff_ne.2 c12395)
                            refine VL.un rfl rfl (ltn rfl) ?_
                            refine VL.un rfl rfl (ltn rfl) ?_
                            refine VL.un rfl rfl (ltn rfl) ?_
                            refine VL.un rfl rfl (ltn rfl) ?_
                            refine VL.un rfl rfl (ltn rfl) ?_
                            refine VL.un rfl rfl (ltn rfl) ?_
                            refine VL.va (op_pick rfl rfl (ltn rfl)) rfl ?_
                            refine VL.va (op_move rfl (ltn rfl)) rfl ?_
                            refine VL.un rfl rfl (ltn rfl) ?_
                            refine VL.un rfl rfl (ltn rfl) ?_
                            refine VL.va (op_pick rfl rfl (ltn rfl)) rfl ?_
                            refine VL.done ?_
                            refine VN.then ?_
                            refine VC.cond_t rfl ?_
                            refine VC.seq ?_
                            refine VC.region ?_
                            refine VL.va (op_assign rfl (ltn rfl)) rfl ?_
                            refine VL.done ?_
                            refine VN.then ?_
                            refine VC.ret ?_
                            refine VR.then ?_
                            cases h
                        · rw [if_neg c12393] at h
                          obtain rfl : b12392 = true := hb12392.symm.trans (bne_iff_ne.2 c12393)
                          refine VL.un rfl rfl (ltn rfl) ?_
                          refine VL.un rfl rfl (ltn rfl) ?_
                          refine VL.un rfl rfl (ltn rfl) ?_
                          refine VL.un rfl rfl (ltn rfl) ?_
                          refine VL.un rfl rfl (ltn rfl) ?_
                          refine VL.va (op_pick rfl rfl (ltn rfl)) rfl ?_
                          refine VL.va (op_move rfl (ltn rfl)) rfl ?_
                          refine VL.un rfl rfl (ltn rfl) ?_
                          refine VL.un rfl rfl (ltn rfl) ?_
                          refine VL.un rfl rfl (ltn rfl) ?_
                          refine VL.un rfl rfl (ltn rfl) ?_
                          refine VL.un rfl rfl (ltn rfl) ?_
                          refine VL.un rfl rfl (ltn rfl) ?_
                          refine VL.va (op_pick rfl rfl (ltn rfl)) rfl ?_
                          refine VL.va (op_move rfl (ltn rfl)) rfl ?_
                          refine VL.un rfl rfl (ltn rfl) ?_
                          refine VL.un rfl rfl (ltn rfl) ?_
                          refine VL.va (op_pick rfl rfl (ltn rfl)) rfl ?_
                          refine VL.done ?_
                          refine VN.then ?_
                          refine VC.cond_t rfl ?_
                          refine VC.seq ?_
                          refine VC.region ?_
                          refine VL.va (op_assign rfl (ltn rfl)) rfl ?_
                          refine VL.done ?_
                          refine VN.then ?_
                          refine VC.ret ?_
                          refine VR.then ?_
                          cases h
                      · rw [if_neg c12391] at h
                        obtain rfl : b12390 = true := hb12390.symm.trans (bne_iff_ne.2 c12391)
                        refine VL.un rfl rfl (ltn rfl) ?_
                        refine VL.un rfl rfl (ltn rfl) ?_
                        refine VL.un rfl rfl (ltn rfl) ?_
                        refine VL.un rfl rfl (ltn rfl) ?_
                        refine VL.un rfl rfl (ltn rfl) ?_
                        refine VL.va (op_pick rfl rfl (ltn rfl)) rfl ?_
                        refine VL.va (op_move rfl (ltn rfl)) rfl ?_
                        refine VL.un rfl rfl (ltn rfl) ?_
                        refine VL.un rfl rfl (ltn rfl) ?_
                        refine VL.un rfl rfl (ltn rfl) ?_
                        refine VL.un rfl rfl (ltn rfl) ?_
                        refine VL.un rfl rfl (ltn rfl) ?_
                        refine VL.va (op_pick rfl rfl (ltn rfl)) rfl ?_
                        refine VL.va (op_move rfl (ltn rfl)) rfl ?_
                        refine VL.un rfl rfl (ltn rfl) ?_
                        refine VL.un rfl rfl (ltn rfl) ?_
                        refine VL.un rfl rfl (ltn rfl) ?_
                        refine VL.un rfl rfl (ltn rfl) ?_
                        refine VL.un rfl rfl (ltn rfl) ?_
                        refine VL.un rfl rfl (ltn rfl) ?_
                        refine VL.va (op_pick rfl rfl (ltn rfl)) rfl ?_
                        refine VL.va (op_move rfl (ltn rfl)) rfl ?_
                        refine VL.un rfl rfl (ltn rfl) ?_
                        refine VL.un rfl rfl (ltn rfl) ?_
                        refine VL.va (op_pick rfl rfl (ltn rfl)) rfl ?_
                        refine VL.done ?_
                        refine VN.then ?_
                        refine VC.cond_t rfl ?_
                        refine VC.seq ?_
                        refine VC.region ?_
                        refine VL.va (op_assign rfl (ltn rfl)) rfl ?_
                        refine VL.done ?_
                        refine VN.then ?_
                        refine VC.ret ?_
                        refine VR.then ?_
                        cases h
                    · rw [if_neg c12389] at h
                      obtain rfl : b12388 = true := hb12388.symm.trans (bne_iff_ne.2 c12389)
                      refine VL.un rfl rfl (ltn rfl) ?_
                      refine VL.un rfl rfl (ltn rfl) ?_
                      refine VL.un rfl rfl (ltn rfl) ?_
                      refine VL.un rfl rfl (ltn rfl) ?_
                      refine VL.un rfl rfl (ltn rfl) ?_
                      refine VL.va (op_pick rfl rfl (ltn rfl)) rfl ?_
                      refine VL.va (op_move rfl (ltn rfl)) rfl ?_
                      refine VL.un rfl rfl (ltn rfl) ?_
                      refine VL.un rfl rfl (ltn rfl) ?_
                      refine VL.un rfl rfl (ltn rfl) ?_
                      refine VL.un rfl rfl (ltn rfl) ?_
                      refine VL.un rfl rfl (ltn rfl) ?_
                      refine VL.va (op_pick rfl rfl (ltn rfl)) rfl ?_
                      refine VL.va (op_move rfl (ltn rfl)) rfl ?_
                      refine VL.un rfl rfl (ltn rfl) ?_
                      refine VL.un rfl rfl (ltn rfl) ?_
                      refine VL.un rfl rfl (ltn rfl) ?_
                      refine VL.un rfl rfl (ltn rfl) ?_
                      refine VL.un rfl rfl (ltn rfl) ?_
                      refine VL.va (op_pick rfl rfl (ltn rfl)) rfl ?_
                      refine VL.va (op_move rfl (ltn rfl)) rfl ?_
                      refine VL.un rfl rfl (ltn rfl) ?_
                      refine VL.un rfl rfl (ltn rfl) ?_
                      refine VL.un rfl rfl (ltn rfl) ?_
                      refine VL.un rfl rfl (ltn rfl) ?_
                      refine VL.un rfl rfl (ltn rfl) ?_
                      refine VL.un rfl rfl (ltn rfl) ?_
                      refine VL.va (op_pick rfl rfl (ltn rfl)) rfl ?_
                      refine VL.va (op_move rfl (ltn rfl)) rfl ?_
                      refine VL.un rfl rfl (ltn rfl) ?_
                      refine VL.un rfl rfl (ltn rfl) ?_
                      refine VL.va (op_pick rfl rfl (ltn rfl)) rfl ?_
                      refine VL.done ?_
                      refine VN.then ?_
                      refine VC.cond_t rfl ?_
                      refine VC.seq ?_
                      refine VC.region ?_
                      refine VL.va (op_assign rfl (ltn rfl)) rfl ?_
                      refine VL.done ?_
                      refine VN.then ?_
                      refine VC.ret ?_
                      refine VR.then ?_
                      cases h
                  · rw [if_neg c12322] at h; cases h
                · rw [if_neg c12321] at h; cases h
              · rw [if_neg c11906] at h; cases h
        · rw [if_neg c10692] at h; cases h
    · rw [if_neg c470] at h; cases h
  · rw [if_neg c469] at h; cases h

end Go.Proofs.Ytipeglbeongfmaa.PJournalUnused
