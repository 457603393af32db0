/- Written by a program of this repo: what the program's functions do, each as a Lean function, shown of the loaded code; or a statement's row over that; no condition of its own. -/
import Derived.Test.YtipeglbeongfmaaPJournalUnusedx5
namespace Go.Proofs.Ytipeglbeongfmaa.PJournalUnused
open Go Go.RowKit Go.Proofs.YtipeglbeongfmaaV
set_option linter.unusedVariables false
set_option linter.unusedSimpArgs false

set_option maxHeartbeats 4000000 in
set_option maxRecDepth 100000 in
theorem journal_Open.ok (k : Nat) (l0_0 : List ByteArray) (l0_1 : List S55) (v0_0 : Value) (v0_1 : Value) (r1 : List ByteArray) (r2 : List S55) (r3 : Int) (r4 : Int) (r5 : Int) (r6 : List ByteArray) (r7 : List ByteArray) (r8 : Int) (h : journal_Open.f k l0_0 l0_1 = some (r1, r2, r3, r4, r5, r6, r7, r8)) :
    VCalls Try.prog 9 [.agg #[v0_0, v0_1]] [.row v0_0 1 (l0_0.map enc_str), .row v0_1 2 (l0_1.map enc55)] (fun v G own => ∃ w0 w1 w5 w6 : Value, v = .tuple #[.agg #[w0, w1, .int .i64 r3, .int .i64 r4, .int .i64 r5, w5, w6], .int .i64 r8] ∧ G = [.row w0 1 (r1.map enc_str), .row w1 2 (r2.map enc55)] ∧ own = [(w5, 9, 1, r6.map enc_str), (w6, 9, 1, r7.map enc_str)]) := by
  refine VCalls.intro Try.func9 rfl (len rfl) fun E hC hW hD hU => ?_
  unfold journal_Open.f at h
  refine VC.seq ?_
  refine VC.region ?_
  refine VL.sG (o_box rfl (.agg (.f 0 rfl (.f 1 rfl .nil))) (ltn rfl)) rfl ?_
  intro g5032
  refine VL.sG (o_alloc Z27 ZL27 (ltn rfl)) rfl ?_
  intro g5033
  refine VL.va (op_assign rfl (ltn rfl)) rfl ?_
  refine VL.done ?_
  refine VN.then ?_
  refine VC.seq ?_
  refine VC.join1 (fun (q5821 : Bool) => ⟨94, [(1, .pointer (some ⟨g5032, 0, none⟩)), (2, .pointer (some ⟨g5033, 0, none⟩)), (3, .int .i64 0), (26, .bool q5821)], [.row v0_0 1 (l0_0.map enc_str), .row v0_1 2 (l0_1.map enc55)], [(g5033, 27, [.slice none 0 0, .slice none 0 0, .int .i64 0, .int .i64 0, .int .i64 0, .slice none 0 0, .slice none 0 0]), (g5032, 25, [v0_0, v0_1])], []⟩) (fun (q5821 : Bool) => journal_Open.j4 k l0_0 l0_1 q5821 = some (r1, r2, r3, r4, r5, r6, r7, r8)) ?_ ?_
  · refine VC.region ?_
    refine VL.va (op_load 1 2 rfl rfl TI25 rfl (fun h => absurd h (by decide)) (ltn rfl)) rfl ?_
    replace h := Option.bind_eq_some_iff.1 h
    obtain ⟨t5815, hA5816, h⟩ := h
    refine VL.sC (o_call0 FO23 (disk_Right.ok k l0_0 l0_1 v0_0 v0_1 t5815 hA5816) rfl rfl (ltn rfl) (All_of (.cons (List.mem_of_getElem? (i := 0) rfl) (.cons (List.mem_of_getElem? (i := 1) rfl) .nil)))) rfl ?_
    rintro _ _ _ ⟨rfl, rfl, rfl⟩
    by_cases c5817 : t5815 = true
    · rw [if_pos c5817] at h
      obtain rfl := c5817
      refine VL.va (op_not rfl rfl (ltn rfl)) rfl ?_
      refine VL.va (op_move rfl (ltn rfl)) rfl ?_
      refine VL.va (op_fieldAddr FI25_0 rfl (add_at _ _ _) (ltn rfl)) rfl ?_
      refine VL.va (op_load 1 1 rfl rfl TI22 rfl (by decide) (ltn rfl)) rfl ?_
      refine VL.va (op_len (m := l0_0.length) 0 lenm Try.underlying22 rfl rfl (ltn rfl)) rfl ?_
      refine VL.letter (decide ((l0_0.length : Int) < 8)) fun b5818 hb5818 => ?_
      refine VL.va (op_cmp rfl rfl (congrArg some hb5818) (ltn rfl)) rfl ?_
      refine VL.va (op_pick rfl rfl (ltn rfl)) rfl ?_
      refine VL.va (op_move rfl (ltn rfl)) rfl ?_
      by_cases c5819 : (l0_0.length : Int) < 8
      · rw [if_pos c5819] at h
        obtain rfl : b5818 = true := hb5818.symm.trans (decide_eq_true c5819)
        refine VL.un rfl rfl (ltn rfl) ?_
        refine VL.un rfl rfl (ltn rfl) ?_
        refine VL.un rfl rfl (ltn rfl) ?_
        refine VL.un rfl rfl (ltn rfl) ?_
        refine VL.va (op_pick rfl rfl (ltn rfl)) rfl ?_
        refine VL.done ?_
        refine VN.meet1 true [0, 1] [] h ⟨rfl, ⟨rfl, rfl, rfl, rfl, trivial⟩, ⟨⟨0, rfl⟩, ⟨1, rfl⟩, trivial⟩, rfl, by decide, rfl, by decide⟩
      · rw [if_neg c5819] at h
        obtain rfl : b5818 = false := hb5818.symm.trans (decide_eq_false c5819)
        refine VL.va (op_fieldAddr FI25_1 rfl (add_at _ _ _) (ltn rfl)) rfl ?_
        refine VL.va (op_load 1 1 rfl rfl TI23 rfl (by decide) (ltn rfl)) rfl ?_
        refine VL.va (op_len (m := l0_1.length) 1 lenm Try.underlying23 rfl rfl (ltn rfl)) rfl ?_
        refine VL.letter (decide ((l0_1.length : Int) > 0)) fun b5820 hb5820 => ?_
        refine VL.va (op_cmp rfl rfl (congrArg some hb5820) (ltn rfl)) rfl ?_
        refine VL.va (op_pick rfl rfl (ltn rfl)) rfl ?_
        refine VL.done ?_
        subst hb5820
        refine VN.meet1 (decide ((l0_1.length : Int) > 0)) [0, 1] [] h ⟨rfl, ⟨rfl, rfl, rfl, rfl, trivial⟩, ⟨⟨0, rfl⟩, ⟨1, rfl⟩, trivial⟩, rfl, by decide, rfl, by decide⟩
    · rw [if_neg c5817] at h
      obtain rfl := Bool.eq_false_iff.2 c5817
      refine VL.va (op_not rfl rfl (ltn rfl)) rfl ?_
      refine VL.va (op_move rfl (ltn rfl)) rfl ?_
      refine VL.un rfl rfl (ltn rfl) ?_
      refine VL.un rfl rfl (ltn rfl) ?_
      refine VL.un rfl rfl (ltn rfl) ?_
      refine VL.un rfl rfl (ltn rfl) ?_
      refine VL.va (op_pick rfl rfl (ltn rfl)) rfl ?_
      refine VL.va (op_move rfl (ltn rfl)) rfl ?_
      refine VL.un rfl rfl (ltn rfl) ?_
      refine VL.un rfl rfl (ltn rfl) ?_
      refine VL.un rfl rfl (ltn rfl) ?_
      refine VL.un rfl rfl (ltn rfl) ?_
      refine VL.va (op_pick rfl rfl (ltn rfl)) rfl ?_
      refine VL.done ?_
      refine VN.meet1 true [0, 1] [] h ⟨rfl, ⟨rfl, rfl, rfl, rfl, trivial⟩, ⟨⟨0, rfl⟩, ⟨1, rfl⟩, trivial⟩, rfl, by decide, rfl, by decide⟩
  clear h
  intro q5821 h
  unfold journal_Open.j4 at h
  by_cases c5822 : q5821 = true
  · rw [if_pos c5822] at h
    obtain rfl := c5822
    refine VC.cond_t rfl ?_
    refine VC.seq ?_
    refine VC.region ?_
    refine VL.va (op_build (vals := []) (vcs := []) (cells := [.slice none 0 0, .slice none 0 0, .int .i64 0, .int .i64 0, .int .i64 0, .slice none 0 0, .slice none 0 0]) SI27 rfl .nil (by kernel_rfl) (ltn rfl)) rfl ?_
    refine VL.step1 (o_store 0 7 rfl rfl rfl TI27 (.agg (.of rfl)) rfl (len rfl)) rfl ?_
    refine VL.va (op_assign rfl (ltn rfl)) rfl ?_
    refine VL.done ?_
    refine VN.then ?_
    refine VC.ret ?_
    refine VR.then ?_
    simp only [Option.some.injEq, Prod.mk.injEq] at h
    obtain ⟨rfl, rfl, rfl, rfl, rfl, rfl, rfl, rfl⟩ := h
    refine VR.nilFact' 1 ?_
    refine VR.nilFact' 2 ?_
    refine VR.nilRow' 9 1 ?_
    refine VR.nilRow' 9 1 ?_
    exact VR.fn (rs := [.cell 2 27, .tmp 3]) [.row (.slice none 0 0) 1 (([] : List ByteArray).map enc_str), .row (.slice none 0 0) 2 (([] : List S55).map enc55)] [((.slice none 0 0), 9, 1, ([] : List ByteArray).map enc_str), ((.slice none 0 0), 9, 1, ([] : List ByteArray).map enc_str)] [1, 0] rfl (.cell 0 rfl rfl TI27 (fun h => absurd h (by decide)) (.tmp rfl .nil)) ⟨(.slice none 0 0), (.slice none 0 0), (.slice none 0 0), (.slice none 0 0), rfl, rfl, rfl⟩ ⟨⟨1, rfl⟩, ⟨0, rfl⟩, trivial⟩ rfl (by decide)
  · rw [if_neg c5822] at h
    obtain rfl := Bool.eq_false_iff.2 c5822
    refine VC.cond_f rfl ?_
    refine VC.skip ?_
    refine VN.then ?_
    refine VC.seq ?_
    refine VC.region ?_
    refine VL.sG (o_alloc Z27 ZL27 (ltn rfl)) rfl ?_
    intro g5827
    refine VL.done ?_
    refine VN.then ?_
    refine VC.join11 (fun (v6502 : Value) (l6503 : List ByteArray) (v6505 : Value) (l6506 : List S55) (i6507 : Int) (i6508 : Int) (i6509 : Int) (v6511 : Value) (l6512 : List ByteArray) (v6514 : Value) (l6515 : List ByteArray) => ⟨94, [(1, .pointer (some ⟨g5032, 0, none⟩)), (2, .pointer (some ⟨g5033, 0, none⟩)), (3, .int .i64 0), (4, .pointer (some ⟨g5827, 0, none⟩))], [.row v0_0 1 (l0_0.map enc_str), .row v0_1 2 (l0_1.map enc55)], [(g5827, 27, [v6502, v6505, .int .i64 i6507, .int .i64 i6508, .int .i64 i6509, v6511, v6514]), (g5033, 27, [.slice none 0 0, .slice none 0 0, .int .i64 0, .int .i64 0, .int .i64 0, .slice none 0 0, .slice none 0 0]), (g5032, 25, [v0_0, v0_1])], [(v6502, 9, 1, l6503.map enc_str), (v6505, 56, 2, l6506.map enc55), (v6511, 9, 1, l6512.map enc_str), (v6514, 9, 1, l6515.map enc_str)]⟩) (fun (v6502 : Value) (l6503 : List ByteArray) (v6505 : Value) (l6506 : List S55) (i6507 : Int) (i6508 : Int) (i6509 : Int) (v6511 : Value) (l6512 : List ByteArray) (v6514 : Value) (l6515 : List ByteArray) => journal_Open.j7 k l0_0 l0_1 l6503 l6506 i6507 i6508 i6509 l6512 l6515 = some (r1, r2, r3, r4, r5, r6, r7, r8)) ?_ ?_
    · refine VC.seq ?_
      refine VC.region ?_
      refine VL.va (op_fieldAddr FI25_0 rfl (add_at _ _ _) (ltn rfl)) rfl ?_
      refine VL.va (op_load 2 1 rfl rfl TI22 rfl (by decide) (ltn rfl)) rfl ?_
      by_cases c6309 : 2 ≤ (l0_0.length : Int)
      · rw [if_pos c6309] at h
        refine VL.sG (o_slice (m := l0_0.length) 0 0 2 lenm cutm Try.underlying22 TI9 rfl rfl ⟨rfl, ⟨_, _, rfl, (by decide), rfl⟩, by omega, by omega⟩ (ltn rfl)) rfl ?_
        intro v6311
        refine VL.va (op_len (m := ((l0_0.take 2).drop 0).length) 0 lenm Try.underlying22 rfl rfl (ltn rfl)) rfl ?_
        refine VL.va (op_move rfl (ltn rfl)) rfl ?_
        refine VL.done ?_
        refine VN.then ?_
        refine VC.block ?_
        refine VC.nilRow' 9 1 ?_
        refine VC.nilRow' 56 2 ?_
        refine VC.nilRow' 9 1 ?_
        refine VC.nilRow' 9 1 ?_
        refine VC.loop12 (fun (i6367 : Int) (v6369 : Value) (l6370 : List ByteArray) (v6373 : Value) (l6374 : List S55) (i6376 : Int) (i6377 : Int) (i6378 : Int) (v6380 : Value) (l6381 : List ByteArray) (v6384 : Value) (l6385 : List ByteArray) => ⟨94, [(1, .pointer (some ⟨g5032, 0, none⟩)), (2, .pointer (some ⟨g5033, 0, none⟩)), (3, .int .i64 0), (4, .pointer (some ⟨g5827, 0, none⟩)), (30, v6311), (31, .int .i64 (((l0_0.take 2).drop 0).length : Int)), (32, .int .i64 i6367)], [.row v6311 1 (((l0_0.take 2).drop 0).map enc_str), .row v0_0 1 (l0_0.map enc_str), .row v0_1 2 (l0_1.map enc55)], [(g5827, 27, [v6369, v6373, .int .i64 i6376, .int .i64 i6377, .int .i64 i6378, v6380, v6384]), (g5033, 27, [.slice none 0 0, .slice none 0 0, .int .i64 0, .int .i64 0, .int .i64 0, .slice none 0 0, .slice none 0 0]), (g5032, 25, [v0_0, v0_1])], [(v6369, 9, 1, l6370.map enc_str), (v6373, 56, 2, l6374.map enc55), (v6380, 9, 1, l6381.map enc_str), (v6384, 9, 1, l6385.map enc_str)]⟩) (fun (ml8 : Nat) (i6367 : Int) (v6369 : Value) (l6370 : List ByteArray) (v6373 : Value) (l6374 : List S55) (i6376 : Int) (i6377 : Int) (i6378 : Int) (v6380 : Value) (l6381 : List ByteArray) (v6384 : Value) (l6385 : List ByteArray) => journal_Open.l8 k l0_0 l0_1 ml8 i6367 l6370 l6374 i6376 i6377 i6378 l6381 l6385 = some (r1, r2, r3, r4, r5, r6, r7, r8)) k 0 (.slice none 0 0) ([] : List ByteArray) (.slice none 0 0) ([] : List S55) 0 0 0 (.slice none 0 0) ([] : List ByteArray) (.slice none 0 0) ([] : List ByteArray) [0, 1, 2] [3, 2, 1, 0] h ⟨rfl, ⟨rfl, rfl, rfl, rfl, rfl, rfl, rfl, trivial⟩, ⟨⟨0, rfl⟩, ⟨1, rfl⟩, ⟨2, rfl⟩, trivial⟩, rfl, by decide, rfl, by decide⟩ (by intros; simp [journal_Open.l8]) ?_
        clear h
        intro ml8 ihl8 i6367 v6369 l6370 v6373 l6374 i6376 i6377 i6378 v6380 l6381 v6384 l6385 h
        simp only [journal_Open.l8] at h
        refine VC.seq ?_
        refine VC.region ?_
        refine VL.letter (decide (i6367 < (((l0_0.take 2).drop 0).length : Int))) fun b6444 hb6444 => ?_
        refine VL.va (op_cmp rfl rfl (congrArg some hb6444) (ltn rfl)) rfl ?_
        refine VL.done ?_
        refine VN.then ?_
        refine VC.seq ?_
        by_cases c6446 : i6367 < (((l0_0.take 2).drop 0).length : Int)
        · rw [if_pos c6446] at h
          obtain rfl : b6444 = true := hb6444.symm.trans (decide_eq_true c6446)
          refine VC.cond_t rfl ?_
          refine VC.skip ?_
          refine VN.then ?_
          refine VC.seq ?_
          refine VC.block ?_
          refine VC.seq ?_
          refine VC.region ?_
          refine VL.va (op_move rfl (ltn rfl)) rfl ?_
          by_cases c6474 : 0 ≤ i6367
          · rw [if_pos c6474] at h
            replace h := Option.bind_eq_some_iff.1 h
            obtain ⟨x6475, hx6475, h⟩ := h
            refine VL.open (m := ((l0_0.take 2).drop 0).length) 0 lenm rfl (pos_get hx6475) ?_
            rintro ad6476 n6477 rfl
            refine VL.va (op_indexAddr Try.underlying22 TI9 rfl rfl c6474 (lt_get c6474 hx6475) rfl (ltn rfl)) rfl ?_
            refine VL.va (op_load_row (sz := 1) (o := 0) 0 i6367.toNat 1 rfl rfl (get_map hx6475) TI9 rfl (by decide) (ltn rfl)) rfl ?_
            refine VL.va (op_assign rfl (ltn rfl)) rfl ?_
            refine VL.va (op_assign rfl (ltn rfl)) rfl ?_
            refine VL.done ?_
            refine VN.then ?_
            refine VC.seq ?_
            refine VC.region ?_
            refine VL.va (op_move rfl (ltn rfl)) rfl ?_
            refine VL.va (op_move rfl (ltn rfl)) rfl ?_
            refine VL.va (op_fieldAddr FI25_0 rfl (add_at _ _ _) (ltn rfl)) rfl ?_
            refine VL.va (op_load 2 1 rfl rfl TI22 rfl (by decide) (ltn rfl)) rfl ?_
            refine VL.va (op_len (m := l0_0.length) 1 lenm Try.underlying22 rfl rfl (ltn rfl)) rfl ?_
            replace h := Option.bind_eq_some_iff.1 h
            obtain ⟨⟨r6478, r6479, t6480, t6481, t6482, r6483, r6484, t6485⟩, hA6486, h⟩ := h
            dsimp only at h
            refine VL.sC (o_call0 FO24 (journal_read.ok k i6367 x6475 (l0_0.length : Int) r6478 r6479 t6480 t6481 t6482 r6483 r6484 t6485 hA6486) rfl rfl (ltn rfl) (All_of .nil)) rfl ?_
            rintro _ _ _ ⟨v6488, v6490, v6492, v6494, rfl, rfl, rfl⟩
            refine VL.va (op_move rfl (ltn rfl)) rfl ?_
            refine VL.va (op_extract rfl rfl (ltn rfl)) rfl ?_
            refine VL.va (op_extract rfl rfl (ltn rfl)) rfl ?_
            refine VL.sG (o_alloc Z27 ZL27 (ltn rfl)) rfl ?_
            intro g6495
            refine VL.step1 (o_store 0 7 rfl rfl rfl TI27 (.agg (.r 0 rfl (.r 1 rfl (.c rfl (.c rfl (.c rfl (.r 2 rfl (.r 3 rfl .nil)))))))) rfl (len rfl)) rfl ?_
            refine VL.va (op_assign rfl (ltn rfl)) rfl ?_
            refine VL.done ?_
            refine VN.then ?_
            refine VC.seq ?_
            refine VC.region ?_
            refine VL.va (op_move rfl (ltn rfl)) rfl ?_
            refine VL.va (op_move rfl (ltn rfl)) rfl ?_
            by_cases c6498 : t6485 = true
            · rw [if_pos c6498] at h
              obtain rfl := c6498
              refine VL.va (op_fieldAddr FI27_1 rfl (add_at _ _ _) (ltn rfl)) rfl ?_
              refine VL.va (op_load 0 1 rfl rfl TI3 rfl (by decide) (ltn rfl)) rfl ?_
              refine VL.va (op_fieldAddr FI27_1 rfl (add_at _ _ _) (ltn rfl)) rfl ?_
              refine VL.va (op_load 1 1 rfl rfl TI3 rfl (by decide) (ltn rfl)) rfl ?_
              refine VL.letter (decide (t6480 > i6376)) fun b6499 hb6499 => ?_
              refine VL.va (op_cmp rfl rfl (congrArg some hb6499) (ltn rfl)) rfl ?_
              refine VL.va (op_pick rfl rfl (ltn rfl)) rfl ?_
              refine VL.done ?_
              refine VN.then ?_
              by_cases c6500 : t6480 > i6376
              · rw [if_pos c6500] at h
                obtain rfl : b6499 = true := hb6499.symm.trans (decide_eq_true c6500)
                refine VC.cond_t rfl ?_
                refine VC.region ?_
                refine VL.va (op_load 0 7 rfl rfl TI27 rfl (fun h => absurd h (by decide)) (ltn rfl)) rfl ?_
                refine VL.step1 (o_store 1 7 rfl rfl rfl TI27 (.agg (.r 0 rfl (.r 1 rfl (.c rfl (.c rfl (.c rfl (.r 2 rfl (.r 3 rfl .nil)))))))) rfl (len rfl)) rfl ?_
                refine VL.done ?_
                refine VN.block ?_
                refine VN.then ?_
                refine VC.region ?_
                refine VL.va (op_ari64 rfl rfl rfl (ltn rfl)) rfl ?_
                refine VL.va (op_move rfl (ltn rfl)) rfl ?_
                refine VL.done ?_
                refine VN.again [1, 2, 3] [0, 1, 2, 3] (ihl8 (wrap64 (i6367 + 1)) v6488 r6478 v6490 r6479 t6480 t6481 t6482 v6492 r6483 v6494 r6484 h) ⟨rfl, ⟨rfl, rfl, rfl, rfl, rfl, rfl, rfl, trivial⟩, ⟨⟨0, rfl⟩, ⟨1, rfl⟩, ⟨2, rfl⟩, trivial⟩, rfl, by decide, rfl, by decide⟩
              · rw [if_neg c6500] at h
                obtain rfl : b6499 = false := hb6499.symm.trans (decide_eq_false c6500)
                refine VC.cond_f rfl ?_
                refine VC.skip ?_
                refine VN.block ?_
                refine VN.then ?_
                refine VC.region ?_
                refine VL.va (op_ari64 rfl rfl rfl (ltn rfl)) rfl ?_
                refine VL.va (op_move rfl (ltn rfl)) rfl ?_
                refine VL.done ?_
                refine VN.again [1, 2, 3] [4, 5, 6, 7] (ihl8 (wrap64 (i6367 + 1)) v6369 l6370 v6373 l6374 i6376 i6377 i6378 v6380 l6381 v6384 l6385 h) ⟨rfl, ⟨rfl, rfl, rfl, rfl, rfl, rfl, rfl, trivial⟩, ⟨⟨0, rfl⟩, ⟨1, rfl⟩, ⟨2, rfl⟩, trivial⟩, rfl, by decide, rfl, by decide⟩
            · rw [if_neg c6498] at h
              obtain rfl := Bool.eq_false_iff.2 c6498
              refine VL.un rfl rfl (ltn rfl) ?_
              refine VL.un rfl rfl (ltn rfl) ?_
              refine VL.un rfl rfl (ltn rfl) ?_
              refine VL.un rfl rfl (ltn rfl) ?_
              refine VL.un rfl rfl (ltn rfl) ?_
              refine VL.va (op_pick rfl rfl (ltn rfl)) rfl ?_
              refine VL.done ?_
              refine VN.then ?_
              refine VC.cond_f rfl ?_
              refine VC.skip ?_
              refine VN.block ?_
              refine VN.then ?_
              refine VC.region ?_
              refine VL.va (op_ari64 rfl rfl rfl (ltn rfl)) rfl ?_
              refine VL.va (op_move rfl (ltn rfl)) rfl ?_
              refine VL.done ?_
              refine VN.again [1, 2, 3] [4, 5, 6, 7] (ihl8 (wrap64 (i6367 + 1)) v6369 l6370 v6373 l6374 i6376 i6377 i6378 v6380 l6381 v6384 l6385 h) ⟨rfl, ⟨rfl, rfl, rfl, rfl, rfl, rfl, rfl, trivial⟩, ⟨⟨0, rfl⟩, ⟨1, rfl⟩, ⟨2, rfl⟩, trivial⟩, rfl, by decide, rfl, by decide⟩
          · rw [if_neg c6474] at h; cases h
        · rw [if_neg c6446] at h
          obtain rfl : b6444 = false := hb6444.symm.trans (decide_eq_false c6446)
          refine VC.cond_f rfl ?_
          refine VC.exit ?_
          refine VX.then ?_
          refine VX.then ?_
          refine VX.hit ?_
          refine VN.meet11 v6369 l6370 v6373 l6374 i6376 i6377 i6378 v6380 l6381 v6384 l6385 [0, 1, 2] [0, 1, 2, 3] h ⟨rfl, ⟨rfl, rfl, rfl, rfl, trivial⟩, ⟨⟨1, rfl⟩, ⟨2, rfl⟩, trivial⟩, rfl, by decide, rfl, by decide⟩
      · rw [if_neg c6309] at h; cases h
    clear h
    intro v6502 l6503 v6505 l6506 i6507 i6508 i6509 v6511 l6512 v6514 l6515 h
    unfold journal_Open.j7 at h
    refine VC.seq ?_
    refine VC.seq ?_
    refine VC.region ?_
    refine VL.va (op_fieldAddr FI27_1 rfl (add_at _ _ _) (ltn rfl)) rfl ?_
    refine VL.va (op_load 0 1 rfl rfl TI3 rfl (by decide) (ltn rfl)) rfl ?_
    refine VL.letter ((i6507 == 0)) fun b6522 hb6522 => ?_
    refine VL.va (op_cmp rfl rfl (congrArg some hb6522) (ltn rfl)) rfl ?_
    refine VL.done ?_
    refine VN.then ?_
    by_cases c6523 : i6507 = 0
    · rw [if_pos c6523] at h
      obtain rfl : b6522 = true := hb6522.symm.trans (beq_iff_eq.2 c6523)
      refine VC.cond_t rfl ?_
      refine VC.seq ?_
      refine VC.region ?_
      refine VL.va (op_build (vals := []) (vcs := []) (cells := [.slice none 0 0, .slice none 0 0, .int .i64 0, .int .i64 0, .int .i64 0, .slice none 0 0, .slice none 0 0]) SI27 rfl .nil (by kernel_rfl) (ltn rfl)) rfl ?_
      refine VL.step1 (o_store 1 7 rfl rfl rfl TI27 (.agg (.of rfl)) rfl (len rfl)) rfl ?_
      refine VL.va (op_assign rfl (ltn rfl)) rfl ?_
      refine VL.done ?_
      refine VN.then ?_
      refine VC.ret ?_
      refine VR.then ?_
      simp only [Option.some.injEq, Prod.mk.injEq] at h
      obtain ⟨rfl, rfl, rfl, rfl, rfl, rfl, rfl, rfl⟩ := h
      refine VR.nilFact' 1 ?_
      refine VR.nilFact' 2 ?_
      refine VR.nilRow' 9 1 ?_
      refine VR.nilRow' 9 1 ?_
      exact VR.fn (rs := [.cell 2 27, .tmp 3]) [.row (.slice none 0 0) 1 (([] : List ByteArray).map enc_str), .row (.slice none 0 0) 2 (([] : List S55).map enc55)] [((.slice none 0 0), 9, 1, ([] : List ByteArray).map enc_str), ((.slice none 0 0), 9, 1, ([] : List ByteArray).map enc_str)] [1, 0] rfl (.cell 1 rfl rfl TI27 (fun h => absurd h (by decide)) (.tmp rfl .nil)) ⟨(.slice none 0 0), (.slice none 0 0), (.slice none 0 0), (.slice none 0 0), rfl, rfl, rfl⟩ ⟨⟨1, rfl⟩, ⟨0, rfl⟩, trivial⟩ rfl (by decide)
    · rw [if_neg c6523] at h
      obtain rfl : b6522 = false := hb6522.symm.trans (beq_eq_false_iff_ne.2 c6523)
      refine VC.cond_f rfl ?_
      refine VC.skip ?_
      refine VN.then ?_
      refine VC.seq ?_
      refine VC.region ?_
      refine VL.va (op_fieldAddr FI25_0 rfl (add_at _ _ _) (ltn rfl)) rfl ?_
      refine VL.va (op_load 2 1 rfl rfl TI22 rfl (by decide) (ltn rfl)) rfl ?_
      refine VL.va (op_len (m := l0_0.length) 0 lenm Try.underlying22 rfl rfl (ltn rfl)) rfl ?_
      refine VL.va (op_fieldAddr FI27_2 rfl (add_at _ _ _) (ltn rfl)) rfl ?_
      refine VL.va (op_load 0 1 rfl rfl TI3 rfl (by decide) (ltn rfl)) rfl ?_
      replace h := Option.bind_eq_some_iff.1 h
      obtain ⟨t6528, hA6529, h⟩ := h
      refine VL.sC (o_call0 FO25 (journal_begin.ok (l0_0.length : Int) i6508 t6528 hA6529) rfl rfl (ltn rfl) (All_of .nil)) rfl ?_
      rintro _ _ _ ⟨rfl, rfl, rfl⟩
      refine VL.va (op_assign rfl (ltn rfl)) rfl ?_
      refine VL.done ?_
      refine VN.then ?_
      by_cases c6530 : 0 ≤ t6528
      · rw [if_pos c6530] at h
        by_cases c6531 : 0 ≤ wrap64 (t6528 + (IntKind.i64.wrap ((wrap64 ((l0_0.length : Int) - 2)).tdiv 2)))
        · rw [if_pos c6531] at h
          by_cases c6532 : (wrap64 (t6528 + (IntKind.i64.wrap ((wrap64 ((l0_0.length : Int) - 2)).tdiv 2)))) ≤ (l0_0.length : Int)
          · rw [if_pos c6532] at h
            by_cases c6533 : t6528 ≤ (wrap64 (t6528 + (IntKind.i64.wrap ((wrap64 ((l0_0.length : Int) - 2)).tdiv 2))))
            · rw [if_pos c6533] at h
              replace h := Option.bind_eq_some_iff.1 h
              obtain ⟨r6536, hA6537, h⟩ := h
              by_cases c6538 : 0 ≤ i6509
              · rw [if_pos c6538] at h
                by_cases c6539 : i6509 ≤ (r6536.size : Int)
                · rw [if_pos c6539] at h
                  replace h := Option.bind_eq_some_iff.1 h
                  obtain ⟨⟨r6540, t6541⟩, hA6542, h⟩ := h
                  dsimp only at h
                  refine VC.join1 (fun (v6544 : Value) => ⟨94, [(1, .pointer (some ⟨g5032, 0, none⟩)), (2, .pointer (some ⟨g5033, 0, none⟩)), (3, .int .i64 0), (4, .pointer (some ⟨g5827, 0, none⟩)), (10, v6544), (11, .int .i64 t6541)], [.row v0_0 1 (l0_0.map enc_str), .row v0_1 2 (l0_1.map enc55)], [(g5827, 27, [v6502, v6505, .int .i64 i6507, .int .i64 i6508, .int .i64 i6509, v6511, v6514]), (g5033, 27, [.slice none 0 0, .slice none 0 0, .int .i64 0, .int .i64 0, .int .i64 0, .slice none 0 0, .slice none 0 0]), (g5032, 25, [v0_0, v0_1])], [(v6544, 9, 1, r6540.map enc_str), (v6502, 9, 1, l6503.map enc_str), (v6505, 56, 2, l6506.map enc55), (v6511, 9, 1, l6512.map enc_str), (v6514, 9, 1, l6515.map enc_str)]⟩) (fun (v6544 : Value) => True) ?_ ?_
                  · refine VC.draw ⟨0, [], [.row v0_0 1 (l0_0.map enc_str)], [(g5827, 27, [v6502, v6505, .int .i64 i6507, .int .i64 i6508, .int .i64 i6509, v6511, v6514]), (g5032, 25, [v0_0, v0_1])], []⟩ (by kernel_rfl) rfl (by kernel_rfl) (n := 21) (listed := LB 21 0) ?_
                    refine VA.va (i := 0) (listed' := LB 21 1) rfl (op_fieldAddr FI25_0 rfl (add_at _ _ _) (ltn rfl)) rfl (by kernel_rfl) (by kernel_rfl) (by kernel_rfl) (by kernel_rfl) ⟨⟨⟨0, rfl⟩, trivial⟩, ⟨⟨0, rfl⟩, ⟨2, rfl⟩, trivial⟩, trivial⟩ (fun _ _ _ h => h) ?_
                    refine VA.va (i := 1) (listed' := LB 21 3) rfl (op_load 1 1 rfl rfl TI22 rfl (by decide) (ltn rfl)) rfl (by kernel_rfl) (by kernel_rfl) (by kernel_rfl) (by kernel_rfl) ⟨⟨⟨0, rfl⟩, trivial⟩, ⟨⟨0, rfl⟩, ⟨2, rfl⟩, trivial⟩, trivial⟩ (fun _ _ _ h => h) ?_
                    refine VA.va (i := 2) (listed' := LB 21 7) rfl (op_move rfl (ltn rfl)) rfl (by kernel_rfl) (by kernel_rfl) (by kernel_rfl) (by kernel_rfl) ⟨⟨⟨0, rfl⟩, trivial⟩, ⟨⟨0, rfl⟩, ⟨2, rfl⟩, trivial⟩, trivial⟩ (fun _ _ _ h => h) ?_
                    refine VA.va (i := 3) (listed' := LB 21 15) rfl (op_move rfl (ltn rfl)) rfl (by kernel_rfl) (by kernel_rfl) (by kernel_rfl) (by kernel_rfl) ⟨⟨⟨0, rfl⟩, trivial⟩, ⟨⟨0, rfl⟩, ⟨2, rfl⟩, trivial⟩, trivial⟩ (fun _ _ _ h => h) ?_
                    refine VA.va (i := 4) (listed' := LB 21 31) rfl (op_fieldAddr FI25_0 rfl (add_at _ _ _) (ltn rfl)) rfl (by kernel_rfl) (by kernel_rfl) (by kernel_rfl) (by kernel_rfl) ⟨⟨⟨0, rfl⟩, trivial⟩, ⟨⟨0, rfl⟩, ⟨2, rfl⟩, trivial⟩, trivial⟩ (fun _ _ _ h => h) ?_
                    refine VA.va (i := 5) (listed' := LB 21 63) rfl (op_load 1 1 rfl rfl TI22 rfl (by decide) (ltn rfl)) rfl (by kernel_rfl) (by kernel_rfl) (by kernel_rfl) (by kernel_rfl) ⟨⟨⟨0, rfl⟩, trivial⟩, ⟨⟨0, rfl⟩, ⟨2, rfl⟩, trivial⟩, trivial⟩ (fun _ _ _ h => h) ?_
                    refine VA.va (i := 6) (listed' := LB 21 127) rfl (op_len (m := l0_0.length) 0 lenm Try.underlying22 rfl rfl (ltn rfl)) rfl (by kernel_rfl) (by kernel_rfl) (by kernel_rfl) (by kernel_rfl) ⟨⟨⟨0, rfl⟩, trivial⟩, ⟨⟨0, rfl⟩, ⟨2, rfl⟩, trivial⟩, trivial⟩ (fun _ _ _ h => h) ?_
                    refine VA.va (i := 7) (listed' := LB 21 255) rfl (op_ari64 rfl rfl rfl (ltn rfl)) rfl (by kernel_rfl) (by kernel_rfl) (by kernel_rfl) (by kernel_rfl) ⟨⟨⟨0, rfl⟩, trivial⟩, ⟨⟨0, rfl⟩, ⟨2, rfl⟩, trivial⟩, trivial⟩ (fun _ _ _ h => h) ?_
                    refine VA.va (i := 8) (listed' := LB 21 511) rfl (op_quo rfl rfl (by decide) rfl (ltn rfl)) rfl (by kernel_rfl) (by kernel_rfl) (by kernel_rfl) (by kernel_rfl) ⟨⟨⟨0, rfl⟩, trivial⟩, ⟨⟨0, rfl⟩, ⟨2, rfl⟩, trivial⟩, trivial⟩ (fun _ _ _ h => h) ?_
                    refine VA.va (i := 9) (listed' := LB 21 1023) rfl (op_ari64 rfl rfl rfl (ltn rfl)) rfl (by kernel_rfl) (by kernel_rfl) (by kernel_rfl) (by kernel_rfl) ⟨⟨⟨0, rfl⟩, trivial⟩, ⟨⟨0, rfl⟩, ⟨2, rfl⟩, trivial⟩, trivial⟩ (fun _ _ _ h => h) ?_
                    refine VA.cut (i := 10) (listed' := LB 21 2047) rfl (m := l0_0.length) 0 t6528.toNat ((wrap64 (t6528 + (IntKind.i64.wrap ((wrap64 ((l0_0.length : Int) - 2)).tdiv 2)))).toNat) lenm cutm Try.underlying22 TI9 rfl rfl ⟨⟨_, _, rfl, c6530, rfl⟩, ⟨_, _, rfl, c6531, rfl⟩, by omega, by omega⟩ (ltn rfl) rfl (by kernel_rfl) (by kernel_rfl) (by kernel_rfl) (by kernel_rfl) ⟨⟨⟨0, rfl⟩, trivial⟩, ⟨⟨0, rfl⟩, ⟨2, rfl⟩, trivial⟩, trivial⟩ (fun _ _ _ _ h => h) ?_
                    intro v6535
                    refine VA.va (i := 12) (listed' := LB 21 6143) rfl (op_fieldAddr FI27_3 rfl (add_at _ _ _) (ltn rfl)) rfl (by kernel_rfl) (by kernel_rfl) (by kernel_rfl) (by kernel_rfl) ⟨⟨⟨1, rfl⟩, trivial⟩, ⟨⟨0, rfl⟩, ⟨2, rfl⟩, trivial⟩, trivial⟩ (fun _ _ _ h => h) ?_
                    refine VA.va (i := 13) (listed' := LB 21 14335) rfl (op_load 0 1 rfl rfl TI3 rfl (by decide) (ltn rfl)) rfl (by kernel_rfl) (by kernel_rfl) (by kernel_rfl) (by kernel_rfl) ⟨⟨⟨1, rfl⟩, trivial⟩, ⟨⟨0, rfl⟩, ⟨2, rfl⟩, trivial⟩, trivial⟩ (fun _ _ _ h => h) ?_
                    refine VA.oneC (i := 11) (listed' := LB 21 16383) (by kernel_rfl) rfl (o_call_b0 FO27 (strings_Join.ok ((l0_0.take ((wrap64 (t6528 + (IntKind.i64.wrap ((wrap64 ((l0_0.length : Int) - 2)).tdiv 2)))).toNat)).drop t6528.toNat) (⟨#[]⟩ : ByteArray) v6535 r6536 hA6537) rfl rfl (ltn rfl) (All_of (.cons (.inl (List.mem_of_getElem? (i := 0) rfl)) .nil)) (by rintro _ _ _ ⟨rfl, rfl, rfl⟩; rfl)) rfl (by kernel_rfl) ?_
                    rintro _ _ _ ⟨rfl, rfl, rfl⟩
                    refine ⟨⟨⟨⟨1, rfl⟩, trivial⟩, ⟨⟨0, rfl⟩, ⟨2, rfl⟩, trivial⟩, trivial⟩, ?_⟩
                    refine VA.va (i := 14) (listed' := LB 21 32767) rfl (op_sliceS 0 i6509.toNat Try.underlying9 rfl ⟨rfl, ⟨_, _, rfl, c6538, rfl⟩, by omega, by omega⟩ rfl (ltn rfl)) rfl (by kernel_rfl) (by kernel_rfl) (by kernel_rfl) (by kernel_rfl) ⟨⟨⟨1, rfl⟩, trivial⟩, ⟨⟨0, rfl⟩, ⟨2, rfl⟩, trivial⟩, trivial⟩ (fun _ _ _ h => h) ?_
                    refine VA.oneC (i := 15) (listed' := LB 21 65535) (by kernel_rfl) rfl (o_call0 FO26 (frame_All.ok k (r6536.extract 0 i6509.toNat) r6540 t6541 hA6542) rfl rfl (ltn rfl) (All_of .nil)) rfl (by kernel_rfl) ?_
                    rintro _ _ _ ⟨v6544, rfl, rfl, rfl⟩
                    refine ⟨⟨⟨⟨1, rfl⟩, trivial⟩, ⟨⟨0, rfl⟩, ⟨2, rfl⟩, trivial⟩, trivial⟩, ?_⟩
                    refine VA.more ⟨0, [], [.row v0_0 1 (l0_0.map enc_str)], [(g5827, 27, [v6502, v6505, .int .i64 i6507, .int .i64 i6508, .int .i64 i6509, v6511, v6514]), (g5032, 25, [v0_0, v0_1])], [(v6544, 9, 1, r6540.map enc_str)]⟩ ⟨⟨⟨0, rfl⟩, trivial⟩, ⟨⟨0, rfl⟩, ⟨1, rfl⟩, trivial⟩, trivial⟩ ?_
                    refine VA.va (i := 16) (listed' := LB 21 131071) rfl (op_move rfl (ltn rfl)) rfl (by kernel_rfl) (by kernel_rfl) (by kernel_rfl) (by kernel_rfl) ⟨⟨⟨1, rfl⟩, trivial⟩, ⟨⟨0, rfl⟩, ⟨2, rfl⟩, trivial⟩, ⟨⟨0, rfl⟩, trivial⟩⟩ (fun _ _ _ h => h) ?_
                    refine VA.va (i := 17) (listed' := LB 21 262143) rfl (op_extract rfl rfl (ltn rfl)) rfl (by kernel_rfl) (by kernel_rfl) (by kernel_rfl) (by kernel_rfl) ⟨⟨⟨1, rfl⟩, trivial⟩, ⟨⟨0, rfl⟩, ⟨2, rfl⟩, trivial⟩, ⟨⟨0, rfl⟩, trivial⟩⟩ (fun _ _ _ h => h) ?_
                    refine VA.va (i := 18) (listed' := LB 21 524287) rfl (op_extract rfl rfl (ltn rfl)) rfl (by kernel_rfl) (by kernel_rfl) (by kernel_rfl) (by kernel_rfl) ⟨⟨⟨1, rfl⟩, trivial⟩, ⟨⟨0, rfl⟩, ⟨2, rfl⟩, trivial⟩, ⟨⟨0, rfl⟩, trivial⟩⟩ (fun _ _ _ h => h) ?_
                    refine VA.va (i := 19) (listed' := LB 21 1048575) rfl (op_assign rfl (ltn rfl)) rfl (by kernel_rfl) (by kernel_rfl) (by kernel_rfl) (by kernel_rfl) ⟨⟨⟨1, rfl⟩, trivial⟩, ⟨⟨0, rfl⟩, ⟨2, rfl⟩, trivial⟩, ⟨⟨0, rfl⟩, trivial⟩⟩ (fun _ _ _ h => h) ?_
                    refine VA.va (i := 20) (listed' := LB 21 2097151) rfl (op_assign rfl (ltn rfl)) rfl (by kernel_rfl) (by kernel_rfl) (by kernel_rfl) (by kernel_rfl) ⟨⟨⟨1, rfl⟩, trivial⟩, ⟨⟨0, rfl⟩, ⟨2, rfl⟩, trivial⟩, ⟨⟨0, rfl⟩, trivial⟩⟩ (fun _ _ _ h => h) ?_
                    refine VA.done (by kernel_rfl) ?_
                    exact VN.meet1 v6544 [0, 1, 2] [0, 1, 2, 3, 4] trivial ⟨rfl, ⟨rfl, rfl, rfl, rfl, rfl, rfl, trivial⟩, ⟨⟨1, rfl⟩, ⟨2, rfl⟩, trivial⟩, rfl, by decide, rfl, by decide⟩
                  intro v6544 _
                  refine VC.seq ?_
                  refine VC.seq ?_
                  refine VC.region ?_
                  refine VL.va (op_move rfl (ltn rfl)) rfl ?_
                  refine VL.letter ((t6541 != 0)) fun b6551 hb6551 => ?_
                  refine VL.va (op_cmp rfl rfl (congrArg some hb6551) (ltn rfl)) rfl ?_
                  refine VL.done ?_
                  refine VN.then ?_
                  by_cases c6552 : t6541 = 0
                  · rw [if_pos c6552] at h
                    obtain rfl : b6551 = false := hb6551.symm.trans (bne_eq_false_iff_eq.2 c6552)
                    refine VC.cond_f rfl ?_
                    refine VC.skip ?_
                    refine VN.then ?_
                    refine VC.seq ?_
                    refine VC.region ?_
                    refine VL.va (op_load 2 2 rfl rfl TI25 rfl (fun h => absurd h (by decide)) (ltn rfl)) rfl ?_
                    refine VL.va (op_move rfl (ltn rfl)) rfl ?_
                    refine VL.va (op_fieldAddr FI27_0 rfl (add_at _ _ _) (ltn rfl)) rfl ?_
                    refine VL.step1 (o_store 0 2 rfl rfl rfl TI25 (.agg (.f 0 rfl (.f 1 rfl .nil))) rfl (len rfl)) rfl ?_
                    refine VL.va (op_fieldAddr FI27_5 rfl (add_at _ _ _) (ltn rfl)) rfl ?_
                    refine VL.step1 (o_store 0 1 rfl rfl rfl TI22 (.r 0 rfl) rfl (len rfl)) rfl ?_
                    refine VL.done ?_
                    refine VN.then ?_
                    refine VC.seq ?_
                    refine VC.region ?_
                    refine VL.va (op_load 0 7 rfl rfl TI27 rfl (fun h => absurd h (by decide)) (ltn rfl)) rfl ?_
                    refine VL.step1 (o_store 1 7 rfl rfl rfl TI27 (.agg (.f 0 rfl (.f 1 rfl (.c rfl (.c rfl (.c rfl (.r 3 rfl (.r 0 rfl .nil)))))))) rfl (len rfl)) rfl ?_
                    refine VL.va (op_assign rfl (ltn rfl)) rfl ?_
                    refine VL.done ?_
                    refine VN.then ?_
                    refine VC.ret ?_
                    simp only [Option.some.injEq, Prod.mk.injEq] at h
                    obtain ⟨rfl, rfl, rfl, rfl, rfl, rfl, rfl, rfl⟩ := h
                    exact VR.fn (rs := [.cell 2 27, .tmp 3]) [.row v0_0 1 (l0_0.map enc_str), .row v0_1 2 (l0_1.map enc55)] [(v6511, 9, 1, l6512.map enc_str), (v6544, 9, 1, r6540.map enc_str)] [3, 0] rfl (.cell 1 rfl rfl TI27 (fun h => absurd h (by decide)) (.tmp rfl .nil)) ⟨v0_0, v0_1, v6511, v6544, rfl, rfl, rfl⟩ ⟨⟨0, rfl⟩, ⟨1, rfl⟩, trivial⟩ rfl (by decide)
                  · rw [if_neg c6552] at h
                    obtain rfl : b6551 = true := hb6551.symm.trans (bne_iff_ne.2 c6552)
                    refine VC.cond_t rfl ?_
                    refine VC.seq ?_
                    refine VC.region ?_
                    refine VL.va (op_build (vals := []) (vcs := []) (cells := [.slice none 0 0, .slice none 0 0, .int .i64 0, .int .i64 0, .int .i64 0, .slice none 0 0, .slice none 0 0]) SI27 rfl .nil (by kernel_rfl) (ltn rfl)) rfl ?_
                    refine VL.va (op_move rfl (ltn rfl)) rfl ?_
                    refine VL.step1 (o_store 1 7 rfl rfl rfl TI27 (.agg (.of rfl)) rfl (len rfl)) rfl ?_
                    refine VL.va (op_assign rfl (ltn rfl)) rfl ?_
                    refine VL.done ?_
                    refine VN.then ?_
                    refine VC.ret ?_
                    refine VR.then ?_
                    simp only [Option.some.injEq, Prod.mk.injEq] at h
                    obtain ⟨rfl, rfl, rfl, rfl, rfl, rfl, rfl, rfl⟩ := h
                    refine VR.nilFact' 1 ?_
                    refine VR.nilFact' 2 ?_
                    refine VR.nilRow' 9 1 ?_
                    refine VR.nilRow' 9 1 ?_
                    exact VR.fn (rs := [.cell 2 27, .tmp 3]) [.row (.slice none 0 0) 1 (([] : List ByteArray).map enc_str), .row (.slice none 0 0) 2 (([] : List S55).map enc55)] [((.slice none 0 0), 9, 1, ([] : List ByteArray).map enc_str), ((.slice none 0 0), 9, 1, ([] : List ByteArray).map enc_str)] [1, 0] rfl (.cell 1 rfl rfl TI27 (fun h => absurd h (by decide)) (.tmp rfl .nil)) ⟨(.slice none 0 0), (.slice none 0 0), (.slice none 0 0), (.slice none 0 0), rfl, rfl, rfl⟩ ⟨⟨1, rfl⟩, ⟨0, rfl⟩, trivial⟩ rfl (by decide)
                · rw [if_neg c6539] at h; cases h
              · rw [if_neg c6538] at h; cases h
            · rw [if_neg c6533] at h; cases h
          · rw [if_neg c6532] at h; cases h
        · rw [if_neg c6531] at h; cases h
      · rw [if_neg c6530] at h; cases h
set_option maxHeartbeats 4000000 in
set_option maxRecDepth 100000 in
theorem slices_Equal_string_string.ok (k : Nat) (l0 : List ByteArray) (l1 : List ByteArray) (v0 : Value) (v1 : Value) (r1 : Bool) (h : slices_Equal_string_string.f k l0 l1 = some r1) :
    VCalls Try.prog 34 [v0, v1] [.row v0 1 (l0.map enc_str), .row v1 1 (l1.map enc_str)] (fun v G own => v = .bool r1 ∧ G = [] ∧ own = []) := by
  refine VCalls.intro Try.func34 rfl (len rfl) fun E hC hW hD hU => ?_
  unfold slices_Equal_string_string.f at h
  refine VC.seq ?_
  refine VC.region ?_
  refine VL.va (op_assign rfl (ltn rfl)) rfl ?_
  refine VL.done ?_
  refine VN.then ?_
  refine VC.seq ?_
  refine VC.seq ?_
  refine VC.region ?_
  refine VL.va (op_move rfl (ltn rfl)) rfl ?_
  refine VL.va (op_len (m := l0.length) 0 lenm Try.underlying22 rfl rfl (ltn rfl)) rfl ?_
  refine VL.va (op_move rfl (ltn rfl)) rfl ?_
  refine VL.va (op_len (m := l1.length) 1 lenm Try.underlying22 rfl rfl (ltn rfl)) rfl ?_
  refine VL.letter (((l0.length : Int) != (l1.length : Int))) fun b6585 hb6585 => ?_
  refine VL.va (op_cmp rfl rfl (congrArg some hb6585) (ltn rfl)) rfl ?_
  refine VL.done ?_
  refine VN.then ?_
  by_cases c6586 : (l0.length : Int) = (l1.length : Int)
  · rw [if_pos c6586] at h
    obtain rfl : b6585 = false := hb6585.symm.trans (bne_eq_false_iff_eq.2 c6586)
    refine VC.cond_f rfl ?_
    refine VC.skip ?_
    refine VN.then ?_
    refine VC.seq ?_
    refine VC.seq ?_
    refine VC.region ?_
    refine VL.va (op_move rfl (ltn rfl)) rfl ?_
    refine VL.va (op_len (m := l0.length) 0 lenm Try.underlying22 rfl rfl (ltn rfl)) rfl ?_
    refine VL.va (op_move rfl (ltn rfl)) rfl ?_
    refine VL.done ?_
    refine VN.then ?_
    refine VC.block ?_
    refine VC.loop1 (fun (i6640 : Int) => ⟨26, [(0, v0), (1, v1), (4, .bool false), (12, .int .i64 (l0.length : Int)), (13, .int .i64 i6640)], [.row v0 1 (l0.map enc_str), .row v1 1 (l1.map enc_str)], [], []⟩) (fun (ml1 : Nat) (i6640 : Int) => slices_Equal_string_string.l1 k l0 l1 ml1 i6640 = some r1) k 0 [] [] h ⟨rfl, ⟨rfl, rfl, rfl, rfl, rfl, trivial⟩, ⟨⟨0, rfl⟩, ⟨1, rfl⟩, trivial⟩, rfl, by decide, rfl, by decide⟩ (by intros; simp [slices_Equal_string_string.l1]) ?_
    clear h
    intro ml1 ihl1 i6640 h
    simp only [slices_Equal_string_string.l1] at h
    refine VC.seq ?_
    refine VC.region ?_
    refine VL.letter (decide (i6640 < (l0.length : Int))) fun b6654 hb6654 => ?_
    refine VL.va (op_cmp rfl rfl (congrArg some hb6654) (ltn rfl)) rfl ?_
    refine VL.done ?_
    refine VN.then ?_
    refine VC.seq ?_
    by_cases c6656 : i6640 < (l0.length : Int)
    · rw [if_pos c6656] at h
      obtain rfl : b6654 = true := hb6654.symm.trans (decide_eq_true c6656)
      refine VC.cond_t rfl ?_
      refine VC.skip ?_
      refine VN.then ?_
      refine VC.seq ?_
      refine VC.block ?_
      refine VC.seq ?_
      refine VC.region ?_
      refine VL.va (op_move rfl (ltn rfl)) rfl ?_
      refine VL.va (op_assign rfl (ltn rfl)) rfl ?_
      refine VL.done ?_
      refine VN.then ?_
      by_cases c6662 : 0 ≤ i6640
      · rw [if_pos c6662] at h
        replace h := Option.bind_eq_some_iff.1 h
        obtain ⟨x6663, hx6663, h⟩ := h
        replace h := Option.bind_eq_some_iff.1 h
        obtain ⟨x6664, hx6664, h⟩ := h
        refine VC.letter ((x6663 != x6664)) fun b6665 hb6665 => ?_
        refine VC.open (m := l0.length) 0 lenm rfl (pos_get hx6663) ?_
        rintro ad6591 n6592 rfl
        refine VC.open (m := l1.length) 1 lenm rfl (pos_get hx6664) ?_
        rintro ad6594 n6595 rfl
        refine VC.join0 (⟨26, [(0, (.slice (some ad6591) l0.length n6592)), (1, (.slice (some ad6594) l1.length n6595)), (4, .bool false), (5, .int .i64 i6640), (12, .int .i64 (l0.length : Int)), (13, .int .i64 i6640), (14, .bool true), (15, .int .i64 i6640), (16, (.slice (some ad6591) l0.length n6592)), (17, .int .i64 i6640), (19, .string x6663), (20, (.slice (some ad6594) l1.length n6595)), (21, .int .i64 i6640), (23, .string x6664), (24, .bool b6665)], [.row (.slice (some ad6591) l0.length n6592) 1 (l0.map enc_str), .row (.slice (some ad6594) l1.length n6595) 1 (l1.map enc_str)], [], []⟩) (True) ?_ ?_
        · refine VC.draw ⟨0, [], [.row (.slice (some ad6591) l0.length n6592) 1 (l0.map enc_str), .row (.slice (some ad6594) l1.length n6595) 1 (l1.map enc_str)], [], []⟩ (by kernel_rfl) rfl (by kernel_rfl) (n := 9) (listed := LB 9 0) ?_
          refine VA.va (i := 0) (listed' := LB 9 1) rfl (op_move rfl (ltn rfl)) rfl (by kernel_rfl) (by kernel_rfl) (by kernel_rfl) (by kernel_rfl) ⟨⟨⟨0, rfl⟩, ⟨1, rfl⟩, trivial⟩, trivial, trivial⟩ (fun _ _ _ h => h) ?_
          refine VA.va (i := 1) (listed' := LB 9 3) rfl (op_move rfl (ltn rfl)) rfl (by kernel_rfl) (by kernel_rfl) (by kernel_rfl) (by kernel_rfl) ⟨⟨⟨0, rfl⟩, ⟨1, rfl⟩, trivial⟩, trivial, trivial⟩ (fun _ _ _ h => h) ?_
          refine VA.va (i := 2) (listed' := LB 9 7) rfl (op_indexAddr Try.underlying22 TI9 rfl rfl c6662 (lt_get c6662 hx6663) rfl (ltn rfl)) rfl (by kernel_rfl) (by kernel_rfl) (by kernel_rfl) (by kernel_rfl) ⟨⟨⟨0, rfl⟩, ⟨1, rfl⟩, trivial⟩, trivial, trivial⟩ (fun _ _ _ h => h) ?_
          refine VA.va (i := 3) (listed' := LB 9 15) rfl (op_load_row (sz := 1) (o := 0) 0 i6640.toNat 1 rfl rfl (get_map hx6663) TI9 rfl (by decide) (ltn rfl)) rfl (by kernel_rfl) (by kernel_rfl) (by kernel_rfl) (by kernel_rfl) ⟨⟨⟨0, rfl⟩, ⟨1, rfl⟩, trivial⟩, trivial, trivial⟩ (fun _ _ _ h => h) ?_
          refine VA.va (i := 4) (listed' := LB 9 31) rfl (op_move rfl (ltn rfl)) rfl (by kernel_rfl) (by kernel_rfl) (by kernel_rfl) (by kernel_rfl) ⟨⟨⟨0, rfl⟩, ⟨1, rfl⟩, trivial⟩, trivial, trivial⟩ (fun _ _ _ h => h) ?_
          refine VA.va (i := 5) (listed' := LB 9 63) rfl (op_move rfl (ltn rfl)) rfl (by kernel_rfl) (by kernel_rfl) (by kernel_rfl) (by kernel_rfl) ⟨⟨⟨0, rfl⟩, ⟨1, rfl⟩, trivial⟩, trivial, trivial⟩ (fun _ _ _ h => h) ?_
          refine VA.va (i := 6) (listed' := LB 9 127) rfl (op_indexAddr Try.underlying22 TI9 rfl rfl c6662 (lt_get c6662 hx6664) rfl (ltn rfl)) rfl (by kernel_rfl) (by kernel_rfl) (by kernel_rfl) (by kernel_rfl) ⟨⟨⟨0, rfl⟩, ⟨1, rfl⟩, trivial⟩, trivial, trivial⟩ (fun _ _ _ h => h) ?_
          refine VA.va (i := 7) (listed' := LB 9 255) rfl (op_load_row (sz := 1) (o := 0) 1 i6640.toNat 1 rfl rfl (get_map hx6664) TI9 rfl (by decide) (ltn rfl)) rfl (by kernel_rfl) (by kernel_rfl) (by kernel_rfl) (by kernel_rfl) ⟨⟨⟨0, rfl⟩, ⟨1, rfl⟩, trivial⟩, trivial, trivial⟩ (fun _ _ _ h => h) ?_
          refine VA.va (i := 8) (listed' := LB 9 511) rfl (op_cmps rfl rfl (congrArg some hb6665) (ltn rfl)) rfl (by kernel_rfl) (by kernel_rfl) (by kernel_rfl) (by kernel_rfl) ⟨⟨⟨0, rfl⟩, ⟨1, rfl⟩, trivial⟩, trivial, trivial⟩ (fun _ _ _ h => h) ?_
          refine VA.done (by kernel_rfl) ?_
          exact VN.meet0  [] [] trivial ⟨rfl, ⟨rfl, rfl, rfl, rfl, rfl, rfl, rfl, rfl, rfl, rfl, rfl, rfl, rfl, rfl, rfl, trivial⟩, ⟨⟨0, rfl⟩, ⟨1, rfl⟩, trivial⟩, rfl, by decide, rfl, by decide⟩
        intro _
        by_cases c6666 : (x6663 == x6664) = true
        · rw [if_pos c6666] at h
          obtain rfl : b6665 = false := hb6665.symm.trans (bne_of_t c6666)
          refine VC.cond_f rfl ?_
          refine VC.skip ?_
          refine VN.block ?_
          refine VN.then ?_
          refine VC.region ?_
          refine VL.va (op_ari64 rfl rfl rfl (ltn rfl)) rfl ?_
          refine VL.va (op_move rfl (ltn rfl)) rfl ?_
          refine VL.done ?_
          refine VN.again [] [] (ihl1 (wrap64 (i6640 + 1)) h) ⟨rfl, ⟨rfl, rfl, rfl, rfl, rfl, trivial⟩, ⟨⟨0, rfl⟩, ⟨1, rfl⟩, trivial⟩, rfl, by decide, rfl, by decide⟩
        · rw [if_neg c6666] at h
          obtain rfl : b6665 = true := hb6665.symm.trans (bne_of_f c6666)
          refine VC.cond_t rfl ?_
          refine VC.seq ?_
          refine VC.region ?_
          refine VL.va (op_assign rfl (ltn rfl)) rfl ?_
          refine VL.done ?_
          refine VN.then ?_
          refine VC.ret ?_
          refine VR.block ?_
          refine VR.then ?_
          refine VR.then ?_
          refine VR.block ?_
          refine VR.then ?_
          obtain rfl := Option.some.inj h
          exact VR.fn (rs := [.tmp 4]) [] [] [] rfl (.tmp rfl .nil) ⟨rfl, rfl, rfl⟩ trivial rfl (by decide)
      · rw [if_neg c6662] at h; cases h
    · rw [if_neg c6656] at h
      obtain rfl : b6654 = false := hb6654.symm.trans (decide_eq_false c6656)
      refine VC.cond_f rfl ?_
      refine VC.exit ?_
      refine VX.then ?_
      refine VX.then ?_
      refine VX.hit ?_
      refine VN.then ?_
      refine VC.seq ?_
      refine VC.region ?_
      refine VL.va (op_assign rfl (ltn rfl)) rfl ?_
      refine VL.done ?_
      refine VN.then ?_
      refine VC.ret ?_
      obtain rfl := Option.some.inj h
      exact VR.fn (rs := [.tmp 4]) [] [] [] rfl (.tmp rfl .nil) ⟨rfl, rfl, rfl⟩ trivial rfl (by decide)
  · rw [if_neg c6586] at h
    obtain rfl : b6585 = true := hb6585.symm.trans (bne_iff_ne.2 c6586)
    refine VC.cond_t rfl ?_
    refine VC.seq ?_
    refine VC.region ?_
    refine VL.va (op_assign rfl (ltn rfl)) rfl ?_
    refine VL.done ?_
    refine VN.then ?_
    refine VC.ret ?_
    refine VR.then ?_
    obtain rfl := Option.some.inj h
    exact VR.fn (rs := [.tmp 4]) [] [] [] rfl (.tmp rfl .nil) ⟨rfl, rfl, rfl⟩ trivial rfl (by decide)
set_option maxHeartbeats 4000000 in
set_option maxRecDepth 100000 in
theorem journal_waits_1.ok (a0 : ByteArray)  (r1 : Bool) (h : journal_waits_1.f a0 = some r1) :
    VCalls Try.prog 67 [.string a0] [] (fun v G own => v = .bool r1 ∧ G = [] ∧ own = []) := by
  refine VCalls.intro Try.func67 rfl (len rfl) fun E hC hW hD hU => ?_
  unfold journal_waits_1.f at h
  refine VC.seq ?_
  refine VC.region ?_
  refine VL.va (op_assign rfl (ltn rfl)) rfl ?_
  refine VL.done ?_
  refine VN.then ?_
  refine VC.seq ?_
  refine VC.region ?_
  refine VL.va (op_move rfl (ltn rfl)) rfl ?_
  refine VL.va (op_lens Try.underlying9 rfl (ltn rfl)) rfl ?_
  refine VL.letter (decide ((a0.size : Int) > 1000)) fun b6694 hb6694 => ?_
  refine VL.va (op_cmp rfl rfl (congrArg some hb6694) (ltn rfl)) rfl ?_
  refine VL.va (op_assign rfl (ltn rfl)) rfl ?_
  refine VL.done ?_
  refine VN.then ?_
  refine VC.ret ?_
  obtain rfl := Option.some.inj h
  subst hb6694
  exact VR.fn (rs := [.tmp 2]) [] [] [] rfl (.tmp rfl .nil) ⟨rfl, rfl, rfl⟩ trivial rfl (by decide)
set_option maxHeartbeats 4000000 in
set_option maxRecDepth 100000 in
theorem slices_IndexFunc_string_string_s25.ok (k : Nat) (l0 : List ByteArray) (v0 : Value) (r1 : Int) (h : slices_IndexFunc_string_string_s25.f k l0 = some r1) :
    VCalls Try.prog 74 [v0, (.func (.func 67) #[] #[])] [.row v0 1 (l0.map enc_str)] (fun v G own => v = .int .i64 r1 ∧ G = [] ∧ own = []) := by
  refine VCalls.intro Try.func74 rfl (len rfl) fun E hC hW hD hU => ?_
  unfold slices_IndexFunc_string_string_s25.f at h
  refine VC.seq ?_
  refine VC.region ?_
  refine VL.va (op_assign rfl (ltn rfl)) rfl ?_
  refine VL.done ?_
  refine VN.then ?_
  refine VC.seq ?_
  refine VC.seq ?_
  refine VC.region ?_
  refine VL.va (op_move rfl (ltn rfl)) rfl ?_
  refine VL.va (op_len (m := l0.length) 0 lenm Try.underlying22 rfl rfl (ltn rfl)) rfl ?_
  refine VL.va (op_move rfl (ltn rfl)) rfl ?_
  refine VL.done ?_
  refine VN.then ?_
  refine VC.block ?_
  refine VC.loop1 (fun (i6754 : Int) => ⟨19, [(0, v0), (1, (.func (.func 67) #[] #[])), (4, .int .i64 0), (7, .int .i64 (l0.length : Int)), (8, .int .i64 i6754)], [.row v0 1 (l0.map enc_str)], [], []⟩) (fun (ml1 : Nat) (i6754 : Int) => slices_IndexFunc_string_string_s25.l1 k l0 ml1 i6754 = some r1) k 0 [] [] h ⟨rfl, ⟨rfl, rfl, rfl, rfl, rfl, trivial⟩, ⟨⟨0, rfl⟩, trivial⟩, rfl, by decide, rfl, by decide⟩ (by intros; simp [slices_IndexFunc_string_string_s25.l1]) ?_
  clear h
  intro ml1 ihl1 i6754 h
  simp only [slices_IndexFunc_string_string_s25.l1] at h
  refine VC.seq ?_
  refine VC.region ?_
  refine VL.letter (decide (i6754 < (l0.length : Int))) fun b6772 hb6772 => ?_
  refine VL.va (op_cmp rfl rfl (congrArg some hb6772) (ltn rfl)) rfl ?_
  refine VL.done ?_
  refine VN.then ?_
  refine VC.seq ?_
  by_cases c6774 : i6754 < (l0.length : Int)
  · rw [if_pos c6774] at h
    obtain rfl : b6772 = true := hb6772.symm.trans (decide_eq_true c6774)
    refine VC.cond_t rfl ?_
    refine VC.skip ?_
    refine VN.then ?_
    refine VC.seq ?_
    refine VC.block ?_
    refine VC.seq ?_
    refine VC.region ?_
    refine VL.va (op_move rfl (ltn rfl)) rfl ?_
    refine VL.va (op_assign rfl (ltn rfl)) rfl ?_
    refine VL.done ?_
    refine VN.then ?_
    refine VC.seq ?_
    refine VC.region ?_
    refine VL.va (op_move rfl (ltn rfl)) rfl ?_
    refine VL.va (op_move rfl (ltn rfl)) rfl ?_
    refine VL.va (op_move rfl (ltn rfl)) rfl ?_
    by_cases c6782 : 0 ≤ i6754
    · rw [if_pos c6782] at h
      replace h := Option.bind_eq_some_iff.1 h
      obtain ⟨x6783, hx6783, h⟩ := h
      refine VL.open (m := l0.length) 0 lenm rfl (pos_get hx6783) ?_
      rintro ad6784 n6785 rfl
      refine VL.va (op_indexAddr Try.underlying22 TI9 rfl rfl c6782 (lt_get c6782 hx6783) rfl (ltn rfl)) rfl ?_
      refine VL.va (op_load_row (sz := 1) (o := 0) 0 i6754.toNat 1 rfl rfl (get_map hx6783) TI9 rfl (by decide) (ltn rfl)) rfl ?_
      replace h := Option.bind_eq_some_iff.1 h
      obtain ⟨t6786, hA6787, h⟩ := h
      refine VL.sC (o_call0 FO67 (journal_waits_1.ok x6783 t6786 hA6787) rfl rfl (ltn rfl) (All_of .nil)) rfl ?_
      rintro _ _ _ ⟨rfl, rfl, rfl⟩
      refine VL.done ?_
      refine VN.then ?_
      by_cases c6788 : t6786 = true
      · rw [if_pos c6788] at h
        obtain rfl := c6788
        refine VC.cond_t rfl ?_
        refine VC.seq ?_
        refine VC.region ?_
        refine VL.va (op_move rfl (ltn rfl)) rfl ?_
        refine VL.va (op_assign rfl (ltn rfl)) rfl ?_
        refine VL.done ?_
        refine VN.then ?_
        refine VC.ret ?_
        refine VR.block ?_
        refine VR.then ?_
        refine VR.then ?_
        refine VR.block ?_
        refine VR.then ?_
        obtain rfl := Option.some.inj h
        exact VR.fn (rs := [.tmp 4]) [] [] [] rfl (.tmp rfl .nil) ⟨rfl, rfl, rfl⟩ trivial rfl (by decide)
      · rw [if_neg c6788] at h
        obtain rfl := Bool.eq_false_iff.2 c6788
        refine VC.cond_f rfl ?_
        refine VC.skip ?_
        refine VN.block ?_
        refine VN.then ?_
        refine VC.region ?_
        refine VL.va (op_ari64 rfl rfl rfl (ltn rfl)) rfl ?_
        refine VL.va (op_move rfl (ltn rfl)) rfl ?_
        refine VL.done ?_
        refine VN.again [] [] (ihl1 (wrap64 (i6754 + 1)) h) ⟨rfl, ⟨rfl, rfl, rfl, rfl, rfl, trivial⟩, ⟨⟨0, rfl⟩, trivial⟩, rfl, by decide, rfl, by decide⟩
    · rw [if_neg c6782] at h; cases h
  · rw [if_neg c6774] at h
    obtain rfl : b6772 = false := hb6772.symm.trans (decide_eq_false c6774)
    refine VC.cond_f rfl ?_
    refine VC.exit ?_
    refine VX.then ?_
    refine VX.then ?_
    refine VX.hit ?_
    refine VN.then ?_
    refine VC.seq ?_
    refine VC.region ?_
    refine VL.va (op_assign rfl (ltn rfl)) rfl ?_
    refine VL.done ?_
    refine VN.then ?_
    refine VC.ret ?_
    obtain rfl := Option.some.inj h
    exact VR.fn (rs := [.tmp 4]) [] [] [] rfl (.tmp rfl .nil) ⟨rfl, rfl, rfl⟩ trivial rfl (by decide)
set_option maxHeartbeats 4000000 in
set_option maxRecDepth 100000 in
theorem slices_ContainsFunc_string_string_s25.ok (k : Nat) (l0 : List ByteArray) (v0 : Value) (r1 : Bool) (h : slices_ContainsFunc_string_string_s25.f k l0 = some r1) :
    VCalls Try.prog 53 [v0, (.func (.func 67) #[] #[])] [.row v0 1 (l0.map enc_str)] (fun v G own => v = .bool r1 ∧ G = [] ∧ own = []) := by
  refine VCalls.intro Try.func53 rfl (len rfl) fun E hC hW hD hU => ?_
  unfold slices_ContainsFunc_string_string_s25.f at h
  refine VC.seq ?_
  refine VC.region ?_
  refine VL.va (op_assign rfl (ltn rfl)) rfl ?_
  refine VL.done ?_
  refine VN.then ?_
  refine VC.seq ?_
  refine VC.region ?_
  refine VL.va (op_move rfl (ltn rfl)) rfl ?_
  refine VL.va (op_move rfl (ltn rfl)) rfl ?_
  replace h := Option.bind_eq_some_iff.1 h
  obtain ⟨t6789, hA6790, h⟩ := h
  refine VL.sC (o_call0 FO74 (slices_IndexFunc_string_string_s25.ok k l0 v0 t6789 hA6790) rfl rfl (ltn rfl) (All_of (.cons (List.mem_of_getElem? (i := 0) rfl) .nil))) rfl ?_
  rintro _ _ _ ⟨rfl, rfl, rfl⟩
  refine VL.letter (decide (t6789 ≥ 0)) fun b6791 hb6791 => ?_
  refine VL.va (op_cmp rfl rfl (congrArg some hb6791) (ltn rfl)) rfl ?_
  refine VL.va (op_assign rfl (ltn rfl)) rfl ?_
  refine VL.done ?_
  refine VN.then ?_
  refine VC.ret ?_
  obtain rfl := Option.some.inj h
  subst hb6791
  exact VR.fn (rs := [.tmp 4]) [] [] [] rfl (.tmp rfl .nil) ⟨rfl, rfl, rfl⟩ trivial rfl (by decide)

end Go.Proofs.Ytipeglbeongfmaa.PJournalUnused
