/- Written by a program of this repo: what the program's functions do, each as a Lean function, shown of the loaded code; or a statement's row over that; no condition of its own. -/
import Derived.Test.YtoiihpmncphplaaPGoodsKnowx0
namespace Go.Proofs.Ytoiihpmncphplaa.PGoodsKnow
open Go Go.RowKit Go.Proofs.YtoiihpmncphplaaV
set_option linter.unusedVariables false
set_option linter.unusedSimpArgs false

set_option maxHeartbeats 4000000 in
set_option maxRecDepth 100000 in
theorem tarrylaw07_cut.ok (a0_0 : ByteArray) (a0_1 : ByteArray) (a0_2 : Int) (a0_3 : Int) (a0_4 : Int)  (r1 : ByteArray) (r2 : ByteArray) (r3 : Int) (r4 : Int) (r5 : Int) (h : tarrylaw07_cut.f a0_0 a0_1 a0_2 a0_3 a0_4 = some (r1, r2, r3, r4, r5)) :
    VCalls Try.prog 6 [.agg #[.string a0_0, .string a0_1, .int .i64 a0_2, .int .i64 a0_3, .int .i64 a0_4]] [] (fun v G own => v = .agg #[.string r1, .string r2, .int .i64 r3, .int .i64 r4, .int .i64 r5] ∧ G = [] ∧ own = []) := by
  refine VCalls.intro Try.func6 rfl (len rfl) fun E hC => ?_
  unfold tarrylaw07_cut.f at h
  refine VC.seq ?_
  refine VC.region ?_
  refine VL.sG (o_box rfl (.agg (.of rfl)) (ltn rfl)) rfl ?_
  intro g111
  refine VL.sG (o_alloc Z23 ZL23 (ltn rfl)) rfl ?_
  intro g112
  refine VL.done ?_
  refine VN.then ?_
  by_cases c113 : 0 ≤ mn (a0_0.size : Int) 18
  · rw [if_pos c113] at h
    by_cases c114 : (mn (a0_0.size : Int) 18) ≤ (a0_0.size : Int)
    · rw [if_pos c114] at h
      by_cases c115 : 0 ≤ mn (a0_1.size : Int) 18
      · rw [if_pos c115] at h
        by_cases c116 : (mn (a0_1.size : Int) 18) ≤ (a0_1.size : Int)
        · rw [if_pos c116] at h
          refine VC.join0 (⟨20, [(1, .pointer (some ⟨g111, 0, none⟩)), (2, .pointer (some ⟨g112, 0, none⟩))], [], [(g112, 23, [.string (⟨#[]⟩ : ByteArray), .string (⟨#[]⟩ : ByteArray), .int .i64 0, .int .i64 0, .int .i64 0]), (g111, 23, [.string (a0_0.extract 0 ((mn (a0_0.size : Int) 18).toNat)), .string (a0_1.extract 0 ((mn (a0_1.size : Int) 18).toNat)), .int .i64 a0_2, .int .i64 a0_3, .int .i64 a0_4])], []⟩) (True) ?_ ?_
          · refine VC.drawB ⟨0, [], [], [], []⟩ [15, 17] ⟨0, [], [], [(g111, 23, [.string a0_0, .string a0_1, .int .i64 a0_2, .int .i64 a0_3, .int .i64 a0_4])], []⟩ (by kernel_rfl) rfl (by kernel_rfl) (n := 18) (listed := LB 18 0) ?_
            refine VB.va (i := 0) (listed' := LB 18 1) rfl (op_fieldAddr FI23_0 rfl (add_at _ _ _) (ltn rfl)) rfl (by kernel_rfl) (by kernel_rfl) (by kernel_rfl) (by kernel_rfl) (by decide) (PartP.on ⟨trivial, trivial, trivial⟩ ⟨trivial, ⟨⟨1, rfl⟩, trivial⟩, trivial⟩) (fun _ _ _ h => h) ?_
            refine VB.vb (i := 1) (listed' := LB 18 3) rfl (op_load 0 1 rfl rfl TI9 rfl (by decide) (ltn rfl)) rfl (by kernel_rfl) (by kernel_rfl) (by kernel_rfl) (by kernel_rfl) (by kernel_rfl) (by kernel_rfl) (PartP.on ⟨trivial, trivial, trivial⟩ ⟨trivial, ⟨⟨1, rfl⟩, trivial⟩, trivial⟩) (fun _ _ _ h => h) ?_
            refine VB.va (i := 2) (listed' := LB 18 7) rfl (op_fieldAddr FI23_0 rfl (add_at _ _ _) (ltn rfl)) rfl (by kernel_rfl) (by kernel_rfl) (by kernel_rfl) (by kernel_rfl) (by decide) (PartP.on ⟨trivial, trivial, trivial⟩ ⟨trivial, ⟨⟨1, rfl⟩, trivial⟩, trivial⟩) (fun _ _ _ h => h) ?_
            refine VB.vb (i := 3) (listed' := LB 18 15) rfl (op_load 0 1 rfl rfl TI9 rfl (by decide) (ltn rfl)) rfl (by kernel_rfl) (by kernel_rfl) (by kernel_rfl) (by kernel_rfl) (by kernel_rfl) (by kernel_rfl) (PartP.on ⟨trivial, trivial, trivial⟩ ⟨trivial, ⟨⟨1, rfl⟩, trivial⟩, trivial⟩) (fun _ _ _ h => h) ?_
            refine VB.va (i := 4) (listed' := LB 18 31) rfl (op_lens Try.underlying9 rfl (ltn rfl)) rfl (by kernel_rfl) (by kernel_rfl) (by kernel_rfl) (by kernel_rfl) (by decide) (PartP.on ⟨trivial, trivial, trivial⟩ ⟨trivial, ⟨⟨1, rfl⟩, trivial⟩, trivial⟩) (fun _ _ _ h => h) ?_
            refine VB.va (i := 5) (listed' := LB 18 63) rfl (op_min rfl rfl (ltn rfl)) rfl (by kernel_rfl) (by kernel_rfl) (by kernel_rfl) (by kernel_rfl) (by decide) (PartP.on ⟨trivial, trivial, trivial⟩ ⟨trivial, ⟨⟨1, rfl⟩, trivial⟩, trivial⟩) (fun _ _ _ h => h) ?_
            refine VB.va (i := 6) (listed' := LB 18 127) rfl (op_sliceS 0 ((mn (a0_0.size : Int) 18).toNat) Try.underlying9 rfl ⟨rfl, ⟨_, _, rfl, c113, rfl⟩, by omega, by omega⟩ rfl (ltn rfl)) rfl (by kernel_rfl) (by kernel_rfl) (by kernel_rfl) (by kernel_rfl) (by decide) (PartP.on ⟨trivial, trivial, trivial⟩ ⟨trivial, ⟨⟨1, rfl⟩, trivial⟩, trivial⟩) (fun _ _ _ h => h) ?_
            refine VB.va (i := 7) (listed' := LB 18 255) rfl (op_fieldAddr FI23_1 rfl (add_at _ _ _) (ltn rfl)) rfl (by kernel_rfl) (by kernel_rfl) (by kernel_rfl) (by kernel_rfl) (by decide) (PartP.on ⟨trivial, trivial, trivial⟩ ⟨trivial, ⟨⟨1, rfl⟩, trivial⟩, trivial⟩) (fun _ _ _ h => h) ?_
            refine VB.vb (i := 8) (listed' := LB 18 511) rfl (op_load 0 1 rfl rfl TI9 rfl (by decide) (ltn rfl)) rfl (by kernel_rfl) (by kernel_rfl) (by kernel_rfl) (by kernel_rfl) (by kernel_rfl) (by kernel_rfl) (PartP.on ⟨trivial, trivial, trivial⟩ ⟨trivial, ⟨⟨1, rfl⟩, trivial⟩, trivial⟩) (fun _ _ _ h => h) ?_
            refine VB.va (i := 9) (listed' := LB 18 1023) rfl (op_fieldAddr FI23_1 rfl (add_at _ _ _) (ltn rfl)) rfl (by kernel_rfl) (by kernel_rfl) (by kernel_rfl) (by kernel_rfl) (by decide) (PartP.on ⟨trivial, trivial, trivial⟩ ⟨trivial, ⟨⟨1, rfl⟩, trivial⟩, trivial⟩) (fun _ _ _ h => h) ?_
            refine VB.vb (i := 10) (listed' := LB 18 2047) rfl (op_load 0 1 rfl rfl TI9 rfl (by decide) (ltn rfl)) rfl (by kernel_rfl) (by kernel_rfl) (by kernel_rfl) (by kernel_rfl) (by kernel_rfl) (by kernel_rfl) (PartP.on ⟨trivial, trivial, trivial⟩ ⟨trivial, ⟨⟨1, rfl⟩, trivial⟩, trivial⟩) (fun _ _ _ h => h) ?_
            refine VB.va (i := 11) (listed' := LB 18 4095) rfl (op_lens Try.underlying9 rfl (ltn rfl)) rfl (by kernel_rfl) (by kernel_rfl) (by kernel_rfl) (by kernel_rfl) (by decide) (PartP.on ⟨trivial, trivial, trivial⟩ ⟨trivial, ⟨⟨1, rfl⟩, trivial⟩, trivial⟩) (fun _ _ _ h => h) ?_
            refine VB.va (i := 12) (listed' := LB 18 8191) rfl (op_min rfl rfl (ltn rfl)) rfl (by kernel_rfl) (by kernel_rfl) (by kernel_rfl) (by kernel_rfl) (by decide) (PartP.on ⟨trivial, trivial, trivial⟩ ⟨trivial, ⟨⟨1, rfl⟩, trivial⟩, trivial⟩) (fun _ _ _ h => h) ?_
            refine VB.va (i := 13) (listed' := LB 18 16383) rfl (op_sliceS 0 ((mn (a0_1.size : Int) 18).toNat) Try.underlying9 rfl ⟨rfl, ⟨_, _, rfl, c115, rfl⟩, by omega, by omega⟩ rfl (ltn rfl)) rfl (by kernel_rfl) (by kernel_rfl) (by kernel_rfl) (by kernel_rfl) (by decide) (PartP.on ⟨trivial, trivial, trivial⟩ ⟨trivial, ⟨⟨1, rfl⟩, trivial⟩, trivial⟩) (fun _ _ _ h => h) ?_
            refine VB.va (i := 14) (listed' := LB 18 32767) rfl (op_fieldAddr FI23_0 rfl (add_at _ _ _) (ltn rfl)) rfl (by kernel_rfl) (by kernel_rfl) (by kernel_rfl) (by kernel_rfl) (by decide) (PartP.on ⟨trivial, trivial, trivial⟩ ⟨trivial, ⟨⟨1, rfl⟩, trivial⟩, trivial⟩) (fun _ _ _ h => h) ?_
            refine VB.one1 (i := 15) (listed' := LB 18 65535) (by kernel_rfl) rfl (o_store 1 1 rfl rfl rfl TI9 (.c rfl) rfl (len rfl)) rfl (by kernel_rfl) (PartP.off (by kernel_rfl) ⟨trivial, trivial, trivial⟩) ?_
            refine VB.va (i := 16) (listed' := LB 18 131071) rfl (op_fieldAddr FI23_1 rfl (add_at _ _ _) (ltn rfl)) rfl (by kernel_rfl) (by kernel_rfl) (by kernel_rfl) (by kernel_rfl) (by decide) (PartP.off (by kernel_rfl) ⟨trivial, trivial, trivial⟩) (fun _ _ _ h => h) ?_
            refine VB.one1 (i := 17) (listed' := LB 18 262143) (by kernel_rfl) rfl (o_store 1 1 rfl rfl rfl TI9 (.c rfl) rfl (len rfl)) rfl (by kernel_rfl) (PartP.off (by kernel_rfl) ⟨trivial, trivial, trivial⟩) ?_
            refine VB.done (by kernel_rfl) ?_
            exact VN.meet0  [0, 1] [] trivial ⟨rfl, ⟨rfl, rfl, trivial⟩, trivial, rfl, by decide, rfl, by decide⟩
          intro _
          refine VC.seq ?_
          refine VC.region ?_
          refine VL.va (op_load 1 5 rfl rfl TI23 rfl (fun h => absurd h (by decide)) (ltn rfl)) rfl ?_
          refine VL.step1 (o_store 0 5 rfl rfl rfl TI23 (.agg (.of rfl)) rfl (len rfl)) rfl ?_
          refine VL.done ?_
          refine VN.then ?_
          refine VC.ret ?_
          simp only [Option.some.injEq, Prod.mk.injEq] at h
          obtain ⟨rfl, rfl, rfl, rfl, rfl⟩ := h
          exact VR.fn (rs := [.cell 2 23]) [] [] [] rfl (.cell 0 rfl rfl TI23 (fun h => absurd h (by decide)) .nil) ⟨rfl, rfl, rfl⟩ trivial rfl (by decide)
        · rw [if_neg c116] at h; cases h
      · rw [if_neg c115] at h; cases h
    · rw [if_neg c114] at h; cases h
  · rw [if_neg c113] at h; cases h
set_option maxHeartbeats 4000000 in
set_option maxRecDepth 100000 in
theorem tarrylaw07_few.ok (k : Nat) (l0_0 : List ByteArray) (l0_1 : List S22) (v0_0 : Value) (v0_1 : Value) (r1 : List ByteArray) (r2 : List S22) (h : tarrylaw07_few.f k l0_0 l0_1 = some (r1, r2)) :
    VCalls Try.prog 11 [.agg #[v0_0, v0_1]] [.row v0_0 1 (l0_0.map enc_str), .row v0_1 5 (l0_1.map enc22)] (fun v G own => ∃ w0 w1 : Value, v = .agg #[w0, w1] ∧ G = [] ∧ own = [(w0, 9, 1, r1.map enc_str), (w1, 23, 5, r2.map enc22)]) := by
  refine VCalls.intro Try.func11 rfl (len rfl) fun E hC => ?_
  unfold tarrylaw07_few.f at h
  refine VC.seq ?_
  refine VC.region ?_
  refine VL.sG (o_box rfl (.agg (.f 0 rfl (.f 1 rfl .nil))) (ltn rfl)) rfl ?_
  intro g7
  refine VL.sG (o_alloc Z35 ZL35 (ltn rfl)) rfl ?_
  intro g8
  refine VL.done ?_
  refine VN.then ?_
  refine VC.seq ?_
  refine VC.region ?_
  refine VL.sG (o_alloc Z35 ZL35 (ltn rfl)) rfl ?_
  intro g9
  refine VL.done ?_
  refine VN.then ?_
  refine VC.seq ?_
  refine VC.seq ?_
  refine VC.region ?_
  refine VL.va (op_fieldAddr FI35_0 rfl (add_at _ _ _) (ltn rfl)) rfl ?_
  refine VL.va (op_load 2 1 rfl rfl TI32 rfl (by decide) (ltn rfl)) rfl ?_
  refine VL.va (op_fieldAddr FI35_0 rfl (add_at _ _ _) (ltn rfl)) rfl ?_
  refine VL.va (op_load 2 1 rfl rfl TI32 rfl (by decide) (ltn rfl)) rfl ?_
  refine VL.va (op_len (m := l0_0.length) 0 lenm Try.underlying32 rfl rfl (ltn rfl)) rfl ?_
  refine VL.va (op_min rfl rfl (ltn rfl)) rfl ?_
  by_cases c61 : 0 ≤ mn (l0_0.length : Int) 10
  · rw [if_pos c61] at h
    by_cases c62 : (mn (l0_0.length : Int) 10) ≤ (l0_0.length : Int)
    · rw [if_pos c62] at h
      refine VL.sG (o_slice (m := l0_0.length) 0 0 ((mn (l0_0.length : Int) 10).toNat) lenm cutm Try.underlying32 TI9 rfl rfl ⟨rfl, ⟨_, _, rfl, c61, rfl⟩, by omega, by omega⟩ (ltn rfl)) rfl ?_
      intro v64
      refine VL.va (op_len (m := ((l0_0.take ((mn (l0_0.length : Int) 10).toNat)).drop 0).length) 0 lenm Try.underlying32 rfl rfl (ltn rfl)) rfl ?_
      refine VL.va (op_move rfl (ltn rfl)) rfl ?_
      refine VL.done ?_
      refine VN.then ?_
      refine VC.block ?_
      refine VC.nilRow' 9 1 ?_
      refine VC.loop3 (fun (i79 : Int) (v81 : Value) (l82 : List ByteArray) => ⟨52, [(1, .pointer (some ⟨g7, 0, none⟩)), (2, .pointer (some ⟨g8, 0, none⟩)), (3, .pointer (some ⟨g9, 0, none⟩)), (14, v64), (15, .int .i64 (((l0_0.take ((mn (l0_0.length : Int) 10).toNat)).drop 0).length : Int)), (16, .int .i64 i79)], [.row v64 1 (((l0_0.take ((mn (l0_0.length : Int) 10).toNat)).drop 0).map enc_str), .row v0_0 1 (l0_0.map enc_str), .row v0_1 5 (l0_1.map enc22)], [(g9, 35, [v81, .slice none 0 0]), (g8, 35, [.slice none 0 0, .slice none 0 0]), (g7, 35, [v0_0, v0_1])], [(v81, 9, 1, l82.map enc_str)]⟩) (fun (ml1 : Nat) (i79 : Int) (v81 : Value) (l82 : List ByteArray) => tarrylaw07_few.l1 k l0_0 l0_1 ml1 i79 l82 = some (r1, r2)) k 0 (.slice none 0 0) ([] : List ByteArray) [0, 1, 2] [0] h ⟨rfl, ⟨rfl, rfl, rfl, rfl, rfl, rfl, trivial⟩, ⟨⟨0, rfl⟩, ⟨1, rfl⟩, ⟨2, rfl⟩, trivial⟩, rfl, by decide, rfl, by decide⟩ (by intros; simp [tarrylaw07_few.l1]) ?_
      clear h
      intro ml1 ihl1 i79 v81 l82 h
      simp only [tarrylaw07_few.l1] at h
      refine VC.seq ?_
      refine VC.region ?_
      refine VL.letter (decide (i79 < (((l0_0.take ((mn (l0_0.length : Int) 10).toNat)).drop 0).length : Int))) fun b98 hb98 => ?_
      refine VL.va (op_cmp rfl rfl (congrArg some hb98) (ltn rfl)) rfl ?_
      refine VL.done ?_
      refine VN.then ?_
      refine VC.seq ?_
      by_cases c238 : i79 < (((l0_0.take ((mn (l0_0.length : Int) 10).toNat)).drop 0).length : Int)
      · rw [if_pos c238] at h
        obtain rfl : b98 = true := hb98.symm.trans (decide_eq_true c238)
        refine VC.cond_t rfl ?_
        refine VC.skip ?_
        refine VN.then ?_
        refine VC.seq ?_
        refine VC.block ?_
        refine VC.seq ?_
        refine VC.region ?_
        by_cases c239 : 0 ≤ i79
        · rw [if_pos c239] at h
          replace h := Option.bind_eq_some_iff.1 h
          obtain ⟨x240, hx240, h⟩ := h
          refine VL.open (m := ((l0_0.take ((mn (l0_0.length : Int) 10).toNat)).drop 0).length) 0 lenm rfl (pos_get hx240) ?_
          rintro ad241 n242 rfl
          refine VL.va (op_indexAddr Try.underlying32 TI9 rfl rfl c239 (lt_get c239 hx240) rfl (ltn rfl)) rfl ?_
          refine VL.va (op_load_row (sz := 1) (o := 0) 0 i79.toNat 1 rfl rfl (get_map hx240) TI9 rfl (by decide) (ltn rfl)) rfl ?_
          refine VL.va (op_assign rfl (ltn rfl)) rfl ?_
          refine VL.done ?_
          refine VN.then ?_
          by_cases c243 : 0 ≤ mn (x240.size : Int) 18
          · rw [if_pos c243] at h
            by_cases c244 : (mn (x240.size : Int) 18) ≤ (x240.size : Int)
            · rw [if_pos c244] at h
              by_cases c247 : (l82.length + ([x240.extract 0 ((mn (x240.size : Int) 18).toNat)] : List ByteArray).length) * 16 ≤ 140737488355328
              · rw [if_pos c247] at h
                refine VC.stop2 (fun (v246 : Value) (v248 : Value) => ⟨52, [(1, .pointer (some ⟨g7, 0, none⟩)), (2, .pointer (some ⟨g8, 0, none⟩)), (3, .pointer (some ⟨g9, 0, none⟩)), (5, .string x240), (14, (.slice (some ad241) ((l0_0.take ((mn (l0_0.length : Int) 10).toNat)).drop 0).length n242)), (15, .int .i64 (((l0_0.take ((mn (l0_0.length : Int) 10).toNat)).drop 0).length : Int)), (16, .int .i64 i79), (17, .bool true), (19, .string x240), (20, .pointer (some ⟨g9, 0, none⟩)), (22, .string x240), (23, .string x240), (24, .int .i64 (x240.size : Int)), (25, .int .i64 (mn (x240.size : Int) 18)), (26, .string (x240.extract 0 ((mn (x240.size : Int) 18).toNat))), (27, v246), (28, v248), (29, .pointer (some ⟨g9, 0, none⟩))], [.row (.slice (some ad241) ((l0_0.take ((mn (l0_0.length : Int) 10).toNat)).drop 0).length n242) 1 (((l0_0.take ((mn (l0_0.length : Int) 10).toNat)).drop 0).map enc_str), .row v0_0 1 (l0_0.map enc_str), .row v0_1 5 (l0_1.map enc22)], [(g9, 35, [v248, .slice none 0 0]), (g8, 35, [.slice none 0 0, .slice none 0 0]), (g7, 35, [v0_0, v0_1])], [(v246, 9, 1, ([x240.extract 0 ((mn (x240.size : Int) 18).toNat)] : List ByteArray).map enc_str), (v248, 9, 1, (l82 ++ ([x240.extract 0 ((mn (x240.size : Int) 18).toNat)] : List ByteArray)).map enc_str)]⟩) (fun (v246 : Value) (v248 : Value) => True) ?_ ?_
                · refine VC.drawB ⟨0, [], [], [], []⟩ [8, 10] ⟨0, [], [], [(g9, 35, [v81, .slice none 0 0])], []⟩ (by kernel_rfl) rfl (by kernel_rfl) (n := 11) (listed := LB 11 0) ?_
                  refine VB.va (i := 0) (listed' := LB 11 1) rfl (op_fieldAddr FI35_0 rfl (add_at _ _ _) (ltn rfl)) rfl (by kernel_rfl) (by kernel_rfl) (by kernel_rfl) (by kernel_rfl) (by decide) (PartP.on ⟨trivial, trivial, trivial⟩ ⟨trivial, ⟨⟨0, rfl⟩, trivial⟩, trivial⟩) (fun _ _ _ h => h) ?_
                  refine VB.vb (i := 1) (listed' := LB 11 3) rfl (op_load 0 1 rfl rfl TI32 rfl (by decide) (ltn rfl)) rfl (by kernel_rfl) (by kernel_rfl) (by kernel_rfl) (by kernel_rfl) (by kernel_rfl) (by kernel_rfl) (PartP.on ⟨trivial, trivial, trivial⟩ ⟨trivial, ⟨⟨0, rfl⟩, trivial⟩, trivial⟩) (fun _ _ _ h => h) ?_
                  refine VB.va (i := 2) (listed' := LB 11 7) rfl (op_move rfl (ltn rfl)) rfl (by kernel_rfl) (by kernel_rfl) (by kernel_rfl) (by kernel_rfl) (by decide) (PartP.on ⟨trivial, trivial, trivial⟩ ⟨trivial, ⟨⟨0, rfl⟩, trivial⟩, trivial⟩) (fun _ _ _ h => h) ?_
                  refine VB.va (i := 3) (listed' := LB 11 15) rfl (op_move rfl (ltn rfl)) rfl (by kernel_rfl) (by kernel_rfl) (by kernel_rfl) (by kernel_rfl) (by decide) (PartP.on ⟨trivial, trivial, trivial⟩ ⟨trivial, ⟨⟨0, rfl⟩, trivial⟩, trivial⟩) (fun _ _ _ h => h) ?_
                  refine VB.va (i := 4) (listed' := LB 11 31) rfl (op_lens Try.underlying9 rfl (ltn rfl)) rfl (by kernel_rfl) (by kernel_rfl) (by kernel_rfl) (by kernel_rfl) (by decide) (PartP.on ⟨trivial, trivial, trivial⟩ ⟨trivial, ⟨⟨0, rfl⟩, trivial⟩, trivial⟩) (fun _ _ _ h => h) ?_
                  refine VB.va (i := 5) (listed' := LB 11 63) rfl (op_min rfl rfl (ltn rfl)) rfl (by kernel_rfl) (by kernel_rfl) (by kernel_rfl) (by kernel_rfl) (by decide) (PartP.on ⟨trivial, trivial, trivial⟩ ⟨trivial, ⟨⟨0, rfl⟩, trivial⟩, trivial⟩) (fun _ _ _ h => h) ?_
                  refine VB.va (i := 6) (listed' := LB 11 127) rfl (op_sliceS 0 ((mn (x240.size : Int) 18).toNat) Try.underlying9 rfl ⟨rfl, ⟨_, _, rfl, c243, rfl⟩, by omega, by omega⟩ rfl (ltn rfl)) rfl (by kernel_rfl) (by kernel_rfl) (by kernel_rfl) (by kernel_rfl) (by decide) (PartP.on ⟨trivial, trivial, trivial⟩ ⟨trivial, ⟨⟨0, rfl⟩, trivial⟩, trivial⟩) (fun _ _ _ h => h) ?_
                  refine VB.oneG (i := 7) (listed' := LB 11 255) (by kernel_rfl) rfl (o_buildSlice (vals := [(0, .string (x240.extract 0 ((mn (x240.size : Int) 18).toNat)))]) (cells := #[.string (x240.extract 0 ((mn (x240.size : Int) 18).toNat))]) (es := List.map enc_str ([x240.extract 0 ((mn (x240.size : Int) 18).toNat)] : List ByteArray)) Try.underlying32 TI9 Z9 rfl (by decide) (by decide) (by kernel_rfl) (by kernel_rfl) rfl (flat_map enc_str_ok _) (ltn rfl)) rfl (by kernel_rfl) (fun _ => (PartP.on ⟨trivial, trivial, trivial⟩ ⟨trivial, ⟨⟨0, rfl⟩, trivial⟩, trivial⟩)) ?_
                  intro v246
                  refine VB.oneG (i := 8) (listed' := LB 11 511) (by kernel_rfl) rfl (o_append 1 appm Try.underlying32 EI9 rfl rfl rfl (.inr ⟨0, _, rfl⟩) (bndm c247) (ltn rfl)) rfl (by kernel_rfl) (fun _ => (PartP.off (by kernel_rfl) ⟨trivial, trivial, trivial⟩)) ?_
                  intro v248
                  refine VB.va (i := 9) (listed' := LB 11 1023) rfl (op_fieldAddr FI35_0 rfl (add_at _ _ _) (ltn rfl)) rfl (by kernel_rfl) (by kernel_rfl) (by kernel_rfl) (by kernel_rfl) (by decide) (PartP.off (by kernel_rfl) ⟨trivial, trivial, trivial⟩) (fun _ _ _ h => h) ?_
                  refine VB.one1 (i := 10) (listed' := LB 11 2047) (by kernel_rfl) rfl (o_store 0 1 rfl rfl rfl TI32 (.r 1 rfl) rfl (len rfl)) rfl (by kernel_rfl) (PartP.off (by kernel_rfl) ⟨trivial, trivial, trivial⟩) ?_
                  refine VB.done (by kernel_rfl) ?_
                  exact VN.meet2 v246 v248 [0, 1, 2] [0, 1] trivial ⟨rfl, ⟨rfl, rfl, rfl, rfl, rfl, rfl, rfl, rfl, rfl, rfl, rfl, rfl, rfl, rfl, rfl, rfl, rfl, rfl, trivial⟩, ⟨⟨0, rfl⟩, ⟨1, rfl⟩, ⟨2, rfl⟩, trivial⟩, rfl, by decide, rfl, by decide⟩
                intro v246 v248 _
                refine VN.block ?_
                refine VN.then ?_
                refine VC.region ?_
                refine VL.va (op_ari64 rfl rfl rfl (ltn rfl)) rfl ?_
                refine VL.va (op_move rfl (ltn rfl)) rfl ?_
                refine VL.done ?_
                refine VN.again [0, 1, 2] [1] (ihl1 (wrap64 (i79 + 1)) v248 (l82 ++ ([x240.extract 0 ((mn (x240.size : Int) 18).toNat)] : List ByteArray)) h) ⟨rfl, ⟨rfl, rfl, rfl, rfl, rfl, rfl, trivial⟩, ⟨⟨0, rfl⟩, ⟨1, rfl⟩, ⟨2, rfl⟩, trivial⟩, rfl, by decide, rfl, by decide⟩
              · rw [if_neg c247] at h; cases h
            · rw [if_neg c244] at h; cases h
          · rw [if_neg c243] at h; cases h
        · rw [if_neg c239] at h; cases h
      · rw [if_neg c238] at h
        obtain rfl : b98 = false := hb98.symm.trans (decide_eq_false c238)
        refine VC.cond_f rfl ?_
        refine VC.exit ?_
        refine VX.then ?_
        refine VX.then ?_
        refine VX.hit ?_
        refine VN.then ?_
        refine VC.seq ?_
        refine VC.seq ?_
        refine VC.region ?_
        refine VL.va (op_fieldAddr FI35_1 rfl (add_at _ _ _) (ltn rfl)) rfl ?_
        refine VL.va (op_load 2 1 rfl rfl TI33 rfl (by decide) (ltn rfl)) rfl ?_
        refine VL.va (op_fieldAddr FI35_1 rfl (add_at _ _ _) (ltn rfl)) rfl ?_
        refine VL.va (op_load 2 1 rfl rfl TI33 rfl (by decide) (ltn rfl)) rfl ?_
        refine VL.va (op_len (m := l0_1.length) 2 lenm Try.underlying33 rfl rfl (ltn rfl)) rfl ?_
        refine VL.va (op_min rfl rfl (ltn rfl)) rfl ?_
        by_cases c316 : 0 ≤ mn (l0_1.length : Int) 18
        · rw [if_pos c316] at h
          by_cases c317 : (mn (l0_1.length : Int) 18) ≤ (l0_1.length : Int)
          · rw [if_pos c317] at h
            refine VL.sG (o_slice (m := l0_1.length) 2 0 ((mn (l0_1.length : Int) 18).toNat) lenm cutm Try.underlying33 TI23 rfl rfl ⟨rfl, ⟨_, _, rfl, c316, rfl⟩, by omega, by omega⟩ (ltn rfl)) rfl ?_
            intro v319
            refine VL.va (op_len (m := ((l0_1.take ((mn (l0_1.length : Int) 18).toNat)).drop 0).length) 0 lenm Try.underlying33 rfl rfl (ltn rfl)) rfl ?_
            refine VL.va (op_move rfl (ltn rfl)) rfl ?_
            refine VL.done ?_
            refine VN.then ?_
            refine VC.block ?_
            refine VC.nilRow' 23 5 ?_
            refine VC.loop3 (fun (i339 : Int) (v341 : Value) (l342 : List S22) => ⟨52, [(2, .pointer (some ⟨g8, 0, none⟩)), (3, .pointer (some ⟨g9, 0, none⟩)), (37, v319), (38, .int .i64 (((l0_1.take ((mn (l0_1.length : Int) 18).toNat)).drop 0).length : Int)), (39, .int .i64 i339)], [.row v319 5 (((l0_1.take ((mn (l0_1.length : Int) 18).toNat)).drop 0).map enc22)], [(g9, 35, [v81, v341]), (g8, 35, [.slice none 0 0, .slice none 0 0])], [(v341, 23, 5, l342.map enc22), (v81, 9, 1, l82.map enc_str)]⟩) (fun (ml5 : Nat) (i339 : Int) (v341 : Value) (l342 : List S22) => tarrylaw07_few.l5 k l0_1 l82 ml5 i339 l342 = some (r1, r2)) k 0 (.slice none 0 0) ([] : List S22) [0, 1] [0, 1] h ⟨rfl, ⟨rfl, rfl, rfl, rfl, rfl, trivial⟩, ⟨⟨0, rfl⟩, trivial⟩, rfl, by decide, rfl, by decide⟩ (by intros; simp [tarrylaw07_few.l5]) ?_
            clear h
            intro ml5 ihl5 i339 v341 l342 h
            simp only [tarrylaw07_few.l5] at h
            refine VC.seq ?_
            refine VC.region ?_
            refine VL.letter (decide (i339 < (((l0_1.take ((mn (l0_1.length : Int) 18).toNat)).drop 0).length : Int))) fun b363 hb363 => ?_
            refine VL.va (op_cmp rfl rfl (congrArg some hb363) (ltn rfl)) rfl ?_
            refine VL.done ?_
            refine VN.then ?_
            refine VC.seq ?_
            by_cases c365 : i339 < (((l0_1.take ((mn (l0_1.length : Int) 18).toNat)).drop 0).length : Int)
            · rw [if_pos c365] at h
              obtain rfl : b363 = true := hb363.symm.trans (decide_eq_true c365)
              refine VC.cond_t rfl ?_
              refine VC.skip ?_
              refine VN.then ?_
              refine VC.seq ?_
              refine VC.block ?_
              refine VC.seq ?_
              refine VC.region ?_
              by_cases c366 : 0 ≤ i339
              · rw [if_pos c366] at h
                replace h := Option.bind_eq_some_iff.1 h
                obtain ⟨x367, hx367, h⟩ := h
                refine VL.open (m := ((l0_1.take ((mn (l0_1.length : Int) 18).toNat)).drop 0).length) 0 lenm rfl (pos_get hx367) ?_
                rintro ad368 n369 rfl
                refine VL.va (op_indexAddr Try.underlying33 TI23 rfl rfl c366 (lt_get c366 hx367) rfl (ltn rfl)) rfl ?_
                refine VL.va (op_load_row (sz := 5) (o := 0) 0 i339.toNat 5 rfl rfl (get_map hx367) TI23 rfl (fun h => absurd h (by decide)) (ltn rfl)) rfl ?_
                refine VL.sG (o_alloc Z23 ZL23 (ltn rfl)) rfl ?_
                intro g370
                refine VL.step1 (o_store 0 5 rfl rfl rfl TI23 (.agg (.of rfl)) rfl (len rfl)) rfl ?_
                refine VL.done ?_
                refine VN.then ?_
                replace h := Option.bind_eq_some_iff.1 h
                obtain ⟨⟨t371, t372, t373, t374, t375⟩, hA376, h⟩ := h
                dsimp only at h
                by_cases c379 : (l342.length + ([(⟨t371, t372, t373, t374, t375⟩ : S22)] : List S22).length) * 56 ≤ 140737488355328
                · rw [if_pos c379] at h
                  refine VC.stop2 (fun (v378 : Value) (v380 : Value) => ⟨52, [(2, .pointer (some ⟨g8, 0, none⟩)), (3, .pointer (some ⟨g9, 0, none⟩)), (7, .pointer (some ⟨g370, 0, none⟩)), (37, (.slice (some ad368) ((l0_1.take ((mn (l0_1.length : Int) 18).toNat)).drop 0).length n369)), (38, .int .i64 (((l0_1.take ((mn (l0_1.length : Int) 18).toNat)).drop 0).length : Int)), (39, .int .i64 i339), (40, .bool true), (42, .agg #[.string x367.f0, .string x367.f1, .int .i64 x367.f2, .int .i64 x367.f3, .int .i64 x367.f4]), (43, .pointer (some ⟨g9, 1, none⟩)), (45, .agg #[.string x367.f0, .string x367.f1, .int .i64 x367.f2, .int .i64 x367.f3, .int .i64 x367.f4]), (46, .agg #[.string t371, .string t372, .int .i64 t373, .int .i64 t374, .int .i64 t375]), (47, v378), (48, v380), (49, .pointer (some ⟨g9, 1, none⟩))], [.row (.slice (some ad368) ((l0_1.take ((mn (l0_1.length : Int) 18).toNat)).drop 0).length n369) 5 (((l0_1.take ((mn (l0_1.length : Int) 18).toNat)).drop 0).map enc22)], [(g370, 23, [.string x367.f0, .string x367.f1, .int .i64 x367.f2, .int .i64 x367.f3, .int .i64 x367.f4]), (g9, 35, [v81, v380]), (g8, 35, [.slice none 0 0, .slice none 0 0])], [(v378, 23, 5, ([(⟨t371, t372, t373, t374, t375⟩ : S22)] : List S22).map enc22), (v380, 23, 5, (l342 ++ ([(⟨t371, t372, t373, t374, t375⟩ : S22)] : List S22)).map enc22), (v81, 9, 1, l82.map enc_str)]⟩) (fun (v378 : Value) (v380 : Value) => True) ?_ ?_
                  · refine VC.drawB ⟨0, [], [], [(g370, 23, [.string x367.f0, .string x367.f1, .int .i64 x367.f2, .int .i64 x367.f3, .int .i64 x367.f4])], []⟩ [5, 7] ⟨0, [], [], [(g9, 35, [v81, v341])], []⟩ (by kernel_rfl) rfl (by kernel_rfl) (n := 8) (listed := LB 8 0) ?_
                    refine VB.va (i := 0) (listed' := LB 8 1) rfl (op_fieldAddr FI35_1 rfl (add_at _ _ _) (ltn rfl)) rfl (by kernel_rfl) (by kernel_rfl) (by kernel_rfl) (by kernel_rfl) (by decide) (PartP.on ⟨trivial, ⟨⟨0, rfl⟩, trivial⟩, trivial⟩ ⟨trivial, ⟨⟨1, rfl⟩, trivial⟩, trivial⟩) (fun _ _ _ h => h) ?_
                    refine VB.vb (i := 1) (listed' := LB 8 3) rfl (op_load 0 1 rfl rfl TI33 rfl (by decide) (ltn rfl)) rfl (by kernel_rfl) (by kernel_rfl) (by kernel_rfl) (by kernel_rfl) (by kernel_rfl) (by kernel_rfl) (PartP.on ⟨trivial, ⟨⟨0, rfl⟩, trivial⟩, trivial⟩ ⟨trivial, ⟨⟨1, rfl⟩, trivial⟩, trivial⟩) (fun _ _ _ h => h) ?_
                    refine VB.va (i := 2) (listed' := LB 8 7) rfl (op_load 0 5 rfl rfl TI23 rfl (fun h => absurd h (by decide)) (ltn rfl)) rfl (by kernel_rfl) (by kernel_rfl) (by kernel_rfl) (by kernel_rfl) (by decide) (PartP.on ⟨trivial, ⟨⟨0, rfl⟩, trivial⟩, trivial⟩ ⟨trivial, ⟨⟨1, rfl⟩, trivial⟩, trivial⟩) (fun _ _ _ h => h) ?_
                    refine VB.oneC (i := 3) (listed' := LB 8 15) (by kernel_rfl) rfl (o_call0 FO6 (tarrylaw07_cut.ok x367.f0 x367.f1 x367.f2 x367.f3 x367.f4 t371 t372 t373 t374 t375 hA376) rfl rfl (ltn rfl) (All_of .nil)) rfl (by kernel_rfl) ?_
                    rintro _ _ _ ⟨rfl, rfl, rfl⟩
                    refine ⟨(PartP.on ⟨trivial, ⟨⟨0, rfl⟩, trivial⟩, trivial⟩ ⟨trivial, ⟨⟨1, rfl⟩, trivial⟩, trivial⟩), ?_⟩
                    refine VB.oneG (i := 4) (listed' := LB 8 31) (by kernel_rfl) rfl (o_buildSlice (vals := [(0, .agg #[.string t371, .string t372, .int .i64 t373, .int .i64 t374, .int .i64 t375])]) (cells := #[.string t371, .string t372, .int .i64 t373, .int .i64 t374, .int .i64 t375]) (es := List.map enc22 ([(⟨t371, t372, t373, t374, t375⟩ : S22)] : List S22)) Try.underlying33 TI23 Z23 rfl (by decide) (by decide) (by kernel_rfl) (by kernel_rfl) rfl (flat_map enc22_ok _) (ltn rfl)) rfl (by kernel_rfl) (fun _ => (PartP.on ⟨trivial, ⟨⟨0, rfl⟩, trivial⟩, trivial⟩ ⟨trivial, ⟨⟨1, rfl⟩, trivial⟩, trivial⟩)) ?_
                    intro v378
                    refine VB.oneG (i := 5) (listed' := LB 8 63) (by kernel_rfl) rfl (o_append 1 appm Try.underlying33 EI23 rfl rfl rfl (.inr ⟨0, _, rfl⟩) (bndm c379) (ltn rfl)) rfl (by kernel_rfl) (fun _ => (PartP.off (by kernel_rfl) ⟨trivial, ⟨⟨0, rfl⟩, trivial⟩, trivial⟩)) ?_
                    intro v380
                    refine VB.va (i := 6) (listed' := LB 8 127) rfl (op_fieldAddr FI35_1 rfl (add_at _ _ _) (ltn rfl)) rfl (by kernel_rfl) (by kernel_rfl) (by kernel_rfl) (by kernel_rfl) (by decide) (PartP.off (by kernel_rfl) ⟨trivial, ⟨⟨0, rfl⟩, trivial⟩, trivial⟩) (fun _ _ _ h => h) ?_
                    refine VB.one1 (i := 7) (listed' := LB 8 255) (by kernel_rfl) rfl (o_store 1 1 rfl rfl rfl TI33 (.r 1 rfl) rfl (len rfl)) rfl (by kernel_rfl) (PartP.off (by kernel_rfl) ⟨trivial, ⟨⟨0, rfl⟩, trivial⟩, trivial⟩) ?_
                    refine VB.done (by kernel_rfl) ?_
                    exact VN.meet2 v378 v380 [0, 1, 2] [0, 1, 2] trivial ⟨rfl, ⟨rfl, rfl, rfl, rfl, rfl, rfl, rfl, rfl, rfl, rfl, rfl, rfl, rfl, rfl, trivial⟩, ⟨⟨0, rfl⟩, trivial⟩, rfl, by decide, rfl, by decide⟩
                  intro v378 v380 _
                  refine VN.block ?_
                  refine VN.then ?_
                  refine VC.region ?_
                  refine VL.va (op_ari64 rfl rfl rfl (ltn rfl)) rfl ?_
                  refine VL.va (op_move rfl (ltn rfl)) rfl ?_
                  refine VL.done ?_
                  refine VN.again [1, 2] [1, 2] (ihl5 (wrap64 (i339 + 1)) v380 (l342 ++ ([(⟨t371, t372, t373, t374, t375⟩ : S22)] : List S22)) h) ⟨rfl, ⟨rfl, rfl, rfl, rfl, rfl, trivial⟩, ⟨⟨0, rfl⟩, trivial⟩, rfl, by decide, rfl, by decide⟩
                · rw [if_neg c379] at h; cases h
              · rw [if_neg c366] at h; cases h
            · rw [if_neg c365] at h
              obtain rfl : b363 = false := hb363.symm.trans (decide_eq_false c365)
              refine VC.cond_f rfl ?_
              refine VC.exit ?_
              refine VX.then ?_
              refine VX.then ?_
              refine VX.hit ?_
              refine VN.then ?_
              refine VC.seq ?_
              refine VC.region ?_
              refine VL.va (op_load 0 2 rfl rfl TI35 rfl (fun h => absurd h (by decide)) (ltn rfl)) rfl ?_
              refine VL.step1 (o_store 1 2 rfl rfl rfl TI35 (.agg (.r 1 rfl (.r 0 rfl .nil))) rfl (len rfl)) rfl ?_
              refine VL.done ?_
              refine VN.then ?_
              refine VC.ret ?_
              simp only [Option.some.injEq, Prod.mk.injEq] at h
              obtain ⟨rfl, rfl⟩ := h
              exact VR.fn (rs := [.cell 2 35]) [] [(v81, 9, 1, l82.map enc_str), (v341, 23, 5, l342.map enc22)] [1, 0] rfl (.cell 1 rfl rfl TI35 (fun h => absurd h (by decide)) .nil) ⟨v81, v341, rfl, rfl, rfl⟩ trivial rfl (by decide)
          · rw [if_neg c317] at h; cases h
        · rw [if_neg c316] at h; cases h
    · rw [if_neg c62] at h; cases h
  · rw [if_neg c61] at h; cases h
set_option maxHeartbeats 4000000 in
set_option maxRecDepth 100000 in
theorem goods_Right_1.ok (a0_0 : ByteArray) (a0_1 : ByteArray) (a0_2 : Int) (a0_3 : Int) (a0_4 : Int) (a1_0 : ByteArray) (a1_1 : ByteArray) (a1_2 : Int) (a1_3 : Int) (a1_4 : Int) (p1 : Nat) (r1 : Bool) (h : goods_Right_1.f a0_0 a0_1 a0_2 a0_3 a0_4 a1_0 a1_1 a1_2 a1_3 a1_4 = some r1) :
    VCalls Try.prog 33 [.agg #[.string a0_0, .string a0_1, .int .i64 a0_2, .int .i64 a0_3, .int .i64 a0_4], .pointer (some ⟨p1, 0, none⟩)] [.at_ ⟨p1, 0, none⟩ [.string a1_0, .string a1_1, .int .i64 a1_2, .int .i64 a1_3, .int .i64 a1_4]] (fun v G own => v = .bool r1 ∧ G = [] ∧ own = []) := by
  refine VCalls.intro Try.func33 rfl (len rfl) fun E hC => ?_
  unfold goods_Right_1.f at h
  refine VC.seq ?_
  refine VC.region ?_
  refine VL.sG (o_box rfl (.agg (.of rfl)) (ltn rfl)) rfl ?_
  intro g422
  refine VL.va (op_assign rfl (ltn rfl)) rfl ?_
  refine VL.done ?_
  refine VN.then ?_
  refine VC.seq ?_
  refine VC.region ?_
  refine VL.va (op_fieldAddr FI23_0 rfl (add_at _ _ _) (ltn rfl)) rfl ?_
  refine VL.va (op_load 0 1 rfl rfl TI9 rfl (by decide) (ltn rfl)) rfl ?_
  refine VL.va (op_fieldAddr FI23_0 rfl (add_at _ _ _) (ltn rfl)) rfl ?_
  refine VL.va (op_load_at (ad := ⟨p1, 0, none⟩) 0 0 1 (by first | rfl | exact congrArg (fun a => some (Value.pointer (some a))) (add_at _ 0 _).symm) rfl TI9 rfl (by decide) (ltn rfl)) rfl ?_
  refine VL.letter ((a0_0 == a1_0)) fun b426 hb426 => ?_
  refine VL.va (op_cmps rfl rfl (congrArg some hb426) (ltn rfl)) rfl ?_
  refine VL.va (op_move rfl (ltn rfl)) rfl ?_
  by_cases c427 : (a0_0 == a1_0) = true
  · rw [if_pos c427] at h
    obtain rfl : b426 = true := hb426.symm.trans (c427)
    refine VL.va (op_fieldAddr FI23_1 rfl (add_at _ _ _) (ltn rfl)) rfl ?_
    refine VL.va (op_load 0 1 rfl rfl TI9 rfl (by decide) (ltn rfl)) rfl ?_
    refine VL.va (op_fieldAddr FI23_1 rfl (add_at _ _ _) (ltn rfl)) rfl ?_
    refine VL.va (op_load_at (ad := ⟨p1, 0, none⟩) 0 1 1 (by first | rfl | exact congrArg (fun a => some (Value.pointer (some a))) (add_at _ 0 _).symm) rfl TI9 rfl (by decide) (ltn rfl)) rfl ?_
    refine VL.letter ((a0_1 == a1_1)) fun b428 hb428 => ?_
    refine VL.va (op_cmps rfl rfl (congrArg some hb428) (ltn rfl)) rfl ?_
    refine VL.va (op_pick rfl rfl (ltn rfl)) rfl ?_
    refine VL.va (op_assign rfl (ltn rfl)) rfl ?_
    refine VL.done ?_
    refine VN.then ?_
    refine VC.ret ?_
    obtain rfl := Option.some.inj h
    subst hb428
    exact VR.fn (rs := [.tmp 3]) [] [] [] rfl (.tmp rfl .nil) ⟨rfl, rfl, rfl⟩ trivial rfl (by decide)
  · rw [if_neg c427] at h
    obtain rfl : b426 = false := hb426.symm.trans (Bool.eq_false_iff.2 c427)
    refine VL.un rfl rfl (ltn rfl) ?_
    refine VL.un rfl rfl (ltn rfl) ?_
    refine VL.un rfl rfl (ltn rfl) ?_
    refine VL.un rfl rfl (ltn rfl) ?_
    refine VL.un rfl rfl (ltn rfl) ?_
    refine VL.va (op_pick rfl rfl (ltn rfl)) rfl ?_
    refine VL.va (op_assign rfl (ltn rfl)) rfl ?_
    refine VL.done ?_
    refine VN.then ?_
    refine VC.ret ?_
    obtain rfl := Option.some.inj h
    exact VR.fn (rs := [.tmp 3]) [] [] [] rfl (.tmp rfl .nil) ⟨rfl, rfl, rfl⟩ trivial rfl (by decide)
set_option maxHeartbeats 4000000 in
set_option maxRecDepth 100000 in
theorem slices_IndexFunc_api_Sub_api_Sub.ok (k : Nat) (l0 : List S22) (a1_0_0 : ByteArray) (a1_0_1 : ByteArray) (a1_0_2 : Int) (a1_0_3 : Int) (a1_0_4 : Int) (v0 : Value) (p1_0 : Nat) (r1 : Int) (h : slices_IndexFunc_api_Sub_api_Sub.f k l0 a1_0_0 a1_0_1 a1_0_2 a1_0_3 a1_0_4 = some r1) :
    VCalls Try.prog 44 [v0, (.func (.func 33) #[] #[.pointer (some ⟨p1_0, 0, none⟩)])] [.row v0 5 (l0.map enc22), .at_ ⟨p1_0, 0, none⟩ [.string a1_0_0, .string a1_0_1, .int .i64 a1_0_2, .int .i64 a1_0_3, .int .i64 a1_0_4]] (fun v G own => v = .int .i64 r1 ∧ G = [] ∧ own = []) := by
  refine VCalls.intro Try.func44 rfl (len rfl) fun E hC => ?_
  unfold slices_IndexFunc_api_Sub_api_Sub.f at h
  refine VC.seq ?_
  refine VC.region ?_
  refine VL.va (op_assign rfl (ltn rfl)) rfl ?_
  refine VL.done ?_
  refine VN.then ?_
  refine VC.seq ?_
  refine VC.seq ?_
  refine VC.region ?_
  refine VL.va (op_move rfl (ltn rfl)) rfl ?_
  refine VL.va (op_len (m := l0.length) 0 lenm Try.underlying33 rfl rfl (ltn rfl)) rfl ?_
  refine VL.va (op_move rfl (ltn rfl)) rfl ?_
  refine VL.done ?_
  refine VN.then ?_
  refine VC.block ?_
  refine VC.loop1 (fun (i488 : Int) => ⟨19, [(0, v0), (1, (.func (.func 33) #[] #[.pointer (some ⟨p1_0, 0, none⟩)])), (4, .int .i64 0), (7, .int .i64 (l0.length : Int)), (8, .int .i64 i488)], [.at_ ⟨p1_0, 0, none⟩ [.string a1_0_0, .string a1_0_1, .int .i64 a1_0_2, .int .i64 a1_0_3, .int .i64 a1_0_4], .row v0 5 (l0.map enc22)], [], []⟩) (fun (ml1 : Nat) (i488 : Int) => slices_IndexFunc_api_Sub_api_Sub.l1 k a1_0_0 a1_0_1 a1_0_2 a1_0_3 a1_0_4 l0 ml1 i488 = some r1) k 0 [] [] h ⟨rfl, ⟨rfl, rfl, rfl, rfl, rfl, trivial⟩, ⟨⟨1, rfl⟩, ⟨0, rfl⟩, trivial⟩, rfl, by decide, rfl, by decide⟩ (by intros; simp [slices_IndexFunc_api_Sub_api_Sub.l1]) ?_
  clear h
  intro ml1 ihl1 i488 h
  simp only [slices_IndexFunc_api_Sub_api_Sub.l1] at h
  refine VC.seq ?_
  refine VC.region ?_
  refine VL.letter (decide (i488 < (l0.length : Int))) fun b506 hb506 => ?_
  refine VL.va (op_cmp rfl rfl (congrArg some hb506) (ltn rfl)) rfl ?_
  refine VL.done ?_
  refine VN.then ?_
  refine VC.seq ?_
  by_cases c508 : i488 < (l0.length : Int)
  · rw [if_pos c508] at h
    obtain rfl : b506 = true := hb506.symm.trans (decide_eq_true c508)
    refine VC.cond_t rfl ?_
    refine VC.skip ?_
    refine VN.then ?_
    refine VC.seq ?_
    refine VC.block ?_
    refine VC.seq ?_
    refine VC.region ?_
    refine VL.va (op_move rfl (ltn rfl)) rfl ?_
    refine VL.va (op_assign rfl (ltn rfl)) rfl ?_
    refine VL.done ?_
    refine VN.then ?_
    refine VC.seq ?_
    refine VC.region ?_
    refine VL.va (op_move rfl (ltn rfl)) rfl ?_
    refine VL.va (op_move rfl (ltn rfl)) rfl ?_
    refine VL.va (op_move rfl (ltn rfl)) rfl ?_
    by_cases c516 : 0 ≤ i488
    · rw [if_pos c516] at h
      replace h := Option.bind_eq_some_iff.1 h
      obtain ⟨x517, hx517, h⟩ := h
      refine VL.open (m := l0.length) 1 lenm rfl (pos_get hx517) ?_
      rintro ad518 n519 rfl
      refine VL.va (op_indexAddr Try.underlying33 TI23 rfl rfl c516 (lt_get c516 hx517) rfl (ltn rfl)) rfl ?_
      refine VL.va (op_load_row (sz := 5) (o := 0) 1 i488.toNat 5 rfl rfl (get_map hx517) TI23 rfl (fun h => absurd h (by decide)) (ltn rfl)) rfl ?_
      replace h := Option.bind_eq_some_iff.1 h
      obtain ⟨t520, hA521, h⟩ := h
      refine VL.sC (o_call (vals := [.agg #[.string x517.f0, .string x517.f1, .int .i64 x517.f2, .int .i64 x517.f3, .int .i64 x517.f4]]) (caps := [.pointer (some ⟨p1_0, 0, none⟩)]) FO33 (goods_Right_1.ok x517.f0 x517.f1 x517.f2 x517.f3 x517.f4 a1_0_0 a1_0_1 a1_0_2 a1_0_3 a1_0_4 p1_0 t520 hA521) rfl rfl (ltn rfl) (All_of (.cons (List.mem_of_getElem? (i := 0) rfl) .nil))) rfl ?_
      rintro _ _ _ ⟨rfl, rfl, rfl⟩
      refine VL.done ?_
      refine VN.then ?_
      by_cases c522 : t520 = true
      · rw [if_pos c522] at h
        obtain rfl := c522
        refine VC.cond_t rfl ?_
        refine VC.seq ?_
        refine VC.region ?_
        refine VL.va (op_move rfl (ltn rfl)) rfl ?_
        refine VL.va (op_assign rfl (ltn rfl)) rfl ?_
        refine VL.done ?_
        refine VN.then ?_
        refine VC.ret ?_
        refine VR.block ?_
        refine VR.then ?_
        refine VR.then ?_
        refine VR.block ?_
        refine VR.then ?_
        obtain rfl := Option.some.inj h
        exact VR.fn (rs := [.tmp 4]) [] [] [] rfl (.tmp rfl .nil) ⟨rfl, rfl, rfl⟩ trivial rfl (by decide)
      · rw [if_neg c522] at h
        obtain rfl := Bool.eq_false_iff.2 c522
        refine VC.cond_f rfl ?_
        refine VC.skip ?_
        refine VN.block ?_
        refine VN.then ?_
        refine VC.region ?_
        refine VL.va (op_ari64 rfl rfl rfl (ltn rfl)) rfl ?_
        refine VL.va (op_move rfl (ltn rfl)) rfl ?_
        refine VL.done ?_
        refine VN.again [] [] (ihl1 (wrap64 (i488 + 1)) h) ⟨rfl, ⟨rfl, rfl, rfl, rfl, rfl, trivial⟩, ⟨⟨0, rfl⟩, ⟨1, rfl⟩, trivial⟩, rfl, by decide, rfl, by decide⟩
    · rw [if_neg c516] at h; cases h
  · rw [if_neg c508] at h
    obtain rfl : b506 = false := hb506.symm.trans (decide_eq_false c508)
    refine VC.cond_f rfl ?_
    refine VC.exit ?_
    refine VX.then ?_
    refine VX.then ?_
    refine VX.hit ?_
    refine VN.then ?_
    refine VC.seq ?_
    refine VC.region ?_
    refine VL.va (op_assign rfl (ltn rfl)) rfl ?_
    refine VL.done ?_
    refine VN.then ?_
    refine VC.ret ?_
    obtain rfl := Option.some.inj h
    exact VR.fn (rs := [.tmp 4]) [] [] [] rfl (.tmp rfl .nil) ⟨rfl, rfl, rfl⟩ trivial rfl (by decide)
set_option maxHeartbeats 4000000 in
set_option maxRecDepth 100000 in
theorem slices_ContainsFunc_api_Sub_api_Sub.ok (k : Nat) (l0 : List S22) (a1_0_0 : ByteArray) (a1_0_1 : ByteArray) (a1_0_2 : Int) (a1_0_3 : Int) (a1_0_4 : Int) (v0 : Value) (p1_0 : Nat) (r1 : Bool) (h : slices_ContainsFunc_api_Sub_api_Sub.f k l0 a1_0_0 a1_0_1 a1_0_2 a1_0_3 a1_0_4 = some r1) :
    VCalls Try.prog 27 [v0, (.func (.func 33) #[] #[.pointer (some ⟨p1_0, 0, none⟩)])] [.row v0 5 (l0.map enc22), .at_ ⟨p1_0, 0, none⟩ [.string a1_0_0, .string a1_0_1, .int .i64 a1_0_2, .int .i64 a1_0_3, .int .i64 a1_0_4]] (fun v G own => v = .bool r1 ∧ G = [] ∧ own = []) := by
  refine VCalls.intro Try.func27 rfl (len rfl) fun E hC => ?_
  unfold slices_ContainsFunc_api_Sub_api_Sub.f at h
  refine VC.seq ?_
  refine VC.region ?_
  refine VL.va (op_assign rfl (ltn rfl)) rfl ?_
  refine VL.done ?_
  refine VN.then ?_
  refine VC.seq ?_
  refine VC.region ?_
  refine VL.va (op_move rfl (ltn rfl)) rfl ?_
  refine VL.va (op_move rfl (ltn rfl)) rfl ?_
  replace h := Option.bind_eq_some_iff.1 h
  obtain ⟨t523, hA524, h⟩ := h
  refine VL.sC (o_call0 FO44 (slices_IndexFunc_api_Sub_api_Sub.ok k l0 a1_0_0 a1_0_1 a1_0_2 a1_0_3 a1_0_4 v0 p1_0 t523 hA524) rfl rfl (ltn rfl) (All_of (.cons (List.mem_of_getElem? (i := 0) rfl) (.cons (List.mem_of_getElem? (i := 1) rfl) .nil)))) rfl ?_
  rintro _ _ _ ⟨rfl, rfl, rfl⟩
  refine VL.letter (decide (t523 ≥ 0)) fun b525 hb525 => ?_
  refine VL.va (op_cmp rfl rfl (congrArg some hb525) (ltn rfl)) rfl ?_
  refine VL.va (op_assign rfl (ltn rfl)) rfl ?_
  refine VL.done ?_
  refine VN.then ?_
  refine VC.ret ?_
  obtain rfl := Option.some.inj h
  subst hb525
  exact VR.fn (rs := [.tmp 4]) [] [] [] rfl (.tmp rfl .nil) ⟨rfl, rfl, rfl⟩ trivial rfl (by decide)
set_option maxHeartbeats 4000000 in
set_option maxRecDepth 100000 in
theorem goods_name_1.ok (a0 : Int)  (r1 : Bool) (h : goods_name_1.f a0 = some r1) :
    VCalls Try.prog 50 [.int .u8 a0] [] (fun v G own => v = .bool r1 ∧ G = [] ∧ own = []) := by
  refine VCalls.intro Try.func50 rfl (len rfl) fun E hC => ?_
  unfold goods_name_1.f at h
  refine VC.seq ?_
  refine VC.region ?_
  refine VL.va (op_assign rfl (ltn rfl)) rfl ?_
  refine VL.done ?_
  refine VN.then ?_
  refine VC.seq ?_
  refine VC.region ?_
  refine VL.va (op_move rfl (ltn rfl)) rfl ?_
  refine VL.letter (decide (a0 < 97)) fun b555 hb555 => ?_
  refine VL.va (op_cmp rfl rfl (congrArg some hb555) (ltn rfl)) rfl ?_
  refine VL.va (op_move rfl (ltn rfl)) rfl ?_
  by_cases c556 : a0 < 97
  · rw [if_pos c556] at h
    obtain rfl : b555 = true := hb555.symm.trans (decide_eq_true c556)
    refine VL.un rfl rfl (ltn rfl) ?_
    refine VL.un rfl rfl (ltn rfl) ?_
    refine VL.va (op_pick rfl rfl (ltn rfl)) rfl ?_
    refine VL.va (op_move rfl (ltn rfl)) rfl ?_
    refine VL.va (op_move rfl (ltn rfl)) rfl ?_
    refine VL.letter (decide (a0 < 48)) fun b557 hb557 => ?_
    refine VL.va (op_cmp rfl rfl (congrArg some hb557) (ltn rfl)) rfl ?_
    refine VL.va (op_move rfl (ltn rfl)) rfl ?_
    by_cases c558 : a0 < 48
    · rw [if_pos c558] at h
      obtain rfl : b557 = true := hb557.symm.trans (decide_eq_true c558)
      refine VL.un rfl rfl (ltn rfl) ?_
      refine VL.un rfl rfl (ltn rfl) ?_
      refine VL.va (op_pick rfl rfl (ltn rfl)) rfl ?_
      refine VL.va (op_pick rfl rfl (ltn rfl)) rfl ?_
      refine VL.va (op_assign rfl (ltn rfl)) rfl ?_
      refine VL.done ?_
      refine VN.then ?_
      refine VC.ret ?_
      obtain rfl := Option.some.inj h
      exact VR.fn (rs := [.tmp 2]) [] [] [] rfl (.tmp rfl .nil) ⟨rfl, rfl, rfl⟩ trivial rfl (by decide)
    · rw [if_neg c558] at h
      obtain rfl : b557 = false := hb557.symm.trans (decide_eq_false c558)
      refine VL.va (op_move rfl (ltn rfl)) rfl ?_
      refine VL.letter (decide (a0 > 57)) fun b559 hb559 => ?_
      refine VL.va (op_cmp rfl rfl (congrArg some hb559) (ltn rfl)) rfl ?_
      refine VL.va (op_pick rfl rfl (ltn rfl)) rfl ?_
      refine VL.va (op_pick rfl rfl (ltn rfl)) rfl ?_
      refine VL.va (op_assign rfl (ltn rfl)) rfl ?_
      refine VL.done ?_
      refine VN.then ?_
      refine VC.ret ?_
      obtain rfl := Option.some.inj h
      subst hb559
      exact VR.fn (rs := [.tmp 2]) [] [] [] rfl (.tmp rfl .nil) ⟨rfl, rfl, rfl⟩ trivial rfl (by decide)
  · rw [if_neg c556] at h
    obtain rfl : b555 = false := hb555.symm.trans (decide_eq_false c556)
    refine VL.va (op_move rfl (ltn rfl)) rfl ?_
    refine VL.letter (decide (a0 > 122)) fun b560 hb560 => ?_
    refine VL.va (op_cmp rfl rfl (congrArg some hb560) (ltn rfl)) rfl ?_
    refine VL.va (op_pick rfl rfl (ltn rfl)) rfl ?_
    refine VL.va (op_move rfl (ltn rfl)) rfl ?_
    by_cases c561 : a0 > 122
    · rw [if_pos c561] at h
      obtain rfl : b560 = true := hb560.symm.trans (decide_eq_true c561)
      refine VL.va (op_move rfl (ltn rfl)) rfl ?_
      refine VL.letter (decide (a0 < 48)) fun b562 hb562 => ?_
      refine VL.va (op_cmp rfl rfl (congrArg some hb562) (ltn rfl)) rfl ?_
      refine VL.va (op_move rfl (ltn rfl)) rfl ?_
      by_cases c563 : a0 < 48
      · rw [if_pos c563] at h
        obtain rfl : b562 = true := hb562.symm.trans (decide_eq_true c563)
        refine VL.un rfl rfl (ltn rfl) ?_
        refine VL.un rfl rfl (ltn rfl) ?_
        refine VL.va (op_pick rfl rfl (ltn rfl)) rfl ?_
        refine VL.va (op_pick rfl rfl (ltn rfl)) rfl ?_
        refine VL.va (op_assign rfl (ltn rfl)) rfl ?_
        refine VL.done ?_
        refine VN.then ?_
        refine VC.ret ?_
        obtain rfl := Option.some.inj h
        exact VR.fn (rs := [.tmp 2]) [] [] [] rfl (.tmp rfl .nil) ⟨rfl, rfl, rfl⟩ trivial rfl (by decide)
      · rw [if_neg c563] at h
        obtain rfl : b562 = false := hb562.symm.trans (decide_eq_false c563)
        refine VL.va (op_move rfl (ltn rfl)) rfl ?_
        refine VL.letter (decide (a0 > 57)) fun b564 hb564 => ?_
        refine VL.va (op_cmp rfl rfl (congrArg some hb564) (ltn rfl)) rfl ?_
        refine VL.va (op_pick rfl rfl (ltn rfl)) rfl ?_
        refine VL.va (op_pick rfl rfl (ltn rfl)) rfl ?_
        refine VL.va (op_assign rfl (ltn rfl)) rfl ?_
        refine VL.done ?_
        refine VN.then ?_
        refine VC.ret ?_
        obtain rfl := Option.some.inj h
        subst hb564
        exact VR.fn (rs := [.tmp 2]) [] [] [] rfl (.tmp rfl .nil) ⟨rfl, rfl, rfl⟩ trivial rfl (by decide)
    · rw [if_neg c561] at h
      obtain rfl : b560 = false := hb560.symm.trans (decide_eq_false c561)
      refine VL.un rfl rfl (ltn rfl) ?_
      refine VL.un rfl rfl (ltn rfl) ?_
      refine VL.un rfl rfl (ltn rfl) ?_
      refine VL.un rfl rfl (ltn rfl) ?_
      refine VL.un rfl rfl (ltn rfl) ?_
      refine VL.un rfl rfl (ltn rfl) ?_
      refine VL.va (op_pick rfl rfl (ltn rfl)) rfl ?_
      refine VL.va (op_assign rfl (ltn rfl)) rfl ?_
      refine VL.done ?_
      refine VN.then ?_
      refine VC.ret ?_
      obtain rfl := Option.some.inj h
      exact VR.fn (rs := [.tmp 2]) [] [] [] rfl (.tmp rfl .nil) ⟨rfl, rfl, rfl⟩ trivial rfl (by decide)
set_option maxHeartbeats 4000000 in
set_option maxRecDepth 100000 in
theorem slices_IndexFunc_byte_byte.ok (k : Nat) (l0 : List Int) (v0 : Value) (r1 : Int) (h : slices_IndexFunc_byte_byte.f k l0 = some r1) :
    VCalls Try.prog 59 [v0, (.func (.func 50) #[] #[])] [.row v0 1 (l0.map enc_intu8)] (fun v G own => v = .int .i64 r1 ∧ G = [] ∧ own = []) := by
  refine VCalls.intro Try.func59 rfl (len rfl) fun E hC => ?_
  unfold slices_IndexFunc_byte_byte.f at h
  refine VC.seq ?_
  refine VC.region ?_
  refine VL.va (op_assign rfl (ltn rfl)) rfl ?_
  refine VL.done ?_
  refine VN.then ?_
  refine VC.seq ?_
  refine VC.seq ?_
  refine VC.region ?_
  refine VL.va (op_move rfl (ltn rfl)) rfl ?_
  refine VL.va (op_len (m := l0.length) 0 lenm Try.underlying74 rfl rfl (ltn rfl)) rfl ?_
  refine VL.va (op_move rfl (ltn rfl)) rfl ?_
  refine VL.done ?_
  refine VN.then ?_
  refine VC.block ?_
  refine VC.loop1 (fun (i624 : Int) => ⟨19, [(0, v0), (1, (.func (.func 50) #[] #[])), (4, .int .i64 0), (7, .int .i64 (l0.length : Int)), (8, .int .i64 i624)], [.row v0 1 (l0.map enc_intu8)], [], []⟩) (fun (ml1 : Nat) (i624 : Int) => slices_IndexFunc_byte_byte.l1 k l0 ml1 i624 = some r1) k 0 [] [] h ⟨rfl, ⟨rfl, rfl, rfl, rfl, rfl, trivial⟩, ⟨⟨0, rfl⟩, trivial⟩, rfl, by decide, rfl, by decide⟩ (by intros; simp [slices_IndexFunc_byte_byte.l1]) ?_
  clear h
  intro ml1 ihl1 i624 h
  simp only [slices_IndexFunc_byte_byte.l1] at h
  refine VC.seq ?_
  refine VC.region ?_
  refine VL.letter (decide (i624 < (l0.length : Int))) fun b642 hb642 => ?_
  refine VL.va (op_cmp rfl rfl (congrArg some hb642) (ltn rfl)) rfl ?_
  refine VL.done ?_
  refine VN.then ?_
  refine VC.seq ?_
  by_cases c644 : i624 < (l0.length : Int)
  · rw [if_pos c644] at h
    obtain rfl : b642 = true := hb642.symm.trans (decide_eq_true c644)
    refine VC.cond_t rfl ?_
    refine VC.skip ?_
    refine VN.then ?_
    refine VC.seq ?_
    refine VC.block ?_
    refine VC.seq ?_
    refine VC.region ?_
    refine VL.va (op_move rfl (ltn rfl)) rfl ?_
    refine VL.va (op_assign rfl (ltn rfl)) rfl ?_
    refine VL.done ?_
    refine VN.then ?_
    refine VC.seq ?_
    refine VC.region ?_
    refine VL.va (op_move rfl (ltn rfl)) rfl ?_
    refine VL.va (op_move rfl (ltn rfl)) rfl ?_
    refine VL.va (op_move rfl (ltn rfl)) rfl ?_
    by_cases c652 : 0 ≤ i624
    · rw [if_pos c652] at h
      replace h := Option.bind_eq_some_iff.1 h
      obtain ⟨x653, hx653, h⟩ := h
      refine VL.open (m := l0.length) 0 lenm rfl (pos_get hx653) ?_
      rintro ad654 n655 rfl
      refine VL.va (op_indexAddr Try.underlying74 TI5 rfl rfl c652 (lt_get c652 hx653) rfl (ltn rfl)) rfl ?_
      refine VL.va (op_load_row (sz := 1) (o := 0) 0 i624.toNat 1 rfl rfl (get_map hx653) TI5 rfl (by decide) (ltn rfl)) rfl ?_
      replace h := Option.bind_eq_some_iff.1 h
      obtain ⟨t656, hA657, h⟩ := h
      refine VL.sC (o_call0 FO50 (goods_name_1.ok x653 t656 hA657) rfl rfl (ltn rfl) (All_of .nil)) rfl ?_
      rintro _ _ _ ⟨rfl, rfl, rfl⟩
      refine VL.done ?_
      refine VN.then ?_
      by_cases c658 : t656 = true
      · rw [if_pos c658] at h
        obtain rfl := c658
        refine VC.cond_t rfl ?_
        refine VC.seq ?_
        refine VC.region ?_
        refine VL.va (op_move rfl (ltn rfl)) rfl ?_
        refine VL.va (op_assign rfl (ltn rfl)) rfl ?_
        refine VL.done ?_
        refine VN.then ?_
        refine VC.ret ?_
        refine VR.block ?_
        refine VR.then ?_
        refine VR.then ?_
        refine VR.block ?_
        refine VR.then ?_
        obtain rfl := Option.some.inj h
        exact VR.fn (rs := [.tmp 4]) [] [] [] rfl (.tmp rfl .nil) ⟨rfl, rfl, rfl⟩ trivial rfl (by decide)
      · rw [if_neg c658] at h
        obtain rfl := Bool.eq_false_iff.2 c658
        refine VC.cond_f rfl ?_
        refine VC.skip ?_
        refine VN.block ?_
        refine VN.then ?_
        refine VC.region ?_
        refine VL.va (op_ari64 rfl rfl rfl (ltn rfl)) rfl ?_
        refine VL.va (op_move rfl (ltn rfl)) rfl ?_
        refine VL.done ?_
        refine VN.again [] [] (ihl1 (wrap64 (i624 + 1)) h) ⟨rfl, ⟨rfl, rfl, rfl, rfl, rfl, trivial⟩, ⟨⟨0, rfl⟩, trivial⟩, rfl, by decide, rfl, by decide⟩
    · rw [if_neg c652] at h; cases h
  · rw [if_neg c644] at h
    obtain rfl : b642 = false := hb642.symm.trans (decide_eq_false c644)
    refine VC.cond_f rfl ?_
    refine VC.exit ?_
    refine VX.then ?_
    refine VX.then ?_
    refine VX.hit ?_
    refine VN.then ?_
    refine VC.seq ?_
    refine VC.region ?_
    refine VL.va (op_assign rfl (ltn rfl)) rfl ?_
    refine VL.done ?_
    refine VN.then ?_
    refine VC.ret ?_
    obtain rfl := Option.some.inj h
    exact VR.fn (rs := [.tmp 4]) [] [] [] rfl (.tmp rfl .nil) ⟨rfl, rfl, rfl⟩ trivial rfl (by decide)
set_option maxHeartbeats 4000000 in
set_option maxRecDepth 100000 in
theorem slices_ContainsFunc_byte_byte.ok (k : Nat) (l0 : List Int) (v0 : Value) (r1 : Bool) (h : slices_ContainsFunc_byte_byte.f k l0 = some r1) :
    VCalls Try.prog 51 [v0, (.func (.func 50) #[] #[])] [.row v0 1 (l0.map enc_intu8)] (fun v G own => v = .bool r1 ∧ G = [] ∧ own = []) := by
  refine VCalls.intro Try.func51 rfl (len rfl) fun E hC => ?_
  unfold slices_ContainsFunc_byte_byte.f at h
  refine VC.seq ?_
  refine VC.region ?_
  refine VL.va (op_assign rfl (ltn rfl)) rfl ?_
  refine VL.done ?_
  refine VN.then ?_
  refine VC.seq ?_
  refine VC.region ?_
  refine VL.va (op_move rfl (ltn rfl)) rfl ?_
  refine VL.va (op_move rfl (ltn rfl)) rfl ?_
  replace h := Option.bind_eq_some_iff.1 h
  obtain ⟨t659, hA660, h⟩ := h
  refine VL.sC (o_call0 FO59 (slices_IndexFunc_byte_byte.ok k l0 v0 t659 hA660) rfl rfl (ltn rfl) (All_of (.cons (List.mem_of_getElem? (i := 0) rfl) .nil))) rfl ?_
  rintro _ _ _ ⟨rfl, rfl, rfl⟩
  refine VL.letter (decide (t659 ≥ 0)) fun b661 hb661 => ?_
  refine VL.va (op_cmp rfl rfl (congrArg some hb661) (ltn rfl)) rfl ?_
  refine VL.va (op_assign rfl (ltn rfl)) rfl ?_
  refine VL.done ?_
  refine VN.then ?_
  refine VC.ret ?_
  obtain rfl := Option.some.inj h
  subst hb661
  exact VR.fn (rs := [.tmp 4]) [] [] [] rfl (.tmp rfl .nil) ⟨rfl, rfl, rfl⟩ trivial rfl (by decide)
set_option maxHeartbeats 4000000 in
set_option maxRecDepth 100000 in
theorem goods_name.ok (k : Nat) (a0 : ByteArray)  (r1 : Bool) (h : goods_name.f k a0 = some r1) :
    VCalls Try.prog 36 [.string a0] [] (fun v G own => v = .bool r1 ∧ G = [] ∧ own = []) := by
  refine VCalls.intro Try.func36 rfl (len rfl) fun E hC => ?_
  unfold goods_name.f at h
  refine VC.seq ?_
  refine VC.region ?_
  refine VL.va (op_assign rfl (ltn rfl)) rfl ?_
  refine VL.done ?_
  refine VN.then ?_
  refine VC.seq ?_
  refine VC.region ?_
  refine VL.va (op_assign rfl (ltn rfl)) rfl ?_
  refine VL.done ?_
  refine VN.then ?_
  refine VC.seq ?_
  refine VC.region ?_
  refine VL.va (op_move rfl (ltn rfl)) rfl ?_
  refine VL.letter ((a0 != (⟨#[]⟩ : ByteArray))) fun b665 hb665 => ?_
  refine VL.va (op_cmps rfl rfl (congrArg some hb665) (ltn rfl)) rfl ?_
  refine VL.va (op_move rfl (ltn rfl)) rfl ?_
  by_cases c666 : (a0 == (⟨#[]⟩ : ByteArray)) = true
  · rw [if_pos c666] at h
    obtain rfl : b665 = false := hb665.symm.trans (bne_of_t c666)
    refine VL.un rfl rfl (ltn rfl) ?_
    refine VL.un rfl rfl (ltn rfl) ?_
    refine VL.un rfl rfl (ltn rfl) ?_
    refine VL.va (op_pick rfl rfl (ltn rfl)) rfl ?_
    refine VL.va (op_move rfl (ltn rfl)) rfl ?_
    refine VL.un rfl rfl (ltn rfl) ?_
    refine VL.un rfl rfl (ltn rfl) ?_
    refine VL.un rfl rfl (ltn rfl) ?_
    refine VL.un rfl rfl (ltn rfl) ?_
    refine VL.un rfl rfl (ltn rfl) ?_
    refine VL.va (op_pick rfl rfl (ltn rfl)) rfl ?_
    refine VL.va (op_assign rfl (ltn rfl)) rfl ?_
    refine VL.done ?_
    refine VN.then ?_
    refine VC.ret ?_
    obtain rfl := Option.some.inj h
    exact VR.fn (rs := [.tmp 2]) [] [] [] rfl (.tmp rfl .nil) ⟨rfl, rfl, rfl⟩ trivial rfl (by decide)
  · rw [if_neg c666] at h
    obtain rfl : b665 = true := hb665.symm.trans (bne_of_f c666)
    refine VL.va (op_move rfl (ltn rfl)) rfl ?_
    refine VL.va (op_lens Try.underlying9 rfl (ltn rfl)) rfl ?_
    refine VL.letter (decide ((a0.size : Int) ≤ 16)) fun b667 hb667 => ?_
    refine VL.va (op_cmp rfl rfl (congrArg some hb667) (ltn rfl)) rfl ?_
    refine VL.va (op_pick rfl rfl (ltn rfl)) rfl ?_
    refine VL.va (op_move rfl (ltn rfl)) rfl ?_
    by_cases c668 : (a0.size : Int) ≤ 16
    · rw [if_pos c668] at h
      obtain rfl : b667 = true := hb667.symm.trans (decide_eq_true c668)
      refine VL.va (op_move rfl (ltn rfl)) rfl ?_
      by_cases c669 : a0.size ≤ 140737488355328
      · rw [if_pos c669] at h
        refine VL.sG (o_strBytes (es3 := List.map enc_intu8 (byI a0)) rfl Try.underlying9 Try.underlying74 Try.underlying5 rfl c669 (ltn rfl)) rfl ?_
        intro v671
        refine VL.va (op_move rfl (ltn rfl)) rfl ?_
        replace h := Option.bind_eq_some_iff.1 h
        obtain ⟨t672, hA673, h⟩ := h
        refine VL.sC (o_call0 FO51 (slices_ContainsFunc_byte_byte.ok k (byI a0) v671 t672 hA673) rfl rfl (ltn rfl) (All_of (.cons (List.mem_of_getElem? (i := 0) rfl) .nil))) rfl ?_
        rintro _ _ _ ⟨rfl, rfl, rfl⟩
        by_cases c674 : t672 = true
        · rw [if_pos c674] at h
          obtain rfl := c674
          refine VL.va (op_not rfl rfl (ltn rfl)) rfl ?_
          refine VL.va (op_pick rfl rfl (ltn rfl)) rfl ?_
          refine VL.va (op_assign rfl (ltn rfl)) rfl ?_
          refine VL.done ?_
          refine VN.then ?_
          refine VC.ret ?_
          obtain rfl := Option.some.inj h
          exact VR.fn (rs := [.tmp 2]) [] [] [] rfl (.tmp rfl .nil) ⟨rfl, rfl, rfl⟩ trivial rfl (by decide)
        · rw [if_neg c674] at h
          obtain rfl := Bool.eq_false_iff.2 c674
          refine VL.va (op_not rfl rfl (ltn rfl)) rfl ?_
          refine VL.va (op_pick rfl rfl (ltn rfl)) rfl ?_
          refine VL.va (op_assign rfl (ltn rfl)) rfl ?_
          refine VL.done ?_
          refine VN.then ?_
          refine VC.ret ?_
          obtain rfl := Option.some.inj h
          exact VR.fn (rs := [.tmp 2]) [] [] [] rfl (.tmp rfl .nil) ⟨rfl, rfl, rfl⟩ trivial rfl (by decide)
      · rw [if_neg c669] at h; cases h
    · rw [if_neg c668] at h
      obtain rfl : b667 = false := hb667.symm.trans (decide_eq_false c668)
      refine VL.un rfl rfl (ltn rfl) ?_
      refine VL.un rfl rfl (ltn rfl) ?_
      refine VL.un rfl rfl (ltn rfl) ?_
      refine VL.un rfl rfl (ltn rfl) ?_
      refine VL.un rfl rfl (ltn rfl) ?_
      refine VL.va (op_pick rfl rfl (ltn rfl)) rfl ?_
      refine VL.va (op_assign rfl (ltn rfl)) rfl ?_
      refine VL.done ?_
      refine VN.then ?_
      refine VC.ret ?_
      obtain rfl := Option.some.inj h
      exact VR.fn (rs := [.tmp 2]) [] [] [] rfl (.tmp rfl .nil) ⟨rfl, rfl, rfl⟩ trivial rfl (by decide)

end Go.Proofs.Ytoiihpmncphplaa.PGoodsKnow
