/- Written by a program of this repo: what the program's functions do, each as a Lean function, shown of the loaded code; or a statement's row over that; no condition of its own. -/
import Derived.Test.YtoiihpmncphplaaPGoodsStayx0
namespace Go.Proofs.Ytoiihpmncphplaa.PGoodsStay
open Go Go.RowKit Go.Proofs.YtoiihpmncphplaaV
set_option linter.unusedVariables false
set_option linter.unusedSimpArgs false

set_option maxHeartbeats 4000000 in
set_option maxRecDepth 100000 in
theorem tarrylaw07_cut.ok (a0_0 : ByteArray) (a0_1 : ByteArray) (a0_2 : Int) (a0_3 : Int) (a0_4 : Int)  (r1 : ByteArray) (r2 : ByteArray) (r3 : Int) (r4 : Int) (r5 : Int) (h : tarrylaw07_cut.f a0_0 a0_1 a0_2 a0_3 a0_4 = some (r1, r2, r3, r4, r5)) :
    VCalls Try.prog 6 [.agg #[.string a0_0, .string a0_1, .int .i64 a0_2, .int .i64 a0_3, .int .i64 a0_4]] [] (fun v G own => v = .agg #[.string r1, .string r2, .int .i64 r3, .int .i64 r4, .int .i64 r5] ∧ G = [] ∧ own = []) := by
  refine VCalls.intro Try.func6 rfl (len rfl) fun E hC => ?_
  unfold tarrylaw07_cut.f at h
  refine VC.seq ?_
  refine VC.region ?_
  refine VL.sG (o_box rfl (.agg (.of rfl)) (ltn rfl)) rfl ?_
  intro g112
  refine VL.sG (o_alloc Z23 ZL23 (ltn rfl)) rfl ?_
  intro g113
  refine VL.done ?_
  refine VN.then ?_
  by_cases c114 : 0 ≤ mn (a0_0.size : Int) 18
  · rw [if_pos c114] at h
    by_cases c115 : (mn (a0_0.size : Int) 18) ≤ (a0_0.size : Int)
    · rw [if_pos c115] at h
      by_cases c116 : 0 ≤ mn (a0_1.size : Int) 18
      · rw [if_pos c116] at h
        by_cases c117 : (mn (a0_1.size : Int) 18) ≤ (a0_1.size : Int)
        · rw [if_pos c117] at h
          refine VC.join0 (⟨20, [(1, .pointer (some ⟨g112, 0, none⟩)), (2, .pointer (some ⟨g113, 0, none⟩))], [], [(g113, 23, [.string (⟨#[]⟩ : ByteArray), .string (⟨#[]⟩ : ByteArray), .int .i64 0, .int .i64 0, .int .i64 0]), (g112, 23, [.string (a0_0.extract 0 ((mn (a0_0.size : Int) 18).toNat)), .string (a0_1.extract 0 ((mn (a0_1.size : Int) 18).toNat)), .int .i64 a0_2, .int .i64 a0_3, .int .i64 a0_4])], []⟩) (True) ?_ ?_
          · refine VC.drawB ⟨0, [], [], [], []⟩ [15, 17] ⟨0, [], [], [(g112, 23, [.string a0_0, .string a0_1, .int .i64 a0_2, .int .i64 a0_3, .int .i64 a0_4])], []⟩ (by kernel_rfl) rfl (by kernel_rfl) (n := 18) (listed := LB 18 0) ?_
            refine VB.va (i := 0) (listed' := LB 18 1) rfl (op_fieldAddr FI23_0 rfl (add_at _ _ _) (ltn rfl)) rfl (by kernel_rfl) (by kernel_rfl) (by kernel_rfl) (by kernel_rfl) (by decide) (PartP.on ⟨trivial, trivial, trivial⟩ ⟨trivial, ⟨⟨1, rfl⟩, trivial⟩, trivial⟩) (fun _ _ _ h => h) ?_
            refine VB.vb (i := 1) (listed' := LB 18 3) rfl (op_load 0 1 rfl rfl TI9 rfl (by decide) (ltn rfl)) rfl (by kernel_rfl) (by kernel_rfl) (by kernel_rfl) (by kernel_rfl) (by kernel_rfl) (by kernel_rfl) (PartP.on ⟨trivial, trivial, trivial⟩ ⟨trivial, ⟨⟨1, rfl⟩, trivial⟩, trivial⟩) (fun _ _ _ h => h) ?_
            refine VB.va (i := 2) (listed' := LB 18 7) rfl (op_fieldAddr FI23_0 rfl (add_at _ _ _) (ltn rfl)) rfl (by kernel_rfl) (by kernel_rfl) (by kernel_rfl) (by kernel_rfl) (by decide) (PartP.on ⟨trivial, trivial, trivial⟩ ⟨trivial, ⟨⟨1, rfl⟩, trivial⟩, trivial⟩) (fun _ _ _ h => h) ?_
            refine VB.vb (i := 3) (listed' := LB 18 15) rfl (op_load 0 1 rfl rfl TI9 rfl (by decide) (ltn rfl)) rfl (by kernel_rfl) (by kernel_rfl) (by kernel_rfl) (by kernel_rfl) (by kernel_rfl) (by kernel_rfl) (PartP.on ⟨trivial, trivial, trivial⟩ ⟨trivial, ⟨⟨1, rfl⟩, trivial⟩, trivial⟩) (fun _ _ _ h => h) ?_
            refine VB.va (i := 4) (listed' := LB 18 31) rfl (op_lens Try.underlying9 rfl (ltn rfl)) rfl (by kernel_rfl) (by kernel_rfl) (by kernel_rfl) (by kernel_rfl) (by decide) (PartP.on ⟨trivial, trivial, trivial⟩ ⟨trivial, ⟨⟨1, rfl⟩, trivial⟩, trivial⟩) (fun _ _ _ h => h) ?_
            refine VB.va (i := 5) (listed' := LB 18 63) rfl (op_min rfl rfl (ltn rfl)) rfl (by kernel_rfl) (by kernel_rfl) (by kernel_rfl) (by kernel_rfl) (by decide) (PartP.on ⟨trivial, trivial, trivial⟩ ⟨trivial, ⟨⟨1, rfl⟩, trivial⟩, trivial⟩) (fun _ _ _ h => h) ?_
            refine VB.va (i := 6) (listed' := LB 18 127) rfl (op_sliceS 0 ((mn (a0_0.size : Int) 18).toNat) Try.underlying9 rfl ⟨rfl, ⟨_, _, rfl, c114, rfl⟩, by omega, by omega⟩ rfl (ltn rfl)) rfl (by kernel_rfl) (by kernel_rfl) (by kernel_rfl) (by kernel_rfl) (by decide) (PartP.on ⟨trivial, trivial, trivial⟩ ⟨trivial, ⟨⟨1, rfl⟩, trivial⟩, trivial⟩) (fun _ _ _ h => h) ?_
            refine VB.va (i := 7) (listed' := LB 18 255) rfl (op_fieldAddr FI23_1 rfl (add_at _ _ _) (ltn rfl)) rfl (by kernel_rfl) (by kernel_rfl) (by kernel_rfl) (by kernel_rfl) (by decide) (PartP.on ⟨trivial, trivial, trivial⟩ ⟨trivial, ⟨⟨1, rfl⟩, trivial⟩, trivial⟩) (fun _ _ _ h => h) ?_
            refine VB.vb (i := 8) (listed' := LB 18 511) rfl (op_load 0 1 rfl rfl TI9 rfl (by decide) (ltn rfl)) rfl (by kernel_rfl) (by kernel_rfl) (by kernel_rfl) (by kernel_rfl) (by kernel_rfl) (by kernel_rfl) (PartP.on ⟨trivial, trivial, trivial⟩ ⟨trivial, ⟨⟨1, rfl⟩, trivial⟩, trivial⟩) (fun _ _ _ h => h) ?_
            refine VB.va (i := 9) (listed' := LB 18 1023) rfl (op_fieldAddr FI23_1 rfl (add_at _ _ _) (ltn rfl)) rfl (by kernel_rfl) (by kernel_rfl) (by kernel_rfl) (by kernel_rfl) (by decide) (PartP.on ⟨trivial, trivial, trivial⟩ ⟨trivial, ⟨⟨1, rfl⟩, trivial⟩, trivial⟩) (fun _ _ _ h => h) ?_
            refine VB.vb (i := 10) (listed' := LB 18 2047) rfl (op_load 0 1 rfl rfl TI9 rfl (by decide) (ltn rfl)) rfl (by kernel_rfl) (by kernel_rfl) (by kernel_rfl) (by kernel_rfl) (by kernel_rfl) (by kernel_rfl) (PartP.on ⟨trivial, trivial, trivial⟩ ⟨trivial, ⟨⟨1, rfl⟩, trivial⟩, trivial⟩) (fun _ _ _ h => h) ?_
            refine VB.va (i := 11) (listed' := LB 18 4095) rfl (op_lens Try.underlying9 rfl (ltn rfl)) rfl (by kernel_rfl) (by kernel_rfl) (by kernel_rfl) (by kernel_rfl) (by decide) (PartP.on ⟨trivial, trivial, trivial⟩ ⟨trivial, ⟨⟨1, rfl⟩, trivial⟩, trivial⟩) (fun _ _ _ h => h) ?_
            refine VB.va (i := 12) (listed' := LB 18 8191) rfl (op_min rfl rfl (ltn rfl)) rfl (by kernel_rfl) (by kernel_rfl) (by kernel_rfl) (by kernel_rfl) (by decide) (PartP.on ⟨trivial, trivial, trivial⟩ ⟨trivial, ⟨⟨1, rfl⟩, trivial⟩, trivial⟩) (fun _ _ _ h => h) ?_
            refine VB.va (i := 13) (listed' := LB 18 16383) rfl (op_sliceS 0 ((mn (a0_1.size : Int) 18).toNat) Try.underlying9 rfl ⟨rfl, ⟨_, _, rfl, c116, rfl⟩, by omega, by omega⟩ rfl (ltn rfl)) rfl (by kernel_rfl) (by kernel_rfl) (by kernel_rfl) (by kernel_rfl) (by decide) (PartP.on ⟨trivial, trivial, trivial⟩ ⟨trivial, ⟨⟨1, rfl⟩, trivial⟩, trivial⟩) (fun _ _ _ h => h) ?_
            refine VB.va (i := 14) (listed' := LB 18 32767) rfl (op_fieldAddr FI23_0 rfl (add_at _ _ _) (ltn rfl)) rfl (by kernel_rfl) (by kernel_rfl) (by kernel_rfl) (by kernel_rfl) (by decide) (PartP.on ⟨trivial, trivial, trivial⟩ ⟨trivial, ⟨⟨1, rfl⟩, trivial⟩, trivial⟩) (fun _ _ _ h => h) ?_
            refine VB.one1 (i := 15) (listed' := LB 18 65535) (by kernel_rfl) rfl (o_store 1 1 rfl rfl rfl TI9 (.c rfl) rfl (len rfl)) rfl (by kernel_rfl) (PartP.off (by kernel_rfl) ⟨trivial, trivial, trivial⟩) ?_
            refine VB.va (i := 16) (listed' := LB 18 131071) rfl (op_fieldAddr FI23_1 rfl (add_at _ _ _) (ltn rfl)) rfl (by kernel_rfl) (by kernel_rfl) (by kernel_rfl) (by kernel_rfl) (by decide) (PartP.off (by kernel_rfl) ⟨trivial, trivial, trivial⟩) (fun _ _ _ h => h) ?_
            refine VB.one1 (i := 17) (listed' := LB 18 262143) (by kernel_rfl) rfl (o_store 1 1 rfl rfl rfl TI9 (.c rfl) rfl (len rfl)) rfl (by kernel_rfl) (PartP.off (by kernel_rfl) ⟨trivial, trivial, trivial⟩) ?_
            refine VB.done (by kernel_rfl) ?_
            exact VN.meet0  [0, 1] [] trivial ⟨rfl, ⟨rfl, rfl, trivial⟩, trivial, rfl, by decide, rfl, by decide⟩
          intro _
          refine VC.seq ?_
          refine VC.region ?_
          refine VL.va (op_load 1 5 rfl rfl TI23 rfl (fun h => absurd h (by decide)) (ltn rfl)) rfl ?_
          refine VL.step1 (o_store 0 5 rfl rfl rfl TI23 (.agg (.of rfl)) rfl (len rfl)) rfl ?_
          refine VL.done ?_
          refine VN.then ?_
          refine VC.ret ?_
          simp only [Option.some.injEq, Prod.mk.injEq] at h
          obtain ⟨rfl, rfl, rfl, rfl, rfl⟩ := h
          exact VR.fn (rs := [.cell 2 23]) [] [] [] rfl (.cell 0 rfl rfl TI23 (fun h => absurd h (by decide)) .nil) ⟨rfl, rfl, rfl⟩ trivial rfl (by decide)
        · rw [if_neg c117] at h; cases h
      · rw [if_neg c116] at h; cases h
    · rw [if_neg c115] at h; cases h
  · rw [if_neg c114] at h; cases h
set_option maxHeartbeats 4000000 in
set_option maxRecDepth 100000 in
theorem tarrylaw07_few.ok (k : Nat) (l0_0 : List ByteArray) (l0_1 : List S22) (v0_0 : Value) (v0_1 : Value) (r1 : List ByteArray) (r2 : List S22) (h : tarrylaw07_few.f k l0_0 l0_1 = some (r1, r2)) :
    VCalls Try.prog 11 [.agg #[v0_0, v0_1]] [.row v0_0 1 (l0_0.map enc_str), .row v0_1 5 (l0_1.map enc22)] (fun v G own => ∃ w0 w1 : Value, v = .agg #[w0, w1] ∧ G = [] ∧ own = [(w0, 9, 1, r1.map enc_str), (w1, 23, 5, r2.map enc22)]) := by
  refine VCalls.intro Try.func11 rfl (len rfl) fun E hC => ?_
  unfold tarrylaw07_few.f at h
  refine VC.seq ?_
  refine VC.region ?_
  refine VL.sG (o_box rfl (.agg (.f 0 rfl (.f 1 rfl .nil))) (ltn rfl)) rfl ?_
  intro g8
  refine VL.sG (o_alloc Z35 ZL35 (ltn rfl)) rfl ?_
  intro g9
  refine VL.done ?_
  refine VN.then ?_
  refine VC.seq ?_
  refine VC.region ?_
  refine VL.sG (o_alloc Z35 ZL35 (ltn rfl)) rfl ?_
  intro g10
  refine VL.done ?_
  refine VN.then ?_
  refine VC.seq ?_
  refine VC.seq ?_
  refine VC.region ?_
  refine VL.va (op_fieldAddr FI35_0 rfl (add_at _ _ _) (ltn rfl)) rfl ?_
  refine VL.va (op_load 2 1 rfl rfl TI32 rfl (by decide) (ltn rfl)) rfl ?_
  refine VL.va (op_fieldAddr FI35_0 rfl (add_at _ _ _) (ltn rfl)) rfl ?_
  refine VL.va (op_load 2 1 rfl rfl TI32 rfl (by decide) (ltn rfl)) rfl ?_
  refine VL.va (op_len (m := l0_0.length) 0 lenm Try.underlying32 rfl rfl (ltn rfl)) rfl ?_
  refine VL.va (op_min rfl rfl (ltn rfl)) rfl ?_
  by_cases c62 : 0 ≤ mn (l0_0.length : Int) 10
  · rw [if_pos c62] at h
    by_cases c63 : (mn (l0_0.length : Int) 10) ≤ (l0_0.length : Int)
    · rw [if_pos c63] at h
      refine VL.sG (o_slice (m := l0_0.length) 0 0 ((mn (l0_0.length : Int) 10).toNat) lenm cutm Try.underlying32 TI9 rfl rfl ⟨rfl, ⟨_, _, rfl, c62, rfl⟩, by omega, by omega⟩ (ltn rfl)) rfl ?_
      intro v65
      refine VL.va (op_len (m := ((l0_0.take ((mn (l0_0.length : Int) 10).toNat)).drop 0).length) 0 lenm Try.underlying32 rfl rfl (ltn rfl)) rfl ?_
      refine VL.va (op_move rfl (ltn rfl)) rfl ?_
      refine VL.done ?_
      refine VN.then ?_
      refine VC.block ?_
      refine VC.nilRow' 9 1 ?_
      refine VC.loop3 (fun (i80 : Int) (v82 : Value) (l83 : List ByteArray) => ⟨52, [(1, .pointer (some ⟨g8, 0, none⟩)), (2, .pointer (some ⟨g9, 0, none⟩)), (3, .pointer (some ⟨g10, 0, none⟩)), (14, v65), (15, .int .i64 (((l0_0.take ((mn (l0_0.length : Int) 10).toNat)).drop 0).length : Int)), (16, .int .i64 i80)], [.row v65 1 (((l0_0.take ((mn (l0_0.length : Int) 10).toNat)).drop 0).map enc_str), .row v0_0 1 (l0_0.map enc_str), .row v0_1 5 (l0_1.map enc22)], [(g10, 35, [v82, .slice none 0 0]), (g9, 35, [.slice none 0 0, .slice none 0 0]), (g8, 35, [v0_0, v0_1])], [(v82, 9, 1, l83.map enc_str)]⟩) (fun (ml1 : Nat) (i80 : Int) (v82 : Value) (l83 : List ByteArray) => tarrylaw07_few.l1 k l0_0 l0_1 ml1 i80 l83 = some (r1, r2)) k 0 (.slice none 0 0) ([] : List ByteArray) [0, 1, 2] [0] h ⟨rfl, ⟨rfl, rfl, rfl, rfl, rfl, rfl, trivial⟩, ⟨⟨0, rfl⟩, ⟨1, rfl⟩, ⟨2, rfl⟩, trivial⟩, rfl, by decide, rfl, by decide⟩ (by intros; simp [tarrylaw07_few.l1]) ?_
      clear h
      intro ml1 ihl1 i80 v82 l83 h
      simp only [tarrylaw07_few.l1] at h
      refine VC.seq ?_
      refine VC.region ?_
      refine VL.letter (decide (i80 < (((l0_0.take ((mn (l0_0.length : Int) 10).toNat)).drop 0).length : Int))) fun b99 hb99 => ?_
      refine VL.va (op_cmp rfl rfl (congrArg some hb99) (ltn rfl)) rfl ?_
      refine VL.done ?_
      refine VN.then ?_
      refine VC.seq ?_
      by_cases c239 : i80 < (((l0_0.take ((mn (l0_0.length : Int) 10).toNat)).drop 0).length : Int)
      · rw [if_pos c239] at h
        obtain rfl : b99 = true := hb99.symm.trans (decide_eq_true c239)
        refine VC.cond_t rfl ?_
        refine VC.skip ?_
        refine VN.then ?_
        refine VC.seq ?_
        refine VC.block ?_
        refine VC.seq ?_
        refine VC.region ?_
        by_cases c240 : 0 ≤ i80
        · rw [if_pos c240] at h
          replace h := Option.bind_eq_some_iff.1 h
          obtain ⟨x241, hx241, h⟩ := h
          refine VL.open (m := ((l0_0.take ((mn (l0_0.length : Int) 10).toNat)).drop 0).length) 0 lenm rfl (pos_get hx241) ?_
          rintro ad242 n243 rfl
          refine VL.va (op_indexAddr Try.underlying32 TI9 rfl rfl c240 (lt_get c240 hx241) rfl (ltn rfl)) rfl ?_
          refine VL.va (op_load_row (sz := 1) (o := 0) 0 i80.toNat 1 rfl rfl (get_map hx241) TI9 rfl (by decide) (ltn rfl)) rfl ?_
          refine VL.va (op_assign rfl (ltn rfl)) rfl ?_
          refine VL.done ?_
          refine VN.then ?_
          by_cases c244 : 0 ≤ mn (x241.size : Int) 18
          · rw [if_pos c244] at h
            by_cases c245 : (mn (x241.size : Int) 18) ≤ (x241.size : Int)
            · rw [if_pos c245] at h
              by_cases c248 : (l83.length + ([x241.extract 0 ((mn (x241.size : Int) 18).toNat)] : List ByteArray).length) * 16 ≤ 140737488355328
              · rw [if_pos c248] at h
                refine VC.stop2 (fun (v247 : Value) (v249 : Value) => ⟨52, [(1, .pointer (some ⟨g8, 0, none⟩)), (2, .pointer (some ⟨g9, 0, none⟩)), (3, .pointer (some ⟨g10, 0, none⟩)), (5, .string x241), (14, (.slice (some ad242) ((l0_0.take ((mn (l0_0.length : Int) 10).toNat)).drop 0).length n243)), (15, .int .i64 (((l0_0.take ((mn (l0_0.length : Int) 10).toNat)).drop 0).length : Int)), (16, .int .i64 i80), (17, .bool true), (19, .string x241), (20, .pointer (some ⟨g10, 0, none⟩)), (22, .string x241), (23, .string x241), (24, .int .i64 (x241.size : Int)), (25, .int .i64 (mn (x241.size : Int) 18)), (26, .string (x241.extract 0 ((mn (x241.size : Int) 18).toNat))), (27, v247), (28, v249), (29, .pointer (some ⟨g10, 0, none⟩))], [.row (.slice (some ad242) ((l0_0.take ((mn (l0_0.length : Int) 10).toNat)).drop 0).length n243) 1 (((l0_0.take ((mn (l0_0.length : Int) 10).toNat)).drop 0).map enc_str), .row v0_0 1 (l0_0.map enc_str), .row v0_1 5 (l0_1.map enc22)], [(g10, 35, [v249, .slice none 0 0]), (g9, 35, [.slice none 0 0, .slice none 0 0]), (g8, 35, [v0_0, v0_1])], [(v247, 9, 1, ([x241.extract 0 ((mn (x241.size : Int) 18).toNat)] : List ByteArray).map enc_str), (v249, 9, 1, (l83 ++ ([x241.extract 0 ((mn (x241.size : Int) 18).toNat)] : List ByteArray)).map enc_str)]⟩) (fun (v247 : Value) (v249 : Value) => True) ?_ ?_
                · refine VC.drawB ⟨0, [], [], [], []⟩ [8, 10] ⟨0, [], [], [(g10, 35, [v82, .slice none 0 0])], []⟩ (by kernel_rfl) rfl (by kernel_rfl) (n := 11) (listed := LB 11 0) ?_
                  refine VB.va (i := 0) (listed' := LB 11 1) rfl (op_fieldAddr FI35_0 rfl (add_at _ _ _) (ltn rfl)) rfl (by kernel_rfl) (by kernel_rfl) (by kernel_rfl) (by kernel_rfl) (by decide) (PartP.on ⟨trivial, trivial, trivial⟩ ⟨trivial, ⟨⟨0, rfl⟩, trivial⟩, trivial⟩) (fun _ _ _ h => h) ?_
                  refine VB.vb (i := 1) (listed' := LB 11 3) rfl (op_load 0 1 rfl rfl TI32 rfl (by decide) (ltn rfl)) rfl (by kernel_rfl) (by kernel_rfl) (by kernel_rfl) (by kernel_rfl) (by kernel_rfl) (by kernel_rfl) (PartP.on ⟨trivial, trivial, trivial⟩ ⟨trivial, ⟨⟨0, rfl⟩, trivial⟩, trivial⟩) (fun _ _ _ h => h) ?_
                  refine VB.va (i := 2) (listed' := LB 11 7) rfl (op_move rfl (ltn rfl)) rfl (by kernel_rfl) (by kernel_rfl) (by kernel_rfl) (by kernel_rfl) (by decide) (PartP.on ⟨trivial, trivial, trivial⟩ ⟨trivial, ⟨⟨0, rfl⟩, trivial⟩, trivial⟩) (fun _ _ _ h => h) ?_
                  refine VB.va (i := 3) (listed' := LB 11 15) rfl (op_move rfl (ltn rfl)) rfl (by kernel_rfl) (by kernel_rfl) (by kernel_rfl) (by kernel_rfl) (by decide) (PartP.on ⟨trivial, trivial, trivial⟩ ⟨trivial, ⟨⟨0, rfl⟩, trivial⟩, trivial⟩) (fun _ _ _ h => h) ?_
                  refine VB.va (i := 4) (listed' := LB 11 31) rfl (op_lens Try.underlying9 rfl (ltn rfl)) rfl (by kernel_rfl) (by kernel_rfl) (by kernel_rfl) (by kernel_rfl) (by decide) (PartP.on ⟨trivial, trivial, trivial⟩ ⟨trivial, ⟨⟨0, rfl⟩, trivial⟩, trivial⟩) (fun _ _ _ h => h) ?_
                  refine VB.va (i := 5) (listed' := LB 11 63) rfl (op_min rfl rfl (ltn rfl)) rfl (by kernel_rfl) (by kernel_rfl) (by kernel_rfl) (by kernel_rfl) (by decide) (PartP.on ⟨trivial, trivial, trivial⟩ ⟨trivial, ⟨⟨0, rfl⟩, trivial⟩, trivial⟩) (fun _ _ _ h => h) ?_
                  refine VB.va (i := 6) (listed' := LB 11 127) rfl (op_sliceS 0 ((mn (x241.size : Int) 18).toNat) Try.underlying9 rfl ⟨rfl, ⟨_, _, rfl, c244, rfl⟩, by omega, by omega⟩ rfl (ltn rfl)) rfl (by kernel_rfl) (by kernel_rfl) (by kernel_rfl) (by kernel_rfl) (by decide) (PartP.on ⟨trivial, trivial, trivial⟩ ⟨trivial, ⟨⟨0, rfl⟩, trivial⟩, trivial⟩) (fun _ _ _ h => h) ?_
                  refine VB.oneG (i := 7) (listed' := LB 11 255) (by kernel_rfl) rfl (o_buildSlice (vals := [(0, .string (x241.extract 0 ((mn (x241.size : Int) 18).toNat)))]) (cells := #[.string (x241.extract 0 ((mn (x241.size : Int) 18).toNat))]) (es := List.map enc_str ([x241.extract 0 ((mn (x241.size : Int) 18).toNat)] : List ByteArray)) Try.underlying32 TI9 Z9 rfl (by decide) (by decide) (by kernel_rfl) (by kernel_rfl) rfl (flat_map enc_str_ok _) (ltn rfl)) rfl (by kernel_rfl) (fun _ => (PartP.on ⟨trivial, trivial, trivial⟩ ⟨trivial, ⟨⟨0, rfl⟩, trivial⟩, trivial⟩)) ?_
                  intro v247
                  refine VB.oneG (i := 8) (listed' := LB 11 511) (by kernel_rfl) rfl (o_append 1 appm Try.underlying32 EI9 rfl rfl rfl (.inr ⟨0, _, rfl⟩) (bndm c248) (ltn rfl)) rfl (by kernel_rfl) (fun _ => (PartP.off (by kernel_rfl) ⟨trivial, trivial, trivial⟩)) ?_
                  intro v249
                  refine VB.va (i := 9) (listed' := LB 11 1023) rfl (op_fieldAddr FI35_0 rfl (add_at _ _ _) (ltn rfl)) rfl (by kernel_rfl) (by kernel_rfl) (by kernel_rfl) (by kernel_rfl) (by decide) (PartP.off (by kernel_rfl) ⟨trivial, trivial, trivial⟩) (fun _ _ _ h => h) ?_
                  refine VB.one1 (i := 10) (listed' := LB 11 2047) (by kernel_rfl) rfl (o_store 0 1 rfl rfl rfl TI32 (.r 1 rfl) rfl (len rfl)) rfl (by kernel_rfl) (PartP.off (by kernel_rfl) ⟨trivial, trivial, trivial⟩) ?_
                  refine VB.done (by kernel_rfl) ?_
                  exact VN.meet2 v247 v249 [0, 1, 2] [0, 1] trivial ⟨rfl, ⟨rfl, rfl, rfl, rfl, rfl, rfl, rfl, rfl, rfl, rfl, rfl, rfl, rfl, rfl, rfl, rfl, rfl, rfl, trivial⟩, ⟨⟨0, rfl⟩, ⟨1, rfl⟩, ⟨2, rfl⟩, trivial⟩, rfl, by decide, rfl, by decide⟩
                intro v247 v249 _
                refine VN.block ?_
                refine VN.then ?_
                refine VC.region ?_
                refine VL.va (op_ari64 rfl rfl rfl (ltn rfl)) rfl ?_
                refine VL.va (op_move rfl (ltn rfl)) rfl ?_
                refine VL.done ?_
                refine VN.again [0, 1, 2] [1] (ihl1 (wrap64 (i80 + 1)) v249 (l83 ++ ([x241.extract 0 ((mn (x241.size : Int) 18).toNat)] : List ByteArray)) h) ⟨rfl, ⟨rfl, rfl, rfl, rfl, rfl, rfl, trivial⟩, ⟨⟨0, rfl⟩, ⟨1, rfl⟩, ⟨2, rfl⟩, trivial⟩, rfl, by decide, rfl, by decide⟩
              · rw [if_neg c248] at h; cases h
            · rw [if_neg c245] at h; cases h
          · rw [if_neg c244] at h; cases h
        · rw [if_neg c240] at h; cases h
      · rw [if_neg c239] at h
        obtain rfl : b99 = false := hb99.symm.trans (decide_eq_false c239)
        refine VC.cond_f rfl ?_
        refine VC.exit ?_
        refine VX.then ?_
        refine VX.then ?_
        refine VX.hit ?_
        refine VN.then ?_
        refine VC.seq ?_
        refine VC.seq ?_
        refine VC.region ?_
        refine VL.va (op_fieldAddr FI35_1 rfl (add_at _ _ _) (ltn rfl)) rfl ?_
        refine VL.va (op_load 2 1 rfl rfl TI33 rfl (by decide) (ltn rfl)) rfl ?_
        refine VL.va (op_fieldAddr FI35_1 rfl (add_at _ _ _) (ltn rfl)) rfl ?_
        refine VL.va (op_load 2 1 rfl rfl TI33 rfl (by decide) (ltn rfl)) rfl ?_
        refine VL.va (op_len (m := l0_1.length) 2 lenm Try.underlying33 rfl rfl (ltn rfl)) rfl ?_
        refine VL.va (op_min rfl rfl (ltn rfl)) rfl ?_
        by_cases c317 : 0 ≤ mn (l0_1.length : Int) 18
        · rw [if_pos c317] at h
          by_cases c318 : (mn (l0_1.length : Int) 18) ≤ (l0_1.length : Int)
          · rw [if_pos c318] at h
            refine VL.sG (o_slice (m := l0_1.length) 2 0 ((mn (l0_1.length : Int) 18).toNat) lenm cutm Try.underlying33 TI23 rfl rfl ⟨rfl, ⟨_, _, rfl, c317, rfl⟩, by omega, by omega⟩ (ltn rfl)) rfl ?_
            intro v320
            refine VL.va (op_len (m := ((l0_1.take ((mn (l0_1.length : Int) 18).toNat)).drop 0).length) 0 lenm Try.underlying33 rfl rfl (ltn rfl)) rfl ?_
            refine VL.va (op_move rfl (ltn rfl)) rfl ?_
            refine VL.done ?_
            refine VN.then ?_
            refine VC.block ?_
            refine VC.nilRow' 23 5 ?_
            refine VC.loop3 (fun (i340 : Int) (v342 : Value) (l343 : List S22) => ⟨52, [(2, .pointer (some ⟨g9, 0, none⟩)), (3, .pointer (some ⟨g10, 0, none⟩)), (37, v320), (38, .int .i64 (((l0_1.take ((mn (l0_1.length : Int) 18).toNat)).drop 0).length : Int)), (39, .int .i64 i340)], [.row v320 5 (((l0_1.take ((mn (l0_1.length : Int) 18).toNat)).drop 0).map enc22)], [(g10, 35, [v82, v342]), (g9, 35, [.slice none 0 0, .slice none 0 0])], [(v342, 23, 5, l343.map enc22), (v82, 9, 1, l83.map enc_str)]⟩) (fun (ml5 : Nat) (i340 : Int) (v342 : Value) (l343 : List S22) => tarrylaw07_few.l5 k l0_1 l83 ml5 i340 l343 = some (r1, r2)) k 0 (.slice none 0 0) ([] : List S22) [0, 1] [0, 1] h ⟨rfl, ⟨rfl, rfl, rfl, rfl, rfl, trivial⟩, ⟨⟨0, rfl⟩, trivial⟩, rfl, by decide, rfl, by decide⟩ (by intros; simp [tarrylaw07_few.l5]) ?_
            clear h
            intro ml5 ihl5 i340 v342 l343 h
            simp only [tarrylaw07_few.l5] at h
            refine VC.seq ?_
            refine VC.region ?_
            refine VL.letter (decide (i340 < (((l0_1.take ((mn (l0_1.length : Int) 18).toNat)).drop 0).length : Int))) fun b364 hb364 => ?_
            refine VL.va (op_cmp rfl rfl (congrArg some hb364) (ltn rfl)) rfl ?_
            refine VL.done ?_
            refine VN.then ?_
            refine VC.seq ?_
            by_cases c366 : i340 < (((l0_1.take ((mn (l0_1.length : Int) 18).toNat)).drop 0).length : Int)
            · rw [if_pos c366] at h
              obtain rfl : b364 = true := hb364.symm.trans (decide_eq_true c366)
              refine VC.cond_t rfl ?_
              refine VC.skip ?_
              refine VN.then ?_
              refine VC.seq ?_
              refine VC.block ?_
              refine VC.seq ?_
              refine VC.region ?_
              by_cases c367 : 0 ≤ i340
              · rw [if_pos c367] at h
                replace h := Option.bind_eq_some_iff.1 h
                obtain ⟨x368, hx368, h⟩ := h
                refine VL.open (m := ((l0_1.take ((mn (l0_1.length : Int) 18).toNat)).drop 0).length) 0 lenm rfl (pos_get hx368) ?_
                rintro ad369 n370 rfl
                refine VL.va (op_indexAddr Try.underlying33 TI23 rfl rfl c367 (lt_get c367 hx368) rfl (ltn rfl)) rfl ?_
                refine VL.va (op_load_row (sz := 5) (o := 0) 0 i340.toNat 5 rfl rfl (get_map hx368) TI23 rfl (fun h => absurd h (by decide)) (ltn rfl)) rfl ?_
                refine VL.sG (o_alloc Z23 ZL23 (ltn rfl)) rfl ?_
                intro g371
                refine VL.step1 (o_store 0 5 rfl rfl rfl TI23 (.agg (.of rfl)) rfl (len rfl)) rfl ?_
                refine VL.done ?_
                refine VN.then ?_
                replace h := Option.bind_eq_some_iff.1 h
                obtain ⟨⟨t372, t373, t374, t375, t376⟩, hA377, h⟩ := h
                dsimp only at h
                by_cases c380 : (l343.length + ([(⟨t372, t373, t374, t375, t376⟩ : S22)] : List S22).length) * 56 ≤ 140737488355328
                · rw [if_pos c380] at h
                  refine VC.stop2 (fun (v379 : Value) (v381 : Value) => ⟨52, [(2, .pointer (some ⟨g9, 0, none⟩)), (3, .pointer (some ⟨g10, 0, none⟩)), (7, .pointer (some ⟨g371, 0, none⟩)), (37, (.slice (some ad369) ((l0_1.take ((mn (l0_1.length : Int) 18).toNat)).drop 0).length n370)), (38, .int .i64 (((l0_1.take ((mn (l0_1.length : Int) 18).toNat)).drop 0).length : Int)), (39, .int .i64 i340), (40, .bool true), (42, .agg #[.string x368.f0, .string x368.f1, .int .i64 x368.f2, .int .i64 x368.f3, .int .i64 x368.f4]), (43, .pointer (some ⟨g10, 1, none⟩)), (45, .agg #[.string x368.f0, .string x368.f1, .int .i64 x368.f2, .int .i64 x368.f3, .int .i64 x368.f4]), (46, .agg #[.string t372, .string t373, .int .i64 t374, .int .i64 t375, .int .i64 t376]), (47, v379), (48, v381), (49, .pointer (some ⟨g10, 1, none⟩))], [.row (.slice (some ad369) ((l0_1.take ((mn (l0_1.length : Int) 18).toNat)).drop 0).length n370) 5 (((l0_1.take ((mn (l0_1.length : Int) 18).toNat)).drop 0).map enc22)], [(g371, 23, [.string x368.f0, .string x368.f1, .int .i64 x368.f2, .int .i64 x368.f3, .int .i64 x368.f4]), (g10, 35, [v82, v381]), (g9, 35, [.slice none 0 0, .slice none 0 0])], [(v379, 23, 5, ([(⟨t372, t373, t374, t375, t376⟩ : S22)] : List S22).map enc22), (v381, 23, 5, (l343 ++ ([(⟨t372, t373, t374, t375, t376⟩ : S22)] : List S22)).map enc22), (v82, 9, 1, l83.map enc_str)]⟩) (fun (v379 : Value) (v381 : Value) => True) ?_ ?_
                  · refine VC.drawB ⟨0, [], [], [(g371, 23, [.string x368.f0, .string x368.f1, .int .i64 x368.f2, .int .i64 x368.f3, .int .i64 x368.f4])], []⟩ [5, 7] ⟨0, [], [], [(g10, 35, [v82, v342])], []⟩ (by kernel_rfl) rfl (by kernel_rfl) (n := 8) (listed := LB 8 0) ?_
                    refine VB.va (i := 0) (listed' := LB 8 1) rfl (op_fieldAddr FI35_1 rfl (add_at _ _ _) (ltn rfl)) rfl (by kernel_rfl) (by kernel_rfl) (by kernel_rfl) (by kernel_rfl) (by decide) (PartP.on ⟨trivial, ⟨⟨0, rfl⟩, trivial⟩, trivial⟩ ⟨trivial, ⟨⟨1, rfl⟩, trivial⟩, trivial⟩) (fun _ _ _ h => h) ?_
                    refine VB.vb (i := 1) (listed' := LB 8 3) rfl (op_load 0 1 rfl rfl TI33 rfl (by decide) (ltn rfl)) rfl (by kernel_rfl) (by kernel_rfl) (by kernel_rfl) (by kernel_rfl) (by kernel_rfl) (by kernel_rfl) (PartP.on ⟨trivial, ⟨⟨0, rfl⟩, trivial⟩, trivial⟩ ⟨trivial, ⟨⟨1, rfl⟩, trivial⟩, trivial⟩) (fun _ _ _ h => h) ?_
                    refine VB.va (i := 2) (listed' := LB 8 7) rfl (op_load 0 5 rfl rfl TI23 rfl (fun h => absurd h (by decide)) (ltn rfl)) rfl (by kernel_rfl) (by kernel_rfl) (by kernel_rfl) (by kernel_rfl) (by decide) (PartP.on ⟨trivial, ⟨⟨0, rfl⟩, trivial⟩, trivial⟩ ⟨trivial, ⟨⟨1, rfl⟩, trivial⟩, trivial⟩) (fun _ _ _ h => h) ?_
                    refine VB.oneC (i := 3) (listed' := LB 8 15) (by kernel_rfl) rfl (o_call0 FO6 (tarrylaw07_cut.ok x368.f0 x368.f1 x368.f2 x368.f3 x368.f4 t372 t373 t374 t375 t376 hA377) rfl rfl (ltn rfl) (All_of .nil)) rfl (by kernel_rfl) ?_
                    rintro _ _ _ ⟨rfl, rfl, rfl⟩
                    refine ⟨(PartP.on ⟨trivial, ⟨⟨0, rfl⟩, trivial⟩, trivial⟩ ⟨trivial, ⟨⟨1, rfl⟩, trivial⟩, trivial⟩), ?_⟩
                    refine VB.oneG (i := 4) (listed' := LB 8 31) (by kernel_rfl) rfl (o_buildSlice (vals := [(0, .agg #[.string t372, .string t373, .int .i64 t374, .int .i64 t375, .int .i64 t376])]) (cells := #[.string t372, .string t373, .int .i64 t374, .int .i64 t375, .int .i64 t376]) (es := List.map enc22 ([(⟨t372, t373, t374, t375, t376⟩ : S22)] : List S22)) Try.underlying33 TI23 Z23 rfl (by decide) (by decide) (by kernel_rfl) (by kernel_rfl) rfl (flat_map enc22_ok _) (ltn rfl)) rfl (by kernel_rfl) (fun _ => (PartP.on ⟨trivial, ⟨⟨0, rfl⟩, trivial⟩, trivial⟩ ⟨trivial, ⟨⟨1, rfl⟩, trivial⟩, trivial⟩)) ?_
                    intro v379
                    refine VB.oneG (i := 5) (listed' := LB 8 63) (by kernel_rfl) rfl (o_append 1 appm Try.underlying33 EI23 rfl rfl rfl (.inr ⟨0, _, rfl⟩) (bndm c380) (ltn rfl)) rfl (by kernel_rfl) (fun _ => (PartP.off (by kernel_rfl) ⟨trivial, ⟨⟨0, rfl⟩, trivial⟩, trivial⟩)) ?_
                    intro v381
                    refine VB.va (i := 6) (listed' := LB 8 127) rfl (op_fieldAddr FI35_1 rfl (add_at _ _ _) (ltn rfl)) rfl (by kernel_rfl) (by kernel_rfl) (by kernel_rfl) (by kernel_rfl) (by decide) (PartP.off (by kernel_rfl) ⟨trivial, ⟨⟨0, rfl⟩, trivial⟩, trivial⟩) (fun _ _ _ h => h) ?_
                    refine VB.one1 (i := 7) (listed' := LB 8 255) (by kernel_rfl) rfl (o_store 1 1 rfl rfl rfl TI33 (.r 1 rfl) rfl (len rfl)) rfl (by kernel_rfl) (PartP.off (by kernel_rfl) ⟨trivial, ⟨⟨0, rfl⟩, trivial⟩, trivial⟩) ?_
                    refine VB.done (by kernel_rfl) ?_
                    exact VN.meet2 v379 v381 [0, 1, 2] [0, 1, 2] trivial ⟨rfl, ⟨rfl, rfl, rfl, rfl, rfl, rfl, rfl, rfl, rfl, rfl, rfl, rfl, rfl, rfl, trivial⟩, ⟨⟨0, rfl⟩, trivial⟩, rfl, by decide, rfl, by decide⟩
                  intro v379 v381 _
                  refine VN.block ?_
                  refine VN.then ?_
                  refine VC.region ?_
                  refine VL.va (op_ari64 rfl rfl rfl (ltn rfl)) rfl ?_
                  refine VL.va (op_move rfl (ltn rfl)) rfl ?_
                  refine VL.done ?_
                  refine VN.again [1, 2] [1, 2] (ihl5 (wrap64 (i340 + 1)) v381 (l343 ++ ([(⟨t372, t373, t374, t375, t376⟩ : S22)] : List S22)) h) ⟨rfl, ⟨rfl, rfl, rfl, rfl, rfl, trivial⟩, ⟨⟨0, rfl⟩, trivial⟩, rfl, by decide, rfl, by decide⟩
                · rw [if_neg c380] at h; cases h
              · rw [if_neg c367] at h; cases h
            · rw [if_neg c366] at h
              obtain rfl : b364 = false := hb364.symm.trans (decide_eq_false c366)
              refine VC.cond_f rfl ?_
              refine VC.exit ?_
              refine VX.then ?_
              refine VX.then ?_
              refine VX.hit ?_
              refine VN.then ?_
              refine VC.seq ?_
              refine VC.region ?_
              refine VL.va (op_load 0 2 rfl rfl TI35 rfl (fun h => absurd h (by decide)) (ltn rfl)) rfl ?_
              refine VL.step1 (o_store 1 2 rfl rfl rfl TI35 (.agg (.r 1 rfl (.r 0 rfl .nil))) rfl (len rfl)) rfl ?_
              refine VL.done ?_
              refine VN.then ?_
              refine VC.ret ?_
              simp only [Option.some.injEq, Prod.mk.injEq] at h
              obtain ⟨rfl, rfl⟩ := h
              exact VR.fn (rs := [.cell 2 35]) [] [(v82, 9, 1, l83.map enc_str), (v342, 23, 5, l343.map enc22)] [1, 0] rfl (.cell 1 rfl rfl TI35 (fun h => absurd h (by decide)) .nil) ⟨v82, v342, rfl, rfl, rfl⟩ trivial rfl (by decide)
          · rw [if_neg c318] at h; cases h
        · rw [if_neg c317] at h; cases h
    · rw [if_neg c63] at h; cases h
  · rw [if_neg c62] at h; cases h
set_option maxHeartbeats 4000000 in
set_option maxRecDepth 100000 in
theorem goods_Right_1.ok (a0_0 : ByteArray) (a0_1 : ByteArray) (a0_2 : Int) (a0_3 : Int) (a0_4 : Int) (a1_0 : ByteArray) (a1_1 : ByteArray) (a1_2 : Int) (a1_3 : Int) (a1_4 : Int) (p1 : Nat) (r1 : Bool) (h : goods_Right_1.f a0_0 a0_1 a0_2 a0_3 a0_4 a1_0 a1_1 a1_2 a1_3 a1_4 = some r1) :
    VCalls Try.prog 33 [.agg #[.string a0_0, .string a0_1, .int .i64 a0_2, .int .i64 a0_3, .int .i64 a0_4], .pointer (some ⟨p1, 0, none⟩)] [.at_ ⟨p1, 0, none⟩ [.string a1_0, .string a1_1, .int .i64 a1_2, .int .i64 a1_3, .int .i64 a1_4]] (fun v G own => v = .bool r1 ∧ G = [] ∧ own = []) := by
  refine VCalls.intro Try.func33 rfl (len rfl) fun E hC => ?_
  unfold goods_Right_1.f at h
  refine VC.seq ?_
  refine VC.region ?_
  refine VL.sG (o_box rfl (.agg (.of rfl)) (ltn rfl)) rfl ?_
  intro g428
  refine VL.va (op_assign rfl (ltn rfl)) rfl ?_
  refine VL.done ?_
  refine VN.then ?_
  refine VC.seq ?_
  refine VC.region ?_
  refine VL.va (op_fieldAddr FI23_0 rfl (add_at _ _ _) (ltn rfl)) rfl ?_
  refine VL.va (op_load 0 1 rfl rfl TI9 rfl (by decide) (ltn rfl)) rfl ?_
  refine VL.va (op_fieldAddr FI23_0 rfl (add_at _ _ _) (ltn rfl)) rfl ?_
  refine VL.va (op_load_at (ad := ⟨p1, 0, none⟩) 0 0 1 (by first | rfl | exact congrArg (fun a => some (Value.pointer (some a))) (add_at _ 0 _).symm) rfl TI9 rfl (by decide) (ltn rfl)) rfl ?_
  refine VL.letter ((a0_0 == a1_0)) fun b432 hb432 => ?_
  refine VL.va (op_cmps rfl rfl (congrArg some hb432) (ltn rfl)) rfl ?_
  refine VL.va (op_move rfl (ltn rfl)) rfl ?_
  by_cases c433 : (a0_0 == a1_0) = true
  · rw [if_pos c433] at h
    obtain rfl : b432 = true := hb432.symm.trans (c433)
    refine VL.va (op_fieldAddr FI23_1 rfl (add_at _ _ _) (ltn rfl)) rfl ?_
    refine VL.va (op_load 0 1 rfl rfl TI9 rfl (by decide) (ltn rfl)) rfl ?_
    refine VL.va (op_fieldAddr FI23_1 rfl (add_at _ _ _) (ltn rfl)) rfl ?_
    refine VL.va (op_load_at (ad := ⟨p1, 0, none⟩) 0 1 1 (by first | rfl | exact congrArg (fun a => some (Value.pointer (some a))) (add_at _ 0 _).symm) rfl TI9 rfl (by decide) (ltn rfl)) rfl ?_
    refine VL.letter ((a0_1 == a1_1)) fun b434 hb434 => ?_
    refine VL.va (op_cmps rfl rfl (congrArg some hb434) (ltn rfl)) rfl ?_
    refine VL.va (op_pick rfl rfl (ltn rfl)) rfl ?_
    refine VL.va (op_assign rfl (ltn rfl)) rfl ?_
    refine VL.done ?_
    refine VN.then ?_
    refine VC.ret ?_
    obtain rfl := Option.some.inj h
    subst hb434
    exact VR.fn (rs := [.tmp 3]) [] [] [] rfl (.tmp rfl .nil) ⟨rfl, rfl, rfl⟩ trivial rfl (by decide)
  · rw [if_neg c433] at h
    obtain rfl : b432 = false := hb432.symm.trans (Bool.eq_false_iff.2 c433)
    refine VL.un rfl rfl (ltn rfl) ?_
    refine VL.un rfl rfl (ltn rfl) ?_
    refine VL.un rfl rfl (ltn rfl) ?_
    refine VL.un rfl rfl (ltn rfl) ?_
    refine VL.un rfl rfl (ltn rfl) ?_
    refine VL.va (op_pick rfl rfl (ltn rfl)) rfl ?_
    refine VL.va (op_assign rfl (ltn rfl)) rfl ?_
    refine VL.done ?_
    refine VN.then ?_
    refine VC.ret ?_
    obtain rfl := Option.some.inj h
    exact VR.fn (rs := [.tmp 3]) [] [] [] rfl (.tmp rfl .nil) ⟨rfl, rfl, rfl⟩ trivial rfl (by decide)
set_option maxHeartbeats 4000000 in
set_option maxRecDepth 100000 in
theorem slices_IndexFunc_api_Sub_api_Sub.ok (k : Nat) (l0 : List S22) (a1_0_0 : ByteArray) (a1_0_1 : ByteArray) (a1_0_2 : Int) (a1_0_3 : Int) (a1_0_4 : Int) (v0 : Value) (p1_0 : Nat) (r1 : Int) (h : slices_IndexFunc_api_Sub_api_Sub.f k l0 a1_0_0 a1_0_1 a1_0_2 a1_0_3 a1_0_4 = some r1) :
    VCalls Try.prog 44 [v0, (.func (.func 33) #[] #[.pointer (some ⟨p1_0, 0, none⟩)])] [.row v0 5 (l0.map enc22), .at_ ⟨p1_0, 0, none⟩ [.string a1_0_0, .string a1_0_1, .int .i64 a1_0_2, .int .i64 a1_0_3, .int .i64 a1_0_4]] (fun v G own => v = .int .i64 r1 ∧ G = [] ∧ own = []) := by
  refine VCalls.intro Try.func44 rfl (len rfl) fun E hC => ?_
  unfold slices_IndexFunc_api_Sub_api_Sub.f at h
  refine VC.seq ?_
  refine VC.region ?_
  refine VL.va (op_assign rfl (ltn rfl)) rfl ?_
  refine VL.done ?_
  refine VN.then ?_
  refine VC.seq ?_
  refine VC.seq ?_
  refine VC.region ?_
  refine VL.va (op_move rfl (ltn rfl)) rfl ?_
  refine VL.va (op_len (m := l0.length) 0 lenm Try.underlying33 rfl rfl (ltn rfl)) rfl ?_
  refine VL.va (op_move rfl (ltn rfl)) rfl ?_
  refine VL.done ?_
  refine VN.then ?_
  refine VC.block ?_
  refine VC.loop1 (fun (i494 : Int) => ⟨19, [(0, v0), (1, (.func (.func 33) #[] #[.pointer (some ⟨p1_0, 0, none⟩)])), (4, .int .i64 0), (7, .int .i64 (l0.length : Int)), (8, .int .i64 i494)], [.at_ ⟨p1_0, 0, none⟩ [.string a1_0_0, .string a1_0_1, .int .i64 a1_0_2, .int .i64 a1_0_3, .int .i64 a1_0_4], .row v0 5 (l0.map enc22)], [], []⟩) (fun (ml1 : Nat) (i494 : Int) => slices_IndexFunc_api_Sub_api_Sub.l1 k a1_0_0 a1_0_1 a1_0_2 a1_0_3 a1_0_4 l0 ml1 i494 = some r1) k 0 [] [] h ⟨rfl, ⟨rfl, rfl, rfl, rfl, rfl, trivial⟩, ⟨⟨1, rfl⟩, ⟨0, rfl⟩, trivial⟩, rfl, by decide, rfl, by decide⟩ (by intros; simp [slices_IndexFunc_api_Sub_api_Sub.l1]) ?_
  clear h
  intro ml1 ihl1 i494 h
  simp only [slices_IndexFunc_api_Sub_api_Sub.l1] at h
  refine VC.seq ?_
  refine VC.region ?_
  refine VL.letter (decide (i494 < (l0.length : Int))) fun b512 hb512 => ?_
  refine VL.va (op_cmp rfl rfl (congrArg some hb512) (ltn rfl)) rfl ?_
  refine VL.done ?_
  refine VN.then ?_
  refine VC.seq ?_
  by_cases c514 : i494 < (l0.length : Int)
  · rw [if_pos c514] at h
    obtain rfl : b512 = true := hb512.symm.trans (decide_eq_true c514)
    refine VC.cond_t rfl ?_
    refine VC.skip ?_
    refine VN.then ?_
    refine VC.seq ?_
    refine VC.block ?_
    refine VC.seq ?_
    refine VC.region ?_
    refine VL.va (op_move rfl (ltn rfl)) rfl ?_
    refine VL.va (op_assign rfl (ltn rfl)) rfl ?_
    refine VL.done ?_
    refine VN.then ?_
    refine VC.seq ?_
    refine VC.region ?_
    refine VL.va (op_move rfl (ltn rfl)) rfl ?_
    refine VL.va (op_move rfl (ltn rfl)) rfl ?_
    refine VL.va (op_move rfl (ltn rfl)) rfl ?_
    by_cases c522 : 0 ≤ i494
    · rw [if_pos c522] at h
      replace h := Option.bind_eq_some_iff.1 h
      obtain ⟨x523, hx523, h⟩ := h
      refine VL.open (m := l0.length) 1 lenm rfl (pos_get hx523) ?_
      rintro ad524 n525 rfl
      refine VL.va (op_indexAddr Try.underlying33 TI23 rfl rfl c522 (lt_get c522 hx523) rfl (ltn rfl)) rfl ?_
      refine VL.va (op_load_row (sz := 5) (o := 0) 1 i494.toNat 5 rfl rfl (get_map hx523) TI23 rfl (fun h => absurd h (by decide)) (ltn rfl)) rfl ?_
      replace h := Option.bind_eq_some_iff.1 h
      obtain ⟨t526, hA527, h⟩ := h
      refine VL.sC (o_call (vals := [.agg #[.string x523.f0, .string x523.f1, .int .i64 x523.f2, .int .i64 x523.f3, .int .i64 x523.f4]]) (caps := [.pointer (some ⟨p1_0, 0, none⟩)]) FO33 (goods_Right_1.ok x523.f0 x523.f1 x523.f2 x523.f3 x523.f4 a1_0_0 a1_0_1 a1_0_2 a1_0_3 a1_0_4 p1_0 t526 hA527) rfl rfl (ltn rfl) (All_of (.cons (List.mem_of_getElem? (i := 0) rfl) .nil))) rfl ?_
      rintro _ _ _ ⟨rfl, rfl, rfl⟩
      refine VL.done ?_
      refine VN.then ?_
      by_cases c528 : t526 = true
      · rw [if_pos c528] at h
        obtain rfl := c528
        refine VC.cond_t rfl ?_
        refine VC.seq ?_
        refine VC.region ?_
        refine VL.va (op_move rfl (ltn rfl)) rfl ?_
        refine VL.va (op_assign rfl (ltn rfl)) rfl ?_
        refine VL.done ?_
        refine VN.then ?_
        refine VC.ret ?_
        refine VR.block ?_
        refine VR.then ?_
        refine VR.then ?_
        refine VR.block ?_
        refine VR.then ?_
        obtain rfl := Option.some.inj h
        exact VR.fn (rs := [.tmp 4]) [] [] [] rfl (.tmp rfl .nil) ⟨rfl, rfl, rfl⟩ trivial rfl (by decide)
      · rw [if_neg c528] at h
        obtain rfl := Bool.eq_false_iff.2 c528
        refine VC.cond_f rfl ?_
        refine VC.skip ?_
        refine VN.block ?_
        refine VN.then ?_
        refine VC.region ?_
        refine VL.va (op_ari64 rfl rfl rfl (ltn rfl)) rfl ?_
        refine VL.va (op_move rfl (ltn rfl)) rfl ?_
        refine VL.done ?_
        refine VN.again [] [] (ihl1 (wrap64 (i494 + 1)) h) ⟨rfl, ⟨rfl, rfl, rfl, rfl, rfl, trivial⟩, ⟨⟨0, rfl⟩, ⟨1, rfl⟩, trivial⟩, rfl, by decide, rfl, by decide⟩
    · rw [if_neg c522] at h; cases h
  · rw [if_neg c514] at h
    obtain rfl : b512 = false := hb512.symm.trans (decide_eq_false c514)
    refine VC.cond_f rfl ?_
    refine VC.exit ?_
    refine VX.then ?_
    refine VX.then ?_
    refine VX.hit ?_
    refine VN.then ?_
    refine VC.seq ?_
    refine VC.region ?_
    refine VL.va (op_assign rfl (ltn rfl)) rfl ?_
    refine VL.done ?_
    refine VN.then ?_
    refine VC.ret ?_
    obtain rfl := Option.some.inj h
    exact VR.fn (rs := [.tmp 4]) [] [] [] rfl (.tmp rfl .nil) ⟨rfl, rfl, rfl⟩ trivial rfl (by decide)
set_option maxHeartbeats 4000000 in
set_option maxRecDepth 100000 in
theorem slices_ContainsFunc_api_Sub_api_Sub.ok (k : Nat) (l0 : List S22) (a1_0_0 : ByteArray) (a1_0_1 : ByteArray) (a1_0_2 : Int) (a1_0_3 : Int) (a1_0_4 : Int) (v0 : Value) (p1_0 : Nat) (r1 : Bool) (h : slices_ContainsFunc_api_Sub_api_Sub.f k l0 a1_0_0 a1_0_1 a1_0_2 a1_0_3 a1_0_4 = some r1) :
    VCalls Try.prog 27 [v0, (.func (.func 33) #[] #[.pointer (some ⟨p1_0, 0, none⟩)])] [.row v0 5 (l0.map enc22), .at_ ⟨p1_0, 0, none⟩ [.string a1_0_0, .string a1_0_1, .int .i64 a1_0_2, .int .i64 a1_0_3, .int .i64 a1_0_4]] (fun v G own => v = .bool r1 ∧ G = [] ∧ own = []) := by
  refine VCalls.intro Try.func27 rfl (len rfl) fun E hC => ?_
  unfold slices_ContainsFunc_api_Sub_api_Sub.f at h
  refine VC.seq ?_
  refine VC.region ?_
  refine VL.va (op_assign rfl (ltn rfl)) rfl ?_
  refine VL.done ?_
  refine VN.then ?_
  refine VC.seq ?_
  refine VC.region ?_
  refine VL.va (op_move rfl (ltn rfl)) rfl ?_
  refine VL.va (op_move rfl (ltn rfl)) rfl ?_
  replace h := Option.bind_eq_some_iff.1 h
  obtain ⟨t529, hA530, h⟩ := h
  refine VL.sC (o_call0 FO44 (slices_IndexFunc_api_Sub_api_Sub.ok k l0 a1_0_0 a1_0_1 a1_0_2 a1_0_3 a1_0_4 v0 p1_0 t529 hA530) rfl rfl (ltn rfl) (All_of (.cons (List.mem_of_getElem? (i := 0) rfl) (.cons (List.mem_of_getElem? (i := 1) rfl) .nil)))) rfl ?_
  rintro _ _ _ ⟨rfl, rfl, rfl⟩
  refine VL.letter (decide (t529 ≥ 0)) fun b531 hb531 => ?_
  refine VL.va (op_cmp rfl rfl (congrArg some hb531) (ltn rfl)) rfl ?_
  refine VL.va (op_assign rfl (ltn rfl)) rfl ?_
  refine VL.done ?_
  refine VN.then ?_
  refine VC.ret ?_
  obtain rfl := Option.some.inj h
  subst hb531
  exact VR.fn (rs := [.tmp 4]) [] [] [] rfl (.tmp rfl .nil) ⟨rfl, rfl, rfl⟩ trivial rfl (by decide)
set_option maxHeartbeats 4000000 in
set_option maxRecDepth 100000 in
theorem goods_name_1.ok (a0 : Int)  (r1 : Bool) (h : goods_name_1.f a0 = some r1) :
    VCalls Try.prog 50 [.int .u8 a0] [] (fun v G own => v = .bool r1 ∧ G = [] ∧ own = []) := by
  refine VCalls.intro Try.func50 rfl (len rfl) fun E hC => ?_
  unfold goods_name_1.f at h
  refine VC.seq ?_
  refine VC.region ?_
  refine VL.va (op_assign rfl (ltn rfl)) rfl ?_
  refine VL.done ?_
  refine VN.then ?_
  refine VC.seq ?_
  refine VC.region ?_
  refine VL.va (op_move rfl (ltn rfl)) rfl ?_
  refine VL.letter (decide (a0 < 97)) fun b561 hb561 => ?_
  refine VL.va (op_cmp rfl rfl (congrArg some hb561) (ltn rfl)) rfl ?_
  refine VL.va (op_move rfl (ltn rfl)) rfl ?_
  by_cases c562 : a0 < 97
  · rw [if_pos c562] at h
    obtain rfl : b561 = true := hb561.symm.trans (decide_eq_true c562)
    refine VL.un rfl rfl (ltn rfl) ?_
    refine VL.un rfl rfl (ltn rfl) ?_
    refine VL.va (op_pick rfl rfl (ltn rfl)) rfl ?_
    refine VL.va (op_move rfl (ltn rfl)) rfl ?_
    refine VL.va (op_move rfl (ltn rfl)) rfl ?_
    refine VL.letter (decide (a0 < 48)) fun b563 hb563 => ?_
    refine VL.va (op_cmp rfl rfl (congrArg some hb563) (ltn rfl)) rfl ?_
    refine VL.va (op_move rfl (ltn rfl)) rfl ?_
    by_cases c564 : a0 < 48
    · rw [if_pos c564] at h
      obtain rfl : b563 = true := hb563.symm.trans (decide_eq_true c564)
      refine VL.un rfl rfl (ltn rfl) ?_
      refine VL.un rfl rfl (ltn rfl) ?_
      refine VL.va (op_pick rfl rfl (ltn rfl)) rfl ?_
      refine VL.va (op_pick rfl rfl (ltn rfl)) rfl ?_
      refine VL.va (op_assign rfl (ltn rfl)) rfl ?_
      refine VL.done ?_
      refine VN.then ?_
      refine VC.ret ?_
      obtain rfl := Option.some.inj h
      exact VR.fn (rs := [.tmp 2]) [] [] [] rfl (.tmp rfl .nil) ⟨rfl, rfl, rfl⟩ trivial rfl (by decide)
    · rw [if_neg c564] at h
      obtain rfl : b563 = false := hb563.symm.trans (decide_eq_false c564)
      refine VL.va (op_move rfl (ltn rfl)) rfl ?_
      refine VL.letter (decide (a0 > 57)) fun b565 hb565 => ?_
      refine VL.va (op_cmp rfl rfl (congrArg some hb565) (ltn rfl)) rfl ?_
      refine VL.va (op_pick rfl rfl (ltn rfl)) rfl ?_
      refine VL.va (op_pick rfl rfl (ltn rfl)) rfl ?_
      refine VL.va (op_assign rfl (ltn rfl)) rfl ?_
      refine VL.done ?_
      refine VN.then ?_
      refine VC.ret ?_
      obtain rfl := Option.some.inj h
      subst hb565
      exact VR.fn (rs := [.tmp 2]) [] [] [] rfl (.tmp rfl .nil) ⟨rfl, rfl, rfl⟩ trivial rfl (by decide)
  · rw [if_neg c562] at h
    obtain rfl : b561 = false := hb561.symm.trans (decide_eq_false c562)
    refine VL.va (op_move rfl (ltn rfl)) rfl ?_
    refine VL.letter (decide (a0 > 122)) fun b566 hb566 => ?_
    refine VL.va (op_cmp rfl rfl (congrArg some hb566) (ltn rfl)) rfl ?_
    refine VL.va (op_pick rfl rfl (ltn rfl)) rfl ?_
    refine VL.va (op_move rfl (ltn rfl)) rfl ?_
    by_cases c567 : a0 > 122
    · rw [if_pos c567] at h
      obtain rfl : b566 = true := hb566.symm.trans (decide_eq_true c567)
      refine VL.va (op_move rfl (ltn rfl)) rfl ?_
      refine VL.letter (decide (a0 < 48)) fun b568 hb568 => ?_
      refine VL.va (op_cmp rfl rfl (congrArg some hb568) (ltn rfl)) rfl ?_
      refine VL.va (op_move rfl (ltn rfl)) rfl ?_
      by_cases c569 : a0 < 48
      · rw [if_pos c569] at h
        obtain rfl : b568 = true := hb568.symm.trans (decide_eq_true c569)
        refine VL.un rfl rfl (ltn rfl) ?_
        refine VL.un rfl rfl (ltn rfl) ?_
        refine VL.va (op_pick rfl rfl (ltn rfl)) rfl ?_
        refine VL.va (op_pick rfl rfl (ltn rfl)) rfl ?_
        refine VL.va (op_assign rfl (ltn rfl)) rfl ?_
        refine VL.done ?_
        refine VN.then ?_
        refine VC.ret ?_
        obtain rfl := Option.some.inj h
        exact VR.fn (rs := [.tmp 2]) [] [] [] rfl (.tmp rfl .nil) ⟨rfl, rfl, rfl⟩ trivial rfl (by decide)
      · rw [if_neg c569] at h
        obtain rfl : b568 = false := hb568.symm.trans (decide_eq_false c569)
        refine VL.va (op_move rfl (ltn rfl)) rfl ?_
        refine VL.letter (decide (a0 > 57)) fun b570 hb570 => ?_
        refine VL.va (op_cmp rfl rfl (congrArg some hb570) (ltn rfl)) rfl ?_
        refine VL.va (op_pick rfl rfl (ltn rfl)) rfl ?_
        refine VL.va (op_pick rfl rfl (ltn rfl)) rfl ?_
        refine VL.va (op_assign rfl (ltn rfl)) rfl ?_
        refine VL.done ?_
        refine VN.then ?_
        refine VC.ret ?_
        obtain rfl := Option.some.inj h
        subst hb570
        exact VR.fn (rs := [.tmp 2]) [] [] [] rfl (.tmp rfl .nil) ⟨rfl, rfl, rfl⟩ trivial rfl (by decide)
    · rw [if_neg c567] at h
      obtain rfl : b566 = false := hb566.symm.trans (decide_eq_false c567)
      refine VL.un rfl rfl (ltn rfl) ?_
      refine VL.un rfl rfl (ltn rfl) ?_
      refine VL.un rfl rfl (ltn rfl) ?_
      refine VL.un rfl rfl (ltn rfl) ?_
      refine VL.un rfl rfl (ltn rfl) ?_
      refine VL.un rfl rfl (ltn rfl) ?_
      refine VL.va (op_pick rfl rfl (ltn rfl)) rfl ?_
      refine VL.va (op_assign rfl (ltn rfl)) rfl ?_
      refine VL.done ?_
      refine VN.then ?_
      refine VC.ret ?_
      obtain rfl := Option.some.inj h
      exact VR.fn (rs := [.tmp 2]) [] [] [] rfl (.tmp rfl .nil) ⟨rfl, rfl, rfl⟩ trivial rfl (by decide)
set_option maxHeartbeats 4000000 in
set_option maxRecDepth 100000 in
theorem slices_IndexFunc_byte_byte.ok (k : Nat) (l0 : List Int) (v0 : Value) (r1 : Int) (h : slices_IndexFunc_byte_byte.f k l0 = some r1) :
    VCalls Try.prog 59 [v0, (.func (.func 50) #[] #[])] [.row v0 1 (l0.map enc_intu8)] (fun v G own => v = .int .i64 r1 ∧ G = [] ∧ own = []) := by
  refine VCalls.intro Try.func59 rfl (len rfl) fun E hC => ?_
  unfold slices_IndexFunc_byte_byte.f at h
  refine VC.seq ?_
  refine VC.region ?_
  refine VL.va (op_assign rfl (ltn rfl)) rfl ?_
  refine VL.done ?_
  refine VN.then ?_
  refine VC.seq ?_
  refine VC.seq ?_
  refine VC.region ?_
  refine VL.va (op_move rfl (ltn rfl)) rfl ?_
  refine VL.va (op_len (m := l0.length) 0 lenm Try.underlying74 rfl rfl (ltn rfl)) rfl ?_
  refine VL.va (op_move rfl (ltn rfl)) rfl ?_
  refine VL.done ?_
  refine VN.then ?_
  refine VC.block ?_
  refine VC.loop1 (fun (i630 : Int) => ⟨19, [(0, v0), (1, (.func (.func 50) #[] #[])), (4, .int .i64 0), (7, .int .i64 (l0.length : Int)), (8, .int .i64 i630)], [.row v0 1 (l0.map enc_intu8)], [], []⟩) (fun (ml1 : Nat) (i630 : Int) => slices_IndexFunc_byte_byte.l1 k l0 ml1 i630 = some r1) k 0 [] [] h ⟨rfl, ⟨rfl, rfl, rfl, rfl, rfl, trivial⟩, ⟨⟨0, rfl⟩, trivial⟩, rfl, by decide, rfl, by decide⟩ (by intros; simp [slices_IndexFunc_byte_byte.l1]) ?_
  clear h
  intro ml1 ihl1 i630 h
  simp only [slices_IndexFunc_byte_byte.l1] at h
  refine VC.seq ?_
  refine VC.region ?_
  refine VL.letter (decide (i630 < (l0.length : Int))) fun b648 hb648 => ?_
  refine VL.va (op_cmp rfl rfl (congrArg some hb648) (ltn rfl)) rfl ?_
  refine VL.done ?_
  refine VN.then ?_
  refine VC.seq ?_
  by_cases c650 : i630 < (l0.length : Int)
  · rw [if_pos c650] at h
    obtain rfl : b648 = true := hb648.symm.trans (decide_eq_true c650)
    refine VC.cond_t rfl ?_
    refine VC.skip ?_
    refine VN.then ?_
    refine VC.seq ?_
    refine VC.block ?_
    refine VC.seq ?_
    refine VC.region ?_
    refine VL.va (op_move rfl (ltn rfl)) rfl ?_
    refine VL.va (op_assign rfl (ltn rfl)) rfl ?_
    refine VL.done ?_
    refine VN.then ?_
    refine VC.seq ?_
    refine VC.region ?_
    refine VL.va (op_move rfl (ltn rfl)) rfl ?_
    refine VL.va (op_move rfl (ltn rfl)) rfl ?_
    refine VL.va (op_move rfl (ltn rfl)) rfl ?_
    by_cases c658 : 0 ≤ i630
    · rw [if_pos c658] at h
      replace h := Option.bind_eq_some_iff.1 h
      obtain ⟨x659, hx659, h⟩ := h
      refine VL.open (m := l0.length) 0 lenm rfl (pos_get hx659) ?_
      rintro ad660 n661 rfl
      refine VL.va (op_indexAddr Try.underlying74 TI5 rfl rfl c658 (lt_get c658 hx659) rfl (ltn rfl)) rfl ?_
      refine VL.va (op_load_row (sz := 1) (o := 0) 0 i630.toNat 1 rfl rfl (get_map hx659) TI5 rfl (by decide) (ltn rfl)) rfl ?_
      replace h := Option.bind_eq_some_iff.1 h
      obtain ⟨t662, hA663, h⟩ := h
      refine VL.sC (o_call0 FO50 (goods_name_1.ok x659 t662 hA663) rfl rfl (ltn rfl) (All_of .nil)) rfl ?_
      rintro _ _ _ ⟨rfl, rfl, rfl⟩
      refine VL.done ?_
      refine VN.then ?_
      by_cases c664 : t662 = true
      · rw [if_pos c664] at h
        obtain rfl := c664
        refine VC.cond_t rfl ?_
        refine VC.seq ?_
        refine VC.region ?_
        refine VL.va (op_move rfl (ltn rfl)) rfl ?_
        refine VL.va (op_assign rfl (ltn rfl)) rfl ?_
        refine VL.done ?_
        refine VN.then ?_
        refine VC.ret ?_
        refine VR.block ?_
        refine VR.then ?_
        refine VR.then ?_
        refine VR.block ?_
        refine VR.then ?_
        obtain rfl := Option.some.inj h
        exact VR.fn (rs := [.tmp 4]) [] [] [] rfl (.tmp rfl .nil) ⟨rfl, rfl, rfl⟩ trivial rfl (by decide)
      · rw [if_neg c664] at h
        obtain rfl := Bool.eq_false_iff.2 c664
        refine VC.cond_f rfl ?_
        refine VC.skip ?_
        refine VN.block ?_
        refine VN.then ?_
        refine VC.region ?_
        refine VL.va (op_ari64 rfl rfl rfl (ltn rfl)) rfl ?_
        refine VL.va (op_move rfl (ltn rfl)) rfl ?_
        refine VL.done ?_
        refine VN.again [] [] (ihl1 (wrap64 (i630 + 1)) h) ⟨rfl, ⟨rfl, rfl, rfl, rfl, rfl, trivial⟩, ⟨⟨0, rfl⟩, trivial⟩, rfl, by decide, rfl, by decide⟩
    · rw [if_neg c658] at h; cases h
  · rw [if_neg c650] at h
    obtain rfl : b648 = false := hb648.symm.trans (decide_eq_false c650)
    refine VC.cond_f rfl ?_
    refine VC.exit ?_
    refine VX.then ?_
    refine VX.then ?_
    refine VX.hit ?_
    refine VN.then ?_
    refine VC.seq ?_
    refine VC.region ?_
    refine VL.va (op_assign rfl (ltn rfl)) rfl ?_
    refine VL.done ?_
    refine VN.then ?_
    refine VC.ret ?_
    obtain rfl := Option.some.inj h
    exact VR.fn (rs := [.tmp 4]) [] [] [] rfl (.tmp rfl .nil) ⟨rfl, rfl, rfl⟩ trivial rfl (by decide)
set_option maxHeartbeats 4000000 in
set_option maxRecDepth 100000 in
theorem slices_ContainsFunc_byte_byte.ok (k : Nat) (l0 : List Int) (v0 : Value) (r1 : Bool) (h : slices_ContainsFunc_byte_byte.f k l0 = some r1) :
    VCalls Try.prog 51 [v0, (.func (.func 50) #[] #[])] [.row v0 1 (l0.map enc_intu8)] (fun v G own => v = .bool r1 ∧ G = [] ∧ own = []) := by
  refine VCalls.intro Try.func51 rfl (len rfl) fun E hC => ?_
  unfold slices_ContainsFunc_byte_byte.f at h
  refine VC.seq ?_
  refine VC.region ?_
  refine VL.va (op_assign rfl (ltn rfl)) rfl ?_
  refine VL.done ?_
  refine VN.then ?_
  refine VC.seq ?_
  refine VC.region ?_
  refine VL.va (op_move rfl (ltn rfl)) rfl ?_
  refine VL.va (op_move rfl (ltn rfl)) rfl ?_
  replace h := Option.bind_eq_some_iff.1 h
  obtain ⟨t665, hA666, h⟩ := h
  refine VL.sC (o_call0 FO59 (slices_IndexFunc_byte_byte.ok k l0 v0 t665 hA666) rfl rfl (ltn rfl) (All_of (.cons (List.mem_of_getElem? (i := 0) rfl) .nil))) rfl ?_
  rintro _ _ _ ⟨rfl, rfl, rfl⟩
  refine VL.letter (decide (t665 ≥ 0)) fun b667 hb667 => ?_
  refine VL.va (op_cmp rfl rfl (congrArg some hb667) (ltn rfl)) rfl ?_
  refine VL.va (op_assign rfl (ltn rfl)) rfl ?_
  refine VL.done ?_
  refine VN.then ?_
  refine VC.ret ?_
  obtain rfl := Option.some.inj h
  subst hb667
  exact VR.fn (rs := [.tmp 4]) [] [] [] rfl (.tmp rfl .nil) ⟨rfl, rfl, rfl⟩ trivial rfl (by decide)
set_option maxHeartbeats 4000000 in
set_option maxRecDepth 100000 in
theorem goods_name.ok (k : Nat) (a0 : ByteArray)  (r1 : Bool) (h : goods_name.f k a0 = some r1) :
    VCalls Try.prog 36 [.string a0] [] (fun v G own => v = .bool r1 ∧ G = [] ∧ own = []) := by
  refine VCalls.intro Try.func36 rfl (len rfl) fun E hC => ?_
  unfold goods_name.f at h
  refine VC.seq ?_
  refine VC.region ?_
  refine VL.va (op_assign rfl (ltn rfl)) rfl ?_
  refine VL.done ?_
  refine VN.then ?_
  refine VC.seq ?_
  refine VC.region ?_
  refine VL.va (op_assign rfl (ltn rfl)) rfl ?_
  refine VL.done ?_
  refine VN.then ?_
  refine VC.seq ?_
  refine VC.region ?_
  refine VL.va (op_move rfl (ltn rfl)) rfl ?_
  refine VL.letter ((a0 != (⟨#[]⟩ : ByteArray))) fun b671 hb671 => ?_
  refine VL.va (op_cmps rfl rfl (congrArg some hb671) (ltn rfl)) rfl ?_
  refine VL.va (op_move rfl (ltn rfl)) rfl ?_
  by_cases c672 : (a0 == (⟨#[]⟩ : ByteArray)) = true
  · rw [if_pos c672] at h
    obtain rfl : b671 = false := hb671.symm.trans (bne_of_t c672)
    refine VL.un rfl rfl (ltn rfl) ?_
    refine VL.un rfl rfl (ltn rfl) ?_
    refine VL.un rfl rfl (ltn rfl) ?_
    refine VL.va (op_pick rfl rfl (ltn rfl)) rfl ?_
    refine VL.va (op_move rfl (ltn rfl)) rfl ?_
    refine VL.un rfl rfl (ltn rfl) ?_
    refine VL.un rfl rfl (ltn rfl) ?_
    refine VL.un rfl rfl (ltn rfl) ?_
    refine VL.un rfl rfl (ltn rfl) ?_
    refine VL.un rfl rfl (ltn rfl) ?_
    refine VL.va (op_pick rfl rfl (ltn rfl)) rfl ?_
    refine VL.va (op_assign rfl (ltn rfl)) rfl ?_
    refine VL.done ?_
    refine VN.then ?_
    refine VC.ret ?_
    obtain rfl := Option.some.inj h
    exact VR.fn (rs := [.tmp 2]) [] [] [] rfl (.tmp rfl .nil) ⟨rfl, rfl, rfl⟩ trivial rfl (by decide)
  · rw [if_neg c672] at h
    obtain rfl : b671 = true := hb671.symm.trans (bne_of_f c672)
    refine VL.va (op_move rfl (ltn rfl)) rfl ?_
    refine VL.va (op_lens Try.underlying9 rfl (ltn rfl)) rfl ?_
    refine VL.letter (decide ((a0.size : Int) ≤ 16)) fun b673 hb673 => ?_
    refine VL.va (op_cmp rfl rfl (congrArg some hb673) (ltn rfl)) rfl ?_
    refine VL.va (op_pick rfl rfl (ltn rfl)) rfl ?_
    refine VL.va (op_move rfl (ltn rfl)) rfl ?_
    by_cases c674 : (a0.size : Int) ≤ 16
    · rw [if_pos c674] at h
      obtain rfl : b673 = true := hb673.symm.trans (decide_eq_true c674)
      refine VL.va (op_move rfl (ltn rfl)) rfl ?_
      by_cases c675 : a0.size ≤ 140737488355328
      · rw [if_pos c675] at h
        refine VL.sG (o_strBytes (es3 := List.map enc_intu8 (byI a0)) rfl Try.underlying9 Try.underlying74 Try.underlying5 rfl c675 (ltn rfl)) rfl ?_
        intro v677
        refine VL.va (op_move rfl (ltn rfl)) rfl ?_
        replace h := Option.bind_eq_some_iff.1 h
        obtain ⟨t678, hA679, h⟩ := h
        refine VL.sC (o_call0 FO51 (slices_ContainsFunc_byte_byte.ok k (byI a0) v677 t678 hA679) rfl rfl (ltn rfl) (All_of (.cons (List.mem_of_getElem? (i := 0) rfl) .nil))) rfl ?_
        rintro _ _ _ ⟨rfl, rfl, rfl⟩
        by_cases c680 : t678 = true
        · rw [if_pos c680] at h
          obtain rfl := c680
          refine VL.va (op_not rfl rfl (ltn rfl)) rfl ?_
          refine VL.va (op_pick rfl rfl (ltn rfl)) rfl ?_
          refine VL.va (op_assign rfl (ltn rfl)) rfl ?_
          refine VL.done ?_
          refine VN.then ?_
          refine VC.ret ?_
          obtain rfl := Option.some.inj h
          exact VR.fn (rs := [.tmp 2]) [] [] [] rfl (.tmp rfl .nil) ⟨rfl, rfl, rfl⟩ trivial rfl (by decide)
        · rw [if_neg c680] at h
          obtain rfl := Bool.eq_false_iff.2 c680
          refine VL.va (op_not rfl rfl (ltn rfl)) rfl ?_
          refine VL.va (op_pick rfl rfl (ltn rfl)) rfl ?_
          refine VL.va (op_assign rfl (ltn rfl)) rfl ?_
          refine VL.done ?_
          refine VN.then ?_
          refine VC.ret ?_
          obtain rfl := Option.some.inj h
          exact VR.fn (rs := [.tmp 2]) [] [] [] rfl (.tmp rfl .nil) ⟨rfl, rfl, rfl⟩ trivial rfl (by decide)
      · rw [if_neg c675] at h; cases h
    · rw [if_neg c674] at h
      obtain rfl : b673 = false := hb673.symm.trans (decide_eq_false c674)
      refine VL.un rfl rfl (ltn rfl) ?_
      refine VL.un rfl rfl (ltn rfl) ?_
      refine VL.un rfl rfl (ltn rfl) ?_
      refine VL.un rfl rfl (ltn rfl) ?_
      refine VL.un rfl rfl (ltn rfl) ?_
      refine VL.va (op_pick rfl rfl (ltn rfl)) rfl ?_
      refine VL.va (op_assign rfl (ltn rfl)) rfl ?_
      refine VL.done ?_
      refine VN.then ?_
      refine VC.ret ?_
      obtain rfl := Option.some.inj h
      exact VR.fn (rs := [.tmp 2]) [] [] [] rfl (.tmp rfl .nil) ⟨rfl, rfl, rfl⟩ trivial rfl (by decide)

end Go.Proofs.Ytoiihpmncphplaa.PGoodsStay
