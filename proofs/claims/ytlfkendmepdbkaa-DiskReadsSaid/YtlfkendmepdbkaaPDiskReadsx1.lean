/- Written by a program of this repo: what the program's functions do, each as a Lean function, shown of the loaded code; or a statement's row over that; no condition of its own. -/
import Derived.Test.YtlfkendmepdbkaaPDiskReadsx0
namespace Go.Proofs.Ytlfkendmepdbkaa.PDiskReads
open Go Go.RowKit Go.Proofs.YtlfkendmepdbkaaV
set_option linter.unusedVariables false
set_option linter.unusedSimpArgs false

set_option maxHeartbeats 4000000 in
set_option maxRecDepth 100000 in
theorem tarrylaw03_few.ok (k : Nat) (l0_0 : List ByteArray) (l0_1 : List S32) (v0_0 : Value) (v0_1 : Value) (r1 : List ByteArray) (r2 : List S32) (h : tarrylaw03_few.f k l0_0 l0_1 = some (r1, r2)) :
    VCalls Try.prog 6 [.agg #[v0_0, v0_1]] [.row v0_0 1 (l0_0.map enc_str), .row v0_1 2 (l0_1.map enc32)] (fun v G own => ∃ w0 w1 : Value, v = .agg #[w0, w1] ∧ G = [] ∧ own = [(w0, 9, 1, r1.map enc_str), (w1, 33, 2, r2.map enc32)]) := by
  refine VCalls.intro Try.func6 rfl (len rfl) fun E hC hW hD hU => ?_
  unfold tarrylaw03_few.f at h
  refine VC.seq ?_
  refine VC.region ?_
  refine VL.sG (o_box rfl (.agg (.f 0 rfl (.f 1 rfl .nil))) (ltn rfl)) rfl ?_
  intro g6
  refine VL.sG (o_alloc Z25 ZL25 (ltn rfl)) rfl ?_
  intro g7
  refine VL.done ?_
  refine VN.then ?_
  refine VC.seq ?_
  refine VC.region ?_
  refine VL.sG (o_alloc Z25 ZL25 (ltn rfl)) rfl ?_
  intro g8
  refine VL.done ?_
  refine VN.then ?_
  refine VC.seq ?_
  refine VC.seq ?_
  refine VC.region ?_
  refine VL.va (op_fieldAddr FI25_0 rfl (add_at _ _ _) (ltn rfl)) rfl ?_
  refine VL.va (op_load 2 1 rfl rfl TI22 rfl (by decide) (ltn rfl)) rfl ?_
  refine VL.va (op_fieldAddr FI25_0 rfl (add_at _ _ _) (ltn rfl)) rfl ?_
  refine VL.va (op_load 2 1 rfl rfl TI22 rfl (by decide) (ltn rfl)) rfl ?_
  refine VL.va (op_len (m := l0_0.length) 0 lenm Try.underlying22 rfl rfl (ltn rfl)) rfl ?_
  refine VL.va (op_min rfl rfl (ltn rfl)) rfl ?_
  by_cases c60 : 0 ≤ mn (l0_0.length : Int) 20
  · rw [if_pos c60] at h
    by_cases c61 : (mn (l0_0.length : Int) 20) ≤ (l0_0.length : Int)
    · rw [if_pos c61] at h
      refine VL.sG (o_slice (m := l0_0.length) 0 0 ((mn (l0_0.length : Int) 20).toNat) lenm cutm Try.underlying22 TI9 rfl rfl ⟨rfl, ⟨_, _, rfl, c60, rfl⟩, by omega, by omega⟩ (ltn rfl)) rfl ?_
      intro v63
      refine VL.va (op_len (m := ((l0_0.take ((mn (l0_0.length : Int) 20).toNat)).drop 0).length) 0 lenm Try.underlying22 rfl rfl (ltn rfl)) rfl ?_
      refine VL.va (op_move rfl (ltn rfl)) rfl ?_
      refine VL.done ?_
      refine VN.then ?_
      refine VC.block ?_
      refine VC.nilRow' 9 1 ?_
      refine VC.loop3 (fun (i78 : Int) (v80 : Value) (l81 : List ByteArray) => ⟨59, [(1, .pointer (some ⟨g6, 0, none⟩)), (2, .pointer (some ⟨g7, 0, none⟩)), (3, .pointer (some ⟨g8, 0, none⟩)), (14, v63), (15, .int .i64 (((l0_0.take ((mn (l0_0.length : Int) 20).toNat)).drop 0).length : Int)), (16, .int .i64 i78)], [.row v63 1 (((l0_0.take ((mn (l0_0.length : Int) 20).toNat)).drop 0).map enc_str), .row v0_0 1 (l0_0.map enc_str), .row v0_1 2 (l0_1.map enc32)], [(g8, 25, [v80, .slice none 0 0]), (g7, 25, [.slice none 0 0, .slice none 0 0]), (g6, 25, [v0_0, v0_1])], [(v80, 9, 1, l81.map enc_str)]⟩) (fun (ml1 : Nat) (i78 : Int) (v80 : Value) (l81 : List ByteArray) => tarrylaw03_few.l1 k l0_0 l0_1 ml1 i78 l81 = some (r1, r2)) k 0 (.slice none 0 0) ([] : List ByteArray) [0, 1, 2] [0] h ⟨rfl, ⟨rfl, rfl, rfl, rfl, rfl, rfl, trivial⟩, ⟨⟨0, rfl⟩, ⟨1, rfl⟩, ⟨2, rfl⟩, trivial⟩, rfl, by decide, rfl, by decide⟩ (by intros; simp [tarrylaw03_few.l1]) ?_
      clear h
      intro ml1 ihl1 i78 v80 l81 h
      simp only [tarrylaw03_few.l1] at h
      refine VC.seq ?_
      refine VC.region ?_
      refine VL.letter (decide (i78 < (((l0_0.take ((mn (l0_0.length : Int) 20).toNat)).drop 0).length : Int))) fun b97 hb97 => ?_
      refine VL.va (op_cmp rfl rfl (congrArg some hb97) (ltn rfl)) rfl ?_
      refine VL.done ?_
      refine VN.then ?_
      refine VC.seq ?_
      by_cases c207 : i78 < (((l0_0.take ((mn (l0_0.length : Int) 20).toNat)).drop 0).length : Int)
      · rw [if_pos c207] at h
        obtain rfl : b97 = true := hb97.symm.trans (decide_eq_true c207)
        refine VC.cond_t rfl ?_
        refine VC.skip ?_
        refine VN.then ?_
        refine VC.seq ?_
        refine VC.block ?_
        refine VC.seq ?_
        refine VC.region ?_
        by_cases c208 : 0 ≤ i78
        · rw [if_pos c208] at h
          replace h := Option.bind_eq_some_iff.1 h
          obtain ⟨x209, hx209, h⟩ := h
          refine VL.open (m := ((l0_0.take ((mn (l0_0.length : Int) 20).toNat)).drop 0).length) 0 lenm rfl (pos_get hx209) ?_
          rintro ad210 n211 rfl
          refine VL.va (op_indexAddr Try.underlying22 TI9 rfl rfl c208 (lt_get c208 hx209) rfl (ltn rfl)) rfl ?_
          refine VL.va (op_load_row (sz := 1) (o := 0) 0 i78.toNat 1 rfl rfl (get_map hx209) TI9 rfl (by decide) (ltn rfl)) rfl ?_
          refine VL.va (op_assign rfl (ltn rfl)) rfl ?_
          refine VL.done ?_
          refine VN.then ?_
          by_cases c212 : 0 ≤ mn (x209.size : Int) 66
          · rw [if_pos c212] at h
            by_cases c213 : (mn (x209.size : Int) 66) ≤ (x209.size : Int)
            · rw [if_pos c213] at h
              by_cases c216 : (l81.length + ([x209.extract 0 ((mn (x209.size : Int) 66).toNat)] : List ByteArray).length) * 16 ≤ 140737488355328
              · rw [if_pos c216] at h
                refine VC.stop2 (fun (v215 : Value) (v217 : Value) => ⟨59, [(1, .pointer (some ⟨g6, 0, none⟩)), (2, .pointer (some ⟨g7, 0, none⟩)), (3, .pointer (some ⟨g8, 0, none⟩)), (5, .string x209), (14, (.slice (some ad210) ((l0_0.take ((mn (l0_0.length : Int) 20).toNat)).drop 0).length n211)), (15, .int .i64 (((l0_0.take ((mn (l0_0.length : Int) 20).toNat)).drop 0).length : Int)), (16, .int .i64 i78), (17, .bool true), (19, .string x209), (20, .pointer (some ⟨g8, 0, none⟩)), (22, .string x209), (23, .string x209), (24, .int .i64 (x209.size : Int)), (25, .int .i64 (mn (x209.size : Int) 66)), (26, .string (x209.extract 0 ((mn (x209.size : Int) 66).toNat))), (27, v215), (28, v217), (29, .pointer (some ⟨g8, 0, none⟩))], [.row (.slice (some ad210) ((l0_0.take ((mn (l0_0.length : Int) 20).toNat)).drop 0).length n211) 1 (((l0_0.take ((mn (l0_0.length : Int) 20).toNat)).drop 0).map enc_str), .row v0_0 1 (l0_0.map enc_str), .row v0_1 2 (l0_1.map enc32)], [(g8, 25, [v217, .slice none 0 0]), (g7, 25, [.slice none 0 0, .slice none 0 0]), (g6, 25, [v0_0, v0_1])], [(v215, 9, 1, ([x209.extract 0 ((mn (x209.size : Int) 66).toNat)] : List ByteArray).map enc_str), (v217, 9, 1, (l81 ++ ([x209.extract 0 ((mn (x209.size : Int) 66).toNat)] : List ByteArray)).map enc_str)]⟩) (fun (v215 : Value) (v217 : Value) => True) ?_ ?_
                · refine VC.drawB ⟨0, [], [], [], []⟩ [8, 10] ⟨0, [], [], [(g8, 25, [v80, .slice none 0 0])], []⟩ (by kernel_rfl) rfl (by kernel_rfl) (n := 11) (listed := LB 11 0) ?_
                  refine VB.va (i := 0) (listed' := LB 11 1) rfl (op_fieldAddr FI25_0 rfl (add_at _ _ _) (ltn rfl)) rfl (by kernel_rfl) (by kernel_rfl) (by kernel_rfl) (by kernel_rfl) (by decide) (PartP.on ⟨trivial, trivial, trivial⟩ ⟨trivial, ⟨⟨0, rfl⟩, trivial⟩, trivial⟩) (fun _ _ _ h => h) ?_
                  refine VB.vb (i := 1) (listed' := LB 11 3) rfl (op_load 0 1 rfl rfl TI22 rfl (by decide) (ltn rfl)) rfl (by kernel_rfl) (by kernel_rfl) (by kernel_rfl) (by kernel_rfl) (by kernel_rfl) (by kernel_rfl) (PartP.on ⟨trivial, trivial, trivial⟩ ⟨trivial, ⟨⟨0, rfl⟩, trivial⟩, trivial⟩) (fun _ _ _ h => h) ?_
                  refine VB.va (i := 2) (listed' := LB 11 7) rfl (op_move rfl (ltn rfl)) rfl (by kernel_rfl) (by kernel_rfl) (by kernel_rfl) (by kernel_rfl) (by decide) (PartP.on ⟨trivial, trivial, trivial⟩ ⟨trivial, ⟨⟨0, rfl⟩, trivial⟩, trivial⟩) (fun _ _ _ h => h) ?_
                  refine VB.va (i := 3) (listed' := LB 11 15) rfl (op_move rfl (ltn rfl)) rfl (by kernel_rfl) (by kernel_rfl) (by kernel_rfl) (by kernel_rfl) (by decide) (PartP.on ⟨trivial, trivial, trivial⟩ ⟨trivial, ⟨⟨0, rfl⟩, trivial⟩, trivial⟩) (fun _ _ _ h => h) ?_
                  refine VB.va (i := 4) (listed' := LB 11 31) rfl (op_lens Try.underlying9 rfl (ltn rfl)) rfl (by kernel_rfl) (by kernel_rfl) (by kernel_rfl) (by kernel_rfl) (by decide) (PartP.on ⟨trivial, trivial, trivial⟩ ⟨trivial, ⟨⟨0, rfl⟩, trivial⟩, trivial⟩) (fun _ _ _ h => h) ?_
                  refine VB.va (i := 5) (listed' := LB 11 63) rfl (op_min rfl rfl (ltn rfl)) rfl (by kernel_rfl) (by kernel_rfl) (by kernel_rfl) (by kernel_rfl) (by decide) (PartP.on ⟨trivial, trivial, trivial⟩ ⟨trivial, ⟨⟨0, rfl⟩, trivial⟩, trivial⟩) (fun _ _ _ h => h) ?_
                  refine VB.va (i := 6) (listed' := LB 11 127) rfl (op_sliceS 0 ((mn (x209.size : Int) 66).toNat) Try.underlying9 rfl ⟨rfl, ⟨_, _, rfl, c212, rfl⟩, by omega, by omega⟩ rfl (ltn rfl)) rfl (by kernel_rfl) (by kernel_rfl) (by kernel_rfl) (by kernel_rfl) (by decide) (PartP.on ⟨trivial, trivial, trivial⟩ ⟨trivial, ⟨⟨0, rfl⟩, trivial⟩, trivial⟩) (fun _ _ _ h => h) ?_
                  refine VB.oneG (i := 7) (listed' := LB 11 255) (by kernel_rfl) rfl (o_buildSlice (vals := [(0, .string (x209.extract 0 ((mn (x209.size : Int) 66).toNat)))]) (cells := #[.string (x209.extract 0 ((mn (x209.size : Int) 66).toNat))]) (es := List.map enc_str ([x209.extract 0 ((mn (x209.size : Int) 66).toNat)] : List ByteArray)) Try.underlying22 TI9 Z9 rfl (by decide) (by decide) (by kernel_rfl) (by kernel_rfl) rfl (flat_map enc_str_ok _) (ltn rfl)) rfl (by kernel_rfl) (fun _ => (PartP.on ⟨trivial, trivial, trivial⟩ ⟨trivial, ⟨⟨0, rfl⟩, trivial⟩, trivial⟩)) ?_
                  intro v215
                  refine VB.oneG (i := 8) (listed' := LB 11 511) (by kernel_rfl) rfl (o_append 1 appm Try.underlying22 EI9 rfl rfl rfl (.inr ⟨0, _, rfl⟩) (bndm c216) (ltn rfl)) rfl (by kernel_rfl) (fun _ => (PartP.off (by kernel_rfl) ⟨trivial, trivial, trivial⟩)) ?_
                  intro v217
                  refine VB.va (i := 9) (listed' := LB 11 1023) rfl (op_fieldAddr FI25_0 rfl (add_at _ _ _) (ltn rfl)) rfl (by kernel_rfl) (by kernel_rfl) (by kernel_rfl) (by kernel_rfl) (by decide) (PartP.off (by kernel_rfl) ⟨trivial, trivial, trivial⟩) (fun _ _ _ h => h) ?_
                  refine VB.one1 (i := 10) (listed' := LB 11 2047) (by kernel_rfl) rfl (o_store 0 1 rfl rfl rfl TI22 (.r 1 rfl) rfl (len rfl)) rfl (by kernel_rfl) (PartP.off (by kernel_rfl) ⟨trivial, trivial, trivial⟩) ?_
                  refine VB.done (by kernel_rfl) ?_
                  exact VN.meet2 v215 v217 [0, 1, 2] [0, 1] trivial ⟨rfl, ⟨rfl, rfl, rfl, rfl, rfl, rfl, rfl, rfl, rfl, rfl, rfl, rfl, rfl, rfl, rfl, rfl, rfl, rfl, trivial⟩, ⟨⟨0, rfl⟩, ⟨1, rfl⟩, ⟨2, rfl⟩, trivial⟩, rfl, by decide, rfl, by decide⟩
                intro v215 v217 _
                refine VN.block ?_
                refine VN.then ?_
                refine VC.region ?_
                refine VL.va (op_ari64 rfl rfl rfl (ltn rfl)) rfl ?_
                refine VL.va (op_move rfl (ltn rfl)) rfl ?_
                refine VL.done ?_
                refine VN.again [0, 1, 2] [1] (ihl1 (wrap64 (i78 + 1)) v217 (l81 ++ ([x209.extract 0 ((mn (x209.size : Int) 66).toNat)] : List ByteArray)) h) ⟨rfl, ⟨rfl, rfl, rfl, rfl, rfl, rfl, trivial⟩, ⟨⟨0, rfl⟩, ⟨1, rfl⟩, ⟨2, rfl⟩, trivial⟩, rfl, by decide, rfl, by decide⟩
              · rw [if_neg c216] at h; cases h
            · rw [if_neg c213] at h; cases h
          · rw [if_neg c212] at h; cases h
        · rw [if_neg c208] at h; cases h
      · rw [if_neg c207] at h
        obtain rfl : b97 = false := hb97.symm.trans (decide_eq_false c207)
        refine VC.cond_f rfl ?_
        refine VC.exit ?_
        refine VX.then ?_
        refine VX.then ?_
        refine VX.hit ?_
        refine VN.then ?_
        refine VC.seq ?_
        refine VC.seq ?_
        refine VC.region ?_
        refine VL.va (op_fieldAddr FI25_1 rfl (add_at _ _ _) (ltn rfl)) rfl ?_
        refine VL.va (op_load 2 1 rfl rfl TI23 rfl (by decide) (ltn rfl)) rfl ?_
        refine VL.va (op_fieldAddr FI25_1 rfl (add_at _ _ _) (ltn rfl)) rfl ?_
        refine VL.va (op_load 2 1 rfl rfl TI23 rfl (by decide) (ltn rfl)) rfl ?_
        refine VL.va (op_len (m := l0_1.length) 2 lenm Try.underlying23 rfl rfl (ltn rfl)) rfl ?_
        refine VL.va (op_min rfl rfl (ltn rfl)) rfl ?_
        by_cases c273 : 0 ≤ mn (l0_1.length : Int) 66
        · rw [if_pos c273] at h
          by_cases c274 : (mn (l0_1.length : Int) 66) ≤ (l0_1.length : Int)
          · rw [if_pos c274] at h
            refine VL.sG (o_slice (m := l0_1.length) 2 0 ((mn (l0_1.length : Int) 66).toNat) lenm cutm Try.underlying23 TI33 rfl rfl ⟨rfl, ⟨_, _, rfl, c273, rfl⟩, by omega, by omega⟩ (ltn rfl)) rfl ?_
            intro v276
            refine VL.va (op_len (m := ((l0_1.take ((mn (l0_1.length : Int) 66).toNat)).drop 0).length) 0 lenm Try.underlying23 rfl rfl (ltn rfl)) rfl ?_
            refine VL.va (op_move rfl (ltn rfl)) rfl ?_
            refine VL.done ?_
            refine VN.then ?_
            refine VC.block ?_
            refine VC.nilRow' 33 2 ?_
            refine VC.loop3 (fun (i292 : Int) (v294 : Value) (l295 : List S32) => ⟨59, [(2, .pointer (some ⟨g7, 0, none⟩)), (3, .pointer (some ⟨g8, 0, none⟩)), (37, v276), (38, .int .i64 (((l0_1.take ((mn (l0_1.length : Int) 66).toNat)).drop 0).length : Int)), (39, .int .i64 i292)], [.row v276 2 (((l0_1.take ((mn (l0_1.length : Int) 66).toNat)).drop 0).map enc32)], [(g8, 25, [v80, v294]), (g7, 25, [.slice none 0 0, .slice none 0 0])], [(v294, 33, 2, l295.map enc32), (v80, 9, 1, l81.map enc_str)]⟩) (fun (ml5 : Nat) (i292 : Int) (v294 : Value) (l295 : List S32) => tarrylaw03_few.l5 k l0_1 l81 ml5 i292 l295 = some (r1, r2)) k 0 (.slice none 0 0) ([] : List S32) [0, 1] [0, 1] h ⟨rfl, ⟨rfl, rfl, rfl, rfl, rfl, trivial⟩, ⟨⟨0, rfl⟩, trivial⟩, rfl, by decide, rfl, by decide⟩ (by intros; simp [tarrylaw03_few.l5]) ?_
            clear h
            intro ml5 ihl5 i292 v294 l295 h
            simp only [tarrylaw03_few.l5] at h
            refine VC.seq ?_
            refine VC.region ?_
            refine VL.letter (decide (i292 < (((l0_1.take ((mn (l0_1.length : Int) 66).toNat)).drop 0).length : Int))) fun b312 hb312 => ?_
            refine VL.va (op_cmp rfl rfl (congrArg some hb312) (ltn rfl)) rfl ?_
            refine VL.done ?_
            refine VN.then ?_
            refine VC.seq ?_
            by_cases c314 : i292 < (((l0_1.take ((mn (l0_1.length : Int) 66).toNat)).drop 0).length : Int)
            · rw [if_pos c314] at h
              obtain rfl : b312 = true := hb312.symm.trans (decide_eq_true c314)
              refine VC.cond_t rfl ?_
              refine VC.skip ?_
              refine VN.then ?_
              refine VC.seq ?_
              refine VC.block ?_
              refine VC.seq ?_
              refine VC.region ?_
              by_cases c315 : 0 ≤ i292
              · rw [if_pos c315] at h
                replace h := Option.bind_eq_some_iff.1 h
                obtain ⟨x316, hx316, h⟩ := h
                refine VL.open (m := ((l0_1.take ((mn (l0_1.length : Int) 66).toNat)).drop 0).length) 0 lenm rfl (pos_get hx316) ?_
                rintro ad317 n318 rfl
                refine VL.va (op_indexAddr Try.underlying23 TI33 rfl rfl c315 (lt_get c315 hx316) rfl (ltn rfl)) rfl ?_
                refine VL.va (op_load_row (sz := 2) (o := 0) 0 i292.toNat 2 rfl rfl (get_map hx316) TI33 rfl (fun h => absurd h (by decide)) (ltn rfl)) rfl ?_
                refine VL.sG (o_alloc Z33 ZL33 (ltn rfl)) rfl ?_
                intro g319
                refine VL.step1 (o_store 0 2 rfl rfl rfl TI33 (.agg (.of rfl)) rfl (len rfl)) rfl ?_
                refine VL.done ?_
                refine VN.then ?_
                refine VC.seq ?_
                refine VC.region ?_
                refine VL.va (op_fieldAddr FI33_1 rfl (add_at _ _ _) (ltn rfl)) rfl ?_
                refine VL.va (op_load 0 1 rfl rfl TI9 rfl (by decide) (ltn rfl)) rfl ?_
                refine VL.va (op_fieldAddr FI33_1 rfl (add_at _ _ _) (ltn rfl)) rfl ?_
                refine VL.va (op_load 0 1 rfl rfl TI9 rfl (by decide) (ltn rfl)) rfl ?_
                refine VL.va (op_lens Try.underlying9 rfl (ltn rfl)) rfl ?_
                refine VL.va (op_min rfl rfl (ltn rfl)) rfl ?_
                by_cases c320 : 0 ≤ mn (x316.f1.size : Int) 66
                · rw [if_pos c320] at h
                  by_cases c321 : (mn (x316.f1.size : Int) 66) ≤ (x316.f1.size : Int)
                  · rw [if_pos c321] at h
                    refine VL.va (op_sliceS 0 ((mn (x316.f1.size : Int) 66).toNat) Try.underlying9 rfl ⟨rfl, ⟨_, _, rfl, c320, rfl⟩, by omega, by omega⟩ rfl (ltn rfl)) rfl ?_
                    refine VL.va (op_fieldAddr FI33_1 rfl (add_at _ _ _) (ltn rfl)) rfl ?_
                    refine VL.step1 (o_store 0 1 rfl rfl rfl TI9 (.c rfl) rfl (len rfl)) rfl ?_
                    refine VL.done ?_
                    refine VN.then ?_
                    refine VC.region ?_
                    refine VL.va (op_fieldAddr FI25_1 rfl (add_at _ _ _) (ltn rfl)) rfl ?_
                    refine VL.va (op_load 1 1 rfl rfl TI23 rfl (by decide) (ltn rfl)) rfl ?_
                    refine VL.va (op_load 0 2 rfl rfl TI33 rfl (fun h => absurd h (by decide)) (ltn rfl)) rfl ?_
                    refine VL.sG (o_buildSlice (vals := [(0, .agg #[.int .i64 x316.f0, .string (x316.f1.extract 0 ((mn (x316.f1.size : Int) 66).toNat))])]) (cells := #[.int .i64 x316.f0, .string (x316.f1.extract 0 ((mn (x316.f1.size : Int) 66).toNat))]) (es := List.map enc32 ([(⟨x316.f0, x316.f1.extract 0 ((mn (x316.f1.size : Int) 66).toNat)⟩ : S32)] : List S32)) Try.underlying23 TI33 Z33 rfl (by decide) (by decide) (by kernel_rfl) (by kernel_rfl) rfl (flat_map enc32_ok _) (ltn rfl)) rfl ?_
                    intro v323
                    by_cases c324 : (l295.length + ([(⟨x316.f0, x316.f1.extract 0 ((mn (x316.f1.size : Int) 66).toNat)⟩ : S32)] : List S32).length) * 24 ≤ 140737488355328
                    · rw [if_pos c324] at h
                      refine VL.sG (o_append 1 appm Try.underlying23 EI33 rfl rfl rfl (.inr ⟨0, _, rfl⟩) (bndm c324) (ltn rfl)) rfl ?_
                      intro v325
                      refine VL.va (op_fieldAddr FI25_1 rfl (add_at _ _ _) (ltn rfl)) rfl ?_
                      refine VL.step1 (o_store 1 1 rfl rfl rfl TI23 (.r 1 rfl) rfl (len rfl)) rfl ?_
                      refine VL.done ?_
                      refine VN.block ?_
                      refine VN.then ?_
                      refine VC.region ?_
                      refine VL.va (op_ari64 rfl rfl rfl (ltn rfl)) rfl ?_
                      refine VL.va (op_move rfl (ltn rfl)) rfl ?_
                      refine VL.done ?_
                      refine VN.again [1, 2] [1, 2] (ihl5 (wrap64 (i292 + 1)) v325 (l295 ++ ([(⟨x316.f0, x316.f1.extract 0 ((mn (x316.f1.size : Int) 66).toNat)⟩ : S32)] : List S32)) h) ⟨rfl, ⟨rfl, rfl, rfl, rfl, rfl, trivial⟩, ⟨⟨0, rfl⟩, trivial⟩, rfl, by decide, rfl, by decide⟩
                    · rw [if_neg c324] at h; cases h
                  · rw [if_neg c321] at h; cases h
                · rw [if_neg c320] at h; cases h
              · rw [if_neg c315] at h; cases h
            · rw [if_neg c314] at h
              obtain rfl : b312 = false := hb312.symm.trans (decide_eq_false c314)
              refine VC.cond_f rfl ?_
              refine VC.exit ?_
              refine VX.then ?_
              refine VX.then ?_
              refine VX.hit ?_
              refine VN.then ?_
              refine VC.seq ?_
              refine VC.region ?_
              refine VL.va (op_load 0 2 rfl rfl TI25 rfl (fun h => absurd h (by decide)) (ltn rfl)) rfl ?_
              refine VL.step1 (o_store 1 2 rfl rfl rfl TI25 (.agg (.r 1 rfl (.r 0 rfl .nil))) rfl (len rfl)) rfl ?_
              refine VL.done ?_
              refine VN.then ?_
              refine VC.ret ?_
              simp only [Option.some.injEq, Prod.mk.injEq] at h
              obtain ⟨rfl, rfl⟩ := h
              exact VR.fn (rs := [.cell 2 25]) [] [(v80, 9, 1, l81.map enc_str), (v294, 33, 2, l295.map enc32)] [1, 0] rfl (.cell 1 rfl rfl TI25 (fun h => absurd h (by decide)) .nil) ⟨v80, v294, rfl, rfl, rfl⟩ trivial rfl (by decide)
          · rw [if_neg c274] at h; cases h
        · rw [if_neg c273] at h; cases h
    · rw [if_neg c61] at h; cases h
  · rw [if_neg c60] at h; cases h
set_option maxHeartbeats 4000000 in
set_option maxRecDepth 100000 in
theorem disk_Right_1.ok (a0 : ByteArray)  (r1 : Bool) (h : disk_Right_1.f a0 = some r1) :
    VCalls Try.prog 29 [.string a0] [] (fun v G own => v = .bool r1 ∧ G = [] ∧ own = []) := by
  refine VCalls.intro Try.func29 rfl (len rfl) fun E hC hW hD hU => ?_
  unfold disk_Right_1.f at h
  refine VC.seq ?_
  refine VC.region ?_
  refine VL.va (op_assign rfl (ltn rfl)) rfl ?_
  refine VL.done ?_
  refine VN.then ?_
  refine VC.seq ?_
  refine VC.region ?_
  refine VL.va (op_move rfl (ltn rfl)) rfl ?_
  refine VL.va (op_lens Try.underlying9 rfl (ltn rfl)) rfl ?_
  refine VL.letter (((a0.size : Int) != 64)) fun b359 hb359 => ?_
  refine VL.va (op_cmp rfl rfl (congrArg some hb359) (ltn rfl)) rfl ?_
  refine VL.va (op_assign rfl (ltn rfl)) rfl ?_
  refine VL.done ?_
  refine VN.then ?_
  refine VC.ret ?_
  obtain rfl := Option.some.inj h
  subst hb359
  exact VR.fn (rs := [.tmp 2]) [] [] [] rfl (.tmp rfl .nil) ⟨rfl, rfl, rfl⟩ trivial rfl (by decide)
set_option maxHeartbeats 4000000 in
set_option maxRecDepth 100000 in
theorem slices_IndexFunc_string_string.ok (k : Nat) (l0 : List ByteArray) (v0 : Value) (r1 : Int) (h : slices_IndexFunc_string_string.f k l0 = some r1) :
    VCalls Try.prog 41 [v0, (.func (.func 29) #[] #[])] [.row v0 1 (l0.map enc_str)] (fun v G own => v = .int .i64 r1 ∧ G = [] ∧ own = []) := by
  refine VCalls.intro Try.func41 rfl (len rfl) fun E hC hW hD hU => ?_
  unfold slices_IndexFunc_string_string.f at h
  refine VC.seq ?_
  refine VC.region ?_
  refine VL.va (op_assign rfl (ltn rfl)) rfl ?_
  refine VL.done ?_
  refine VN.then ?_
  refine VC.seq ?_
  refine VC.seq ?_
  refine VC.region ?_
  refine VL.va (op_move rfl (ltn rfl)) rfl ?_
  refine VL.va (op_len (m := l0.length) 0 lenm Try.underlying22 rfl rfl (ltn rfl)) rfl ?_
  refine VL.va (op_move rfl (ltn rfl)) rfl ?_
  refine VL.done ?_
  refine VN.then ?_
  refine VC.block ?_
  refine VC.loop1 (fun (i419 : Int) => ⟨19, [(0, v0), (1, (.func (.func 29) #[] #[])), (4, .int .i64 0), (7, .int .i64 (l0.length : Int)), (8, .int .i64 i419)], [.row v0 1 (l0.map enc_str)], [], []⟩) (fun (ml1 : Nat) (i419 : Int) => slices_IndexFunc_string_string.l1 k l0 ml1 i419 = some r1) k 0 [] [] h ⟨rfl, ⟨rfl, rfl, rfl, rfl, rfl, trivial⟩, ⟨⟨0, rfl⟩, trivial⟩, rfl, by decide, rfl, by decide⟩ (by intros; simp [slices_IndexFunc_string_string.l1]) ?_
  clear h
  intro ml1 ihl1 i419 h
  simp only [slices_IndexFunc_string_string.l1] at h
  refine VC.seq ?_
  refine VC.region ?_
  refine VL.letter (decide (i419 < (l0.length : Int))) fun b437 hb437 => ?_
  refine VL.va (op_cmp rfl rfl (congrArg some hb437) (ltn rfl)) rfl ?_
  refine VL.done ?_
  refine VN.then ?_
  refine VC.seq ?_
  by_cases c439 : i419 < (l0.length : Int)
  · rw [if_pos c439] at h
    obtain rfl : b437 = true := hb437.symm.trans (decide_eq_true c439)
    refine VC.cond_t rfl ?_
    refine VC.skip ?_
    refine VN.then ?_
    refine VC.seq ?_
    refine VC.block ?_
    refine VC.seq ?_
    refine VC.region ?_
    refine VL.va (op_move rfl (ltn rfl)) rfl ?_
    refine VL.va (op_assign rfl (ltn rfl)) rfl ?_
    refine VL.done ?_
    refine VN.then ?_
    refine VC.seq ?_
    refine VC.region ?_
    refine VL.va (op_move rfl (ltn rfl)) rfl ?_
    refine VL.va (op_move rfl (ltn rfl)) rfl ?_
    refine VL.va (op_move rfl (ltn rfl)) rfl ?_
    by_cases c447 : 0 ≤ i419
    · rw [if_pos c447] at h
      replace h := Option.bind_eq_some_iff.1 h
      obtain ⟨x448, hx448, h⟩ := h
      refine VL.open (m := l0.length) 0 lenm rfl (pos_get hx448) ?_
      rintro ad449 n450 rfl
      refine VL.va (op_indexAddr Try.underlying22 TI9 rfl rfl c447 (lt_get c447 hx448) rfl (ltn rfl)) rfl ?_
      refine VL.va (op_load_row (sz := 1) (o := 0) 0 i419.toNat 1 rfl rfl (get_map hx448) TI9 rfl (by decide) (ltn rfl)) rfl ?_
      replace h := Option.bind_eq_some_iff.1 h
      obtain ⟨t451, hA452, h⟩ := h
      refine VL.sC (o_call0 FO29 (disk_Right_1.ok x448 t451 hA452) rfl rfl (ltn rfl) (All_of .nil)) rfl ?_
      rintro _ _ _ ⟨rfl, rfl, rfl⟩
      refine VL.done ?_
      refine VN.then ?_
      by_cases c453 : t451 = true
      · rw [if_pos c453] at h
        obtain rfl := c453
        refine VC.cond_t rfl ?_
        refine VC.seq ?_
        refine VC.region ?_
        refine VL.va (op_move rfl (ltn rfl)) rfl ?_
        refine VL.va (op_assign rfl (ltn rfl)) rfl ?_
        refine VL.done ?_
        refine VN.then ?_
        refine VC.ret ?_
        refine VR.block ?_
        refine VR.then ?_
        refine VR.then ?_
        refine VR.block ?_
        refine VR.then ?_
        obtain rfl := Option.some.inj h
        exact VR.fn (rs := [.tmp 4]) [] [] [] rfl (.tmp rfl .nil) ⟨rfl, rfl, rfl⟩ trivial rfl (by decide)
      · rw [if_neg c453] at h
        obtain rfl := Bool.eq_false_iff.2 c453
        refine VC.cond_f rfl ?_
        refine VC.skip ?_
        refine VN.block ?_
        refine VN.then ?_
        refine VC.region ?_
        refine VL.va (op_ari64 rfl rfl rfl (ltn rfl)) rfl ?_
        refine VL.va (op_move rfl (ltn rfl)) rfl ?_
        refine VL.done ?_
        refine VN.again [] [] (ihl1 (wrap64 (i419 + 1)) h) ⟨rfl, ⟨rfl, rfl, rfl, rfl, rfl, trivial⟩, ⟨⟨0, rfl⟩, trivial⟩, rfl, by decide, rfl, by decide⟩
    · rw [if_neg c447] at h; cases h
  · rw [if_neg c439] at h
    obtain rfl : b437 = false := hb437.symm.trans (decide_eq_false c439)
    refine VC.cond_f rfl ?_
    refine VC.exit ?_
    refine VX.then ?_
    refine VX.then ?_
    refine VX.hit ?_
    refine VN.then ?_
    refine VC.seq ?_
    refine VC.region ?_
    refine VL.va (op_assign rfl (ltn rfl)) rfl ?_
    refine VL.done ?_
    refine VN.then ?_
    refine VC.ret ?_
    obtain rfl := Option.some.inj h
    exact VR.fn (rs := [.tmp 4]) [] [] [] rfl (.tmp rfl .nil) ⟨rfl, rfl, rfl⟩ trivial rfl (by decide)
set_option maxHeartbeats 4000000 in
set_option maxRecDepth 100000 in
theorem slices_ContainsFunc_string_string.ok (k : Nat) (l0 : List ByteArray) (v0 : Value) (r1 : Bool) (h : slices_ContainsFunc_string_string.f k l0 = some r1) :
    VCalls Try.prog 31 [v0, (.func (.func 29) #[] #[])] [.row v0 1 (l0.map enc_str)] (fun v G own => v = .bool r1 ∧ G = [] ∧ own = []) := by
  refine VCalls.intro Try.func31 rfl (len rfl) fun E hC hW hD hU => ?_
  unfold slices_ContainsFunc_string_string.f at h
  refine VC.seq ?_
  refine VC.region ?_
  refine VL.va (op_assign rfl (ltn rfl)) rfl ?_
  refine VL.done ?_
  refine VN.then ?_
  refine VC.seq ?_
  refine VC.region ?_
  refine VL.va (op_move rfl (ltn rfl)) rfl ?_
  refine VL.va (op_move rfl (ltn rfl)) rfl ?_
  replace h := Option.bind_eq_some_iff.1 h
  obtain ⟨t454, hA455, h⟩ := h
  refine VL.sC (o_call0 FO41 (slices_IndexFunc_string_string.ok k l0 v0 t454 hA455) rfl rfl (ltn rfl) (All_of (.cons (List.mem_of_getElem? (i := 0) rfl) .nil))) rfl ?_
  rintro _ _ _ ⟨rfl, rfl, rfl⟩
  refine VL.letter (decide (t454 ≥ 0)) fun b456 hb456 => ?_
  refine VL.va (op_cmp rfl rfl (congrArg some hb456) (ltn rfl)) rfl ?_
  refine VL.va (op_assign rfl (ltn rfl)) rfl ?_
  refine VL.done ?_
  refine VN.then ?_
  refine VC.ret ?_
  obtain rfl := Option.some.inj h
  subst hb456
  exact VR.fn (rs := [.tmp 4]) [] [] [] rfl (.tmp rfl .nil) ⟨rfl, rfl, rfl⟩ trivial rfl (by decide)
set_option maxHeartbeats 4000000 in
set_option maxRecDepth 100000 in
theorem disk_Right_2.ok (a0_0 : Int) (a0_1 : ByteArray) (a1_0 : Int) (p1 : Nat) (p2 : Nat) (r1 : Bool) (h : disk_Right_2.f a0_0 a0_1 a1_0 = some r1) :
    VCalls Try.prog 30 [.agg #[.int .i64 a0_0, .string a0_1], .pointer (some ⟨p1, 0, none⟩), .pointer (some ⟨p2, 0, none⟩)] [.at_ ⟨p1, 0, none⟩ [.int .i64 a1_0], .at_ ⟨p2, 0, none⟩ [(.func (.func 29) #[] #[])]] (fun v G own => v = .bool r1 ∧ G = [] ∧ own = []) := by
  refine VCalls.intro Try.func30 rfl (len rfl) fun E hC hW hD hU => ?_
  unfold disk_Right_2.f at h
  refine VC.seq ?_
  refine VC.region ?_
  refine VL.sG (o_box rfl (.agg (.of rfl)) (ltn rfl)) rfl ?_
  intro g468
  refine VL.va (op_assign rfl (ltn rfl)) rfl ?_
  refine VL.done ?_
  refine VN.then ?_
  refine VC.seq ?_
  refine VC.region ?_
  refine VL.va (op_fieldAddr FI33_0 rfl (add_at _ _ _) (ltn rfl)) rfl ?_
  refine VL.va (op_load 0 1 rfl rfl TI3 rfl (by decide) (ltn rfl)) rfl ?_
  refine VL.letter (decide (a0_0 < 0)) fun b475 hb475 => ?_
  refine VL.va (op_cmp rfl rfl (congrArg some hb475) (ltn rfl)) rfl ?_
  refine VL.va (op_move rfl (ltn rfl)) rfl ?_
  by_cases c476 : a0_0 < 0
  · rw [if_pos c476] at h
    obtain rfl : b475 = true := hb475.symm.trans (decide_eq_true c476)
    refine VL.un rfl rfl (ltn rfl) ?_
    refine VL.un rfl rfl (ltn rfl) ?_
    refine VL.un rfl rfl (ltn rfl) ?_
    refine VL.un rfl rfl (ltn rfl) ?_
    refine VL.va (op_pick rfl rfl (ltn rfl)) rfl ?_
    refine VL.va (op_move rfl (ltn rfl)) rfl ?_
    refine VL.un rfl rfl (ltn rfl) ?_
    refine VL.un rfl rfl (ltn rfl) ?_
    refine VL.un rfl rfl (ltn rfl) ?_
    refine VL.un rfl rfl (ltn rfl) ?_
    refine VL.va (op_pick rfl rfl (ltn rfl)) rfl ?_
    refine VL.va (op_assign rfl (ltn rfl)) rfl ?_
    refine VL.done ?_
    refine VN.then ?_
    refine VC.ret ?_
    obtain rfl := Option.some.inj h
    exact VR.fn (rs := [.tmp 4]) [] [] [] rfl (.tmp rfl .nil) ⟨rfl, rfl, rfl⟩ trivial rfl (by decide)
  · rw [if_neg c476] at h
    obtain rfl : b475 = false := hb475.symm.trans (decide_eq_false c476)
    refine VL.va (op_fieldAddr FI33_0 rfl (add_at _ _ _) (ltn rfl)) rfl ?_
    refine VL.va (op_load 0 1 rfl rfl TI3 rfl (by decide) (ltn rfl)) rfl ?_
    refine VL.va (op_load_at (ad := ⟨p1, 0, none⟩) 0 0 1 (by first | rfl | exact congrArg (fun a => some (Value.pointer (some a))) (add_at _ 0 _).symm) rfl TI3 rfl (by decide) (ltn rfl)) rfl ?_
    refine VL.letter (decide (a0_0 ≥ a1_0)) fun b477 hb477 => ?_
    refine VL.va (op_cmp rfl rfl (congrArg some hb477) (ltn rfl)) rfl ?_
    refine VL.va (op_pick rfl rfl (ltn rfl)) rfl ?_
    refine VL.va (op_move rfl (ltn rfl)) rfl ?_
    by_cases c478 : a0_0 ≥ a1_0
    · rw [if_pos c478] at h
      obtain rfl : b477 = true := hb477.symm.trans (decide_eq_true c478)
      refine VL.un rfl rfl (ltn rfl) ?_
      refine VL.un rfl rfl (ltn rfl) ?_
      refine VL.un rfl rfl (ltn rfl) ?_
      refine VL.un rfl rfl (ltn rfl) ?_
      refine VL.va (op_pick rfl rfl (ltn rfl)) rfl ?_
      refine VL.va (op_assign rfl (ltn rfl)) rfl ?_
      refine VL.done ?_
      refine VN.then ?_
      refine VC.ret ?_
      obtain rfl := Option.some.inj h
      exact VR.fn (rs := [.tmp 4]) [] [] [] rfl (.tmp rfl .nil) ⟨rfl, rfl, rfl⟩ trivial rfl (by decide)
    · rw [if_neg c478] at h
      obtain rfl : b477 = false := hb477.symm.trans (decide_eq_false c478)
      refine VL.va (op_load_at (ad := ⟨p2, 0, none⟩) 1 0 1 (by first | rfl | exact congrArg (fun a => some (Value.pointer (some a))) (add_at _ 0 _).symm) rfl TI68 rfl (by decide) (ltn rfl)) rfl ?_
      refine VL.va (op_fieldAddr FI33_1 rfl (add_at _ _ _) (ltn rfl)) rfl ?_
      refine VL.va (op_load 0 1 rfl rfl TI9 rfl (by decide) (ltn rfl)) rfl ?_
      replace h := Option.bind_eq_some_iff.1 h
      obtain ⟨t479, hA480, h⟩ := h
      refine VL.sC (o_call0 FO29 (disk_Right_1.ok a0_1 t479 hA480) rfl rfl (ltn rfl) (All_of .nil)) rfl ?_
      rintro _ _ _ ⟨rfl, rfl, rfl⟩
      refine VL.va (op_pick rfl rfl (ltn rfl)) rfl ?_
      refine VL.va (op_assign rfl (ltn rfl)) rfl ?_
      refine VL.done ?_
      refine VN.then ?_
      refine VC.ret ?_
      obtain rfl := Option.some.inj h
      exact VR.fn (rs := [.tmp 4]) [] [] [] rfl (.tmp rfl .nil) ⟨rfl, rfl, rfl⟩ trivial rfl (by decide)
set_option maxHeartbeats 4000000 in
set_option maxRecDepth 100000 in
theorem slices_IndexFunc_api_Write_api_Write.ok (k : Nat) (l0 : List S32) (a1_0_0 : Int) (v0 : Value) (p1_0 : Nat) (p1_1 : Nat) (r1 : Int) (h : slices_IndexFunc_api_Write_api_Write.f k l0 a1_0_0 = some r1) :
    VCalls Try.prog 42 [v0, (.func (.func 30) #[] #[.pointer (some ⟨p1_0, 0, none⟩), .pointer (some ⟨p1_1, 0, none⟩)])] [.row v0 2 (l0.map enc32), .at_ ⟨p1_0, 0, none⟩ [.int .i64 a1_0_0], .at_ ⟨p1_1, 0, none⟩ [(.func (.func 29) #[] #[])]] (fun v G own => v = .int .i64 r1 ∧ G = [] ∧ own = []) := by
  refine VCalls.intro Try.func42 rfl (len rfl) fun E hC hW hD hU => ?_
  unfold slices_IndexFunc_api_Write_api_Write.f at h
  refine VC.seq ?_
  refine VC.region ?_
  refine VL.va (op_assign rfl (ltn rfl)) rfl ?_
  refine VL.done ?_
  refine VN.then ?_
  refine VC.seq ?_
  refine VC.seq ?_
  refine VC.region ?_
  refine VL.va (op_move rfl (ltn rfl)) rfl ?_
  refine VL.va (op_len (m := l0.length) 0 lenm Try.underlying23 rfl rfl (ltn rfl)) rfl ?_
  refine VL.va (op_move rfl (ltn rfl)) rfl ?_
  refine VL.done ?_
  refine VN.then ?_
  refine VC.block ?_
  refine VC.loop1 (fun (i540 : Int) => ⟨19, [(0, v0), (1, (.func (.func 30) #[] #[.pointer (some ⟨p1_0, 0, none⟩), .pointer (some ⟨p1_1, 0, none⟩)])), (4, .int .i64 0), (7, .int .i64 (l0.length : Int)), (8, .int .i64 i540)], [.at_ ⟨p1_0, 0, none⟩ [.int .i64 a1_0_0], .at_ ⟨p1_1, 0, none⟩ [(.func (.func 29) #[] #[])], .row v0 2 (l0.map enc32)], [], []⟩) (fun (ml1 : Nat) (i540 : Int) => slices_IndexFunc_api_Write_api_Write.l1 k a1_0_0 l0 ml1 i540 = some r1) k 0 [] [] h ⟨rfl, ⟨rfl, rfl, rfl, rfl, rfl, trivial⟩, ⟨⟨1, rfl⟩, ⟨2, rfl⟩, ⟨0, rfl⟩, trivial⟩, rfl, by decide, rfl, by decide⟩ (by intros; simp [slices_IndexFunc_api_Write_api_Write.l1]) ?_
  clear h
  intro ml1 ihl1 i540 h
  simp only [slices_IndexFunc_api_Write_api_Write.l1] at h
  refine VC.seq ?_
  refine VC.region ?_
  refine VL.letter (decide (i540 < (l0.length : Int))) fun b558 hb558 => ?_
  refine VL.va (op_cmp rfl rfl (congrArg some hb558) (ltn rfl)) rfl ?_
  refine VL.done ?_
  refine VN.then ?_
  refine VC.seq ?_
  by_cases c560 : i540 < (l0.length : Int)
  · rw [if_pos c560] at h
    obtain rfl : b558 = true := hb558.symm.trans (decide_eq_true c560)
    refine VC.cond_t rfl ?_
    refine VC.skip ?_
    refine VN.then ?_
    refine VC.seq ?_
    refine VC.block ?_
    refine VC.seq ?_
    refine VC.region ?_
    refine VL.va (op_move rfl (ltn rfl)) rfl ?_
    refine VL.va (op_assign rfl (ltn rfl)) rfl ?_
    refine VL.done ?_
    refine VN.then ?_
    refine VC.seq ?_
    refine VC.region ?_
    refine VL.va (op_move rfl (ltn rfl)) rfl ?_
    refine VL.va (op_move rfl (ltn rfl)) rfl ?_
    refine VL.va (op_move rfl (ltn rfl)) rfl ?_
    by_cases c568 : 0 ≤ i540
    · rw [if_pos c568] at h
      replace h := Option.bind_eq_some_iff.1 h
      obtain ⟨x569, hx569, h⟩ := h
      refine VL.open (m := l0.length) 2 lenm rfl (pos_get hx569) ?_
      rintro ad570 n571 rfl
      refine VL.va (op_indexAddr Try.underlying23 TI33 rfl rfl c568 (lt_get c568 hx569) rfl (ltn rfl)) rfl ?_
      refine VL.va (op_load_row (sz := 2) (o := 0) 2 i540.toNat 2 rfl rfl (get_map hx569) TI33 rfl (fun h => absurd h (by decide)) (ltn rfl)) rfl ?_
      replace h := Option.bind_eq_some_iff.1 h
      obtain ⟨t572, hA573, h⟩ := h
      refine VL.sC (o_call (vals := [.agg #[.int .i64 x569.f0, .string x569.f1]]) (caps := [.pointer (some ⟨p1_0, 0, none⟩), .pointer (some ⟨p1_1, 0, none⟩)]) FO30 (disk_Right_2.ok x569.f0 x569.f1 a1_0_0 p1_0 p1_1 t572 hA573) rfl rfl (ltn rfl) (All_of (.cons (List.mem_of_getElem? (i := 0) rfl) (.cons (List.mem_of_getElem? (i := 1) rfl) .nil)))) rfl ?_
      rintro _ _ _ ⟨rfl, rfl, rfl⟩
      refine VL.done ?_
      refine VN.then ?_
      by_cases c574 : t572 = true
      · rw [if_pos c574] at h
        obtain rfl := c574
        refine VC.cond_t rfl ?_
        refine VC.seq ?_
        refine VC.region ?_
        refine VL.va (op_move rfl (ltn rfl)) rfl ?_
        refine VL.va (op_assign rfl (ltn rfl)) rfl ?_
        refine VL.done ?_
        refine VN.then ?_
        refine VC.ret ?_
        refine VR.block ?_
        refine VR.then ?_
        refine VR.then ?_
        refine VR.block ?_
        refine VR.then ?_
        obtain rfl := Option.some.inj h
        exact VR.fn (rs := [.tmp 4]) [] [] [] rfl (.tmp rfl .nil) ⟨rfl, rfl, rfl⟩ trivial rfl (by decide)
      · rw [if_neg c574] at h
        obtain rfl := Bool.eq_false_iff.2 c574
        refine VC.cond_f rfl ?_
        refine VC.skip ?_
        refine VN.block ?_
        refine VN.then ?_
        refine VC.region ?_
        refine VL.va (op_ari64 rfl rfl rfl (ltn rfl)) rfl ?_
        refine VL.va (op_move rfl (ltn rfl)) rfl ?_
        refine VL.done ?_
        refine VN.again [] [] (ihl1 (wrap64 (i540 + 1)) h) ⟨rfl, ⟨rfl, rfl, rfl, rfl, rfl, trivial⟩, ⟨⟨0, rfl⟩, ⟨1, rfl⟩, ⟨2, rfl⟩, trivial⟩, rfl, by decide, rfl, by decide⟩
    · rw [if_neg c568] at h; cases h
  · rw [if_neg c560] at h
    obtain rfl : b558 = false := hb558.symm.trans (decide_eq_false c560)
    refine VC.cond_f rfl ?_
    refine VC.exit ?_
    refine VX.then ?_
    refine VX.then ?_
    refine VX.hit ?_
    refine VN.then ?_
    refine VC.seq ?_
    refine VC.region ?_
    refine VL.va (op_assign rfl (ltn rfl)) rfl ?_
    refine VL.done ?_
    refine VN.then ?_
    refine VC.ret ?_
    obtain rfl := Option.some.inj h
    exact VR.fn (rs := [.tmp 4]) [] [] [] rfl (.tmp rfl .nil) ⟨rfl, rfl, rfl⟩ trivial rfl (by decide)
set_option maxHeartbeats 4000000 in
set_option maxRecDepth 100000 in
theorem slices_ContainsFunc_api_Write_api_Write.ok (k : Nat) (l0 : List S32) (a1_0_0 : Int) (v0 : Value) (p1_0 : Nat) (p1_1 : Nat) (r1 : Bool) (h : slices_ContainsFunc_api_Write_api_Write.f k l0 a1_0_0 = some r1) :
    VCalls Try.prog 32 [v0, (.func (.func 30) #[] #[.pointer (some ⟨p1_0, 0, none⟩), .pointer (some ⟨p1_1, 0, none⟩)])] [.row v0 2 (l0.map enc32), .at_ ⟨p1_0, 0, none⟩ [.int .i64 a1_0_0], .at_ ⟨p1_1, 0, none⟩ [(.func (.func 29) #[] #[])]] (fun v G own => v = .bool r1 ∧ G = [] ∧ own = []) := by
  refine VCalls.intro Try.func32 rfl (len rfl) fun E hC hW hD hU => ?_
  unfold slices_ContainsFunc_api_Write_api_Write.f at h
  refine VC.seq ?_
  refine VC.region ?_
  refine VL.va (op_assign rfl (ltn rfl)) rfl ?_
  refine VL.done ?_
  refine VN.then ?_
  refine VC.seq ?_
  refine VC.region ?_
  refine VL.va (op_move rfl (ltn rfl)) rfl ?_
  refine VL.va (op_move rfl (ltn rfl)) rfl ?_
  replace h := Option.bind_eq_some_iff.1 h
  obtain ⟨t575, hA576, h⟩ := h
  refine VL.sC (o_call0 FO42 (slices_IndexFunc_api_Write_api_Write.ok k l0 a1_0_0 v0 p1_0 p1_1 t575 hA576) rfl rfl (ltn rfl) (All_of (.cons (List.mem_of_getElem? (i := 0) rfl) (.cons (List.mem_of_getElem? (i := 1) rfl) (.cons (List.mem_of_getElem? (i := 2) rfl) .nil))))) rfl ?_
  rintro _ _ _ ⟨rfl, rfl, rfl⟩
  refine VL.letter (decide (t575 ≥ 0)) fun b577 hb577 => ?_
  refine VL.va (op_cmp rfl rfl (congrArg some hb577) (ltn rfl)) rfl ?_
  refine VL.va (op_assign rfl (ltn rfl)) rfl ?_
  refine VL.done ?_
  refine VN.then ?_
  refine VC.ret ?_
  obtain rfl := Option.some.inj h
  subst hb577
  exact VR.fn (rs := [.tmp 4]) [] [] [] rfl (.tmp rfl .nil) ⟨rfl, rfl, rfl⟩ trivial rfl (by decide)
set_option maxHeartbeats 4000000 in
set_option maxRecDepth 100000 in
theorem disk_Right.ok (k : Nat) (l0_0 : List ByteArray) (l0_1 : List S32) (v0_0 : Value) (v0_1 : Value) (r1 : Bool) (h : disk_Right.f k l0_0 l0_1 = some r1) :
    VCalls Try.prog 16 [.agg #[v0_0, v0_1]] [.row v0_0 1 (l0_0.map enc_str), .row v0_1 2 (l0_1.map enc32)] (fun v G own => v = .bool r1 ∧ G = [] ∧ own = []) := by
  refine VCalls.intro Try.func16 rfl (len rfl) fun E hC hW hD hU => ?_
  unfold disk_Right.f at h
  refine VC.seq ?_
  refine VC.region ?_
  refine VL.sG (o_box rfl (.agg (.f 0 rfl (.f 1 rfl .nil))) (ltn rfl)) rfl ?_
  intro g342
  refine VL.va (op_assign rfl (ltn rfl)) rfl ?_
  refine VL.done ?_
  refine VN.then ?_
  refine VC.seq ?_
  refine VC.region ?_
  refine VL.va (op_fieldAddr FI25_0 rfl (add_at _ _ _) (ltn rfl)) rfl ?_
  refine VL.va (op_load 0 1 rfl rfl TI22 rfl (by decide) (ltn rfl)) rfl ?_
  refine VL.va (op_len (m := l0_0.length) 0 lenm Try.underlying22 rfl rfl (ltn rfl)) rfl ?_
  refine VL.sG (o_alloc Z3 ZL3 (ltn rfl)) rfl ?_
  intro g343
  refine VL.step1 (o_store 0 1 rfl rfl rfl TI3 (.c rfl) rfl (len rfl)) rfl ?_
  refine VL.done ?_
  refine VN.then ?_
  refine VC.seq ?_
  refine VC.region ?_
  refine VL.sG (o_alloc Z68 ZL68 (ltn rfl)) rfl ?_
  intro g344
  refine VL.step1 (o_store 0 1 rfl rfl rfl TI68 (.c rfl) rfl (len rfl)) rfl ?_
  refine VL.done ?_
  refine VN.then ?_
  refine VC.seq ?_
  refine VC.region ?_
  refine VL.va (op_makeFunc (vals := [.pointer (some ⟨g343, 0, none⟩), .pointer (some ⟨g344, 0, none⟩)]) rfl (ltn rfl)) rfl ?_
  refine VL.va (op_assign rfl (ltn rfl)) rfl ?_
  refine VL.done ?_
  refine VN.then ?_
  refine VC.seq ?_
  refine VC.region ?_
  refine VL.va (op_load 1 1 rfl rfl TI3 rfl (by decide) (ltn rfl)) rfl ?_
  refine VL.letter (decide ((l0_0.length : Int) ≥ 1)) fun b581 hb581 => ?_
  refine VL.va (op_cmp rfl rfl (congrArg some hb581) (ltn rfl)) rfl ?_
  refine VL.va (op_move rfl (ltn rfl)) rfl ?_
  by_cases c582 : (l0_0.length : Int) ≥ 1
  · rw [if_pos c582] at h
    obtain rfl : b581 = true := hb581.symm.trans (decide_eq_true c582)
    refine VL.va (op_load 1 1 rfl rfl TI3 rfl (by decide) (ltn rfl)) rfl ?_
    refine VL.letter (decide ((l0_0.length : Int) ≤ 512)) fun b583 hb583 => ?_
    refine VL.va (op_cmp rfl rfl (congrArg some hb583) (ltn rfl)) rfl ?_
    refine VL.va (op_pick rfl rfl (ltn rfl)) rfl ?_
    refine VL.va (op_move rfl (ltn rfl)) rfl ?_
    by_cases c584 : (l0_0.length : Int) ≤ 512
    · rw [if_pos c584] at h
      obtain rfl : b583 = true := hb583.symm.trans (decide_eq_true c584)
      refine VL.va (op_fieldAddr FI25_1 rfl (add_at _ _ _) (ltn rfl)) rfl ?_
      refine VL.va (op_load 2 1 rfl rfl TI23 rfl (by decide) (ltn rfl)) rfl ?_
      refine VL.va (op_len (m := l0_1.length) 1 lenm Try.underlying23 rfl rfl (ltn rfl)) rfl ?_
      refine VL.letter (decide ((l0_1.length : Int) ≤ 64)) fun b585 hb585 => ?_
      refine VL.va (op_cmp rfl rfl (congrArg some hb585) (ltn rfl)) rfl ?_
      refine VL.va (op_pick rfl rfl (ltn rfl)) rfl ?_
      refine VL.va (op_move rfl (ltn rfl)) rfl ?_
      by_cases c586 : (l0_1.length : Int) ≤ 64
      · rw [if_pos c586] at h
        obtain rfl : b585 = true := hb585.symm.trans (decide_eq_true c586)
        refine VL.va (op_fieldAddr FI25_0 rfl (add_at _ _ _) (ltn rfl)) rfl ?_
        refine VL.va (op_load 2 1 rfl rfl TI22 rfl (by decide) (ltn rfl)) rfl ?_
        refine VL.va (op_load 0 1 rfl rfl TI68 rfl (by decide) (ltn rfl)) rfl ?_
        replace h := Option.bind_eq_some_iff.1 h
        obtain ⟨t587, hA588, h⟩ := h
        refine VL.sC (o_call0 FO31 (slices_ContainsFunc_string_string.ok k l0_0 v0_0 t587 hA588) rfl rfl (ltn rfl) (All_of (.cons (List.mem_of_getElem? (i := 0) rfl) .nil))) rfl ?_
        rintro _ _ _ ⟨rfl, rfl, rfl⟩
        by_cases c589 : t587 = true
        · rw [if_pos c589] at h
          obtain rfl := c589
          refine VL.va (op_not rfl rfl (ltn rfl)) rfl ?_
          refine VL.va (op_pick rfl rfl (ltn rfl)) rfl ?_
          refine VL.va (op_move rfl (ltn rfl)) rfl ?_
          refine VL.un rfl rfl (ltn rfl) ?_
          refine VL.un rfl rfl (ltn rfl) ?_
          refine VL.un rfl rfl (ltn rfl) ?_
          refine VL.un rfl rfl (ltn rfl) ?_
          refine VL.un rfl rfl (ltn rfl) ?_
          refine VL.va (op_pick rfl rfl (ltn rfl)) rfl ?_
          refine VL.va (op_assign rfl (ltn rfl)) rfl ?_
          refine VL.done ?_
          refine VN.then ?_
          refine VC.ret ?_
          obtain rfl := Option.some.inj h
          exact VR.fn (rs := [.tmp 2]) [] [] [] rfl (.tmp rfl .nil) ⟨rfl, rfl, rfl⟩ trivial rfl (by decide)
        · rw [if_neg c589] at h
          obtain rfl := Bool.eq_false_iff.2 c589
          refine VL.va (op_not rfl rfl (ltn rfl)) rfl ?_
          refine VL.va (op_pick rfl rfl (ltn rfl)) rfl ?_
          refine VL.va (op_move rfl (ltn rfl)) rfl ?_
          refine VL.va (op_fieldAddr FI25_1 rfl (add_at _ _ _) (ltn rfl)) rfl ?_
          refine VL.va (op_load 2 1 rfl rfl TI23 rfl (by decide) (ltn rfl)) rfl ?_
          refine VL.va (op_move rfl (ltn rfl)) rfl ?_
          refine VL.freeze' 1 rfl ?_
          refine VL.freeze' 0 rfl ?_
          replace h := Option.bind_eq_some_iff.1 h
          obtain ⟨t590, hA591, h⟩ := h
          refine VL.sC (o_call0 FO32 (slices_ContainsFunc_api_Write_api_Write.ok k l0_1 (l0_0.length : Int) v0_1 g343 g344 t590 hA591) rfl rfl (ltn rfl) (All_of (.cons (List.mem_of_getElem? (i := 3) rfl) (.cons (List.mem_of_getElem? (i := 1) rfl) (.cons (List.mem_of_getElem? (i := 0) rfl) .nil))))) rfl ?_
          rintro _ _ _ ⟨rfl, rfl, rfl⟩
          by_cases c592 : t590 = true
          · rw [if_pos c592] at h
            obtain rfl := c592
            refine VL.va (op_not rfl rfl (ltn rfl)) rfl ?_
            refine VL.va (op_pick rfl rfl (ltn rfl)) rfl ?_
            refine VL.va (op_assign rfl (ltn rfl)) rfl ?_
            refine VL.done ?_
            refine VN.then ?_
            refine VC.ret ?_
            obtain rfl := Option.some.inj h
            exact VR.fn (rs := [.tmp 2]) [] [] [] rfl (.tmp rfl .nil) ⟨rfl, rfl, rfl⟩ trivial rfl (by decide)
          · rw [if_neg c592] at h
            obtain rfl := Bool.eq_false_iff.2 c592
            refine VL.va (op_not rfl rfl (ltn rfl)) rfl ?_
            refine VL.va (op_pick rfl rfl (ltn rfl)) rfl ?_
            refine VL.va (op_assign rfl (ltn rfl)) rfl ?_
            refine VL.done ?_
            refine VN.then ?_
            refine VC.ret ?_
            obtain rfl := Option.some.inj h
            exact VR.fn (rs := [.tmp 2]) [] [] [] rfl (.tmp rfl .nil) ⟨rfl, rfl, rfl⟩ trivial rfl (by decide)
      · rw [if_neg c586] at h
        obtain rfl : b585 = false := hb585.symm.trans (decide_eq_false c586)
        refine VL.un rfl rfl (ltn rfl) ?_
        refine VL.un rfl rfl (ltn rfl) ?_
        refine VL.un rfl rfl (ltn rfl) ?_
        refine VL.un rfl rfl (ltn rfl) ?_
        refine VL.un rfl rfl (ltn rfl) ?_
        refine VL.va (op_pick rfl rfl (ltn rfl)) rfl ?_
        refine VL.va (op_move rfl (ltn rfl)) rfl ?_
        refine VL.un rfl rfl (ltn rfl) ?_
        refine VL.un rfl rfl (ltn rfl) ?_
        refine VL.un rfl rfl (ltn rfl) ?_
        refine VL.un rfl rfl (ltn rfl) ?_
        refine VL.un rfl rfl (ltn rfl) ?_
        refine VL.va (op_pick rfl rfl (ltn rfl)) rfl ?_
        refine VL.va (op_assign rfl (ltn rfl)) rfl ?_
        refine VL.done ?_
        refine VN.then ?_
        refine VC.ret ?_
        obtain rfl := Option.some.inj h
        exact VR.fn (rs := [.tmp 2]) [] [] [] rfl (.tmp rfl .nil) ⟨rfl, rfl, rfl⟩ trivial rfl (by decide)
    · rw [if_neg c584] at h
      obtain rfl : b583 = false := hb583.symm.trans (decide_eq_false c584)
      refine VL.un rfl rfl (ltn rfl) ?_
      refine VL.un rfl rfl (ltn rfl) ?_
      refine VL.un rfl rfl (ltn rfl) ?_
      refine VL.un rfl rfl (ltn rfl) ?_
      refine VL.va (op_pick rfl rfl (ltn rfl)) rfl ?_
      refine VL.va (op_move rfl (ltn rfl)) rfl ?_
      refine VL.un rfl rfl (ltn rfl) ?_
      refine VL.un rfl rfl (ltn rfl) ?_
      refine VL.un rfl rfl (ltn rfl) ?_
      refine VL.un rfl rfl (ltn rfl) ?_
      refine VL.un rfl rfl (ltn rfl) ?_
      refine VL.va (op_pick rfl rfl (ltn rfl)) rfl ?_
      refine VL.va (op_move rfl (ltn rfl)) rfl ?_
      refine VL.un rfl rfl (ltn rfl) ?_
      refine VL.un rfl rfl (ltn rfl) ?_
      refine VL.un rfl rfl (ltn rfl) ?_
      refine VL.un rfl rfl (ltn rfl) ?_
      refine VL.un rfl rfl (ltn rfl) ?_
      refine VL.va (op_pick rfl rfl (ltn rfl)) rfl ?_
      refine VL.va (op_assign rfl (ltn rfl)) rfl ?_
      refine VL.done ?_
      refine VN.then ?_
      refine VC.ret ?_
      obtain rfl := Option.some.inj h
      exact VR.fn (rs := [.tmp 2]) [] [] [] rfl (.tmp rfl .nil) ⟨rfl, rfl, rfl⟩ trivial rfl (by decide)
  · rw [if_neg c582] at h
    obtain rfl : b581 = false := hb581.symm.trans (decide_eq_false c582)
    refine VL.un rfl rfl (ltn rfl) ?_
    refine VL.un rfl rfl (ltn rfl) ?_
    refine VL.va (op_pick rfl rfl (ltn rfl)) rfl ?_
    refine VL.va (op_move rfl (ltn rfl)) rfl ?_
    refine VL.un rfl rfl (ltn rfl) ?_
    refine VL.un rfl rfl (ltn rfl) ?_
    refine VL.un rfl rfl (ltn rfl) ?_
    refine VL.un rfl rfl (ltn rfl) ?_
    refine VL.va (op_pick rfl rfl (ltn rfl)) rfl ?_
    refine VL.va (op_move rfl (ltn rfl)) rfl ?_
    refine VL.un rfl rfl (ltn rfl) ?_
    refine VL.un rfl rfl (ltn rfl) ?_
    refine VL.un rfl rfl (ltn rfl) ?_
    refine VL.un rfl rfl (ltn rfl) ?_
    refine VL.un rfl rfl (ltn rfl) ?_
    refine VL.va (op_pick rfl rfl (ltn rfl)) rfl ?_
    refine VL.va (op_move rfl (ltn rfl)) rfl ?_
    refine VL.un rfl rfl (ltn rfl) ?_
    refine VL.un rfl rfl (ltn rfl) ?_
    refine VL.un rfl rfl (ltn rfl) ?_
    refine VL.un rfl rfl (ltn rfl) ?_
    refine VL.un rfl rfl (ltn rfl) ?_
    refine VL.va (op_pick rfl rfl (ltn rfl)) rfl ?_
    refine VL.va (op_assign rfl (ltn rfl)) rfl ?_
    refine VL.done ?_
    refine VN.then ?_
    refine VC.ret ?_
    obtain rfl := Option.some.inj h
    exact VR.fn (rs := [.tmp 2]) [] [] [] rfl (.tmp rfl .nil) ⟨rfl, rfl, rfl⟩ trivial rfl (by decide)
set_option maxHeartbeats 4000000 in
set_option maxRecDepth 100000 in
theorem slices_Clip_api_Write_api_Write.ok (l0 : List S32) (v0 : Value) (r1 : List S32) (h : slices_Clip_api_Write_api_Write.f l0 = some r1) :
    VCalls Try.prog 21 [v0] [.row v0 2 (l0.map enc32)] (fun v G own => ∃ A : Option Addr, v = .slice A r1.length r1.length ∧ G = [.row (.slice A r1.length r1.length) 2 (r1.map enc32)] ∧ own = []) := by
  obtain rfl := Option.some.inj h
  clear h
  refine VCalls.intro Try.func21 rfl (len rfl) fun E hC hW hD hU => ?_
  refine VC.seq (VC.region ?_)
  refine VL.va (op_assign rfl (ltn rfl)) rfl ?_
  refine VL.done (VN.then ?_)
  refine VC.seq (VC.region ?_)
  refine VL.va (op_move rfl (ltn rfl)) rfl ?_
  refine VL.va (op_move rfl (ltn rfl)) rfl ?_
  refine VL.va (op_len (m := l0.length) 0 lenm Try.underlying23 rfl rfl (ltn rfl)) rfl ?_
  refine VL.va (op_move rfl (ltn rfl)) rfl ?_
  refine VL.va (op_len (m := l0.length) 0 lenm Try.underlying23 rfl rfl (ltn rfl)) rfl ?_
  refine VL.sG (o_clip (m := l0.length) 0 lenm Try.underlying23 TI33 rfl rfl rfl rfl (ltn rfl)) rfl ?_
  intro A
  refine VL.va (op_assign rfl (ltn rfl)) rfl ?_
  refine VL.done (VN.then ?_)
  refine VC.ret ?_
  exact VR.fn (rs := [.tmp 2]) [.row (.slice A l0.length l0.length) 2 (l0.map enc32)] [] [] rfl (.tmp rfl .nil) ⟨_, rfl, rfl, rfl⟩ ⟨⟨0, rfl⟩, trivial⟩ rfl (by decide)

end Go.Proofs.Ytlfkendmepdbkaa.PDiskReads
