/- Written by a program of this repo: what the program's functions do, each as a Lean function, shown of the loaded code; or a statement's row over that; no condition of its own. -/
import Derived.Test.YtlfkendmepdbkaaPDiskCrashesx0
namespace Go.Proofs.Ytlfkendmepdbkaa.PDiskCrashes
open Go Go.RowKit Go.Proofs.YtlfkendmepdbkaaV
set_option linter.unusedVariables false
set_option linter.unusedSimpArgs false

set_option maxHeartbeats 4000000 in
set_option maxRecDepth 100000 in
theorem tarrylaw03_few.ok (k : Nat) (l0_0 : List ByteArray) (l0_1 : List S32) (v0_0 : Value) (v0_1 : Value) (r1 : List ByteArray) (r2 : List S32) (h : tarrylaw03_few.f k l0_0 l0_1 = some (r1, r2)) :
    VCalls Try.prog 6 [.agg #[v0_0, v0_1]] [.row v0_0 1 (l0_0.map enc_str), .row v0_1 2 (l0_1.map enc32)] (fun v G own => ∃ w0 w1 : Value, v = .agg #[w0, w1] ∧ G = [] ∧ own = [(w0, 9, 1, r1.map enc_str), (w1, 33, 2, r2.map enc32)]) := by
  refine VCalls.intro Try.func6 rfl (len rfl) fun E hC hW hD hU => ?_
  unfold tarrylaw03_few.f at h
  refine VC.seq ?_
  refine VC.region ?_
  refine VL.sG (o_box rfl (.agg (.f 0 rfl (.f 1 rfl .nil))) (ltn rfl)) rfl ?_
  intro g6
  refine VL.sG (o_alloc Z25 ZL25 (ltn rfl)) rfl ?_
  intro g7
  refine VL.done ?_
  refine VN.then ?_
  refine VC.seq ?_
  refine VC.region ?_
  refine VL.sG (o_alloc Z25 ZL25 (ltn rfl)) rfl ?_
  intro g8
  refine VL.done ?_
  refine VN.then ?_
  refine VC.seq ?_
  refine VC.seq ?_
  refine VC.region ?_
  refine VL.va (op_fieldAddr FI25_0 rfl (add_at _ _ _) (ltn rfl)) rfl ?_
  refine VL.va (op_load 2 1 rfl rfl TI22 rfl (by decide) (ltn rfl)) rfl ?_
  refine VL.va (op_fieldAddr FI25_0 rfl (add_at _ _ _) (ltn rfl)) rfl ?_
  refine VL.va (op_load 2 1 rfl rfl TI22 rfl (by decide) (ltn rfl)) rfl ?_
  refine VL.va (op_len (m := l0_0.length) 0 lenm Try.underlying22 rfl rfl (ltn rfl)) rfl ?_
  refine VL.va (op_min rfl rfl (ltn rfl)) rfl ?_
  by_cases c60 : 0 ≤ mn (l0_0.length : Int) 20
  · rw [if_pos c60] at h
    by_cases c61 : (mn (l0_0.length : Int) 20) ≤ (l0_0.length : Int)
    · rw [if_pos c61] at h
      refine VL.sG (o_slice (m := l0_0.length) 0 0 ((mn (l0_0.length : Int) 20).toNat) lenm cutm Try.underlying22 TI9 rfl rfl ⟨rfl, ⟨_, _, rfl, c60, rfl⟩, by omega, by omega⟩ (ltn rfl)) rfl ?_
      intro v63
      refine VL.va (op_len (m := ((l0_0.take ((mn (l0_0.length : Int) 20).toNat)).drop 0).length) 0 lenm Try.underlying22 rfl rfl (ltn rfl)) rfl ?_
      refine VL.va (op_move rfl (ltn rfl)) rfl ?_
      refine VL.done ?_
      refine VN.then ?_
      refine VC.block ?_
      refine VC.nilRow' 9 1 ?_
      refine VC.loop3 (fun (i78 : Int) (v80 : Value) (l81 : List ByteArray) => ⟨59, [(1, .pointer (some ⟨g6, 0, none⟩)), (2, .pointer (some ⟨g7, 0, none⟩)), (3, .pointer (some ⟨g8, 0, none⟩)), (14, v63), (15, .int .i64 (((l0_0.take ((mn (l0_0.length : Int) 20).toNat)).drop 0).length : Int)), (16, .int .i64 i78)], [.row v63 1 (((l0_0.take ((mn (l0_0.length : Int) 20).toNat)).drop 0).map enc_str), .row v0_0 1 (l0_0.map enc_str), .row v0_1 2 (l0_1.map enc32)], [(g8, 25, [v80, .slice none 0 0]), (g7, 25, [.slice none 0 0, .slice none 0 0]), (g6, 25, [v0_0, v0_1])], [(v80, 9, 1, l81.map enc_str)]⟩) (fun (ml1 : Nat) (i78 : Int) (v80 : Value) (l81 : List ByteArray) => tarrylaw03_few.l1 k l0_0 l0_1 ml1 i78 l81 = some (r1, r2)) k 0 (.slice none 0 0) ([] : List ByteArray) [0, 1, 2] [0] h ⟨rfl, ⟨rfl, rfl, rfl, rfl, rfl, rfl, trivial⟩, ⟨⟨0, rfl⟩, ⟨1, rfl⟩, ⟨2, rfl⟩, trivial⟩, rfl, by decide, rfl, by decide⟩ (by intros; simp [tarrylaw03_few.l1]) ?_
      clear h
      intro ml1 ihl1 i78 v80 l81 h
      simp only [tarrylaw03_few.l1] at h
      refine VC.seq ?_
      refine VC.region ?_
      refine VL.letter (decide (i78 < (((l0_0.take ((mn (l0_0.length : Int) 20).toNat)).drop 0).length : Int))) fun b97 hb97 => ?_
      refine VL.va (op_cmp rfl rfl (congrArg some hb97) (ltn rfl)) rfl ?_
      refine VL.done ?_
      refine VN.then ?_
      refine VC.seq ?_
      by_cases c207 : i78 < (((l0_0.take ((mn (l0_0.length : Int) 20).toNat)).drop 0).length : Int)
      · rw [if_pos c207] at h
        obtain rfl : b97 = true := hb97.symm.trans (decide_eq_true c207)
        refine VC.cond_t rfl ?_
        refine VC.skip ?_
        refine VN.then ?_
        refine VC.seq ?_
        refine VC.block ?_
        refine VC.seq ?_
        refine VC.region ?_
        by_cases c208 : 0 ≤ i78
        · rw [if_pos c208] at h
          replace h := Option.bind_eq_some_iff.1 h
          obtain ⟨x209, hx209, h⟩ := h
          refine VL.open (m := ((l0_0.take ((mn (l0_0.length : Int) 20).toNat)).drop 0).length) 0 lenm rfl (pos_get hx209) ?_
          rintro ad210 n211 rfl
          refine VL.va (op_indexAddr Try.underlying22 TI9 rfl rfl c208 (lt_get c208 hx209) rfl (ltn rfl)) rfl ?_
          refine VL.va (op_load_row (sz := 1) (o := 0) 0 i78.toNat 1 rfl rfl (get_map hx209) TI9 rfl (by decide) (ltn rfl)) rfl ?_
          refine VL.va (op_assign rfl (ltn rfl)) rfl ?_
          refine VL.done ?_
          refine VN.then ?_
          by_cases c212 : 0 ≤ mn (x209.size : Int) 66
          · rw [if_pos c212] at h
            by_cases c213 : (mn (x209.size : Int) 66) ≤ (x209.size : Int)
            · rw [if_pos c213] at h
              by_cases c216 : (l81.length + ([x209.extract 0 ((mn (x209.size : Int) 66).toNat)] : List ByteArray).length) * 16 ≤ 140737488355328
              · rw [if_pos c216] at h
                refine VC.stop2 (fun (v215 : Value) (v217 : Value) => ⟨59, [(1, .pointer (some ⟨g6, 0, none⟩)), (2, .pointer (some ⟨g7, 0, none⟩)), (3, .pointer (some ⟨g8, 0, none⟩)), (5, .string x209), (14, (.slice (some ad210) ((l0_0.take ((mn (l0_0.length : Int) 20).toNat)).drop 0).length n211)), (15, .int .i64 (((l0_0.take ((mn (l0_0.length : Int) 20).toNat)).drop 0).length : Int)), (16, .int .i64 i78), (17, .bool true), (19, .string x209), (20, .pointer (some ⟨g8, 0, none⟩)), (22, .string x209), (23, .string x209), (24, .int .i64 (x209.size : Int)), (25, .int .i64 (mn (x209.size : Int) 66)), (26, .string (x209.extract 0 ((mn (x209.size : Int) 66).toNat))), (27, v215), (28, v217), (29, .pointer (some ⟨g8, 0, none⟩))], [.row (.slice (some ad210) ((l0_0.take ((mn (l0_0.length : Int) 20).toNat)).drop 0).length n211) 1 (((l0_0.take ((mn (l0_0.length : Int) 20).toNat)).drop 0).map enc_str), .row v0_0 1 (l0_0.map enc_str), .row v0_1 2 (l0_1.map enc32)], [(g8, 25, [v217, .slice none 0 0]), (g7, 25, [.slice none 0 0, .slice none 0 0]), (g6, 25, [v0_0, v0_1])], [(v215, 9, 1, ([x209.extract 0 ((mn (x209.size : Int) 66).toNat)] : List ByteArray).map enc_str), (v217, 9, 1, (l81 ++ ([x209.extract 0 ((mn (x209.size : Int) 66).toNat)] : List ByteArray)).map enc_str)]⟩) (fun (v215 : Value) (v217 : Value) => True) ?_ ?_
                · refine VC.drawB ⟨0, [], [], [], []⟩ [8, 10] ⟨0, [], [], [(g8, 25, [v80, .slice none 0 0])], []⟩ (by kernel_rfl) rfl (by kernel_rfl) (n := 11) (listed := LB 11 0) ?_
                  refine VB.va (i := 0) (listed' := LB 11 1) rfl (op_fieldAddr FI25_0 rfl (add_at _ _ _) (ltn rfl)) rfl (by kernel_rfl) (by kernel_rfl) (by kernel_rfl) (by kernel_rfl) (by decide) (PartP.on ⟨trivial, trivial, trivial⟩ ⟨trivial, ⟨⟨0, rfl⟩, trivial⟩, trivial⟩) (fun _ _ _ h => h) ?_
                  refine VB.vb (i := 1) (listed' := LB 11 3) rfl (op_load 0 1 rfl rfl TI22 rfl (by decide) (ltn rfl)) rfl (by kernel_rfl) (by kernel_rfl) (by kernel_rfl) (by kernel_rfl) (by kernel_rfl) (by kernel_rfl) (PartP.on ⟨trivial, trivial, trivial⟩ ⟨trivial, ⟨⟨0, rfl⟩, trivial⟩, trivial⟩) (fun _ _ _ h => h) ?_
                  refine VB.va (i := 2) (listed' := LB 11 7) rfl (op_move rfl (ltn rfl)) rfl (by kernel_rfl) (by kernel_rfl) (by kernel_rfl) (by kernel_rfl) (by decide) (PartP.on ⟨trivial, trivial, trivial⟩ ⟨trivial, ⟨⟨0, rfl⟩, trivial⟩, trivial⟩) (fun _ _ _ h => h) ?_
                  refine VB.va (i := 3) (listed' := LB 11 15) rfl (op_move rfl (ltn rfl)) rfl (by kernel_rfl) (by kernel_rfl) (by kernel_rfl) (by kernel_rfl) (by decide) (PartP.on ⟨trivial, trivial, trivial⟩ ⟨trivial, ⟨⟨0, rfl⟩, trivial⟩, trivial⟩) (fun _ _ _ h => h) ?_
                  refine VB.va (i := 4) (listed' := LB 11 31) rfl (op_lens Try.underlying9 rfl (ltn rfl)) rfl (by kernel_rfl) (by kernel_rfl) (by kernel_rfl) (by kernel_rfl) (by decide) (PartP.on ⟨trivial, trivial, trivial⟩ ⟨trivial, ⟨⟨0, rfl⟩, trivial⟩, trivial⟩) (fun _ _ _ h => h) ?_
                  refine VB.va (i := 5) (listed' := LB 11 63) rfl (op_min rfl rfl (ltn rfl)) rfl (by kernel_rfl) (by kernel_rfl) (by kernel_rfl) (by kernel_rfl) (by decide) (PartP.on ⟨trivial, trivial, trivial⟩ ⟨trivial, ⟨⟨0, rfl⟩, trivial⟩, trivial⟩) (fun _ _ _ h => h) ?_
                  refine VB.va (i := 6) (listed' := LB 11 127) rfl (op_sliceS 0 ((mn (x209.size : Int) 66).toNat) Try.underlying9 rfl ⟨rfl, ⟨_, _, rfl, c212, rfl⟩, by omega, by omega⟩ rfl (ltn rfl)) rfl (by kernel_rfl) (by kernel_rfl) (by kernel_rfl) (by kernel_rfl) (by decide) (PartP.on ⟨trivial, trivial, trivial⟩ ⟨trivial, ⟨⟨0, rfl⟩, trivial⟩, trivial⟩) (fun _ _ _ h => h) ?_
                  refine VB.oneG (i := 7) (listed' := LB 11 255) (by kernel_rfl) rfl (o_buildSlice (vals := [(0, .string (x209.extract 0 ((mn (x209.size : Int) 66).toNat)))]) (cells := #[.string (x209.extract 0 ((mn (x209.size : Int) 66).toNat))]) (es := List.map enc_str ([x209.extract 0 ((mn (x209.size : Int) 66).toNat)] : List ByteArray)) Try.underlying22 TI9 Z9 rfl (by decide) (by decide) (by kernel_rfl) (by kernel_rfl) rfl (flat_map enc_str_ok _) (ltn rfl)) rfl (by kernel_rfl) (fun _ => (PartP.on ⟨trivial, trivial, trivial⟩ ⟨trivial, ⟨⟨0, rfl⟩, trivial⟩, trivial⟩)) ?_
                  intro v215
                  refine VB.oneG (i := 8) (listed' := LB 11 511) (by kernel_rfl) rfl (o_append 1 appm Try.underlying22 EI9 rfl rfl rfl (.inr ⟨0, _, rfl⟩) (bndm c216) (ltn rfl)) rfl (by kernel_rfl) (fun _ => (PartP.off (by kernel_rfl) ⟨trivial, trivial, trivial⟩)) ?_
                  intro v217
                  refine VB.va (i := 9) (listed' := LB 11 1023) rfl (op_fieldAddr FI25_0 rfl (add_at _ _ _) (ltn rfl)) rfl (by kernel_rfl) (by kernel_rfl) (by kernel_rfl) (by kernel_rfl) (by decide) (PartP.off (by kernel_rfl) ⟨trivial, trivial, trivial⟩) (fun _ _ _ h => h) ?_
                  refine VB.one1 (i := 10) (listed' := LB 11 2047) (by kernel_rfl) rfl (o_store 0 1 rfl rfl rfl TI22 (.r 1 rfl) rfl (len rfl)) rfl (by kernel_rfl) (PartP.off (by kernel_rfl) ⟨trivial, trivial, trivial⟩) ?_
                  refine VB.done (by kernel_rfl) ?_
                  exact VN.meet2 v215 v217 [0, 1, 2] [0, 1] trivial ⟨rfl, ⟨rfl, rfl, rfl, rfl, rfl, rfl, rfl, rfl, rfl, rfl, rfl, rfl, rfl, rfl, rfl, rfl, rfl, rfl, trivial⟩, ⟨⟨0, rfl⟩, ⟨1, rfl⟩, ⟨2, rfl⟩, trivial⟩, rfl, by decide, rfl, by decide⟩
                intro v215 v217 _
                refine VN.block ?_
                refine VN.then ?_
                refine VC.region ?_
                refine VL.va (op_ari64 rfl rfl rfl (ltn rfl)) rfl ?_
                refine VL.va (op_move rfl (ltn rfl)) rfl ?_
                refine VL.done ?_
                refine VN.again [0, 1, 2] [1] (ihl1 (wrap64 (i78 + 1)) v217 (l81 ++ ([x209.extract 0 ((mn (x209.size : Int) 66).toNat)] : List ByteArray)) h) ⟨rfl, ⟨rfl, rfl, rfl, rfl, rfl, rfl, trivial⟩, ⟨⟨0, rfl⟩, ⟨1, rfl⟩, ⟨2, rfl⟩, trivial⟩, rfl, by decide, rfl, by decide⟩
              · rw [if_neg c216] at h; cases h
            · rw [if_neg c213] at h; cases h
          · rw [if_neg c212] at h; cases h
        · rw [if_neg c208] at h; cases h
      · rw [if_neg c207] at h
        obtain rfl : b97 = false := hb97.symm.trans (decide_eq_false c207)
        refine VC.cond_f rfl ?_
        refine VC.exit ?_
        refine VX.then ?_
        refine VX.then ?_
        refine VX.hit ?_
        refine VN.then ?_
        refine VC.seq ?_
        refine VC.seq ?_
        refine VC.region ?_
        refine VL.va (op_fieldAddr FI25_1 rfl (add_at _ _ _) (ltn rfl)) rfl ?_
        refine VL.va (op_load 2 1 rfl rfl TI23 rfl (by decide) (ltn rfl)) rfl ?_
        refine VL.va (op_fieldAddr FI25_1 rfl (add_at _ _ _) (ltn rfl)) rfl ?_
        refine VL.va (op_load 2 1 rfl rfl TI23 rfl (by decide) (ltn rfl)) rfl ?_
        refine VL.va (op_len (m := l0_1.length) 2 lenm Try.underlying23 rfl rfl (ltn rfl)) rfl ?_
        refine VL.va (op_min rfl rfl (ltn rfl)) rfl ?_
        by_cases c273 : 0 ≤ mn (l0_1.length : Int) 66
        · rw [if_pos c273] at h
          by_cases c274 : (mn (l0_1.length : Int) 66) ≤ (l0_1.length : Int)
          · rw [if_pos c274] at h
            refine VL.sG (o_slice (m := l0_1.length) 2 0 ((mn (l0_1.length : Int) 66).toNat) lenm cutm Try.underlying23 TI33 rfl rfl ⟨rfl, ⟨_, _, rfl, c273, rfl⟩, by omega, by omega⟩ (ltn rfl)) rfl ?_
            intro v276
            refine VL.va (op_len (m := ((l0_1.take ((mn (l0_1.length : Int) 66).toNat)).drop 0).length) 0 lenm Try.underlying23 rfl rfl (ltn rfl)) rfl ?_
            refine VL.va (op_move rfl (ltn rfl)) rfl ?_
            refine VL.done ?_
            refine VN.then ?_
            refine VC.block ?_
            refine VC.nilRow' 33 2 ?_
            refine VC.loop3 (fun (i292 : Int) (v294 : Value) (l295 : List S32) => ⟨59, [(2, .pointer (some ⟨g7, 0, none⟩)), (3, .pointer (some ⟨g8, 0, none⟩)), (37, v276), (38, .int .i64 (((l0_1.take ((mn (l0_1.length : Int) 66).toNat)).drop 0).length : Int)), (39, .int .i64 i292)], [.row v276 2 (((l0_1.take ((mn (l0_1.length : Int) 66).toNat)).drop 0).map enc32)], [(g8, 25, [v80, v294]), (g7, 25, [.slice none 0 0, .slice none 0 0])], [(v294, 33, 2, l295.map enc32), (v80, 9, 1, l81.map enc_str)]⟩) (fun (ml5 : Nat) (i292 : Int) (v294 : Value) (l295 : List S32) => tarrylaw03_few.l5 k l0_1 l81 ml5 i292 l295 = some (r1, r2)) k 0 (.slice none 0 0) ([] : List S32) [0, 1] [0, 1] h ⟨rfl, ⟨rfl, rfl, rfl, rfl, rfl, trivial⟩, ⟨⟨0, rfl⟩, trivial⟩, rfl, by decide, rfl, by decide⟩ (by intros; simp [tarrylaw03_few.l5]) ?_
            clear h
            intro ml5 ihl5 i292 v294 l295 h
            simp only [tarrylaw03_few.l5] at h
            refine VC.seq ?_
            refine VC.region ?_
            refine VL.letter (decide (i292 < (((l0_1.take ((mn (l0_1.length : Int) 66).toNat)).drop 0).length : Int))) fun b312 hb312 => ?_
            refine VL.va (op_cmp rfl rfl (congrArg some hb312) (ltn rfl)) rfl ?_
            refine VL.done ?_
            refine VN.then ?_
            refine VC.seq ?_
            by_cases c314 : i292 < (((l0_1.take ((mn (l0_1.length : Int) 66).toNat)).drop 0).length : Int)
            · rw [if_pos c314] at h
              obtain rfl : b312 = true := hb312.symm.trans (decide_eq_true c314)
              refine VC.cond_t rfl ?_
              refine VC.skip ?_
              refine VN.then ?_
              refine VC.seq ?_
              refine VC.block ?_
              refine VC.seq ?_
              refine VC.region ?_
              by_cases c315 : 0 ≤ i292
              · rw [if_pos c315] at h
                replace h := Option.bind_eq_some_iff.1 h
                obtain ⟨x316, hx316, h⟩ := h
                refine VL.open (m := ((l0_1.take ((mn (l0_1.length : Int) 66).toNat)).drop 0).length) 0 lenm rfl (pos_get hx316) ?_
                rintro ad317 n318 rfl
                refine VL.va (op_indexAddr Try.underlying23 TI33 rfl rfl c315 (lt_get c315 hx316) rfl (ltn rfl)) rfl ?_
                refine VL.va (op_load_row (sz := 2) (o := 0) 0 i292.toNat 2 rfl rfl (get_map hx316) TI33 rfl (fun h => absurd h (by decide)) (ltn rfl)) rfl ?_
                refine VL.sG (o_alloc Z33 ZL33 (ltn rfl)) rfl ?_
                intro g319
                refine VL.step1 (o_store 0 2 rfl rfl rfl TI33 (.agg (.of rfl)) rfl (len rfl)) rfl ?_
                refine VL.done ?_
                refine VN.then ?_
                refine VC.seq ?_
                refine VC.region ?_
                refine VL.va (op_fieldAddr FI33_1 rfl (add_at _ _ _) (ltn rfl)) rfl ?_
                refine VL.va (op_load 0 1 rfl rfl TI9 rfl (by decide) (ltn rfl)) rfl ?_
                refine VL.va (op_fieldAddr FI33_1 rfl (add_at _ _ _) (ltn rfl)) rfl ?_
                refine VL.va (op_load 0 1 rfl rfl TI9 rfl (by decide) (ltn rfl)) rfl ?_
                refine VL.va (op_lens Try.underlying9 rfl (ltn rfl)) rfl ?_
                refine VL.va (op_min rfl rfl (ltn rfl)) rfl ?_
                by_cases c320 : 0 ≤ mn (x316.f1.size : Int) 66
                · rw [if_pos c320] at h
                  by_cases c321 : (mn (x316.f1.size : Int) 66) ≤ (x316.f1.size : Int)
                  · rw [if_pos c321] at h
                    refine VL.va (op_sliceS 0 ((mn (x316.f1.size : Int) 66).toNat) Try.underlying9 rfl ⟨rfl, ⟨_, _, rfl, c320, rfl⟩, by omega, by omega⟩ rfl (ltn rfl)) rfl ?_
                    refine VL.va (op_fieldAddr FI33_1 rfl (add_at _ _ _) (ltn rfl)) rfl ?_
                    refine VL.step1 (o_store 0 1 rfl rfl rfl TI9 (.c rfl) rfl (len rfl)) rfl ?_
                    refine VL.done ?_
                    refine VN.then ?_
                    refine VC.region ?_
                    refine VL.va (op_fieldAddr FI25_1 rfl (add_at _ _ _) (ltn rfl)) rfl ?_
                    refine VL.va (op_load 1 1 rfl rfl TI23 rfl (by decide) (ltn rfl)) rfl ?_
                    refine VL.va (op_load 0 2 rfl rfl TI33 rfl (fun h => absurd h (by decide)) (ltn rfl)) rfl ?_
                    refine VL.sG (o_buildSlice (vals := [(0, .agg #[.int .i64 x316.f0, .string (x316.f1.extract 0 ((mn (x316.f1.size : Int) 66).toNat))])]) (cells := #[.int .i64 x316.f0, .string (x316.f1.extract 0 ((mn (x316.f1.size : Int) 66).toNat))]) (es := List.map enc32 ([(⟨x316.f0, x316.f1.extract 0 ((mn (x316.f1.size : Int) 66).toNat)⟩ : S32)] : List S32)) Try.underlying23 TI33 Z33 rfl (by decide) (by decide) (by kernel_rfl) (by kernel_rfl) rfl (flat_map enc32_ok _) (ltn rfl)) rfl ?_
                    intro v323
                    by_cases c324 : (l295.length + ([(⟨x316.f0, x316.f1.extract 0 ((mn (x316.f1.size : Int) 66).toNat)⟩ : S32)] : List S32).length) * 24 ≤ 140737488355328
                    · rw [if_pos c324] at h
                      refine VL.sG (o_append 1 appm Try.underlying23 EI33 rfl rfl rfl (.inr ⟨0, _, rfl⟩) (bndm c324) (ltn rfl)) rfl ?_
                      intro v325
                      refine VL.va (op_fieldAddr FI25_1 rfl (add_at _ _ _) (ltn rfl)) rfl ?_
                      refine VL.step1 (o_store 1 1 rfl rfl rfl TI23 (.r 1 rfl) rfl (len rfl)) rfl ?_
                      refine VL.done ?_
                      refine VN.block ?_
                      refine VN.then ?_
                      refine VC.region ?_
                      refine VL.va (op_ari64 rfl rfl rfl (ltn rfl)) rfl ?_
                      refine VL.va (op_move rfl (ltn rfl)) rfl ?_
                      refine VL.done ?_
                      refine VN.again [1, 2] [1, 2] (ihl5 (wrap64 (i292 + 1)) v325 (l295 ++ ([(⟨x316.f0, x316.f1.extract 0 ((mn (x316.f1.size : Int) 66).toNat)⟩ : S32)] : List S32)) h) ⟨rfl, ⟨rfl, rfl, rfl, rfl, rfl, trivial⟩, ⟨⟨0, rfl⟩, trivial⟩, rfl, by decide, rfl, by decide⟩
                    · rw [if_neg c324] at h; cases h
                  · rw [if_neg c321] at h; cases h
                · rw [if_neg c320] at h; cases h
              · rw [if_neg c315] at h; cases h
            · rw [if_neg c314] at h
              obtain rfl : b312 = false := hb312.symm.trans (decide_eq_false c314)
              refine VC.cond_f rfl ?_
              refine VC.exit ?_
              refine VX.then ?_
              refine VX.then ?_
              refine VX.hit ?_
              refine VN.then ?_
              refine VC.seq ?_
              refine VC.region ?_
              refine VL.va (op_load 0 2 rfl rfl TI25 rfl (fun h => absurd h (by decide)) (ltn rfl)) rfl ?_
              refine VL.step1 (o_store 1 2 rfl rfl rfl TI25 (.agg (.r 1 rfl (.r 0 rfl .nil))) rfl (len rfl)) rfl ?_
              refine VL.done ?_
              refine VN.then ?_
              refine VC.ret ?_
              simp only [Option.some.injEq, Prod.mk.injEq] at h
              obtain ⟨rfl, rfl⟩ := h
              exact VR.fn (rs := [.cell 2 25]) [] [(v80, 9, 1, l81.map enc_str), (v294, 33, 2, l295.map enc32)] [1, 0] rfl (.cell 1 rfl rfl TI25 (fun h => absurd h (by decide)) .nil) ⟨v80, v294, rfl, rfl, rfl⟩ trivial rfl (by decide)
          · rw [if_neg c274] at h; cases h
        · rw [if_neg c273] at h; cases h
    · rw [if_neg c61] at h; cases h
  · rw [if_neg c60] at h; cases h
set_option maxHeartbeats 4000000 in
set_option maxRecDepth 100000 in
theorem disk_Right_1.ok (a0 : ByteArray)  (r1 : Bool) (h : disk_Right_1.f a0 = some r1) :
    VCalls Try.prog 29 [.string a0] [] (fun v G own => v = .bool r1 ∧ G = [] ∧ own = []) := by
  refine VCalls.intro Try.func29 rfl (len rfl) fun E hC hW hD hU => ?_
  unfold disk_Right_1.f at h
  refine VC.seq ?_
  refine VC.region ?_
  refine VL.va (op_assign rfl (ltn rfl)) rfl ?_
  refine VL.done ?_
  refine VN.then ?_
  refine VC.seq ?_
  refine VC.region ?_
  refine VL.va (op_move rfl (ltn rfl)) rfl ?_
  refine VL.va (op_lens Try.underlying9 rfl (ltn rfl)) rfl ?_
  refine VL.letter (((a0.size : Int) != 64)) fun b357 hb357 => ?_
  refine VL.va (op_cmp rfl rfl (congrArg some hb357) (ltn rfl)) rfl ?_
  refine VL.va (op_assign rfl (ltn rfl)) rfl ?_
  refine VL.done ?_
  refine VN.then ?_
  refine VC.ret ?_
  obtain rfl := Option.some.inj h
  subst hb357
  exact VR.fn (rs := [.tmp 2]) [] [] [] rfl (.tmp rfl .nil) ⟨rfl, rfl, rfl⟩ trivial rfl (by decide)
set_option maxHeartbeats 4000000 in
set_option maxRecDepth 100000 in
theorem slices_IndexFunc_string_string.ok (k : Nat) (l0 : List ByteArray) (v0 : Value) (r1 : Int) (h : slices_IndexFunc_string_string.f k l0 = some r1) :
    VCalls Try.prog 41 [v0, (.func (.func 29) #[] #[])] [.row v0 1 (l0.map enc_str)] (fun v G own => v = .int .i64 r1 ∧ G = [] ∧ own = []) := by
  refine VCalls.intro Try.func41 rfl (len rfl) fun E hC hW hD hU => ?_
  unfold slices_IndexFunc_string_string.f at h
  refine VC.seq ?_
  refine VC.region ?_
  refine VL.va (op_assign rfl (ltn rfl)) rfl ?_
  refine VL.done ?_
  refine VN.then ?_
  refine VC.seq ?_
  refine VC.seq ?_
  refine VC.region ?_
  refine VL.va (op_move rfl (ltn rfl)) rfl ?_
  refine VL.va (op_len (m := l0.length) 0 lenm Try.underlying22 rfl rfl (ltn rfl)) rfl ?_
  refine VL.va (op_move rfl (ltn rfl)) rfl ?_
  refine VL.done ?_
  refine VN.then ?_
  refine VC.block ?_
  refine VC.loop1 (fun (i417 : Int) => ⟨19, [(0, v0), (1, (.func (.func 29) #[] #[])), (4, .int .i64 0), (7, .int .i64 (l0.length : Int)), (8, .int .i64 i417)], [.row v0 1 (l0.map enc_str)], [], []⟩) (fun (ml1 : Nat) (i417 : Int) => slices_IndexFunc_string_string.l1 k l0 ml1 i417 = some r1) k 0 [] [] h ⟨rfl, ⟨rfl, rfl, rfl, rfl, rfl, trivial⟩, ⟨⟨0, rfl⟩, trivial⟩, rfl, by decide, rfl, by decide⟩ (by intros; simp [slices_IndexFunc_string_string.l1]) ?_
  clear h
  intro ml1 ihl1 i417 h
  simp only [slices_IndexFunc_string_string.l1] at h
  refine VC.seq ?_
  refine VC.region ?_
  refine VL.letter (decide (i417 < (l0.length : Int))) fun b435 hb435 => ?_
  refine VL.va (op_cmp rfl rfl (congrArg some hb435) (ltn rfl)) rfl ?_
  refine VL.done ?_
  refine VN.then ?_
  refine VC.seq ?_
  by_cases c437 : i417 < (l0.length : Int)
  · rw [if_pos c437] at h
    obtain rfl : b435 = true := hb435.symm.trans (decide_eq_true c437)
    refine VC.cond_t rfl ?_
    refine VC.skip ?_
    refine VN.then ?_
    refine VC.seq ?_
    refine VC.block ?_
    refine VC.seq ?_
    refine VC.region ?_
    refine VL.va (op_move rfl (ltn rfl)) rfl ?_
    refine VL.va (op_assign rfl (ltn rfl)) rfl ?_
    refine VL.done ?_
    refine VN.then ?_
    refine VC.seq ?_
    refine VC.region ?_
    refine VL.va (op_move rfl (ltn rfl)) rfl ?_
    refine VL.va (op_move rfl (ltn rfl)) rfl ?_
    refine VL.va (op_move rfl (ltn rfl)) rfl ?_
    by_cases c445 : 0 ≤ i417
    · rw [if_pos c445] at h
      replace h := Option.bind_eq_some_iff.1 h
      obtain ⟨x446, hx446, h⟩ := h
      refine VL.open (m := l0.length) 0 lenm rfl (pos_get hx446) ?_
      rintro ad447 n448 rfl
      refine VL.va (op_indexAddr Try.underlying22 TI9 rfl rfl c445 (lt_get c445 hx446) rfl (ltn rfl)) rfl ?_
      refine VL.va (op_load_row (sz := 1) (o := 0) 0 i417.toNat 1 rfl rfl (get_map hx446) TI9 rfl (by decide) (ltn rfl)) rfl ?_
      replace h := Option.bind_eq_some_iff.1 h
      obtain ⟨t449, hA450, h⟩ := h
      refine VL.sC (o_call0 FO29 (disk_Right_1.ok x446 t449 hA450) rfl rfl (ltn rfl) (All_of .nil)) rfl ?_
      rintro _ _ _ ⟨rfl, rfl, rfl⟩
      refine VL.done ?_
      refine VN.then ?_
      by_cases c451 : t449 = true
      · rw [if_pos c451] at h
        obtain rfl := c451
        refine VC.cond_t rfl ?_
        refine VC.seq ?_
        refine VC.region ?_
        refine VL.va (op_move rfl (ltn rfl)) rfl ?_
        refine VL.va (op_assign rfl (ltn rfl)) rfl ?_
        refine VL.done ?_
        refine VN.then ?_
        refine VC.ret ?_
        refine VR.block ?_
        refine VR.then ?_
        refine VR.then ?_
        refine VR.block ?_
        refine VR.then ?_
        obtain rfl := Option.some.inj h
        exact VR.fn (rs := [.tmp 4]) [] [] [] rfl (.tmp rfl .nil) ⟨rfl, rfl, rfl⟩ trivial rfl (by decide)
      · rw [if_neg c451] at h
        obtain rfl := Bool.eq_false_iff.2 c451
        refine VC.cond_f rfl ?_
        refine VC.skip ?_
        refine VN.block ?_
        refine VN.then ?_
        refine VC.region ?_
        refine VL.va (op_ari64 rfl rfl rfl (ltn rfl)) rfl ?_
        refine VL.va (op_move rfl (ltn rfl)) rfl ?_
        refine VL.done ?_
        refine VN.again [] [] (ihl1 (wrap64 (i417 + 1)) h) ⟨rfl, ⟨rfl, rfl, rfl, rfl, rfl, trivial⟩, ⟨⟨0, rfl⟩, trivial⟩, rfl, by decide, rfl, by decide⟩
    · rw [if_neg c445] at h; cases h
  · rw [if_neg c437] at h
    obtain rfl : b435 = false := hb435.symm.trans (decide_eq_false c437)
    refine VC.cond_f rfl ?_
    refine VC.exit ?_
    refine VX.then ?_
    refine VX.then ?_
    refine VX.hit ?_
    refine VN.then ?_
    refine VC.seq ?_
    refine VC.region ?_
    refine VL.va (op_assign rfl (ltn rfl)) rfl ?_
    refine VL.done ?_
    refine VN.then ?_
    refine VC.ret ?_
    obtain rfl := Option.some.inj h
    exact VR.fn (rs := [.tmp 4]) [] [] [] rfl (.tmp rfl .nil) ⟨rfl, rfl, rfl⟩ trivial rfl (by decide)
set_option maxHeartbeats 4000000 in
set_option maxRecDepth 100000 in
theorem slices_ContainsFunc_string_string.ok (k : Nat) (l0 : List ByteArray) (v0 : Value) (r1 : Bool) (h : slices_ContainsFunc_string_string.f k l0 = some r1) :
    VCalls Try.prog 31 [v0, (.func (.func 29) #[] #[])] [.row v0 1 (l0.map enc_str)] (fun v G own => v = .bool r1 ∧ G = [] ∧ own = []) := by
  refine VCalls.intro Try.func31 rfl (len rfl) fun E hC hW hD hU => ?_
  unfold slices_ContainsFunc_string_string.f at h
  refine VC.seq ?_
  refine VC.region ?_
  refine VL.va (op_assign rfl (ltn rfl)) rfl ?_
  refine VL.done ?_
  refine VN.then ?_
  refine VC.seq ?_
  refine VC.region ?_
  refine VL.va (op_move rfl (ltn rfl)) rfl ?_
  refine VL.va (op_move rfl (ltn rfl)) rfl ?_
  replace h := Option.bind_eq_some_iff.1 h
  obtain ⟨t452, hA453, h⟩ := h
  refine VL.sC (o_call0 FO41 (slices_IndexFunc_string_string.ok k l0 v0 t452 hA453) rfl rfl (ltn rfl) (All_of (.cons (List.mem_of_getElem? (i := 0) rfl) .nil))) rfl ?_
  rintro _ _ _ ⟨rfl, rfl, rfl⟩
  refine VL.letter (decide (t452 ≥ 0)) fun b454 hb454 => ?_
  refine VL.va (op_cmp rfl rfl (congrArg some hb454) (ltn rfl)) rfl ?_
  refine VL.va (op_assign rfl (ltn rfl)) rfl ?_
  refine VL.done ?_
  refine VN.then ?_
  refine VC.ret ?_
  obtain rfl := Option.some.inj h
  subst hb454
  exact VR.fn (rs := [.tmp 4]) [] [] [] rfl (.tmp rfl .nil) ⟨rfl, rfl, rfl⟩ trivial rfl (by decide)
set_option maxHeartbeats 4000000 in
set_option maxRecDepth 100000 in
theorem disk_Right_2.ok (a0_0 : Int) (a0_1 : ByteArray) (a1_0 : Int) (p1 : Nat) (p2 : Nat) (r1 : Bool) (h : disk_Right_2.f a0_0 a0_1 a1_0 = some r1) :
    VCalls Try.prog 30 [.agg #[.int .i64 a0_0, .string a0_1], .pointer (some ⟨p1, 0, none⟩), .pointer (some ⟨p2, 0, none⟩)] [.at_ ⟨p1, 0, none⟩ [.int .i64 a1_0], .at_ ⟨p2, 0, none⟩ [(.func (.func 29) #[] #[])]] (fun v G own => v = .bool r1 ∧ G = [] ∧ own = []) := by
  refine VCalls.intro Try.func30 rfl (len rfl) fun E hC hW hD hU => ?_
  unfold disk_Right_2.f at h
  refine VC.seq ?_
  refine VC.region ?_
  refine VL.sG (o_box rfl (.agg (.of rfl)) (ltn rfl)) rfl ?_
  intro g466
  refine VL.va (op_assign rfl (ltn rfl)) rfl ?_
  refine VL.done ?_
  refine VN.then ?_
  refine VC.seq ?_
  refine VC.region ?_
  refine VL.va (op_fieldAddr FI33_0 rfl (add_at _ _ _) (ltn rfl)) rfl ?_
  refine VL.va (op_load 0 1 rfl rfl TI3 rfl (by decide) (ltn rfl)) rfl ?_
  refine VL.letter (decide (a0_0 < 0)) fun b473 hb473 => ?_
  refine VL.va (op_cmp rfl rfl (congrArg some hb473) (ltn rfl)) rfl ?_
  refine VL.va (op_move rfl (ltn rfl)) rfl ?_
  by_cases c474 : a0_0 < 0
  · rw [if_pos c474] at h
    obtain rfl : b473 = true := hb473.symm.trans (decide_eq_true c474)
    refine VL.un rfl rfl (ltn rfl) ?_
    refine VL.un rfl rfl (ltn rfl) ?_
    refine VL.un rfl rfl (ltn rfl) ?_
    refine VL.un rfl rfl (ltn rfl) ?_
    refine VL.va (op_pick rfl rfl (ltn rfl)) rfl ?_
    refine VL.va (op_move rfl (ltn rfl)) rfl ?_
    refine VL.un rfl rfl (ltn rfl) ?_
    refine VL.un rfl rfl (ltn rfl) ?_
    refine VL.un rfl rfl (ltn rfl) ?_
    refine VL.un rfl rfl (ltn rfl) ?_
    refine VL.va (op_pick rfl rfl (ltn rfl)) rfl ?_
    refine VL.va (op_assign rfl (ltn rfl)) rfl ?_
    refine VL.done ?_
    refine VN.then ?_
    refine VC.ret ?_
    obtain rfl := Option.some.inj h
    exact VR.fn (rs := [.tmp 4]) [] [] [] rfl (.tmp rfl .nil) ⟨rfl, rfl, rfl⟩ trivial rfl (by decide)
  · rw [if_neg c474] at h
    obtain rfl : b473 = false := hb473.symm.trans (decide_eq_false c474)
    refine VL.va (op_fieldAddr FI33_0 rfl (add_at _ _ _) (ltn rfl)) rfl ?_
    refine VL.va (op_load 0 1 rfl rfl TI3 rfl (by decide) (ltn rfl)) rfl ?_
    refine VL.va (op_load_at (ad := ⟨p1, 0, none⟩) 0 0 1 (by first | rfl | exact congrArg (fun a => some (Value.pointer (some a))) (add_at _ 0 _).symm) rfl TI3 rfl (by decide) (ltn rfl)) rfl ?_
    refine VL.letter (decide (a0_0 ≥ a1_0)) fun b475 hb475 => ?_
    refine VL.va (op_cmp rfl rfl (congrArg some hb475) (ltn rfl)) rfl ?_
    refine VL.va (op_pick rfl rfl (ltn rfl)) rfl ?_
    refine VL.va (op_move rfl (ltn rfl)) rfl ?_
    by_cases c476 : a0_0 ≥ a1_0
    · rw [if_pos c476] at h
      obtain rfl : b475 = true := hb475.symm.trans (decide_eq_true c476)
      refine VL.un rfl rfl (ltn rfl) ?_
      refine VL.un rfl rfl (ltn rfl) ?_
      refine VL.un rfl rfl (ltn rfl) ?_
      refine VL.un rfl rfl (ltn rfl) ?_
      refine VL.va (op_pick rfl rfl (ltn rfl)) rfl ?_
      refine VL.va (op_assign rfl (ltn rfl)) rfl ?_
      refine VL.done ?_
      refine VN.then ?_
      refine VC.ret ?_
      obtain rfl := Option.some.inj h
      exact VR.fn (rs := [.tmp 4]) [] [] [] rfl (.tmp rfl .nil) ⟨rfl, rfl, rfl⟩ trivial rfl (by decide)
    · rw [if_neg c476] at h
      obtain rfl : b475 = false := hb475.symm.trans (decide_eq_false c476)
      refine VL.va (op_load_at (ad := ⟨p2, 0, none⟩) 1 0 1 (by first | rfl | exact congrArg (fun a => some (Value.pointer (some a))) (add_at _ 0 _).symm) rfl TI68 rfl (by decide) (ltn rfl)) rfl ?_
      refine VL.va (op_fieldAddr FI33_1 rfl (add_at _ _ _) (ltn rfl)) rfl ?_
      refine VL.va (op_load 0 1 rfl rfl TI9 rfl (by decide) (ltn rfl)) rfl ?_
      replace h := Option.bind_eq_some_iff.1 h
      obtain ⟨t477, hA478, h⟩ := h
      refine VL.sC (o_call0 FO29 (disk_Right_1.ok a0_1 t477 hA478) rfl rfl (ltn rfl) (All_of .nil)) rfl ?_
      rintro _ _ _ ⟨rfl, rfl, rfl⟩
      refine VL.va (op_pick rfl rfl (ltn rfl)) rfl ?_
      refine VL.va (op_assign rfl (ltn rfl)) rfl ?_
      refine VL.done ?_
      refine VN.then ?_
      refine VC.ret ?_
      obtain rfl := Option.some.inj h
      exact VR.fn (rs := [.tmp 4]) [] [] [] rfl (.tmp rfl .nil) ⟨rfl, rfl, rfl⟩ trivial rfl (by decide)
set_option maxHeartbeats 4000000 in
set_option maxRecDepth 100000 in
theorem slices_IndexFunc_api_Write_api_Write.ok (k : Nat) (l0 : List S32) (a1_0_0 : Int) (v0 : Value) (p1_0 : Nat) (p1_1 : Nat) (r1 : Int) (h : slices_IndexFunc_api_Write_api_Write.f k l0 a1_0_0 = some r1) :
    VCalls Try.prog 42 [v0, (.func (.func 30) #[] #[.pointer (some ⟨p1_0, 0, none⟩), .pointer (some ⟨p1_1, 0, none⟩)])] [.row v0 2 (l0.map enc32), .at_ ⟨p1_0, 0, none⟩ [.int .i64 a1_0_0], .at_ ⟨p1_1, 0, none⟩ [(.func (.func 29) #[] #[])]] (fun v G own => v = .int .i64 r1 ∧ G = [] ∧ own = []) := by
  refine VCalls.intro Try.func42 rfl (len rfl) fun E hC hW hD hU => ?_
  unfold slices_IndexFunc_api_Write_api_Write.f at h
  refine VC.seq ?_
  refine VC.region ?_
  refine VL.va (op_assign rfl (ltn rfl)) rfl ?_
  refine VL.done ?_
  refine VN.then ?_
  refine VC.seq ?_
  refine VC.seq ?_
  refine VC.region ?_
  refine VL.va (op_move rfl (ltn rfl)) rfl ?_
  refine VL.va (op_len (m := l0.length) 0 lenm Try.underlying23 rfl rfl (ltn rfl)) rfl ?_
  refine VL.va (op_move rfl (ltn rfl)) rfl ?_
  refine VL.done ?_
  refine VN.then ?_
  refine VC.block ?_
  refine VC.loop1 (fun (i538 : Int) => ⟨19, [(0, v0), (1, (.func (.func 30) #[] #[.pointer (some ⟨p1_0, 0, none⟩), .pointer (some ⟨p1_1, 0, none⟩)])), (4, .int .i64 0), (7, .int .i64 (l0.length : Int)), (8, .int .i64 i538)], [.at_ ⟨p1_0, 0, none⟩ [.int .i64 a1_0_0], .at_ ⟨p1_1, 0, none⟩ [(.func (.func 29) #[] #[])], .row v0 2 (l0.map enc32)], [], []⟩) (fun (ml1 : Nat) (i538 : Int) => slices_IndexFunc_api_Write_api_Write.l1 k a1_0_0 l0 ml1 i538 = some r1) k 0 [] [] h ⟨rfl, ⟨rfl, rfl, rfl, rfl, rfl, trivial⟩, ⟨⟨1, rfl⟩, ⟨2, rfl⟩, ⟨0, rfl⟩, trivial⟩, rfl, by decide, rfl, by decide⟩ (by intros; simp [slices_IndexFunc_api_Write_api_Write.l1]) ?_
  clear h
  intro ml1 ihl1 i538 h
  simp only [slices_IndexFunc_api_Write_api_Write.l1] at h
  refine VC.seq ?_
  refine VC.region ?_
  refine VL.letter (decide (i538 < (l0.length : Int))) fun b556 hb556 => ?_
  refine VL.va (op_cmp rfl rfl (congrArg some hb556) (ltn rfl)) rfl ?_
  refine VL.done ?_
  refine VN.then ?_
  refine VC.seq ?_
  by_cases c558 : i538 < (l0.length : Int)
  · rw [if_pos c558] at h
    obtain rfl : b556 = true := hb556.symm.trans (decide_eq_true c558)
    refine VC.cond_t rfl ?_
    refine VC.skip ?_
    refine VN.then ?_
    refine VC.seq ?_
    refine VC.block ?_
    refine VC.seq ?_
    refine VC.region ?_
    refine VL.va (op_move rfl (ltn rfl)) rfl ?_
    refine VL.va (op_assign rfl (ltn rfl)) rfl ?_
    refine VL.done ?_
    refine VN.then ?_
    refine VC.seq ?_
    refine VC.region ?_
    refine VL.va (op_move rfl (ltn rfl)) rfl ?_
    refine VL.va (op_move rfl (ltn rfl)) rfl ?_
    refine VL.va (op_move rfl (ltn rfl)) rfl ?_
    by_cases c566 : 0 ≤ i538
    · rw [if_pos c566] at h
      replace h := Option.bind_eq_some_iff.1 h
      obtain ⟨x567, hx567, h⟩ := h
      refine VL.open (m := l0.length) 2 lenm rfl (pos_get hx567) ?_
      rintro ad568 n569 rfl
      refine VL.va (op_indexAddr Try.underlying23 TI33 rfl rfl c566 (lt_get c566 hx567) rfl (ltn rfl)) rfl ?_
      refine VL.va (op_load_row (sz := 2) (o := 0) 2 i538.toNat 2 rfl rfl (get_map hx567) TI33 rfl (fun h => absurd h (by decide)) (ltn rfl)) rfl ?_
      replace h := Option.bind_eq_some_iff.1 h
      obtain ⟨t570, hA571, h⟩ := h
      refine VL.sC (o_call (vals := [.agg #[.int .i64 x567.f0, .string x567.f1]]) (caps := [.pointer (some ⟨p1_0, 0, none⟩), .pointer (some ⟨p1_1, 0, none⟩)]) FO30 (disk_Right_2.ok x567.f0 x567.f1 a1_0_0 p1_0 p1_1 t570 hA571) rfl rfl (ltn rfl) (All_of (.cons (List.mem_of_getElem? (i := 0) rfl) (.cons (List.mem_of_getElem? (i := 1) rfl) .nil)))) rfl ?_
      rintro _ _ _ ⟨rfl, rfl, rfl⟩
      refine VL.done ?_
      refine VN.then ?_
      by_cases c572 : t570 = true
      · rw [if_pos c572] at h
        obtain rfl := c572
        refine VC.cond_t rfl ?_
        refine VC.seq ?_
        refine VC.region ?_
        refine VL.va (op_move rfl (ltn rfl)) rfl ?_
        refine VL.va (op_assign rfl (ltn rfl)) rfl ?_
        refine VL.done ?_
        refine VN.then ?_
        refine VC.ret ?_
        refine VR.block ?_
        refine VR.then ?_
        refine VR.then ?_
        refine VR.block ?_
        refine VR.then ?_
        obtain rfl := Option.some.inj h
        exact VR.fn (rs := [.tmp 4]) [] [] [] rfl (.tmp rfl .nil) ⟨rfl, rfl, rfl⟩ trivial rfl (by decide)
      · rw [if_neg c572] at h
        obtain rfl := Bool.eq_false_iff.2 c572
        refine VC.cond_f rfl ?_
        refine VC.skip ?_
        refine VN.block ?_
        refine VN.then ?_
        refine VC.region ?_
        refine VL.va (op_ari64 rfl rfl rfl (ltn rfl)) rfl ?_
        refine VL.va (op_move rfl (ltn rfl)) rfl ?_
        refine VL.done ?_
        refine VN.again [] [] (ihl1 (wrap64 (i538 + 1)) h) ⟨rfl, ⟨rfl, rfl, rfl, rfl, rfl, trivial⟩, ⟨⟨0, rfl⟩, ⟨1, rfl⟩, ⟨2, rfl⟩, trivial⟩, rfl, by decide, rfl, by decide⟩
    · rw [if_neg c566] at h; cases h
  · rw [if_neg c558] at h
    obtain rfl : b556 = false := hb556.symm.trans (decide_eq_false c558)
    refine VC.cond_f rfl ?_
    refine VC.exit ?_
    refine VX.then ?_
    refine VX.then ?_
    refine VX.hit ?_
    refine VN.then ?_
    refine VC.seq ?_
    refine VC.region ?_
    refine VL.va (op_assign rfl (ltn rfl)) rfl ?_
    refine VL.done ?_
    refine VN.then ?_
    refine VC.ret ?_
    obtain rfl := Option.some.inj h
    exact VR.fn (rs := [.tmp 4]) [] [] [] rfl (.tmp rfl .nil) ⟨rfl, rfl, rfl⟩ trivial rfl (by decide)
set_option maxHeartbeats 4000000 in
set_option maxRecDepth 100000 in
theorem slices_ContainsFunc_api_Write_api_Write.ok (k : Nat) (l0 : List S32) (a1_0_0 : Int) (v0 : Value) (p1_0 : Nat) (p1_1 : Nat) (r1 : Bool) (h : slices_ContainsFunc_api_Write_api_Write.f k l0 a1_0_0 = some r1) :
    VCalls Try.prog 32 [v0, (.func (.func 30) #[] #[.pointer (some ⟨p1_0, 0, none⟩), .pointer (some ⟨p1_1, 0, none⟩)])] [.row v0 2 (l0.map enc32), .at_ ⟨p1_0, 0, none⟩ [.int .i64 a1_0_0], .at_ ⟨p1_1, 0, none⟩ [(.func (.func 29) #[] #[])]] (fun v G own => v = .bool r1 ∧ G = [] ∧ own = []) := by
  refine VCalls.intro Try.func32 rfl (len rfl) fun E hC hW hD hU => ?_
  unfold slices_ContainsFunc_api_Write_api_Write.f at h
  refine VC.seq ?_
  refine VC.region ?_
  refine VL.va (op_assign rfl (ltn rfl)) rfl ?_
  refine VL.done ?_
  refine VN.then ?_
  refine VC.seq ?_
  refine VC.region ?_
  refine VL.va (op_move rfl (ltn rfl)) rfl ?_
  refine VL.va (op_move rfl (ltn rfl)) rfl ?_
  replace h := Option.bind_eq_some_iff.1 h
  obtain ⟨t573, hA574, h⟩ := h
  refine VL.sC (o_call0 FO42 (slices_IndexFunc_api_Write_api_Write.ok k l0 a1_0_0 v0 p1_0 p1_1 t573 hA574) rfl rfl (ltn rfl) (All_of (.cons (List.mem_of_getElem? (i := 0) rfl) (.cons (List.mem_of_getElem? (i := 1) rfl) (.cons (List.mem_of_getElem? (i := 2) rfl) .nil))))) rfl ?_
  rintro _ _ _ ⟨rfl, rfl, rfl⟩
  refine VL.letter (decide (t573 ≥ 0)) fun b575 hb575 => ?_
  refine VL.va (op_cmp rfl rfl (congrArg some hb575) (ltn rfl)) rfl ?_
  refine VL.va (op_assign rfl (ltn rfl)) rfl ?_
  refine VL.done ?_
  refine VN.then ?_
  refine VC.ret ?_
  obtain rfl := Option.some.inj h
  subst hb575
  exact VR.fn (rs := [.tmp 4]) [] [] [] rfl (.tmp rfl .nil) ⟨rfl, rfl, rfl⟩ trivial rfl (by decide)
set_option maxHeartbeats 4000000 in
set_option maxRecDepth 100000 in
theorem disk_Right.ok (k : Nat) (l0_0 : List ByteArray) (l0_1 : List S32) (v0_0 : Value) (v0_1 : Value) (r1 : Bool) (h : disk_Right.f k l0_0 l0_1 = some r1) :
    VCalls Try.prog 16 [.agg #[v0_0, v0_1]] [.row v0_0 1 (l0_0.map enc_str), .row v0_1 2 (l0_1.map enc32)] (fun v G own => v = .bool r1 ∧ G = [] ∧ own = []) := by
  refine VCalls.intro Try.func16 rfl (len rfl) fun E hC hW hD hU => ?_
  unfold disk_Right.f at h
  refine VC.seq ?_
  refine VC.region ?_
  refine VL.sG (o_box rfl (.agg (.f 0 rfl (.f 1 rfl .nil))) (ltn rfl)) rfl ?_
  intro g340
  refine VL.va (op_assign rfl (ltn rfl)) rfl ?_
  refine VL.done ?_
  refine VN.then ?_
  refine VC.seq ?_
  refine VC.region ?_
  refine VL.va (op_fieldAddr FI25_0 rfl (add_at _ _ _) (ltn rfl)) rfl ?_
  refine VL.va (op_load 0 1 rfl rfl TI22 rfl (by decide) (ltn rfl)) rfl ?_
  refine VL.va (op_len (m := l0_0.length) 0 lenm Try.underlying22 rfl rfl (ltn rfl)) rfl ?_
  refine VL.sG (o_alloc Z3 ZL3 (ltn rfl)) rfl ?_
  intro g341
  refine VL.step1 (o_store 0 1 rfl rfl rfl TI3 (.c rfl) rfl (len rfl)) rfl ?_
  refine VL.done ?_
  refine VN.then ?_
  refine VC.seq ?_
  refine VC.region ?_
  refine VL.sG (o_alloc Z68 ZL68 (ltn rfl)) rfl ?_
  intro g342
  refine VL.step1 (o_store 0 1 rfl rfl rfl TI68 (.c rfl) rfl (len rfl)) rfl ?_
  refine VL.done ?_
  refine VN.then ?_
  refine VC.seq ?_
  refine VC.region ?_
  refine VL.va (op_makeFunc (vals := [.pointer (some ⟨g341, 0, none⟩), .pointer (some ⟨g342, 0, none⟩)]) rfl (ltn rfl)) rfl ?_
  refine VL.va (op_assign rfl (ltn rfl)) rfl ?_
  refine VL.done ?_
  refine VN.then ?_
  refine VC.seq ?_
  refine VC.region ?_
  refine VL.va (op_load 1 1 rfl rfl TI3 rfl (by decide) (ltn rfl)) rfl ?_
  refine VL.letter (decide ((l0_0.length : Int) ≥ 1)) fun b579 hb579 => ?_
  refine VL.va (op_cmp rfl rfl (congrArg some hb579) (ltn rfl)) rfl ?_
  refine VL.va (op_move rfl (ltn rfl)) rfl ?_
  by_cases c580 : (l0_0.length : Int) ≥ 1
  · rw [if_pos c580] at h
    obtain rfl : b579 = true := hb579.symm.trans (decide_eq_true c580)
    refine VL.va (op_load 1 1 rfl rfl TI3 rfl (by decide) (ltn rfl)) rfl ?_
    refine VL.letter (decide ((l0_0.length : Int) ≤ 512)) fun b581 hb581 => ?_
    refine VL.va (op_cmp rfl rfl (congrArg some hb581) (ltn rfl)) rfl ?_
    refine VL.va (op_pick rfl rfl (ltn rfl)) rfl ?_
    refine VL.va (op_move rfl (ltn rfl)) rfl ?_
    by_cases c582 : (l0_0.length : Int) ≤ 512
    · rw [if_pos c582] at h
      obtain rfl : b581 = true := hb581.symm.trans (decide_eq_true c582)
      refine VL.va (op_fieldAddr FI25_1 rfl (add_at _ _ _) (ltn rfl)) rfl ?_
      refine VL.va (op_load 2 1 rfl rfl TI23 rfl (by decide) (ltn rfl)) rfl ?_
      refine VL.va (op_len (m := l0_1.length) 1 lenm Try.underlying23 rfl rfl (ltn rfl)) rfl ?_
      refine VL.letter (decide ((l0_1.length : Int) ≤ 64)) fun b583 hb583 => ?_
      refine VL.va (op_cmp rfl rfl (congrArg some hb583) (ltn rfl)) rfl ?_
      refine VL.va (op_pick rfl rfl (ltn rfl)) rfl ?_
      refine VL.va (op_move rfl (ltn rfl)) rfl ?_
      by_cases c584 : (l0_1.length : Int) ≤ 64
      · rw [if_pos c584] at h
        obtain rfl : b583 = true := hb583.symm.trans (decide_eq_true c584)
        refine VL.va (op_fieldAddr FI25_0 rfl (add_at _ _ _) (ltn rfl)) rfl ?_
        refine VL.va (op_load 2 1 rfl rfl TI22 rfl (by decide) (ltn rfl)) rfl ?_
        refine VL.va (op_load 0 1 rfl rfl TI68 rfl (by decide) (ltn rfl)) rfl ?_
        replace h := Option.bind_eq_some_iff.1 h
        obtain ⟨t585, hA586, h⟩ := h
        refine VL.sC (o_call0 FO31 (slices_ContainsFunc_string_string.ok k l0_0 v0_0 t585 hA586) rfl rfl (ltn rfl) (All_of (.cons (List.mem_of_getElem? (i := 0) rfl) .nil))) rfl ?_
        rintro _ _ _ ⟨rfl, rfl, rfl⟩
        by_cases c587 : t585 = true
        · rw [if_pos c587] at h
          obtain rfl := c587
          refine VL.va (op_not rfl rfl (ltn rfl)) rfl ?_
          refine VL.va (op_pick rfl rfl (ltn rfl)) rfl ?_
          refine VL.va (op_move rfl (ltn rfl)) rfl ?_
          refine VL.un rfl rfl (ltn rfl) ?_
          refine VL.un rfl rfl (ltn rfl) ?_
          refine VL.un rfl rfl (ltn rfl) ?_
          refine VL.un rfl rfl (ltn rfl) ?_
          refine VL.un rfl rfl (ltn rfl) ?_
          refine VL.va (op_pick rfl rfl (ltn rfl)) rfl ?_
          refine VL.va (op_assign rfl (ltn rfl)) rfl ?_
          refine VL.done ?_
          refine VN.then ?_
          refine VC.ret ?_
          obtain rfl := Option.some.inj h
          exact VR.fn (rs := [.tmp 2]) [] [] [] rfl (.tmp rfl .nil) ⟨rfl, rfl, rfl⟩ trivial rfl (by decide)
        · rw [if_neg c587] at h
          obtain rfl := Bool.eq_false_iff.2 c587
          refine VL.va (op_not rfl rfl (ltn rfl)) rfl ?_
          refine VL.va (op_pick rfl rfl (ltn rfl)) rfl ?_
          refine VL.va (op_move rfl (ltn rfl)) rfl ?_
          refine VL.va (op_fieldAddr FI25_1 rfl (add_at _ _ _) (ltn rfl)) rfl ?_
          refine VL.va (op_load 2 1 rfl rfl TI23 rfl (by decide) (ltn rfl)) rfl ?_
          refine VL.va (op_move rfl (ltn rfl)) rfl ?_
          refine VL.freeze' 1 rfl ?_
          refine VL.freeze' 0 rfl ?_
          replace h := Option.bind_eq_some_iff.1 h
          obtain ⟨t588, hA589, h⟩ := h
          refine VL.sC (o_call0 FO32 (slices_ContainsFunc_api_Write_api_Write.ok k l0_1 (l0_0.length : Int) v0_1 g341 g342 t588 hA589) rfl rfl (ltn rfl) (All_of (.cons (List.mem_of_getElem? (i := 3) rfl) (.cons (List.mem_of_getElem? (i := 1) rfl) (.cons (List.mem_of_getElem? (i := 0) rfl) .nil))))) rfl ?_
          rintro _ _ _ ⟨rfl, rfl, rfl⟩
          by_cases c590 : t588 = true
          · rw [if_pos c590] at h
            obtain rfl := c590
            refine VL.va (op_not rfl rfl (ltn rfl)) rfl ?_
            refine VL.va (op_pick rfl rfl (ltn rfl)) rfl ?_
            refine VL.va (op_assign rfl (ltn rfl)) rfl ?_
            refine VL.done ?_
            refine VN.then ?_
            refine VC.ret ?_
            obtain rfl := Option.some.inj h
            exact VR.fn (rs := [.tmp 2]) [] [] [] rfl (.tmp rfl .nil) ⟨rfl, rfl, rfl⟩ trivial rfl (by decide)
          · rw [if_neg c590] at h
            obtain rfl := Bool.eq_false_iff.2 c590
            refine VL.va (op_not rfl rfl (ltn rfl)) rfl ?_
            refine VL.va (op_pick rfl rfl (ltn rfl)) rfl ?_
            refine VL.va (op_assign rfl (ltn rfl)) rfl ?_
            refine VL.done ?_
            refine VN.then ?_
            refine VC.ret ?_
            obtain rfl := Option.some.inj h
            exact VR.fn (rs := [.tmp 2]) [] [] [] rfl (.tmp rfl .nil) ⟨rfl, rfl, rfl⟩ trivial rfl (by decide)
      · rw [if_neg c584] at h
        obtain rfl : b583 = false := hb583.symm.trans (decide_eq_false c584)
        refine VL.un rfl rfl (ltn rfl) ?_
        refine VL.un rfl rfl (ltn rfl) ?_
        refine VL.un rfl rfl (ltn rfl) ?_
        refine VL.un rfl rfl (ltn rfl) ?_
        refine VL.un rfl rfl (ltn rfl) ?_
        refine VL.va (op_pick rfl rfl (ltn rfl)) rfl ?_
        refine VL.va (op_move rfl (ltn rfl)) rfl ?_
        refine VL.un rfl rfl (ltn rfl) ?_
        refine VL.un rfl rfl (ltn rfl) ?_
        refine VL.un rfl rfl (ltn rfl) ?_
        refine VL.un rfl rfl (ltn rfl) ?_
        refine VL.un rfl rfl (ltn rfl) ?_
        refine VL.va (op_pick rfl rfl (ltn rfl)) rfl ?_
        refine VL.va (op_assign rfl (ltn rfl)) rfl ?_
        refine VL.done ?_
        refine VN.then ?_
        refine VC.ret ?_
        obtain rfl := Option.some.inj h
        exact VR.fn (rs := [.tmp 2]) [] [] [] rfl (.tmp rfl .nil) ⟨rfl, rfl, rfl⟩ trivial rfl (by decide)
    · rw [if_neg c582] at h
      obtain rfl : b581 = false := hb581.symm.trans (decide_eq_false c582)
      refine VL.un rfl rfl (ltn rfl) ?_
      refine VL.un rfl rfl (ltn rfl) ?_
      refine VL.un rfl rfl (ltn rfl) ?_
      refine VL.un rfl rfl (ltn rfl) ?_
      refine VL.va (op_pick rfl rfl (ltn rfl)) rfl ?_
      refine VL.va (op_move rfl (ltn rfl)) rfl ?_
      refine VL.un rfl rfl (ltn rfl) ?_
      refine VL.un rfl rfl (ltn rfl) ?_
      refine VL.un rfl rfl (ltn rfl) ?_
      refine VL.un rfl rfl (ltn rfl) ?_
      refine VL.un rfl rfl (ltn rfl) ?_
      refine VL.va (op_pick rfl rfl (ltn rfl)) rfl ?_
      refine VL.va (op_move rfl (ltn rfl)) rfl ?_
      refine VL.un rfl rfl (ltn rfl) ?_
      refine VL.un rfl rfl (ltn rfl) ?_
      refine VL.un rfl rfl (ltn rfl) ?_
      refine VL.un rfl rfl (ltn rfl) ?_
      refine VL.un rfl rfl (ltn rfl) ?_
      refine VL.va (op_pick rfl rfl (ltn rfl)) rfl ?_
      refine VL.va (op_assign rfl (ltn rfl)) rfl ?_
      refine VL.done ?_
      refine VN.then ?_
      refine VC.ret ?_
      obtain rfl := Option.some.inj h
      exact VR.fn (rs := [.tmp 2]) [] [] [] rfl (.tmp rfl .nil) ⟨rfl, rfl, rfl⟩ trivial rfl (by decide)
  · rw [if_neg c580] at h
    obtain rfl : b579 = false := hb579.symm.trans (decide_eq_false c580)
    refine VL.un rfl rfl (ltn rfl) ?_
    refine VL.un rfl rfl (ltn rfl) ?_
    refine VL.va (op_pick rfl rfl (ltn rfl)) rfl ?_
    refine VL.va (op_move rfl (ltn rfl)) rfl ?_
    refine VL.un rfl rfl (ltn rfl) ?_
    refine VL.un rfl rfl (ltn rfl) ?_
    refine VL.un rfl rfl (ltn rfl) ?_
    refine VL.un rfl rfl (ltn rfl) ?_
    refine VL.va (op_pick rfl rfl (ltn rfl)) rfl ?_
    refine VL.va (op_move rfl (ltn rfl)) rfl ?_
    refine VL.un rfl rfl (ltn rfl) ?_
    refine VL.un rfl rfl (ltn rfl) ?_
    refine VL.un rfl rfl (ltn rfl) ?_
    refine VL.un rfl rfl (ltn rfl) ?_
    refine VL.un rfl rfl (ltn rfl) ?_
    refine VL.va (op_pick rfl rfl (ltn rfl)) rfl ?_
    refine VL.va (op_move rfl (ltn rfl)) rfl ?_
    refine VL.un rfl rfl (ltn rfl) ?_
    refine VL.un rfl rfl (ltn rfl) ?_
    refine VL.un rfl rfl (ltn rfl) ?_
    refine VL.un rfl rfl (ltn rfl) ?_
    refine VL.un rfl rfl (ltn rfl) ?_
    refine VL.va (op_pick rfl rfl (ltn rfl)) rfl ?_
    refine VL.va (op_assign rfl (ltn rfl)) rfl ?_
    refine VL.done ?_
    refine VN.then ?_
    refine VC.ret ?_
    obtain rfl := Option.some.inj h
    exact VR.fn (rs := [.tmp 2]) [] [] [] rfl (.tmp rfl .nil) ⟨rfl, rfl, rfl⟩ trivial rfl (by decide)
set_option maxHeartbeats 4000000 in
set_option maxRecDepth 100000 in
theorem slices_Clone_string_string.ok (l0 : List ByteArray) (v0 : Value) (r1 : List ByteArray) (h : slices_Clone_string_string.f l0 = some r1) :
    VCalls Try.prog 19 [v0] [.row v0 1 (l0.map enc_str)] (fun v G own => ∃ w0 : Value, v = w0 ∧ G = [] ∧ own = [(w0, 9, 1, r1.map enc_str)]) := by
  unfold slices_Clone_string_string.f at h
  by_cases hc : ¬ (l0.length * 16 ≤ 140737488355328)
  · rw [if_neg hc] at h; cases h
  replace hc := Decidable.not_not.1 hc
  rw [if_pos hc] at h
  obtain rfl := Option.some.inj h
  clear h
  refine VCalls.intro Try.func19 rfl (len rfl) fun E hC hW hD hU => ?_
  refine VC.formF 0 rfl fun A cap hv h1 h2 h3 => ?_
  rw [lenm] at hv h1 h3
  subst hv
  refine VC.seq (VC.region ?_)
  refine VL.va (op_assign rfl (ltn rfl)) rfl ?_
  refine VL.done (VN.then ?_)
  refine VC.seq ?_
  refine VC.seq (VC.region ?_)
  refine VL.va (op_move rfl (ltn rfl)) rfl ?_
  refine VL.va (op_isnil Try.underlying22 rfl rfl (ltn rfl)) rfl ?_
  refine VL.done (VN.then ?_)
  cases A with
  | none =>
    have e : l0 = [] := List.eq_nil_of_length_eq_zero (h3 rfl)
    subst e
    refine VC.cond_t rfl ?_
    refine VC.seq (VC.region ?_)
    refine VL.va (op_assign rfl (ltn rfl)) rfl ?_
    refine VL.done (VN.then ?_)
    refine VC.ret (VR.then ?_)
    refine VR.nilRow' 9 1 ?_
    exact VR.fn (rs := [.tmp 2]) [] [(.slice none 0 0, 9, 1, [])] [0] rfl (.tmp rfl .nil) ⟨_, rfl, rfl, rfl⟩ trivial rfl (by decide)
  | some ad =>
    refine VC.cond_f rfl (VC.skip (VN.then ?_))
    refine VC.seq (VC.region ?_)
    refine VL.sG (o_buildSlice (vals := []) (cells := #[]) (es := List.map enc_str ([] : List ByteArray)) Try.underlying22 TI9 Z9 rfl (by decide) (by decide) (by kernel_rfl) rfl rfl (flat_map enc_str_ok _) (ltn rfl)) rfl ?_
    intro v1
    refine VL.va (op_move rfl (ltn rfl)) rfl ?_
    refine VL.sG (o_append (es3 := l0.map enc_str) 0 rfl Try.underlying22 EI9 rfl rfl rfl (.inl ⟨0, rfl⟩) (by rw [lenm, lenm]; simpa using hc) (ltn rfl)) rfl ?_
    intro v2
    refine VL.va (op_assign rfl (ltn rfl)) rfl ?_
    refine VL.done (VN.then ?_)
    refine VC.ret ?_
    exact VR.fn (rs := [.tmp 2]) [] [(v2, 9, 1, l0.map enc_str)] [0] rfl (.tmp rfl .nil) ⟨_, rfl, rfl, rfl⟩ trivial rfl (by decide)

end Go.Proofs.Ytlfkendmepdbkaa.PDiskCrashes
