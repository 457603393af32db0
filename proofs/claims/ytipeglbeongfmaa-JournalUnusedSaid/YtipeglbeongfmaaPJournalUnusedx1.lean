/- Written by a program of this repo: what the program's functions do, each as a Lean function, shown of the loaded code; or a statement's row over that; no condition of its own. -/
import Derived.Test.YtipeglbeongfmaaPJournalUnusedx0
namespace Go.Proofs.Ytipeglbeongfmaa.PJournalUnused
open Go Go.RowKit Go.Proofs.YtipeglbeongfmaaV
set_option linter.unusedVariables false
set_option linter.unusedSimpArgs false

set_option maxHeartbeats 4000000 in
set_option maxRecDepth 100000 in
theorem tarrylaw05_disk.ok (k : Nat) (l0_0 : List ByteArray) (l0_1 : List S55) (v0_0 : Value) (v0_1 : Value) (r1 : List ByteArray) (r2 : List S55) (h : tarrylaw05_disk.f k l0_0 l0_1 = some (r1, r2)) :
    VCalls Try.prog 7 [.agg #[v0_0, v0_1]] [.row v0_0 1 (l0_0.map enc_str), .row v0_1 2 (l0_1.map enc55)] (fun v G own => ∃ w0 w1 : Value, v = .agg #[w0, w1] ∧ G = [] ∧ own = [(w0, 9, 1, r1.map enc_str), (w1, 56, 2, r2.map enc55)]) := by
  refine VCalls.intro Try.func7 rfl (len rfl) fun E hC hW hD hU => ?_
  unfold tarrylaw05_disk.f at h
  refine VC.seq ?_
  refine VC.region ?_
  refine VL.sG (o_box rfl (.agg (.f 0 rfl (.f 1 rfl .nil))) (ltn rfl)) rfl ?_
  intro g14
  refine VL.sG (o_alloc Z25 ZL25 (ltn rfl)) rfl ?_
  intro g15
  refine VL.done ?_
  refine VN.then ?_
  refine VC.seq ?_
  refine VC.region ?_
  refine VL.sG (o_alloc Z25 ZL25 (ltn rfl)) rfl ?_
  intro g16
  refine VL.done ?_
  refine VN.then ?_
  refine VC.seq ?_
  refine VC.seq ?_
  refine VC.region ?_
  refine VL.va (op_fieldAddr FI25_0 rfl (add_at _ _ _) (ltn rfl)) rfl ?_
  refine VL.va (op_load 2 1 rfl rfl TI22 rfl (by decide) (ltn rfl)) rfl ?_
  refine VL.va (op_fieldAddr FI25_0 rfl (add_at _ _ _) (ltn rfl)) rfl ?_
  refine VL.va (op_load 2 1 rfl rfl TI22 rfl (by decide) (ltn rfl)) rfl ?_
  refine VL.va (op_len (m := l0_0.length) 0 lenm Try.underlying22 rfl rfl (ltn rfl)) rfl ?_
  refine VL.va (op_min rfl rfl (ltn rfl)) rfl ?_
  by_cases c68 : 0 ≤ mn (l0_0.length : Int) 30
  · rw [if_pos c68] at h
    by_cases c69 : (mn (l0_0.length : Int) 30) ≤ (l0_0.length : Int)
    · rw [if_pos c69] at h
      refine VL.sG (o_slice (m := l0_0.length) 0 0 ((mn (l0_0.length : Int) 30).toNat) lenm cutm Try.underlying22 TI9 rfl rfl ⟨rfl, ⟨_, _, rfl, c68, rfl⟩, by omega, by omega⟩ (ltn rfl)) rfl ?_
      intro v71
      refine VL.va (op_len (m := ((l0_0.take ((mn (l0_0.length : Int) 30).toNat)).drop 0).length) 0 lenm Try.underlying22 rfl rfl (ltn rfl)) rfl ?_
      refine VL.va (op_move rfl (ltn rfl)) rfl ?_
      refine VL.done ?_
      refine VN.then ?_
      refine VC.block ?_
      refine VC.nilRow' 9 1 ?_
      refine VC.loop3 (fun (i86 : Int) (v88 : Value) (l89 : List ByteArray) => ⟨59, [(1, .pointer (some ⟨g14, 0, none⟩)), (2, .pointer (some ⟨g15, 0, none⟩)), (3, .pointer (some ⟨g16, 0, none⟩)), (14, v71), (15, .int .i64 (((l0_0.take ((mn (l0_0.length : Int) 30).toNat)).drop 0).length : Int)), (16, .int .i64 i86)], [.row v71 1 (((l0_0.take ((mn (l0_0.length : Int) 30).toNat)).drop 0).map enc_str), .row v0_0 1 (l0_0.map enc_str), .row v0_1 2 (l0_1.map enc55)], [(g16, 25, [v88, .slice none 0 0]), (g15, 25, [.slice none 0 0, .slice none 0 0]), (g14, 25, [v0_0, v0_1])], [(v88, 9, 1, l89.map enc_str)]⟩) (fun (ml1 : Nat) (i86 : Int) (v88 : Value) (l89 : List ByteArray) => tarrylaw05_disk.l1 k l0_0 l0_1 ml1 i86 l89 = some (r1, r2)) k 0 (.slice none 0 0) ([] : List ByteArray) [0, 1, 2] [0] h ⟨rfl, ⟨rfl, rfl, rfl, rfl, rfl, rfl, trivial⟩, ⟨⟨0, rfl⟩, ⟨1, rfl⟩, ⟨2, rfl⟩, trivial⟩, rfl, by decide, rfl, by decide⟩ (by intros; simp [tarrylaw05_disk.l1]) ?_
      clear h
      intro ml1 ihl1 i86 v88 l89 h
      simp only [tarrylaw05_disk.l1] at h
      refine VC.seq ?_
      refine VC.region ?_
      refine VL.letter (decide (i86 < (((l0_0.take ((mn (l0_0.length : Int) 30).toNat)).drop 0).length : Int))) fun b105 hb105 => ?_
      refine VL.va (op_cmp rfl rfl (congrArg some hb105) (ltn rfl)) rfl ?_
      refine VL.done ?_
      refine VN.then ?_
      refine VC.seq ?_
      by_cases c215 : i86 < (((l0_0.take ((mn (l0_0.length : Int) 30).toNat)).drop 0).length : Int)
      · rw [if_pos c215] at h
        obtain rfl : b105 = true := hb105.symm.trans (decide_eq_true c215)
        refine VC.cond_t rfl ?_
        refine VC.skip ?_
        refine VN.then ?_
        refine VC.seq ?_
        refine VC.block ?_
        refine VC.seq ?_
        refine VC.region ?_
        by_cases c216 : 0 ≤ i86
        · rw [if_pos c216] at h
          replace h := Option.bind_eq_some_iff.1 h
          obtain ⟨x217, hx217, h⟩ := h
          refine VL.open (m := ((l0_0.take ((mn (l0_0.length : Int) 30).toNat)).drop 0).length) 0 lenm rfl (pos_get hx217) ?_
          rintro ad218 n219 rfl
          refine VL.va (op_indexAddr Try.underlying22 TI9 rfl rfl c216 (lt_get c216 hx217) rfl (ltn rfl)) rfl ?_
          refine VL.va (op_load_row (sz := 1) (o := 0) 0 i86.toNat 1 rfl rfl (get_map hx217) TI9 rfl (by decide) (ltn rfl)) rfl ?_
          refine VL.va (op_assign rfl (ltn rfl)) rfl ?_
          refine VL.done ?_
          refine VN.then ?_
          by_cases c220 : 0 ≤ mn (x217.size : Int) 66
          · rw [if_pos c220] at h
            by_cases c221 : (mn (x217.size : Int) 66) ≤ (x217.size : Int)
            · rw [if_pos c221] at h
              by_cases c224 : (l89.length + ([x217.extract 0 ((mn (x217.size : Int) 66).toNat)] : List ByteArray).length) * 16 ≤ 140737488355328
              · rw [if_pos c224] at h
                refine VC.stop2 (fun (v223 : Value) (v225 : Value) => ⟨59, [(1, .pointer (some ⟨g14, 0, none⟩)), (2, .pointer (some ⟨g15, 0, none⟩)), (3, .pointer (some ⟨g16, 0, none⟩)), (5, .string x217), (14, (.slice (some ad218) ((l0_0.take ((mn (l0_0.length : Int) 30).toNat)).drop 0).length n219)), (15, .int .i64 (((l0_0.take ((mn (l0_0.length : Int) 30).toNat)).drop 0).length : Int)), (16, .int .i64 i86), (17, .bool true), (19, .string x217), (20, .pointer (some ⟨g16, 0, none⟩)), (22, .string x217), (23, .string x217), (24, .int .i64 (x217.size : Int)), (25, .int .i64 (mn (x217.size : Int) 66)), (26, .string (x217.extract 0 ((mn (x217.size : Int) 66).toNat))), (27, v223), (28, v225), (29, .pointer (some ⟨g16, 0, none⟩))], [.row (.slice (some ad218) ((l0_0.take ((mn (l0_0.length : Int) 30).toNat)).drop 0).length n219) 1 (((l0_0.take ((mn (l0_0.length : Int) 30).toNat)).drop 0).map enc_str), .row v0_0 1 (l0_0.map enc_str), .row v0_1 2 (l0_1.map enc55)], [(g16, 25, [v225, .slice none 0 0]), (g15, 25, [.slice none 0 0, .slice none 0 0]), (g14, 25, [v0_0, v0_1])], [(v223, 9, 1, ([x217.extract 0 ((mn (x217.size : Int) 66).toNat)] : List ByteArray).map enc_str), (v225, 9, 1, (l89 ++ ([x217.extract 0 ((mn (x217.size : Int) 66).toNat)] : List ByteArray)).map enc_str)]⟩) (fun (v223 : Value) (v225 : Value) => True) ?_ ?_
                · refine VC.drawB ⟨0, [], [], [], []⟩ [8, 10] ⟨0, [], [], [(g16, 25, [v88, .slice none 0 0])], []⟩ (by kernel_rfl) rfl (by kernel_rfl) (n := 11) (listed := LB 11 0) ?_
                  refine VB.va (i := 0) (listed' := LB 11 1) rfl (op_fieldAddr FI25_0 rfl (add_at _ _ _) (ltn rfl)) rfl (by kernel_rfl) (by kernel_rfl) (by kernel_rfl) (by kernel_rfl) (by decide) (PartP.on ⟨trivial, trivial, trivial⟩ ⟨trivial, ⟨⟨0, rfl⟩, trivial⟩, trivial⟩) (fun _ _ _ h => h) ?_
                  refine VB.vb (i := 1) (listed' := LB 11 3) rfl (op_load 0 1 rfl rfl TI22 rfl (by decide) (ltn rfl)) rfl (by kernel_rfl) (by kernel_rfl) (by kernel_rfl) (by kernel_rfl) (by kernel_rfl) (by kernel_rfl) (PartP.on ⟨trivial, trivial, trivial⟩ ⟨trivial, ⟨⟨0, rfl⟩, trivial⟩, trivial⟩) (fun _ _ _ h => h) ?_
                  refine VB.va (i := 2) (listed' := LB 11 7) rfl (op_move rfl (ltn rfl)) rfl (by kernel_rfl) (by kernel_rfl) (by kernel_rfl) (by kernel_rfl) (by decide) (PartP.on ⟨trivial, trivial, trivial⟩ ⟨trivial, ⟨⟨0, rfl⟩, trivial⟩, trivial⟩) (fun _ _ _ h => h) ?_
                  refine VB.va (i := 3) (listed' := LB 11 15) rfl (op_move rfl (ltn rfl)) rfl (by kernel_rfl) (by kernel_rfl) (by kernel_rfl) (by kernel_rfl) (by decide) (PartP.on ⟨trivial, trivial, trivial⟩ ⟨trivial, ⟨⟨0, rfl⟩, trivial⟩, trivial⟩) (fun _ _ _ h => h) ?_
                  refine VB.va (i := 4) (listed' := LB 11 31) rfl (op_lens Try.underlying9 rfl (ltn rfl)) rfl (by kernel_rfl) (by kernel_rfl) (by kernel_rfl) (by kernel_rfl) (by decide) (PartP.on ⟨trivial, trivial, trivial⟩ ⟨trivial, ⟨⟨0, rfl⟩, trivial⟩, trivial⟩) (fun _ _ _ h => h) ?_
                  refine VB.va (i := 5) (listed' := LB 11 63) rfl (op_min rfl rfl (ltn rfl)) rfl (by kernel_rfl) (by kernel_rfl) (by kernel_rfl) (by kernel_rfl) (by decide) (PartP.on ⟨trivial, trivial, trivial⟩ ⟨trivial, ⟨⟨0, rfl⟩, trivial⟩, trivial⟩) (fun _ _ _ h => h) ?_
                  refine VB.va (i := 6) (listed' := LB 11 127) rfl (op_sliceS 0 ((mn (x217.size : Int) 66).toNat) Try.underlying9 rfl ⟨rfl, ⟨_, _, rfl, c220, rfl⟩, by omega, by omega⟩ rfl (ltn rfl)) rfl (by kernel_rfl) (by kernel_rfl) (by kernel_rfl) (by kernel_rfl) (by decide) (PartP.on ⟨trivial, trivial, trivial⟩ ⟨trivial, ⟨⟨0, rfl⟩, trivial⟩, trivial⟩) (fun _ _ _ h => h) ?_
                  refine VB.oneG (i := 7) (listed' := LB 11 255) (by kernel_rfl) rfl (o_buildSlice (vals := [(0, .string (x217.extract 0 ((mn (x217.size : Int) 66).toNat)))]) (cells := #[.string (x217.extract 0 ((mn (x217.size : Int) 66).toNat))]) (es := List.map enc_str ([x217.extract 0 ((mn (x217.size : Int) 66).toNat)] : List ByteArray)) Try.underlying22 TI9 Z9 rfl (by decide) (by decide) (by kernel_rfl) (by kernel_rfl) rfl (flat_map enc_str_ok _) (ltn rfl)) rfl (by kernel_rfl) (fun _ => (PartP.on ⟨trivial, trivial, trivial⟩ ⟨trivial, ⟨⟨0, rfl⟩, trivial⟩, trivial⟩)) ?_
                  intro v223
                  refine VB.oneG (i := 8) (listed' := LB 11 511) (by kernel_rfl) rfl (o_append 1 appm Try.underlying22 EI9 rfl rfl rfl (.inr ⟨0, _, rfl⟩) (bndm c224) (ltn rfl)) rfl (by kernel_rfl) (fun _ => (PartP.off (by kernel_rfl) ⟨trivial, trivial, trivial⟩)) ?_
                  intro v225
                  refine VB.va (i := 9) (listed' := LB 11 1023) rfl (op_fieldAddr FI25_0 rfl (add_at _ _ _) (ltn rfl)) rfl (by kernel_rfl) (by kernel_rfl) (by kernel_rfl) (by kernel_rfl) (by decide) (PartP.off (by kernel_rfl) ⟨trivial, trivial, trivial⟩) (fun _ _ _ h => h) ?_
                  refine VB.one1 (i := 10) (listed' := LB 11 2047) (by kernel_rfl) rfl (o_store 0 1 rfl rfl rfl TI22 (.r 1 rfl) rfl (len rfl)) rfl (by kernel_rfl) (PartP.off (by kernel_rfl) ⟨trivial, trivial, trivial⟩) ?_
                  refine VB.done (by kernel_rfl) ?_
                  exact VN.meet2 v223 v225 [0, 1, 2] [0, 1] trivial ⟨rfl, ⟨rfl, rfl, rfl, rfl, rfl, rfl, rfl, rfl, rfl, rfl, rfl, rfl, rfl, rfl, rfl, rfl, rfl, rfl, trivial⟩, ⟨⟨0, rfl⟩, ⟨1, rfl⟩, ⟨2, rfl⟩, trivial⟩, rfl, by decide, rfl, by decide⟩
                intro v223 v225 _
                refine VN.block ?_
                refine VN.then ?_
                refine VC.region ?_
                refine VL.va (op_ari64 rfl rfl rfl (ltn rfl)) rfl ?_
                refine VL.va (op_move rfl (ltn rfl)) rfl ?_
                refine VL.done ?_
                refine VN.again [0, 1, 2] [1] (ihl1 (wrap64 (i86 + 1)) v225 (l89 ++ ([x217.extract 0 ((mn (x217.size : Int) 66).toNat)] : List ByteArray)) h) ⟨rfl, ⟨rfl, rfl, rfl, rfl, rfl, rfl, trivial⟩, ⟨⟨0, rfl⟩, ⟨1, rfl⟩, ⟨2, rfl⟩, trivial⟩, rfl, by decide, rfl, by decide⟩
              · rw [if_neg c224] at h; cases h
            · rw [if_neg c221] at h; cases h
          · rw [if_neg c220] at h; cases h
        · rw [if_neg c216] at h; cases h
      · rw [if_neg c215] at h
        obtain rfl : b105 = false := hb105.symm.trans (decide_eq_false c215)
        refine VC.cond_f rfl ?_
        refine VC.exit ?_
        refine VX.then ?_
        refine VX.then ?_
        refine VX.hit ?_
        refine VN.then ?_
        refine VC.seq ?_
        refine VC.seq ?_
        refine VC.region ?_
        refine VL.va (op_fieldAddr FI25_1 rfl (add_at _ _ _) (ltn rfl)) rfl ?_
        refine VL.va (op_load 2 1 rfl rfl TI23 rfl (by decide) (ltn rfl)) rfl ?_
        refine VL.va (op_fieldAddr FI25_1 rfl (add_at _ _ _) (ltn rfl)) rfl ?_
        refine VL.va (op_load 2 1 rfl rfl TI23 rfl (by decide) (ltn rfl)) rfl ?_
        refine VL.va (op_len (m := l0_1.length) 2 lenm Try.underlying23 rfl rfl (ltn rfl)) rfl ?_
        refine VL.va (op_min rfl rfl (ltn rfl)) rfl ?_
        by_cases c281 : 0 ≤ mn (l0_1.length : Int) 4
        · rw [if_pos c281] at h
          by_cases c282 : (mn (l0_1.length : Int) 4) ≤ (l0_1.length : Int)
          · rw [if_pos c282] at h
            refine VL.sG (o_slice (m := l0_1.length) 2 0 ((mn (l0_1.length : Int) 4).toNat) lenm cutm Try.underlying23 TI56 rfl rfl ⟨rfl, ⟨_, _, rfl, c281, rfl⟩, by omega, by omega⟩ (ltn rfl)) rfl ?_
            intro v284
            refine VL.va (op_len (m := ((l0_1.take ((mn (l0_1.length : Int) 4).toNat)).drop 0).length) 0 lenm Try.underlying23 rfl rfl (ltn rfl)) rfl ?_
            refine VL.va (op_move rfl (ltn rfl)) rfl ?_
            refine VL.done ?_
            refine VN.then ?_
            refine VC.block ?_
            refine VC.nilRow' 56 2 ?_
            refine VC.loop3 (fun (i300 : Int) (v302 : Value) (l303 : List S55) => ⟨59, [(2, .pointer (some ⟨g15, 0, none⟩)), (3, .pointer (some ⟨g16, 0, none⟩)), (37, v284), (38, .int .i64 (((l0_1.take ((mn (l0_1.length : Int) 4).toNat)).drop 0).length : Int)), (39, .int .i64 i300)], [.row v284 2 (((l0_1.take ((mn (l0_1.length : Int) 4).toNat)).drop 0).map enc55)], [(g16, 25, [v88, v302]), (g15, 25, [.slice none 0 0, .slice none 0 0])], [(v302, 56, 2, l303.map enc55), (v88, 9, 1, l89.map enc_str)]⟩) (fun (ml5 : Nat) (i300 : Int) (v302 : Value) (l303 : List S55) => tarrylaw05_disk.l5 k l0_1 l89 ml5 i300 l303 = some (r1, r2)) k 0 (.slice none 0 0) ([] : List S55) [0, 1] [0, 1] h ⟨rfl, ⟨rfl, rfl, rfl, rfl, rfl, trivial⟩, ⟨⟨0, rfl⟩, trivial⟩, rfl, by decide, rfl, by decide⟩ (by intros; simp [tarrylaw05_disk.l5]) ?_
            clear h
            intro ml5 ihl5 i300 v302 l303 h
            simp only [tarrylaw05_disk.l5] at h
            refine VC.seq ?_
            refine VC.region ?_
            refine VL.letter (decide (i300 < (((l0_1.take ((mn (l0_1.length : Int) 4).toNat)).drop 0).length : Int))) fun b320 hb320 => ?_
            refine VL.va (op_cmp rfl rfl (congrArg some hb320) (ltn rfl)) rfl ?_
            refine VL.done ?_
            refine VN.then ?_
            refine VC.seq ?_
            by_cases c322 : i300 < (((l0_1.take ((mn (l0_1.length : Int) 4).toNat)).drop 0).length : Int)
            · rw [if_pos c322] at h
              obtain rfl : b320 = true := hb320.symm.trans (decide_eq_true c322)
              refine VC.cond_t rfl ?_
              refine VC.skip ?_
              refine VN.then ?_
              refine VC.seq ?_
              refine VC.block ?_
              refine VC.seq ?_
              refine VC.region ?_
              by_cases c323 : 0 ≤ i300
              · rw [if_pos c323] at h
                replace h := Option.bind_eq_some_iff.1 h
                obtain ⟨x324, hx324, h⟩ := h
                refine VL.open (m := ((l0_1.take ((mn (l0_1.length : Int) 4).toNat)).drop 0).length) 0 lenm rfl (pos_get hx324) ?_
                rintro ad325 n326 rfl
                refine VL.va (op_indexAddr Try.underlying23 TI56 rfl rfl c323 (lt_get c323 hx324) rfl (ltn rfl)) rfl ?_
                refine VL.va (op_load_row (sz := 2) (o := 0) 0 i300.toNat 2 rfl rfl (get_map hx324) TI56 rfl (fun h => absurd h (by decide)) (ltn rfl)) rfl ?_
                refine VL.sG (o_alloc Z56 ZL56 (ltn rfl)) rfl ?_
                intro g327
                refine VL.step1 (o_store 0 2 rfl rfl rfl TI56 (.agg (.of rfl)) rfl (len rfl)) rfl ?_
                refine VL.done ?_
                refine VN.then ?_
                refine VC.seq ?_
                refine VC.region ?_
                refine VL.va (op_fieldAddr FI56_1 rfl (add_at _ _ _) (ltn rfl)) rfl ?_
                refine VL.va (op_load 0 1 rfl rfl TI9 rfl (by decide) (ltn rfl)) rfl ?_
                refine VL.va (op_fieldAddr FI56_1 rfl (add_at _ _ _) (ltn rfl)) rfl ?_
                refine VL.va (op_load 0 1 rfl rfl TI9 rfl (by decide) (ltn rfl)) rfl ?_
                refine VL.va (op_lens Try.underlying9 rfl (ltn rfl)) rfl ?_
                refine VL.va (op_min rfl rfl (ltn rfl)) rfl ?_
                by_cases c328 : 0 ≤ mn (x324.f1.size : Int) 66
                · rw [if_pos c328] at h
                  by_cases c329 : (mn (x324.f1.size : Int) 66) ≤ (x324.f1.size : Int)
                  · rw [if_pos c329] at h
                    refine VL.va (op_sliceS 0 ((mn (x324.f1.size : Int) 66).toNat) Try.underlying9 rfl ⟨rfl, ⟨_, _, rfl, c328, rfl⟩, by omega, by omega⟩ rfl (ltn rfl)) rfl ?_
                    refine VL.va (op_fieldAddr FI56_1 rfl (add_at _ _ _) (ltn rfl)) rfl ?_
                    refine VL.step1 (o_store 0 1 rfl rfl rfl TI9 (.c rfl) rfl (len rfl)) rfl ?_
                    refine VL.done ?_
                    refine VN.then ?_
                    refine VC.region ?_
                    refine VL.va (op_fieldAddr FI25_1 rfl (add_at _ _ _) (ltn rfl)) rfl ?_
                    refine VL.va (op_load 1 1 rfl rfl TI23 rfl (by decide) (ltn rfl)) rfl ?_
                    refine VL.va (op_load 0 2 rfl rfl TI56 rfl (fun h => absurd h (by decide)) (ltn rfl)) rfl ?_
                    refine VL.sG (o_buildSlice (vals := [(0, .agg #[.int .i64 x324.f0, .string (x324.f1.extract 0 ((mn (x324.f1.size : Int) 66).toNat))])]) (cells := #[.int .i64 x324.f0, .string (x324.f1.extract 0 ((mn (x324.f1.size : Int) 66).toNat))]) (es := List.map enc55 ([(⟨x324.f0, x324.f1.extract 0 ((mn (x324.f1.size : Int) 66).toNat)⟩ : S55)] : List S55)) Try.underlying23 TI56 Z56 rfl (by decide) (by decide) (by kernel_rfl) (by kernel_rfl) rfl (flat_map enc55_ok _) (ltn rfl)) rfl ?_
                    intro v331
                    by_cases c332 : (l303.length + ([(⟨x324.f0, x324.f1.extract 0 ((mn (x324.f1.size : Int) 66).toNat)⟩ : S55)] : List S55).length) * 24 ≤ 140737488355328
                    · rw [if_pos c332] at h
                      refine VL.sG (o_append 1 appm Try.underlying23 EI56 rfl rfl rfl (.inr ⟨0, _, rfl⟩) (bndm c332) (ltn rfl)) rfl ?_
                      intro v333
                      refine VL.va (op_fieldAddr FI25_1 rfl (add_at _ _ _) (ltn rfl)) rfl ?_
                      refine VL.step1 (o_store 1 1 rfl rfl rfl TI23 (.r 1 rfl) rfl (len rfl)) rfl ?_
                      refine VL.done ?_
                      refine VN.block ?_
                      refine VN.then ?_
                      refine VC.region ?_
                      refine VL.va (op_ari64 rfl rfl rfl (ltn rfl)) rfl ?_
                      refine VL.va (op_move rfl (ltn rfl)) rfl ?_
                      refine VL.done ?_
                      refine VN.again [1, 2] [1, 2] (ihl5 (wrap64 (i300 + 1)) v333 (l303 ++ ([(⟨x324.f0, x324.f1.extract 0 ((mn (x324.f1.size : Int) 66).toNat)⟩ : S55)] : List S55)) h) ⟨rfl, ⟨rfl, rfl, rfl, rfl, rfl, trivial⟩, ⟨⟨0, rfl⟩, trivial⟩, rfl, by decide, rfl, by decide⟩
                    · rw [if_neg c332] at h; cases h
                  · rw [if_neg c329] at h; cases h
                · rw [if_neg c328] at h; cases h
              · rw [if_neg c323] at h; cases h
            · rw [if_neg c322] at h
              obtain rfl : b320 = false := hb320.symm.trans (decide_eq_false c322)
              refine VC.cond_f rfl ?_
              refine VC.exit ?_
              refine VX.then ?_
              refine VX.then ?_
              refine VX.hit ?_
              refine VN.then ?_
              refine VC.seq ?_
              refine VC.region ?_
              refine VL.va (op_load 0 2 rfl rfl TI25 rfl (fun h => absurd h (by decide)) (ltn rfl)) rfl ?_
              refine VL.step1 (o_store 1 2 rfl rfl rfl TI25 (.agg (.r 1 rfl (.r 0 rfl .nil))) rfl (len rfl)) rfl ?_
              refine VL.done ?_
              refine VN.then ?_
              refine VC.ret ?_
              simp only [Option.some.injEq, Prod.mk.injEq] at h
              obtain ⟨rfl, rfl⟩ := h
              exact VR.fn (rs := [.cell 2 25]) [] [(v88, 9, 1, l89.map enc_str), (v302, 56, 2, l303.map enc55)] [1, 0] rfl (.cell 1 rfl rfl TI25 (fun h => absurd h (by decide)) .nil) ⟨v88, v302, rfl, rfl, rfl⟩ trivial rfl (by decide)
          · rw [if_neg c282] at h; cases h
        · rw [if_neg c281] at h; cases h
    · rw [if_neg c69] at h; cases h
  · rw [if_neg c68] at h; cases h
set_option maxHeartbeats 4000000 in
set_option maxRecDepth 100000 in
theorem tarrylaw05_texts.ok (k : Nat) (l0 : List ByteArray) (a1 : Int) (v0 : Value) (r1 : List ByteArray) (h : tarrylaw05_texts.f k l0 a1 = some r1) :
    VCalls Try.prog 22 [v0, .int .i64 a1] [.row v0 1 (l0.map enc_str)] (fun v G own => ∃ w0 : Value, v = w0 ∧ G = [] ∧ own = [(w0, 9, 1, r1.map enc_str)]) := by
  refine VCalls.intro Try.func22 rfl (len rfl) fun E hC hW hD hU => ?_
  unfold tarrylaw05_texts.f at h
  refine VC.seq ?_
  refine VC.region ?_
  refine VL.va (op_assign rfl (ltn rfl)) rfl ?_
  refine VL.done ?_
  refine VN.then ?_
  refine VC.seq ?_
  refine VC.region ?_
  refine VL.va (op_assign rfl (ltn rfl)) rfl ?_
  refine VL.done ?_
  refine VN.then ?_
  refine VC.seq ?_
  refine VC.seq ?_
  refine VC.region ?_
  refine VL.va (op_move rfl (ltn rfl)) rfl ?_
  refine VL.va (op_move rfl (ltn rfl)) rfl ?_
  refine VL.va (op_len (m := l0.length) 0 lenm Try.underlying22 rfl rfl (ltn rfl)) rfl ?_
  refine VL.va (op_move rfl (ltn rfl)) rfl ?_
  refine VL.va (op_min rfl rfl (ltn rfl)) rfl ?_
  by_cases c394 : 0 ≤ mn (l0.length : Int) a1
  · rw [if_pos c394] at h
    by_cases c395 : (mn (l0.length : Int) a1) ≤ (l0.length : Int)
    · rw [if_pos c395] at h
      refine VL.sG (o_slice (m := l0.length) 0 0 ((mn (l0.length : Int) a1).toNat) lenm cutm Try.underlying22 TI9 rfl rfl ⟨rfl, ⟨_, _, rfl, c394, rfl⟩, by omega, by omega⟩ (ltn rfl)) rfl ?_
      intro v397
      refine VL.va (op_len (m := ((l0.take ((mn (l0.length : Int) a1).toNat)).drop 0).length) 0 lenm Try.underlying22 rfl rfl (ltn rfl)) rfl ?_
      refine VL.va (op_move rfl (ltn rfl)) rfl ?_
      refine VL.done ?_
      refine VN.then ?_
      refine VC.block ?_
      refine VC.nilRow' 9 1 ?_
      refine VC.loop3 (fun (v413 : Value) (l414 : List ByteArray) (i416 : Int) => ⟨29, [(4, .slice none 0 0), (5, v413), (13, v397), (14, .int .i64 (((l0.take ((mn (l0.length : Int) a1).toNat)).drop 0).length : Int)), (15, .int .i64 i416)], [.row v397 1 (((l0.take ((mn (l0.length : Int) a1).toNat)).drop 0).map enc_str)], [], [(v413, 9, 1, l414.map enc_str)]⟩) (fun (ml1 : Nat) (v413 : Value) (l414 : List ByteArray) (i416 : Int) => tarrylaw05_texts.l1 k a1 l0 ml1 l414 i416 = some r1) k (.slice none 0 0) ([] : List ByteArray) 0 [] [0] h ⟨rfl, ⟨rfl, rfl, rfl, rfl, rfl, trivial⟩, ⟨⟨0, rfl⟩, trivial⟩, rfl, by decide, rfl, by decide⟩ (by intros; simp [tarrylaw05_texts.l1]) ?_
      clear h
      intro ml1 ihl1 v413 l414 i416 h
      simp only [tarrylaw05_texts.l1] at h
      refine VC.seq ?_
      refine VC.region ?_
      refine VL.letter (decide (i416 < (((l0.take ((mn (l0.length : Int) a1).toNat)).drop 0).length : Int))) fun b431 hb431 => ?_
      refine VL.va (op_cmp rfl rfl (congrArg some hb431) (ltn rfl)) rfl ?_
      refine VL.done ?_
      refine VN.then ?_
      refine VC.seq ?_
      by_cases c433 : i416 < (((l0.take ((mn (l0.length : Int) a1).toNat)).drop 0).length : Int)
      · rw [if_pos c433] at h
        obtain rfl : b431 = true := hb431.symm.trans (decide_eq_true c433)
        refine VC.cond_t rfl ?_
        refine VC.skip ?_
        refine VN.then ?_
        refine VC.seq ?_
        refine VC.block ?_
        refine VC.seq ?_
        refine VC.region ?_
        by_cases c434 : 0 ≤ i416
        · rw [if_pos c434] at h
          replace h := Option.bind_eq_some_iff.1 h
          obtain ⟨x435, hx435, h⟩ := h
          refine VL.open (m := ((l0.take ((mn (l0.length : Int) a1).toNat)).drop 0).length) 0 lenm rfl (pos_get hx435) ?_
          rintro ad436 n437 rfl
          refine VL.va (op_indexAddr Try.underlying22 TI9 rfl rfl c434 (lt_get c434 hx435) rfl (ltn rfl)) rfl ?_
          refine VL.va (op_load_row (sz := 1) (o := 0) 0 i416.toNat 1 rfl rfl (get_map hx435) TI9 rfl (by decide) (ltn rfl)) rfl ?_
          refine VL.va (op_assign rfl (ltn rfl)) rfl ?_
          refine VL.done ?_
          refine VN.then ?_
          refine VC.region ?_
          refine VL.va (op_move rfl (ltn rfl)) rfl ?_
          refine VL.va (op_move rfl (ltn rfl)) rfl ?_
          refine VL.va (op_move rfl (ltn rfl)) rfl ?_
          refine VL.va (op_lens Try.underlying9 rfl (ltn rfl)) rfl ?_
          refine VL.va (op_min rfl rfl (ltn rfl)) rfl ?_
          by_cases c438 : 0 ≤ mn (x435.size : Int) 1002
          · rw [if_pos c438] at h
            by_cases c439 : (mn (x435.size : Int) 1002) ≤ (x435.size : Int)
            · rw [if_pos c439] at h
              refine VL.va (op_sliceS 0 ((mn (x435.size : Int) 1002).toNat) Try.underlying9 rfl ⟨rfl, ⟨_, _, rfl, c438, rfl⟩, by omega, by omega⟩ rfl (ltn rfl)) rfl ?_
              refine VL.sG (o_buildSlice (vals := [(0, .string (x435.extract 0 ((mn (x435.size : Int) 1002).toNat)))]) (cells := #[.string (x435.extract 0 ((mn (x435.size : Int) 1002).toNat))]) (es := List.map enc_str ([x435.extract 0 ((mn (x435.size : Int) 1002).toNat)] : List ByteArray)) Try.underlying22 TI9 Z9 rfl (by decide) (by decide) (by kernel_rfl) (by kernel_rfl) rfl (flat_map enc_str_ok _) (ltn rfl)) rfl ?_
              intro v441
              by_cases c442 : (l414.length + ([x435.extract 0 ((mn (x435.size : Int) 1002).toNat)] : List ByteArray).length) * 16 ≤ 140737488355328
              · rw [if_pos c442] at h
                refine VL.sG (o_append 1 appm Try.underlying22 EI9 rfl rfl rfl (.inr ⟨0, _, rfl⟩) (bndm c442) (ltn rfl)) rfl ?_
                intro v443
                refine VL.va (op_assign rfl (ltn rfl)) rfl ?_
                refine VL.done ?_
                refine VN.block ?_
                refine VN.then ?_
                refine VC.region ?_
                refine VL.va (op_ari64 rfl rfl rfl (ltn rfl)) rfl ?_
                refine VL.va (op_move rfl (ltn rfl)) rfl ?_
                refine VL.done ?_
                refine VN.again [] [1] (ihl1 v443 (l414 ++ ([x435.extract 0 ((mn (x435.size : Int) 1002).toNat)] : List ByteArray)) (wrap64 (i416 + 1)) h) ⟨rfl, ⟨rfl, rfl, rfl, rfl, rfl, trivial⟩, ⟨⟨0, rfl⟩, trivial⟩, rfl, by decide, rfl, by decide⟩
              · rw [if_neg c442] at h; cases h
            · rw [if_neg c439] at h; cases h
          · rw [if_neg c438] at h; cases h
        · rw [if_neg c434] at h; cases h
      · rw [if_neg c433] at h
        obtain rfl : b431 = false := hb431.symm.trans (decide_eq_false c433)
        refine VC.cond_f rfl ?_
        refine VC.exit ?_
        refine VX.then ?_
        refine VX.then ?_
        refine VX.hit ?_
        refine VN.then ?_
        refine VC.seq ?_
        refine VC.region ?_
        refine VL.va (op_move rfl (ltn rfl)) rfl ?_
        refine VL.va (op_assign rfl (ltn rfl)) rfl ?_
        refine VL.done ?_
        refine VN.then ?_
        refine VC.ret ?_
        obtain rfl := Option.some.inj h
        exact VR.fn (rs := [.tmp 4]) [] [(v413, 9, 1, l414.map enc_str)] [0] rfl (.tmp rfl .nil) ⟨v413, rfl, rfl, rfl⟩ trivial rfl (by decide)
    · rw [if_neg c395] at h; cases h
  · rw [if_neg c394] at h; cases h
set_option maxHeartbeats 4000000 in
set_option maxRecDepth 100000 in
theorem tarrylaw05_few.ok (k : Nat) (l0_0 : List ByteArray) (l0_1 : List S55) (a0_2 : Int) (a0_3 : Int) (a0_4 : Int) (l0_5 : List ByteArray) (l0_6 : List ByteArray) (v0_0 : Value) (v0_1 : Value) (v0_5 : Value) (v0_6 : Value) (r1 : List ByteArray) (r2 : List S55) (r3 : Int) (r4 : Int) (r5 : Int) (r6 : List ByteArray) (r7 : List ByteArray) (h : tarrylaw05_few.f k l0_0 l0_1 a0_2 a0_3 a0_4 l0_5 l0_6 = some (r1, r2, r3, r4, r5, r6, r7)) :
    VCalls Try.prog 8 [.agg #[v0_0, v0_1, .int .i64 a0_2, .int .i64 a0_3, .int .i64 a0_4, v0_5, v0_6]] [.row v0_0 1 (l0_0.map enc_str), .row v0_1 2 (l0_1.map enc55), .row v0_5 1 (l0_5.map enc_str), .row v0_6 1 (l0_6.map enc_str)] (fun v G own => ∃ w0 w1 w5 w6 : Value, v = .agg #[w0, w1, .int .i64 r3, .int .i64 r4, .int .i64 r5, w5, w6] ∧ G = [] ∧ own = [(w0, 9, 1, r1.map enc_str), (w1, 56, 2, r2.map enc55), (w5, 9, 1, r6.map enc_str), (w6, 9, 1, r7.map enc_str)]) := by
  refine VCalls.intro Try.func8 rfl (len rfl) fun E hC hW hD hU => ?_
  unfold tarrylaw05_few.f at h
  refine VC.seq ?_
  refine VC.region ?_
  refine VL.sG (o_box rfl (.agg (.f 0 rfl (.f 1 rfl (.c rfl (.c rfl (.c rfl (.f 2 rfl (.f 3 rfl .nil)))))))) (ltn rfl)) rfl ?_
  intro g10
  refine VL.sG (o_alloc Z27 ZL27 (ltn rfl)) rfl ?_
  intro g11
  refine VL.done ?_
  refine VN.then ?_
  replace h := Option.bind_eq_some_iff.1 h
  obtain ⟨⟨r335, r336⟩, hA337, h⟩ := h
  dsimp only at h
  replace h := Option.bind_eq_some_iff.1 h
  obtain ⟨r445, hA446, h⟩ := h
  replace h := Option.bind_eq_some_iff.1 h
  obtain ⟨r449, hA450, h⟩ := h
  refine VC.join4 (fun (v339 : Value) (v341 : Value) (v448 : Value) (v452 : Value) => ⟨19, [(2, .pointer (some ⟨g11, 0, none⟩))], [], [(g11, 27, [v339, v341, .int .i64 a0_2, .int .i64 a0_3, .int .i64 a0_4, v448, v452])], [(v452, 9, 1, r449.map enc_str), (v448, 9, 1, r445.map enc_str), (v339, 9, 1, r335.map enc_str), (v341, 56, 2, r336.map enc55)]⟩) (fun (v339 : Value) (v341 : Value) (v448 : Value) (v452 : Value) => True) ?_ ?_
  · refine VC.draw ⟨0, [], [], [(g10, 27, [v0_0, v0_1, .int .i64 a0_2, .int .i64 a0_3, .int .i64 a0_4, v0_5, v0_6])], []⟩ (by kernel_rfl) rfl (by kernel_rfl) (n := 17) (listed := LB 17 0) ?_
    refine VA.va (i := 0) (listed' := LB 17 1) rfl (op_fieldAddr FI27_0 rfl (add_at _ _ _) (ltn rfl)) rfl (by kernel_rfl) (by kernel_rfl) (by kernel_rfl) (by kernel_rfl) ⟨trivial, ⟨⟨1, rfl⟩, trivial⟩, trivial⟩ (fun _ _ _ h => h) ?_
    refine VA.va (i := 1) (listed' := LB 17 3) rfl (op_load 0 2 rfl rfl TI25 rfl (fun h => absurd h (by decide)) (ltn rfl)) rfl (by kernel_rfl) (by kernel_rfl) (by kernel_rfl) (by kernel_rfl) ⟨trivial, ⟨⟨1, rfl⟩, trivial⟩, trivial⟩ (fun _ _ _ h => h) ?_
    refine VA.va (i := 3) (listed' := LB 17 11) rfl (op_fieldAddr FI27_1 rfl (add_at _ _ _) (ltn rfl)) rfl (by kernel_rfl) (by kernel_rfl) (by kernel_rfl) (by kernel_rfl) ⟨trivial, ⟨⟨1, rfl⟩, trivial⟩, trivial⟩ (fun _ _ _ h => h) ?_
    refine VA.va (i := 4) (listed' := LB 17 27) rfl (op_load 0 1 rfl rfl TI3 rfl (by decide) (ltn rfl)) rfl (by kernel_rfl) (by kernel_rfl) (by kernel_rfl) (by kernel_rfl) ⟨trivial, ⟨⟨1, rfl⟩, trivial⟩, trivial⟩ (fun _ _ _ h => h) ?_
    refine VA.va (i := 5) (listed' := LB 17 59) rfl (op_fieldAddr FI27_2 rfl (add_at _ _ _) (ltn rfl)) rfl (by kernel_rfl) (by kernel_rfl) (by kernel_rfl) (by kernel_rfl) ⟨trivial, ⟨⟨1, rfl⟩, trivial⟩, trivial⟩ (fun _ _ _ h => h) ?_
    refine VA.va (i := 6) (listed' := LB 17 123) rfl (op_load 0 1 rfl rfl TI3 rfl (by decide) (ltn rfl)) rfl (by kernel_rfl) (by kernel_rfl) (by kernel_rfl) (by kernel_rfl) ⟨trivial, ⟨⟨1, rfl⟩, trivial⟩, trivial⟩ (fun _ _ _ h => h) ?_
    refine VA.va (i := 7) (listed' := LB 17 251) rfl (op_fieldAddr FI27_3 rfl (add_at _ _ _) (ltn rfl)) rfl (by kernel_rfl) (by kernel_rfl) (by kernel_rfl) (by kernel_rfl) ⟨trivial, ⟨⟨1, rfl⟩, trivial⟩, trivial⟩ (fun _ _ _ h => h) ?_
    refine VA.va (i := 8) (listed' := LB 17 507) rfl (op_load 0 1 rfl rfl TI3 rfl (by decide) (ltn rfl)) rfl (by kernel_rfl) (by kernel_rfl) (by kernel_rfl) (by kernel_rfl) ⟨trivial, ⟨⟨1, rfl⟩, trivial⟩, trivial⟩ (fun _ _ _ h => h) ?_
    refine VA.va (i := 9) (listed' := LB 17 1019) rfl (op_fieldAddr FI27_4 rfl (add_at _ _ _) (ltn rfl)) rfl (by kernel_rfl) (by kernel_rfl) (by kernel_rfl) (by kernel_rfl) ⟨trivial, ⟨⟨1, rfl⟩, trivial⟩, trivial⟩ (fun _ _ _ h => h) ?_
    refine VA.va (i := 10) (listed' := LB 17 2043) rfl (op_load 0 1 rfl rfl TI22 rfl (by decide) (ltn rfl)) rfl (by kernel_rfl) (by kernel_rfl) (by kernel_rfl) (by kernel_rfl) ⟨trivial, ⟨⟨1, rfl⟩, trivial⟩, trivial⟩ (fun _ _ _ h => h) ?_
    refine VA.va (i := 12) (listed' := LB 17 6139) rfl (op_fieldAddr FI27_5 rfl (add_at _ _ _) (ltn rfl)) rfl (by kernel_rfl) (by kernel_rfl) (by kernel_rfl) (by kernel_rfl) ⟨trivial, ⟨⟨1, rfl⟩, trivial⟩, trivial⟩ (fun _ _ _ h => h) ?_
    refine VA.va (i := 13) (listed' := LB 17 14331) rfl (op_load 0 1 rfl rfl TI22 rfl (by decide) (ltn rfl)) rfl (by kernel_rfl) (by kernel_rfl) (by kernel_rfl) (by kernel_rfl) ⟨trivial, ⟨⟨1, rfl⟩, trivial⟩, trivial⟩ (fun _ _ _ h => h) ?_
    refine VA.oneC (i := 2) (listed' := LB 17 14335) (by kernel_rfl) rfl (o_call0 FO7 (tarrylaw05_disk.ok k l0_0 l0_1 v0_0 v0_1 r335 r336 hA337) rfl rfl (ltn rfl) (All_of (.cons (List.mem_of_getElem? (i := 0) rfl) (.cons (List.mem_of_getElem? (i := 1) rfl) .nil)))) rfl (by kernel_rfl) ?_
    rintro _ _ _ ⟨v339, v341, rfl, rfl, rfl⟩
    refine ⟨⟨trivial, ⟨⟨1, rfl⟩, trivial⟩, trivial⟩, ?_⟩
    refine VA.oneC (i := 11) (listed' := LB 17 16383) (by kernel_rfl) rfl (o_call0 FO22 (tarrylaw05_texts.ok k l0_5 18 v0_5 r445 hA446) rfl rfl (ltn rfl) (All_of (.cons (List.mem_of_getElem? (i := 2) rfl) .nil))) rfl (by kernel_rfl) ?_
    rintro v448 _ _ ⟨_, rfl, rfl, rfl⟩
    refine ⟨⟨trivial, ⟨⟨1, rfl⟩, trivial⟩, trivial⟩, ?_⟩
    refine VA.oneC (i := 14) (listed' := LB 17 32767) (by kernel_rfl) rfl (o_call0 FO22 (tarrylaw05_texts.ok k l0_6 60 v0_6 r449 hA450) rfl rfl (ltn rfl) (All_of (.cons (List.mem_of_getElem? (i := 3) rfl) .nil))) rfl (by kernel_rfl) ?_
    rintro v452 _ _ ⟨_, rfl, rfl, rfl⟩
    refine ⟨⟨trivial, ⟨⟨1, rfl⟩, trivial⟩, trivial⟩, ?_⟩
    refine VA.more ⟨0, [], [], [(g10, 27, [v0_0, v0_1, .int .i64 a0_2, .int .i64 a0_3, .int .i64 a0_4, v0_5, v0_6])], [(v452, 9, 1, r449.map enc_str), (v448, 9, 1, r445.map enc_str), (v339, 9, 1, r335.map enc_str), (v341, 56, 2, r336.map enc55)]⟩ ⟨trivial, ⟨⟨0, rfl⟩, trivial⟩, trivial⟩ ?_
    refine VA.va (i := 15) (listed' := LB 17 65535) rfl (op_build (vals := [(0, .agg #[v339, v341]), (1, .int .i64 a0_2), (2, .int .i64 a0_3), (3, .int .i64 a0_4), (4, v448), (5, v452)]) (vcs := [(0, [v339, v341]), (1, [.int .i64 a0_2]), (2, [.int .i64 a0_3]), (3, [.int .i64 a0_4]), (4, [v448]), (5, [v452])]) (cells := [v339, v341, .int .i64 a0_2, .int .i64 a0_3, .int .i64 a0_4, v448, v452]) SI27 rfl (.cons ⟨rfl, (.agg (.r 2 rfl (.r 3 rfl .nil)))⟩ (.cons ⟨rfl, (.c rfl)⟩ (.cons ⟨rfl, (.c rfl)⟩ (.cons ⟨rfl, (.c rfl)⟩ (.cons ⟨rfl, (.r 1 rfl)⟩ (.cons ⟨rfl, (.r 0 rfl)⟩ .nil)))))) (by kernel_rfl) (ltn rfl)) rfl (by kernel_rfl) (by kernel_rfl) (by kernel_rfl) (by kernel_rfl) ⟨trivial, ⟨⟨1, rfl⟩, trivial⟩, ⟨⟨0, rfl⟩, ⟨1, rfl⟩, ⟨2, rfl⟩, ⟨3, rfl⟩, trivial⟩⟩ (fun _ _ _ h => h) ?_
    refine VA.one1 (i := 16) (listed' := LB 17 131071) (by kernel_rfl) rfl (o_store 0 7 rfl rfl rfl TI27 (.agg (.r 2 rfl (.r 3 rfl (.c rfl (.c rfl (.c rfl (.r 1 rfl (.r 0 rfl .nil)))))))) rfl (len rfl)) rfl (by kernel_rfl) ⟨trivial, ⟨⟨1, rfl⟩, trivial⟩, ⟨⟨0, rfl⟩, ⟨1, rfl⟩, ⟨2, rfl⟩, ⟨3, rfl⟩, trivial⟩⟩ ?_
    refine VA.done (by kernel_rfl) ?_
    exact VN.meet4 v339 v341 v448 v452 [0] [0, 1, 2, 3] trivial ⟨rfl, ⟨rfl, trivial⟩, trivial, rfl, by decide, rfl, by decide⟩
  intro v339 v341 v448 v452 _
  refine VC.ret ?_
  simp only [Option.some.injEq, Prod.mk.injEq] at h
  obtain ⟨rfl, rfl, rfl, rfl, rfl, rfl, rfl⟩ := h
  exact VR.fn (rs := [.cell 2 27]) [] [(v339, 9, 1, r335.map enc_str), (v341, 56, 2, r336.map enc55), (v448, 9, 1, r445.map enc_str), (v452, 9, 1, r449.map enc_str)] [2, 3, 1, 0] rfl (.cell 0 rfl rfl TI27 (fun h => absurd h (by decide)) .nil) ⟨v339, v341, v448, v452, rfl, rfl, rfl⟩ trivial rfl (by decide)
set_option maxHeartbeats 4000000 in
set_option maxRecDepth 100000 in
theorem disk_Right_1.ok (a0 : ByteArray)  (r1 : Bool) (h : disk_Right_1.f a0 = some r1) :
    VCalls Try.prog 51 [.string a0] [] (fun v G own => v = .bool r1 ∧ G = [] ∧ own = []) := by
  refine VCalls.intro Try.func51 rfl (len rfl) fun E hC hW hD hU => ?_
  unfold disk_Right_1.f at h
  refine VC.seq ?_
  refine VC.region ?_
  refine VL.va (op_assign rfl (ltn rfl)) rfl ?_
  refine VL.done ?_
  refine VN.then ?_
  refine VC.seq ?_
  refine VC.region ?_
  refine VL.va (op_move rfl (ltn rfl)) rfl ?_
  refine VL.va (op_lens Try.underlying9 rfl (ltn rfl)) rfl ?_
  refine VL.letter (((a0.size : Int) != 64)) fun b499 hb499 => ?_
  refine VL.va (op_cmp rfl rfl (congrArg some hb499) (ltn rfl)) rfl ?_
  refine VL.va (op_assign rfl (ltn rfl)) rfl ?_
  refine VL.done ?_
  refine VN.then ?_
  refine VC.ret ?_
  obtain rfl := Option.some.inj h
  subst hb499
  exact VR.fn (rs := [.tmp 2]) [] [] [] rfl (.tmp rfl .nil) ⟨rfl, rfl, rfl⟩ trivial rfl (by decide)
set_option maxHeartbeats 4000000 in
set_option maxRecDepth 100000 in
theorem slices_IndexFunc_string_string.ok (k : Nat) (l0 : List ByteArray) (v0 : Value) (r1 : Int) (h : slices_IndexFunc_string_string.f k l0 = some r1) :
    VCalls Try.prog 74 [v0, (.func (.func 51) #[] #[])] [.row v0 1 (l0.map enc_str)] (fun v G own => v = .int .i64 r1 ∧ G = [] ∧ own = []) := by
  refine VCalls.intro Try.func74 rfl (len rfl) fun E hC hW hD hU => ?_
  unfold slices_IndexFunc_string_string.f at h
  refine VC.seq ?_
  refine VC.region ?_
  refine VL.va (op_assign rfl (ltn rfl)) rfl ?_
  refine VL.done ?_
  refine VN.then ?_
  refine VC.seq ?_
  refine VC.seq ?_
  refine VC.region ?_
  refine VL.va (op_move rfl (ltn rfl)) rfl ?_
  refine VL.va (op_len (m := l0.length) 0 lenm Try.underlying22 rfl rfl (ltn rfl)) rfl ?_
  refine VL.va (op_move rfl (ltn rfl)) rfl ?_
  refine VL.done ?_
  refine VN.then ?_
  refine VC.block ?_
  refine VC.loop1 (fun (i559 : Int) => ⟨19, [(0, v0), (1, (.func (.func 51) #[] #[])), (4, .int .i64 0), (7, .int .i64 (l0.length : Int)), (8, .int .i64 i559)], [.row v0 1 (l0.map enc_str)], [], []⟩) (fun (ml1 : Nat) (i559 : Int) => slices_IndexFunc_string_string.l1 k l0 ml1 i559 = some r1) k 0 [] [] h ⟨rfl, ⟨rfl, rfl, rfl, rfl, rfl, trivial⟩, ⟨⟨0, rfl⟩, trivial⟩, rfl, by decide, rfl, by decide⟩ (by intros; simp [slices_IndexFunc_string_string.l1]) ?_
  clear h
  intro ml1 ihl1 i559 h
  simp only [slices_IndexFunc_string_string.l1] at h
  refine VC.seq ?_
  refine VC.region ?_
  refine VL.letter (decide (i559 < (l0.length : Int))) fun b577 hb577 => ?_
  refine VL.va (op_cmp rfl rfl (congrArg some hb577) (ltn rfl)) rfl ?_
  refine VL.done ?_
  refine VN.then ?_
  refine VC.seq ?_
  by_cases c579 : i559 < (l0.length : Int)
  · rw [if_pos c579] at h
    obtain rfl : b577 = true := hb577.symm.trans (decide_eq_true c579)
    refine VC.cond_t rfl ?_
    refine VC.skip ?_
    refine VN.then ?_
    refine VC.seq ?_
    refine VC.block ?_
    refine VC.seq ?_
    refine VC.region ?_
    refine VL.va (op_move rfl (ltn rfl)) rfl ?_
    refine VL.va (op_assign rfl (ltn rfl)) rfl ?_
    refine VL.done ?_
    refine VN.then ?_
    refine VC.seq ?_
    refine VC.region ?_
    refine VL.va (op_move rfl (ltn rfl)) rfl ?_
    refine VL.va (op_move rfl (ltn rfl)) rfl ?_
    refine VL.va (op_move rfl (ltn rfl)) rfl ?_
    by_cases c587 : 0 ≤ i559
    · rw [if_pos c587] at h
      replace h := Option.bind_eq_some_iff.1 h
      obtain ⟨x588, hx588, h⟩ := h
      refine VL.open (m := l0.length) 0 lenm rfl (pos_get hx588) ?_
      rintro ad589 n590 rfl
      refine VL.va (op_indexAddr Try.underlying22 TI9 rfl rfl c587 (lt_get c587 hx588) rfl (ltn rfl)) rfl ?_
      refine VL.va (op_load_row (sz := 1) (o := 0) 0 i559.toNat 1 rfl rfl (get_map hx588) TI9 rfl (by decide) (ltn rfl)) rfl ?_
      replace h := Option.bind_eq_some_iff.1 h
      obtain ⟨t591, hA592, h⟩ := h
      refine VL.sC (o_call0 FO51 (disk_Right_1.ok x588 t591 hA592) rfl rfl (ltn rfl) (All_of .nil)) rfl ?_
      rintro _ _ _ ⟨rfl, rfl, rfl⟩
      refine VL.done ?_
      refine VN.then ?_
      by_cases c593 : t591 = true
      · rw [if_pos c593] at h
        obtain rfl := c593
        refine VC.cond_t rfl ?_
        refine VC.seq ?_
        refine VC.region ?_
        refine VL.va (op_move rfl (ltn rfl)) rfl ?_
        refine VL.va (op_assign rfl (ltn rfl)) rfl ?_
        refine VL.done ?_
        refine VN.then ?_
        refine VC.ret ?_
        refine VR.block ?_
        refine VR.then ?_
        refine VR.then ?_
        refine VR.block ?_
        refine VR.then ?_
        obtain rfl := Option.some.inj h
        exact VR.fn (rs := [.tmp 4]) [] [] [] rfl (.tmp rfl .nil) ⟨rfl, rfl, rfl⟩ trivial rfl (by decide)
      · rw [if_neg c593] at h
        obtain rfl := Bool.eq_false_iff.2 c593
        refine VC.cond_f rfl ?_
        refine VC.skip ?_
        refine VN.block ?_
        refine VN.then ?_
        refine VC.region ?_
        refine VL.va (op_ari64 rfl rfl rfl (ltn rfl)) rfl ?_
        refine VL.va (op_move rfl (ltn rfl)) rfl ?_
        refine VL.done ?_
        refine VN.again [] [] (ihl1 (wrap64 (i559 + 1)) h) ⟨rfl, ⟨rfl, rfl, rfl, rfl, rfl, trivial⟩, ⟨⟨0, rfl⟩, trivial⟩, rfl, by decide, rfl, by decide⟩
    · rw [if_neg c587] at h; cases h
  · rw [if_neg c579] at h
    obtain rfl : b577 = false := hb577.symm.trans (decide_eq_false c579)
    refine VC.cond_f rfl ?_
    refine VC.exit ?_
    refine VX.then ?_
    refine VX.then ?_
    refine VX.hit ?_
    refine VN.then ?_
    refine VC.seq ?_
    refine VC.region ?_
    refine VL.va (op_assign rfl (ltn rfl)) rfl ?_
    refine VL.done ?_
    refine VN.then ?_
    refine VC.ret ?_
    obtain rfl := Option.some.inj h
    exact VR.fn (rs := [.tmp 4]) [] [] [] rfl (.tmp rfl .nil) ⟨rfl, rfl, rfl⟩ trivial rfl (by decide)
set_option maxHeartbeats 4000000 in
set_option maxRecDepth 100000 in
theorem slices_ContainsFunc_string_string.ok (k : Nat) (l0 : List ByteArray) (v0 : Value) (r1 : Bool) (h : slices_ContainsFunc_string_string.f k l0 = some r1) :
    VCalls Try.prog 53 [v0, (.func (.func 51) #[] #[])] [.row v0 1 (l0.map enc_str)] (fun v G own => v = .bool r1 ∧ G = [] ∧ own = []) := by
  refine VCalls.intro Try.func53 rfl (len rfl) fun E hC hW hD hU => ?_
  unfold slices_ContainsFunc_string_string.f at h
  refine VC.seq ?_
  refine VC.region ?_
  refine VL.va (op_assign rfl (ltn rfl)) rfl ?_
  refine VL.done ?_
  refine VN.then ?_
  refine VC.seq ?_
  refine VC.region ?_
  refine VL.va (op_move rfl (ltn rfl)) rfl ?_
  refine VL.va (op_move rfl (ltn rfl)) rfl ?_
  replace h := Option.bind_eq_some_iff.1 h
  obtain ⟨t594, hA595, h⟩ := h
  refine VL.sC (o_call0 FO74 (slices_IndexFunc_string_string.ok k l0 v0 t594 hA595) rfl rfl (ltn rfl) (All_of (.cons (List.mem_of_getElem? (i := 0) rfl) .nil))) rfl ?_
  rintro _ _ _ ⟨rfl, rfl, rfl⟩
  refine VL.letter (decide (t594 ≥ 0)) fun b596 hb596 => ?_
  refine VL.va (op_cmp rfl rfl (congrArg some hb596) (ltn rfl)) rfl ?_
  refine VL.va (op_assign rfl (ltn rfl)) rfl ?_
  refine VL.done ?_
  refine VN.then ?_
  refine VC.ret ?_
  obtain rfl := Option.some.inj h
  subst hb596
  exact VR.fn (rs := [.tmp 4]) [] [] [] rfl (.tmp rfl .nil) ⟨rfl, rfl, rfl⟩ trivial rfl (by decide)
set_option maxHeartbeats 4000000 in
set_option maxRecDepth 100000 in
theorem disk_Right_2.ok (a0_0 : Int) (a0_1 : ByteArray) (a1_0 : Int) (p1 : Nat) (p2 : Nat) (r1 : Bool) (h : disk_Right_2.f a0_0 a0_1 a1_0 = some r1) :
    VCalls Try.prog 52 [.agg #[.int .i64 a0_0, .string a0_1], .pointer (some ⟨p1, 0, none⟩), .pointer (some ⟨p2, 0, none⟩)] [.at_ ⟨p1, 0, none⟩ [.int .i64 a1_0], .at_ ⟨p2, 0, none⟩ [(.func (.func 51) #[] #[])]] (fun v G own => v = .bool r1 ∧ G = [] ∧ own = []) := by
  refine VCalls.intro Try.func52 rfl (len rfl) fun E hC hW hD hU => ?_
  unfold disk_Right_2.f at h
  refine VC.seq ?_
  refine VC.region ?_
  refine VL.sG (o_box rfl (.agg (.of rfl)) (ltn rfl)) rfl ?_
  intro g608
  refine VL.va (op_assign rfl (ltn rfl)) rfl ?_
  refine VL.done ?_
  refine VN.then ?_
  refine VC.seq ?_
  refine VC.region ?_
  refine VL.va (op_fieldAddr FI56_0 rfl (add_at _ _ _) (ltn rfl)) rfl ?_
  refine VL.va (op_load 0 1 rfl rfl TI3 rfl (by decide) (ltn rfl)) rfl ?_
  refine VL.letter (decide (a0_0 < 0)) fun b615 hb615 => ?_
  refine VL.va (op_cmp rfl rfl (congrArg some hb615) (ltn rfl)) rfl ?_
  refine VL.va (op_move rfl (ltn rfl)) rfl ?_
  by_cases c616 : a0_0 < 0
  · rw [if_pos c616] at h
    obtain rfl : b615 = true := hb615.symm.trans (decide_eq_true c616)
    refine VL.un rfl rfl (ltn rfl) ?_
    refine VL.un rfl rfl (ltn rfl) ?_
    refine VL.un rfl rfl (ltn rfl) ?_
    refine VL.un rfl rfl (ltn rfl) ?_
    refine VL.va (op_pick rfl rfl (ltn rfl)) rfl ?_
    refine VL.va (op_move rfl (ltn rfl)) rfl ?_
    refine VL.un rfl rfl (ltn rfl) ?_
    refine VL.un rfl rfl (ltn rfl) ?_
    refine VL.un rfl rfl (ltn rfl) ?_
    refine VL.un rfl rfl (ltn rfl) ?_
    refine VL.va (op_pick rfl rfl (ltn rfl)) rfl ?_
    refine VL.va (op_assign rfl (ltn rfl)) rfl ?_
    refine VL.done ?_
    refine VN.then ?_
    refine VC.ret ?_
    obtain rfl := Option.some.inj h
    exact VR.fn (rs := [.tmp 4]) [] [] [] rfl (.tmp rfl .nil) ⟨rfl, rfl, rfl⟩ trivial rfl (by decide)
  · rw [if_neg c616] at h
    obtain rfl : b615 = false := hb615.symm.trans (decide_eq_false c616)
    refine VL.va (op_fieldAddr FI56_0 rfl (add_at _ _ _) (ltn rfl)) rfl ?_
    refine VL.va (op_load 0 1 rfl rfl TI3 rfl (by decide) (ltn rfl)) rfl ?_
    refine VL.va (op_load_at (ad := ⟨p1, 0, none⟩) 0 0 1 (by first | rfl | exact congrArg (fun a => some (Value.pointer (some a))) (add_at _ 0 _).symm) rfl TI3 rfl (by decide) (ltn rfl)) rfl ?_
    refine VL.letter (decide (a0_0 ≥ a1_0)) fun b617 hb617 => ?_
    refine VL.va (op_cmp rfl rfl (congrArg some hb617) (ltn rfl)) rfl ?_
    refine VL.va (op_pick rfl rfl (ltn rfl)) rfl ?_
    refine VL.va (op_move rfl (ltn rfl)) rfl ?_
    by_cases c618 : a0_0 ≥ a1_0
    · rw [if_pos c618] at h
      obtain rfl : b617 = true := hb617.symm.trans (decide_eq_true c618)
      refine VL.un rfl rfl (ltn rfl) ?_
      refine VL.un rfl rfl (ltn rfl) ?_
      refine VL.un rfl rfl (ltn rfl) ?_
      refine VL.un rfl rfl (ltn rfl) ?_
      refine VL.va (op_pick rfl rfl (ltn rfl)) rfl ?_
      refine VL.va (op_assign rfl (ltn rfl)) rfl ?_
      refine VL.done ?_
      refine VN.then ?_
      refine VC.ret ?_
      obtain rfl := Option.some.inj h
      exact VR.fn (rs := [.tmp 4]) [] [] [] rfl (.tmp rfl .nil) ⟨rfl, rfl, rfl⟩ trivial rfl (by decide)
    · rw [if_neg c618] at h
      obtain rfl : b617 = false := hb617.symm.trans (decide_eq_false c618)
      refine VL.va (op_load_at (ad := ⟨p2, 0, none⟩) 1 0 1 (by first | rfl | exact congrArg (fun a => some (Value.pointer (some a))) (add_at _ 0 _).symm) rfl TI87 rfl (by decide) (ltn rfl)) rfl ?_
      refine VL.va (op_fieldAddr FI56_1 rfl (add_at _ _ _) (ltn rfl)) rfl ?_
      refine VL.va (op_load 0 1 rfl rfl TI9 rfl (by decide) (ltn rfl)) rfl ?_
      replace h := Option.bind_eq_some_iff.1 h
      obtain ⟨t619, hA620, h⟩ := h
      refine VL.sC (o_call0 FO51 (disk_Right_1.ok a0_1 t619 hA620) rfl rfl (ltn rfl) (All_of .nil)) rfl ?_
      rintro _ _ _ ⟨rfl, rfl, rfl⟩
      refine VL.va (op_pick rfl rfl (ltn rfl)) rfl ?_
      refine VL.va (op_assign rfl (ltn rfl)) rfl ?_
      refine VL.done ?_
      refine VN.then ?_
      refine VC.ret ?_
      obtain rfl := Option.some.inj h
      exact VR.fn (rs := [.tmp 4]) [] [] [] rfl (.tmp rfl .nil) ⟨rfl, rfl, rfl⟩ trivial rfl (by decide)
set_option maxHeartbeats 4000000 in
set_option maxRecDepth 100000 in
theorem slices_IndexFunc_api_Write_api_Write.ok (k : Nat) (l0 : List S55) (a1_0_0 : Int) (v0 : Value) (p1_0 : Nat) (p1_1 : Nat) (r1 : Int) (h : slices_IndexFunc_api_Write_api_Write.f k l0 a1_0_0 = some r1) :
    VCalls Try.prog 75 [v0, (.func (.func 52) #[] #[.pointer (some ⟨p1_0, 0, none⟩), .pointer (some ⟨p1_1, 0, none⟩)])] [.row v0 2 (l0.map enc55), .at_ ⟨p1_0, 0, none⟩ [.int .i64 a1_0_0], .at_ ⟨p1_1, 0, none⟩ [(.func (.func 51) #[] #[])]] (fun v G own => v = .int .i64 r1 ∧ G = [] ∧ own = []) := by
  refine VCalls.intro Try.func75 rfl (len rfl) fun E hC hW hD hU => ?_
  unfold slices_IndexFunc_api_Write_api_Write.f at h
  refine VC.seq ?_
  refine VC.region ?_
  refine VL.va (op_assign rfl (ltn rfl)) rfl ?_
  refine VL.done ?_
  refine VN.then ?_
  refine VC.seq ?_
  refine VC.seq ?_
  refine VC.region ?_
  refine VL.va (op_move rfl (ltn rfl)) rfl ?_
  refine VL.va (op_len (m := l0.length) 0 lenm Try.underlying23 rfl rfl (ltn rfl)) rfl ?_
  refine VL.va (op_move rfl (ltn rfl)) rfl ?_
  refine VL.done ?_
  refine VN.then ?_
  refine VC.block ?_
  refine VC.loop1 (fun (i680 : Int) => ⟨19, [(0, v0), (1, (.func (.func 52) #[] #[.pointer (some ⟨p1_0, 0, none⟩), .pointer (some ⟨p1_1, 0, none⟩)])), (4, .int .i64 0), (7, .int .i64 (l0.length : Int)), (8, .int .i64 i680)], [.at_ ⟨p1_0, 0, none⟩ [.int .i64 a1_0_0], .at_ ⟨p1_1, 0, none⟩ [(.func (.func 51) #[] #[])], .row v0 2 (l0.map enc55)], [], []⟩) (fun (ml1 : Nat) (i680 : Int) => slices_IndexFunc_api_Write_api_Write.l1 k a1_0_0 l0 ml1 i680 = some r1) k 0 [] [] h ⟨rfl, ⟨rfl, rfl, rfl, rfl, rfl, trivial⟩, ⟨⟨1, rfl⟩, ⟨2, rfl⟩, ⟨0, rfl⟩, trivial⟩, rfl, by decide, rfl, by decide⟩ (by intros; simp [slices_IndexFunc_api_Write_api_Write.l1]) ?_
  clear h
  intro ml1 ihl1 i680 h
  simp only [slices_IndexFunc_api_Write_api_Write.l1] at h
  refine VC.seq ?_
  refine VC.region ?_
  refine VL.letter (decide (i680 < (l0.length : Int))) fun b698 hb698 => ?_
  refine VL.va (op_cmp rfl rfl (congrArg some hb698) (ltn rfl)) rfl ?_
  refine VL.done ?_
  refine VN.then ?_
  refine VC.seq ?_
  by_cases c700 : i680 < (l0.length : Int)
  · rw [if_pos c700] at h
    obtain rfl : b698 = true := hb698.symm.trans (decide_eq_true c700)
    refine VC.cond_t rfl ?_
    refine VC.skip ?_
    refine VN.then ?_
    refine VC.seq ?_
    refine VC.block ?_
    refine VC.seq ?_
    refine VC.region ?_
    refine VL.va (op_move rfl (ltn rfl)) rfl ?_
    refine VL.va (op_assign rfl (ltn rfl)) rfl ?_
    refine VL.done ?_
    refine VN.then ?_
    refine VC.seq ?_
    refine VC.region ?_
    refine VL.va (op_move rfl (ltn rfl)) rfl ?_
    refine VL.va (op_move rfl (ltn rfl)) rfl ?_
    refine VL.va (op_move rfl (ltn rfl)) rfl ?_
    by_cases c708 : 0 ≤ i680
    · rw [if_pos c708] at h
      replace h := Option.bind_eq_some_iff.1 h
      obtain ⟨x709, hx709, h⟩ := h
      refine VL.open (m := l0.length) 2 lenm rfl (pos_get hx709) ?_
      rintro ad710 n711 rfl
      refine VL.va (op_indexAddr Try.underlying23 TI56 rfl rfl c708 (lt_get c708 hx709) rfl (ltn rfl)) rfl ?_
      refine VL.va (op_load_row (sz := 2) (o := 0) 2 i680.toNat 2 rfl rfl (get_map hx709) TI56 rfl (fun h => absurd h (by decide)) (ltn rfl)) rfl ?_
      replace h := Option.bind_eq_some_iff.1 h
      obtain ⟨t712, hA713, h⟩ := h
      refine VL.sC (o_call (vals := [.agg #[.int .i64 x709.f0, .string x709.f1]]) (caps := [.pointer (some ⟨p1_0, 0, none⟩), .pointer (some ⟨p1_1, 0, none⟩)]) FO52 (disk_Right_2.ok x709.f0 x709.f1 a1_0_0 p1_0 p1_1 t712 hA713) rfl rfl (ltn rfl) (All_of (.cons (List.mem_of_getElem? (i := 0) rfl) (.cons (List.mem_of_getElem? (i := 1) rfl) .nil)))) rfl ?_
      rintro _ _ _ ⟨rfl, rfl, rfl⟩
      refine VL.done ?_
      refine VN.then ?_
      by_cases c714 : t712 = true
      · rw [if_pos c714] at h
        obtain rfl := c714
        refine VC.cond_t rfl ?_
        refine VC.seq ?_
        refine VC.region ?_
        refine VL.va (op_move rfl (ltn rfl)) rfl ?_
        refine VL.va (op_assign rfl (ltn rfl)) rfl ?_
        refine VL.done ?_
        refine VN.then ?_
        refine VC.ret ?_
        refine VR.block ?_
        refine VR.then ?_
        refine VR.then ?_
        refine VR.block ?_
        refine VR.then ?_
        obtain rfl := Option.some.inj h
        exact VR.fn (rs := [.tmp 4]) [] [] [] rfl (.tmp rfl .nil) ⟨rfl, rfl, rfl⟩ trivial rfl (by decide)
      · rw [if_neg c714] at h
        obtain rfl := Bool.eq_false_iff.2 c714
        refine VC.cond_f rfl ?_
        refine VC.skip ?_
        refine VN.block ?_
        refine VN.then ?_
        refine VC.region ?_
        refine VL.va (op_ari64 rfl rfl rfl (ltn rfl)) rfl ?_
        refine VL.va (op_move rfl (ltn rfl)) rfl ?_
        refine VL.done ?_
        refine VN.again [] [] (ihl1 (wrap64 (i680 + 1)) h) ⟨rfl, ⟨rfl, rfl, rfl, rfl, rfl, trivial⟩, ⟨⟨0, rfl⟩, ⟨1, rfl⟩, ⟨2, rfl⟩, trivial⟩, rfl, by decide, rfl, by decide⟩
    · rw [if_neg c708] at h; cases h
  · rw [if_neg c700] at h
    obtain rfl : b698 = false := hb698.symm.trans (decide_eq_false c700)
    refine VC.cond_f rfl ?_
    refine VC.exit ?_
    refine VX.then ?_
    refine VX.then ?_
    refine VX.hit ?_
    refine VN.then ?_
    refine VC.seq ?_
    refine VC.region ?_
    refine VL.va (op_assign rfl (ltn rfl)) rfl ?_
    refine VL.done ?_
    refine VN.then ?_
    refine VC.ret ?_
    obtain rfl := Option.some.inj h
    exact VR.fn (rs := [.tmp 4]) [] [] [] rfl (.tmp rfl .nil) ⟨rfl, rfl, rfl⟩ trivial rfl (by decide)
set_option maxHeartbeats 4000000 in
set_option maxRecDepth 100000 in
theorem slices_ContainsFunc_api_Write_api_Write.ok (k : Nat) (l0 : List S55) (a1_0_0 : Int) (v0 : Value) (p1_0 : Nat) (p1_1 : Nat) (r1 : Bool) (h : slices_ContainsFunc_api_Write_api_Write.f k l0 a1_0_0 = some r1) :
    VCalls Try.prog 54 [v0, (.func (.func 52) #[] #[.pointer (some ⟨p1_0, 0, none⟩), .pointer (some ⟨p1_1, 0, none⟩)])] [.row v0 2 (l0.map enc55), .at_ ⟨p1_0, 0, none⟩ [.int .i64 a1_0_0], .at_ ⟨p1_1, 0, none⟩ [(.func (.func 51) #[] #[])]] (fun v G own => v = .bool r1 ∧ G = [] ∧ own = []) := by
  refine VCalls.intro Try.func54 rfl (len rfl) fun E hC hW hD hU => ?_
  unfold slices_ContainsFunc_api_Write_api_Write.f at h
  refine VC.seq ?_
  refine VC.region ?_
  refine VL.va (op_assign rfl (ltn rfl)) rfl ?_
  refine VL.done ?_
  refine VN.then ?_
  refine VC.seq ?_
  refine VC.region ?_
  refine VL.va (op_move rfl (ltn rfl)) rfl ?_
  refine VL.va (op_move rfl (ltn rfl)) rfl ?_
  replace h := Option.bind_eq_some_iff.1 h
  obtain ⟨t715, hA716, h⟩ := h
  refine VL.sC (o_call0 FO75 (slices_IndexFunc_api_Write_api_Write.ok k l0 a1_0_0 v0 p1_0 p1_1 t715 hA716) rfl rfl (ltn rfl) (All_of (.cons (List.mem_of_getElem? (i := 0) rfl) (.cons (List.mem_of_getElem? (i := 1) rfl) (.cons (List.mem_of_getElem? (i := 2) rfl) .nil))))) rfl ?_
  rintro _ _ _ ⟨rfl, rfl, rfl⟩
  refine VL.letter (decide (t715 ≥ 0)) fun b717 hb717 => ?_
  refine VL.va (op_cmp rfl rfl (congrArg some hb717) (ltn rfl)) rfl ?_
  refine VL.va (op_assign rfl (ltn rfl)) rfl ?_
  refine VL.done ?_
  refine VN.then ?_
  refine VC.ret ?_
  obtain rfl := Option.some.inj h
  subst hb717
  exact VR.fn (rs := [.tmp 4]) [] [] [] rfl (.tmp rfl .nil) ⟨rfl, rfl, rfl⟩ trivial rfl (by decide)

end Go.Proofs.Ytipeglbeongfmaa.PJournalUnused
