/- Written by a program of this repo: what the program's functions do, each as a Lean function, shown of the loaded code; or a statement's row over that; no condition of its own. -/
import Derived.Test.YtlfkendmepdbkaaPDiskCrashesx3
namespace Go.Proofs.Ytlfkendmepdbkaa.PDiskCrashes
open Go Go.RowKit Go.Proofs.YtlfkendmepdbkaaV
set_option linter.unusedVariables false
set_option linter.unusedSimpArgs false

set_option maxHeartbeats 4000000 in
set_option maxRecDepth 100000 in
theorem tarrylaw03_DiskCrashes.ok (k : Nat) (l0_0 : List ByteArray) (l0_1 : List S32) (a1 : Int) (a2 : Int) (v0_0 : Value) (v0_1 : Value) (r1 : Bool) (h : tarrylaw03_DiskCrashes.f k l0_0 l0_1 a1 a2 = some r1) :
    VCalls Try.prog 3 [.agg #[v0_0, v0_1], .int .u64 a1, .int .i64 a2] [.row v0_0 1 (l0_0.map enc_str), .row v0_1 2 (l0_1.map enc32)] (fun v G own => v = .bool r1 ∧ G = [] ∧ own = []) := by
  refine VCalls.intro Try.func3 rfl (len rfl) fun E hC hW hD hU => ?_
  unfold tarrylaw03_DiskCrashes.f at h
  refine VC.seq ?_
  refine VC.region ?_
  refine VL.sG (o_box rfl (.agg (.f 0 rfl (.f 1 rfl .nil))) (ltn rfl)) rfl ?_
  intro g3
  refine VL.va (op_assign rfl (ltn rfl)) rfl ?_
  refine VL.done ?_
  refine VN.then ?_
  refine VC.seq ?_
  refine VC.region ?_
  refine VL.va (op_load 0 2 rfl rfl TI25 rfl (fun h => absurd h (by decide)) (ltn rfl)) rfl ?_
  replace h := Option.bind_eq_some_iff.1 h
  obtain ⟨⟨r327, r328⟩, hA329, h⟩ := h
  dsimp only at h
  refine VL.sC (o_call0 FO6 (tarrylaw03_few.ok k l0_0 l0_1 v0_0 v0_1 r327 r328 hA329) rfl rfl (ltn rfl) (All_of (.cons (List.mem_of_getElem? (i := 0) rfl) (.cons (List.mem_of_getElem? (i := 1) rfl) .nil)))) rfl ?_
  rintro _ _ _ ⟨v331, v333, rfl, rfl, rfl⟩
  refine VL.step1 (o_store 0 2 rfl rfl rfl TI25 (.agg (.r 0 rfl (.r 1 rfl .nil))) rfl (len rfl)) rfl ?_
  refine VL.done ?_
  refine VN.then ?_
  refine VC.seq ?_
  refine VC.region ?_
  refine VL.va (op_load 0 2 rfl rfl TI25 rfl (fun h => absurd h (by decide)) (ltn rfl)) rfl ?_
  refine VL.va (op_move rfl (ltn rfl)) rfl ?_
  refine VL.va (op_move rfl (ltn rfl)) rfl ?_
  replace h := Option.bind_eq_some_iff.1 h
  obtain ⟨⟨r1081, r1082, t1083⟩, hA1084, h⟩ := h
  dsimp only at h
  refine VL.sC (o_call_b0 FO7 (disk_Crash.ok k r327 r328 a1 a2 v331 v333 r1081 r1082 t1083 hA1084) rfl rfl (ltn rfl) (All_of (.cons (.inr (.inl ⟨_, List.mem_of_getElem? (i := 0) rfl, rfl⟩)) (.cons (.inr (.inl ⟨_, List.mem_of_getElem? (i := 1) rfl, rfl⟩)) .nil))) (by rintro _ _ _ ⟨v1086, v1088, rfl, rfl, rfl⟩; rfl)) rfl ?_
  rintro _ _ _ ⟨v1086, v1088, rfl, rfl, rfl⟩
  refine VL.va (op_move rfl (ltn rfl)) rfl ?_
  refine VL.va (op_extract rfl rfl (ltn rfl)) rfl ?_
  refine VL.va (op_extract rfl rfl (ltn rfl)) rfl ?_
  refine VL.sG (o_alloc Z25 ZL25 (ltn rfl)) rfl ?_
  intro g1089
  refine VL.step1 (o_store 0 2 rfl rfl rfl TI25 (.agg (.r 0 rfl (.r 1 rfl .nil))) rfl (len rfl)) rfl ?_
  refine VL.va (op_assign rfl (ltn rfl)) rfl ?_
  refine VL.done ?_
  refine VN.then ?_
  refine VC.seq ?_
  refine VC.seq ?_
  refine VC.region ?_
  refine VL.va (op_move rfl (ltn rfl)) rfl ?_
  refine VL.letter ((t1083 != 0)) fun b1465 hb1465 => ?_
  refine VL.va (op_cmp rfl rfl (congrArg some hb1465) (ltn rfl)) rfl ?_
  refine VL.done ?_
  refine VN.then ?_
  by_cases c1466 : t1083 = 0
  · rw [if_pos c1466] at h
    obtain rfl : b1465 = false := hb1465.symm.trans (bne_eq_false_iff_eq.2 c1466)
    refine VC.cond_f rfl ?_
    refine VC.skip ?_
    refine VN.then ?_
    refine VC.seq ?_
    refine VC.seq ?_
    refine VC.region ?_
    refine VL.va (op_fieldAddr FI25_1 rfl (add_at _ _ _) (ltn rfl)) rfl ?_
    refine VL.va (op_load 0 1 rfl rfl TI23 rfl (by decide) (ltn rfl)) rfl ?_
    refine VL.va (op_len_own (m := r1082.length) 1 lenm Try.underlying23 rfl rfl (ltn rfl)) rfl ?_
    refine VL.letter (((r1082.length : Int) != 0)) fun b1488 hb1488 => ?_
    refine VL.va (op_cmp rfl rfl (congrArg some hb1488) (ltn rfl)) rfl ?_
    refine VL.va (op_move rfl (ltn rfl)) rfl ?_
    by_cases c1489 : (r1082.length : Int) = 0
    · rw [if_pos c1489] at h
      obtain rfl : b1488 = false := hb1488.symm.trans (bne_eq_false_iff_eq.2 c1489)
      refine VL.va (op_fieldAddr FI25_0 rfl (add_at _ _ _) (ltn rfl)) rfl ?_
      refine VL.va (op_load 0 1 rfl rfl TI22 rfl (by decide) (ltn rfl)) rfl ?_
      refine VL.va (op_len_own (m := r1081.length) 0 lenm Try.underlying22 rfl rfl (ltn rfl)) rfl ?_
      refine VL.va (op_fieldAddr FI25_0 rfl (add_at _ _ _) (ltn rfl)) rfl ?_
      refine VL.va (op_load 1 1 rfl rfl TI22 rfl (by decide) (ltn rfl)) rfl ?_
      refine VL.va (op_len_own (m := r327.length) 2 lenm Try.underlying22 rfl rfl (ltn rfl)) rfl ?_
      refine VL.letter (((r1081.length : Int) != (r327.length : Int))) fun b1490 hb1490 => ?_
      refine VL.va (op_cmp rfl rfl (congrArg some hb1490) (ltn rfl)) rfl ?_
      refine VL.va (op_pick rfl rfl (ltn rfl)) rfl ?_
      refine VL.va (op_move rfl (ltn rfl)) rfl ?_
      by_cases c1491 : (r1081.length : Int) = (r327.length : Int)
      · rw [if_pos c1491] at h
        obtain rfl : b1490 = false := hb1490.symm.trans (bne_eq_false_iff_eq.2 c1491)
        replace h := Option.bind_eq_some_iff.1 h
        obtain ⟨t1492, hA1493, h⟩ := h
        refine VL.sC (o_call0 FO8 (tarrylaw03_alive.ok k t1492 hA1493) rfl rfl (ltn rfl) (All_of .nil)) rfl ?_
        rintro _ _ _ ⟨rfl, rfl, rfl⟩
        by_cases c1494 : t1492 = true
        · rw [if_pos c1494] at h
          obtain rfl := c1494
          refine VL.va (op_not rfl rfl (ltn rfl)) rfl ?_
          refine VL.va (op_pick rfl rfl (ltn rfl)) rfl ?_
          refine VL.done ?_
          refine VN.then ?_
          refine VC.cond_f rfl ?_
          refine VC.skip ?_
          refine VN.then ?_
          refine VC.seq ?_
          refine VC.seq ?_
          refine VC.region ?_
          refine VL.va (op_fieldAddr FI25_0 rfl (add_at _ _ _) (ltn rfl)) rfl ?_
          refine VL.va (op_load 0 1 rfl rfl TI22 rfl (by decide) (ltn rfl)) rfl ?_
          refine VL.va (op_len_own (m := r1081.length) 0 lenm Try.underlying22 rfl rfl (ltn rfl)) rfl ?_
          refine VL.va (op_move rfl (ltn rfl)) rfl ?_
          refine VL.done ?_
          refine VN.then ?_
          refine VC.block ?_
          refine VC.loop1 (fun (i8762 : Int) => ⟨102, [(3, .pointer (some ⟨g3, 0, none⟩)), (6, .bool false), (49, v1086), (50, .int .i64 (r1081.length : Int)), (51, .int .i64 i8762)], [], [(g3, 25, [v331, v333])], [(v1086, 9, 1, r1081.map enc_str), (v331, 9, 1, r327.map enc_str), (v333, 33, 2, r328.map enc32)]⟩) (fun (ml11 : Nat) (i8762 : Int) => tarrylaw03_DiskCrashes.l11 k r1081 r327 r328 ml11 i8762 = some r1) k 0 [1] [0, 2, 3] h ⟨rfl, ⟨rfl, rfl, rfl, rfl, rfl, trivial⟩, trivial, rfl, by decide, rfl, by decide⟩ (by intros; simp [tarrylaw03_DiskCrashes.l11]) ?_
          clear h
          intro ml11 ihl11 i8762 h
          simp only [tarrylaw03_DiskCrashes.l11] at h
          refine VC.seq ?_
          refine VC.region ?_
          refine VL.letter (decide (i8762 < (r1081.length : Int))) fun b10580 hb10580 => ?_
          refine VL.va (op_cmp rfl rfl (congrArg some hb10580) (ltn rfl)) rfl ?_
          refine VL.done ?_
          refine VN.then ?_
          refine VC.seq ?_
          by_cases c10582 : i8762 < (r1081.length : Int)
          · rw [if_pos c10582] at h
            obtain rfl : b10580 = true := hb10580.symm.trans (decide_eq_true c10582)
            refine VC.cond_t rfl ?_
            refine VC.skip ?_
            refine VN.then ?_
            refine VC.seq ?_
            refine VC.block ?_
            refine VC.seq ?_
            refine VC.region ?_
            refine VL.va (op_move rfl (ltn rfl)) rfl ?_
            by_cases c11490 : 0 ≤ i8762
            · rw [if_pos c11490] at h
              replace h := Option.bind_eq_some_iff.1 h
              obtain ⟨x11491, hx11491, h⟩ := h
              refine VL.openR (m := r1081.length) 0 lenm rfl (pos_get hx11491) ?_
              rintro g11492 n11493 rfl
              refine VL.va (op_indexAddr Try.underlying22 TI9 rfl rfl c11490 (lt_get c11490 hx11491) (add_zero_at _ _) (ltn rfl)) rfl ?_
              refine VL.va (op_load_own (sz := 1) (o := 0) 0 i8762.toNat 1 rfl rfl (get_map hx11491) TI9 rfl (by decide) (ltn rfl)) rfl ?_
              refine VL.va (op_assign rfl (ltn rfl)) rfl ?_
              refine VL.va (op_assign rfl (ltn rfl)) rfl ?_
              refine VL.done ?_
              refine VN.then ?_
              refine VC.seq ?_
              refine VC.seq ?_
              refine VC.region ?_
              refine VL.va (op_move rfl (ltn rfl)) rfl ?_
              refine VL.va (op_lens Try.underlying9 rfl (ltn rfl)) rfl ?_
              refine VL.letter (((x11491.size : Int) != 64)) fun b11496 hb11496 => ?_
              refine VL.va (op_cmp rfl rfl (congrArg some hb11496) (ltn rfl)) rfl ?_
              refine VL.done ?_
              refine VN.then ?_
              by_cases c11497 : (x11491.size : Int) = 64
              · rw [if_pos c11497] at h
                obtain rfl : b11496 = false := hb11496.symm.trans (bne_eq_false_iff_eq.2 c11497)
                refine VC.cond_f rfl ?_
                refine VC.skip ?_
                refine VN.then ?_
                refine VC.seq ?_
                refine VC.region ?_
                refine VL.va (op_move rfl (ltn rfl)) rfl ?_
                refine VL.done ?_
                refine VN.then ?_
                refine VC.block ?_
                refine VC.loop1 (fun (i11794 : Int) => ⟨102, [(3, .pointer (some ⟨g3, 0, none⟩)), (6, .bool false), (9, .int .i64 i8762), (10, .string x11491), (49, (.slice (some ⟨g11492, 0, none⟩) r1081.length n11493)), (50, .int .i64 (r1081.length : Int)), (51, .int .i64 i8762), (52, .bool true), (53, .int .i64 i8762), (55, .string x11491), (56, .string x11491), (57, .int .i64 (x11491.size : Int)), (58, .bool false), (59, .int .i64 i11794)], [], [(g3, 25, [v331, v333])], [((.slice (some ⟨g11492, 0, none⟩) r1081.length n11493), 9, 1, r1081.map enc_str), (v331, 9, 1, r327.map enc_str), (v333, 33, 2, r328.map enc32)]⟩) (fun (ml17 : Nat) (i11794 : Int) => tarrylaw03_DiskCrashes.l17 k (tarrylaw03_DiskCrashes.l11 k r1081 r327 r328 ml11) i8762 r327 r328 x11491 ml17 i11794 = some r1) k 0 [0] [0, 1, 2] h ⟨rfl, ⟨rfl, rfl, rfl, rfl, rfl, rfl, rfl, rfl, rfl, rfl, rfl, rfl, rfl, rfl, trivial⟩, trivial, rfl, by decide, rfl, by decide⟩ (by intros; simp [tarrylaw03_DiskCrashes.l17]) ?_
                clear h
                intro ml17 ihl17 i11794 h
                simp only [tarrylaw03_DiskCrashes.l17] at h
                refine VC.seq ?_
                refine VC.region ?_
                refine VL.letter (decide (i11794 < 64)) fun b12096 hb12096 => ?_
                refine VL.va (op_cmp rfl rfl (congrArg some hb12096) (ltn rfl)) rfl ?_
                refine VL.done ?_
                refine VN.then ?_
                refine VC.seq ?_
                by_cases c12098 : i11794 < 64
                · rw [if_pos c12098] at h
                  obtain rfl : b12096 = true := hb12096.symm.trans (decide_eq_true c12098)
                  refine VC.cond_t rfl ?_
                  refine VC.skip ?_
                  refine VN.then ?_
                  refine VC.seq ?_
                  refine VC.block ?_
                  refine VC.seq ?_
                  refine VC.region ?_
                  refine VL.va (op_move rfl (ltn rfl)) rfl ?_
                  refine VL.va (op_assign rfl (ltn rfl)) rfl ?_
                  refine VL.done ?_
                  refine VN.then ?_
                  by_cases c12248 : 0 ≤ i11794
                  · rw [if_pos c12248] at h
                    by_cases c12249 : i11794 < (x11491.size : Int)
                    · rw [if_pos c12249] at h
                      replace h := Option.bind_eq_some_iff.1 h
                      obtain ⟨x12250, hx12250, h⟩ := h
                      by_cases c12251 : i11794 < (x12250.size : Int)
                      · rw [if_pos c12251] at h
                        refine VC.letter (((bt x11491 i11794) == (bt x12250 i11794))) fun b12252 hb12252 => ?_
                        refine VC.openR (m := r327.length) 1 lenm rfl (pos_get hx12250) ?_
                        rintro g1507 n1508 rfl
                        refine VC.join0 (⟨102, [(3, .pointer (some ⟨g3, 0, none⟩)), (6, .bool false), (9, .int .i64 i8762), (10, .string x11491), (11, .int .i64 i11794), (12, .bool b12252), (49, (.slice (some ⟨g11492, 0, none⟩) r1081.length n11493)), (50, .int .i64 (r1081.length : Int)), (51, .int .i64 i8762), (52, .bool true), (53, .int .i64 i8762), (55, .string x11491), (56, .string x11491), (57, .int .i64 (x11491.size : Int)), (58, .bool false), (59, .int .i64 i11794), (60, .bool true), (61, .int .i64 i11794), (62, .string x11491), (63, .int .i64 i11794), (64, .int .u8 (bt x11491 i11794)), (65, .pointer (some ⟨g3, 0, none⟩)), (66, (.slice (some ⟨g1507, 0, none⟩) r327.length n1508)), (67, .int .i64 i8762), (69, .string x12250), (70, .int .i64 i11794), (71, .int .u8 (bt x12250 i11794)), (72, .bool b12252)], [], [(g3, 25, [(.slice (some ⟨g1507, 0, none⟩) r327.length n1508), v333])], [((.slice (some ⟨g11492, 0, none⟩) r1081.length n11493), 9, 1, r1081.map enc_str), ((.slice (some ⟨g1507, 0, none⟩) r327.length n1508), 9, 1, r327.map enc_str), (v333, 33, 2, r328.map enc32)]⟩) (True) ?_ ?_
                        · refine VC.draw ⟨0, [], [], [(g3, 25, [(.slice (some ⟨g1507, 0, none⟩) r327.length n1508), v333])], [((.slice (some ⟨g1507, 0, none⟩) r327.length n1508), 9, 1, r327.map enc_str)]⟩ (by kernel_rfl) rfl (by kernel_rfl) (n := 12) (listed := LB 12 0) ?_
                          refine VA.va (i := 0) (listed' := LB 12 1) rfl (op_move rfl (ltn rfl)) rfl (by kernel_rfl) (by kernel_rfl) (by kernel_rfl) (by kernel_rfl) ⟨trivial, ⟨⟨0, rfl⟩, trivial⟩, ⟨⟨1, rfl⟩, trivial⟩⟩ (fun _ _ _ h => h) ?_
                          refine VA.va (i := 1) (listed' := LB 12 3) rfl (op_move rfl (ltn rfl)) rfl (by kernel_rfl) (by kernel_rfl) (by kernel_rfl) (by kernel_rfl) ⟨trivial, ⟨⟨0, rfl⟩, trivial⟩, ⟨⟨1, rfl⟩, trivial⟩⟩ (fun _ _ _ h => h) ?_
                          refine VA.va (i := 2) (listed' := LB 12 7) rfl (op_indexS Try.underlying9 rfl rfl c12248 c12249 rfl (ltn rfl)) rfl (by kernel_rfl) (by kernel_rfl) (by kernel_rfl) (by kernel_rfl) ⟨trivial, ⟨⟨0, rfl⟩, trivial⟩, ⟨⟨1, rfl⟩, trivial⟩⟩ (fun _ _ _ h => h) ?_
                          refine VA.va (i := 3) (listed' := LB 12 15) rfl (op_fieldAddr FI25_0 rfl (add_at _ _ _) (ltn rfl)) rfl (by kernel_rfl) (by kernel_rfl) (by kernel_rfl) (by kernel_rfl) ⟨trivial, ⟨⟨0, rfl⟩, trivial⟩, ⟨⟨1, rfl⟩, trivial⟩⟩ (fun _ _ _ h => h) ?_
                          refine VA.va (i := 4) (listed' := LB 12 31) rfl (op_load 0 1 rfl rfl TI22 rfl (by decide) (ltn rfl)) rfl (by kernel_rfl) (by kernel_rfl) (by kernel_rfl) (by kernel_rfl) ⟨trivial, ⟨⟨0, rfl⟩, trivial⟩, ⟨⟨1, rfl⟩, trivial⟩⟩ (fun _ _ _ h => h) ?_
                          refine VA.va (i := 5) (listed' := LB 12 63) rfl (op_move rfl (ltn rfl)) rfl (by kernel_rfl) (by kernel_rfl) (by kernel_rfl) (by kernel_rfl) ⟨trivial, ⟨⟨0, rfl⟩, trivial⟩, ⟨⟨1, rfl⟩, trivial⟩⟩ (fun _ _ _ h => h) ?_
                          refine VA.va (i := 6) (listed' := LB 12 127) rfl (op_indexAddr Try.underlying22 TI9 rfl rfl c11490 (lt_get c11490 hx12250) (add_zero_at _ _) (ltn rfl)) rfl (by kernel_rfl) (by kernel_rfl) (by kernel_rfl) (by kernel_rfl) ⟨trivial, ⟨⟨0, rfl⟩, trivial⟩, ⟨⟨1, rfl⟩, trivial⟩⟩ (fun _ _ _ h => h) ?_
                          refine VA.va (i := 7) (listed' := LB 12 255) rfl (op_load_own (sz := 1) (o := 0) 0 i8762.toNat 1 rfl rfl (get_map hx12250) TI9 rfl (by decide) (ltn rfl)) rfl (by kernel_rfl) (by kernel_rfl) (by kernel_rfl) (by kernel_rfl) ⟨trivial, ⟨⟨0, rfl⟩, trivial⟩, ⟨⟨1, rfl⟩, trivial⟩⟩ (fun _ _ _ h => h) ?_
                          refine VA.va (i := 8) (listed' := LB 12 511) rfl (op_move rfl (ltn rfl)) rfl (by kernel_rfl) (by kernel_rfl) (by kernel_rfl) (by kernel_rfl) ⟨trivial, ⟨⟨0, rfl⟩, trivial⟩, ⟨⟨1, rfl⟩, trivial⟩⟩ (fun _ _ _ h => h) ?_
                          refine VA.va (i := 9) (listed' := LB 12 1023) rfl (op_indexS Try.underlying9 rfl rfl c12248 c12251 rfl (ltn rfl)) rfl (by kernel_rfl) (by kernel_rfl) (by kernel_rfl) (by kernel_rfl) ⟨trivial, ⟨⟨0, rfl⟩, trivial⟩, ⟨⟨1, rfl⟩, trivial⟩⟩ (fun _ _ _ h => h) ?_
                          refine VA.va (i := 10) (listed' := LB 12 2047) rfl (op_cmp rfl rfl (congrArg some hb12252) (ltn rfl)) rfl (by kernel_rfl) (by kernel_rfl) (by kernel_rfl) (by kernel_rfl) ⟨trivial, ⟨⟨0, rfl⟩, trivial⟩, ⟨⟨1, rfl⟩, trivial⟩⟩ (fun _ _ _ h => h) ?_
                          refine VA.va (i := 11) (listed' := LB 12 4095) rfl (op_assign rfl (ltn rfl)) rfl (by kernel_rfl) (by kernel_rfl) (by kernel_rfl) (by kernel_rfl) ⟨trivial, ⟨⟨0, rfl⟩, trivial⟩, ⟨⟨1, rfl⟩, trivial⟩⟩ (fun _ _ _ h => h) ?_
                          refine VA.done (by kernel_rfl) ?_
                          exact VN.meet0  [0] [0, 1, 2] trivial ⟨rfl, ⟨rfl, rfl, rfl, rfl, rfl, rfl, rfl, rfl, rfl, rfl, rfl, rfl, rfl, rfl, rfl, rfl, rfl, rfl, rfl, rfl, rfl, rfl, rfl, rfl, rfl, rfl, rfl, rfl, trivial⟩, trivial, rfl, by decide, rfl, by decide⟩
                        intro _
                        refine VC.seq ?_
                        refine VC.seq ?_
                        refine VC.region ?_
                        refine VL.va (op_fieldAddr FI25_1 rfl (add_at _ _ _) (ltn rfl)) rfl ?_
                        refine VL.va (op_load 0 1 rfl rfl TI23 rfl (by decide) (ltn rfl)) rfl ?_
                        refine VL.va (op_len_own (m := r328.length) 2 lenm Try.underlying23 rfl rfl (ltn rfl)) rfl ?_
                        refine VL.va (op_move rfl (ltn rfl)) rfl ?_
                        refine VL.done ?_
                        refine VN.then ?_
                        refine VC.block ?_
                        subst hb12252
                        refine VC.loop3 (fun (q12344 : Bool) (q12345 : Bool) (i12346 : Int) => ⟨102, [(3, .pointer (some ⟨g3, 0, none⟩)), (6, .bool false), (9, .int .i64 i8762), (10, .string x11491), (11, .int .i64 i11794), (12, .bool q12344), (49, (.slice (some ⟨g11492, 0, none⟩) r1081.length n11493)), (50, .int .i64 (r1081.length : Int)), (51, .int .i64 i8762), (52, .bool true), (53, .int .i64 i8762), (55, .string x11491), (56, .string x11491), (57, .int .i64 (x11491.size : Int)), (58, .bool false), (59, .int .i64 i11794), (60, .bool true), (61, .int .i64 i11794), (62, .string x11491), (63, .int .i64 i11794), (64, .int .u8 (bt x11491 i11794)), (65, .pointer (some ⟨g3, 0, none⟩)), (66, (.slice (some ⟨g1507, 0, none⟩) r327.length n1508)), (67, .int .i64 i8762), (69, .string x12250), (70, .int .i64 i11794), (71, .int .u8 (bt x12250 i11794)), (72, .bool q12345), (73, .pointer (some ⟨g3, 1, none⟩)), (74, v333), (75, .int .i64 (r328.length : Int)), (76, .int .i64 i12346)], [], [(g3, 25, [(.slice (some ⟨g1507, 0, none⟩) r327.length n1508), v333])], [((.slice (some ⟨g11492, 0, none⟩) r1081.length n11493), 9, 1, r1081.map enc_str), ((.slice (some ⟨g1507, 0, none⟩) r327.length n1508), 9, 1, r327.map enc_str), (v333, 33, 2, r328.map enc32)]⟩) (fun (ml21 : Nat) (q12344 : Bool) (q12345 : Bool) (i12346 : Int) => tarrylaw03_DiskCrashes.l21 k (tarrylaw03_DiskCrashes.l17 k (tarrylaw03_DiskCrashes.l11 k r1081 r327 r328 ml11) i8762 r327 r328 x11491 ml17) i11794 i8762 r328 x11491 ml21 q12344 q12345 i12346 = some r1) k ((bt x11491 i11794) == (bt x12250 i11794)) ((bt x11491 i11794) == (bt x12250 i11794)) 0 [0] [0, 1, 2] h ⟨rfl, ⟨rfl, rfl, rfl, rfl, rfl, rfl, rfl, rfl, rfl, rfl, rfl, rfl, rfl, rfl, rfl, rfl, rfl, rfl, rfl, rfl, rfl, rfl, rfl, rfl, rfl, rfl, rfl, rfl, rfl, rfl, rfl, rfl, trivial⟩, trivial, rfl, by decide, rfl, by decide⟩ (by intros; simp [tarrylaw03_DiskCrashes.l21]) ?_
                        clear h
                        intro ml21 ihl21 q12344 q12345 i12346 h
                        simp only [tarrylaw03_DiskCrashes.l21] at h
                        refine VC.seq ?_
                        refine VC.region ?_
                        refine VL.letter (decide (i12346 < (r328.length : Int))) fun b12370 hb12370 => ?_
                        refine VL.va (op_cmp rfl rfl (congrArg some hb12370) (ltn rfl)) rfl ?_
                        refine VL.done ?_
                        refine VN.then ?_
                        refine VC.seq ?_
                        by_cases c12374 : i12346 < (r328.length : Int)
                        · rw [if_pos c12374] at h
                          obtain rfl : b12370 = true := hb12370.symm.trans (decide_eq_true c12374)
                          refine VC.cond_t rfl ?_
                          refine VC.skip ?_
                          refine VN.then ?_
                          refine VC.seq ?_
                          refine VC.block ?_
                          refine VC.seq ?_
                          refine VC.region ?_
                          by_cases c12385 : 0 ≤ i12346
                          · rw [if_pos c12385] at h
                            replace h := Option.bind_eq_some_iff.1 h
                            obtain ⟨x12386, hx12386, h⟩ := h
                            refine VL.openR (m := r328.length) 2 lenm rfl (pos_get hx12386) ?_
                            rintro g12387 n12388 rfl
                            refine VL.va (op_indexAddr Try.underlying23 TI33 rfl rfl c12385 (lt_get c12385 hx12386) (add_zero_at _ _) (ltn rfl)) rfl ?_
                            refine VL.va (op_load_own (sz := 2) (o := 0) 2 i12346.toNat 2 rfl rfl (get_map hx12386) TI33 rfl (fun h => absurd h (by decide)) (ltn rfl)) rfl ?_
                            refine VL.sG (o_alloc Z33 ZL33 (ltn rfl)) rfl ?_
                            intro g12389
                            refine VL.step1 (o_store 0 2 rfl rfl rfl TI33 (.agg (.of rfl)) rfl (len rfl)) rfl ?_
                            refine VL.done ?_
                            refine VN.then ?_
                            by_cases c12390 : q12344 = true
                            · rw [if_pos c12390] at h
                              obtain rfl := c12390
                              refine VC.stop0 (⟨102, [(3, .pointer (some ⟨g3, 0, none⟩)), (6, .bool false), (9, .int .i64 i8762), (10, .string x11491), (11, .int .i64 i11794), (12, .bool true), (14, .pointer (some ⟨g12389, 0, none⟩)), (49, (.slice (some ⟨g11492, 0, none⟩) r1081.length n11493)), (50, .int .i64 (r1081.length : Int)), (51, .int .i64 i8762), (52, .bool true), (53, .int .i64 i8762), (55, .string x11491), (56, .string x11491), (57, .int .i64 (x11491.size : Int)), (58, .bool false), (59, .int .i64 i11794), (60, .bool true), (61, .int .i64 i11794), (62, .string x11491), (63, .int .i64 i11794), (64, .int .u8 (bt x11491 i11794)), (65, .pointer (some ⟨g3, 0, none⟩)), (66, (.slice (some ⟨g1507, 0, none⟩) r327.length n1508)), (67, .int .i64 i8762), (69, .string x12250), (70, .int .i64 i11794), (71, .int .u8 (bt x12250 i11794)), (72, .bool q12345), (73, .pointer (some ⟨g3, 1, none⟩)), (74, (.slice (some ⟨g12387, 0, none⟩) r328.length n12388)), (75, .int .i64 (r328.length : Int)), (76, .int .i64 i12346), (77, .bool true), (79, .agg #[.int .i64 x12386.f0, .string x12386.f1]), (80, .bool true), (81, .bool true), (82, undef), (83, undef), (84, undef), (85, undef), (86, undef), (87, undef), (88, undef), (89, undef), (90, undef), (91, undef), (92, undef), (93, undef), (94, undef), (95, undef), (96, .bool true)], [], [(g12389, 33, [.int .i64 x12386.f0, .string x12386.f1]), (g3, 25, [(.slice (some ⟨g1507, 0, none⟩) r327.length n1508), (.slice (some ⟨g12387, 0, none⟩) r328.length n12388)])], [((.slice (some ⟨g11492, 0, none⟩) r1081.length n11493), 9, 1, r1081.map enc_str), ((.slice (some ⟨g1507, 0, none⟩) r327.length n1508), 9, 1, r327.map enc_str), ((.slice (some ⟨g12387, 0, none⟩) r328.length n12388), 33, 2, r328.map enc32)]⟩) (True) ?_ ?_
                              · refine VC.draw ⟨0, [], [], [], []⟩ (by kernel_rfl) rfl (by kernel_rfl) (n := 18) (listed := LB 18 0) ?_
                                refine VA.va (i := 0) (listed' := LB 18 1) rfl (op_move rfl (ltn rfl)) rfl (by kernel_rfl) (by kernel_rfl) (by kernel_rfl) (by kernel_rfl) ⟨trivial, trivial, trivial⟩ (fun _ _ _ h => h) ?_
                                refine VA.va (i := 1) (listed' := LB 18 3) rfl (op_move rfl (ltn rfl)) rfl (by kernel_rfl) (by kernel_rfl) (by kernel_rfl) (by kernel_rfl) ⟨trivial, trivial, trivial⟩ (fun _ _ _ h => h) ?_
                                refine VA.un (i := 2) (listed' := LB 18 7) rfl rfl rfl (ltn rfl) (by kernel_rfl) (by kernel_rfl) (by kernel_rfl) (by kernel_rfl) ⟨trivial, trivial, trivial⟩ (fun _ _ _ h => h) ?_
                                refine VA.un (i := 3) (listed' := LB 18 15) rfl rfl rfl (ltn rfl) (by kernel_rfl) (by kernel_rfl) (by kernel_rfl) (by kernel_rfl) ⟨trivial, trivial, trivial⟩ (fun _ _ _ h => h) ?_
                                refine VA.un (i := 4) (listed' := LB 18 31) rfl rfl rfl (ltn rfl) (by kernel_rfl) (by kernel_rfl) (by kernel_rfl) (by kernel_rfl) ⟨trivial, trivial, trivial⟩ (fun _ _ _ h => h) ?_
                                refine VA.un (i := 5) (listed' := LB 18 63) rfl rfl rfl (ltn rfl) (by kernel_rfl) (by kernel_rfl) (by kernel_rfl) (by kernel_rfl) ⟨trivial, trivial, trivial⟩ (fun _ _ _ h => h) ?_
                                refine VA.un (i := 6) (listed' := LB 18 127) rfl rfl rfl (ltn rfl) (by kernel_rfl) (by kernel_rfl) (by kernel_rfl) (by kernel_rfl) ⟨trivial, trivial, trivial⟩ (fun _ _ _ h => h) ?_
                                refine VA.un (i := 7) (listed' := LB 18 255) rfl rfl rfl (ltn rfl) (by kernel_rfl) (by kernel_rfl) (by kernel_rfl) (by kernel_rfl) ⟨trivial, trivial, trivial⟩ (fun _ _ _ h => h) ?_
                                refine VA.un (i := 8) (listed' := LB 18 511) rfl rfl rfl (ltn rfl) (by kernel_rfl) (by kernel_rfl) (by kernel_rfl) (by kernel_rfl) ⟨trivial, trivial, trivial⟩ (fun _ _ _ h => h) ?_
                                refine VA.un (i := 9) (listed' := LB 18 1023) rfl rfl rfl (ltn rfl) (by kernel_rfl) (by kernel_rfl) (by kernel_rfl) (by kernel_rfl) ⟨trivial, trivial, trivial⟩ (fun _ _ _ h => h) ?_
                                refine VA.un (i := 10) (listed' := LB 18 2047) rfl rfl rfl (ltn rfl) (by kernel_rfl) (by kernel_rfl) (by kernel_rfl) (by kernel_rfl) ⟨trivial, trivial, trivial⟩ (fun _ _ _ h => h) ?_
                                refine VA.un (i := 11) (listed' := LB 18 4095) rfl rfl rfl (ltn rfl) (by kernel_rfl) (by kernel_rfl) (by kernel_rfl) (by kernel_rfl) ⟨trivial, trivial, trivial⟩ (fun _ _ _ h => h) ?_
                                refine VA.un (i := 12) (listed' := LB 18 8191) rfl rfl rfl (ltn rfl) (by kernel_rfl) (by kernel_rfl) (by kernel_rfl) (by kernel_rfl) ⟨trivial, trivial, trivial⟩ (fun _ _ _ h => h) ?_
                                refine VA.un (i := 13) (listed' := LB 18 16383) rfl rfl rfl (ltn rfl) (by kernel_rfl) (by kernel_rfl) (by kernel_rfl) (by kernel_rfl) ⟨trivial, trivial, trivial⟩ (fun _ _ _ h => h) ?_
                                refine VA.un (i := 14) (listed' := LB 18 32767) rfl rfl rfl (ltn rfl) (by kernel_rfl) (by kernel_rfl) (by kernel_rfl) (by kernel_rfl) ⟨trivial, trivial, trivial⟩ (fun _ _ _ h => h) ?_
                                refine VA.un (i := 15) (listed' := LB 18 65535) rfl rfl rfl (ltn rfl) (by kernel_rfl) (by kernel_rfl) (by kernel_rfl) (by kernel_rfl) ⟨trivial, trivial, trivial⟩ (fun _ _ _ h => h) ?_
                                refine VA.va (i := 16) (listed' := LB 18 131071) rfl (op_pick rfl rfl (ltn rfl)) rfl (by kernel_rfl) (by kernel_rfl) (by kernel_rfl) (by kernel_rfl) ⟨trivial, trivial, trivial⟩ (fun _ _ _ h => h) ?_
                                refine VA.va (i := 17) (listed' := LB 18 262143) rfl (op_assign rfl (ltn rfl)) rfl (by kernel_rfl) (by kernel_rfl) (by kernel_rfl) (by kernel_rfl) ⟨trivial, trivial, trivial⟩ (fun _ _ _ h => h) ?_
                                refine VA.done (by kernel_rfl) ?_
                                exact VN.meet0  [0, 1] [0, 1, 2] trivial ⟨rfl, ⟨rfl, rfl, rfl, rfl, rfl, rfl, rfl, rfl, rfl, rfl, rfl, rfl, rfl, rfl, rfl, rfl, rfl, rfl, rfl, rfl, rfl, rfl, rfl, rfl, rfl, rfl, rfl, rfl, rfl, rfl, rfl, rfl, rfl, rfl, rfl, rfl, rfl, rfl, rfl, rfl, rfl, rfl, rfl, rfl, rfl, rfl, rfl, rfl, rfl, rfl, rfl, rfl, trivial⟩, trivial, rfl, by decide, rfl, by decide⟩
                              intro _
                              refine VN.block ?_
                              refine VN.then ?_
                              refine VC.region ?_
                              refine VL.va (op_ari64 rfl rfl rfl (ltn rfl)) rfl ?_
                              refine VL.va (op_move rfl (ltn rfl)) rfl ?_
                              refine VL.done ?_
                              refine VN.again [1] [0, 1, 2] (ihl21 true q12345 (wrap64 (i12346 + 1)) h) ⟨rfl, ⟨rfl, rfl, rfl, rfl, rfl, rfl, rfl, rfl, rfl, rfl, rfl, rfl, rfl, rfl, rfl, rfl, rfl, rfl, rfl, rfl, rfl, rfl, rfl, rfl, rfl, rfl, rfl, rfl, rfl, rfl, rfl, rfl, trivial⟩, trivial, rfl, by decide, rfl, by decide⟩
                            · rw [if_neg c12390] at h
                              obtain rfl := Bool.eq_false_iff.2 c12390
                              refine VC.letter ((x12386.f0 == i8762)) fun b12391 hb12391 => ?_
                              by_cases c12392 : x12386.f0 = i8762
                              · rw [if_pos c12392] at h
                                obtain rfl : b12391 = true := hb12391.symm.trans (beq_iff_eq.2 c12392)
                                by_cases c12393 : i11794 < (x12386.f1.size : Int)
                                · rw [if_pos c12393] at h
                                  refine VC.letter (((bt x12386.f1 i11794) == (bt x11491 i11794))) fun b12394 hb12394 => ?_
                                  refine VC.stop0 (⟨102, [(3, .pointer (some ⟨g3, 0, none⟩)), (6, .bool false), (9, .int .i64 i8762), (10, .string x11491), (11, .int .i64 i11794), (12, .bool b12394), (14, .pointer (some ⟨g12389, 0, none⟩)), (49, (.slice (some ⟨g11492, 0, none⟩) r1081.length n11493)), (50, .int .i64 (r1081.length : Int)), (51, .int .i64 i8762), (52, .bool true), (53, .int .i64 i8762), (55, .string x11491), (56, .string x11491), (57, .int .i64 (x11491.size : Int)), (58, .bool false), (59, .int .i64 i11794), (60, .bool true), (61, .int .i64 i11794), (62, .string x11491), (63, .int .i64 i11794), (64, .int .u8 (bt x11491 i11794)), (65, .pointer (some ⟨g3, 0, none⟩)), (66, (.slice (some ⟨g1507, 0, none⟩) r327.length n1508)), (67, .int .i64 i8762), (69, .string x12250), (70, .int .i64 i11794), (71, .int .u8 (bt x12250 i11794)), (72, .bool q12345), (73, .pointer (some ⟨g3, 1, none⟩)), (74, (.slice (some ⟨g12387, 0, none⟩) r328.length n12388)), (75, .int .i64 (r328.length : Int)), (76, .int .i64 i12346), (77, .bool true), (79, .agg #[.int .i64 x12386.f0, .string x12386.f1]), (80, .bool false), (81, .bool false), (82, .pointer (some ⟨g12389, 0, none⟩)), (83, .int .i64 x12386.f0), (84, .int .i64 i8762), (85, .bool true), (86, .bool true), (87, .pointer (some ⟨g12389, 1, none⟩)), (88, .string x12386.f1), (89, .int .i64 i11794), (90, .int .u8 (bt x12386.f1 i11794)), (91, .string x11491), (92, .int .i64 i11794), (93, .int .u8 (bt x11491 i11794)), (94, .bool b12394), (95, .bool b12394), (96, .bool b12394)], [], [(g12389, 33, [.int .i64 x12386.f0, .string x12386.f1]), (g3, 25, [(.slice (some ⟨g1507, 0, none⟩) r327.length n1508), (.slice (some ⟨g12387, 0, none⟩) r328.length n12388)])], [((.slice (some ⟨g11492, 0, none⟩) r1081.length n11493), 9, 1, r1081.map enc_str), ((.slice (some ⟨g1507, 0, none⟩) r327.length n1508), 9, 1, r327.map enc_str), ((.slice (some ⟨g12387, 0, none⟩) r328.length n12388), 33, 2, r328.map enc32)]⟩) (True) ?_ ?_
                                  · refine VC.draw ⟨0, [], [], [(g12389, 33, [.int .i64 x12386.f0, .string x12386.f1])], []⟩ (by kernel_rfl) rfl (by kernel_rfl) (n := 18) (listed := LB 18 0) ?_
                                    refine VA.va (i := 0) (listed' := LB 18 1) rfl (op_move rfl (ltn rfl)) rfl (by kernel_rfl) (by kernel_rfl) (by kernel_rfl) (by kernel_rfl) ⟨trivial, ⟨⟨0, rfl⟩, trivial⟩, trivial⟩ (fun _ _ _ h => h) ?_
                                    refine VA.va (i := 1) (listed' := LB 18 3) rfl (op_move rfl (ltn rfl)) rfl (by kernel_rfl) (by kernel_rfl) (by kernel_rfl) (by kernel_rfl) ⟨trivial, ⟨⟨0, rfl⟩, trivial⟩, trivial⟩ (fun _ _ _ h => h) ?_
                                    refine VA.va (i := 2) (listed' := LB 18 7) rfl (op_fieldAddr FI33_0 rfl (add_at _ _ _) (ltn rfl)) rfl (by kernel_rfl) (by kernel_rfl) (by kernel_rfl) (by kernel_rfl) ⟨trivial, ⟨⟨0, rfl⟩, trivial⟩, trivial⟩ (fun _ _ _ h => h) ?_
                                    refine VA.va (i := 3) (listed' := LB 18 15) rfl (op_load 0 1 rfl rfl TI3 rfl (by decide) (ltn rfl)) rfl (by kernel_rfl) (by kernel_rfl) (by kernel_rfl) (by kernel_rfl) ⟨trivial, ⟨⟨0, rfl⟩, trivial⟩, trivial⟩ (fun _ _ _ h => h) ?_
                                    refine VA.va (i := 4) (listed' := LB 18 31) rfl (op_move rfl (ltn rfl)) rfl (by kernel_rfl) (by kernel_rfl) (by kernel_rfl) (by kernel_rfl) ⟨trivial, ⟨⟨0, rfl⟩, trivial⟩, trivial⟩ (fun _ _ _ h => h) ?_
                                    refine VA.va (i := 5) (listed' := LB 18 63) rfl (op_cmp rfl rfl (congrArg some hb12391) (ltn rfl)) rfl (by kernel_rfl) (by kernel_rfl) (by kernel_rfl) (by kernel_rfl) ⟨trivial, ⟨⟨0, rfl⟩, trivial⟩, trivial⟩ (fun _ _ _ h => h) ?_
                                    refine VA.va (i := 6) (listed' := LB 18 127) rfl (op_move rfl (ltn rfl)) rfl (by kernel_rfl) (by kernel_rfl) (by kernel_rfl) (by kernel_rfl) ⟨trivial, ⟨⟨0, rfl⟩, trivial⟩, trivial⟩ (fun _ _ _ h => h) ?_
                                    refine VA.va (i := 7) (listed' := LB 18 255) rfl (op_fieldAddr FI33_1 rfl (add_at _ _ _) (ltn rfl)) rfl (by kernel_rfl) (by kernel_rfl) (by kernel_rfl) (by kernel_rfl) ⟨trivial, ⟨⟨0, rfl⟩, trivial⟩, trivial⟩ (fun _ _ _ h => h) ?_
                                    refine VA.va (i := 8) (listed' := LB 18 511) rfl (op_load 0 1 rfl rfl TI9 rfl (by decide) (ltn rfl)) rfl (by kernel_rfl) (by kernel_rfl) (by kernel_rfl) (by kernel_rfl) ⟨trivial, ⟨⟨0, rfl⟩, trivial⟩, trivial⟩ (fun _ _ _ h => h) ?_
                                    refine VA.va (i := 9) (listed' := LB 18 1023) rfl (op_move rfl (ltn rfl)) rfl (by kernel_rfl) (by kernel_rfl) (by kernel_rfl) (by kernel_rfl) ⟨trivial, ⟨⟨0, rfl⟩, trivial⟩, trivial⟩ (fun _ _ _ h => h) ?_
                                    refine VA.va (i := 10) (listed' := LB 18 2047) rfl (op_indexS Try.underlying9 rfl rfl c12248 c12393 rfl (ltn rfl)) rfl (by kernel_rfl) (by kernel_rfl) (by kernel_rfl) (by kernel_rfl) ⟨trivial, ⟨⟨0, rfl⟩, trivial⟩, trivial⟩ (fun _ _ _ h => h) ?_
                                    refine VA.va (i := 11) (listed' := LB 18 4095) rfl (op_move rfl (ltn rfl)) rfl (by kernel_rfl) (by kernel_rfl) (by kernel_rfl) (by kernel_rfl) ⟨trivial, ⟨⟨0, rfl⟩, trivial⟩, trivial⟩ (fun _ _ _ h => h) ?_
                                    refine VA.va (i := 12) (listed' := LB 18 8191) rfl (op_move rfl (ltn rfl)) rfl (by kernel_rfl) (by kernel_rfl) (by kernel_rfl) (by kernel_rfl) ⟨trivial, ⟨⟨0, rfl⟩, trivial⟩, trivial⟩ (fun _ _ _ h => h) ?_
                                    refine VA.va (i := 13) (listed' := LB 18 16383) rfl (op_indexS Try.underlying9 rfl rfl c12248 c12249 rfl (ltn rfl)) rfl (by kernel_rfl) (by kernel_rfl) (by kernel_rfl) (by kernel_rfl) ⟨trivial, ⟨⟨0, rfl⟩, trivial⟩, trivial⟩ (fun _ _ _ h => h) ?_
                                    refine VA.va (i := 14) (listed' := LB 18 32767) rfl (op_cmp rfl rfl (congrArg some hb12394) (ltn rfl)) rfl (by kernel_rfl) (by kernel_rfl) (by kernel_rfl) (by kernel_rfl) ⟨trivial, ⟨⟨0, rfl⟩, trivial⟩, trivial⟩ (fun _ _ _ h => h) ?_
                                    refine VA.va (i := 15) (listed' := LB 18 65535) rfl (op_pick rfl rfl (ltn rfl)) rfl (by kernel_rfl) (by kernel_rfl) (by kernel_rfl) (by kernel_rfl) ⟨trivial, ⟨⟨0, rfl⟩, trivial⟩, trivial⟩ (fun _ _ _ h => h) ?_
                                    refine VA.va (i := 16) (listed' := LB 18 131071) rfl (op_pick rfl rfl (ltn rfl)) rfl (by kernel_rfl) (by kernel_rfl) (by kernel_rfl) (by kernel_rfl) ⟨trivial, ⟨⟨0, rfl⟩, trivial⟩, trivial⟩ (fun _ _ _ h => h) ?_
                                    refine VA.va (i := 17) (listed' := LB 18 262143) rfl (op_assign rfl (ltn rfl)) rfl (by kernel_rfl) (by kernel_rfl) (by kernel_rfl) (by kernel_rfl) ⟨trivial, ⟨⟨0, rfl⟩, trivial⟩, trivial⟩ (fun _ _ _ h => h) ?_
                                    refine VA.done (by kernel_rfl) ?_
                                    exact VN.meet0  [0, 1] [0, 1, 2] trivial ⟨rfl, ⟨rfl, rfl, rfl, rfl, rfl, rfl, rfl, rfl, rfl, rfl, rfl, rfl, rfl, rfl, rfl, rfl, rfl, rfl, rfl, rfl, rfl, rfl, rfl, rfl, rfl, rfl, rfl, rfl, rfl, rfl, rfl, rfl, rfl, rfl, rfl, rfl, rfl, rfl, rfl, rfl, rfl, rfl, rfl, rfl, rfl, rfl, rfl, rfl, rfl, rfl, rfl, rfl, trivial⟩, trivial, rfl, by decide, rfl, by decide⟩
                                  intro _
                                  refine VN.block ?_
                                  refine VN.then ?_
                                  refine VC.region ?_
                                  refine VL.va (op_ari64 rfl rfl rfl (ltn rfl)) rfl ?_
                                  refine VL.va (op_move rfl (ltn rfl)) rfl ?_
                                  refine VL.done ?_
                                  subst hb12394
                                  refine VN.again [1] [0, 1, 2] (ihl21 ((bt x12386.f1 i11794) == (bt x11491 i11794)) q12345 (wrap64 (i12346 + 1)) h) ⟨rfl, ⟨rfl, rfl, rfl, rfl, rfl, rfl, rfl, rfl, rfl, rfl, rfl, rfl, rfl, rfl, rfl, rfl, rfl, rfl, rfl, rfl, rfl, rfl, rfl, rfl, rfl, rfl, rfl, rfl, rfl, rfl, rfl, rfl, trivial⟩, trivial, rfl, by decide, rfl, by decide⟩
                                · rw [if_neg c12393] at h; cases h
                              · rw [if_neg c12392] at h
                                obtain rfl : b12391 = false := hb12391.symm.trans (beq_eq_false_iff_ne.2 c12392)
                                refine VC.stop0 (⟨102, [(3, .pointer (some ⟨g3, 0, none⟩)), (6, .bool false), (9, .int .i64 i8762), (10, .string x11491), (11, .int .i64 i11794), (12, .bool false), (14, .pointer (some ⟨g12389, 0, none⟩)), (49, (.slice (some ⟨g11492, 0, none⟩) r1081.length n11493)), (50, .int .i64 (r1081.length : Int)), (51, .int .i64 i8762), (52, .bool true), (53, .int .i64 i8762), (55, .string x11491), (56, .string x11491), (57, .int .i64 (x11491.size : Int)), (58, .bool false), (59, .int .i64 i11794), (60, .bool true), (61, .int .i64 i11794), (62, .string x11491), (63, .int .i64 i11794), (64, .int .u8 (bt x11491 i11794)), (65, .pointer (some ⟨g3, 0, none⟩)), (66, (.slice (some ⟨g1507, 0, none⟩) r327.length n1508)), (67, .int .i64 i8762), (69, .string x12250), (70, .int .i64 i11794), (71, .int .u8 (bt x12250 i11794)), (72, .bool q12345), (73, .pointer (some ⟨g3, 1, none⟩)), (74, (.slice (some ⟨g12387, 0, none⟩) r328.length n12388)), (75, .int .i64 (r328.length : Int)), (76, .int .i64 i12346), (77, .bool true), (79, .agg #[.int .i64 x12386.f0, .string x12386.f1]), (80, .bool false), (81, .bool false), (82, .pointer (some ⟨g12389, 0, none⟩)), (83, .int .i64 x12386.f0), (84, .int .i64 i8762), (85, .bool false), (86, .bool false), (87, undef), (88, undef), (89, undef), (90, undef), (91, undef), (92, undef), (93, undef), (94, undef), (95, .bool false), (96, .bool false)], [], [(g12389, 33, [.int .i64 x12386.f0, .string x12386.f1]), (g3, 25, [(.slice (some ⟨g1507, 0, none⟩) r327.length n1508), (.slice (some ⟨g12387, 0, none⟩) r328.length n12388)])], [((.slice (some ⟨g11492, 0, none⟩) r1081.length n11493), 9, 1, r1081.map enc_str), ((.slice (some ⟨g1507, 0, none⟩) r327.length n1508), 9, 1, r327.map enc_str), ((.slice (some ⟨g12387, 0, none⟩) r328.length n12388), 33, 2, r328.map enc32)]⟩) (True) ?_ ?_
                                · refine VC.draw ⟨0, [], [], [(g12389, 33, [.int .i64 x12386.f0, .string x12386.f1])], []⟩ (by kernel_rfl) rfl (by kernel_rfl) (n := 18) (listed := LB 18 0) ?_
                                  refine VA.va (i := 0) (listed' := LB 18 1) rfl (op_move rfl (ltn rfl)) rfl (by kernel_rfl) (by kernel_rfl) (by kernel_rfl) (by kernel_rfl) ⟨trivial, ⟨⟨0, rfl⟩, trivial⟩, trivial⟩ (fun _ _ _ h => h) ?_
                                  refine VA.va (i := 1) (listed' := LB 18 3) rfl (op_move rfl (ltn rfl)) rfl (by kernel_rfl) (by kernel_rfl) (by kernel_rfl) (by kernel_rfl) ⟨trivial, ⟨⟨0, rfl⟩, trivial⟩, trivial⟩ (fun _ _ _ h => h) ?_
                                  refine VA.va (i := 2) (listed' := LB 18 7) rfl (op_fieldAddr FI33_0 rfl (add_at _ _ _) (ltn rfl)) rfl (by kernel_rfl) (by kernel_rfl) (by kernel_rfl) (by kernel_rfl) ⟨trivial, ⟨⟨0, rfl⟩, trivial⟩, trivial⟩ (fun _ _ _ h => h) ?_
                                  refine VA.va (i := 3) (listed' := LB 18 15) rfl (op_load 0 1 rfl rfl TI3 rfl (by decide) (ltn rfl)) rfl (by kernel_rfl) (by kernel_rfl) (by kernel_rfl) (by kernel_rfl) ⟨trivial, ⟨⟨0, rfl⟩, trivial⟩, trivial⟩ (fun _ _ _ h => h) ?_
                                  refine VA.va (i := 4) (listed' := LB 18 31) rfl (op_move rfl (ltn rfl)) rfl (by kernel_rfl) (by kernel_rfl) (by kernel_rfl) (by kernel_rfl) ⟨trivial, ⟨⟨0, rfl⟩, trivial⟩, trivial⟩ (fun _ _ _ h => h) ?_
                                  refine VA.va (i := 5) (listed' := LB 18 63) rfl (op_cmp rfl rfl (congrArg some hb12391) (ltn rfl)) rfl (by kernel_rfl) (by kernel_rfl) (by kernel_rfl) (by kernel_rfl) ⟨trivial, ⟨⟨0, rfl⟩, trivial⟩, trivial⟩ (fun _ _ _ h => h) ?_
                                  refine VA.va (i := 6) (listed' := LB 18 127) rfl (op_move rfl (ltn rfl)) rfl (by kernel_rfl) (by kernel_rfl) (by kernel_rfl) (by kernel_rfl) ⟨trivial, ⟨⟨0, rfl⟩, trivial⟩, trivial⟩ (fun _ _ _ h => h) ?_
                                  refine VA.un (i := 7) (listed' := LB 18 255) rfl rfl rfl (ltn rfl) (by kernel_rfl) (by kernel_rfl) (by kernel_rfl) (by kernel_rfl) ⟨trivial, ⟨⟨0, rfl⟩, trivial⟩, trivial⟩ (fun _ _ _ h => h) ?_
                                  refine VA.un (i := 8) (listed' := LB 18 511) rfl rfl rfl (ltn rfl) (by kernel_rfl) (by kernel_rfl) (by kernel_rfl) (by kernel_rfl) ⟨trivial, ⟨⟨0, rfl⟩, trivial⟩, trivial⟩ (fun _ _ _ h => h) ?_
                                  refine VA.un (i := 9) (listed' := LB 18 1023) rfl rfl rfl (ltn rfl) (by kernel_rfl) (by kernel_rfl) (by kernel_rfl) (by kernel_rfl) ⟨trivial, ⟨⟨0, rfl⟩, trivial⟩, trivial⟩ (fun _ _ _ h => h) ?_
                                  refine VA.un (i := 10) (listed' := LB 18 2047) rfl rfl rfl (ltn rfl) (by kernel_rfl) (by kernel_rfl) (by kernel_rfl) (by kernel_rfl) ⟨trivial, ⟨⟨0, rfl⟩, trivial⟩, trivial⟩ (fun _ _ _ h => h) ?_
                                  refine VA.un (i := 11) (listed' := LB 18 4095) rfl rfl rfl (ltn rfl) (by kernel_rfl) (by kernel_rfl) (by kernel_rfl) (by kernel_rfl) ⟨trivial, ⟨⟨0, rfl⟩, trivial⟩, trivial⟩ (fun _ _ _ h => h) ?_
                                  refine VA.un (i := 12) (listed' := LB 18 8191) rfl rfl rfl (ltn rfl) (by kernel_rfl) (by kernel_rfl) (by kernel_rfl) (by kernel_rfl) ⟨trivial, ⟨⟨0, rfl⟩, trivial⟩, trivial⟩ (fun _ _ _ h => h) ?_
                                  refine VA.un (i := 13) (listed' := LB 18 16383) rfl rfl rfl (ltn rfl) (by kernel_rfl) (by kernel_rfl) (by kernel_rfl) (by kernel_rfl) ⟨trivial, ⟨⟨0, rfl⟩, trivial⟩, trivial⟩ (fun _ _ _ h => h) ?_
                                  refine VA.un (i := 14) (listed' := LB 18 32767) rfl rfl rfl (ltn rfl) (by kernel_rfl) (by kernel_rfl) (by kernel_rfl) (by kernel_rfl) ⟨trivial, ⟨⟨0, rfl⟩, trivial⟩, trivial⟩ (fun _ _ _ h => h) ?_
                                  refine VA.va (i := 15) (listed' := LB 18 65535) rfl (op_pick rfl rfl (ltn rfl)) rfl (by kernel_rfl) (by kernel_rfl) (by kernel_rfl) (by kernel_rfl) ⟨trivial, ⟨⟨0, rfl⟩, trivial⟩, trivial⟩ (fun _ _ _ h => h) ?_
                                  refine VA.va (i := 16) (listed' := LB 18 131071) rfl (op_pick rfl rfl (ltn rfl)) rfl (by kernel_rfl) (by kernel_rfl) (by kernel_rfl) (by kernel_rfl) ⟨trivial, ⟨⟨0, rfl⟩, trivial⟩, trivial⟩ (fun _ _ _ h => h) ?_
                                  refine VA.va (i := 17) (listed' := LB 18 262143) rfl (op_assign rfl (ltn rfl)) rfl (by kernel_rfl) (by kernel_rfl) (by kernel_rfl) (by kernel_rfl) ⟨trivial, ⟨⟨0, rfl⟩, trivial⟩, trivial⟩ (fun _ _ _ h => h) ?_
                                  refine VA.done (by kernel_rfl) ?_
                                  exact VN.meet0  [0, 1] [0, 1, 2] trivial ⟨rfl, ⟨rfl, rfl, rfl, rfl, rfl, rfl, rfl, rfl, rfl, rfl, rfl, rfl, rfl, rfl, rfl, rfl, rfl, rfl, rfl, rfl, rfl, rfl, rfl, rfl, rfl, rfl, rfl, rfl, rfl, rfl, rfl, rfl, rfl, rfl, rfl, rfl, rfl, rfl, rfl, rfl, rfl, rfl, rfl, rfl, rfl, rfl, rfl, rfl, rfl, rfl, rfl, rfl, trivial⟩, trivial, rfl, by decide, rfl, by decide⟩
                                intro _
                                refine VN.block ?_
                                refine VN.then ?_
                                refine VC.region ?_
                                refine VL.va (op_ari64 rfl rfl rfl (ltn rfl)) rfl ?_
                                refine VL.va (op_move rfl (ltn rfl)) rfl ?_
                                refine VL.done ?_
                                refine VN.again [1] [0, 1, 2] (ihl21 false q12345 (wrap64 (i12346 + 1)) h) ⟨rfl, ⟨rfl, rfl, rfl, rfl, rfl, rfl, rfl, rfl, rfl, rfl, rfl, rfl, rfl, rfl, rfl, rfl, rfl, rfl, rfl, rfl, rfl, rfl, rfl, rfl, rfl, rfl, rfl, rfl, rfl, rfl, rfl, rfl, trivial⟩, trivial, rfl, by decide, rfl, by decide⟩
                          · rw [if_neg c12385] at h; cases h
                        · rw [if_neg c12374] at h
                          obtain rfl : b12370 = false := hb12370.symm.trans (decide_eq_false c12374)
                          refine VC.cond_f rfl ?_
                          refine VC.exit ?_
                          refine VX.then ?_
                          refine VX.then ?_
                          refine VX.hit ?_
                          refine VN.then ?_
                          refine VC.seq ?_
                          refine VC.region ?_
                          refine VL.va (op_move rfl (ltn rfl)) rfl ?_
                          by_cases c12396 : q12344 = true
                          · rw [if_pos c12396] at h
                            obtain rfl := c12396
                            refine VL.va (op_not rfl rfl (ltn rfl)) rfl ?_
                            refine VL.done ?_
                            refine VN.then ?_
                            refine VC.cond_f rfl ?_
                            refine VC.skip ?_
                            refine VN.block ?_
                            refine VN.then ?_
                            refine VC.region ?_
                            refine VL.va (op_ari64 rfl rfl rfl (ltn rfl)) rfl ?_
                            refine VL.va (op_move rfl (ltn rfl)) rfl ?_
                            refine VL.done ?_
                            refine VN.again [0] [0, 1, 2] (ihl17 (wrap64 (i11794 + 1)) h) ⟨rfl, ⟨rfl, rfl, rfl, rfl, rfl, rfl, rfl, rfl, rfl, rfl, rfl, rfl, rfl, rfl, trivial⟩, trivial, rfl, by decide, rfl, by decide⟩
                          · rw [if_neg c12396] at h
                            obtain rfl := Bool.eq_false_iff.2 c12396
                            refine VL.va (op_not rfl rfl (ltn rfl)) rfl ?_
                            refine VL.done ?_
                            refine VN.then ?_
                            refine VC.cond_t rfl ?_
                            refine VC.seq ?_
                            refine VC.region ?_
                            refine VL.va (op_assign rfl (ltn rfl)) rfl ?_
                            refine VL.done ?_
                            refine VN.then ?_
                            refine VC.ret ?_
                            refine VR.block ?_
                            refine VR.then ?_
                            refine VR.then ?_
                            refine VR.block ?_
                            refine VR.block ?_
                            refine VR.then ?_
                            refine VR.then ?_
                            refine VR.block ?_
                            refine VR.then ?_
                            cases h
                      · rw [if_neg c12251] at h; cases h
                    · rw [if_neg c12249] at h; cases h
                  · rw [if_neg c12248] at h; cases h
                · rw [if_neg c12098] at h
                  obtain rfl : b12096 = false := hb12096.symm.trans (decide_eq_false c12098)
                  refine VC.cond_f rfl ?_
                  refine VC.exit ?_
                  refine VX.then ?_
                  refine VX.then ?_
                  refine VX.hit ?_
                  refine VN.block ?_
                  refine VN.then ?_
                  refine VC.region ?_
                  refine VL.va (op_ari64 rfl rfl rfl (ltn rfl)) rfl ?_
                  refine VL.va (op_move rfl (ltn rfl)) rfl ?_
                  refine VL.done ?_
                  refine VN.again [0] [0, 1, 2] (ihl11 (wrap64 (i8762 + 1)) h) ⟨rfl, ⟨rfl, rfl, rfl, rfl, rfl, trivial⟩, trivial, rfl, by decide, rfl, by decide⟩
              · rw [if_neg c11497] at h
                obtain rfl : b11496 = true := hb11496.symm.trans (bne_iff_ne.2 c11497)
                refine VC.cond_t rfl ?_
                refine VC.seq ?_
                refine VC.region ?_
                refine VL.va (op_assign rfl (ltn rfl)) rfl ?_
                refine VL.done ?_
                refine VN.then ?_
                refine VC.ret ?_
                refine VR.then ?_
                refine VR.block ?_
                refine VR.then ?_
                refine VR.then ?_
                refine VR.block ?_
                refine VR.then ?_
                cases h
            · rw [if_neg c11490] at h; cases h
          · rw [if_neg c10582] at h
            obtain rfl : b10580 = false := hb10580.symm.trans (decide_eq_false c10582)
            refine VC.cond_f rfl ?_
            refine VC.exit ?_
            refine VX.then ?_
            refine VX.then ?_
            refine VX.hit ?_
            refine VN.then ?_
            refine VC.seq ?_
            refine VC.region ?_
            refine VL.va (op_assign rfl (ltn rfl)) rfl ?_
            refine VL.done ?_
            refine VN.then ?_
            refine VC.ret ?_
            obtain rfl := Option.some.inj h
            exact VR.fn (rs := [.tmp 6]) [] [] [] rfl (.tmp rfl .nil) ⟨rfl, rfl, rfl⟩ trivial rfl (by decide)
        · rw [if_neg c1494] at h
          obtain rfl := Bool.eq_false_iff.2 c1494
          refine VL.va (op_not rfl rfl (ltn rfl)) rfl ?_
          refine VL.va (op_pick rfl rfl (ltn rfl)) rfl ?_
          refine VL.done ?_
          refine VN.then ?_
          refine VC.cond_t rfl ?_
          refine VC.seq ?_
          refine VC.region ?_
          refine VL.va (op_assign rfl (ltn rfl)) rfl ?_
          refine VL.done ?_
          refine VN.then ?_
          refine VC.ret ?_
          refine VR.then ?_
          cases h
      · rw [if_neg c1491] at h
        obtain rfl : b1490 = true := hb1490.symm.trans (bne_iff_ne.2 c1491)
        refine VL.un rfl rfl (ltn rfl) ?_
        refine VL.un rfl rfl (ltn rfl) ?_
        refine VL.va (op_pick rfl rfl (ltn rfl)) rfl ?_
        refine VL.done ?_
        refine VN.then ?_
        refine VC.cond_t rfl ?_
        refine VC.seq ?_
        refine VC.region ?_
        refine VL.va (op_assign rfl (ltn rfl)) rfl ?_
        refine VL.done ?_
        refine VN.then ?_
        refine VC.ret ?_
        refine VR.then ?_
        cases h
    · rw [if_neg c1489] at h
      obtain rfl : b1488 = true := hb1488.symm.trans (bne_iff_ne.2 c1489)
      refine VL.un rfl rfl (ltn rfl) ?_
      refine VL.un rfl rfl (ltn rfl) ?_
      refine VL.un rfl rfl (ltn rfl) ?_
      refine VL.un rfl rfl (ltn rfl) ?_
      refine VL.un rfl rfl (ltn rfl) ?_
      refine VL.un rfl rfl (ltn rfl) ?_
      refine VL.un rfl rfl (ltn rfl) ?_
      refine VL.va (op_pick rfl rfl (ltn rfl)) rfl ?_
      refine VL.va (op_move rfl (ltn rfl)) rfl ?_
      refine VL.un rfl rfl (ltn rfl) ?_
      refine VL.un rfl rfl (ltn rfl) ?_
      refine VL.va (op_pick rfl rfl (ltn rfl)) rfl ?_
      refine VL.done ?_
      refine VN.then ?_
      refine VC.cond_t rfl ?_
      refine VC.seq ?_
      refine VC.region ?_
      refine VL.va (op_assign rfl (ltn rfl)) rfl ?_
      refine VL.done ?_
      refine VN.then ?_
      refine VC.ret ?_
      refine VR.then ?_
      cases h
  · rw [if_neg c1466] at h
    obtain rfl : b1465 = true := hb1465.symm.trans (bne_iff_ne.2 c1466)
    refine VC.cond_t rfl ?_
    refine VC.seq ?_
    refine VC.region ?_
    replace h := Option.bind_eq_some_iff.1 h
    obtain ⟨t12401, hA12402, h⟩ := h
    refine VL.sC (o_call0 FO8 (tarrylaw03_alive.ok k t12401 hA12402) rfl rfl (ltn rfl) (All_of .nil)) rfl ?_
    rintro _ _ _ ⟨rfl, rfl, rfl⟩
    refine VL.va (op_move rfl (ltn rfl)) rfl ?_
    by_cases c12403 : t12401 = true
    · rw [if_pos c12403] at h
      obtain rfl := c12403
      refine VL.va (op_move rfl (ltn rfl)) rfl ?_
      refine VL.letter ((t1083 == 1)) fun b12404 hb12404 => ?_
      refine VL.va (op_cmp rfl rfl (congrArg some hb12404) (ltn rfl)) rfl ?_
      refine VL.va (op_pick rfl rfl (ltn rfl)) rfl ?_
      refine VL.va (op_assign rfl (ltn rfl)) rfl ?_
      refine VL.done ?_
      refine VN.then ?_
      refine VC.ret ?_
      refine VR.then ?_
      obtain rfl := Option.some.inj h
      subst hb12404
      exact VR.fn (rs := [.tmp 6]) [] [] [] rfl (.tmp rfl .nil) ⟨rfl, rfl, rfl⟩ trivial rfl (by decide)
    · rw [if_neg c12403] at h
      obtain rfl := Bool.eq_false_iff.2 c12403
      refine VL.un rfl rfl (ltn rfl) ?_
      refine VL.un rfl rfl (ltn rfl) ?_
      refine VL.va (op_pick rfl rfl (ltn rfl)) rfl ?_
      refine VL.va (op_assign rfl (ltn rfl)) rfl ?_
      refine VL.done ?_
      refine VN.then ?_
      refine VC.ret ?_
      refine VR.then ?_
      cases h

end Go.Proofs.Ytlfkendmepdbkaa.PDiskCrashes
