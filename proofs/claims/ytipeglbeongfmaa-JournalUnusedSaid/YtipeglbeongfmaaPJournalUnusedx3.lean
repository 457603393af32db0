/- Written by a program of this repo: what the program's functions do, each as a Lean function, shown of the loaded code; or a statement's row over that; no condition of its own. -/
import Derived.Test.YtipeglbeongfmaaPJournalUnusedx2
namespace Go.Proofs.Ytipeglbeongfmaa.PJournalUnused
open Go Go.RowKit Go.Proofs.YtipeglbeongfmaaV
set_option linter.unusedVariables false
set_option linter.unusedSimpArgs false

set_option maxHeartbeats 4000000 in
set_option maxRecDepth 100000 in
theorem journal_read.ok (k : Nat) (a0 : Int) (a1 : ByteArray) (a2 : Int)  (r1 : List ByteArray) (r2 : List S55) (r3 : Int) (r4 : Int) (r5 : Int) (r6 : List ByteArray) (r7 : List ByteArray) (r8 : Bool) (h : journal_read.f k a0 a1 a2 = some (r1, r2, r3, r4, r5, r6, r7, r8)) :
    VCalls Try.prog 24 [.int .i64 a0, .string a1, .int .i64 a2] [] (fun v G own => ∃ w0 w1 w5 w6 : Value, v = .tuple #[.agg #[w0, w1, .int .i64 r3, .int .i64 r4, .int .i64 r5, w5, w6], .bool r8] ∧ G = [] ∧ own = [(w0, 9, 1, r1.map enc_str), (w1, 56, 2, r2.map enc55), (w5, 9, 1, r6.map enc_str), (w6, 9, 1, r7.map enc_str)]) := by
  refine VCalls.intro Try.func24 rfl (len rfl) fun E hC hW hD hU => ?_
  unfold journal_read.f at h
  refine VC.seq ?_
  refine VC.region ?_
  refine VL.sG (o_alloc Z27 ZL27 (ltn rfl)) rfl ?_
  intro g789
  refine VL.va (op_assign rfl (ltn rfl)) rfl ?_
  refine VL.done ?_
  refine VN.then ?_
  refine VC.seq ?_
  refine VC.region ?_
  refine VL.va (op_assign rfl (ltn rfl)) rfl ?_
  refine VL.done ?_
  refine VN.then ?_
  refine VC.seq ?_
  refine VC.region ?_
  refine VL.va (op_move rfl (ltn rfl)) rfl ?_
  refine VL.va (op_move rfl (ltn rfl)) rfl ?_
  by_cases c790 : 5 < (a1.size : Int)
  · rw [if_pos c790] at h
    refine VL.va (op_indexS Try.underlying9 rfl rfl (by decide) c790 rfl (ltn rfl)) rfl ?_
    refine VL.va (op_conv Try.underlying5 Try.underlying3 rfl (i64w _) (ltn rfl)) rfl ?_
    refine VL.va (op_build (vals := [(2, .int .i64 (wrap64 (bt a1 5)))]) (vcs := [(2, [.int .i64 (wrap64 (bt a1 5))])]) (cells := [.slice none 0 0, .slice none 0 0, .int .i64 0, .int .i64 (wrap64 (bt a1 5)), .int .i64 0, .slice none 0 0, .slice none 0 0]) SI27 rfl (.cons ⟨rfl, (.c rfl)⟩ .nil) (by kernel_rfl) (ltn rfl)) rfl ?_
    refine VL.sG (o_alloc Z27 ZL27 (ltn rfl)) rfl ?_
    intro g791
    refine VL.step1 (o_store 0 7 rfl rfl rfl TI27 (.agg (.of rfl)) rfl (len rfl)) rfl ?_
    refine VL.done ?_
    refine VN.then ?_
    refine VC.join1 (fun (i1578 : Int) => ⟨109, [(0, .int .i64 a0), (1, .string a1), (2, .int .i64 a2), (6, .pointer (some ⟨g789, 0, none⟩)), (7, .bool false), (8, .int .i64 5), (9, .pointer (some ⟨g791, 0, none⟩))], [], [(g791, 27, [.slice none 0 0, .slice none 0 0, .int .i64 i1578, .int .i64 (wrap64 (bt a1 5)), .int .i64 0, .slice none 0 0, .slice none 0 0]), (g789, 27, [.slice none 0 0, .slice none 0 0, .int .i64 0, .int .i64 0, .int .i64 0, .slice none 0 0, .slice none 0 0])], []⟩) (fun (i1578 : Int) => journal_read.j10 k a0 a1 a2 i1578 = some (r1, r2, r3, r4, r5, r6, r7, r8)) ?_ ?_
    · refine VC.seq ?_
      refine VC.region ?_
      refine VL.va (op_move rfl (ltn rfl)) rfl ?_
      refine VL.done ?_
      refine VN.then ?_
      refine VC.block ?_
      refine VC.loop2 (fun (i1564 : Int) (i1565 : Int) => ⟨109, [(0, .int .i64 a0), (1, .string a1), (2, .int .i64 a2), (6, .pointer (some ⟨g789, 0, none⟩)), (7, .bool false), (8, .int .i64 5), (9, .pointer (some ⟨g791, 0, none⟩)), (19, .int .i64 i1564)], [], [(g791, 27, [.slice none 0 0, .slice none 0 0, .int .i64 i1565, .int .i64 (wrap64 (bt a1 5)), .int .i64 0, .slice none 0 0, .slice none 0 0]), (g789, 27, [.slice none 0 0, .slice none 0 0, .int .i64 0, .int .i64 0, .int .i64 0, .slice none 0 0, .slice none 0 0])], []⟩) (fun (ml11 : Nat) (i1564 : Int) (i1565 : Int) => journal_read.l11 k a0 a1 a2 ml11 i1564 i1565 = some (r1, r2, r3, r4, r5, r6, r7, r8)) k 0 0 [0, 1] [] h ⟨rfl, ⟨rfl, rfl, rfl, rfl, rfl, rfl, rfl, rfl, trivial⟩, trivial, rfl, by decide, rfl, by decide⟩ (by intros; simp [journal_read.l11]) ?_
      clear h
      intro ml11 ihl11 i1564 i1565 h
      simp only [journal_read.l11] at h
      refine VC.seq ?_
      refine VC.region ?_
      refine VL.letter (decide (i1564 < 8)) fun b1572 hb1572 => ?_
      refine VL.va (op_cmp rfl rfl (congrArg some hb1572) (ltn rfl)) rfl ?_
      refine VL.done ?_
      refine VN.then ?_
      refine VC.seq ?_
      by_cases c1574 : i1564 < 8
      · rw [if_pos c1574] at h
        obtain rfl : b1572 = true := hb1572.symm.trans (decide_eq_true c1574)
        refine VC.cond_t rfl ?_
        refine VC.skip ?_
        refine VN.then ?_
        refine VC.seq ?_
        refine VC.block ?_
        refine VC.seq ?_
        refine VC.region ?_
        refine VL.va (op_move rfl (ltn rfl)) rfl ?_
        refine VL.va (op_assign rfl (ltn rfl)) rfl ?_
        refine VL.done ?_
        refine VN.then ?_
        by_cases c1575 : 0 ≤ wrap64 ((wrap64 (5 + 1)) + i1564)
        · rw [if_pos c1575] at h
          by_cases c1576 : (wrap64 ((wrap64 (5 + 1)) + i1564)) < (a1.size : Int)
          · rw [if_pos c1576] at h
            by_cases c1577 : 0 ≤ wrap64 (8 * i1564)
            · rw [if_pos c1577] at h
              refine VC.stop0 (⟨109, [(0, .int .i64 a0), (1, .string a1), (2, .int .i64 a2), (6, .pointer (some ⟨g789, 0, none⟩)), (7, .bool false), (8, .int .i64 5), (9, .pointer (some ⟨g791, 0, none⟩)), (10, .int .i64 i1564), (19, .int .i64 i1564), (20, .bool true), (21, .int .i64 i1564), (22, .pointer (some ⟨g791, 2, none⟩)), (23, .int .i64 i1565), (24, .string a1), (25, .int .i64 5), (26, .int .i64 (wrap64 (5 + 1))), (27, .int .i64 i1564), (28, .int .i64 (wrap64 ((wrap64 (5 + 1)) + i1564))), (29, .int .u8 (bt a1 (wrap64 ((wrap64 (5 + 1)) + i1564)))), (30, .int .i64 (wrap64 (bt a1 (wrap64 ((wrap64 (5 + 1)) + i1564))))), (31, .int .i64 i1564), (32, .int .i64 (wrap64 (8 * i1564))), (33, .int .i64 (IntKind.i64.wrap ((wrap64 (bt a1 (wrap64 ((wrap64 (5 + 1)) + i1564)))) * 2 ^ min (wrap64 (8 * i1564)).toNat IntKind.i64.bits))), (34, .int .i64 (Go.bits .or .i64 i1565 (IntKind.i64.wrap ((wrap64 (bt a1 (wrap64 ((wrap64 (5 + 1)) + i1564)))) * 2 ^ min (wrap64 (8 * i1564)).toNat IntKind.i64.bits)))), (35, .pointer (some ⟨g791, 2, none⟩))], [], [(g791, 27, [.slice none 0 0, .slice none 0 0, .int .i64 (Go.bits .or .i64 i1565 (IntKind.i64.wrap ((wrap64 (bt a1 (wrap64 ((wrap64 (5 + 1)) + i1564)))) * 2 ^ min (wrap64 (8 * i1564)).toNat IntKind.i64.bits))), .int .i64 (wrap64 (bt a1 5)), .int .i64 0, .slice none 0 0, .slice none 0 0]), (g789, 27, [.slice none 0 0, .slice none 0 0, .int .i64 0, .int .i64 0, .int .i64 0, .slice none 0 0, .slice none 0 0])], []⟩) (True) ?_ ?_
              · refine VC.drawB ⟨0, [], [], [], []⟩ [14] ⟨0, [], [], [(g791, 27, [.slice none 0 0, .slice none 0 0, .int .i64 i1565, .int .i64 (wrap64 (bt a1 5)), .int .i64 0, .slice none 0 0, .slice none 0 0])], []⟩ (by kernel_rfl) rfl (by kernel_rfl) (n := 15) (listed := LB 15 0) ?_
                refine VB.va (i := 0) (listed' := LB 15 1) rfl (op_fieldAddr FI27_1 rfl (add_at _ _ _) (ltn rfl)) rfl (by kernel_rfl) (by kernel_rfl) (by kernel_rfl) (by kernel_rfl) (by decide) (PartP.on ⟨trivial, trivial, trivial⟩ ⟨trivial, ⟨⟨0, rfl⟩, trivial⟩, trivial⟩) (fun _ _ _ h => h) ?_
                refine VB.vb (i := 1) (listed' := LB 15 3) rfl (op_load 0 1 rfl rfl TI3 rfl (by decide) (ltn rfl)) rfl (by kernel_rfl) (by kernel_rfl) (by kernel_rfl) (by kernel_rfl) (by kernel_rfl) (by kernel_rfl) (PartP.on ⟨trivial, trivial, trivial⟩ ⟨trivial, ⟨⟨0, rfl⟩, trivial⟩, trivial⟩) (fun _ _ _ h => h) ?_
                refine VB.va (i := 2) (listed' := LB 15 7) rfl (op_move rfl (ltn rfl)) rfl (by kernel_rfl) (by kernel_rfl) (by kernel_rfl) (by kernel_rfl) (by decide) (PartP.on ⟨trivial, trivial, trivial⟩ ⟨trivial, ⟨⟨0, rfl⟩, trivial⟩, trivial⟩) (fun _ _ _ h => h) ?_
                refine VB.va (i := 3) (listed' := LB 15 15) rfl (op_move rfl (ltn rfl)) rfl (by kernel_rfl) (by kernel_rfl) (by kernel_rfl) (by kernel_rfl) (by decide) (PartP.on ⟨trivial, trivial, trivial⟩ ⟨trivial, ⟨⟨0, rfl⟩, trivial⟩, trivial⟩) (fun _ _ _ h => h) ?_
                refine VB.va (i := 4) (listed' := LB 15 31) rfl (op_ari64 rfl rfl rfl (ltn rfl)) rfl (by kernel_rfl) (by kernel_rfl) (by kernel_rfl) (by kernel_rfl) (by decide) (PartP.on ⟨trivial, trivial, trivial⟩ ⟨trivial, ⟨⟨0, rfl⟩, trivial⟩, trivial⟩) (fun _ _ _ h => h) ?_
                refine VB.va (i := 5) (listed' := LB 15 63) rfl (op_move rfl (ltn rfl)) rfl (by kernel_rfl) (by kernel_rfl) (by kernel_rfl) (by kernel_rfl) (by decide) (PartP.on ⟨trivial, trivial, trivial⟩ ⟨trivial, ⟨⟨0, rfl⟩, trivial⟩, trivial⟩) (fun _ _ _ h => h) ?_
                refine VB.va (i := 6) (listed' := LB 15 127) rfl (op_ari64 rfl rfl rfl (ltn rfl)) rfl (by kernel_rfl) (by kernel_rfl) (by kernel_rfl) (by kernel_rfl) (by decide) (PartP.on ⟨trivial, trivial, trivial⟩ ⟨trivial, ⟨⟨0, rfl⟩, trivial⟩, trivial⟩) (fun _ _ _ h => h) ?_
                refine VB.va (i := 7) (listed' := LB 15 255) rfl (op_indexS Try.underlying9 rfl rfl c1575 c1576 rfl (ltn rfl)) rfl (by kernel_rfl) (by kernel_rfl) (by kernel_rfl) (by kernel_rfl) (by decide) (PartP.on ⟨trivial, trivial, trivial⟩ ⟨trivial, ⟨⟨0, rfl⟩, trivial⟩, trivial⟩) (fun _ _ _ h => h) ?_
                refine VB.va (i := 8) (listed' := LB 15 511) rfl (op_conv Try.underlying5 Try.underlying3 rfl (i64w _) (ltn rfl)) rfl (by kernel_rfl) (by kernel_rfl) (by kernel_rfl) (by kernel_rfl) (by decide) (PartP.on ⟨trivial, trivial, trivial⟩ ⟨trivial, ⟨⟨0, rfl⟩, trivial⟩, trivial⟩) (fun _ _ _ h => h) ?_
                refine VB.va (i := 9) (listed' := LB 15 1023) rfl (op_move rfl (ltn rfl)) rfl (by kernel_rfl) (by kernel_rfl) (by kernel_rfl) (by kernel_rfl) (by decide) (PartP.on ⟨trivial, trivial, trivial⟩ ⟨trivial, ⟨⟨0, rfl⟩, trivial⟩, trivial⟩) (fun _ _ _ h => h) ?_
                refine VB.va (i := 10) (listed' := LB 15 2047) rfl (op_ari64 rfl rfl rfl (ltn rfl)) rfl (by kernel_rfl) (by kernel_rfl) (by kernel_rfl) (by kernel_rfl) (by decide) (PartP.on ⟨trivial, trivial, trivial⟩ ⟨trivial, ⟨⟨0, rfl⟩, trivial⟩, trivial⟩) (fun _ _ _ h => h) ?_
                refine VB.va (i := 11) (listed' := LB 15 4095) rfl (op_shl rfl rfl c1577 rfl (ltn rfl)) rfl (by kernel_rfl) (by kernel_rfl) (by kernel_rfl) (by kernel_rfl) (by decide) (PartP.on ⟨trivial, trivial, trivial⟩ ⟨trivial, ⟨⟨0, rfl⟩, trivial⟩, trivial⟩) (fun _ _ _ h => h) ?_
                refine VB.va (i := 12) (listed' := LB 15 8191) rfl (op_bits rfl rfl rfl (ltn rfl)) rfl (by kernel_rfl) (by kernel_rfl) (by kernel_rfl) (by kernel_rfl) (by decide) (PartP.on ⟨trivial, trivial, trivial⟩ ⟨trivial, ⟨⟨0, rfl⟩, trivial⟩, trivial⟩) (fun _ _ _ h => h) ?_
                refine VB.va (i := 13) (listed' := LB 15 16383) rfl (op_fieldAddr FI27_1 rfl (add_at _ _ _) (ltn rfl)) rfl (by kernel_rfl) (by kernel_rfl) (by kernel_rfl) (by kernel_rfl) (by decide) (PartP.on ⟨trivial, trivial, trivial⟩ ⟨trivial, ⟨⟨0, rfl⟩, trivial⟩, trivial⟩) (fun _ _ _ h => h) ?_
                refine VB.one1 (i := 14) (listed' := LB 15 32767) (by kernel_rfl) rfl (o_store 0 1 rfl rfl rfl TI3 (.c rfl) rfl (len rfl)) rfl (by kernel_rfl) (PartP.off (by kernel_rfl) ⟨trivial, trivial, trivial⟩) ?_
                refine VB.done (by kernel_rfl) ?_
                exact VN.meet0  [0, 1] [] trivial ⟨rfl, ⟨rfl, rfl, rfl, rfl, rfl, rfl, rfl, rfl, rfl, rfl, rfl, rfl, rfl, rfl, rfl, rfl, rfl, rfl, rfl, rfl, rfl, rfl, rfl, rfl, rfl, trivial⟩, trivial, rfl, by decide, rfl, by decide⟩
              intro _
              refine VN.block ?_
              refine VN.then ?_
              refine VC.region ?_
              refine VL.va (op_ari64 rfl rfl rfl (ltn rfl)) rfl ?_
              refine VL.va (op_move rfl (ltn rfl)) rfl ?_
              refine VL.done ?_
              refine VN.again [0, 1] [] (ihl11 (wrap64 (i1564 + 1)) (Go.bits .or .i64 i1565 (IntKind.i64.wrap ((wrap64 (bt a1 (wrap64 ((wrap64 (5 + 1)) + i1564)))) * 2 ^ min (wrap64 (8 * i1564)).toNat IntKind.i64.bits))) h) ⟨rfl, ⟨rfl, rfl, rfl, rfl, rfl, rfl, rfl, rfl, trivial⟩, trivial, rfl, by decide, rfl, by decide⟩
            · rw [if_neg c1577] at h; cases h
          · rw [if_neg c1576] at h; cases h
        · rw [if_neg c1575] at h; cases h
      · rw [if_neg c1574] at h
        obtain rfl : b1572 = false := hb1572.symm.trans (decide_eq_false c1574)
        refine VC.cond_f rfl ?_
        refine VC.exit ?_
        refine VX.then ?_
        refine VX.then ?_
        refine VX.hit ?_
        refine VN.meet1 i1565 [0, 1] [] h ⟨rfl, ⟨rfl, rfl, rfl, rfl, rfl, rfl, rfl, trivial⟩, trivial, rfl, by decide, rfl, by decide⟩
    clear h
    intro i1578 h
    unfold journal_read.j10 at h
    refine VC.join1 (fun (i1797 : Int) => ⟨109, [(0, .int .i64 a0), (1, .string a1), (2, .int .i64 a2), (6, .pointer (some ⟨g789, 0, none⟩)), (7, .bool false), (9, .pointer (some ⟨g791, 0, none⟩))], [], [(g791, 27, [.slice none 0 0, .slice none 0 0, .int .i64 i1578, .int .i64 (wrap64 (bt a1 5)), .int .i64 i1797, .slice none 0 0, .slice none 0 0]), (g789, 27, [.slice none 0 0, .slice none 0 0, .int .i64 0, .int .i64 0, .int .i64 0, .slice none 0 0, .slice none 0 0])], []⟩) (fun (i1797 : Int) => journal_read.j14 k a0 a1 a2 i1578 i1797 = some (r1, r2, r3, r4, r5, r6, r7, r8)) ?_ ?_
    · refine VC.seq ?_
      refine VC.region ?_
      refine VL.va (op_move rfl (ltn rfl)) rfl ?_
      refine VL.done ?_
      refine VN.then ?_
      refine VC.block ?_
      refine VC.loop2 (fun (i1783 : Int) (i1784 : Int) => ⟨109, [(0, .int .i64 a0), (1, .string a1), (2, .int .i64 a2), (6, .pointer (some ⟨g789, 0, none⟩)), (7, .bool false), (8, .int .i64 5), (9, .pointer (some ⟨g791, 0, none⟩)), (37, .int .i64 i1783)], [], [(g791, 27, [.slice none 0 0, .slice none 0 0, .int .i64 i1578, .int .i64 (wrap64 (bt a1 5)), .int .i64 i1784, .slice none 0 0, .slice none 0 0]), (g789, 27, [.slice none 0 0, .slice none 0 0, .int .i64 0, .int .i64 0, .int .i64 0, .slice none 0 0, .slice none 0 0])], []⟩) (fun (ml15 : Nat) (i1783 : Int) (i1784 : Int) => journal_read.l15 k a0 a1 a2 i1578 ml15 i1783 i1784 = some (r1, r2, r3, r4, r5, r6, r7, r8)) k 0 0 [0, 1] [] h ⟨rfl, ⟨rfl, rfl, rfl, rfl, rfl, rfl, rfl, rfl, trivial⟩, trivial, rfl, by decide, rfl, by decide⟩ (by intros; simp [journal_read.l15]) ?_
      clear h
      intro ml15 ihl15 i1783 i1784 h
      simp only [journal_read.l15] at h
      refine VC.seq ?_
      refine VC.region ?_
      refine VL.letter (decide (i1783 < 4)) fun b1791 hb1791 => ?_
      refine VL.va (op_cmp rfl rfl (congrArg some hb1791) (ltn rfl)) rfl ?_
      refine VL.done ?_
      refine VN.then ?_
      refine VC.seq ?_
      by_cases c1793 : i1783 < 4
      · rw [if_pos c1793] at h
        obtain rfl : b1791 = true := hb1791.symm.trans (decide_eq_true c1793)
        refine VC.cond_t rfl ?_
        refine VC.skip ?_
        refine VN.then ?_
        refine VC.seq ?_
        refine VC.block ?_
        refine VC.seq ?_
        refine VC.region ?_
        refine VL.va (op_move rfl (ltn rfl)) rfl ?_
        refine VL.va (op_assign rfl (ltn rfl)) rfl ?_
        refine VL.done ?_
        refine VN.then ?_
        by_cases c1794 : 0 ≤ wrap64 ((wrap64 (5 + 9)) + i1783)
        · rw [if_pos c1794] at h
          by_cases c1795 : (wrap64 ((wrap64 (5 + 9)) + i1783)) < (a1.size : Int)
          · rw [if_pos c1795] at h
            by_cases c1796 : 0 ≤ wrap64 (8 * i1783)
            · rw [if_pos c1796] at h
              refine VC.stop0 (⟨109, [(0, .int .i64 a0), (1, .string a1), (2, .int .i64 a2), (6, .pointer (some ⟨g789, 0, none⟩)), (7, .bool false), (8, .int .i64 5), (9, .pointer (some ⟨g791, 0, none⟩)), (11, .int .i64 i1783), (37, .int .i64 i1783), (38, .bool true), (39, .int .i64 i1783), (40, .pointer (some ⟨g791, 4, none⟩)), (41, .int .i64 i1784), (42, .string a1), (43, .int .i64 5), (44, .int .i64 (wrap64 (5 + 9))), (45, .int .i64 i1783), (46, .int .i64 (wrap64 ((wrap64 (5 + 9)) + i1783))), (47, .int .u8 (bt a1 (wrap64 ((wrap64 (5 + 9)) + i1783)))), (48, .int .i64 (wrap64 (bt a1 (wrap64 ((wrap64 (5 + 9)) + i1783))))), (49, .int .i64 i1783), (50, .int .i64 (wrap64 (8 * i1783))), (51, .int .i64 (IntKind.i64.wrap ((wrap64 (bt a1 (wrap64 ((wrap64 (5 + 9)) + i1783)))) * 2 ^ min (wrap64 (8 * i1783)).toNat IntKind.i64.bits))), (52, .int .i64 (Go.bits .or .i64 i1784 (IntKind.i64.wrap ((wrap64 (bt a1 (wrap64 ((wrap64 (5 + 9)) + i1783)))) * 2 ^ min (wrap64 (8 * i1783)).toNat IntKind.i64.bits)))), (53, .pointer (some ⟨g791, 4, none⟩))], [], [(g791, 27, [.slice none 0 0, .slice none 0 0, .int .i64 i1578, .int .i64 (wrap64 (bt a1 5)), .int .i64 (Go.bits .or .i64 i1784 (IntKind.i64.wrap ((wrap64 (bt a1 (wrap64 ((wrap64 (5 + 9)) + i1783)))) * 2 ^ min (wrap64 (8 * i1783)).toNat IntKind.i64.bits))), .slice none 0 0, .slice none 0 0]), (g789, 27, [.slice none 0 0, .slice none 0 0, .int .i64 0, .int .i64 0, .int .i64 0, .slice none 0 0, .slice none 0 0])], []⟩) (True) ?_ ?_
              · refine VC.drawB ⟨0, [], [], [], []⟩ [14] ⟨0, [], [], [(g791, 27, [.slice none 0 0, .slice none 0 0, .int .i64 i1578, .int .i64 (wrap64 (bt a1 5)), .int .i64 i1784, .slice none 0 0, .slice none 0 0])], []⟩ (by kernel_rfl) rfl (by kernel_rfl) (n := 15) (listed := LB 15 0) ?_
                refine VB.va (i := 0) (listed' := LB 15 1) rfl (op_fieldAddr FI27_3 rfl (add_at _ _ _) (ltn rfl)) rfl (by kernel_rfl) (by kernel_rfl) (by kernel_rfl) (by kernel_rfl) (by decide) (PartP.on ⟨trivial, trivial, trivial⟩ ⟨trivial, ⟨⟨0, rfl⟩, trivial⟩, trivial⟩) (fun _ _ _ h => h) ?_
                refine VB.vb (i := 1) (listed' := LB 15 3) rfl (op_load 0 1 rfl rfl TI3 rfl (by decide) (ltn rfl)) rfl (by kernel_rfl) (by kernel_rfl) (by kernel_rfl) (by kernel_rfl) (by kernel_rfl) (by kernel_rfl) (PartP.on ⟨trivial, trivial, trivial⟩ ⟨trivial, ⟨⟨0, rfl⟩, trivial⟩, trivial⟩) (fun _ _ _ h => h) ?_
                refine VB.va (i := 2) (listed' := LB 15 7) rfl (op_move rfl (ltn rfl)) rfl (by kernel_rfl) (by kernel_rfl) (by kernel_rfl) (by kernel_rfl) (by decide) (PartP.on ⟨trivial, trivial, trivial⟩ ⟨trivial, ⟨⟨0, rfl⟩, trivial⟩, trivial⟩) (fun _ _ _ h => h) ?_
                refine VB.va (i := 3) (listed' := LB 15 15) rfl (op_move rfl (ltn rfl)) rfl (by kernel_rfl) (by kernel_rfl) (by kernel_rfl) (by kernel_rfl) (by decide) (PartP.on ⟨trivial, trivial, trivial⟩ ⟨trivial, ⟨⟨0, rfl⟩, trivial⟩, trivial⟩) (fun _ _ _ h => h) ?_
                refine VB.va (i := 4) (listed' := LB 15 31) rfl (op_ari64 rfl rfl rfl (ltn rfl)) rfl (by kernel_rfl) (by kernel_rfl) (by kernel_rfl) (by kernel_rfl) (by decide) (PartP.on ⟨trivial, trivial, trivial⟩ ⟨trivial, ⟨⟨0, rfl⟩, trivial⟩, trivial⟩) (fun _ _ _ h => h) ?_
                refine VB.va (i := 5) (listed' := LB 15 63) rfl (op_move rfl (ltn rfl)) rfl (by kernel_rfl) (by kernel_rfl) (by kernel_rfl) (by kernel_rfl) (by decide) (PartP.on ⟨trivial, trivial, trivial⟩ ⟨trivial, ⟨⟨0, rfl⟩, trivial⟩, trivial⟩) (fun _ _ _ h => h) ?_
                refine VB.va (i := 6) (listed' := LB 15 127) rfl (op_ari64 rfl rfl rfl (ltn rfl)) rfl (by kernel_rfl) (by kernel_rfl) (by kernel_rfl) (by kernel_rfl) (by decide) (PartP.on ⟨trivial, trivial, trivial⟩ ⟨trivial, ⟨⟨0, rfl⟩, trivial⟩, trivial⟩) (fun _ _ _ h => h) ?_
                refine VB.va (i := 7) (listed' := LB 15 255) rfl (op_indexS Try.underlying9 rfl rfl c1794 c1795 rfl (ltn rfl)) rfl (by kernel_rfl) (by kernel_rfl) (by kernel_rfl) (by kernel_rfl) (by decide) (PartP.on ⟨trivial, trivial, trivial⟩ ⟨trivial, ⟨⟨0, rfl⟩, trivial⟩, trivial⟩) (fun _ _ _ h => h) ?_
                refine VB.va (i := 8) (listed' := LB 15 511) rfl (op_conv Try.underlying5 Try.underlying3 rfl (i64w _) (ltn rfl)) rfl (by kernel_rfl) (by kernel_rfl) (by kernel_rfl) (by kernel_rfl) (by decide) (PartP.on ⟨trivial, trivial, trivial⟩ ⟨trivial, ⟨⟨0, rfl⟩, trivial⟩, trivial⟩) (fun _ _ _ h => h) ?_
                refine VB.va (i := 9) (listed' := LB 15 1023) rfl (op_move rfl (ltn rfl)) rfl (by kernel_rfl) (by kernel_rfl) (by kernel_rfl) (by kernel_rfl) (by decide) (PartP.on ⟨trivial, trivial, trivial⟩ ⟨trivial, ⟨⟨0, rfl⟩, trivial⟩, trivial⟩) (fun _ _ _ h => h) ?_
                refine VB.va (i := 10) (listed' := LB 15 2047) rfl (op_ari64 rfl rfl rfl (ltn rfl)) rfl (by kernel_rfl) (by kernel_rfl) (by kernel_rfl) (by kernel_rfl) (by decide) (PartP.on ⟨trivial, trivial, trivial⟩ ⟨trivial, ⟨⟨0, rfl⟩, trivial⟩, trivial⟩) (fun _ _ _ h => h) ?_
                refine VB.va (i := 11) (listed' := LB 15 4095) rfl (op_shl rfl rfl c1796 rfl (ltn rfl)) rfl (by kernel_rfl) (by kernel_rfl) (by kernel_rfl) (by kernel_rfl) (by decide) (PartP.on ⟨trivial, trivial, trivial⟩ ⟨trivial, ⟨⟨0, rfl⟩, trivial⟩, trivial⟩) (fun _ _ _ h => h) ?_
                refine VB.va (i := 12) (listed' := LB 15 8191) rfl (op_bits rfl rfl rfl (ltn rfl)) rfl (by kernel_rfl) (by kernel_rfl) (by kernel_rfl) (by kernel_rfl) (by decide) (PartP.on ⟨trivial, trivial, trivial⟩ ⟨trivial, ⟨⟨0, rfl⟩, trivial⟩, trivial⟩) (fun _ _ _ h => h) ?_
                refine VB.va (i := 13) (listed' := LB 15 16383) rfl (op_fieldAddr FI27_3 rfl (add_at _ _ _) (ltn rfl)) rfl (by kernel_rfl) (by kernel_rfl) (by kernel_rfl) (by kernel_rfl) (by decide) (PartP.on ⟨trivial, trivial, trivial⟩ ⟨trivial, ⟨⟨0, rfl⟩, trivial⟩, trivial⟩) (fun _ _ _ h => h) ?_
                refine VB.one1 (i := 14) (listed' := LB 15 32767) (by kernel_rfl) rfl (o_store 0 1 rfl rfl rfl TI3 (.c rfl) rfl (len rfl)) rfl (by kernel_rfl) (PartP.off (by kernel_rfl) ⟨trivial, trivial, trivial⟩) ?_
                refine VB.done (by kernel_rfl) ?_
                exact VN.meet0  [0, 1] [] trivial ⟨rfl, ⟨rfl, rfl, rfl, rfl, rfl, rfl, rfl, rfl, rfl, rfl, rfl, rfl, rfl, rfl, rfl, rfl, rfl, rfl, rfl, rfl, rfl, rfl, rfl, rfl, rfl, trivial⟩, trivial, rfl, by decide, rfl, by decide⟩
              intro _
              refine VN.block ?_
              refine VN.then ?_
              refine VC.region ?_
              refine VL.va (op_ari64 rfl rfl rfl (ltn rfl)) rfl ?_
              refine VL.va (op_move rfl (ltn rfl)) rfl ?_
              refine VL.done ?_
              refine VN.again [0, 1] [] (ihl15 (wrap64 (i1783 + 1)) (Go.bits .or .i64 i1784 (IntKind.i64.wrap ((wrap64 (bt a1 (wrap64 ((wrap64 (5 + 9)) + i1783)))) * 2 ^ min (wrap64 (8 * i1783)).toNat IntKind.i64.bits))) h) ⟨rfl, ⟨rfl, rfl, rfl, rfl, rfl, rfl, rfl, rfl, trivial⟩, trivial, rfl, by decide, rfl, by decide⟩
            · rw [if_neg c1796] at h; cases h
          · rw [if_neg c1795] at h; cases h
        · rw [if_neg c1794] at h; cases h
      · rw [if_neg c1793] at h
        obtain rfl : b1791 = false := hb1791.symm.trans (decide_eq_false c1793)
        refine VC.cond_f rfl ?_
        refine VC.exit ?_
        refine VX.then ?_
        refine VX.then ?_
        refine VX.hit ?_
        refine VN.meet1 i1784 [0, 1] [] h ⟨rfl, ⟨rfl, rfl, rfl, rfl, rfl, rfl, trivial⟩, trivial, rfl, by decide, rfl, by decide⟩
    clear h
    intro i1797 h
    unfold journal_read.j14 at h
    refine VC.letter (decide (i1578 ≥ 1)) fun b1798 hb1798 => ?_
    by_cases c1799 : i1578 ≥ 1
    · rw [if_pos c1799] at h
      obtain rfl : b1798 = true := hb1798.symm.trans (decide_eq_true c1799)
      refine VC.letter (decide (i1578 ≤ 1099511627776)) fun b1800 hb1800 => ?_
      by_cases c1801 : i1578 ≤ 1099511627776
      · rw [if_pos c1801] at h
        obtain rfl : b1800 = true := hb1800.symm.trans (decide_eq_true c1801)
        refine VC.letter (((i1578.tmod 2) == a0)) fun b1802 hb1802 => ?_
        by_cases c1803 : (i1578.tmod 2) = a0
        · rw [if_pos c1803] at h
          obtain rfl : b1802 = true := hb1802.symm.trans (beq_iff_eq.2 c1803)
          refine VC.letter (decide ((wrap64 (bt a1 5)) ≤ 1)) fun b1804 hb1804 => ?_
          by_cases c1805 : (wrap64 (bt a1 5)) ≤ 1
          · rw [if_pos c1805] at h
            obtain rfl : b1804 = true := hb1804.symm.trans (decide_eq_true c1805)
            replace h := Option.bind_eq_some_iff.1 h
            obtain ⟨t1806, hA1807, h⟩ := h
            refine VC.letter (decide (i1797 ≤ t1806)) fun b1808 hb1808 => ?_
            refine VC.join0 (⟨109, [(1, .string a1), (6, .pointer (some ⟨g789, 0, none⟩)), (7, .bool false), (9, .pointer (some ⟨g791, 0, none⟩)), (12, .bool b1808)], [], [(g791, 27, [.slice none 0 0, .slice none 0 0, .int .i64 i1578, .int .i64 (wrap64 (bt a1 5)), .int .i64 i1797, .slice none 0 0, .slice none 0 0]), (g789, 27, [.slice none 0 0, .slice none 0 0, .int .i64 0, .int .i64 0, .int .i64 0, .slice none 0 0, .slice none 0 0])], []⟩) (True) ?_ ?_
            · refine VC.draw ⟨0, [], [], [(g791, 27, [.slice none 0 0, .slice none 0 0, .int .i64 i1578, .int .i64 (wrap64 (bt a1 5)), .int .i64 i1797, .slice none 0 0, .slice none 0 0])], []⟩ (by kernel_rfl) rfl (by kernel_rfl) (n := 28) (listed := LB 28 0) ?_
              refine VA.va (i := 0) (listed' := LB 28 1) rfl (op_fieldAddr FI27_1 rfl (add_at _ _ _) (ltn rfl)) rfl (by kernel_rfl) (by kernel_rfl) (by kernel_rfl) (by kernel_rfl) ⟨trivial, ⟨⟨0, rfl⟩, trivial⟩, trivial⟩ (fun _ _ _ h => h) ?_
              refine VA.va (i := 1) (listed' := LB 28 3) rfl (op_load 0 1 rfl rfl TI3 rfl (by decide) (ltn rfl)) rfl (by kernel_rfl) (by kernel_rfl) (by kernel_rfl) (by kernel_rfl) ⟨trivial, ⟨⟨0, rfl⟩, trivial⟩, trivial⟩ (fun _ _ _ h => h) ?_
              refine VA.va (i := 2) (listed' := LB 28 7) rfl (op_cmp rfl rfl (congrArg some hb1798) (ltn rfl)) rfl (by kernel_rfl) (by kernel_rfl) (by kernel_rfl) (by kernel_rfl) ⟨trivial, ⟨⟨0, rfl⟩, trivial⟩, trivial⟩ (fun _ _ _ h => h) ?_
              refine VA.va (i := 3) (listed' := LB 28 15) rfl (op_move rfl (ltn rfl)) rfl (by kernel_rfl) (by kernel_rfl) (by kernel_rfl) (by kernel_rfl) ⟨trivial, ⟨⟨0, rfl⟩, trivial⟩, trivial⟩ (fun _ _ _ h => h) ?_
              refine VA.va (i := 4) (listed' := LB 28 31) rfl (op_fieldAddr FI27_1 rfl (add_at _ _ _) (ltn rfl)) rfl (by kernel_rfl) (by kernel_rfl) (by kernel_rfl) (by kernel_rfl) ⟨trivial, ⟨⟨0, rfl⟩, trivial⟩, trivial⟩ (fun _ _ _ h => h) ?_
              refine VA.va (i := 5) (listed' := LB 28 63) rfl (op_load 0 1 rfl rfl TI3 rfl (by decide) (ltn rfl)) rfl (by kernel_rfl) (by kernel_rfl) (by kernel_rfl) (by kernel_rfl) ⟨trivial, ⟨⟨0, rfl⟩, trivial⟩, trivial⟩ (fun _ _ _ h => h) ?_
              refine VA.va (i := 6) (listed' := LB 28 127) rfl (op_cmp rfl rfl (congrArg some hb1800) (ltn rfl)) rfl (by kernel_rfl) (by kernel_rfl) (by kernel_rfl) (by kernel_rfl) ⟨trivial, ⟨⟨0, rfl⟩, trivial⟩, trivial⟩ (fun _ _ _ h => h) ?_
              refine VA.va (i := 7) (listed' := LB 28 255) rfl (op_pick rfl rfl (ltn rfl)) rfl (by kernel_rfl) (by kernel_rfl) (by kernel_rfl) (by kernel_rfl) ⟨trivial, ⟨⟨0, rfl⟩, trivial⟩, trivial⟩ (fun _ _ _ h => h) ?_
              refine VA.va (i := 8) (listed' := LB 28 511) rfl (op_move rfl (ltn rfl)) rfl (by kernel_rfl) (by kernel_rfl) (by kernel_rfl) (by kernel_rfl) ⟨trivial, ⟨⟨0, rfl⟩, trivial⟩, trivial⟩ (fun _ _ _ h => h) ?_
              refine VA.va (i := 9) (listed' := LB 28 1023) rfl (op_fieldAddr FI27_1 rfl (add_at _ _ _) (ltn rfl)) rfl (by kernel_rfl) (by kernel_rfl) (by kernel_rfl) (by kernel_rfl) ⟨trivial, ⟨⟨0, rfl⟩, trivial⟩, trivial⟩ (fun _ _ _ h => h) ?_
              refine VA.va (i := 10) (listed' := LB 28 2047) rfl (op_load 0 1 rfl rfl TI3 rfl (by decide) (ltn rfl)) rfl (by kernel_rfl) (by kernel_rfl) (by kernel_rfl) (by kernel_rfl) ⟨trivial, ⟨⟨0, rfl⟩, trivial⟩, trivial⟩ (fun _ _ _ h => h) ?_
              refine VA.va (i := 11) (listed' := LB 28 4095) rfl (op_rem rfl rfl (by decide) rfl (ltn rfl)) rfl (by kernel_rfl) (by kernel_rfl) (by kernel_rfl) (by kernel_rfl) ⟨trivial, ⟨⟨0, rfl⟩, trivial⟩, trivial⟩ (fun _ _ _ h => h) ?_
              refine VA.va (i := 12) (listed' := LB 28 8191) rfl (op_move rfl (ltn rfl)) rfl (by kernel_rfl) (by kernel_rfl) (by kernel_rfl) (by kernel_rfl) ⟨trivial, ⟨⟨0, rfl⟩, trivial⟩, trivial⟩ (fun _ _ _ h => h) ?_
              refine VA.va (i := 13) (listed' := LB 28 16383) rfl (op_cmp rfl rfl (congrArg some hb1802) (ltn rfl)) rfl (by kernel_rfl) (by kernel_rfl) (by kernel_rfl) (by kernel_rfl) ⟨trivial, ⟨⟨0, rfl⟩, trivial⟩, trivial⟩ (fun _ _ _ h => h) ?_
              refine VA.va (i := 14) (listed' := LB 28 32767) rfl (op_pick rfl rfl (ltn rfl)) rfl (by kernel_rfl) (by kernel_rfl) (by kernel_rfl) (by kernel_rfl) ⟨trivial, ⟨⟨0, rfl⟩, trivial⟩, trivial⟩ (fun _ _ _ h => h) ?_
              refine VA.va (i := 15) (listed' := LB 28 65535) rfl (op_move rfl (ltn rfl)) rfl (by kernel_rfl) (by kernel_rfl) (by kernel_rfl) (by kernel_rfl) ⟨trivial, ⟨⟨0, rfl⟩, trivial⟩, trivial⟩ (fun _ _ _ h => h) ?_
              refine VA.va (i := 16) (listed' := LB 28 131071) rfl (op_fieldAddr FI27_2 rfl (add_at _ _ _) (ltn rfl)) rfl (by kernel_rfl) (by kernel_rfl) (by kernel_rfl) (by kernel_rfl) ⟨trivial, ⟨⟨0, rfl⟩, trivial⟩, trivial⟩ (fun _ _ _ h => h) ?_
              refine VA.va (i := 17) (listed' := LB 28 262143) rfl (op_load 0 1 rfl rfl TI3 rfl (by decide) (ltn rfl)) rfl (by kernel_rfl) (by kernel_rfl) (by kernel_rfl) (by kernel_rfl) ⟨trivial, ⟨⟨0, rfl⟩, trivial⟩, trivial⟩ (fun _ _ _ h => h) ?_
              refine VA.va (i := 18) (listed' := LB 28 524287) rfl (op_cmp rfl rfl (congrArg some hb1804) (ltn rfl)) rfl (by kernel_rfl) (by kernel_rfl) (by kernel_rfl) (by kernel_rfl) ⟨trivial, ⟨⟨0, rfl⟩, trivial⟩, trivial⟩ (fun _ _ _ h => h) ?_
              refine VA.va (i := 19) (listed' := LB 28 1048575) rfl (op_pick rfl rfl (ltn rfl)) rfl (by kernel_rfl) (by kernel_rfl) (by kernel_rfl) (by kernel_rfl) ⟨trivial, ⟨⟨0, rfl⟩, trivial⟩, trivial⟩ (fun _ _ _ h => h) ?_
              refine VA.va (i := 20) (listed' := LB 28 2097151) rfl (op_move rfl (ltn rfl)) rfl (by kernel_rfl) (by kernel_rfl) (by kernel_rfl) (by kernel_rfl) ⟨trivial, ⟨⟨0, rfl⟩, trivial⟩, trivial⟩ (fun _ _ _ h => h) ?_
              refine VA.va (i := 21) (listed' := LB 28 4194303) rfl (op_fieldAddr FI27_3 rfl (add_at _ _ _) (ltn rfl)) rfl (by kernel_rfl) (by kernel_rfl) (by kernel_rfl) (by kernel_rfl) ⟨trivial, ⟨⟨0, rfl⟩, trivial⟩, trivial⟩ (fun _ _ _ h => h) ?_
              refine VA.va (i := 22) (listed' := LB 28 8388607) rfl (op_load 0 1 rfl rfl TI3 rfl (by decide) (ltn rfl)) rfl (by kernel_rfl) (by kernel_rfl) (by kernel_rfl) (by kernel_rfl) ⟨trivial, ⟨⟨0, rfl⟩, trivial⟩, trivial⟩ (fun _ _ _ h => h) ?_
              refine VA.va (i := 23) (listed' := LB 28 16777215) rfl (op_move rfl (ltn rfl)) rfl (by kernel_rfl) (by kernel_rfl) (by kernel_rfl) (by kernel_rfl) ⟨trivial, ⟨⟨0, rfl⟩, trivial⟩, trivial⟩ (fun _ _ _ h => h) ?_
              refine VA.oneC (i := 24) (listed' := LB 28 33554431) (by kernel_rfl) rfl (o_call0 FO55 (journal_room.ok a2 t1806 hA1807) rfl rfl (ltn rfl) (All_of .nil)) rfl (by kernel_rfl) ?_
              rintro _ _ _ ⟨rfl, rfl, rfl⟩
              refine ⟨⟨trivial, ⟨⟨0, rfl⟩, trivial⟩, trivial⟩, ?_⟩
              refine VA.va (i := 25) (listed' := LB 28 67108863) rfl (op_cmp rfl rfl (congrArg some hb1808) (ltn rfl)) rfl (by kernel_rfl) (by kernel_rfl) (by kernel_rfl) (by kernel_rfl) ⟨trivial, ⟨⟨0, rfl⟩, trivial⟩, trivial⟩ (fun _ _ _ h => h) ?_
              refine VA.va (i := 26) (listed' := LB 28 134217727) rfl (op_pick rfl rfl (ltn rfl)) rfl (by kernel_rfl) (by kernel_rfl) (by kernel_rfl) (by kernel_rfl) ⟨trivial, ⟨⟨0, rfl⟩, trivial⟩, trivial⟩ (fun _ _ _ h => h) ?_
              refine VA.va (i := 27) (listed' := LB 28 268435455) rfl (op_assign rfl (ltn rfl)) rfl (by kernel_rfl) (by kernel_rfl) (by kernel_rfl) (by kernel_rfl) ⟨trivial, ⟨⟨0, rfl⟩, trivial⟩, trivial⟩ (fun _ _ _ h => h) ?_
              refine VA.done (by kernel_rfl) ?_
              exact VN.meet0  [0, 1] [] trivial ⟨rfl, ⟨rfl, rfl, rfl, rfl, rfl, trivial⟩, trivial, rfl, by decide, rfl, by decide⟩
            intro _
            refine VC.seq ?_
            refine VC.region ?_
            refine VL.va (op_fieldAddr FI27_1 rfl (add_at _ _ _) (ltn rfl)) rfl ?_
            refine VL.va (op_load 0 1 rfl rfl TI3 rfl (by decide) (ltn rfl)) rfl ?_
            refine VL.va (op_fieldAddr FI27_2 rfl (add_at _ _ _) (ltn rfl)) rfl ?_
            refine VL.va (op_load 0 1 rfl rfl TI3 rfl (by decide) (ltn rfl)) rfl ?_
            refine VL.va (op_fieldAddr FI27_3 rfl (add_at _ _ _) (ltn rfl)) rfl ?_
            refine VL.va (op_load 0 1 rfl rfl TI3 rfl (by decide) (ltn rfl)) rfl ?_
            replace h := Option.bind_eq_some_iff.1 h
            obtain ⟨r1809, hA1810, h⟩ := h
            refine VL.sC (o_call0 FO39 (journal_headOf.ok k i1578 (wrap64 (bt a1 5)) i1797 r1809 hA1810) rfl rfl (ltn rfl) (All_of .nil)) rfl ?_
            rintro _ _ _ ⟨rfl, rfl, rfl⟩
            refine VL.sG (o_alloc Z74 ZL74 (ltn rfl)) rfl ?_
            intro g1811
            by_cases c1812 : r1809.length = 32
            · rw [if_pos c1812] at h
              by_cases c1813 : (List.replicate 32 (0 : Int)).length = 32
              · rw [if_pos c1813] at h
                refine VL.step1 (o_storeA 0 rfl rfl rfl TI74 c1812 c1813) rfl ?_
                refine VL.done ?_
                refine VN.then ?_
                by_cases c1814 : i1797 ≤ t1806
                · rw [if_pos c1814] at h
                  obtain rfl : b1808 = true := hb1808.symm.trans (decide_eq_true c1814)
                  by_cases c1815 : 32 ≤ (a1.size : Int)
                  · rw [if_pos c1815] at h
                    by_cases c1816 : (a1.extract 0 32).size ≤ 140737488355328
                    · rw [if_pos c1816] at h
                      by_cases c1819 : 32 ≤ (byI (a1.extract 0 32)).length
                      · rw [if_pos c1819] at h
                        by_cases c1822 : ((byI (a1.extract 0 32)).take 32).length = 32
                        · rw [if_pos c1822] at h
                          refine VC.letter (decide (r1809 = ((byI (a1.extract 0 32)).take 32))) fun b1823 hb1823 => ?_
                          by_cases c1824 : r1809 = ((byI (a1.extract 0 32)).take 32)
                          · rw [if_pos c1824] at h
                            obtain rfl : b1823 = true := hb1823.symm.trans (decide_eq_true c1824)
                            by_cases c1825 : (a1.extract 32 a1.size).size ≤ 140737488355328
                            · rw [if_pos c1825] at h
                              by_cases c1828 : 32 ≤ (byI (a1.extract 32 a1.size)).length
                              · rw [if_pos c1828] at h
                                by_cases c1831 : ((byI (a1.extract 32 a1.size)).take 32).length = 32
                                · rw [if_pos c1831] at h
                                  refine VC.letter (decide (r1809 = ((byI (a1.extract 32 a1.size)).take 32))) fun b1832 hb1832 => ?_
                                  refine VC.join0 (⟨109, [(6, .pointer (some ⟨g789, 0, none⟩)), (7, .bool b1832)], [], [(g789, 27, [.slice none 0 0, .slice none 0 0, .int .i64 i1578, .int .i64 (wrap64 (bt a1 5)), .int .i64 i1797, .slice none 0 0, .slice none 0 0])], []⟩) (True) ?_ ?_
                                  · refine VC.draw ⟨0, [], [], [(g1811, 74, ints .u8 r1809), (g791, 27, [.slice none 0 0, .slice none 0 0, .int .i64 i1578, .int .i64 (wrap64 (bt a1 5)), .int .i64 i1797, .slice none 0 0, .slice none 0 0])], []⟩ (by kernel_rfl) rfl (by kernel_rfl) (n := 22) (listed := LB 22 0) ?_
                                    refine VA.va (i := 0) (listed' := LB 22 1) rfl (op_load 1 7 rfl rfl TI27 rfl (fun h => absurd h (by decide)) (ltn rfl)) rfl (by kernel_rfl) (by kernel_rfl) (by kernel_rfl) (by kernel_rfl) ⟨trivial, ⟨⟨0, rfl⟩, ⟨1, rfl⟩, trivial⟩, trivial⟩ (fun _ _ _ h => h) ?_
                                    refine VA.va (i := 1) (listed' := LB 22 3) rfl (op_move rfl (ltn rfl)) rfl (by kernel_rfl) (by kernel_rfl) (by kernel_rfl) (by kernel_rfl) ⟨trivial, ⟨⟨0, rfl⟩, ⟨1, rfl⟩, trivial⟩, trivial⟩ (fun _ _ _ h => h) ?_
                                    refine VA.va (i := 2) (listed' := LB 22 7) rfl (op_move rfl (ltn rfl)) rfl (by kernel_rfl) (by kernel_rfl) (by kernel_rfl) (by kernel_rfl) ⟨trivial, ⟨⟨0, rfl⟩, ⟨1, rfl⟩, trivial⟩, trivial⟩ (fun _ _ _ h => h) ?_
                                    refine VA.va (i := 3) (listed' := LB 22 15) rfl (op_loadA 0 rfl rfl TI74 c1812 (ltn rfl)) rfl (by kernel_rfl) (by kernel_rfl) (by kernel_rfl) (by kernel_rfl) ⟨trivial, ⟨⟨0, rfl⟩, ⟨1, rfl⟩, trivial⟩, trivial⟩ (fun _ _ _ h => h) ?_
                                    refine VA.va (i := 4) (listed' := LB 22 31) rfl (op_move rfl (ltn rfl)) rfl (by kernel_rfl) (by kernel_rfl) (by kernel_rfl) (by kernel_rfl) ⟨trivial, ⟨⟨0, rfl⟩, ⟨1, rfl⟩, trivial⟩, trivial⟩ (fun _ _ _ h => h) ?_
                                    refine VA.va (i := 5) (listed' := LB 22 63) rfl (op_sliceS 0 32 Try.underlying9 rfl ⟨rfl, ⟨_, _, rfl, (by decide), rfl⟩, by omega, by omega⟩ rfl (ltn rfl)) rfl (by kernel_rfl) (by kernel_rfl) (by kernel_rfl) (by kernel_rfl) ⟨trivial, ⟨⟨0, rfl⟩, ⟨1, rfl⟩, trivial⟩, trivial⟩ (fun _ _ _ h => h) ?_
                                    refine VA.oneG (i := 6) (listed' := LB 22 127) (by kernel_rfl) rfl (o_strBytes (es3 := List.map enc_intu8 (byI (a1.extract 0 32))) rfl Try.underlying9 Try.underlying41 Try.underlying5 rfl c1816 (ltn rfl)) rfl (by kernel_rfl) (fun _ => ⟨trivial, ⟨⟨0, rfl⟩, ⟨1, rfl⟩, trivial⟩, trivial⟩) ?_
                                    intro v1818
                                    refine VA.more ⟨0, [], [.row v1818 1 ((byI (a1.extract 0 32)).map enc_intu8)], [(g1811, 74, ints .u8 r1809), (g791, 27, [.slice none 0 0, .slice none 0 0, .int .i64 i1578, .int .i64 (wrap64 (bt a1 5)), .int .i64 i1797, .slice none 0 0, .slice none 0 0])], []⟩ ⟨trivial, ⟨⟨0, rfl⟩, ⟨1, rfl⟩, trivial⟩, trivial⟩ ?_
                                    refine VA.open (m := (byI (a1.extract 0 32)).length) 0 lenm rfl (Nat.lt_of_lt_of_le (by decide) c1819) ?_
                                    rintro ad1820 n1821 rfl
                                    refine VA.va (i := 7) (listed' := LB 22 255) rfl (op_arrayAt Try.underlying74 rfl c1819 (ltn rfl)) rfl (by kernel_rfl) (by kernel_rfl) (by kernel_rfl) (by kernel_rfl) ⟨⟨⟨0, rfl⟩, trivial⟩, ⟨⟨0, rfl⟩, ⟨1, rfl⟩, trivial⟩, trivial⟩ (fun _ _ _ h => h) ?_
                                    refine VA.va (i := 8) (listed' := LB 22 511) rfl (op_loadRA 0 (fun _ => rfl) rfl rfl TI74 c1819 (ltn rfl)) rfl (by kernel_rfl) (by kernel_rfl) (by kernel_rfl) (by kernel_rfl) ⟨⟨⟨0, rfl⟩, trivial⟩, ⟨⟨0, rfl⟩, ⟨1, rfl⟩, trivial⟩, trivial⟩ (fun _ _ _ h => h) ?_
                                    refine VA.va (i := 9) (listed' := LB 22 1023) rfl (op_eqA Try.underlying74 (by kernel_rfl) TI5 Try.underlying5 (by kernel_rfl) rfl rfl c1812 c1822 hb1823 (ltn rfl)) rfl (by kernel_rfl) (by kernel_rfl) (by kernel_rfl) (by kernel_rfl) ⟨⟨⟨0, rfl⟩, trivial⟩, ⟨⟨0, rfl⟩, ⟨1, rfl⟩, trivial⟩, trivial⟩ (fun _ _ _ h => h) ?_
                                    refine VA.va (i := 10) (listed' := LB 22 2047) rfl (op_pick rfl rfl (ltn rfl)) rfl (by kernel_rfl) (by kernel_rfl) (by kernel_rfl) (by kernel_rfl) ⟨⟨⟨0, rfl⟩, trivial⟩, ⟨⟨0, rfl⟩, ⟨1, rfl⟩, trivial⟩, trivial⟩ (fun _ _ _ h => h) ?_
                                    refine VA.va (i := 11) (listed' := LB 22 4095) rfl (op_move rfl (ltn rfl)) rfl (by kernel_rfl) (by kernel_rfl) (by kernel_rfl) (by kernel_rfl) ⟨⟨⟨0, rfl⟩, trivial⟩, ⟨⟨0, rfl⟩, ⟨1, rfl⟩, trivial⟩, trivial⟩ (fun _ _ _ h => h) ?_
                                    refine VA.va (i := 12) (listed' := LB 22 8191) rfl (op_loadA 0 rfl rfl TI74 c1812 (ltn rfl)) rfl (by kernel_rfl) (by kernel_rfl) (by kernel_rfl) (by kernel_rfl) ⟨⟨⟨0, rfl⟩, trivial⟩, ⟨⟨0, rfl⟩, ⟨1, rfl⟩, trivial⟩, trivial⟩ (fun _ _ _ h => h) ?_
                                    refine VA.va (i := 13) (listed' := LB 22 16383) rfl (op_move rfl (ltn rfl)) rfl (by kernel_rfl) (by kernel_rfl) (by kernel_rfl) (by kernel_rfl) ⟨⟨⟨0, rfl⟩, trivial⟩, ⟨⟨0, rfl⟩, ⟨1, rfl⟩, trivial⟩, trivial⟩ (fun _ _ _ h => h) ?_
                                    refine VA.va (i := 14) (listed' := LB 22 32767) rfl (op_sliceS 32 a1.size Try.underlying9 rfl ⟨⟨_, _, rfl, (by decide), rfl⟩, rfl, by omega, by omega⟩ rfl (ltn rfl)) rfl (by kernel_rfl) (by kernel_rfl) (by kernel_rfl) (by kernel_rfl) ⟨⟨⟨0, rfl⟩, trivial⟩, ⟨⟨0, rfl⟩, ⟨1, rfl⟩, trivial⟩, trivial⟩ (fun _ _ _ h => h) ?_
                                    refine VA.all [15, 20] (by kernel_rfl) (by simp) ?_
                                    refine VAll.consG (listed' := LB 22 65535) rfl (o_strBytes (es3 := List.map enc_intu8 (byI (a1.extract 32 a1.size))) rfl Try.underlying9 Try.underlying41 Try.underlying5 rfl c1825 (ltn rfl)) rfl (by kernel_rfl) (fun _ => ⟨⟨⟨1, rfl⟩, trivial⟩, ⟨⟨0, rfl⟩, ⟨1, rfl⟩, trivial⟩, trivial⟩) ?_ ?_
                                    · intro v1827
                                      refine VA.more ⟨0, [], [.row (.slice (some ad1820) (byI (a1.extract 0 32)).length n1821) 1 ((byI (a1.extract 0 32)).map enc_intu8), .row v1827 1 ((byI (a1.extract 32 a1.size)).map enc_intu8)], [(g1811, 74, ints .u8 r1809), (g791, 27, [.slice none 0 0, .slice none 0 0, .int .i64 i1578, .int .i64 (wrap64 (bt a1 5)), .int .i64 i1797, .slice none 0 0, .slice none 0 0])], []⟩ ⟨⟨⟨0, rfl⟩, trivial⟩, ⟨⟨0, rfl⟩, ⟨1, rfl⟩, trivial⟩, trivial⟩ ?_
                                      refine VA.open (m := (byI (a1.extract 32 a1.size)).length) 0 lenm rfl (Nat.lt_of_lt_of_le (by decide) c1828) ?_
                                      rintro ad1829 n1830 rfl
                                      refine VA.va (i := 16) (listed' := LB 22 131071) rfl (op_arrayAt Try.underlying74 rfl c1828 (ltn rfl)) rfl (by kernel_rfl) (by kernel_rfl) (by kernel_rfl) (by kernel_rfl) ⟨⟨⟨1, rfl⟩, ⟨0, rfl⟩, trivial⟩, ⟨⟨0, rfl⟩, ⟨1, rfl⟩, trivial⟩, trivial⟩ (fun _ _ _ h => h) ?_
                                      refine VA.va (i := 17) (listed' := LB 22 262143) rfl (op_loadRA 1 (fun _ => rfl) rfl rfl TI74 c1828 (ltn rfl)) rfl (by kernel_rfl) (by kernel_rfl) (by kernel_rfl) (by kernel_rfl) ⟨⟨⟨1, rfl⟩, ⟨0, rfl⟩, trivial⟩, ⟨⟨0, rfl⟩, ⟨1, rfl⟩, trivial⟩, trivial⟩ (fun _ _ _ h => h) ?_
                                      refine VA.va (i := 18) (listed' := LB 22 524287) rfl (op_eqA Try.underlying74 (by kernel_rfl) TI5 Try.underlying5 (by kernel_rfl) rfl rfl c1812 c1831 hb1832 (ltn rfl)) rfl (by kernel_rfl) (by kernel_rfl) (by kernel_rfl) (by kernel_rfl) ⟨⟨⟨1, rfl⟩, ⟨0, rfl⟩, trivial⟩, ⟨⟨0, rfl⟩, ⟨1, rfl⟩, trivial⟩, trivial⟩ (fun _ _ _ h => h) ?_
                                      refine VA.va (i := 19) (listed' := LB 22 1048575) rfl (op_pick rfl rfl (ltn rfl)) rfl (by kernel_rfl) (by kernel_rfl) (by kernel_rfl) (by kernel_rfl) ⟨⟨⟨1, rfl⟩, ⟨0, rfl⟩, trivial⟩, ⟨⟨0, rfl⟩, ⟨1, rfl⟩, trivial⟩, trivial⟩ (fun _ _ _ h => h) ?_
                                      refine VA.one1 (i := 20) (listed' := LB 22 2097151) (by kernel_rfl) rfl (o_store 2 7 rfl rfl rfl TI27 (.agg (.of rfl)) rfl (len rfl)) rfl (by kernel_rfl) ⟨⟨⟨1, rfl⟩, ⟨0, rfl⟩, trivial⟩, ⟨⟨0, rfl⟩, ⟨1, rfl⟩, trivial⟩, trivial⟩ ?_
                                      refine VA.va (i := 21) (listed' := LB 22 4194303) rfl (op_assign rfl (ltn rfl)) rfl (by kernel_rfl) (by kernel_rfl) (by kernel_rfl) (by kernel_rfl) ⟨⟨⟨1, rfl⟩, ⟨0, rfl⟩, trivial⟩, ⟨⟨0, rfl⟩, ⟨1, rfl⟩, trivial⟩, trivial⟩ (fun _ _ _ h => h) ?_
                                      refine VA.done (by kernel_rfl) ?_
                                      exact VN.meet0  [2] [] trivial ⟨rfl, ⟨rfl, rfl, trivial⟩, trivial, rfl, by decide, rfl, by decide⟩
                                    refine VAll.cons1 (listed' := LB 22 1081343) rfl (o_store 2 7 rfl rfl rfl TI27 (.agg (.of rfl)) rfl (len rfl)) rfl (by kernel_rfl) ⟨⟨⟨0, rfl⟩, trivial⟩, ⟨⟨0, rfl⟩, ⟨1, rfl⟩, trivial⟩, trivial⟩ ?_ VAll.nil
                                    refine VA.oneG (i := 15) (listed' := LB 22 1114111) (by kernel_rfl) rfl (o_strBytes (es3 := List.map enc_intu8 (byI (a1.extract 32 a1.size))) rfl Try.underlying9 Try.underlying41 Try.underlying5 rfl c1825 (ltn rfl)) rfl (by kernel_rfl) (fun _ => ⟨⟨⟨1, rfl⟩, trivial⟩, ⟨⟨0, rfl⟩, ⟨1, rfl⟩, trivial⟩, trivial⟩) ?_
                                    intro v1827
                                    refine VA.more ⟨0, [], [.row (.slice (some ad1820) (byI (a1.extract 0 32)).length n1821) 1 ((byI (a1.extract 0 32)).map enc_intu8), .row v1827 1 ((byI (a1.extract 32 a1.size)).map enc_intu8)], [(g1811, 74, ints .u8 r1809), (g791, 27, [.slice none 0 0, .slice none 0 0, .int .i64 i1578, .int .i64 (wrap64 (bt a1 5)), .int .i64 i1797, .slice none 0 0, .slice none 0 0])], []⟩ ⟨⟨⟨0, rfl⟩, trivial⟩, ⟨⟨0, rfl⟩, ⟨1, rfl⟩, trivial⟩, trivial⟩ ?_
                                    refine VA.open (m := (byI (a1.extract 32 a1.size)).length) 0 lenm rfl (Nat.lt_of_lt_of_le (by decide) c1828) ?_
                                    rintro ad1829 n1830 rfl
                                    refine VA.va (i := 16) (listed' := LB 22 1179647) rfl (op_arrayAt Try.underlying74 rfl c1828 (ltn rfl)) rfl (by kernel_rfl) (by kernel_rfl) (by kernel_rfl) (by kernel_rfl) ⟨⟨⟨1, rfl⟩, ⟨0, rfl⟩, trivial⟩, ⟨⟨0, rfl⟩, ⟨1, rfl⟩, trivial⟩, trivial⟩ (fun _ _ _ h => h) ?_
                                    refine VA.va (i := 17) (listed' := LB 22 1310719) rfl (op_loadRA 1 (fun _ => rfl) rfl rfl TI74 c1828 (ltn rfl)) rfl (by kernel_rfl) (by kernel_rfl) (by kernel_rfl) (by kernel_rfl) ⟨⟨⟨1, rfl⟩, ⟨0, rfl⟩, trivial⟩, ⟨⟨0, rfl⟩, ⟨1, rfl⟩, trivial⟩, trivial⟩ (fun _ _ _ h => h) ?_
                                    refine VA.va (i := 18) (listed' := LB 22 1572863) rfl (op_eqA Try.underlying74 (by kernel_rfl) TI5 Try.underlying5 (by kernel_rfl) rfl rfl c1812 c1831 hb1832 (ltn rfl)) rfl (by kernel_rfl) (by kernel_rfl) (by kernel_rfl) (by kernel_rfl) ⟨⟨⟨1, rfl⟩, ⟨0, rfl⟩, trivial⟩, ⟨⟨0, rfl⟩, ⟨1, rfl⟩, trivial⟩, trivial⟩ (fun _ _ _ h => h) ?_
                                    refine VA.va (i := 19) (listed' := LB 22 2097151) rfl (op_pick rfl rfl (ltn rfl)) rfl (by kernel_rfl) (by kernel_rfl) (by kernel_rfl) (by kernel_rfl) ⟨⟨⟨1, rfl⟩, ⟨0, rfl⟩, trivial⟩, ⟨⟨0, rfl⟩, ⟨1, rfl⟩, trivial⟩, trivial⟩ (fun _ _ _ h => h) ?_
                                    refine VA.va (i := 21) (listed' := LB 22 4194303) rfl (op_assign rfl (ltn rfl)) rfl (by kernel_rfl) (by kernel_rfl) (by kernel_rfl) (by kernel_rfl) ⟨⟨⟨1, rfl⟩, ⟨0, rfl⟩, trivial⟩, ⟨⟨0, rfl⟩, ⟨1, rfl⟩, trivial⟩, trivial⟩ (fun _ _ _ h => h) ?_
                                    refine VA.done (by kernel_rfl) ?_
                                    exact VN.meet0  [2] [] trivial ⟨rfl, ⟨rfl, rfl, trivial⟩, trivial, rfl, by decide, rfl, by decide⟩
                                  intro _
                                  refine VC.ret ?_
                                  simp only [Option.some.injEq, Prod.mk.injEq] at h
                                  obtain ⟨rfl, rfl, rfl, rfl, rfl, rfl, rfl, rfl⟩ := h
                                  subst hb1832
                                  refine VR.nilRow' 9 1 ?_
                                  refine VR.nilRow' 56 2 ?_
                                  refine VR.nilRow' 9 1 ?_
                                  refine VR.nilRow' 9 1 ?_
                                  exact VR.fn (rs := [.cell 6 27, .tmp 7]) [] [((.slice none 0 0), 9, 1, ([] : List ByteArray).map enc_str), ((.slice none 0 0), 56, 2, ([] : List S55).map enc55), ((.slice none 0 0), 9, 1, ([] : List ByteArray).map enc_str), ((.slice none 0 0), 9, 1, ([] : List ByteArray).map enc_str)] [3, 2, 1, 0] rfl (.cell 0 rfl rfl TI27 (fun h => absurd h (by decide)) (.tmp rfl .nil)) ⟨(.slice none 0 0), (.slice none 0 0), (.slice none 0 0), (.slice none 0 0), rfl, rfl, rfl⟩ trivial rfl (by decide)
                                · rw [if_neg c1831] at h; cases h
                              · rw [if_neg c1828] at h; cases h
                            · rw [if_neg c1825] at h; cases h
                          · rw [if_neg c1824] at h
                            obtain rfl : b1823 = false := hb1823.symm.trans (decide_eq_false c1824)
                            refine VC.join0 (⟨109, [(6, .pointer (some ⟨g789, 0, none⟩)), (7, .bool false)], [], [(g789, 27, [.slice none 0 0, .slice none 0 0, .int .i64 i1578, .int .i64 (wrap64 (bt a1 5)), .int .i64 i1797, .slice none 0 0, .slice none 0 0])], []⟩) (True) ?_ ?_
                            · refine VC.draw ⟨0, [], [], [(g1811, 74, ints .u8 r1809), (g791, 27, [.slice none 0 0, .slice none 0 0, .int .i64 i1578, .int .i64 (wrap64 (bt a1 5)), .int .i64 i1797, .slice none 0 0, .slice none 0 0])], []⟩ (by kernel_rfl) rfl (by kernel_rfl) (n := 22) (listed := LB 22 0) ?_
                              refine VA.va (i := 0) (listed' := LB 22 1) rfl (op_load 1 7 rfl rfl TI27 rfl (fun h => absurd h (by decide)) (ltn rfl)) rfl (by kernel_rfl) (by kernel_rfl) (by kernel_rfl) (by kernel_rfl) ⟨trivial, ⟨⟨0, rfl⟩, ⟨1, rfl⟩, trivial⟩, trivial⟩ (fun _ _ _ h => h) ?_
                              refine VA.va (i := 1) (listed' := LB 22 3) rfl (op_move rfl (ltn rfl)) rfl (by kernel_rfl) (by kernel_rfl) (by kernel_rfl) (by kernel_rfl) ⟨trivial, ⟨⟨0, rfl⟩, ⟨1, rfl⟩, trivial⟩, trivial⟩ (fun _ _ _ h => h) ?_
                              refine VA.va (i := 2) (listed' := LB 22 7) rfl (op_move rfl (ltn rfl)) rfl (by kernel_rfl) (by kernel_rfl) (by kernel_rfl) (by kernel_rfl) ⟨trivial, ⟨⟨0, rfl⟩, ⟨1, rfl⟩, trivial⟩, trivial⟩ (fun _ _ _ h => h) ?_
                              refine VA.va (i := 3) (listed' := LB 22 15) rfl (op_loadA 0 rfl rfl TI74 c1812 (ltn rfl)) rfl (by kernel_rfl) (by kernel_rfl) (by kernel_rfl) (by kernel_rfl) ⟨trivial, ⟨⟨0, rfl⟩, ⟨1, rfl⟩, trivial⟩, trivial⟩ (fun _ _ _ h => h) ?_
                              refine VA.va (i := 4) (listed' := LB 22 31) rfl (op_move rfl (ltn rfl)) rfl (by kernel_rfl) (by kernel_rfl) (by kernel_rfl) (by kernel_rfl) ⟨trivial, ⟨⟨0, rfl⟩, ⟨1, rfl⟩, trivial⟩, trivial⟩ (fun _ _ _ h => h) ?_
                              refine VA.va (i := 5) (listed' := LB 22 63) rfl (op_sliceS 0 32 Try.underlying9 rfl ⟨rfl, ⟨_, _, rfl, (by decide), rfl⟩, by omega, by omega⟩ rfl (ltn rfl)) rfl (by kernel_rfl) (by kernel_rfl) (by kernel_rfl) (by kernel_rfl) ⟨trivial, ⟨⟨0, rfl⟩, ⟨1, rfl⟩, trivial⟩, trivial⟩ (fun _ _ _ h => h) ?_
                              refine VA.oneG (i := 6) (listed' := LB 22 127) (by kernel_rfl) rfl (o_strBytes (es3 := List.map enc_intu8 (byI (a1.extract 0 32))) rfl Try.underlying9 Try.underlying41 Try.underlying5 rfl c1816 (ltn rfl)) rfl (by kernel_rfl) (fun _ => ⟨trivial, ⟨⟨0, rfl⟩, ⟨1, rfl⟩, trivial⟩, trivial⟩) ?_
                              intro v1818
                              refine VA.more ⟨0, [], [.row v1818 1 ((byI (a1.extract 0 32)).map enc_intu8)], [(g1811, 74, ints .u8 r1809), (g791, 27, [.slice none 0 0, .slice none 0 0, .int .i64 i1578, .int .i64 (wrap64 (bt a1 5)), .int .i64 i1797, .slice none 0 0, .slice none 0 0])], []⟩ ⟨trivial, ⟨⟨0, rfl⟩, ⟨1, rfl⟩, trivial⟩, trivial⟩ ?_
                              refine VA.open (m := (byI (a1.extract 0 32)).length) 0 lenm rfl (Nat.lt_of_lt_of_le (by decide) c1819) ?_
                              rintro ad1820 n1821 rfl
                              refine VA.va (i := 7) (listed' := LB 22 255) rfl (op_arrayAt Try.underlying74 rfl c1819 (ltn rfl)) rfl (by kernel_rfl) (by kernel_rfl) (by kernel_rfl) (by kernel_rfl) ⟨⟨⟨0, rfl⟩, trivial⟩, ⟨⟨0, rfl⟩, ⟨1, rfl⟩, trivial⟩, trivial⟩ (fun _ _ _ h => h) ?_
                              refine VA.va (i := 8) (listed' := LB 22 511) rfl (op_loadRA 0 (fun _ => rfl) rfl rfl TI74 c1819 (ltn rfl)) rfl (by kernel_rfl) (by kernel_rfl) (by kernel_rfl) (by kernel_rfl) ⟨⟨⟨0, rfl⟩, trivial⟩, ⟨⟨0, rfl⟩, ⟨1, rfl⟩, trivial⟩, trivial⟩ (fun _ _ _ h => h) ?_
                              refine VA.va (i := 9) (listed' := LB 22 1023) rfl (op_eqA Try.underlying74 (by kernel_rfl) TI5 Try.underlying5 (by kernel_rfl) rfl rfl c1812 c1822 hb1823 (ltn rfl)) rfl (by kernel_rfl) (by kernel_rfl) (by kernel_rfl) (by kernel_rfl) ⟨⟨⟨0, rfl⟩, trivial⟩, ⟨⟨0, rfl⟩, ⟨1, rfl⟩, trivial⟩, trivial⟩ (fun _ _ _ h => h) ?_
                              refine VA.va (i := 10) (listed' := LB 22 2047) rfl (op_pick rfl rfl (ltn rfl)) rfl (by kernel_rfl) (by kernel_rfl) (by kernel_rfl) (by kernel_rfl) ⟨⟨⟨0, rfl⟩, trivial⟩, ⟨⟨0, rfl⟩, ⟨1, rfl⟩, trivial⟩, trivial⟩ (fun _ _ _ h => h) ?_
                              refine VA.va (i := 11) (listed' := LB 22 4095) rfl (op_move rfl (ltn rfl)) rfl (by kernel_rfl) (by kernel_rfl) (by kernel_rfl) (by kernel_rfl) ⟨⟨⟨0, rfl⟩, trivial⟩, ⟨⟨0, rfl⟩, ⟨1, rfl⟩, trivial⟩, trivial⟩ (fun _ _ _ h => h) ?_
                              refine VA.un (i := 12) (listed' := LB 22 8191) rfl rfl rfl (ltn rfl) (by kernel_rfl) (by kernel_rfl) (by kernel_rfl) (by kernel_rfl) ⟨⟨⟨0, rfl⟩, trivial⟩, ⟨⟨0, rfl⟩, ⟨1, rfl⟩, trivial⟩, trivial⟩ (fun _ _ _ h => h) ?_
                              refine VA.un (i := 13) (listed' := LB 22 16383) rfl rfl rfl (ltn rfl) (by kernel_rfl) (by kernel_rfl) (by kernel_rfl) (by kernel_rfl) ⟨⟨⟨0, rfl⟩, trivial⟩, ⟨⟨0, rfl⟩, ⟨1, rfl⟩, trivial⟩, trivial⟩ (fun _ _ _ h => h) ?_
                              refine VA.un (i := 14) (listed' := LB 22 32767) rfl rfl rfl (ltn rfl) (by kernel_rfl) (by kernel_rfl) (by kernel_rfl) (by kernel_rfl) ⟨⟨⟨0, rfl⟩, trivial⟩, ⟨⟨0, rfl⟩, ⟨1, rfl⟩, trivial⟩, trivial⟩ (fun _ _ _ h => h) ?_
                              refine VA.un (i := 15) (listed' := LB 22 65535) rfl rfl rfl (ltn rfl) (by kernel_rfl) (by kernel_rfl) (by kernel_rfl) (by kernel_rfl) ⟨⟨⟨0, rfl⟩, trivial⟩, ⟨⟨0, rfl⟩, ⟨1, rfl⟩, trivial⟩, trivial⟩ (fun _ _ _ h => h) ?_
                              refine VA.un (i := 16) (listed' := LB 22 131071) rfl rfl rfl (ltn rfl) (by kernel_rfl) (by kernel_rfl) (by kernel_rfl) (by kernel_rfl) ⟨⟨⟨0, rfl⟩, trivial⟩, ⟨⟨0, rfl⟩, ⟨1, rfl⟩, trivial⟩, trivial⟩ (fun _ _ _ h => h) ?_
                              refine VA.un (i := 17) (listed' := LB 22 262143) rfl rfl rfl (ltn rfl) (by kernel_rfl) (by kernel_rfl) (by kernel_rfl) (by kernel_rfl) ⟨⟨⟨0, rfl⟩, trivial⟩, ⟨⟨0, rfl⟩, ⟨1, rfl⟩, trivial⟩, trivial⟩ (fun _ _ _ h => h) ?_
                              refine VA.un (i := 18) (listed' := LB 22 524287) rfl rfl rfl (ltn rfl) (by kernel_rfl) (by kernel_rfl) (by kernel_rfl) (by kernel_rfl) ⟨⟨⟨0, rfl⟩, trivial⟩, ⟨⟨0, rfl⟩, ⟨1, rfl⟩, trivial⟩, trivial⟩ (fun _ _ _ h => h) ?_
                              refine VA.va (i := 19) (listed' := LB 22 1048575) rfl (op_pick rfl rfl (ltn rfl)) rfl (by kernel_rfl) (by kernel_rfl) (by kernel_rfl) (by kernel_rfl) ⟨⟨⟨0, rfl⟩, trivial⟩, ⟨⟨0, rfl⟩, ⟨1, rfl⟩, trivial⟩, trivial⟩ (fun _ _ _ h => h) ?_
                              refine VA.one1 (i := 20) (listed' := LB 22 2097151) (by kernel_rfl) rfl (o_store 2 7 rfl rfl rfl TI27 (.agg (.of rfl)) rfl (len rfl)) rfl (by kernel_rfl) ⟨⟨⟨0, rfl⟩, trivial⟩, ⟨⟨0, rfl⟩, ⟨1, rfl⟩, trivial⟩, trivial⟩ ?_
                              refine VA.va (i := 21) (listed' := LB 22 4194303) rfl (op_assign rfl (ltn rfl)) rfl (by kernel_rfl) (by kernel_rfl) (by kernel_rfl) (by kernel_rfl) ⟨⟨⟨0, rfl⟩, trivial⟩, ⟨⟨0, rfl⟩, ⟨1, rfl⟩, trivial⟩, trivial⟩ (fun _ _ _ h => h) ?_
                              refine VA.done (by kernel_rfl) ?_
                              exact VN.meet0  [2] [] trivial ⟨rfl, ⟨rfl, rfl, trivial⟩, trivial, rfl, by decide, rfl, by decide⟩
                            intro _
                            refine VC.ret ?_
                            simp only [Option.some.injEq, Prod.mk.injEq] at h
                            obtain ⟨rfl, rfl, rfl, rfl, rfl, rfl, rfl, rfl⟩ := h
                            refine VR.nilRow' 9 1 ?_
                            refine VR.nilRow' 56 2 ?_
                            refine VR.nilRow' 9 1 ?_
                            refine VR.nilRow' 9 1 ?_
                            exact VR.fn (rs := [.cell 6 27, .tmp 7]) [] [((.slice none 0 0), 9, 1, ([] : List ByteArray).map enc_str), ((.slice none 0 0), 56, 2, ([] : List S55).map enc55), ((.slice none 0 0), 9, 1, ([] : List ByteArray).map enc_str), ((.slice none 0 0), 9, 1, ([] : List ByteArray).map enc_str)] [3, 2, 1, 0] rfl (.cell 0 rfl rfl TI27 (fun h => absurd h (by decide)) (.tmp rfl .nil)) ⟨(.slice none 0 0), (.slice none 0 0), (.slice none 0 0), (.slice none 0 0), rfl, rfl, rfl⟩ trivial rfl (by decide)
                        · rw [if_neg c1822] at h; cases h
                      · rw [if_neg c1819] at h; cases h
                    · rw [if_neg c1816] at h; cases h
                  · rw [if_neg c1815] at h; cases h
                · rw [if_neg c1814] at h
                  obtain rfl : b1808 = false := hb1808.symm.trans (decide_eq_false c1814)
                  refine VC.join0 (⟨109, [(6, .pointer (some ⟨g789, 0, none⟩)), (7, .bool false)], [], [(g789, 27, [.slice none 0 0, .slice none 0 0, .int .i64 i1578, .int .i64 (wrap64 (bt a1 5)), .int .i64 i1797, .slice none 0 0, .slice none 0 0])], []⟩) (True) ?_ ?_
                  · refine VC.draw ⟨0, [], [], [(g791, 27, [.slice none 0 0, .slice none 0 0, .int .i64 i1578, .int .i64 (wrap64 (bt a1 5)), .int .i64 i1797, .slice none 0 0, .slice none 0 0])], []⟩ (by kernel_rfl) rfl (by kernel_rfl) (n := 22) (listed := LB 22 0) ?_
                    refine VA.va (i := 0) (listed' := LB 22 1) rfl (op_load 0 7 rfl rfl TI27 rfl (fun h => absurd h (by decide)) (ltn rfl)) rfl (by kernel_rfl) (by kernel_rfl) (by kernel_rfl) (by kernel_rfl) ⟨trivial, ⟨⟨1, rfl⟩, trivial⟩, trivial⟩ (fun _ _ _ h => h) ?_
                    refine VA.va (i := 1) (listed' := LB 22 3) rfl (op_move rfl (ltn rfl)) rfl (by kernel_rfl) (by kernel_rfl) (by kernel_rfl) (by kernel_rfl) ⟨trivial, ⟨⟨1, rfl⟩, trivial⟩, trivial⟩ (fun _ _ _ h => h) ?_
                    refine VA.va (i := 2) (listed' := LB 22 7) rfl (op_move rfl (ltn rfl)) rfl (by kernel_rfl) (by kernel_rfl) (by kernel_rfl) (by kernel_rfl) ⟨trivial, ⟨⟨1, rfl⟩, trivial⟩, trivial⟩ (fun _ _ _ h => h) ?_
                    refine VA.un (i := 3) (listed' := LB 22 15) rfl rfl rfl (ltn rfl) (by kernel_rfl) (by kernel_rfl) (by kernel_rfl) (by kernel_rfl) ⟨trivial, ⟨⟨1, rfl⟩, trivial⟩, trivial⟩ (fun _ _ _ h => h) ?_
                    refine VA.un (i := 4) (listed' := LB 22 31) rfl rfl rfl (ltn rfl) (by kernel_rfl) (by kernel_rfl) (by kernel_rfl) (by kernel_rfl) ⟨trivial, ⟨⟨1, rfl⟩, trivial⟩, trivial⟩ (fun _ _ _ h => h) ?_
                    refine VA.un (i := 5) (listed' := LB 22 63) rfl rfl rfl (ltn rfl) (by kernel_rfl) (by kernel_rfl) (by kernel_rfl) (by kernel_rfl) ⟨trivial, ⟨⟨1, rfl⟩, trivial⟩, trivial⟩ (fun _ _ _ h => h) ?_
                    refine VA.un (i := 6) (listed' := LB 22 127) rfl rfl rfl (ltn rfl) (by kernel_rfl) (by kernel_rfl) (by kernel_rfl) (by kernel_rfl) ⟨trivial, ⟨⟨1, rfl⟩, trivial⟩, trivial⟩ (fun _ _ _ h => h) ?_
                    refine VA.un (i := 7) (listed' := LB 22 255) rfl rfl rfl (ltn rfl) (by kernel_rfl) (by kernel_rfl) (by kernel_rfl) (by kernel_rfl) ⟨trivial, ⟨⟨1, rfl⟩, trivial⟩, trivial⟩ (fun _ _ _ h => h) ?_
                    refine VA.un (i := 8) (listed' := LB 22 511) rfl rfl rfl (ltn rfl) (by kernel_rfl) (by kernel_rfl) (by kernel_rfl) (by kernel_rfl) ⟨trivial, ⟨⟨1, rfl⟩, trivial⟩, trivial⟩ (fun _ _ _ h => h) ?_
                    refine VA.un (i := 9) (listed' := LB 22 1023) rfl rfl rfl (ltn rfl) (by kernel_rfl) (by kernel_rfl) (by kernel_rfl) (by kernel_rfl) ⟨trivial, ⟨⟨1, rfl⟩, trivial⟩, trivial⟩ (fun _ _ _ h => h) ?_
                    refine VA.va (i := 10) (listed' := LB 22 2047) rfl (op_pick rfl rfl (ltn rfl)) rfl (by kernel_rfl) (by kernel_rfl) (by kernel_rfl) (by kernel_rfl) ⟨trivial, ⟨⟨1, rfl⟩, trivial⟩, trivial⟩ (fun _ _ _ h => h) ?_
                    refine VA.va (i := 11) (listed' := LB 22 4095) rfl (op_move rfl (ltn rfl)) rfl (by kernel_rfl) (by kernel_rfl) (by kernel_rfl) (by kernel_rfl) ⟨trivial, ⟨⟨1, rfl⟩, trivial⟩, trivial⟩ (fun _ _ _ h => h) ?_
                    refine VA.un (i := 12) (listed' := LB 22 8191) rfl rfl rfl (ltn rfl) (by kernel_rfl) (by kernel_rfl) (by kernel_rfl) (by kernel_rfl) ⟨trivial, ⟨⟨1, rfl⟩, trivial⟩, trivial⟩ (fun _ _ _ h => h) ?_
                    refine VA.un (i := 13) (listed' := LB 22 16383) rfl rfl rfl (ltn rfl) (by kernel_rfl) (by kernel_rfl) (by kernel_rfl) (by kernel_rfl) ⟨trivial, ⟨⟨1, rfl⟩, trivial⟩, trivial⟩ (fun _ _ _ h => h) ?_
                    refine VA.un (i := 14) (listed' := LB 22 32767) rfl rfl rfl (ltn rfl) (by kernel_rfl) (by kernel_rfl) (by kernel_rfl) (by kernel_rfl) ⟨trivial, ⟨⟨1, rfl⟩, trivial⟩, trivial⟩ (fun _ _ _ h => h) ?_
                    refine VA.un (i := 15) (listed' := LB 22 65535) rfl rfl rfl (ltn rfl) (by kernel_rfl) (by kernel_rfl) (by kernel_rfl) (by kernel_rfl) ⟨trivial, ⟨⟨1, rfl⟩, trivial⟩, trivial⟩ (fun _ _ _ h => h) ?_
                    refine VA.un (i := 16) (listed' := LB 22 131071) rfl rfl rfl (ltn rfl) (by kernel_rfl) (by kernel_rfl) (by kernel_rfl) (by kernel_rfl) ⟨trivial, ⟨⟨1, rfl⟩, trivial⟩, trivial⟩ (fun _ _ _ h => h) ?_
                    refine VA.un (i := 17) (listed' := LB 22 262143) rfl rfl rfl (ltn rfl) (by kernel_rfl) (by kernel_rfl) (by kernel_rfl) (by kernel_rfl) ⟨trivial, ⟨⟨1, rfl⟩, trivial⟩, trivial⟩ (fun _ _ _ h => h) ?_
                    refine VA.un (i := 18) (listed' := LB 22 524287) rfl rfl rfl (ltn rfl) (by kernel_rfl) (by kernel_rfl) (by kernel_rfl) (by kernel_rfl) ⟨trivial, ⟨⟨1, rfl⟩, trivial⟩, trivial⟩ (fun _ _ _ h => h) ?_
                    refine VA.va (i := 19) (listed' := LB 22 1048575) rfl (op_pick rfl rfl (ltn rfl)) rfl (by kernel_rfl) (by kernel_rfl) (by kernel_rfl) (by kernel_rfl) ⟨trivial, ⟨⟨1, rfl⟩, trivial⟩, trivial⟩ (fun _ _ _ h => h) ?_
                    refine VA.one1 (i := 20) (listed' := LB 22 2097151) (by kernel_rfl) rfl (o_store 2 7 rfl rfl rfl TI27 (.agg (.of rfl)) rfl (len rfl)) rfl (by kernel_rfl) ⟨trivial, ⟨⟨1, rfl⟩, trivial⟩, trivial⟩ ?_
                    refine VA.va (i := 21) (listed' := LB 22 4194303) rfl (op_assign rfl (ltn rfl)) rfl (by kernel_rfl) (by kernel_rfl) (by kernel_rfl) (by kernel_rfl) ⟨trivial, ⟨⟨1, rfl⟩, trivial⟩, trivial⟩ (fun _ _ _ h => h) ?_
                    refine VA.done (by kernel_rfl) ?_
                    exact VN.meet0  [2] [] trivial ⟨rfl, ⟨rfl, rfl, trivial⟩, trivial, rfl, by decide, rfl, by decide⟩
                  intro _
                  refine VC.ret ?_
                  simp only [Option.some.injEq, Prod.mk.injEq] at h
                  obtain ⟨rfl, rfl, rfl, rfl, rfl, rfl, rfl, rfl⟩ := h
                  refine VR.nilRow' 9 1 ?_
                  refine VR.nilRow' 56 2 ?_
                  refine VR.nilRow' 9 1 ?_
                  refine VR.nilRow' 9 1 ?_
                  exact VR.fn (rs := [.cell 6 27, .tmp 7]) [] [((.slice none 0 0), 9, 1, ([] : List ByteArray).map enc_str), ((.slice none 0 0), 56, 2, ([] : List S55).map enc55), ((.slice none 0 0), 9, 1, ([] : List ByteArray).map enc_str), ((.slice none 0 0), 9, 1, ([] : List ByteArray).map enc_str)] [3, 2, 1, 0] rfl (.cell 0 rfl rfl TI27 (fun h => absurd h (by decide)) (.tmp rfl .nil)) ⟨(.slice none 0 0), (.slice none 0 0), (.slice none 0 0), (.slice none 0 0), rfl, rfl, rfl⟩ trivial rfl (by decide)
              · rw [if_neg c1813] at h; cases h
            · rw [if_neg c1812] at h; cases h
          · rw [if_neg c1805] at h
            obtain rfl : b1804 = false := hb1804.symm.trans (decide_eq_false c1805)
            refine VC.join0 (⟨109, [(1, .string a1), (6, .pointer (some ⟨g789, 0, none⟩)), (7, .bool false), (9, .pointer (some ⟨g791, 0, none⟩)), (12, .bool false)], [], [(g791, 27, [.slice none 0 0, .slice none 0 0, .int .i64 i1578, .int .i64 (wrap64 (bt a1 5)), .int .i64 i1797, .slice none 0 0, .slice none 0 0]), (g789, 27, [.slice none 0 0, .slice none 0 0, .int .i64 0, .int .i64 0, .int .i64 0, .slice none 0 0, .slice none 0 0])], []⟩) (True) ?_ ?_
            · refine VC.draw ⟨0, [], [], [(g791, 27, [.slice none 0 0, .slice none 0 0, .int .i64 i1578, .int .i64 (wrap64 (bt a1 5)), .int .i64 i1797, .slice none 0 0, .slice none 0 0])], []⟩ (by kernel_rfl) rfl (by kernel_rfl) (n := 28) (listed := LB 28 0) ?_
              refine VA.va (i := 0) (listed' := LB 28 1) rfl (op_fieldAddr FI27_1 rfl (add_at _ _ _) (ltn rfl)) rfl (by kernel_rfl) (by kernel_rfl) (by kernel_rfl) (by kernel_rfl) ⟨trivial, ⟨⟨0, rfl⟩, trivial⟩, trivial⟩ (fun _ _ _ h => h) ?_
              refine VA.va (i := 1) (listed' := LB 28 3) rfl (op_load 0 1 rfl rfl TI3 rfl (by decide) (ltn rfl)) rfl (by kernel_rfl) (by kernel_rfl) (by kernel_rfl) (by kernel_rfl) ⟨trivial, ⟨⟨0, rfl⟩, trivial⟩, trivial⟩ (fun _ _ _ h => h) ?_
              refine VA.va (i := 2) (listed' := LB 28 7) rfl (op_cmp rfl rfl (congrArg some hb1798) (ltn rfl)) rfl (by kernel_rfl) (by kernel_rfl) (by kernel_rfl) (by kernel_rfl) ⟨trivial, ⟨⟨0, rfl⟩, trivial⟩, trivial⟩ (fun _ _ _ h => h) ?_
              refine VA.va (i := 3) (listed' := LB 28 15) rfl (op_move rfl (ltn rfl)) rfl (by kernel_rfl) (by kernel_rfl) (by kernel_rfl) (by kernel_rfl) ⟨trivial, ⟨⟨0, rfl⟩, trivial⟩, trivial⟩ (fun _ _ _ h => h) ?_
              refine VA.va (i := 4) (listed' := LB 28 31) rfl (op_fieldAddr FI27_1 rfl (add_at _ _ _) (ltn rfl)) rfl (by kernel_rfl) (by kernel_rfl) (by kernel_rfl) (by kernel_rfl) ⟨trivial, ⟨⟨0, rfl⟩, trivial⟩, trivial⟩ (fun _ _ _ h => h) ?_
              refine VA.va (i := 5) (listed' := LB 28 63) rfl (op_load 0 1 rfl rfl TI3 rfl (by decide) (ltn rfl)) rfl (by kernel_rfl) (by kernel_rfl) (by kernel_rfl) (by kernel_rfl) ⟨trivial, ⟨⟨0, rfl⟩, trivial⟩, trivial⟩ (fun _ _ _ h => h) ?_
              refine VA.va (i := 6) (listed' := LB 28 127) rfl (op_cmp rfl rfl (congrArg some hb1800) (ltn rfl)) rfl (by kernel_rfl) (by kernel_rfl) (by kernel_rfl) (by kernel_rfl) ⟨trivial, ⟨⟨0, rfl⟩, trivial⟩, trivial⟩ (fun _ _ _ h => h) ?_
              refine VA.va (i := 7) (listed' := LB 28 255) rfl (op_pick rfl rfl (ltn rfl)) rfl (by kernel_rfl) (by kernel_rfl) (by kernel_rfl) (by kernel_rfl) ⟨trivial, ⟨⟨0, rfl⟩, trivial⟩, trivial⟩ (fun _ _ _ h => h) ?_
              refine VA.va (i := 8) (listed' := LB 28 511) rfl (op_move rfl (ltn rfl)) rfl (by kernel_rfl) (by kernel_rfl) (by kernel_rfl) (by kernel_rfl) ⟨trivial, ⟨⟨0, rfl⟩, trivial⟩, trivial⟩ (fun _ _ _ h => h) ?_
              refine VA.va (i := 9) (listed' := LB 28 1023) rfl (op_fieldAddr FI27_1 rfl (add_at _ _ _) (ltn rfl)) rfl (by kernel_rfl) (by kernel_rfl) (by kernel_rfl) (by kernel_rfl) ⟨trivial, ⟨⟨0, rfl⟩, trivial⟩, trivial⟩ (fun _ _ _ h => h) ?_
              refine VA.va (i := 10) (listed' := LB 28 2047) rfl (op_load 0 1 rfl rfl TI3 rfl (by decide) (ltn rfl)) rfl (by kernel_rfl) (by kernel_rfl) (by kernel_rfl) (by kernel_rfl) ⟨trivial, ⟨⟨0, rfl⟩, trivial⟩, trivial⟩ (fun _ _ _ h => h) ?_
              refine VA.va (i := 11) (listed' := LB 28 4095) rfl (op_rem rfl rfl (by decide) rfl (ltn rfl)) rfl (by kernel_rfl) (by kernel_rfl) (by kernel_rfl) (by kernel_rfl) ⟨trivial, ⟨⟨0, rfl⟩, trivial⟩, trivial⟩ (fun _ _ _ h => h) ?_
              refine VA.va (i := 12) (listed' := LB 28 8191) rfl (op_move rfl (ltn rfl)) rfl (by kernel_rfl) (by kernel_rfl) (by kernel_rfl) (by kernel_rfl) ⟨trivial, ⟨⟨0, rfl⟩, trivial⟩, trivial⟩ (fun _ _ _ h => h) ?_
              refine VA.va (i := 13) (listed' := LB 28 16383) rfl (op_cmp rfl rfl (congrArg some hb1802) (ltn rfl)) rfl (by kernel_rfl) (by kernel_rfl) (by kernel_rfl) (by kernel_rfl) ⟨trivial, ⟨⟨0, rfl⟩, trivial⟩, trivial⟩ (fun _ _ _ h => h) ?_
              refine VA.va (i := 14) (listed' := LB 28 32767) rfl (op_pick rfl rfl (ltn rfl)) rfl (by kernel_rfl) (by kernel_rfl) (by kernel_rfl) (by kernel_rfl) ⟨trivial, ⟨⟨0, rfl⟩, trivial⟩, trivial⟩ (fun _ _ _ h => h) ?_
              refine VA.va (i := 15) (listed' := LB 28 65535) rfl (op_move rfl (ltn rfl)) rfl (by kernel_rfl) (by kernel_rfl) (by kernel_rfl) (by kernel_rfl) ⟨trivial, ⟨⟨0, rfl⟩, trivial⟩, trivial⟩ (fun _ _ _ h => h) ?_
              refine VA.va (i := 16) (listed' := LB 28 131071) rfl (op_fieldAddr FI27_2 rfl (add_at _ _ _) (ltn rfl)) rfl (by kernel_rfl) (by kernel_rfl) (by kernel_rfl) (by kernel_rfl) ⟨trivial, ⟨⟨0, rfl⟩, trivial⟩, trivial⟩ (fun _ _ _ h => h) ?_
              refine VA.va (i := 17) (listed' := LB 28 262143) rfl (op_load 0 1 rfl rfl TI3 rfl (by decide) (ltn rfl)) rfl (by kernel_rfl) (by kernel_rfl) (by kernel_rfl) (by kernel_rfl) ⟨trivial, ⟨⟨0, rfl⟩, trivial⟩, trivial⟩ (fun _ _ _ h => h) ?_
              refine VA.va (i := 18) (listed' := LB 28 524287) rfl (op_cmp rfl rfl (congrArg some hb1804) (ltn rfl)) rfl (by kernel_rfl) (by kernel_rfl) (by kernel_rfl) (by kernel_rfl) ⟨trivial, ⟨⟨0, rfl⟩, trivial⟩, trivial⟩ (fun _ _ _ h => h) ?_
              refine VA.va (i := 19) (listed' := LB 28 1048575) rfl (op_pick rfl rfl (ltn rfl)) rfl (by kernel_rfl) (by kernel_rfl) (by kernel_rfl) (by kernel_rfl) ⟨trivial, ⟨⟨0, rfl⟩, trivial⟩, trivial⟩ (fun _ _ _ h => h) ?_
              refine VA.va (i := 20) (listed' := LB 28 2097151) rfl (op_move rfl (ltn rfl)) rfl (by kernel_rfl) (by kernel_rfl) (by kernel_rfl) (by kernel_rfl) ⟨trivial, ⟨⟨0, rfl⟩, trivial⟩, trivial⟩ (fun _ _ _ h => h) ?_
              refine VA.un (i := 21) (listed' := LB 28 4194303) rfl rfl rfl (ltn rfl) (by kernel_rfl) (by kernel_rfl) (by kernel_rfl) (by kernel_rfl) ⟨trivial, ⟨⟨0, rfl⟩, trivial⟩, trivial⟩ (fun _ _ _ h => h) ?_
              refine VA.un (i := 22) (listed' := LB 28 8388607) rfl rfl rfl (ltn rfl) (by kernel_rfl) (by kernel_rfl) (by kernel_rfl) (by kernel_rfl) ⟨trivial, ⟨⟨0, rfl⟩, trivial⟩, trivial⟩ (fun _ _ _ h => h) ?_
              refine VA.un (i := 23) (listed' := LB 28 16777215) rfl rfl rfl (ltn rfl) (by kernel_rfl) (by kernel_rfl) (by kernel_rfl) (by kernel_rfl) ⟨trivial, ⟨⟨0, rfl⟩, trivial⟩, trivial⟩ (fun _ _ _ h => h) ?_
              refine VA.un (i := 24) (listed' := LB 28 33554431) rfl rfl rfl (ltn rfl) (by kernel_rfl) (by kernel_rfl) (by kernel_rfl) (by kernel_rfl) ⟨trivial, ⟨⟨0, rfl⟩, trivial⟩, trivial⟩ (fun _ _ _ h => h) ?_
              refine VA.un (i := 25) (listed' := LB 28 67108863) rfl rfl rfl (ltn rfl) (by kernel_rfl) (by kernel_rfl) (by kernel_rfl) (by kernel_rfl) ⟨trivial, ⟨⟨0, rfl⟩, trivial⟩, trivial⟩ (fun _ _ _ h => h) ?_
              refine VA.va (i := 26) (listed' := LB 28 134217727) rfl (op_pick rfl rfl (ltn rfl)) rfl (by kernel_rfl) (by kernel_rfl) (by kernel_rfl) (by kernel_rfl) ⟨trivial, ⟨⟨0, rfl⟩, trivial⟩, trivial⟩ (fun _ _ _ h => h) ?_
              refine VA.va (i := 27) (listed' := LB 28 268435455) rfl (op_assign rfl (ltn rfl)) rfl (by kernel_rfl) (by kernel_rfl) (by kernel_rfl) (by kernel_rfl) ⟨trivial, ⟨⟨0, rfl⟩, trivial⟩, trivial⟩ (fun _ _ _ h => h) ?_
              refine VA.done (by kernel_rfl) ?_
              exact VN.meet0  [0, 1] [] trivial ⟨rfl, ⟨rfl, rfl, rfl, rfl, rfl, trivial⟩, trivial, rfl, by decide, rfl, by decide⟩
            intro _
            refine VC.seq ?_
            refine VC.region ?_
            refine VL.va (op_fieldAddr FI27_1 rfl (add_at _ _ _) (ltn rfl)) rfl ?_
            refine VL.va (op_load 0 1 rfl rfl TI3 rfl (by decide) (ltn rfl)) rfl ?_
            refine VL.va (op_fieldAddr FI27_2 rfl (add_at _ _ _) (ltn rfl)) rfl ?_
            refine VL.va (op_load 0 1 rfl rfl TI3 rfl (by decide) (ltn rfl)) rfl ?_
            refine VL.va (op_fieldAddr FI27_3 rfl (add_at _ _ _) (ltn rfl)) rfl ?_
            refine VL.va (op_load 0 1 rfl rfl TI3 rfl (by decide) (ltn rfl)) rfl ?_
            replace h := Option.bind_eq_some_iff.1 h
            obtain ⟨r1845, hA1846, h⟩ := h
            refine VL.sC (o_call0 FO39 (journal_headOf.ok k i1578 (wrap64 (bt a1 5)) i1797 r1845 hA1846) rfl rfl (ltn rfl) (All_of .nil)) rfl ?_
            rintro _ _ _ ⟨rfl, rfl, rfl⟩
            refine VL.sG (o_alloc Z74 ZL74 (ltn rfl)) rfl ?_
            intro g1847
            by_cases c1848 : r1845.length = 32
            · rw [if_pos c1848] at h
              by_cases c1849 : (List.replicate 32 (0 : Int)).length = 32
              · rw [if_pos c1849] at h
                refine VL.step1 (o_storeA 0 rfl rfl rfl TI74 c1848 c1849) rfl ?_
                refine VL.done ?_
                refine VN.then ?_
                refine VC.join0 (⟨109, [(6, .pointer (some ⟨g789, 0, none⟩)), (7, .bool false)], [], [(g789, 27, [.slice none 0 0, .slice none 0 0, .int .i64 i1578, .int .i64 (wrap64 (bt a1 5)), .int .i64 i1797, .slice none 0 0, .slice none 0 0])], []⟩) (True) ?_ ?_
                · refine VC.draw ⟨0, [], [], [(g791, 27, [.slice none 0 0, .slice none 0 0, .int .i64 i1578, .int .i64 (wrap64 (bt a1 5)), .int .i64 i1797, .slice none 0 0, .slice none 0 0])], []⟩ (by kernel_rfl) rfl (by kernel_rfl) (n := 22) (listed := LB 22 0) ?_
                  refine VA.va (i := 0) (listed' := LB 22 1) rfl (op_load 0 7 rfl rfl TI27 rfl (fun h => absurd h (by decide)) (ltn rfl)) rfl (by kernel_rfl) (by kernel_rfl) (by kernel_rfl) (by kernel_rfl) ⟨trivial, ⟨⟨1, rfl⟩, trivial⟩, trivial⟩ (fun _ _ _ h => h) ?_
                  refine VA.va (i := 1) (listed' := LB 22 3) rfl (op_move rfl (ltn rfl)) rfl (by kernel_rfl) (by kernel_rfl) (by kernel_rfl) (by kernel_rfl) ⟨trivial, ⟨⟨1, rfl⟩, trivial⟩, trivial⟩ (fun _ _ _ h => h) ?_
                  refine VA.va (i := 2) (listed' := LB 22 7) rfl (op_move rfl (ltn rfl)) rfl (by kernel_rfl) (by kernel_rfl) (by kernel_rfl) (by kernel_rfl) ⟨trivial, ⟨⟨1, rfl⟩, trivial⟩, trivial⟩ (fun _ _ _ h => h) ?_
                  refine VA.un (i := 3) (listed' := LB 22 15) rfl rfl rfl (ltn rfl) (by kernel_rfl) (by kernel_rfl) (by kernel_rfl) (by kernel_rfl) ⟨trivial, ⟨⟨1, rfl⟩, trivial⟩, trivial⟩ (fun _ _ _ h => h) ?_
                  refine VA.un (i := 4) (listed' := LB 22 31) rfl rfl rfl (ltn rfl) (by kernel_rfl) (by kernel_rfl) (by kernel_rfl) (by kernel_rfl) ⟨trivial, ⟨⟨1, rfl⟩, trivial⟩, trivial⟩ (fun _ _ _ h => h) ?_
                  refine VA.un (i := 5) (listed' := LB 22 63) rfl rfl rfl (ltn rfl) (by kernel_rfl) (by kernel_rfl) (by kernel_rfl) (by kernel_rfl) ⟨trivial, ⟨⟨1, rfl⟩, trivial⟩, trivial⟩ (fun _ _ _ h => h) ?_
                  refine VA.un (i := 6) (listed' := LB 22 127) rfl rfl rfl (ltn rfl) (by kernel_rfl) (by kernel_rfl) (by kernel_rfl) (by kernel_rfl) ⟨trivial, ⟨⟨1, rfl⟩, trivial⟩, trivial⟩ (fun _ _ _ h => h) ?_
                  refine VA.un (i := 7) (listed' := LB 22 255) rfl rfl rfl (ltn rfl) (by kernel_rfl) (by kernel_rfl) (by kernel_rfl) (by kernel_rfl) ⟨trivial, ⟨⟨1, rfl⟩, trivial⟩, trivial⟩ (fun _ _ _ h => h) ?_
                  refine VA.un (i := 8) (listed' := LB 22 511) rfl rfl rfl (ltn rfl) (by kernel_rfl) (by kernel_rfl) (by kernel_rfl) (by kernel_rfl) ⟨trivial, ⟨⟨1, rfl⟩, trivial⟩, trivial⟩ (fun _ _ _ h => h) ?_
                  refine VA.un (i := 9) (listed' := LB 22 1023) rfl rfl rfl (ltn rfl) (by kernel_rfl) (by kernel_rfl) (by kernel_rfl) (by kernel_rfl) ⟨trivial, ⟨⟨1, rfl⟩, trivial⟩, trivial⟩ (fun _ _ _ h => h) ?_
                  refine VA.va (i := 10) (listed' := LB 22 2047) rfl (op_pick rfl rfl (ltn rfl)) rfl (by kernel_rfl) (by kernel_rfl) (by kernel_rfl) (by kernel_rfl) ⟨trivial, ⟨⟨1, rfl⟩, trivial⟩, trivial⟩ (fun _ _ _ h => h) ?_
                  refine VA.va (i := 11) (listed' := LB 22 4095) rfl (op_move rfl (ltn rfl)) rfl (by kernel_rfl) (by kernel_rfl) (by kernel_rfl) (by kernel_rfl) ⟨trivial, ⟨⟨1, rfl⟩, trivial⟩, trivial⟩ (fun _ _ _ h => h) ?_
                  refine VA.un (i := 12) (listed' := LB 22 8191) rfl rfl rfl (ltn rfl) (by kernel_rfl) (by kernel_rfl) (by kernel_rfl) (by kernel_rfl) ⟨trivial, ⟨⟨1, rfl⟩, trivial⟩, trivial⟩ (fun _ _ _ h => h) ?_
                  refine VA.un (i := 13) (listed' := LB 22 16383) rfl rfl rfl (ltn rfl) (by kernel_rfl) (by kernel_rfl) (by kernel_rfl) (by kernel_rfl) ⟨trivial, ⟨⟨1, rfl⟩, trivial⟩, trivial⟩ (fun _ _ _ h => h) ?_
                  refine VA.un (i := 14) (listed' := LB 22 32767) rfl rfl rfl (ltn rfl) (by kernel_rfl) (by kernel_rfl) (by kernel_rfl) (by kernel_rfl) ⟨trivial, ⟨⟨1, rfl⟩, trivial⟩, trivial⟩ (fun _ _ _ h => h) ?_
                  refine VA.un (i := 15) (listed' := LB 22 65535) rfl rfl rfl (ltn rfl) (by kernel_rfl) (by kernel_rfl) (by kernel_rfl) (by kernel_rfl) ⟨trivial, ⟨⟨1, rfl⟩, trivial⟩, trivial⟩ (fun _ _ _ h => h) ?_
                  refine VA.un (i := 16) (listed' := LB 22 131071) rfl rfl rfl (ltn rfl) (by kernel_rfl) (by kernel_rfl) (by kernel_rfl) (by kernel_rfl) ⟨trivial, ⟨⟨1, rfl⟩, trivial⟩, trivial⟩ (fun _ _ _ h => h) ?_
                  refine VA.un (i := 17) (listed' := LB 22 262143) rfl rfl rfl (ltn rfl) (by kernel_rfl) (by kernel_rfl) (by kernel_rfl) (by kernel_rfl) ⟨trivial, ⟨⟨1, rfl⟩, trivial⟩, trivial⟩ (fun _ _ _ h => h) ?_
                  refine VA.un (i := 18) (listed' := LB 22 524287) rfl rfl rfl (ltn rfl) (by kernel_rfl) (by kernel_rfl) (by kernel_rfl) (by kernel_rfl) ⟨trivial, ⟨⟨1, rfl⟩, trivial⟩, trivial⟩ (fun _ _ _ h => h) ?_
                  refine VA.va (i := 19) (listed' := LB 22 1048575) rfl (op_pick rfl rfl (ltn rfl)) rfl (by kernel_rfl) (by kernel_rfl) (by kernel_rfl) (by kernel_rfl) ⟨trivial, ⟨⟨1, rfl⟩, trivial⟩, trivial⟩ (fun _ _ _ h => h) ?_
                  refine VA.one1 (i := 20) (listed' := LB 22 2097151) (by kernel_rfl) rfl (o_store 2 7 rfl rfl rfl TI27 (.agg (.of rfl)) rfl (len rfl)) rfl (by kernel_rfl) ⟨trivial, ⟨⟨1, rfl⟩, trivial⟩, trivial⟩ ?_
                  refine VA.va (i := 21) (listed' := LB 22 4194303) rfl (op_assign rfl (ltn rfl)) rfl (by kernel_rfl) (by kernel_rfl) (by kernel_rfl) (by kernel_rfl) ⟨trivial, ⟨⟨1, rfl⟩, trivial⟩, trivial⟩ (fun _ _ _ h => h) ?_
                  refine VA.done (by kernel_rfl) ?_
                  exact VN.meet0  [2] [] trivial ⟨rfl, ⟨rfl, rfl, trivial⟩, trivial, rfl, by decide, rfl, by decide⟩
                intro _
                refine VC.ret ?_
                simp only [Option.some.injEq, Prod.mk.injEq] at h
                obtain ⟨rfl, rfl, rfl, rfl, rfl, rfl, rfl, rfl⟩ := h
                refine VR.nilRow' 9 1 ?_
                refine VR.nilRow' 56 2 ?_
                refine VR.nilRow' 9 1 ?_
                refine VR.nilRow' 9 1 ?_
                exact VR.fn (rs := [.cell 6 27, .tmp 7]) [] [((.slice none 0 0), 9, 1, ([] : List ByteArray).map enc_str), ((.slice none 0 0), 56, 2, ([] : List S55).map enc55), ((.slice none 0 0), 9, 1, ([] : List ByteArray).map enc_str), ((.slice none 0 0), 9, 1, ([] : List ByteArray).map enc_str)] [3, 2, 1, 0] rfl (.cell 0 rfl rfl TI27 (fun h => absurd h (by decide)) (.tmp rfl .nil)) ⟨(.slice none 0 0), (.slice none 0 0), (.slice none 0 0), (.slice none 0 0), rfl, rfl, rfl⟩ trivial rfl (by decide)
              · rw [if_neg c1849] at h; cases h
            · rw [if_neg c1848] at h; cases h
        · rw [if_neg c1803] at h
          obtain rfl : b1802 = false := hb1802.symm.trans (beq_eq_false_iff_ne.2 c1803)
          refine VC.join0 (⟨109, [(1, .string a1), (6, .pointer (some ⟨g789, 0, none⟩)), (7, .bool false), (9, .pointer (some ⟨g791, 0, none⟩)), (12, .bool false)], [], [(g791, 27, [.slice none 0 0, .slice none 0 0, .int .i64 i1578, .int .i64 (wrap64 (bt a1 5)), .int .i64 i1797, .slice none 0 0, .slice none 0 0]), (g789, 27, [.slice none 0 0, .slice none 0 0, .int .i64 0, .int .i64 0, .int .i64 0, .slice none 0 0, .slice none 0 0])], []⟩) (True) ?_ ?_
          · refine VC.draw ⟨0, [], [], [(g791, 27, [.slice none 0 0, .slice none 0 0, .int .i64 i1578, .int .i64 (wrap64 (bt a1 5)), .int .i64 i1797, .slice none 0 0, .slice none 0 0])], []⟩ (by kernel_rfl) rfl (by kernel_rfl) (n := 28) (listed := LB 28 0) ?_
            refine VA.va (i := 0) (listed' := LB 28 1) rfl (op_fieldAddr FI27_1 rfl (add_at _ _ _) (ltn rfl)) rfl (by kernel_rfl) (by kernel_rfl) (by kernel_rfl) (by kernel_rfl) ⟨trivial, ⟨⟨0, rfl⟩, trivial⟩, trivial⟩ (fun _ _ _ h => h) ?_
            refine VA.va (i := 1) (listed' := LB 28 3) rfl (op_load 0 1 rfl rfl TI3 rfl (by decide) (ltn rfl)) rfl (by kernel_rfl) (by kernel_rfl) (by kernel_rfl) (by kernel_rfl) ⟨trivial, ⟨⟨0, rfl⟩, trivial⟩, trivial⟩ (fun _ _ _ h => h) ?_
            refine VA.va (i := 2) (listed' := LB 28 7) rfl (op_cmp rfl rfl (congrArg some hb1798) (ltn rfl)) rfl (by kernel_rfl) (by kernel_rfl) (by kernel_rfl) (by kernel_rfl) ⟨trivial, ⟨⟨0, rfl⟩, trivial⟩, trivial⟩ (fun _ _ _ h => h) ?_
            refine VA.va (i := 3) (listed' := LB 28 15) rfl (op_move rfl (ltn rfl)) rfl (by kernel_rfl) (by kernel_rfl) (by kernel_rfl) (by kernel_rfl) ⟨trivial, ⟨⟨0, rfl⟩, trivial⟩, trivial⟩ (fun _ _ _ h => h) ?_
            refine VA.va (i := 4) (listed' := LB 28 31) rfl (op_fieldAddr FI27_1 rfl (add_at _ _ _) (ltn rfl)) rfl (by kernel_rfl) (by kernel_rfl) (by kernel_rfl) (by kernel_rfl) ⟨trivial, ⟨⟨0, rfl⟩, trivial⟩, trivial⟩ (fun _ _ _ h => h) ?_
            refine VA.va (i := 5) (listed' := LB 28 63) rfl (op_load 0 1 rfl rfl TI3 rfl (by decide) (ltn rfl)) rfl (by kernel_rfl) (by kernel_rfl) (by kernel_rfl) (by kernel_rfl) ⟨trivial, ⟨⟨0, rfl⟩, trivial⟩, trivial⟩ (fun _ _ _ h => h) ?_
            refine VA.va (i := 6) (listed' := LB 28 127) rfl (op_cmp rfl rfl (congrArg some hb1800) (ltn rfl)) rfl (by kernel_rfl) (by kernel_rfl) (by kernel_rfl) (by kernel_rfl) ⟨trivial, ⟨⟨0, rfl⟩, trivial⟩, trivial⟩ (fun _ _ _ h => h) ?_
            refine VA.va (i := 7) (listed' := LB 28 255) rfl (op_pick rfl rfl (ltn rfl)) rfl (by kernel_rfl) (by kernel_rfl) (by kernel_rfl) (by kernel_rfl) ⟨trivial, ⟨⟨0, rfl⟩, trivial⟩, trivial⟩ (fun _ _ _ h => h) ?_
            refine VA.va (i := 8) (listed' := LB 28 511) rfl (op_move rfl (ltn rfl)) rfl (by kernel_rfl) (by kernel_rfl) (by kernel_rfl) (by kernel_rfl) ⟨trivial, ⟨⟨0, rfl⟩, trivial⟩, trivial⟩ (fun _ _ _ h => h) ?_
            refine VA.va (i := 9) (listed' := LB 28 1023) rfl (op_fieldAddr FI27_1 rfl (add_at _ _ _) (ltn rfl)) rfl (by kernel_rfl) (by kernel_rfl) (by kernel_rfl) (by kernel_rfl) ⟨trivial, ⟨⟨0, rfl⟩, trivial⟩, trivial⟩ (fun _ _ _ h => h) ?_
            refine VA.va (i := 10) (listed' := LB 28 2047) rfl (op_load 0 1 rfl rfl TI3 rfl (by decide) (ltn rfl)) rfl (by kernel_rfl) (by kernel_rfl) (by kernel_rfl) (by kernel_rfl) ⟨trivial, ⟨⟨0, rfl⟩, trivial⟩, trivial⟩ (fun _ _ _ h => h) ?_
            refine VA.va (i := 11) (listed' := LB 28 4095) rfl (op_rem rfl rfl (by decide) rfl (ltn rfl)) rfl (by kernel_rfl) (by kernel_rfl) (by kernel_rfl) (by kernel_rfl) ⟨trivial, ⟨⟨0, rfl⟩, trivial⟩, trivial⟩ (fun _ _ _ h => h) ?_
            refine VA.va (i := 12) (listed' := LB 28 8191) rfl (op_move rfl (ltn rfl)) rfl (by kernel_rfl) (by kernel_rfl) (by kernel_rfl) (by kernel_rfl) ⟨trivial, ⟨⟨0, rfl⟩, trivial⟩, trivial⟩ (fun _ _ _ h => h) ?_
            refine VA.va (i := 13) (listed' := LB 28 16383) rfl (op_cmp rfl rfl (congrArg some hb1802) (ltn rfl)) rfl (by kernel_rfl) (by kernel_rfl) (by kernel_rfl) (by kernel_rfl) ⟨trivial, ⟨⟨0, rfl⟩, trivial⟩, trivial⟩ (fun _ _ _ h => h) ?_
            refine VA.va (i := 14) (listed' := LB 28 32767) rfl (op_pick rfl rfl (ltn rfl)) rfl (by kernel_rfl) (by kernel_rfl) (by kernel_rfl) (by kernel_rfl) ⟨trivial, ⟨⟨0, rfl⟩, trivial⟩, trivial⟩ (fun _ _ _ h => h) ?_
            refine VA.va (i := 15) (listed' := LB 28 65535) rfl (op_move rfl (ltn rfl)) rfl (by kernel_rfl) (by kernel_rfl) (by kernel_rfl) (by kernel_rfl) ⟨trivial, ⟨⟨0, rfl⟩, trivial⟩, trivial⟩ (fun _ _ _ h => h) ?_
            refine VA.un (i := 16) (listed' := LB 28 131071) rfl rfl rfl (ltn rfl) (by kernel_rfl) (by kernel_rfl) (by kernel_rfl) (by kernel_rfl) ⟨trivial, ⟨⟨0, rfl⟩, trivial⟩, trivial⟩ (fun _ _ _ h => h) ?_
            refine VA.un (i := 17) (listed' := LB 28 262143) rfl rfl rfl (ltn rfl) (by kernel_rfl) (by kernel_rfl) (by kernel_rfl) (by kernel_rfl) ⟨trivial, ⟨⟨0, rfl⟩, trivial⟩, trivial⟩ (fun _ _ _ h => h) ?_
            refine VA.un (i := 18) (listed' := LB 28 524287) rfl rfl rfl (ltn rfl) (by kernel_rfl) (by kernel_rfl) (by kernel_rfl) (by kernel_rfl) ⟨trivial, ⟨⟨0, rfl⟩, trivial⟩, trivial⟩ (fun _ _ _ h => h) ?_
            refine VA.va (i := 19) (listed' := LB 28 1048575) rfl (op_pick rfl rfl (ltn rfl)) rfl (by kernel_rfl) (by kernel_rfl) (by kernel_rfl) (by kernel_rfl) ⟨trivial, ⟨⟨0, rfl⟩, trivial⟩, trivial⟩ (fun _ _ _ h => h) ?_
            refine VA.va (i := 20) (listed' := LB 28 2097151) rfl (op_move rfl (ltn rfl)) rfl (by kernel_rfl) (by kernel_rfl) (by kernel_rfl) (by kernel_rfl) ⟨trivial, ⟨⟨0, rfl⟩, trivial⟩, trivial⟩ (fun _ _ _ h => h) ?_
            refine VA.un (i := 21) (listed' := LB 28 4194303) rfl rfl rfl (ltn rfl) (by kernel_rfl) (by kernel_rfl) (by kernel_rfl) (by kernel_rfl) ⟨trivial, ⟨⟨0, rfl⟩, trivial⟩, trivial⟩ (fun _ _ _ h => h) ?_
            refine VA.un (i := 22) (listed' := LB 28 8388607) rfl rfl rfl (ltn rfl) (by kernel_rfl) (by kernel_rfl) (by kernel_rfl) (by kernel_rfl) ⟨trivial, ⟨⟨0, rfl⟩, trivial⟩, trivial⟩ (fun _ _ _ h => h) ?_
            refine VA.un (i := 23) (listed' := LB 28 16777215) rfl rfl rfl (ltn rfl) (by kernel_rfl) (by kernel_rfl) (by kernel_rfl) (by kernel_rfl) ⟨trivial, ⟨⟨0, rfl⟩, trivial⟩, trivial⟩ (fun _ _ _ h => h) ?_
            refine VA.un (i := 24) (listed' := LB 28 33554431) rfl rfl rfl (ltn rfl) (by kernel_rfl) (by kernel_rfl) (by kernel_rfl) (by kernel_rfl) ⟨trivial, ⟨⟨0, rfl⟩, trivial⟩, trivial⟩ (fun _ _ _ h => h) ?_
            refine VA.un (i := 25) (listed' := LB 28 67108863) rfl rfl rfl (ltn rfl) (by kernel_rfl) (by kernel_rfl) (by kernel_rfl) (by kernel_rfl) ⟨trivial, ⟨⟨0, rfl⟩, trivial⟩, trivial⟩ (fun _ _ _ h => h) ?_
            refine VA.va (i := 26) (listed' := LB 28 134217727) rfl (op_pick rfl rfl (ltn rfl)) rfl (by kernel_rfl) (by kernel_rfl) (by kernel_rfl) (by kernel_rfl) ⟨trivial, ⟨⟨0, rfl⟩, trivial⟩, trivial⟩ (fun _ _ _ h => h) ?_
            refine VA.va (i := 27) (listed' := LB 28 268435455) rfl (op_assign rfl (ltn rfl)) rfl (by kernel_rfl) (by kernel_rfl) (by kernel_rfl) (by kernel_rfl) ⟨trivial, ⟨⟨0, rfl⟩, trivial⟩, trivial⟩ (fun _ _ _ h => h) ?_
            refine VA.done (by kernel_rfl) ?_
            exact VN.meet0  [0, 1] [] trivial ⟨rfl, ⟨rfl, rfl, rfl, rfl, rfl, trivial⟩, trivial, rfl, by decide, rfl, by decide⟩
          intro _
          refine VC.seq ?_
          refine VC.region ?_
          refine VL.va (op_fieldAddr FI27_1 rfl (add_at _ _ _) (ltn rfl)) rfl ?_
          refine VL.va (op_load 0 1 rfl rfl TI3 rfl (by decide) (ltn rfl)) rfl ?_
          refine VL.va (op_fieldAddr FI27_2 rfl (add_at _ _ _) (ltn rfl)) rfl ?_
          refine VL.va (op_load 0 1 rfl rfl TI3 rfl (by decide) (ltn rfl)) rfl ?_
          refine VL.va (op_fieldAddr FI27_3 rfl (add_at _ _ _) (ltn rfl)) rfl ?_
          refine VL.va (op_load 0 1 rfl rfl TI3 rfl (by decide) (ltn rfl)) rfl ?_
          replace h := Option.bind_eq_some_iff.1 h
          obtain ⟨r1854, hA1855, h⟩ := h
          refine VL.sC (o_call0 FO39 (journal_headOf.ok k i1578 (wrap64 (bt a1 5)) i1797 r1854 hA1855) rfl rfl (ltn rfl) (All_of .nil)) rfl ?_
          rintro _ _ _ ⟨rfl, rfl, rfl⟩
          refine VL.sG (o_alloc Z74 ZL74 (ltn rfl)) rfl ?_
          intro g1856
          by_cases c1857 : r1854.length = 32
          · rw [if_pos c1857] at h
            by_cases c1858 : (List.replicate 32 (0 : Int)).length = 32
            · rw [if_pos c1858] at h
              refine VL.step1 (o_storeA 0 rfl rfl rfl TI74 c1857 c1858) rfl ?_
              refine VL.done ?_
              refine VN.then ?_
              refine VC.join0 (⟨109, [(6, .pointer (some ⟨g789, 0, none⟩)), (7, .bool false)], [], [(g789, 27, [.slice none 0 0, .slice none 0 0, .int .i64 i1578, .int .i64 (wrap64 (bt a1 5)), .int .i64 i1797, .slice none 0 0, .slice none 0 0])], []⟩) (True) ?_ ?_
              · refine VC.draw ⟨0, [], [], [(g791, 27, [.slice none 0 0, .slice none 0 0, .int .i64 i1578, .int .i64 (wrap64 (bt a1 5)), .int .i64 i1797, .slice none 0 0, .slice none 0 0])], []⟩ (by kernel_rfl) rfl (by kernel_rfl) (n := 22) (listed := LB 22 0) ?_
                refine VA.va (i := 0) (listed' := LB 22 1) rfl (op_load 0 7 rfl rfl TI27 rfl (fun h => absurd h (by decide)) (ltn rfl)) rfl (by kernel_rfl) (by kernel_rfl) (by kernel_rfl) (by kernel_rfl) ⟨trivial, ⟨⟨1, rfl⟩, trivial⟩, trivial⟩ (fun _ _ _ h => h) ?_
                refine VA.va (i := 1) (listed' := LB 22 3) rfl (op_move rfl (ltn rfl)) rfl (by kernel_rfl) (by kernel_rfl) (by kernel_rfl) (by kernel_rfl) ⟨trivial, ⟨⟨1, rfl⟩, trivial⟩, trivial⟩ (fun _ _ _ h => h) ?_
                refine VA.va (i := 2) (listed' := LB 22 7) rfl (op_move rfl (ltn rfl)) rfl (by kernel_rfl) (by kernel_rfl) (by kernel_rfl) (by kernel_rfl) ⟨trivial, ⟨⟨1, rfl⟩, trivial⟩, trivial⟩ (fun _ _ _ h => h) ?_
                refine VA.un (i := 3) (listed' := LB 22 15) rfl rfl rfl (ltn rfl) (by kernel_rfl) (by kernel_rfl) (by kernel_rfl) (by kernel_rfl) ⟨trivial, ⟨⟨1, rfl⟩, trivial⟩, trivial⟩ (fun _ _ _ h => h) ?_
                refine VA.un (i := 4) (listed' := LB 22 31) rfl rfl rfl (ltn rfl) (by kernel_rfl) (by kernel_rfl) (by kernel_rfl) (by kernel_rfl) ⟨trivial, ⟨⟨1, rfl⟩, trivial⟩, trivial⟩ (fun _ _ _ h => h) ?_
                refine VA.un (i := 5) (listed' := LB 22 63) rfl rfl rfl (ltn rfl) (by kernel_rfl) (by kernel_rfl) (by kernel_rfl) (by kernel_rfl) ⟨trivial, ⟨⟨1, rfl⟩, trivial⟩, trivial⟩ (fun _ _ _ h => h) ?_
                refine VA.un (i := 6) (listed' := LB 22 127) rfl rfl rfl (ltn rfl) (by kernel_rfl) (by kernel_rfl) (by kernel_rfl) (by kernel_rfl) ⟨trivial, ⟨⟨1, rfl⟩, trivial⟩, trivial⟩ (fun _ _ _ h => h) ?_
                refine VA.un (i := 7) (listed' := LB 22 255) rfl rfl rfl (ltn rfl) (by kernel_rfl) (by kernel_rfl) (by kernel_rfl) (by kernel_rfl) ⟨trivial, ⟨⟨1, rfl⟩, trivial⟩, trivial⟩ (fun _ _ _ h => h) ?_
                refine VA.un (i := 8) (listed' := LB 22 511) rfl rfl rfl (ltn rfl) (by kernel_rfl) (by kernel_rfl) (by kernel_rfl) (by kernel_rfl) ⟨trivial, ⟨⟨1, rfl⟩, trivial⟩, trivial⟩ (fun _ _ _ h => h) ?_
                refine VA.un (i := 9) (listed' := LB 22 1023) rfl rfl rfl (ltn rfl) (by kernel_rfl) (by kernel_rfl) (by kernel_rfl) (by kernel_rfl) ⟨trivial, ⟨⟨1, rfl⟩, trivial⟩, trivial⟩ (fun _ _ _ h => h) ?_
                refine VA.va (i := 10) (listed' := LB 22 2047) rfl (op_pick rfl rfl (ltn rfl)) rfl (by kernel_rfl) (by kernel_rfl) (by kernel_rfl) (by kernel_rfl) ⟨trivial, ⟨⟨1, rfl⟩, trivial⟩, trivial⟩ (fun _ _ _ h => h) ?_
                refine VA.va (i := 11) (listed' := LB 22 4095) rfl (op_move rfl (ltn rfl)) rfl (by kernel_rfl) (by kernel_rfl) (by kernel_rfl) (by kernel_rfl) ⟨trivial, ⟨⟨1, rfl⟩, trivial⟩, trivial⟩ (fun _ _ _ h => h) ?_
                refine VA.un (i := 12) (listed' := LB 22 8191) rfl rfl rfl (ltn rfl) (by kernel_rfl) (by kernel_rfl) (by kernel_rfl) (by kernel_rfl) ⟨trivial, ⟨⟨1, rfl⟩, trivial⟩, trivial⟩ (fun _ _ _ h => h) ?_
                refine VA.un (i := 13) (listed' := LB 22 16383) rfl rfl rfl (ltn rfl) (by kernel_rfl) (by kernel_rfl) (by kernel_rfl) (by kernel_rfl) ⟨trivial, ⟨⟨1, rfl⟩, trivial⟩, trivial⟩ (fun _ _ _ h => h) ?_
                refine VA.un (i := 14) (listed' := LB 22 32767) rfl rfl rfl (ltn rfl) (by kernel_rfl) (by kernel_rfl) (by kernel_rfl) (by kernel_rfl) ⟨trivial, ⟨⟨1, rfl⟩, trivial⟩, trivial⟩ (fun _ _ _ h => h) ?_
                refine VA.un (i := 15) (listed' := LB 22 65535) rfl rfl rfl (ltn rfl) (by kernel_rfl) (by kernel_rfl) (by kernel_rfl) (by kernel_rfl) ⟨trivial, ⟨⟨1, rfl⟩, trivial⟩, trivial⟩ (fun _ _ _ h => h) ?_
                refine VA.un (i := 16) (listed' := LB 22 131071) rfl rfl rfl (ltn rfl) (by kernel_rfl) (by kernel_rfl) (by kernel_rfl) (by kernel_rfl) ⟨trivial, ⟨⟨1, rfl⟩, trivial⟩, trivial⟩ (fun _ _ _ h => h) ?_
                refine VA.un (i := 17) (listed' := LB 22 262143) rfl rfl rfl (ltn rfl) (by kernel_rfl) (by kernel_rfl) (by kernel_rfl) (by kernel_rfl) ⟨trivial, ⟨⟨1, rfl⟩, trivial⟩, trivial⟩ (fun _ _ _ h => h) ?_
                refine VA.un (i := 18) (listed' := LB 22 524287) rfl rfl rfl (ltn rfl) (by kernel_rfl) (by kernel_rfl) (by kernel_rfl) (by kernel_rfl) ⟨trivial, ⟨⟨1, rfl⟩, trivial⟩, trivial⟩ (fun _ _ _ h => h) ?_
                refine VA.va (i := 19) (listed' := LB 22 1048575) rfl (op_pick rfl rfl (ltn rfl)) rfl (by kernel_rfl) (by kernel_rfl) (by kernel_rfl) (by kernel_rfl) ⟨trivial, ⟨⟨1, rfl⟩, trivial⟩, trivial⟩ (fun _ _ _ h => h) ?_
                refine VA.one1 (i := 20) (listed' := LB 22 2097151) (by kernel_rfl) rfl (o_store 2 7 rfl rfl rfl TI27 (.agg (.of rfl)) rfl (len rfl)) rfl (by kernel_rfl) ⟨trivial, ⟨⟨1, rfl⟩, trivial⟩, trivial⟩ ?_
                refine VA.va (i := 21) (listed' := LB 22 4194303) rfl (op_assign rfl (ltn rfl)) rfl (by kernel_rfl) (by kernel_rfl) (by kernel_rfl) (by kernel_rfl) ⟨trivial, ⟨⟨1, rfl⟩, trivial⟩, trivial⟩ (fun _ _ _ h => h) ?_
                refine VA.done (by kernel_rfl) ?_
                exact VN.meet0  [2] [] trivial ⟨rfl, ⟨rfl, rfl, trivial⟩, trivial, rfl, by decide, rfl, by decide⟩
              intro _
              refine VC.ret ?_
              simp only [Option.some.injEq, Prod.mk.injEq] at h
              obtain ⟨rfl, rfl, rfl, rfl, rfl, rfl, rfl, rfl⟩ := h
              refine VR.nilRow' 9 1 ?_
              refine VR.nilRow' 56 2 ?_
              refine VR.nilRow' 9 1 ?_
              refine VR.nilRow' 9 1 ?_
              exact VR.fn (rs := [.cell 6 27, .tmp 7]) [] [((.slice none 0 0), 9, 1, ([] : List ByteArray).map enc_str), ((.slice none 0 0), 56, 2, ([] : List S55).map enc55), ((.slice none 0 0), 9, 1, ([] : List ByteArray).map enc_str), ((.slice none 0 0), 9, 1, ([] : List ByteArray).map enc_str)] [3, 2, 1, 0] rfl (.cell 0 rfl rfl TI27 (fun h => absurd h (by decide)) (.tmp rfl .nil)) ⟨(.slice none 0 0), (.slice none 0 0), (.slice none 0 0), (.slice none 0 0), rfl, rfl, rfl⟩ trivial rfl (by decide)
            · rw [if_neg c1858] at h; cases h
          · rw [if_neg c1857] at h; cases h
      · rw [if_neg c1801] at h
        obtain rfl : b1800 = false := hb1800.symm.trans (decide_eq_false c1801)
        refine VC.join0 (⟨109, [(1, .string a1), (6, .pointer (some ⟨g789, 0, none⟩)), (7, .bool false), (9, .pointer (some ⟨g791, 0, none⟩)), (12, .bool false)], [], [(g791, 27, [.slice none 0 0, .slice none 0 0, .int .i64 i1578, .int .i64 (wrap64 (bt a1 5)), .int .i64 i1797, .slice none 0 0, .slice none 0 0]), (g789, 27, [.slice none 0 0, .slice none 0 0, .int .i64 0, .int .i64 0, .int .i64 0, .slice none 0 0, .slice none 0 0])], []⟩) (True) ?_ ?_
        · refine VC.draw ⟨0, [], [], [(g791, 27, [.slice none 0 0, .slice none 0 0, .int .i64 i1578, .int .i64 (wrap64 (bt a1 5)), .int .i64 i1797, .slice none 0 0, .slice none 0 0])], []⟩ (by kernel_rfl) rfl (by kernel_rfl) (n := 28) (listed := LB 28 0) ?_
          refine VA.va (i := 0) (listed' := LB 28 1) rfl (op_fieldAddr FI27_1 rfl (add_at _ _ _) (ltn rfl)) rfl (by kernel_rfl) (by kernel_rfl) (by kernel_rfl) (by kernel_rfl) ⟨trivial, ⟨⟨0, rfl⟩, trivial⟩, trivial⟩ (fun _ _ _ h => h) ?_
          refine VA.va (i := 1) (listed' := LB 28 3) rfl (op_load 0 1 rfl rfl TI3 rfl (by decide) (ltn rfl)) rfl (by kernel_rfl) (by kernel_rfl) (by kernel_rfl) (by kernel_rfl) ⟨trivial, ⟨⟨0, rfl⟩, trivial⟩, trivial⟩ (fun _ _ _ h => h) ?_
          refine VA.va (i := 2) (listed' := LB 28 7) rfl (op_cmp rfl rfl (congrArg some hb1798) (ltn rfl)) rfl (by kernel_rfl) (by kernel_rfl) (by kernel_rfl) (by kernel_rfl) ⟨trivial, ⟨⟨0, rfl⟩, trivial⟩, trivial⟩ (fun _ _ _ h => h) ?_
          refine VA.va (i := 3) (listed' := LB 28 15) rfl (op_move rfl (ltn rfl)) rfl (by kernel_rfl) (by kernel_rfl) (by kernel_rfl) (by kernel_rfl) ⟨trivial, ⟨⟨0, rfl⟩, trivial⟩, trivial⟩ (fun _ _ _ h => h) ?_
          refine VA.va (i := 4) (listed' := LB 28 31) rfl (op_fieldAddr FI27_1 rfl (add_at _ _ _) (ltn rfl)) rfl (by kernel_rfl) (by kernel_rfl) (by kernel_rfl) (by kernel_rfl) ⟨trivial, ⟨⟨0, rfl⟩, trivial⟩, trivial⟩ (fun _ _ _ h => h) ?_
          refine VA.va (i := 5) (listed' := LB 28 63) rfl (op_load 0 1 rfl rfl TI3 rfl (by decide) (ltn rfl)) rfl (by kernel_rfl) (by kernel_rfl) (by kernel_rfl) (by kernel_rfl) ⟨trivial, ⟨⟨0, rfl⟩, trivial⟩, trivial⟩ (fun _ _ _ h => h) ?_
          refine VA.va (i := 6) (listed' := LB 28 127) rfl (op_cmp rfl rfl (congrArg some hb1800) (ltn rfl)) rfl (by kernel_rfl) (by kernel_rfl) (by kernel_rfl) (by kernel_rfl) ⟨trivial, ⟨⟨0, rfl⟩, trivial⟩, trivial⟩ (fun _ _ _ h => h) ?_
          refine VA.va (i := 7) (listed' := LB 28 255) rfl (op_pick rfl rfl (ltn rfl)) rfl (by kernel_rfl) (by kernel_rfl) (by kernel_rfl) (by kernel_rfl) ⟨trivial, ⟨⟨0, rfl⟩, trivial⟩, trivial⟩ (fun _ _ _ h => h) ?_
          refine VA.va (i := 8) (listed' := LB 28 511) rfl (op_move rfl (ltn rfl)) rfl (by kernel_rfl) (by kernel_rfl) (by kernel_rfl) (by kernel_rfl) ⟨trivial, ⟨⟨0, rfl⟩, trivial⟩, trivial⟩ (fun _ _ _ h => h) ?_
          refine VA.un (i := 9) (listed' := LB 28 1023) rfl rfl rfl (ltn rfl) (by kernel_rfl) (by kernel_rfl) (by kernel_rfl) (by kernel_rfl) ⟨trivial, ⟨⟨0, rfl⟩, trivial⟩, trivial⟩ (fun _ _ _ h => h) ?_
          refine VA.un (i := 10) (listed' := LB 28 2047) rfl rfl rfl (ltn rfl) (by kernel_rfl) (by kernel_rfl) (by kernel_rfl) (by kernel_rfl) ⟨trivial, ⟨⟨0, rfl⟩, trivial⟩, trivial⟩ (fun _ _ _ h => h) ?_
          refine VA.un (i := 11) (listed' := LB 28 4095) rfl rfl rfl (ltn rfl) (by kernel_rfl) (by kernel_rfl) (by kernel_rfl) (by kernel_rfl) ⟨trivial, ⟨⟨0, rfl⟩, trivial⟩, trivial⟩ (fun _ _ _ h => h) ?_
          refine VA.un (i := 12) (listed' := LB 28 8191) rfl rfl rfl (ltn rfl) (by kernel_rfl) (by kernel_rfl) (by kernel_rfl) (by kernel_rfl) ⟨trivial, ⟨⟨0, rfl⟩, trivial⟩, trivial⟩ (fun _ _ _ h => h) ?_
          refine VA.un (i := 13) (listed' := LB 28 16383) rfl rfl rfl (ltn rfl) (by kernel_rfl) (by kernel_rfl) (by kernel_rfl) (by kernel_rfl) ⟨trivial, ⟨⟨0, rfl⟩, trivial⟩, trivial⟩ (fun _ _ _ h => h) ?_
          refine VA.va (i := 14) (listed' := LB 28 32767) rfl (op_pick rfl rfl (ltn rfl)) rfl (by kernel_rfl) (by kernel_rfl) (by kernel_rfl) (by kernel_rfl) ⟨trivial, ⟨⟨0, rfl⟩, trivial⟩, trivial⟩ (fun _ _ _ h => h) ?_
          refine VA.va (i := 15) (listed' := LB 28 65535) rfl (op_move rfl (ltn rfl)) rfl (by kernel_rfl) (by kernel_rfl) (by kernel_rfl) (by kernel_rfl) ⟨trivial, ⟨⟨0, rfl⟩, trivial⟩, trivial⟩ (fun _ _ _ h => h) ?_
          refine VA.un (i := 16) (listed' := LB 28 131071) rfl rfl rfl (ltn rfl) (by kernel_rfl) (by kernel_rfl) (by kernel_rfl) (by kernel_rfl) ⟨trivial, ⟨⟨0, rfl⟩, trivial⟩, trivial⟩ (fun _ _ _ h => h) ?_
          refine VA.un (i := 17) (listed' := LB 28 262143) rfl rfl rfl (ltn rfl) (by kernel_rfl) (by kernel_rfl) (by kernel_rfl) (by kernel_rfl) ⟨trivial, ⟨⟨0, rfl⟩, trivial⟩, trivial⟩ (fun _ _ _ h => h) ?_
          refine VA.un (i := 18) (listed' := LB 28 524287) rfl rfl rfl (ltn rfl) (by kernel_rfl) (by kernel_rfl) (by kernel_rfl) (by kernel_rfl) ⟨trivial, ⟨⟨0, rfl⟩, trivial⟩, trivial⟩ (fun _ _ _ h => h) ?_
          refine VA.va (i := 19) (listed' := LB 28 1048575) rfl (op_pick rfl rfl (ltn rfl)) rfl (by kernel_rfl) (by kernel_rfl) (by kernel_rfl) (by kernel_rfl) ⟨trivial, ⟨⟨0, rfl⟩, trivial⟩, trivial⟩ (fun _ _ _ h => h) ?_
          refine VA.va (i := 20) (listed' := LB 28 2097151) rfl (op_move rfl (ltn rfl)) rfl (by kernel_rfl) (by kernel_rfl) (by kernel_rfl) (by kernel_rfl) ⟨trivial, ⟨⟨0, rfl⟩, trivial⟩, trivial⟩ (fun _ _ _ h => h) ?_
          refine VA.un (i := 21) (listed' := LB 28 4194303) rfl rfl rfl (ltn rfl) (by kernel_rfl) (by kernel_rfl) (by kernel_rfl) (by kernel_rfl) ⟨trivial, ⟨⟨0, rfl⟩, trivial⟩, trivial⟩ (fun _ _ _ h => h) ?_
          refine VA.un (i := 22) (listed' := LB 28 8388607) rfl rfl rfl (ltn rfl) (by kernel_rfl) (by kernel_rfl) (by kernel_rfl) (by kernel_rfl) ⟨trivial, ⟨⟨0, rfl⟩, trivial⟩, trivial⟩ (fun _ _ _ h => h) ?_
          refine VA.un (i := 23) (listed' := LB 28 16777215) rfl rfl rfl (ltn rfl) (by kernel_rfl) (by kernel_rfl) (by kernel_rfl) (by kernel_rfl) ⟨trivial, ⟨⟨0, rfl⟩, trivial⟩, trivial⟩ (fun _ _ _ h => h) ?_
          refine VA.un (i := 24) (listed' := LB 28 33554431) rfl rfl rfl (ltn rfl) (by kernel_rfl) (by kernel_rfl) (by kernel_rfl) (by kernel_rfl) ⟨trivial, ⟨⟨0, rfl⟩, trivial⟩, trivial⟩ (fun _ _ _ h => h) ?_
          refine VA.un (i := 25) (listed' := LB 28 67108863) rfl rfl rfl (ltn rfl) (by kernel_rfl) (by kernel_rfl) (by kernel_rfl) (by kernel_rfl) ⟨trivial, ⟨⟨0, rfl⟩, trivial⟩, trivial⟩ (fun _ _ _ h => h) ?_
          refine VA.va (i := 26) (listed' := LB 28 134217727) rfl (op_pick rfl rfl (ltn rfl)) rfl (by kernel_rfl) (by kernel_rfl) (by kernel_rfl) (by kernel_rfl) ⟨trivial, ⟨⟨0, rfl⟩, trivial⟩, trivial⟩ (fun _ _ _ h => h) ?_
          refine VA.va (i := 27) (listed' := LB 28 268435455) rfl (op_assign rfl (ltn rfl)) rfl (by kernel_rfl) (by kernel_rfl) (by kernel_rfl) (by kernel_rfl) ⟨trivial, ⟨⟨0, rfl⟩, trivial⟩, trivial⟩ (fun _ _ _ h => h) ?_
          refine VA.done (by kernel_rfl) ?_
          exact VN.meet0  [0, 1] [] trivial ⟨rfl, ⟨rfl, rfl, rfl, rfl, rfl, trivial⟩, trivial, rfl, by decide, rfl, by decide⟩
        intro _
        refine VC.seq ?_
        refine VC.region ?_
        refine VL.va (op_fieldAddr FI27_1 rfl (add_at _ _ _) (ltn rfl)) rfl ?_
        refine VL.va (op_load 0 1 rfl rfl TI3 rfl (by decide) (ltn rfl)) rfl ?_
        refine VL.va (op_fieldAddr FI27_2 rfl (add_at _ _ _) (ltn rfl)) rfl ?_
        refine VL.va (op_load 0 1 rfl rfl TI3 rfl (by decide) (ltn rfl)) rfl ?_
        refine VL.va (op_fieldAddr FI27_3 rfl (add_at _ _ _) (ltn rfl)) rfl ?_
        refine VL.va (op_load 0 1 rfl rfl TI3 rfl (by decide) (ltn rfl)) rfl ?_
        replace h := Option.bind_eq_some_iff.1 h
        obtain ⟨r1863, hA1864, h⟩ := h
        refine VL.sC (o_call0 FO39 (journal_headOf.ok k i1578 (wrap64 (bt a1 5)) i1797 r1863 hA1864) rfl rfl (ltn rfl) (All_of .nil)) rfl ?_
        rintro _ _ _ ⟨rfl, rfl, rfl⟩
        refine VL.sG (o_alloc Z74 ZL74 (ltn rfl)) rfl ?_
        intro g1865
        by_cases c1866 : r1863.length = 32
        · rw [if_pos c1866] at h
          by_cases c1867 : (List.replicate 32 (0 : Int)).length = 32
          · rw [if_pos c1867] at h
            refine VL.step1 (o_storeA 0 rfl rfl rfl TI74 c1866 c1867) rfl ?_
            refine VL.done ?_
            refine VN.then ?_
            refine VC.join0 (⟨109, [(6, .pointer (some ⟨g789, 0, none⟩)), (7, .bool false)], [], [(g789, 27, [.slice none 0 0, .slice none 0 0, .int .i64 i1578, .int .i64 (wrap64 (bt a1 5)), .int .i64 i1797, .slice none 0 0, .slice none 0 0])], []⟩) (True) ?_ ?_
            · refine VC.draw ⟨0, [], [], [(g791, 27, [.slice none 0 0, .slice none 0 0, .int .i64 i1578, .int .i64 (wrap64 (bt a1 5)), .int .i64 i1797, .slice none 0 0, .slice none 0 0])], []⟩ (by kernel_rfl) rfl (by kernel_rfl) (n := 22) (listed := LB 22 0) ?_
              refine VA.va (i := 0) (listed' := LB 22 1) rfl (op_load 0 7 rfl rfl TI27 rfl (fun h => absurd h (by decide)) (ltn rfl)) rfl (by kernel_rfl) (by kernel_rfl) (by kernel_rfl) (by kernel_rfl) ⟨trivial, ⟨⟨1, rfl⟩, trivial⟩, trivial⟩ (fun _ _ _ h => h) ?_
              refine VA.va (i := 1) (listed' := LB 22 3) rfl (op_move rfl (ltn rfl)) rfl (by kernel_rfl) (by kernel_rfl) (by kernel_rfl) (by kernel_rfl) ⟨trivial, ⟨⟨1, rfl⟩, trivial⟩, trivial⟩ (fun _ _ _ h => h) ?_
              refine VA.va (i := 2) (listed' := LB 22 7) rfl (op_move rfl (ltn rfl)) rfl (by kernel_rfl) (by kernel_rfl) (by kernel_rfl) (by kernel_rfl) ⟨trivial, ⟨⟨1, rfl⟩, trivial⟩, trivial⟩ (fun _ _ _ h => h) ?_
              refine VA.un (i := 3) (listed' := LB 22 15) rfl rfl rfl (ltn rfl) (by kernel_rfl) (by kernel_rfl) (by kernel_rfl) (by kernel_rfl) ⟨trivial, ⟨⟨1, rfl⟩, trivial⟩, trivial⟩ (fun _ _ _ h => h) ?_
              refine VA.un (i := 4) (listed' := LB 22 31) rfl rfl rfl (ltn rfl) (by kernel_rfl) (by kernel_rfl) (by kernel_rfl) (by kernel_rfl) ⟨trivial, ⟨⟨1, rfl⟩, trivial⟩, trivial⟩ (fun _ _ _ h => h) ?_
              refine VA.un (i := 5) (listed' := LB 22 63) rfl rfl rfl (ltn rfl) (by kernel_rfl) (by kernel_rfl) (by kernel_rfl) (by kernel_rfl) ⟨trivial, ⟨⟨1, rfl⟩, trivial⟩, trivial⟩ (fun _ _ _ h => h) ?_
              refine VA.un (i := 6) (listed' := LB 22 127) rfl rfl rfl (ltn rfl) (by kernel_rfl) (by kernel_rfl) (by kernel_rfl) (by kernel_rfl) ⟨trivial, ⟨⟨1, rfl⟩, trivial⟩, trivial⟩ (fun _ _ _ h => h) ?_
              refine VA.un (i := 7) (listed' := LB 22 255) rfl rfl rfl (ltn rfl) (by kernel_rfl) (by kernel_rfl) (by kernel_rfl) (by kernel_rfl) ⟨trivial, ⟨⟨1, rfl⟩, trivial⟩, trivial⟩ (fun _ _ _ h => h) ?_
              refine VA.un (i := 8) (listed' := LB 22 511) rfl rfl rfl (ltn rfl) (by kernel_rfl) (by kernel_rfl) (by kernel_rfl) (by kernel_rfl) ⟨trivial, ⟨⟨1, rfl⟩, trivial⟩, trivial⟩ (fun _ _ _ h => h) ?_
              refine VA.un (i := 9) (listed' := LB 22 1023) rfl rfl rfl (ltn rfl) (by kernel_rfl) (by kernel_rfl) (by kernel_rfl) (by kernel_rfl) ⟨trivial, ⟨⟨1, rfl⟩, trivial⟩, trivial⟩ (fun _ _ _ h => h) ?_
              refine VA.va (i := 10) (listed' := LB 22 2047) rfl (op_pick rfl rfl (ltn rfl)) rfl (by kernel_rfl) (by kernel_rfl) (by kernel_rfl) (by kernel_rfl) ⟨trivial, ⟨⟨1, rfl⟩, trivial⟩, trivial⟩ (fun _ _ _ h => h) ?_
              refine VA.va (i := 11) (listed' := LB 22 4095) rfl (op_move rfl (ltn rfl)) rfl (by kernel_rfl) (by kernel_rfl) (by kernel_rfl) (by kernel_rfl) ⟨trivial, ⟨⟨1, rfl⟩, trivial⟩, trivial⟩ (fun _ _ _ h => h) ?_
              refine VA.un (i := 12) (listed' := LB 22 8191) rfl rfl rfl (ltn rfl) (by kernel_rfl) (by kernel_rfl) (by kernel_rfl) (by kernel_rfl) ⟨trivial, ⟨⟨1, rfl⟩, trivial⟩, trivial⟩ (fun _ _ _ h => h) ?_
              refine VA.un (i := 13) (listed' := LB 22 16383) rfl rfl rfl (ltn rfl) (by kernel_rfl) (by kernel_rfl) (by kernel_rfl) (by kernel_rfl) ⟨trivial, ⟨⟨1, rfl⟩, trivial⟩, trivial⟩ (fun _ _ _ h => h) ?_
              refine VA.un (i := 14) (listed' := LB 22 32767) rfl rfl rfl (ltn rfl) (by kernel_rfl) (by kernel_rfl) (by kernel_rfl) (by kernel_rfl) ⟨trivial, ⟨⟨1, rfl⟩, trivial⟩, trivial⟩ (fun _ _ _ h => h) ?_
              refine VA.un (i := 15) (listed' := LB 22 65535) rfl rfl rfl (ltn rfl) (by kernel_rfl) (by kernel_rfl) (by kernel_rfl) (by kernel_rfl) ⟨trivial, ⟨⟨1, rfl⟩, trivial⟩, trivial⟩ (fun _ _ _ h => h) ?_
              refine VA.un (i := 16) (listed' := LB 22 131071) rfl rfl rfl (ltn rfl) (by kernel_rfl) (by kernel_rfl) (by kernel_rfl) (by kernel_rfl) ⟨trivial, ⟨⟨1, rfl⟩, trivial⟩, trivial⟩ (fun _ _ _ h => h) ?_
              refine VA.un (i := 17) (listed' := LB 22 262143) rfl rfl rfl (ltn rfl) (by kernel_rfl) (by kernel_rfl) (by kernel_rfl) (by kernel_rfl) ⟨trivial, ⟨⟨1, rfl⟩, trivial⟩, trivial⟩ (fun _ _ _ h => h) ?_
              refine VA.un (i := 18) (listed' := LB 22 524287) rfl rfl rfl (ltn rfl) (by kernel_rfl) (by kernel_rfl) (by kernel_rfl) (by kernel_rfl) ⟨trivial, ⟨⟨1, rfl⟩, trivial⟩, trivial⟩ (fun _ _ _ h => h) ?_
              refine VA.va (i := 19) (listed' := LB 22 1048575) rfl (op_pick rfl rfl (ltn rfl)) rfl (by kernel_rfl) (by kernel_rfl) (by kernel_rfl) (by kernel_rfl) ⟨trivial, ⟨⟨1, rfl⟩, trivial⟩, trivial⟩ (fun _ _ _ h => h) ?_
              refine VA.one1 (i := 20) (listed' := LB 22 2097151) (by kernel_rfl) rfl (o_store 2 7 rfl rfl rfl TI27 (.agg (.of rfl)) rfl (len rfl)) rfl (by kernel_rfl) ⟨trivial, ⟨⟨1, rfl⟩, trivial⟩, trivial⟩ ?_
              refine VA.va (i := 21) (listed' := LB 22 4194303) rfl (op_assign rfl (ltn rfl)) rfl (by kernel_rfl) (by kernel_rfl) (by kernel_rfl) (by kernel_rfl) ⟨trivial, ⟨⟨1, rfl⟩, trivial⟩, trivial⟩ (fun _ _ _ h => h) ?_
              refine VA.done (by kernel_rfl) ?_
              exact VN.meet0  [2] [] trivial ⟨rfl, ⟨rfl, rfl, trivial⟩, trivial, rfl, by decide, rfl, by decide⟩
            intro _
            refine VC.ret ?_
            simp only [Option.some.injEq, Prod.mk.injEq] at h
            obtain ⟨rfl, rfl, rfl, rfl, rfl, rfl, rfl, rfl⟩ := h
            refine VR.nilRow' 9 1 ?_
            refine VR.nilRow' 56 2 ?_
            refine VR.nilRow' 9 1 ?_
            refine VR.nilRow' 9 1 ?_
            exact VR.fn (rs := [.cell 6 27, .tmp 7]) [] [((.slice none 0 0), 9, 1, ([] : List ByteArray).map enc_str), ((.slice none 0 0), 56, 2, ([] : List S55).map enc55), ((.slice none 0 0), 9, 1, ([] : List ByteArray).map enc_str), ((.slice none 0 0), 9, 1, ([] : List ByteArray).map enc_str)] [3, 2, 1, 0] rfl (.cell 0 rfl rfl TI27 (fun h => absurd h (by decide)) (.tmp rfl .nil)) ⟨(.slice none 0 0), (.slice none 0 0), (.slice none 0 0), (.slice none 0 0), rfl, rfl, rfl⟩ trivial rfl (by decide)
          · rw [if_neg c1867] at h; cases h
        · rw [if_neg c1866] at h; cases h
    · rw [if_neg c1799] at h
      obtain rfl : b1798 = false := hb1798.symm.trans (decide_eq_false c1799)
      refine VC.join0 (⟨109, [(1, .string a1), (6, .pointer (some ⟨g789, 0, none⟩)), (7, .bool false), (9, .pointer (some ⟨g791, 0, none⟩)), (12, .bool false)], [], [(g791, 27, [.slice none 0 0, .slice none 0 0, .int .i64 i1578, .int .i64 (wrap64 (bt a1 5)), .int .i64 i1797, .slice none 0 0, .slice none 0 0]), (g789, 27, [.slice none 0 0, .slice none 0 0, .int .i64 0, .int .i64 0, .int .i64 0, .slice none 0 0, .slice none 0 0])], []⟩) (True) ?_ ?_
      · refine VC.draw ⟨0, [], [], [(g791, 27, [.slice none 0 0, .slice none 0 0, .int .i64 i1578, .int .i64 (wrap64 (bt a1 5)), .int .i64 i1797, .slice none 0 0, .slice none 0 0])], []⟩ (by kernel_rfl) rfl (by kernel_rfl) (n := 28) (listed := LB 28 0) ?_
        refine VA.va (i := 0) (listed' := LB 28 1) rfl (op_fieldAddr FI27_1 rfl (add_at _ _ _) (ltn rfl)) rfl (by kernel_rfl) (by kernel_rfl) (by kernel_rfl) (by kernel_rfl) ⟨trivial, ⟨⟨0, rfl⟩, trivial⟩, trivial⟩ (fun _ _ _ h => h) ?_
        refine VA.va (i := 1) (listed' := LB 28 3) rfl (op_load 0 1 rfl rfl TI3 rfl (by decide) (ltn rfl)) rfl (by kernel_rfl) (by kernel_rfl) (by kernel_rfl) (by kernel_rfl) ⟨trivial, ⟨⟨0, rfl⟩, trivial⟩, trivial⟩ (fun _ _ _ h => h) ?_
        refine VA.va (i := 2) (listed' := LB 28 7) rfl (op_cmp rfl rfl (congrArg some hb1798) (ltn rfl)) rfl (by kernel_rfl) (by kernel_rfl) (by kernel_rfl) (by kernel_rfl) ⟨trivial, ⟨⟨0, rfl⟩, trivial⟩, trivial⟩ (fun _ _ _ h => h) ?_
        refine VA.va (i := 3) (listed' := LB 28 15) rfl (op_move rfl (ltn rfl)) rfl (by kernel_rfl) (by kernel_rfl) (by kernel_rfl) (by kernel_rfl) ⟨trivial, ⟨⟨0, rfl⟩, trivial⟩, trivial⟩ (fun _ _ _ h => h) ?_
        refine VA.un (i := 4) (listed' := LB 28 31) rfl rfl rfl (ltn rfl) (by kernel_rfl) (by kernel_rfl) (by kernel_rfl) (by kernel_rfl) ⟨trivial, ⟨⟨0, rfl⟩, trivial⟩, trivial⟩ (fun _ _ _ h => h) ?_
        refine VA.un (i := 5) (listed' := LB 28 63) rfl rfl rfl (ltn rfl) (by kernel_rfl) (by kernel_rfl) (by kernel_rfl) (by kernel_rfl) ⟨trivial, ⟨⟨0, rfl⟩, trivial⟩, trivial⟩ (fun _ _ _ h => h) ?_
        refine VA.un (i := 6) (listed' := LB 28 127) rfl rfl rfl (ltn rfl) (by kernel_rfl) (by kernel_rfl) (by kernel_rfl) (by kernel_rfl) ⟨trivial, ⟨⟨0, rfl⟩, trivial⟩, trivial⟩ (fun _ _ _ h => h) ?_
        refine VA.va (i := 7) (listed' := LB 28 255) rfl (op_pick rfl rfl (ltn rfl)) rfl (by kernel_rfl) (by kernel_rfl) (by kernel_rfl) (by kernel_rfl) ⟨trivial, ⟨⟨0, rfl⟩, trivial⟩, trivial⟩ (fun _ _ _ h => h) ?_
        refine VA.va (i := 8) (listed' := LB 28 511) rfl (op_move rfl (ltn rfl)) rfl (by kernel_rfl) (by kernel_rfl) (by kernel_rfl) (by kernel_rfl) ⟨trivial, ⟨⟨0, rfl⟩, trivial⟩, trivial⟩ (fun _ _ _ h => h) ?_
        refine VA.un (i := 9) (listed' := LB 28 1023) rfl rfl rfl (ltn rfl) (by kernel_rfl) (by kernel_rfl) (by kernel_rfl) (by kernel_rfl) ⟨trivial, ⟨⟨0, rfl⟩, trivial⟩, trivial⟩ (fun _ _ _ h => h) ?_
        refine VA.un (i := 10) (listed' := LB 28 2047) rfl rfl rfl (ltn rfl) (by kernel_rfl) (by kernel_rfl) (by kernel_rfl) (by kernel_rfl) ⟨trivial, ⟨⟨0, rfl⟩, trivial⟩, trivial⟩ (fun _ _ _ h => h) ?_
        refine VA.un (i := 11) (listed' := LB 28 4095) rfl rfl rfl (ltn rfl) (by kernel_rfl) (by kernel_rfl) (by kernel_rfl) (by kernel_rfl) ⟨trivial, ⟨⟨0, rfl⟩, trivial⟩, trivial⟩ (fun _ _ _ h => h) ?_
        refine VA.un (i := 12) (listed' := LB 28 8191) rfl rfl rfl (ltn rfl) (by kernel_rfl) (by kernel_rfl) (by kernel_rfl) (by kernel_rfl) ⟨trivial, ⟨⟨0, rfl⟩, trivial⟩, trivial⟩ (fun _ _ _ h => h) ?_
        refine VA.un (i := 13) (listed' := LB 28 16383) rfl rfl rfl (ltn rfl) (by kernel_rfl) (by kernel_rfl) (by kernel_rfl) (by kernel_rfl) ⟨trivial, ⟨⟨0, rfl⟩, trivial⟩, trivial⟩ (fun _ _ _ h => h) ?_
        refine VA.va (i := 14) (listed' := LB 28 32767) rfl (op_pick rfl rfl (ltn rfl)) rfl (by kernel_rfl) (by kernel_rfl) (by kernel_rfl) (by kernel_rfl) ⟨trivial, ⟨⟨0, rfl⟩, trivial⟩, trivial⟩ (fun _ _ _ h => h) ?_
        refine VA.va (i := 15) (listed' := LB 28 65535) rfl (op_move rfl (ltn rfl)) rfl (by kernel_rfl) (by kernel_rfl) (by kernel_rfl) (by kernel_rfl) ⟨trivial, ⟨⟨0, rfl⟩, trivial⟩, trivial⟩ (fun _ _ _ h => h) ?_
        refine VA.un (i := 16) (listed' := LB 28 131071) rfl rfl rfl (ltn rfl) (by kernel_rfl) (by kernel_rfl) (by kernel_rfl) (by kernel_rfl) ⟨trivial, ⟨⟨0, rfl⟩, trivial⟩, trivial⟩ (fun _ _ _ h => h) ?_
        refine VA.un (i := 17) (listed' := LB 28 262143) rfl rfl rfl (ltn rfl) (by kernel_rfl) (by kernel_rfl) (by kernel_rfl) (by kernel_rfl) ⟨trivial, ⟨⟨0, rfl⟩, trivial⟩, trivial⟩ (fun _ _ _ h => h) ?_
        refine VA.un (i := 18) (listed' := LB 28 524287) rfl rfl rfl (ltn rfl) (by kernel_rfl) (by kernel_rfl) (by kernel_rfl) (by kernel_rfl) ⟨trivial, ⟨⟨0, rfl⟩, trivial⟩, trivial⟩ (fun _ _ _ h => h) ?_
        refine VA.va (i := 19) (listed' := LB 28 1048575) rfl (op_pick rfl rfl (ltn rfl)) rfl (by kernel_rfl) (by kernel_rfl) (by kernel_rfl) (by kernel_rfl) ⟨trivial, ⟨⟨0, rfl⟩, trivial⟩, trivial⟩ (fun _ _ _ h => h) ?_
        refine VA.va (i := 20) (listed' := LB 28 2097151) rfl (op_move rfl (ltn rfl)) rfl (by kernel_rfl) (by kernel_rfl) (by kernel_rfl) (by kernel_rfl) ⟨trivial, ⟨⟨0, rfl⟩, trivial⟩, trivial⟩ (fun _ _ _ h => h) ?_
        refine VA.un (i := 21) (listed' := LB 28 4194303) rfl rfl rfl (ltn rfl) (by kernel_rfl) (by kernel_rfl) (by kernel_rfl) (by kernel_rfl) ⟨trivial, ⟨⟨0, rfl⟩, trivial⟩, trivial⟩ (fun _ _ _ h => h) ?_
        refine VA.un (i := 22) (listed' := LB 28 8388607) rfl rfl rfl (ltn rfl) (by kernel_rfl) (by kernel_rfl) (by kernel_rfl) (by kernel_rfl) ⟨trivial, ⟨⟨0, rfl⟩, trivial⟩, trivial⟩ (fun _ _ _ h => h) ?_
        refine VA.un (i := 23) (listed' := LB 28 16777215) rfl rfl rfl (ltn rfl) (by kernel_rfl) (by kernel_rfl) (by kernel_rfl) (by kernel_rfl) ⟨trivial, ⟨⟨0, rfl⟩, trivial⟩, trivial⟩ (fun _ _ _ h => h) ?_
        refine VA.un (i := 24) (listed' := LB 28 33554431) rfl rfl rfl (ltn rfl) (by kernel_rfl) (by kernel_rfl) (by kernel_rfl) (by kernel_rfl) ⟨trivial, ⟨⟨0, rfl⟩, trivial⟩, trivial⟩ (fun _ _ _ h => h) ?_
        refine VA.un (i := 25) (listed' := LB 28 67108863) rfl rfl rfl (ltn rfl) (by kernel_rfl) (by kernel_rfl) (by kernel_rfl) (by kernel_rfl) ⟨trivial, ⟨⟨0, rfl⟩, trivial⟩, trivial⟩ (fun _ _ _ h => h) ?_
        refine VA.va (i := 26) (listed' := LB 28 134217727) rfl (op_pick rfl rfl (ltn rfl)) rfl (by kernel_rfl) (by kernel_rfl) (by kernel_rfl) (by kernel_rfl) ⟨trivial, ⟨⟨0, rfl⟩, trivial⟩, trivial⟩ (fun _ _ _ h => h) ?_
        refine VA.va (i := 27) (listed' := LB 28 268435455) rfl (op_assign rfl (ltn rfl)) rfl (by kernel_rfl) (by kernel_rfl) (by kernel_rfl) (by kernel_rfl) ⟨trivial, ⟨⟨0, rfl⟩, trivial⟩, trivial⟩ (fun _ _ _ h => h) ?_
        refine VA.done (by kernel_rfl) ?_
        exact VN.meet0  [0, 1] [] trivial ⟨rfl, ⟨rfl, rfl, rfl, rfl, rfl, trivial⟩, trivial, rfl, by decide, rfl, by decide⟩
      intro _
      refine VC.seq ?_
      refine VC.region ?_
      refine VL.va (op_fieldAddr FI27_1 rfl (add_at _ _ _) (ltn rfl)) rfl ?_
      refine VL.va (op_load 0 1 rfl rfl TI3 rfl (by decide) (ltn rfl)) rfl ?_
      refine VL.va (op_fieldAddr FI27_2 rfl (add_at _ _ _) (ltn rfl)) rfl ?_
      refine VL.va (op_load 0 1 rfl rfl TI3 rfl (by decide) (ltn rfl)) rfl ?_
      refine VL.va (op_fieldAddr FI27_3 rfl (add_at _ _ _) (ltn rfl)) rfl ?_
      refine VL.va (op_load 0 1 rfl rfl TI3 rfl (by decide) (ltn rfl)) rfl ?_
      replace h := Option.bind_eq_some_iff.1 h
      obtain ⟨r1872, hA1873, h⟩ := h
      refine VL.sC (o_call0 FO39 (journal_headOf.ok k i1578 (wrap64 (bt a1 5)) i1797 r1872 hA1873) rfl rfl (ltn rfl) (All_of .nil)) rfl ?_
      rintro _ _ _ ⟨rfl, rfl, rfl⟩
      refine VL.sG (o_alloc Z74 ZL74 (ltn rfl)) rfl ?_
      intro g1874
      by_cases c1875 : r1872.length = 32
      · rw [if_pos c1875] at h
        by_cases c1876 : (List.replicate 32 (0 : Int)).length = 32
        · rw [if_pos c1876] at h
          refine VL.step1 (o_storeA 0 rfl rfl rfl TI74 c1875 c1876) rfl ?_
          refine VL.done ?_
          refine VN.then ?_
          refine VC.join0 (⟨109, [(6, .pointer (some ⟨g789, 0, none⟩)), (7, .bool false)], [], [(g789, 27, [.slice none 0 0, .slice none 0 0, .int .i64 i1578, .int .i64 (wrap64 (bt a1 5)), .int .i64 i1797, .slice none 0 0, .slice none 0 0])], []⟩) (True) ?_ ?_
          · refine VC.draw ⟨0, [], [], [(g791, 27, [.slice none 0 0, .slice none 0 0, .int .i64 i1578, .int .i64 (wrap64 (bt a1 5)), .int .i64 i1797, .slice none 0 0, .slice none 0 0])], []⟩ (by kernel_rfl) rfl (by kernel_rfl) (n := 22) (listed := LB 22 0) ?_
            refine VA.va (i := 0) (listed' := LB 22 1) rfl (op_load 0 7 rfl rfl TI27 rfl (fun h => absurd h (by decide)) (ltn rfl)) rfl (by kernel_rfl) (by kernel_rfl) (by kernel_rfl) (by kernel_rfl) ⟨trivial, ⟨⟨1, rfl⟩, trivial⟩, trivial⟩ (fun _ _ _ h => h) ?_
            refine VA.va (i := 1) (listed' := LB 22 3) rfl (op_move rfl (ltn rfl)) rfl (by kernel_rfl) (by kernel_rfl) (by kernel_rfl) (by kernel_rfl) ⟨trivial, ⟨⟨1, rfl⟩, trivial⟩, trivial⟩ (fun _ _ _ h => h) ?_
            refine VA.va (i := 2) (listed' := LB 22 7) rfl (op_move rfl (ltn rfl)) rfl (by kernel_rfl) (by kernel_rfl) (by kernel_rfl) (by kernel_rfl) ⟨trivial, ⟨⟨1, rfl⟩, trivial⟩, trivial⟩ (fun _ _ _ h => h) ?_
            refine VA.un (i := 3) (listed' := LB 22 15) rfl rfl rfl (ltn rfl) (by kernel_rfl) (by kernel_rfl) (by kernel_rfl) (by kernel_rfl) ⟨trivial, ⟨⟨1, rfl⟩, trivial⟩, trivial⟩ (fun _ _ _ h => h) ?_
            refine VA.un (i := 4) (listed' := LB 22 31) rfl rfl rfl (ltn rfl) (by kernel_rfl) (by kernel_rfl) (by kernel_rfl) (by kernel_rfl) ⟨trivial, ⟨⟨1, rfl⟩, trivial⟩, trivial⟩ (fun _ _ _ h => h) ?_
            refine VA.un (i := 5) (listed' := LB 22 63) rfl rfl rfl (ltn rfl) (by kernel_rfl) (by kernel_rfl) (by kernel_rfl) (by kernel_rfl) ⟨trivial, ⟨⟨1, rfl⟩, trivial⟩, trivial⟩ (fun _ _ _ h => h) ?_
            refine VA.un (i := 6) (listed' := LB 22 127) rfl rfl rfl (ltn rfl) (by kernel_rfl) (by kernel_rfl) (by kernel_rfl) (by kernel_rfl) ⟨trivial, ⟨⟨1, rfl⟩, trivial⟩, trivial⟩ (fun _ _ _ h => h) ?_
            refine VA.un (i := 7) (listed' := LB 22 255) rfl rfl rfl (ltn rfl) (by kernel_rfl) (by kernel_rfl) (by kernel_rfl) (by kernel_rfl) ⟨trivial, ⟨⟨1, rfl⟩, trivial⟩, trivial⟩ (fun _ _ _ h => h) ?_
            refine VA.un (i := 8) (listed' := LB 22 511) rfl rfl rfl (ltn rfl) (by kernel_rfl) (by kernel_rfl) (by kernel_rfl) (by kernel_rfl) ⟨trivial, ⟨⟨1, rfl⟩, trivial⟩, trivial⟩ (fun _ _ _ h => h) ?_
            refine VA.un (i := 9) (listed' := LB 22 1023) rfl rfl rfl (ltn rfl) (by kernel_rfl) (by kernel_rfl) (by kernel_rfl) (by kernel_rfl) ⟨trivial, ⟨⟨1, rfl⟩, trivial⟩, trivial⟩ (fun _ _ _ h => h) ?_
            refine VA.va (i := 10) (listed' := LB 22 2047) rfl (op_pick rfl rfl (ltn rfl)) rfl (by kernel_rfl) (by kernel_rfl) (by kernel_rfl) (by kernel_rfl) ⟨trivial, ⟨⟨1, rfl⟩, trivial⟩, trivial⟩ (fun _ _ _ h => h) ?_
            refine VA.va (i := 11) (listed' := LB 22 4095) rfl (op_move rfl (ltn rfl)) rfl (by kernel_rfl) (by kernel_rfl) (by kernel_rfl) (by kernel_rfl) ⟨trivial, ⟨⟨1, rfl⟩, trivial⟩, trivial⟩ (fun _ _ _ h => h) ?_
            refine VA.un (i := 12) (listed' := LB 22 8191) rfl rfl rfl (ltn rfl) (by kernel_rfl) (by kernel_rfl) (by kernel_rfl) (by kernel_rfl) ⟨trivial, ⟨⟨1, rfl⟩, trivial⟩, trivial⟩ (fun _ _ _ h => h) ?_
            refine VA.un (i := 13) (listed' := LB 22 16383) rfl rfl rfl (ltn rfl) (by kernel_rfl) (by kernel_rfl) (by kernel_rfl) (by kernel_rfl) ⟨trivial, ⟨⟨1, rfl⟩, trivial⟩, trivial⟩ (fun _ _ _ h => h) ?_
            refine VA.un (i := 14) (listed' := LB 22 32767) rfl rfl rfl (ltn rfl) (by kernel_rfl) (by kernel_rfl) (by kernel_rfl) (by kernel_rfl) ⟨trivial, ⟨⟨1, rfl⟩, trivial⟩, trivial⟩ (fun _ _ _ h => h) ?_
            refine VA.un (i := 15) (listed' := LB 22 65535) rfl rfl rfl (ltn rfl) (by kernel_rfl) (by kernel_rfl) (by kernel_rfl) (by kernel_rfl) ⟨trivial, ⟨⟨1, rfl⟩, trivial⟩, trivial⟩ (fun _ _ _ h => h) ?_
            refine VA.un (i := 16) (listed' := LB 22 131071) rfl rfl rfl (ltn rfl) (by kernel_rfl) (by kernel_rfl) (by kernel_rfl) (by kernel_rfl) ⟨trivial, ⟨⟨1, rfl⟩, trivial⟩, trivial⟩ (fun _ _ _ h => h) ?_
            refine VA.un (i := 17) (listed' := LB 22 262143) rfl rfl rfl (ltn rfl) (by kernel_rfl) (by kernel_rfl) (by kernel_rfl) (by kernel_rfl) ⟨trivial, ⟨⟨1, rfl⟩, trivial⟩, trivial⟩ (fun _ _ _ h => h) ?_
            refine VA.un (i := 18) (listed' := LB 22 524287) rfl rfl rfl (ltn rfl) (by kernel_rfl) (by kernel_rfl) (by kernel_rfl) (by kernel_rfl) ⟨trivial, ⟨⟨1, rfl⟩, trivial⟩, trivial⟩ (fun _ _ _ h => h) ?_
            refine VA.va (i := 19) (listed' := LB 22 1048575) rfl (op_pick rfl rfl (ltn rfl)) rfl (by kernel_rfl) (by kernel_rfl) (by kernel_rfl) (by kernel_rfl) ⟨trivial, ⟨⟨1, rfl⟩, trivial⟩, trivial⟩ (fun _ _ _ h => h) ?_
            refine VA.one1 (i := 20) (listed' := LB 22 2097151) (by kernel_rfl) rfl (o_store 2 7 rfl rfl rfl TI27 (.agg (.of rfl)) rfl (len rfl)) rfl (by kernel_rfl) ⟨trivial, ⟨⟨1, rfl⟩, trivial⟩, trivial⟩ ?_
            refine VA.va (i := 21) (listed' := LB 22 4194303) rfl (op_assign rfl (ltn rfl)) rfl (by kernel_rfl) (by kernel_rfl) (by kernel_rfl) (by kernel_rfl) ⟨trivial, ⟨⟨1, rfl⟩, trivial⟩, trivial⟩ (fun _ _ _ h => h) ?_
            refine VA.done (by kernel_rfl) ?_
            exact VN.meet0  [2] [] trivial ⟨rfl, ⟨rfl, rfl, trivial⟩, trivial, rfl, by decide, rfl, by decide⟩
          intro _
          refine VC.ret ?_
          simp only [Option.some.injEq, Prod.mk.injEq] at h
          obtain ⟨rfl, rfl, rfl, rfl, rfl, rfl, rfl, rfl⟩ := h
          refine VR.nilRow' 9 1 ?_
          refine VR.nilRow' 56 2 ?_
          refine VR.nilRow' 9 1 ?_
          refine VR.nilRow' 9 1 ?_
          exact VR.fn (rs := [.cell 6 27, .tmp 7]) [] [((.slice none 0 0), 9, 1, ([] : List ByteArray).map enc_str), ((.slice none 0 0), 56, 2, ([] : List S55).map enc55), ((.slice none 0 0), 9, 1, ([] : List ByteArray).map enc_str), ((.slice none 0 0), 9, 1, ([] : List ByteArray).map enc_str)] [3, 2, 1, 0] rfl (.cell 0 rfl rfl TI27 (fun h => absurd h (by decide)) (.tmp rfl .nil)) ⟨(.slice none 0 0), (.slice none 0 0), (.slice none 0 0), (.slice none 0 0), rfl, rfl, rfl⟩ trivial rfl (by decide)
        · rw [if_neg c1876] at h; cases h
      · rw [if_neg c1875] at h; cases h
  · rw [if_neg c790] at h; cases h

end Go.Proofs.Ytipeglbeongfmaa.PJournalUnused
