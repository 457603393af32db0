/- Written by a program of this repo: what the program's functions do, each as a Lean function, shown of the loaded code; or a statement's row over that; no condition of its own. -/
import Derived.Test.YtipeglbeongfmaaPJournalKeepsx2
namespace Go.Proofs.Ytipeglbeongfmaa.PJournalKeeps
open Go Go.RowKit Go.Proofs.YtipeglbeongfmaaV
set_option linter.unusedVariables false
set_option linter.unusedSimpArgs false
set_option maxHeartbeats 4000000
set_option maxRecDepth 100000

theorem journal_read.ok (k : Nat) (a0 : Int) (a1 : ByteArray) (a2 : Int)  (r1 : List ByteArray) (r2 : List S55) (r3 : Int) (r4 : Int) (r5 : Int) (r6 : List ByteArray) (r7 : List ByteArray) (r8 : Bool) (h : journal_read.f k a0 a1 a2 = some (r1, r2, r3, r4, r5, r6, r7, r8)) :
    VCalls Try.prog 24 [.int .i64 a0, .string a1, .int .i64 a2] [] (fun v G own => ∃ w0 w1 w5 w6 : Value, v = .tuple #[.agg #[w0, w1, .int .i64 r3, .int .i64 r4, .int .i64 r5, w5, w6], .bool r8] ∧ G = [] ∧ own = [(w0, 9, 1, r1.map enc_str), (w1, 56, 2, r2.map enc55), (w5, 9, 1, r6.map enc_str), (w6, 9, 1, r7.map enc_str)]) := by
  refine VCalls.intro Try.func24 rfl (len rfl) fun E hC hW hD hU => ?_
  unfold journal_read.f at h
  refine sr <| sG (o_alloc Z27 ZL27) fun g797 => vs rfl <| nx <| vs rfl <| nx <| vm rfl <| vm rfl <| ?_
  replace h := iN h
  obtain ⟨c798, h⟩ := h
  refine va (op_indexS Try.underlying9 rfl rfl (by decide) c798 rfl) <| va (op_conv Try.underlying5 Try.underlying3 rfl (i64w _)) <|
   va (op_build (vals := [(2, .int .i64 (wrap64 (bt a1 5)))]) (vcs := [(2, [.int .i64 (wrap64 (bt a1 5))])]) (cells := [.slice none 0 0, .slice none 0 0, .int .i64 0, .int .i64 (wrap64 (bt a1 5)), .int .i64 0, .slice none 0 0, .slice none 0 0]) SI27 rfl (.cons ⟨rfl, (.c rfl)⟩ .nil) (by kernel_rfl)) <|
   sG (o_alloc Z27 ZL27) fun g799 => s1 (o_store 0 7 rfl rfl rfl TI27 (.agg (.of rfl)) rfl (len rfl)) <| dt <|
   VC.join1 (fun (i1586 : Int) => ⟨109, [(0, .int .i64 a0), (1, .string a1), (2, .int .i64 a2), (6, .pointer (some ⟨g797, 0, none⟩)), (7, .bool false), (8, .int .i64 5), (9, .pointer (some ⟨g799, 0, none⟩))], [], [(g799, 27, [.slice none 0 0, .slice none 0 0, .int .i64 i1586, .int .i64 (wrap64 (bt a1 5)), .int .i64 0, .slice none 0 0, .slice none 0 0]), (g797, 27, [.slice none 0 0, .slice none 0 0, .int .i64 0, .int .i64 0, .int .i64 0, .slice none 0 0, .slice none 0 0])], []⟩) (fun (i1586 : Int) => journal_read.j10 k a0 a1 a2 i1586 = some (r1, r2, r3, r4, r5, r6, r7, r8)) ?_ ?_
  · refine sr <| vm rfl <| dt <| VC.block <| VC.loop2 (fun (i1572 : Int) (i1573 : Int) => ⟨109, [(0, .int .i64 a0), (1, .string a1), (2, .int .i64 a2), (6, .pointer (some ⟨g797, 0, none⟩)), (7, .bool false), (8, .int .i64 5), (9, .pointer (some ⟨g799, 0, none⟩)), (19, .int .i64 i1572)], [], [(g799, 27, [.slice none 0 0, .slice none 0 0, .int .i64 i1573, .int .i64 (wrap64 (bt a1 5)), .int .i64 0, .slice none 0 0, .slice none 0 0]), (g797, 27, [.slice none 0 0, .slice none 0 0, .int .i64 0, .int .i64 0, .int .i64 0, .slice none 0 0, .slice none 0 0])], []⟩) (fun (ml11 : Nat) (i1572 : Int) (i1573 : Int) => journal_read.l11 k a0 a1 a2 ml11 i1572 i1573 = some (r1, r2, r3, r4, r5, r6, r7, r8)) k 0 0 [0, 1] [] h ⟨rfl, ⟨rfl, rfl, rfl, rfl, rfl, rfl, rfl, rfl, trivial⟩, trivial, rfl, by decide, rfl, by decide⟩ (by intros; simp [journal_read.l11]) <|
     ?_
    clear h
    intro ml11 ihl11 i1572 i1573 h
    simp only [journal_read.l11] at h
    refine sr <| VL.letter (decide (i1572 < 8)) fun b1580 hb1580 => va (op_cmp rfl rfl (congrArg some hb1580)) <| ds <| ?_
    replace h := iC h
    rcases h with ⟨c1582, h⟩ | ⟨c1582, h⟩
    · cases lT c1582 hb1580
      refine ct <| sk <| sq <| VC.block <| sr <| vm rfl <| vs rfl <| dt <| ?_
      replace h := iN h
      obtain ⟨c1583, h⟩ := h
      replace h := iN h
      obtain ⟨c1584, h⟩ := h
      replace h := iN h
      obtain ⟨c1585, h⟩ := h
      refine VC.stop0 (⟨109, [(0, .int .i64 a0), (1, .string a1), (2, .int .i64 a2), (6, .pointer (some ⟨g797, 0, none⟩)), (7, .bool false), (8, .int .i64 5), (9, .pointer (some ⟨g799, 0, none⟩)), (10, .int .i64 i1572), (19, .int .i64 i1572), (20, .bool true), (21, .int .i64 i1572), (22, .pointer (some ⟨g799, 2, none⟩)), (23, .int .i64 i1573), (24, .string a1), (25, .int .i64 5), (26, .int .i64 (wrap64 (5 + 1))), (27, .int .i64 i1572), (28, .int .i64 (wrap64 ((wrap64 (5 + 1)) + i1572))), (29, .int .u8 (bt a1 (wrap64 ((wrap64 (5 + 1)) + i1572)))), (30, .int .i64 (wrap64 (bt a1 (wrap64 ((wrap64 (5 + 1)) + i1572))))), (31, .int .i64 i1572), (32, .int .i64 (wrap64 (8 * i1572))), (33, .int .i64 (IntKind.i64.wrap ((wrap64 (bt a1 (wrap64 ((wrap64 (5 + 1)) + i1572)))) * 2 ^ min (wrap64 (8 * i1572)).toNat IntKind.i64.bits))), (34, .int .i64 (Go.bits .or .i64 i1573 (IntKind.i64.wrap ((wrap64 (bt a1 (wrap64 ((wrap64 (5 + 1)) + i1572)))) * 2 ^ min (wrap64 (8 * i1572)).toNat IntKind.i64.bits)))), (35, .pointer (some ⟨g799, 2, none⟩))], [], [(g799, 27, [.slice none 0 0, .slice none 0 0, .int .i64 (Go.bits .or .i64 i1573 (IntKind.i64.wrap ((wrap64 (bt a1 (wrap64 ((wrap64 (5 + 1)) + i1572)))) * 2 ^ min (wrap64 (8 * i1572)).toNat IntKind.i64.bits))), .int .i64 (wrap64 (bt a1 5)), .int .i64 0, .slice none 0 0, .slice none 0 0]), (g797, 27, [.slice none 0 0, .slice none 0 0, .int .i64 0, .int .i64 0, .int .i64 0, .slice none 0 0, .slice none 0 0])], []⟩) (True) ?_ ?_
      · exact VC.drawB ⟨0, [], [], [], []⟩ [14] ⟨0, [], [], [(g799, 27, [.slice none 0 0, .slice none 0 0, .int .i64 i1573, .int .i64 (wrap64 (bt a1 5)), .int .i64 0, .slice none 0 0, .slice none 0 0])], []⟩ (by kernel_rfl) rfl (by kernel_rfl) (n := 15) (listed := LB 15 0) <|
         VB.va (i := 0) (listed' := LB 15 1) rfl (op_fieldAddr FI27_1 rfl (add_at _ _ _)) rfl (by kernel_rfl) (by kernel_rfl) (by kernel_rfl) (by kernel_rfl) (by decide) (PartP.on ⟨trivial, trivial, trivial⟩ ⟨trivial, ⟨⟨0, rfl⟩, trivial⟩, trivial⟩) (fun _ _ _ h => h) <|
         VB.vb (i := 1) (listed' := LB 15 3) rfl (op_load 0 1 rfl rfl TI3 rfl (by decide)) rfl (by kernel_rfl) (by kernel_rfl) (by kernel_rfl) (by kernel_rfl) (by kernel_rfl) (by kernel_rfl) (PartP.on ⟨trivial, trivial, trivial⟩ ⟨trivial, ⟨⟨0, rfl⟩, trivial⟩, trivial⟩) (fun _ _ _ h => h) <|
         VB.va (i := 2) (listed' := LB 15 7) rfl (mv rfl) rfl (by kernel_rfl) (by kernel_rfl) (by kernel_rfl) (by kernel_rfl) (by decide) (PartP.on ⟨trivial, trivial, trivial⟩ ⟨trivial, ⟨⟨0, rfl⟩, trivial⟩, trivial⟩) (fun _ _ _ h => h) <|
         VB.va (i := 3) (listed' := LB 15 15) rfl (mv rfl) rfl (by kernel_rfl) (by kernel_rfl) (by kernel_rfl) (by kernel_rfl) (by decide) (PartP.on ⟨trivial, trivial, trivial⟩ ⟨trivial, ⟨⟨0, rfl⟩, trivial⟩, trivial⟩) (fun _ _ _ h => h) <|
         VB.va (i := 4) (listed' := LB 15 31) rfl (op_ari64 rfl rfl rfl) rfl (by kernel_rfl) (by kernel_rfl) (by kernel_rfl) (by kernel_rfl) (by decide) (PartP.on ⟨trivial, trivial, trivial⟩ ⟨trivial, ⟨⟨0, rfl⟩, trivial⟩, trivial⟩) (fun _ _ _ h => h) <|
         VB.va (i := 5) (listed' := LB 15 63) rfl (mv rfl) rfl (by kernel_rfl) (by kernel_rfl) (by kernel_rfl) (by kernel_rfl) (by decide) (PartP.on ⟨trivial, trivial, trivial⟩ ⟨trivial, ⟨⟨0, rfl⟩, trivial⟩, trivial⟩) (fun _ _ _ h => h) <|
         VB.va (i := 6) (listed' := LB 15 127) rfl (op_ari64 rfl rfl rfl) rfl (by kernel_rfl) (by kernel_rfl) (by kernel_rfl) (by kernel_rfl) (by decide) (PartP.on ⟨trivial, trivial, trivial⟩ ⟨trivial, ⟨⟨0, rfl⟩, trivial⟩, trivial⟩) (fun _ _ _ h => h) <|
         VB.va (i := 7) (listed' := LB 15 255) rfl (op_indexS Try.underlying9 rfl rfl c1583 c1584 rfl) rfl (by kernel_rfl) (by kernel_rfl) (by kernel_rfl) (by kernel_rfl) (by decide) (PartP.on ⟨trivial, trivial, trivial⟩ ⟨trivial, ⟨⟨0, rfl⟩, trivial⟩, trivial⟩) (fun _ _ _ h => h) <|
         VB.va (i := 8) (listed' := LB 15 511) rfl (op_conv Try.underlying5 Try.underlying3 rfl (i64w _)) rfl (by kernel_rfl) (by kernel_rfl) (by kernel_rfl) (by kernel_rfl) (by decide) (PartP.on ⟨trivial, trivial, trivial⟩ ⟨trivial, ⟨⟨0, rfl⟩, trivial⟩, trivial⟩) (fun _ _ _ h => h) <|
         VB.va (i := 9) (listed' := LB 15 1023) rfl (mv rfl) rfl (by kernel_rfl) (by kernel_rfl) (by kernel_rfl) (by kernel_rfl) (by decide) (PartP.on ⟨trivial, trivial, trivial⟩ ⟨trivial, ⟨⟨0, rfl⟩, trivial⟩, trivial⟩) (fun _ _ _ h => h) <|
         VB.va (i := 10) (listed' := LB 15 2047) rfl (op_ari64 rfl rfl rfl) rfl (by kernel_rfl) (by kernel_rfl) (by kernel_rfl) (by kernel_rfl) (by decide) (PartP.on ⟨trivial, trivial, trivial⟩ ⟨trivial, ⟨⟨0, rfl⟩, trivial⟩, trivial⟩) (fun _ _ _ h => h) <|
         VB.va (i := 11) (listed' := LB 15 4095) rfl (op_shl rfl rfl c1585 rfl) rfl (by kernel_rfl) (by kernel_rfl) (by kernel_rfl) (by kernel_rfl) (by decide) (PartP.on ⟨trivial, trivial, trivial⟩ ⟨trivial, ⟨⟨0, rfl⟩, trivial⟩, trivial⟩) (fun _ _ _ h => h) <|
         VB.va (i := 12) (listed' := LB 15 8191) rfl (op_bits rfl rfl rfl) rfl (by kernel_rfl) (by kernel_rfl) (by kernel_rfl) (by kernel_rfl) (by decide) (PartP.on ⟨trivial, trivial, trivial⟩ ⟨trivial, ⟨⟨0, rfl⟩, trivial⟩, trivial⟩) (fun _ _ _ h => h) <|
         VB.va (i := 13) (listed' := LB 15 16383) rfl (op_fieldAddr FI27_1 rfl (add_at _ _ _)) rfl (by kernel_rfl) (by kernel_rfl) (by kernel_rfl) (by kernel_rfl) (by decide) (PartP.on ⟨trivial, trivial, trivial⟩ ⟨trivial, ⟨⟨0, rfl⟩, trivial⟩, trivial⟩) (fun _ _ _ h => h) <|
         VB.one1 (i := 14) (listed' := LB 15 32767) (by kernel_rfl) rfl (o_store 0 1 rfl rfl rfl TI3 (.c rfl) rfl (len rfl)) rfl (by kernel_rfl) (PartP.off (by kernel_rfl) ⟨trivial, trivial, trivial⟩) <| VB.done (by kernel_rfl) <|
         VN.meet0  [0, 1] [] trivial ⟨rfl, ⟨rfl, rfl, rfl, rfl, rfl, rfl, rfl, rfl, rfl, rfl, rfl, rfl, rfl, rfl, rfl, rfl, rfl, rfl, rfl, rfl, rfl, rfl, rfl, rfl, rfl, trivial⟩, trivial, rfl, by decide, rfl, by decide⟩
      intro _
      refine VN.block <| tr <| va (op_ari64 rfl rfl rfl) <| vm rfl <| dn <|
       VN.again [0, 1] [] (ihl11 (wrap64 (i1572 + 1)) (Go.bits .or .i64 i1573 (IntKind.i64.wrap ((wrap64 (bt a1 (wrap64 ((wrap64 (5 + 1)) + i1572)))) * 2 ^ min (wrap64 (8 * i1572)).toNat IntKind.i64.bits))) h) ⟨rfl, ⟨rfl, rfl, rfl, rfl, rfl, rfl, rfl, rfl, trivial⟩, trivial, rfl, by decide, rfl, by decide⟩
    cases lF c1582 hb1580
    refine cf <| VC.exit <| VX.then <| VX.then <| VX.hit <| VN.meet1 i1573 [0, 1] [] h ⟨rfl, ⟨rfl, rfl, rfl, rfl, rfl, rfl, rfl, trivial⟩, trivial, rfl, by decide, rfl, by decide⟩
  clear h
  intro i1586 h
  unfold journal_read.j10 at h
  refine VC.join1 (fun (i1805 : Int) => ⟨109, [(0, .int .i64 a0), (1, .string a1), (2, .int .i64 a2), (6, .pointer (some ⟨g797, 0, none⟩)), (7, .bool false), (9, .pointer (some ⟨g799, 0, none⟩))], [], [(g799, 27, [.slice none 0 0, .slice none 0 0, .int .i64 i1586, .int .i64 (wrap64 (bt a1 5)), .int .i64 i1805, .slice none 0 0, .slice none 0 0]), (g797, 27, [.slice none 0 0, .slice none 0 0, .int .i64 0, .int .i64 0, .int .i64 0, .slice none 0 0, .slice none 0 0])], []⟩) (fun (i1805 : Int) => journal_read.j14 k a0 a1 a2 i1586 i1805 = some (r1, r2, r3, r4, r5, r6, r7, r8)) ?_ ?_
  · refine sr <| vm rfl <| dt <| VC.block <| VC.loop2 (fun (i1791 : Int) (i1792 : Int) => ⟨109, [(0, .int .i64 a0), (1, .string a1), (2, .int .i64 a2), (6, .pointer (some ⟨g797, 0, none⟩)), (7, .bool false), (8, .int .i64 5), (9, .pointer (some ⟨g799, 0, none⟩)), (37, .int .i64 i1791)], [], [(g799, 27, [.slice none 0 0, .slice none 0 0, .int .i64 i1586, .int .i64 (wrap64 (bt a1 5)), .int .i64 i1792, .slice none 0 0, .slice none 0 0]), (g797, 27, [.slice none 0 0, .slice none 0 0, .int .i64 0, .int .i64 0, .int .i64 0, .slice none 0 0, .slice none 0 0])], []⟩) (fun (ml15 : Nat) (i1791 : Int) (i1792 : Int) => journal_read.l15 k a0 a1 a2 i1586 ml15 i1791 i1792 = some (r1, r2, r3, r4, r5, r6, r7, r8)) k 0 0 [0, 1] [] h ⟨rfl, ⟨rfl, rfl, rfl, rfl, rfl, rfl, rfl, rfl, trivial⟩, trivial, rfl, by decide, rfl, by decide⟩ (by intros; simp [journal_read.l15]) <|
     ?_
    clear h
    intro ml15 ihl15 i1791 i1792 h
    simp only [journal_read.l15] at h
    refine sr <| VL.letter (decide (i1791 < 4)) fun b1799 hb1799 => va (op_cmp rfl rfl (congrArg some hb1799)) <| ds <| ?_
    replace h := iC h
    rcases h with ⟨c1801, h⟩ | ⟨c1801, h⟩
    · cases lT c1801 hb1799
      refine ct <| sk <| sq <| VC.block <| sr <| vm rfl <| vs rfl <| dt <| ?_
      replace h := iN h
      obtain ⟨c1802, h⟩ := h
      replace h := iN h
      obtain ⟨c1803, h⟩ := h
      replace h := iN h
      obtain ⟨c1804, h⟩ := h
      refine VC.stop0 (⟨109, [(0, .int .i64 a0), (1, .string a1), (2, .int .i64 a2), (6, .pointer (some ⟨g797, 0, none⟩)), (7, .bool false), (8, .int .i64 5), (9, .pointer (some ⟨g799, 0, none⟩)), (11, .int .i64 i1791), (37, .int .i64 i1791), (38, .bool true), (39, .int .i64 i1791), (40, .pointer (some ⟨g799, 4, none⟩)), (41, .int .i64 i1792), (42, .string a1), (43, .int .i64 5), (44, .int .i64 (wrap64 (5 + 9))), (45, .int .i64 i1791), (46, .int .i64 (wrap64 ((wrap64 (5 + 9)) + i1791))), (47, .int .u8 (bt a1 (wrap64 ((wrap64 (5 + 9)) + i1791)))), (48, .int .i64 (wrap64 (bt a1 (wrap64 ((wrap64 (5 + 9)) + i1791))))), (49, .int .i64 i1791), (50, .int .i64 (wrap64 (8 * i1791))), (51, .int .i64 (IntKind.i64.wrap ((wrap64 (bt a1 (wrap64 ((wrap64 (5 + 9)) + i1791)))) * 2 ^ min (wrap64 (8 * i1791)).toNat IntKind.i64.bits))), (52, .int .i64 (Go.bits .or .i64 i1792 (IntKind.i64.wrap ((wrap64 (bt a1 (wrap64 ((wrap64 (5 + 9)) + i1791)))) * 2 ^ min (wrap64 (8 * i1791)).toNat IntKind.i64.bits)))), (53, .pointer (some ⟨g799, 4, none⟩))], [], [(g799, 27, [.slice none 0 0, .slice none 0 0, .int .i64 i1586, .int .i64 (wrap64 (bt a1 5)), .int .i64 (Go.bits .or .i64 i1792 (IntKind.i64.wrap ((wrap64 (bt a1 (wrap64 ((wrap64 (5 + 9)) + i1791)))) * 2 ^ min (wrap64 (8 * i1791)).toNat IntKind.i64.bits))), .slice none 0 0, .slice none 0 0]), (g797, 27, [.slice none 0 0, .slice none 0 0, .int .i64 0, .int .i64 0, .int .i64 0, .slice none 0 0, .slice none 0 0])], []⟩) (True) ?_ ?_
      · exact VC.drawB ⟨0, [], [], [], []⟩ [14] ⟨0, [], [], [(g799, 27, [.slice none 0 0, .slice none 0 0, .int .i64 i1586, .int .i64 (wrap64 (bt a1 5)), .int .i64 i1792, .slice none 0 0, .slice none 0 0])], []⟩ (by kernel_rfl) rfl (by kernel_rfl) (n := 15) (listed := LB 15 0) <|
         VB.va (i := 0) (listed' := LB 15 1) rfl (op_fieldAddr FI27_3 rfl (add_at _ _ _)) rfl (by kernel_rfl) (by kernel_rfl) (by kernel_rfl) (by kernel_rfl) (by decide) (PartP.on ⟨trivial, trivial, trivial⟩ ⟨trivial, ⟨⟨0, rfl⟩, trivial⟩, trivial⟩) (fun _ _ _ h => h) <|
         VB.vb (i := 1) (listed' := LB 15 3) rfl (op_load 0 1 rfl rfl TI3 rfl (by decide)) rfl (by kernel_rfl) (by kernel_rfl) (by kernel_rfl) (by kernel_rfl) (by kernel_rfl) (by kernel_rfl) (PartP.on ⟨trivial, trivial, trivial⟩ ⟨trivial, ⟨⟨0, rfl⟩, trivial⟩, trivial⟩) (fun _ _ _ h => h) <|
         VB.va (i := 2) (listed' := LB 15 7) rfl (mv rfl) rfl (by kernel_rfl) (by kernel_rfl) (by kernel_rfl) (by kernel_rfl) (by decide) (PartP.on ⟨trivial, trivial, trivial⟩ ⟨trivial, ⟨⟨0, rfl⟩, trivial⟩, trivial⟩) (fun _ _ _ h => h) <|
         VB.va (i := 3) (listed' := LB 15 15) rfl (mv rfl) rfl (by kernel_rfl) (by kernel_rfl) (by kernel_rfl) (by kernel_rfl) (by decide) (PartP.on ⟨trivial, trivial, trivial⟩ ⟨trivial, ⟨⟨0, rfl⟩, trivial⟩, trivial⟩) (fun _ _ _ h => h) <|
         VB.va (i := 4) (listed' := LB 15 31) rfl (op_ari64 rfl rfl rfl) rfl (by kernel_rfl) (by kernel_rfl) (by kernel_rfl) (by kernel_rfl) (by decide) (PartP.on ⟨trivial, trivial, trivial⟩ ⟨trivial, ⟨⟨0, rfl⟩, trivial⟩, trivial⟩) (fun _ _ _ h => h) <|
         VB.va (i := 5) (listed' := LB 15 63) rfl (mv rfl) rfl (by kernel_rfl) (by kernel_rfl) (by kernel_rfl) (by kernel_rfl) (by decide) (PartP.on ⟨trivial, trivial, trivial⟩ ⟨trivial, ⟨⟨0, rfl⟩, trivial⟩, trivial⟩) (fun _ _ _ h => h) <|
         VB.va (i := 6) (listed' := LB 15 127) rfl (op_ari64 rfl rfl rfl) rfl (by kernel_rfl) (by kernel_rfl) (by kernel_rfl) (by kernel_rfl) (by decide) (PartP.on ⟨trivial, trivial, trivial⟩ ⟨trivial, ⟨⟨0, rfl⟩, trivial⟩, trivial⟩) (fun _ _ _ h => h) <|
         VB.va (i := 7) (listed' := LB 15 255) rfl (op_indexS Try.underlying9 rfl rfl c1802 c1803 rfl) rfl (by kernel_rfl) (by kernel_rfl) (by kernel_rfl) (by kernel_rfl) (by decide) (PartP.on ⟨trivial, trivial, trivial⟩ ⟨trivial, ⟨⟨0, rfl⟩, trivial⟩, trivial⟩) (fun _ _ _ h => h) <|
         VB.va (i := 8) (listed' := LB 15 511) rfl (op_conv Try.underlying5 Try.underlying3 rfl (i64w _)) rfl (by kernel_rfl) (by kernel_rfl) (by kernel_rfl) (by kernel_rfl) (by decide) (PartP.on ⟨trivial, trivial, trivial⟩ ⟨trivial, ⟨⟨0, rfl⟩, trivial⟩, trivial⟩) (fun _ _ _ h => h) <|
         VB.va (i := 9) (listed' := LB 15 1023) rfl (mv rfl) rfl (by kernel_rfl) (by kernel_rfl) (by kernel_rfl) (by kernel_rfl) (by decide) (PartP.on ⟨trivial, trivial, trivial⟩ ⟨trivial, ⟨⟨0, rfl⟩, trivial⟩, trivial⟩) (fun _ _ _ h => h) <|
         VB.va (i := 10) (listed' := LB 15 2047) rfl (op_ari64 rfl rfl rfl) rfl (by kernel_rfl) (by kernel_rfl) (by kernel_rfl) (by kernel_rfl) (by decide) (PartP.on ⟨trivial, trivial, trivial⟩ ⟨trivial, ⟨⟨0, rfl⟩, trivial⟩, trivial⟩) (fun _ _ _ h => h) <|
         VB.va (i := 11) (listed' := LB 15 4095) rfl (op_shl rfl rfl c1804 rfl) rfl (by kernel_rfl) (by kernel_rfl) (by kernel_rfl) (by kernel_rfl) (by decide) (PartP.on ⟨trivial, trivial, trivial⟩ ⟨trivial, ⟨⟨0, rfl⟩, trivial⟩, trivial⟩) (fun _ _ _ h => h) <|
         VB.va (i := 12) (listed' := LB 15 8191) rfl (op_bits rfl rfl rfl) rfl (by kernel_rfl) (by kernel_rfl) (by kernel_rfl) (by kernel_rfl) (by decide) (PartP.on ⟨trivial, trivial, trivial⟩ ⟨trivial, ⟨⟨0, rfl⟩, trivial⟩, trivial⟩) (fun _ _ _ h => h) <|
         VB.va (i := 13) (listed' := LB 15 16383) rfl (op_fieldAddr FI27_3 rfl (add_at _ _ _)) rfl (by kernel_rfl) (by kernel_rfl) (by kernel_rfl) (by kernel_rfl) (by decide) (PartP.on ⟨trivial, trivial, trivial⟩ ⟨trivial, ⟨⟨0, rfl⟩, trivial⟩, trivial⟩) (fun _ _ _ h => h) <|
         VB.one1 (i := 14) (listed' := LB 15 32767) (by kernel_rfl) rfl (o_store 0 1 rfl rfl rfl TI3 (.c rfl) rfl (len rfl)) rfl (by kernel_rfl) (PartP.off (by kernel_rfl) ⟨trivial, trivial, trivial⟩) <| VB.done (by kernel_rfl) <|
         VN.meet0  [0, 1] [] trivial ⟨rfl, ⟨rfl, rfl, rfl, rfl, rfl, rfl, rfl, rfl, rfl, rfl, rfl, rfl, rfl, rfl, rfl, rfl, rfl, rfl, rfl, rfl, rfl, rfl, rfl, rfl, rfl, trivial⟩, trivial, rfl, by decide, rfl, by decide⟩
      intro _
      refine VN.block <| tr <| va (op_ari64 rfl rfl rfl) <| vm rfl <| dn <|
       VN.again [0, 1] [] (ihl15 (wrap64 (i1791 + 1)) (Go.bits .or .i64 i1792 (IntKind.i64.wrap ((wrap64 (bt a1 (wrap64 ((wrap64 (5 + 9)) + i1791)))) * 2 ^ min (wrap64 (8 * i1791)).toNat IntKind.i64.bits))) h) ⟨rfl, ⟨rfl, rfl, rfl, rfl, rfl, rfl, rfl, rfl, trivial⟩, trivial, rfl, by decide, rfl, by decide⟩
    cases lF c1801 hb1799
    refine cf <| VC.exit <| VX.then <| VX.then <| VX.hit <| VN.meet1 i1792 [0, 1] [] h ⟨rfl, ⟨rfl, rfl, rfl, rfl, rfl, rfl, trivial⟩, trivial, rfl, by decide, rfl, by decide⟩
  clear h
  intro i1805 h
  unfold journal_read.j14 at h
  refine VC.letter (decide (i1586 ≥ 1)) fun b1806 hb1806 => ?_
  replace h := iC h
  rcases h with ⟨c1807, h⟩ | ⟨c1807, h⟩
  · cases lT c1807 hb1806
    refine VC.letter (decide (i1586 ≤ 1099511627776)) fun b1808 hb1808 => ?_
    replace h := iC h
    rcases h with ⟨c1809, h⟩ | ⟨c1809, h⟩
    · cases lT c1809 hb1808
      refine VC.letter (((i1586.tmod 2) == a0)) fun b1810 hb1810 => ?_
      replace h := iC h
      rcases h with ⟨c1811, h⟩ | ⟨c1811, h⟩
      · obtain rfl : b1810 = true := hb1810.symm.trans (beq_iff_eq.2 c1811)
        refine VC.letter (decide ((wrap64 (bt a1 5)) ≤ 1)) fun b1812 hb1812 => ?_
        replace h := iC h
        rcases h with ⟨c1813, h⟩ | ⟨c1813, h⟩
        · cases lT c1813 hb1812
          replace h := bd h
          obtain ⟨t1814, hA1815, h⟩ := h
          refine VC.letter (decide (i1805 ≤ t1814)) fun b1816 hb1816 => VC.join0 (⟨109, [(1, .string a1), (6, .pointer (some ⟨g797, 0, none⟩)), (7, .bool false), (9, .pointer (some ⟨g799, 0, none⟩)), (12, .bool b1816)], [], [(g799, 27, [.slice none 0 0, .slice none 0 0, .int .i64 i1586, .int .i64 (wrap64 (bt a1 5)), .int .i64 i1805, .slice none 0 0, .slice none 0 0]), (g797, 27, [.slice none 0 0, .slice none 0 0, .int .i64 0, .int .i64 0, .int .i64 0, .slice none 0 0, .slice none 0 0])], []⟩) (True) ?_ ?_
          · refine VC.draw ⟨0, [], [], [(g799, 27, [.slice none 0 0, .slice none 0 0, .int .i64 i1586, .int .i64 (wrap64 (bt a1 5)), .int .i64 i1805, .slice none 0 0, .slice none 0 0])], []⟩ (by kernel_rfl) rfl (by kernel_rfl) (n := 28) (listed := LB 28 0) <|
             av 0 1 rfl (op_fieldAddr FI27_1 rfl (add_at _ _ _)) <| av 1 3 rfl (op_load 0 1 rfl rfl TI3 rfl (by decide)) <| av 2 7 rfl (op_cmp rfl rfl (congrArg some hb1806)) <| av 3 15 rfl (mv rfl) <| av 4 31 rfl (op_fieldAddr FI27_1 rfl (add_at _ _ _)) <|
             av 5 63 rfl (op_load 0 1 rfl rfl TI3 rfl (by decide)) <| av 6 127 rfl (op_cmp rfl rfl (congrArg some hb1808)) <| av 7 255 rfl (op_pick rfl rfl) <| av 8 511 rfl (mv rfl) <| av 9 1023 rfl (op_fieldAddr FI27_1 rfl (add_at _ _ _)) <| av 10 2047 rfl (op_load 0 1 rfl rfl TI3 rfl (by decide)) <|
             av 11 4095 rfl (op_rem rfl rfl (by decide) rfl) <| av 12 8191 rfl (mv rfl) <| av 13 16383 rfl (op_cmp rfl rfl (congrArg some hb1810)) <| av 14 32767 rfl (op_pick rfl rfl) <| av 15 65535 rfl (mv rfl) <| av 16 131071 rfl (op_fieldAddr FI27_2 rfl (add_at _ _ _)) <|
             av 17 262143 rfl (op_load 0 1 rfl rfl TI3 rfl (by decide)) <| av 18 524287 rfl (op_cmp rfl rfl (congrArg some hb1812)) <| av 19 1048575 rfl (op_pick rfl rfl) <| av 20 2097151 rfl (mv rfl) <| av 21 4194303 rfl (op_fieldAddr FI27_3 rfl (add_at _ _ _)) <|
             av 22 8388607 rfl (op_load 0 1 rfl rfl TI3 rfl (by decide)) <| av 23 16777215 rfl (mv rfl) <| VA.oneC (i := 24) (listed' := LB 28 33554431) (by kernel_rfl) rfl (o_call0 FO55 (journal_room.ok a2 t1814 hA1815) rfl rfl (ltn rfl) (All_of .nil)) rfl (by kernel_rfl) <| ?_
            rintro _ _ _ ⟨rfl, rfl, rfl⟩
            refine ⟨⟨trivial, ⟨⟨0, rfl⟩, trivial⟩, trivial⟩, ?_⟩
            exact av 25 67108863 rfl (op_cmp rfl rfl (congrArg some hb1816)) <| av 26 134217727 rfl (op_pick rfl rfl) <| av 27 268435455 rfl (ag rfl) <| VA.done (by kernel_rfl) <| VN.meet0  [0, 1] [] trivial ⟨rfl, ⟨rfl, rfl, rfl, rfl, rfl, trivial⟩, trivial, rfl, by decide, rfl, by decide⟩
          intro _
          refine sr <| va (op_fieldAddr FI27_1 rfl (add_at _ _ _)) <| va (op_load 0 1 rfl rfl TI3 rfl (by decide)) <| va (op_fieldAddr FI27_2 rfl (add_at _ _ _)) <| va (op_load 0 1 rfl rfl TI3 rfl (by decide)) <| va (op_fieldAddr FI27_3 rfl (add_at _ _ _)) <| va (op_load 0 1 rfl rfl TI3 rfl (by decide)) <| ?_
          replace h := bd h
          obtain ⟨r1817, hA1818, h⟩ := h
          refine sC (o_call0 FO39 (journal_headOf.ok k i1586 (wrap64 (bt a1 5)) i1805 r1817 hA1818) rfl rfl (ltn rfl) (All_of .nil)) <| ?_
          rintro _ _ _ ⟨rfl, rfl, rfl⟩
          refine sG (o_alloc Z74 ZL74) fun g1819 => ?_
          replace h := iN h
          obtain ⟨c1820, h⟩ := h
          replace h := iN h
          obtain ⟨c1821, h⟩ := h
          refine s1 (o_storeA 0 rfl rfl rfl TI74 c1820 c1821) <| dt <| ?_
          replace h := iC h
          rcases h with ⟨c1822, h⟩ | ⟨c1822, h⟩
          · cases lT c1822 hb1816
            replace h := iN h
            obtain ⟨c1823, h⟩ := h
            replace h := iN h
            obtain ⟨c1824, h⟩ := h
            replace h := iN h
            obtain ⟨c1827, h⟩ := h
            replace h := iN h
            obtain ⟨c1830, h⟩ := h
            refine VC.letter (decide (r1817 = ((byI (a1.extract 0 32)).take 32))) fun b1831 hb1831 => ?_
            replace h := iC h
            rcases h with ⟨c1832, h⟩ | ⟨c1832, h⟩
            · cases lT c1832 hb1831
              replace h := iN h
              obtain ⟨c1833, h⟩ := h
              replace h := iN h
              obtain ⟨c1836, h⟩ := h
              replace h := iN h
              obtain ⟨c1839, h⟩ := h
              refine VC.letter (decide (r1817 = ((byI (a1.extract 32 a1.size)).take 32))) fun b1840 hb1840 => VC.join0 (⟨109, [(6, .pointer (some ⟨g797, 0, none⟩)), (7, .bool b1840)], [], [(g797, 27, [.slice none 0 0, .slice none 0 0, .int .i64 i1586, .int .i64 (wrap64 (bt a1 5)), .int .i64 i1805, .slice none 0 0, .slice none 0 0])], []⟩) (True) ?_ ?_
              · refine VC.draw ⟨0, [], [], [(g1819, 74, ints .u8 r1817), (g799, 27, [.slice none 0 0, .slice none 0 0, .int .i64 i1586, .int .i64 (wrap64 (bt a1 5)), .int .i64 i1805, .slice none 0 0, .slice none 0 0])], []⟩ (by kernel_rfl) rfl (by kernel_rfl) (n := 22) (listed := LB 22 0) <|
                 aw 0 1 rfl (op_load 1 7 rfl rfl TI27 rfl (fun h => absurd h (by decide))) ⟨trivial, ⟨⟨0, rfl⟩, ⟨1, rfl⟩, trivial⟩, trivial⟩ <| aw 1 3 rfl (mv rfl) ⟨trivial, ⟨⟨0, rfl⟩, ⟨1, rfl⟩, trivial⟩, trivial⟩ <| aw 2 7 rfl (mv rfl) ⟨trivial, ⟨⟨0, rfl⟩, ⟨1, rfl⟩, trivial⟩, trivial⟩ <|
                 aw 3 15 rfl (op_loadA 0 rfl rfl TI74 c1820) ⟨trivial, ⟨⟨0, rfl⟩, ⟨1, rfl⟩, trivial⟩, trivial⟩ <| aw 4 31 rfl (mv rfl) ⟨trivial, ⟨⟨0, rfl⟩, ⟨1, rfl⟩, trivial⟩, trivial⟩ <|
                 aw 5 63 rfl (op_sliceS 0 32 Try.underlying9 rfl ⟨rfl, ⟨_, _, rfl, (by decide), rfl⟩, Nat.zero_le _, tN (a := (32 : Int)) (b := (a1.size : Int)) rfl rfl c1823⟩ rfl) ⟨trivial, ⟨⟨0, rfl⟩, ⟨1, rfl⟩, trivial⟩, trivial⟩ <|
                 VA.oneG (i := 6) (listed' := LB 22 127) (by kernel_rfl) rfl (o_strBytes (es3 := List.map enc_intu8 (byI (a1.extract 0 32))) rfl Try.underlying9 Try.underlying41 Try.underlying5 rfl c1824) rfl (by kernel_rfl) (fun _ => ⟨trivial, ⟨⟨0, rfl⟩, ⟨1, rfl⟩, trivial⟩, trivial⟩) fun v1826 => VA.more ⟨0, [], [.row v1826 1 ((byI (a1.extract 0 32)).map enc_intu8)], [(g1819, 74, ints .u8 r1817), (g799, 27, [.slice none 0 0, .slice none 0 0, .int .i64 i1586, .int .i64 (wrap64 (bt a1 5)), .int .i64 i1805, .slice none 0 0, .slice none 0 0])], []⟩ ⟨trivial, ⟨⟨0, rfl⟩, ⟨1, rfl⟩, trivial⟩, trivial⟩ <|
                 VA.open (m := (byI (a1.extract 0 32)).length) 0 lenm rfl (Nat.lt_of_lt_of_le (by decide) c1827) <| ?_
                rintro ad1828 n1829 rfl
                refine aw 7 255 rfl (op_arrayAt Try.underlying74 rfl c1827) ⟨⟨⟨0, rfl⟩, trivial⟩, ⟨⟨0, rfl⟩, ⟨1, rfl⟩, trivial⟩, trivial⟩ <| aw 8 511 rfl (op_loadRA 0 (fun _ => rfl) rfl rfl TI74 c1827) ⟨⟨⟨0, rfl⟩, trivial⟩, ⟨⟨0, rfl⟩, ⟨1, rfl⟩, trivial⟩, trivial⟩ <|
                 aw 9 1023 rfl (op_eqA Try.underlying74 (by kernel_rfl) TI5 Try.underlying5 (by kernel_rfl) rfl rfl c1820 c1830 hb1831) ⟨⟨⟨0, rfl⟩, trivial⟩, ⟨⟨0, rfl⟩, ⟨1, rfl⟩, trivial⟩, trivial⟩ <| aw 10 2047 rfl (op_pick rfl rfl) ⟨⟨⟨0, rfl⟩, trivial⟩, ⟨⟨0, rfl⟩, ⟨1, rfl⟩, trivial⟩, trivial⟩ <|
                 aw 11 4095 rfl (mv rfl) ⟨⟨⟨0, rfl⟩, trivial⟩, ⟨⟨0, rfl⟩, ⟨1, rfl⟩, trivial⟩, trivial⟩ <| aw 12 8191 rfl (op_loadA 0 rfl rfl TI74 c1820) ⟨⟨⟨0, rfl⟩, trivial⟩, ⟨⟨0, rfl⟩, ⟨1, rfl⟩, trivial⟩, trivial⟩ <| aw 13 16383 rfl (mv rfl) ⟨⟨⟨0, rfl⟩, trivial⟩, ⟨⟨0, rfl⟩, ⟨1, rfl⟩, trivial⟩, trivial⟩ <|
                 aw 14 32767 rfl (op_sliceS 32 a1.size Try.underlying9 rfl ⟨⟨_, _, rfl, (by decide), rfl⟩, rfl, tN (a := (32 : Int)) (b := (a1.size : Int)) rfl rfl c1823, Nat.le_refl _⟩ rfl) ⟨⟨⟨0, rfl⟩, trivial⟩, ⟨⟨0, rfl⟩, ⟨1, rfl⟩, trivial⟩, trivial⟩ <| VA.all [15, 20] (by kernel_rfl) (by simp) <|
                 VAll.consG (listed' := LB 22 65535) rfl (o_strBytes (es3 := List.map enc_intu8 (byI (a1.extract 32 a1.size))) rfl Try.underlying9 Try.underlying41 Try.underlying5 rfl c1833) rfl (by kernel_rfl) (fun _ => ⟨⟨⟨1, rfl⟩, trivial⟩, ⟨⟨0, rfl⟩, ⟨1, rfl⟩, trivial⟩, trivial⟩) ?_ ?_
                · intro v1835
                  refine VA.more ⟨0, [], [.row (.slice (some ad1828) (byI (a1.extract 0 32)).length n1829) 1 ((byI (a1.extract 0 32)).map enc_intu8), .row v1835 1 ((byI (a1.extract 32 a1.size)).map enc_intu8)], [(g1819, 74, ints .u8 r1817), (g799, 27, [.slice none 0 0, .slice none 0 0, .int .i64 i1586, .int .i64 (wrap64 (bt a1 5)), .int .i64 i1805, .slice none 0 0, .slice none 0 0])], []⟩ ⟨⟨⟨0, rfl⟩, trivial⟩, ⟨⟨0, rfl⟩, ⟨1, rfl⟩, trivial⟩, trivial⟩ <|
                   VA.open (m := (byI (a1.extract 32 a1.size)).length) 0 lenm rfl (Nat.lt_of_lt_of_le (by decide) c1836) <| ?_
                  rintro ad1837 n1838 rfl
                  exact aw 16 131071 rfl (op_arrayAt Try.underlying74 rfl c1836) ⟨⟨⟨1, rfl⟩, ⟨0, rfl⟩, trivial⟩, ⟨⟨0, rfl⟩, ⟨1, rfl⟩, trivial⟩, trivial⟩ <| aw 17 262143 rfl (op_loadRA 1 (fun _ => rfl) rfl rfl TI74 c1836) ⟨⟨⟨1, rfl⟩, ⟨0, rfl⟩, trivial⟩, ⟨⟨0, rfl⟩, ⟨1, rfl⟩, trivial⟩, trivial⟩ <|
                   aw 18 524287 rfl (op_eqA Try.underlying74 (by kernel_rfl) TI5 Try.underlying5 (by kernel_rfl) rfl rfl c1820 c1839 hb1840) ⟨⟨⟨1, rfl⟩, ⟨0, rfl⟩, trivial⟩, ⟨⟨0, rfl⟩, ⟨1, rfl⟩, trivial⟩, trivial⟩ <|
                   aw 19 1048575 rfl (op_pick rfl rfl) ⟨⟨⟨1, rfl⟩, ⟨0, rfl⟩, trivial⟩, ⟨⟨0, rfl⟩, ⟨1, rfl⟩, trivial⟩, trivial⟩ <|
                   VA.one1 (i := 20) (listed' := LB 22 2097151) (by kernel_rfl) rfl (o_store 2 7 rfl rfl rfl TI27 (.agg (.of rfl)) rfl (len rfl)) rfl (by kernel_rfl) ⟨⟨⟨1, rfl⟩, ⟨0, rfl⟩, trivial⟩, ⟨⟨0, rfl⟩, ⟨1, rfl⟩, trivial⟩, trivial⟩ <|
                   aw 21 4194303 rfl (ag rfl) ⟨⟨⟨1, rfl⟩, ⟨0, rfl⟩, trivial⟩, ⟨⟨0, rfl⟩, ⟨1, rfl⟩, trivial⟩, trivial⟩ <| VA.done (by kernel_rfl) <| VN.meet0  [2] [] trivial ⟨rfl, ⟨rfl, rfl, trivial⟩, trivial, rfl, by decide, rfl, by decide⟩
                refine VAll.cons1 (listed' := LB 22 1081343) rfl (o_store 2 7 rfl rfl rfl TI27 (.agg (.of rfl)) rfl (len rfl)) rfl (by kernel_rfl) ⟨⟨⟨0, rfl⟩, trivial⟩, ⟨⟨0, rfl⟩, ⟨1, rfl⟩, trivial⟩, trivial⟩ ?_ VAll.nil
                refine VA.oneG (i := 15) (listed' := LB 22 1114111) (by kernel_rfl) rfl (o_strBytes (es3 := List.map enc_intu8 (byI (a1.extract 32 a1.size))) rfl Try.underlying9 Try.underlying41 Try.underlying5 rfl c1833) rfl (by kernel_rfl) (fun _ => ⟨⟨⟨1, rfl⟩, trivial⟩, ⟨⟨0, rfl⟩, ⟨1, rfl⟩, trivial⟩, trivial⟩) fun v1835 => VA.more ⟨0, [], [.row (.slice (some ad1828) (byI (a1.extract 0 32)).length n1829) 1 ((byI (a1.extract 0 32)).map enc_intu8), .row v1835 1 ((byI (a1.extract 32 a1.size)).map enc_intu8)], [(g1819, 74, ints .u8 r1817), (g799, 27, [.slice none 0 0, .slice none 0 0, .int .i64 i1586, .int .i64 (wrap64 (bt a1 5)), .int .i64 i1805, .slice none 0 0, .slice none 0 0])], []⟩ ⟨⟨⟨0, rfl⟩, trivial⟩, ⟨⟨0, rfl⟩, ⟨1, rfl⟩, trivial⟩, trivial⟩ <|
                 VA.open (m := (byI (a1.extract 32 a1.size)).length) 0 lenm rfl (Nat.lt_of_lt_of_le (by decide) c1836) <| ?_
                rintro ad1837 n1838 rfl
                exact aw 16 1179647 rfl (op_arrayAt Try.underlying74 rfl c1836) ⟨⟨⟨1, rfl⟩, ⟨0, rfl⟩, trivial⟩, ⟨⟨0, rfl⟩, ⟨1, rfl⟩, trivial⟩, trivial⟩ <| aw 17 1310719 rfl (op_loadRA 1 (fun _ => rfl) rfl rfl TI74 c1836) ⟨⟨⟨1, rfl⟩, ⟨0, rfl⟩, trivial⟩, ⟨⟨0, rfl⟩, ⟨1, rfl⟩, trivial⟩, trivial⟩ <|
                 aw 18 1572863 rfl (op_eqA Try.underlying74 (by kernel_rfl) TI5 Try.underlying5 (by kernel_rfl) rfl rfl c1820 c1839 hb1840) ⟨⟨⟨1, rfl⟩, ⟨0, rfl⟩, trivial⟩, ⟨⟨0, rfl⟩, ⟨1, rfl⟩, trivial⟩, trivial⟩ <|
                 aw 19 2097151 rfl (op_pick rfl rfl) ⟨⟨⟨1, rfl⟩, ⟨0, rfl⟩, trivial⟩, ⟨⟨0, rfl⟩, ⟨1, rfl⟩, trivial⟩, trivial⟩ <| aw 21 4194303 rfl (ag rfl) ⟨⟨⟨1, rfl⟩, ⟨0, rfl⟩, trivial⟩, ⟨⟨0, rfl⟩, ⟨1, rfl⟩, trivial⟩, trivial⟩ <| VA.done (by kernel_rfl) <|
                 VN.meet0  [2] [] trivial ⟨rfl, ⟨rfl, rfl, trivial⟩, trivial, rfl, by decide, rfl, by decide⟩
              intro _
              refine VC.ret <| ?_
              simp only [Option.some.injEq, Prod.mk.injEq] at h
              obtain ⟨rfl, rfl, rfl, rfl, rfl, rfl, rfl, rfl⟩ := h
              subst hb1840
              exact VR.nilRow' 9 1 <| VR.nilRow' 56 2 <| VR.nilRow' 9 1 <| VR.nilRow' 9 1 <|
               VR.fn (rs := [.cell 6 27, .tmp 7]) [] [((.slice none 0 0), 9, 1, ([] : List ByteArray).map enc_str), ((.slice none 0 0), 56, 2, ([] : List S55).map enc55), ((.slice none 0 0), 9, 1, ([] : List ByteArray).map enc_str), ((.slice none 0 0), 9, 1, ([] : List ByteArray).map enc_str)] [3, 2, 1, 0] rfl (.cell 0 rfl rfl TI27 (fun h => absurd h (by decide)) (.tmp rfl .nil)) ⟨(.slice none 0 0), (.slice none 0 0), (.slice none 0 0), (.slice none 0 0), rfl, rfl, rfl⟩ trivial rfl (by decide)
            cases lF c1832 hb1831
            refine VC.join0 (⟨109, [(6, .pointer (some ⟨g797, 0, none⟩)), (7, .bool false)], [], [(g797, 27, [.slice none 0 0, .slice none 0 0, .int .i64 i1586, .int .i64 (wrap64 (bt a1 5)), .int .i64 i1805, .slice none 0 0, .slice none 0 0])], []⟩) (True) ?_ ?_
            · refine VC.draw ⟨0, [], [], [(g1819, 74, ints .u8 r1817), (g799, 27, [.slice none 0 0, .slice none 0 0, .int .i64 i1586, .int .i64 (wrap64 (bt a1 5)), .int .i64 i1805, .slice none 0 0, .slice none 0 0])], []⟩ (by kernel_rfl) rfl (by kernel_rfl) (n := 22) (listed := LB 22 0) <|
               aw 0 1 rfl (op_load 1 7 rfl rfl TI27 rfl (fun h => absurd h (by decide))) ⟨trivial, ⟨⟨0, rfl⟩, ⟨1, rfl⟩, trivial⟩, trivial⟩ <| aw 1 3 rfl (mv rfl) ⟨trivial, ⟨⟨0, rfl⟩, ⟨1, rfl⟩, trivial⟩, trivial⟩ <| aw 2 7 rfl (mv rfl) ⟨trivial, ⟨⟨0, rfl⟩, ⟨1, rfl⟩, trivial⟩, trivial⟩ <|
               aw 3 15 rfl (op_loadA 0 rfl rfl TI74 c1820) ⟨trivial, ⟨⟨0, rfl⟩, ⟨1, rfl⟩, trivial⟩, trivial⟩ <| aw 4 31 rfl (mv rfl) ⟨trivial, ⟨⟨0, rfl⟩, ⟨1, rfl⟩, trivial⟩, trivial⟩ <|
               aw 5 63 rfl (op_sliceS 0 32 Try.underlying9 rfl ⟨rfl, ⟨_, _, rfl, (by decide), rfl⟩, Nat.zero_le _, tN (a := (32 : Int)) (b := (a1.size : Int)) rfl rfl c1823⟩ rfl) ⟨trivial, ⟨⟨0, rfl⟩, ⟨1, rfl⟩, trivial⟩, trivial⟩ <|
               VA.oneG (i := 6) (listed' := LB 22 127) (by kernel_rfl) rfl (o_strBytes (es3 := List.map enc_intu8 (byI (a1.extract 0 32))) rfl Try.underlying9 Try.underlying41 Try.underlying5 rfl c1824) rfl (by kernel_rfl) (fun _ => ⟨trivial, ⟨⟨0, rfl⟩, ⟨1, rfl⟩, trivial⟩, trivial⟩) fun v1826 => VA.more ⟨0, [], [.row v1826 1 ((byI (a1.extract 0 32)).map enc_intu8)], [(g1819, 74, ints .u8 r1817), (g799, 27, [.slice none 0 0, .slice none 0 0, .int .i64 i1586, .int .i64 (wrap64 (bt a1 5)), .int .i64 i1805, .slice none 0 0, .slice none 0 0])], []⟩ ⟨trivial, ⟨⟨0, rfl⟩, ⟨1, rfl⟩, trivial⟩, trivial⟩ <|
               VA.open (m := (byI (a1.extract 0 32)).length) 0 lenm rfl (Nat.lt_of_lt_of_le (by decide) c1827) <| ?_
              rintro ad1828 n1829 rfl
              exact aw 7 255 rfl (op_arrayAt Try.underlying74 rfl c1827) ⟨⟨⟨0, rfl⟩, trivial⟩, ⟨⟨0, rfl⟩, ⟨1, rfl⟩, trivial⟩, trivial⟩ <| aw 8 511 rfl (op_loadRA 0 (fun _ => rfl) rfl rfl TI74 c1827) ⟨⟨⟨0, rfl⟩, trivial⟩, ⟨⟨0, rfl⟩, ⟨1, rfl⟩, trivial⟩, trivial⟩ <|
               aw 9 1023 rfl (op_eqA Try.underlying74 (by kernel_rfl) TI5 Try.underlying5 (by kernel_rfl) rfl rfl c1820 c1830 hb1831) ⟨⟨⟨0, rfl⟩, trivial⟩, ⟨⟨0, rfl⟩, ⟨1, rfl⟩, trivial⟩, trivial⟩ <| aw 10 2047 rfl (op_pick rfl rfl) ⟨⟨⟨0, rfl⟩, trivial⟩, ⟨⟨0, rfl⟩, ⟨1, rfl⟩, trivial⟩, trivial⟩ <|
               aw 11 4095 rfl (mv rfl) ⟨⟨⟨0, rfl⟩, trivial⟩, ⟨⟨0, rfl⟩, ⟨1, rfl⟩, trivial⟩, trivial⟩ <| aU 12 8191 rfl rfl ⟨⟨⟨0, rfl⟩, trivial⟩, ⟨⟨0, rfl⟩, ⟨1, rfl⟩, trivial⟩, trivial⟩ <| aU 13 16383 rfl rfl ⟨⟨⟨0, rfl⟩, trivial⟩, ⟨⟨0, rfl⟩, ⟨1, rfl⟩, trivial⟩, trivial⟩ <|
               aU 14 32767 rfl rfl ⟨⟨⟨0, rfl⟩, trivial⟩, ⟨⟨0, rfl⟩, ⟨1, rfl⟩, trivial⟩, trivial⟩ <| aU 15 65535 rfl rfl ⟨⟨⟨0, rfl⟩, trivial⟩, ⟨⟨0, rfl⟩, ⟨1, rfl⟩, trivial⟩, trivial⟩ <| aU 16 131071 rfl rfl ⟨⟨⟨0, rfl⟩, trivial⟩, ⟨⟨0, rfl⟩, ⟨1, rfl⟩, trivial⟩, trivial⟩ <|
               aU 17 262143 rfl rfl ⟨⟨⟨0, rfl⟩, trivial⟩, ⟨⟨0, rfl⟩, ⟨1, rfl⟩, trivial⟩, trivial⟩ <| aU 18 524287 rfl rfl ⟨⟨⟨0, rfl⟩, trivial⟩, ⟨⟨0, rfl⟩, ⟨1, rfl⟩, trivial⟩, trivial⟩ <| aw 19 1048575 rfl (op_pick rfl rfl) ⟨⟨⟨0, rfl⟩, trivial⟩, ⟨⟨0, rfl⟩, ⟨1, rfl⟩, trivial⟩, trivial⟩ <|
               VA.one1 (i := 20) (listed' := LB 22 2097151) (by kernel_rfl) rfl (o_store 2 7 rfl rfl rfl TI27 (.agg (.of rfl)) rfl (len rfl)) rfl (by kernel_rfl) ⟨⟨⟨0, rfl⟩, trivial⟩, ⟨⟨0, rfl⟩, ⟨1, rfl⟩, trivial⟩, trivial⟩ <|
               aw 21 4194303 rfl (ag rfl) ⟨⟨⟨0, rfl⟩, trivial⟩, ⟨⟨0, rfl⟩, ⟨1, rfl⟩, trivial⟩, trivial⟩ <| VA.done (by kernel_rfl) <| VN.meet0  [2] [] trivial ⟨rfl, ⟨rfl, rfl, trivial⟩, trivial, rfl, by decide, rfl, by decide⟩
            intro _
            refine VC.ret <| ?_
            simp only [Option.some.injEq, Prod.mk.injEq] at h
            obtain ⟨rfl, rfl, rfl, rfl, rfl, rfl, rfl, rfl⟩ := h
            exact VR.nilRow' 9 1 <| VR.nilRow' 56 2 <| VR.nilRow' 9 1 <| VR.nilRow' 9 1 <|
             VR.fn (rs := [.cell 6 27, .tmp 7]) [] [((.slice none 0 0), 9, 1, ([] : List ByteArray).map enc_str), ((.slice none 0 0), 56, 2, ([] : List S55).map enc55), ((.slice none 0 0), 9, 1, ([] : List ByteArray).map enc_str), ((.slice none 0 0), 9, 1, ([] : List ByteArray).map enc_str)] [3, 2, 1, 0] rfl (.cell 0 rfl rfl TI27 (fun h => absurd h (by decide)) (.tmp rfl .nil)) ⟨(.slice none 0 0), (.slice none 0 0), (.slice none 0 0), (.slice none 0 0), rfl, rfl, rfl⟩ trivial rfl (by decide)
          cases lF c1822 hb1816
          refine VC.join0 (⟨109, [(6, .pointer (some ⟨g797, 0, none⟩)), (7, .bool false)], [], [(g797, 27, [.slice none 0 0, .slice none 0 0, .int .i64 i1586, .int .i64 (wrap64 (bt a1 5)), .int .i64 i1805, .slice none 0 0, .slice none 0 0])], []⟩) (True) ?_ ?_
          · exact VC.draw ⟨0, [], [], [(g799, 27, [.slice none 0 0, .slice none 0 0, .int .i64 i1586, .int .i64 (wrap64 (bt a1 5)), .int .i64 i1805, .slice none 0 0, .slice none 0 0])], []⟩ (by kernel_rfl) rfl (by kernel_rfl) (n := 22) (listed := LB 22 0) <|
             aw 0 1 rfl (op_load 0 7 rfl rfl TI27 rfl (fun h => absurd h (by decide))) ⟨trivial, ⟨⟨1, rfl⟩, trivial⟩, trivial⟩ <| aw 1 3 rfl (mv rfl) ⟨trivial, ⟨⟨1, rfl⟩, trivial⟩, trivial⟩ <| aw 2 7 rfl (mv rfl) ⟨trivial, ⟨⟨1, rfl⟩, trivial⟩, trivial⟩ <|
             aU 3 15 rfl rfl ⟨trivial, ⟨⟨1, rfl⟩, trivial⟩, trivial⟩ <| aU 4 31 rfl rfl ⟨trivial, ⟨⟨1, rfl⟩, trivial⟩, trivial⟩ <| aU 5 63 rfl rfl ⟨trivial, ⟨⟨1, rfl⟩, trivial⟩, trivial⟩ <| aU 6 127 rfl rfl ⟨trivial, ⟨⟨1, rfl⟩, trivial⟩, trivial⟩ <| aU 7 255 rfl rfl ⟨trivial, ⟨⟨1, rfl⟩, trivial⟩, trivial⟩ <|
             aU 8 511 rfl rfl ⟨trivial, ⟨⟨1, rfl⟩, trivial⟩, trivial⟩ <| aU 9 1023 rfl rfl ⟨trivial, ⟨⟨1, rfl⟩, trivial⟩, trivial⟩ <| aw 10 2047 rfl (op_pick rfl rfl) ⟨trivial, ⟨⟨1, rfl⟩, trivial⟩, trivial⟩ <| aw 11 4095 rfl (mv rfl) ⟨trivial, ⟨⟨1, rfl⟩, trivial⟩, trivial⟩ <|
             aU 12 8191 rfl rfl ⟨trivial, ⟨⟨1, rfl⟩, trivial⟩, trivial⟩ <| aU 13 16383 rfl rfl ⟨trivial, ⟨⟨1, rfl⟩, trivial⟩, trivial⟩ <| aU 14 32767 rfl rfl ⟨trivial, ⟨⟨1, rfl⟩, trivial⟩, trivial⟩ <| aU 15 65535 rfl rfl ⟨trivial, ⟨⟨1, rfl⟩, trivial⟩, trivial⟩ <|
             aU 16 131071 rfl rfl ⟨trivial, ⟨⟨1, rfl⟩, trivial⟩, trivial⟩ <| aU 17 262143 rfl rfl ⟨trivial, ⟨⟨1, rfl⟩, trivial⟩, trivial⟩ <| aU 18 524287 rfl rfl ⟨trivial, ⟨⟨1, rfl⟩, trivial⟩, trivial⟩ <| aw 19 1048575 rfl (op_pick rfl rfl) ⟨trivial, ⟨⟨1, rfl⟩, trivial⟩, trivial⟩ <|
             VA.one1 (i := 20) (listed' := LB 22 2097151) (by kernel_rfl) rfl (o_store 2 7 rfl rfl rfl TI27 (.agg (.of rfl)) rfl (len rfl)) rfl (by kernel_rfl) ⟨trivial, ⟨⟨1, rfl⟩, trivial⟩, trivial⟩ <| aw 21 4194303 rfl (ag rfl) ⟨trivial, ⟨⟨1, rfl⟩, trivial⟩, trivial⟩ <| VA.done (by kernel_rfl) <|
             VN.meet0  [2] [] trivial ⟨rfl, ⟨rfl, rfl, trivial⟩, trivial, rfl, by decide, rfl, by decide⟩
          intro _
          refine VC.ret <| ?_
          simp only [Option.some.injEq, Prod.mk.injEq] at h
          obtain ⟨rfl, rfl, rfl, rfl, rfl, rfl, rfl, rfl⟩ := h
          exact VR.nilRow' 9 1 <| VR.nilRow' 56 2 <| VR.nilRow' 9 1 <| VR.nilRow' 9 1 <|
           VR.fn (rs := [.cell 6 27, .tmp 7]) [] [((.slice none 0 0), 9, 1, ([] : List ByteArray).map enc_str), ((.slice none 0 0), 56, 2, ([] : List S55).map enc55), ((.slice none 0 0), 9, 1, ([] : List ByteArray).map enc_str), ((.slice none 0 0), 9, 1, ([] : List ByteArray).map enc_str)] [3, 2, 1, 0] rfl (.cell 0 rfl rfl TI27 (fun h => absurd h (by decide)) (.tmp rfl .nil)) ⟨(.slice none 0 0), (.slice none 0 0), (.slice none 0 0), (.slice none 0 0), rfl, rfl, rfl⟩ trivial rfl (by decide)
        cases lF c1813 hb1812
        refine VC.join0 (⟨109, [(1, .string a1), (6, .pointer (some ⟨g797, 0, none⟩)), (7, .bool false), (9, .pointer (some ⟨g799, 0, none⟩)), (12, .bool false)], [], [(g799, 27, [.slice none 0 0, .slice none 0 0, .int .i64 i1586, .int .i64 (wrap64 (bt a1 5)), .int .i64 i1805, .slice none 0 0, .slice none 0 0]), (g797, 27, [.slice none 0 0, .slice none 0 0, .int .i64 0, .int .i64 0, .int .i64 0, .slice none 0 0, .slice none 0 0])], []⟩) (True) ?_ ?_
        · exact VC.draw ⟨0, [], [], [(g799, 27, [.slice none 0 0, .slice none 0 0, .int .i64 i1586, .int .i64 (wrap64 (bt a1 5)), .int .i64 i1805, .slice none 0 0, .slice none 0 0])], []⟩ (by kernel_rfl) rfl (by kernel_rfl) (n := 28) (listed := LB 28 0) <|
           av 0 1 rfl (op_fieldAddr FI27_1 rfl (add_at _ _ _)) <| av 1 3 rfl (op_load 0 1 rfl rfl TI3 rfl (by decide)) <| av 2 7 rfl (op_cmp rfl rfl (congrArg some hb1806)) <| av 3 15 rfl (mv rfl) <| av 4 31 rfl (op_fieldAddr FI27_1 rfl (add_at _ _ _)) <|
           av 5 63 rfl (op_load 0 1 rfl rfl TI3 rfl (by decide)) <| av 6 127 rfl (op_cmp rfl rfl (congrArg some hb1808)) <| av 7 255 rfl (op_pick rfl rfl) <| av 8 511 rfl (mv rfl) <| av 9 1023 rfl (op_fieldAddr FI27_1 rfl (add_at _ _ _)) <| av 10 2047 rfl (op_load 0 1 rfl rfl TI3 rfl (by decide)) <|
           av 11 4095 rfl (op_rem rfl rfl (by decide) rfl) <| av 12 8191 rfl (mv rfl) <| av 13 16383 rfl (op_cmp rfl rfl (congrArg some hb1810)) <| av 14 32767 rfl (op_pick rfl rfl) <| av 15 65535 rfl (mv rfl) <| av 16 131071 rfl (op_fieldAddr FI27_2 rfl (add_at _ _ _)) <|
           av 17 262143 rfl (op_load 0 1 rfl rfl TI3 rfl (by decide)) <| av 18 524287 rfl (op_cmp rfl rfl (congrArg some hb1812)) <| av 19 1048575 rfl (op_pick rfl rfl) <| av 20 2097151 rfl (mv rfl) <| au 21 4194303 rfl rfl <| au 22 8388607 rfl rfl <| au 23 16777215 rfl rfl <| au 24 33554431 rfl rfl <|
           au 25 67108863 rfl rfl <| av 26 134217727 rfl (op_pick rfl rfl) <| av 27 268435455 rfl (ag rfl) <| VA.done (by kernel_rfl) <| VN.meet0  [0, 1] [] trivial ⟨rfl, ⟨rfl, rfl, rfl, rfl, rfl, trivial⟩, trivial, rfl, by decide, rfl, by decide⟩
        intro _
        refine sr <| va (op_fieldAddr FI27_1 rfl (add_at _ _ _)) <| va (op_load 0 1 rfl rfl TI3 rfl (by decide)) <| va (op_fieldAddr FI27_2 rfl (add_at _ _ _)) <| va (op_load 0 1 rfl rfl TI3 rfl (by decide)) <| va (op_fieldAddr FI27_3 rfl (add_at _ _ _)) <| va (op_load 0 1 rfl rfl TI3 rfl (by decide)) <| ?_
        replace h := bd h
        obtain ⟨r1853, hA1854, h⟩ := h
        refine sC (o_call0 FO39 (journal_headOf.ok k i1586 (wrap64 (bt a1 5)) i1805 r1853 hA1854) rfl rfl (ltn rfl) (All_of .nil)) <| ?_
        rintro _ _ _ ⟨rfl, rfl, rfl⟩
        refine sG (o_alloc Z74 ZL74) fun g1855 => ?_
        replace h := iN h
        obtain ⟨c1856, h⟩ := h
        replace h := iN h
        obtain ⟨c1857, h⟩ := h
        refine s1 (o_storeA 0 rfl rfl rfl TI74 c1856 c1857) <| dt <|
         VC.join0 (⟨109, [(6, .pointer (some ⟨g797, 0, none⟩)), (7, .bool false)], [], [(g797, 27, [.slice none 0 0, .slice none 0 0, .int .i64 i1586, .int .i64 (wrap64 (bt a1 5)), .int .i64 i1805, .slice none 0 0, .slice none 0 0])], []⟩) (True) ?_ ?_
        · exact VC.draw ⟨0, [], [], [(g799, 27, [.slice none 0 0, .slice none 0 0, .int .i64 i1586, .int .i64 (wrap64 (bt a1 5)), .int .i64 i1805, .slice none 0 0, .slice none 0 0])], []⟩ (by kernel_rfl) rfl (by kernel_rfl) (n := 22) (listed := LB 22 0) <|
           aw 0 1 rfl (op_load 0 7 rfl rfl TI27 rfl (fun h => absurd h (by decide))) ⟨trivial, ⟨⟨1, rfl⟩, trivial⟩, trivial⟩ <| aw 1 3 rfl (mv rfl) ⟨trivial, ⟨⟨1, rfl⟩, trivial⟩, trivial⟩ <| aw 2 7 rfl (mv rfl) ⟨trivial, ⟨⟨1, rfl⟩, trivial⟩, trivial⟩ <|
           aU 3 15 rfl rfl ⟨trivial, ⟨⟨1, rfl⟩, trivial⟩, trivial⟩ <| aU 4 31 rfl rfl ⟨trivial, ⟨⟨1, rfl⟩, trivial⟩, trivial⟩ <| aU 5 63 rfl rfl ⟨trivial, ⟨⟨1, rfl⟩, trivial⟩, trivial⟩ <| aU 6 127 rfl rfl ⟨trivial, ⟨⟨1, rfl⟩, trivial⟩, trivial⟩ <| aU 7 255 rfl rfl ⟨trivial, ⟨⟨1, rfl⟩, trivial⟩, trivial⟩ <|
           aU 8 511 rfl rfl ⟨trivial, ⟨⟨1, rfl⟩, trivial⟩, trivial⟩ <| aU 9 1023 rfl rfl ⟨trivial, ⟨⟨1, rfl⟩, trivial⟩, trivial⟩ <| aw 10 2047 rfl (op_pick rfl rfl) ⟨trivial, ⟨⟨1, rfl⟩, trivial⟩, trivial⟩ <| aw 11 4095 rfl (mv rfl) ⟨trivial, ⟨⟨1, rfl⟩, trivial⟩, trivial⟩ <|
           aU 12 8191 rfl rfl ⟨trivial, ⟨⟨1, rfl⟩, trivial⟩, trivial⟩ <| aU 13 16383 rfl rfl ⟨trivial, ⟨⟨1, rfl⟩, trivial⟩, trivial⟩ <| aU 14 32767 rfl rfl ⟨trivial, ⟨⟨1, rfl⟩, trivial⟩, trivial⟩ <| aU 15 65535 rfl rfl ⟨trivial, ⟨⟨1, rfl⟩, trivial⟩, trivial⟩ <|
           aU 16 131071 rfl rfl ⟨trivial, ⟨⟨1, rfl⟩, trivial⟩, trivial⟩ <| aU 17 262143 rfl rfl ⟨trivial, ⟨⟨1, rfl⟩, trivial⟩, trivial⟩ <| aU 18 524287 rfl rfl ⟨trivial, ⟨⟨1, rfl⟩, trivial⟩, trivial⟩ <| aw 19 1048575 rfl (op_pick rfl rfl) ⟨trivial, ⟨⟨1, rfl⟩, trivial⟩, trivial⟩ <|
           VA.one1 (i := 20) (listed' := LB 22 2097151) (by kernel_rfl) rfl (o_store 2 7 rfl rfl rfl TI27 (.agg (.of rfl)) rfl (len rfl)) rfl (by kernel_rfl) ⟨trivial, ⟨⟨1, rfl⟩, trivial⟩, trivial⟩ <| aw 21 4194303 rfl (ag rfl) ⟨trivial, ⟨⟨1, rfl⟩, trivial⟩, trivial⟩ <| VA.done (by kernel_rfl) <|
           VN.meet0  [2] [] trivial ⟨rfl, ⟨rfl, rfl, trivial⟩, trivial, rfl, by decide, rfl, by decide⟩
        intro _
        refine VC.ret <| ?_
        simp only [Option.some.injEq, Prod.mk.injEq] at h
        obtain ⟨rfl, rfl, rfl, rfl, rfl, rfl, rfl, rfl⟩ := h
        exact VR.nilRow' 9 1 <| VR.nilRow' 56 2 <| VR.nilRow' 9 1 <| VR.nilRow' 9 1 <|
         VR.fn (rs := [.cell 6 27, .tmp 7]) [] [((.slice none 0 0), 9, 1, ([] : List ByteArray).map enc_str), ((.slice none 0 0), 56, 2, ([] : List S55).map enc55), ((.slice none 0 0), 9, 1, ([] : List ByteArray).map enc_str), ((.slice none 0 0), 9, 1, ([] : List ByteArray).map enc_str)] [3, 2, 1, 0] rfl (.cell 0 rfl rfl TI27 (fun h => absurd h (by decide)) (.tmp rfl .nil)) ⟨(.slice none 0 0), (.slice none 0 0), (.slice none 0 0), (.slice none 0 0), rfl, rfl, rfl⟩ trivial rfl (by decide)
      obtain rfl : b1810 = false := hb1810.symm.trans (beq_eq_false_iff_ne.2 c1811)
      refine VC.join0 (⟨109, [(1, .string a1), (6, .pointer (some ⟨g797, 0, none⟩)), (7, .bool false), (9, .pointer (some ⟨g799, 0, none⟩)), (12, .bool false)], [], [(g799, 27, [.slice none 0 0, .slice none 0 0, .int .i64 i1586, .int .i64 (wrap64 (bt a1 5)), .int .i64 i1805, .slice none 0 0, .slice none 0 0]), (g797, 27, [.slice none 0 0, .slice none 0 0, .int .i64 0, .int .i64 0, .int .i64 0, .slice none 0 0, .slice none 0 0])], []⟩) (True) ?_ ?_
      · exact VC.draw ⟨0, [], [], [(g799, 27, [.slice none 0 0, .slice none 0 0, .int .i64 i1586, .int .i64 (wrap64 (bt a1 5)), .int .i64 i1805, .slice none 0 0, .slice none 0 0])], []⟩ (by kernel_rfl) rfl (by kernel_rfl) (n := 28) (listed := LB 28 0) <|
         av 0 1 rfl (op_fieldAddr FI27_1 rfl (add_at _ _ _)) <| av 1 3 rfl (op_load 0 1 rfl rfl TI3 rfl (by decide)) <| av 2 7 rfl (op_cmp rfl rfl (congrArg some hb1806)) <| av 3 15 rfl (mv rfl) <| av 4 31 rfl (op_fieldAddr FI27_1 rfl (add_at _ _ _)) <|
         av 5 63 rfl (op_load 0 1 rfl rfl TI3 rfl (by decide)) <| av 6 127 rfl (op_cmp rfl rfl (congrArg some hb1808)) <| av 7 255 rfl (op_pick rfl rfl) <| av 8 511 rfl (mv rfl) <| av 9 1023 rfl (op_fieldAddr FI27_1 rfl (add_at _ _ _)) <| av 10 2047 rfl (op_load 0 1 rfl rfl TI3 rfl (by decide)) <|
         av 11 4095 rfl (op_rem rfl rfl (by decide) rfl) <| av 12 8191 rfl (mv rfl) <| av 13 16383 rfl (op_cmp rfl rfl (congrArg some hb1810)) <| av 14 32767 rfl (op_pick rfl rfl) <| av 15 65535 rfl (mv rfl) <| au 16 131071 rfl rfl <| au 17 262143 rfl rfl <| au 18 524287 rfl rfl <|
         av 19 1048575 rfl (op_pick rfl rfl) <| av 20 2097151 rfl (mv rfl) <| au 21 4194303 rfl rfl <| au 22 8388607 rfl rfl <| au 23 16777215 rfl rfl <| au 24 33554431 rfl rfl <| au 25 67108863 rfl rfl <| av 26 134217727 rfl (op_pick rfl rfl) <| av 27 268435455 rfl (ag rfl) <| VA.done (by kernel_rfl) <|
         VN.meet0  [0, 1] [] trivial ⟨rfl, ⟨rfl, rfl, rfl, rfl, rfl, trivial⟩, trivial, rfl, by decide, rfl, by decide⟩
      intro _
      refine sr <| va (op_fieldAddr FI27_1 rfl (add_at _ _ _)) <| va (op_load 0 1 rfl rfl TI3 rfl (by decide)) <| va (op_fieldAddr FI27_2 rfl (add_at _ _ _)) <| va (op_load 0 1 rfl rfl TI3 rfl (by decide)) <| va (op_fieldAddr FI27_3 rfl (add_at _ _ _)) <| va (op_load 0 1 rfl rfl TI3 rfl (by decide)) <| ?_
      replace h := bd h
      obtain ⟨r1862, hA1863, h⟩ := h
      refine sC (o_call0 FO39 (journal_headOf.ok k i1586 (wrap64 (bt a1 5)) i1805 r1862 hA1863) rfl rfl (ltn rfl) (All_of .nil)) <| ?_
      rintro _ _ _ ⟨rfl, rfl, rfl⟩
      refine sG (o_alloc Z74 ZL74) fun g1864 => ?_
      replace h := iN h
      obtain ⟨c1865, h⟩ := h
      replace h := iN h
      obtain ⟨c1866, h⟩ := h
      refine s1 (o_storeA 0 rfl rfl rfl TI74 c1865 c1866) <| dt <|
       VC.join0 (⟨109, [(6, .pointer (some ⟨g797, 0, none⟩)), (7, .bool false)], [], [(g797, 27, [.slice none 0 0, .slice none 0 0, .int .i64 i1586, .int .i64 (wrap64 (bt a1 5)), .int .i64 i1805, .slice none 0 0, .slice none 0 0])], []⟩) (True) ?_ ?_
      · exact VC.draw ⟨0, [], [], [(g799, 27, [.slice none 0 0, .slice none 0 0, .int .i64 i1586, .int .i64 (wrap64 (bt a1 5)), .int .i64 i1805, .slice none 0 0, .slice none 0 0])], []⟩ (by kernel_rfl) rfl (by kernel_rfl) (n := 22) (listed := LB 22 0) <|
         aw 0 1 rfl (op_load 0 7 rfl rfl TI27 rfl (fun h => absurd h (by decide))) ⟨trivial, ⟨⟨1, rfl⟩, trivial⟩, trivial⟩ <| aw 1 3 rfl (mv rfl) ⟨trivial, ⟨⟨1, rfl⟩, trivial⟩, trivial⟩ <| aw 2 7 rfl (mv rfl) ⟨trivial, ⟨⟨1, rfl⟩, trivial⟩, trivial⟩ <|
         aU 3 15 rfl rfl ⟨trivial, ⟨⟨1, rfl⟩, trivial⟩, trivial⟩ <| aU 4 31 rfl rfl ⟨trivial, ⟨⟨1, rfl⟩, trivial⟩, trivial⟩ <| aU 5 63 rfl rfl ⟨trivial, ⟨⟨1, rfl⟩, trivial⟩, trivial⟩ <| aU 6 127 rfl rfl ⟨trivial, ⟨⟨1, rfl⟩, trivial⟩, trivial⟩ <| aU 7 255 rfl rfl ⟨trivial, ⟨⟨1, rfl⟩, trivial⟩, trivial⟩ <|
         aU 8 511 rfl rfl ⟨trivial, ⟨⟨1, rfl⟩, trivial⟩, trivial⟩ <| aU 9 1023 rfl rfl ⟨trivial, ⟨⟨1, rfl⟩, trivial⟩, trivial⟩ <| aw 10 2047 rfl (op_pick rfl rfl) ⟨trivial, ⟨⟨1, rfl⟩, trivial⟩, trivial⟩ <| aw 11 4095 rfl (mv rfl) ⟨trivial, ⟨⟨1, rfl⟩, trivial⟩, trivial⟩ <|
         aU 12 8191 rfl rfl ⟨trivial, ⟨⟨1, rfl⟩, trivial⟩, trivial⟩ <| aU 13 16383 rfl rfl ⟨trivial, ⟨⟨1, rfl⟩, trivial⟩, trivial⟩ <| aU 14 32767 rfl rfl ⟨trivial, ⟨⟨1, rfl⟩, trivial⟩, trivial⟩ <| aU 15 65535 rfl rfl ⟨trivial, ⟨⟨1, rfl⟩, trivial⟩, trivial⟩ <|
         aU 16 131071 rfl rfl ⟨trivial, ⟨⟨1, rfl⟩, trivial⟩, trivial⟩ <| aU 17 262143 rfl rfl ⟨trivial, ⟨⟨1, rfl⟩, trivial⟩, trivial⟩ <| aU 18 524287 rfl rfl ⟨trivial, ⟨⟨1, rfl⟩, trivial⟩, trivial⟩ <| aw 19 1048575 rfl (op_pick rfl rfl) ⟨trivial, ⟨⟨1, rfl⟩, trivial⟩, trivial⟩ <|
         VA.one1 (i := 20) (listed' := LB 22 2097151) (by kernel_rfl) rfl (o_store 2 7 rfl rfl rfl TI27 (.agg (.of rfl)) rfl (len rfl)) rfl (by kernel_rfl) ⟨trivial, ⟨⟨1, rfl⟩, trivial⟩, trivial⟩ <| aw 21 4194303 rfl (ag rfl) ⟨trivial, ⟨⟨1, rfl⟩, trivial⟩, trivial⟩ <| VA.done (by kernel_rfl) <|
         VN.meet0  [2] [] trivial ⟨rfl, ⟨rfl, rfl, trivial⟩, trivial, rfl, by decide, rfl, by decide⟩
      intro _
      refine VC.ret <| ?_
      simp only [Option.some.injEq, Prod.mk.injEq] at h
      obtain ⟨rfl, rfl, rfl, rfl, rfl, rfl, rfl, rfl⟩ := h
      exact VR.nilRow' 9 1 <| VR.nilRow' 56 2 <| VR.nilRow' 9 1 <| VR.nilRow' 9 1 <|
       VR.fn (rs := [.cell 6 27, .tmp 7]) [] [((.slice none 0 0), 9, 1, ([] : List ByteArray).map enc_str), ((.slice none 0 0), 56, 2, ([] : List S55).map enc55), ((.slice none 0 0), 9, 1, ([] : List ByteArray).map enc_str), ((.slice none 0 0), 9, 1, ([] : List ByteArray).map enc_str)] [3, 2, 1, 0] rfl (.cell 0 rfl rfl TI27 (fun h => absurd h (by decide)) (.tmp rfl .nil)) ⟨(.slice none 0 0), (.slice none 0 0), (.slice none 0 0), (.slice none 0 0), rfl, rfl, rfl⟩ trivial rfl (by decide)
    cases lF c1809 hb1808
    refine VC.join0 (⟨109, [(1, .string a1), (6, .pointer (some ⟨g797, 0, none⟩)), (7, .bool false), (9, .pointer (some ⟨g799, 0, none⟩)), (12, .bool false)], [], [(g799, 27, [.slice none 0 0, .slice none 0 0, .int .i64 i1586, .int .i64 (wrap64 (bt a1 5)), .int .i64 i1805, .slice none 0 0, .slice none 0 0]), (g797, 27, [.slice none 0 0, .slice none 0 0, .int .i64 0, .int .i64 0, .int .i64 0, .slice none 0 0, .slice none 0 0])], []⟩) (True) ?_ ?_
    · exact VC.draw ⟨0, [], [], [(g799, 27, [.slice none 0 0, .slice none 0 0, .int .i64 i1586, .int .i64 (wrap64 (bt a1 5)), .int .i64 i1805, .slice none 0 0, .slice none 0 0])], []⟩ (by kernel_rfl) rfl (by kernel_rfl) (n := 28) (listed := LB 28 0) <|
       av 0 1 rfl (op_fieldAddr FI27_1 rfl (add_at _ _ _)) <| av 1 3 rfl (op_load 0 1 rfl rfl TI3 rfl (by decide)) <| av 2 7 rfl (op_cmp rfl rfl (congrArg some hb1806)) <| av 3 15 rfl (mv rfl) <| av 4 31 rfl (op_fieldAddr FI27_1 rfl (add_at _ _ _)) <|
       av 5 63 rfl (op_load 0 1 rfl rfl TI3 rfl (by decide)) <| av 6 127 rfl (op_cmp rfl rfl (congrArg some hb1808)) <| av 7 255 rfl (op_pick rfl rfl) <| av 8 511 rfl (mv rfl) <| au 9 1023 rfl rfl <| au 10 2047 rfl rfl <| au 11 4095 rfl rfl <| au 12 8191 rfl rfl <| au 13 16383 rfl rfl <|
       av 14 32767 rfl (op_pick rfl rfl) <| av 15 65535 rfl (mv rfl) <| au 16 131071 rfl rfl <| au 17 262143 rfl rfl <| au 18 524287 rfl rfl <| av 19 1048575 rfl (op_pick rfl rfl) <| av 20 2097151 rfl (mv rfl) <| au 21 4194303 rfl rfl <| au 22 8388607 rfl rfl <| au 23 16777215 rfl rfl <|
       au 24 33554431 rfl rfl <| au 25 67108863 rfl rfl <| av 26 134217727 rfl (op_pick rfl rfl) <| av 27 268435455 rfl (ag rfl) <| VA.done (by kernel_rfl) <| VN.meet0  [0, 1] [] trivial ⟨rfl, ⟨rfl, rfl, rfl, rfl, rfl, trivial⟩, trivial, rfl, by decide, rfl, by decide⟩
    intro _
    refine sr <| va (op_fieldAddr FI27_1 rfl (add_at _ _ _)) <| va (op_load 0 1 rfl rfl TI3 rfl (by decide)) <| va (op_fieldAddr FI27_2 rfl (add_at _ _ _)) <| va (op_load 0 1 rfl rfl TI3 rfl (by decide)) <| va (op_fieldAddr FI27_3 rfl (add_at _ _ _)) <| va (op_load 0 1 rfl rfl TI3 rfl (by decide)) <| ?_
    replace h := bd h
    obtain ⟨r1871, hA1872, h⟩ := h
    refine sC (o_call0 FO39 (journal_headOf.ok k i1586 (wrap64 (bt a1 5)) i1805 r1871 hA1872) rfl rfl (ltn rfl) (All_of .nil)) <| ?_
    rintro _ _ _ ⟨rfl, rfl, rfl⟩
    refine sG (o_alloc Z74 ZL74) fun g1873 => ?_
    replace h := iN h
    obtain ⟨c1874, h⟩ := h
    replace h := iN h
    obtain ⟨c1875, h⟩ := h
    refine s1 (o_storeA 0 rfl rfl rfl TI74 c1874 c1875) <| dt <|
     VC.join0 (⟨109, [(6, .pointer (some ⟨g797, 0, none⟩)), (7, .bool false)], [], [(g797, 27, [.slice none 0 0, .slice none 0 0, .int .i64 i1586, .int .i64 (wrap64 (bt a1 5)), .int .i64 i1805, .slice none 0 0, .slice none 0 0])], []⟩) (True) ?_ ?_
    · exact VC.draw ⟨0, [], [], [(g799, 27, [.slice none 0 0, .slice none 0 0, .int .i64 i1586, .int .i64 (wrap64 (bt a1 5)), .int .i64 i1805, .slice none 0 0, .slice none 0 0])], []⟩ (by kernel_rfl) rfl (by kernel_rfl) (n := 22) (listed := LB 22 0) <|
       aw 0 1 rfl (op_load 0 7 rfl rfl TI27 rfl (fun h => absurd h (by decide))) ⟨trivial, ⟨⟨1, rfl⟩, trivial⟩, trivial⟩ <| aw 1 3 rfl (mv rfl) ⟨trivial, ⟨⟨1, rfl⟩, trivial⟩, trivial⟩ <| aw 2 7 rfl (mv rfl) ⟨trivial, ⟨⟨1, rfl⟩, trivial⟩, trivial⟩ <|
       aU 3 15 rfl rfl ⟨trivial, ⟨⟨1, rfl⟩, trivial⟩, trivial⟩ <| aU 4 31 rfl rfl ⟨trivial, ⟨⟨1, rfl⟩, trivial⟩, trivial⟩ <| aU 5 63 rfl rfl ⟨trivial, ⟨⟨1, rfl⟩, trivial⟩, trivial⟩ <| aU 6 127 rfl rfl ⟨trivial, ⟨⟨1, rfl⟩, trivial⟩, trivial⟩ <| aU 7 255 rfl rfl ⟨trivial, ⟨⟨1, rfl⟩, trivial⟩, trivial⟩ <|
       aU 8 511 rfl rfl ⟨trivial, ⟨⟨1, rfl⟩, trivial⟩, trivial⟩ <| aU 9 1023 rfl rfl ⟨trivial, ⟨⟨1, rfl⟩, trivial⟩, trivial⟩ <| aw 10 2047 rfl (op_pick rfl rfl) ⟨trivial, ⟨⟨1, rfl⟩, trivial⟩, trivial⟩ <| aw 11 4095 rfl (mv rfl) ⟨trivial, ⟨⟨1, rfl⟩, trivial⟩, trivial⟩ <|
       aU 12 8191 rfl rfl ⟨trivial, ⟨⟨1, rfl⟩, trivial⟩, trivial⟩ <| aU 13 16383 rfl rfl ⟨trivial, ⟨⟨1, rfl⟩, trivial⟩, trivial⟩ <| aU 14 32767 rfl rfl ⟨trivial, ⟨⟨1, rfl⟩, trivial⟩, trivial⟩ <| aU 15 65535 rfl rfl ⟨trivial, ⟨⟨1, rfl⟩, trivial⟩, trivial⟩ <|
       aU 16 131071 rfl rfl ⟨trivial, ⟨⟨1, rfl⟩, trivial⟩, trivial⟩ <| aU 17 262143 rfl rfl ⟨trivial, ⟨⟨1, rfl⟩, trivial⟩, trivial⟩ <| aU 18 524287 rfl rfl ⟨trivial, ⟨⟨1, rfl⟩, trivial⟩, trivial⟩ <| aw 19 1048575 rfl (op_pick rfl rfl) ⟨trivial, ⟨⟨1, rfl⟩, trivial⟩, trivial⟩ <|
       VA.one1 (i := 20) (listed' := LB 22 2097151) (by kernel_rfl) rfl (o_store 2 7 rfl rfl rfl TI27 (.agg (.of rfl)) rfl (len rfl)) rfl (by kernel_rfl) ⟨trivial, ⟨⟨1, rfl⟩, trivial⟩, trivial⟩ <| aw 21 4194303 rfl (ag rfl) ⟨trivial, ⟨⟨1, rfl⟩, trivial⟩, trivial⟩ <| VA.done (by kernel_rfl) <|
       VN.meet0  [2] [] trivial ⟨rfl, ⟨rfl, rfl, trivial⟩, trivial, rfl, by decide, rfl, by decide⟩
    intro _
    refine VC.ret <| ?_
    simp only [Option.some.injEq, Prod.mk.injEq] at h
    obtain ⟨rfl, rfl, rfl, rfl, rfl, rfl, rfl, rfl⟩ := h
    exact VR.nilRow' 9 1 <| VR.nilRow' 56 2 <| VR.nilRow' 9 1 <| VR.nilRow' 9 1 <|
     VR.fn (rs := [.cell 6 27, .tmp 7]) [] [((.slice none 0 0), 9, 1, ([] : List ByteArray).map enc_str), ((.slice none 0 0), 56, 2, ([] : List S55).map enc55), ((.slice none 0 0), 9, 1, ([] : List ByteArray).map enc_str), ((.slice none 0 0), 9, 1, ([] : List ByteArray).map enc_str)] [3, 2, 1, 0] rfl (.cell 0 rfl rfl TI27 (fun h => absurd h (by decide)) (.tmp rfl .nil)) ⟨(.slice none 0 0), (.slice none 0 0), (.slice none 0 0), (.slice none 0 0), rfl, rfl, rfl⟩ trivial rfl (by decide)
  cases lF c1807 hb1806
  refine VC.join0 (⟨109, [(1, .string a1), (6, .pointer (some ⟨g797, 0, none⟩)), (7, .bool false), (9, .pointer (some ⟨g799, 0, none⟩)), (12, .bool false)], [], [(g799, 27, [.slice none 0 0, .slice none 0 0, .int .i64 i1586, .int .i64 (wrap64 (bt a1 5)), .int .i64 i1805, .slice none 0 0, .slice none 0 0]), (g797, 27, [.slice none 0 0, .slice none 0 0, .int .i64 0, .int .i64 0, .int .i64 0, .slice none 0 0, .slice none 0 0])], []⟩) (True) ?_ ?_
  · exact VC.draw ⟨0, [], [], [(g799, 27, [.slice none 0 0, .slice none 0 0, .int .i64 i1586, .int .i64 (wrap64 (bt a1 5)), .int .i64 i1805, .slice none 0 0, .slice none 0 0])], []⟩ (by kernel_rfl) rfl (by kernel_rfl) (n := 28) (listed := LB 28 0) <|
     av 0 1 rfl (op_fieldAddr FI27_1 rfl (add_at _ _ _)) <| av 1 3 rfl (op_load 0 1 rfl rfl TI3 rfl (by decide)) <| av 2 7 rfl (op_cmp rfl rfl (congrArg some hb1806)) <| av 3 15 rfl (mv rfl) <| au 4 31 rfl rfl <| au 5 63 rfl rfl <| au 6 127 rfl rfl <| av 7 255 rfl (op_pick rfl rfl) <|
     av 8 511 rfl (mv rfl) <| au 9 1023 rfl rfl <| au 10 2047 rfl rfl <| au 11 4095 rfl rfl <| au 12 8191 rfl rfl <| au 13 16383 rfl rfl <| av 14 32767 rfl (op_pick rfl rfl) <| av 15 65535 rfl (mv rfl) <| au 16 131071 rfl rfl <| au 17 262143 rfl rfl <| au 18 524287 rfl rfl <|
     av 19 1048575 rfl (op_pick rfl rfl) <| av 20 2097151 rfl (mv rfl) <| au 21 4194303 rfl rfl <| au 22 8388607 rfl rfl <| au 23 16777215 rfl rfl <| au 24 33554431 rfl rfl <| au 25 67108863 rfl rfl <| av 26 134217727 rfl (op_pick rfl rfl) <| av 27 268435455 rfl (ag rfl) <| VA.done (by kernel_rfl) <|
     VN.meet0  [0, 1] [] trivial ⟨rfl, ⟨rfl, rfl, rfl, rfl, rfl, trivial⟩, trivial, rfl, by decide, rfl, by decide⟩
  intro _
  refine sr <| va (op_fieldAddr FI27_1 rfl (add_at _ _ _)) <| va (op_load 0 1 rfl rfl TI3 rfl (by decide)) <| va (op_fieldAddr FI27_2 rfl (add_at _ _ _)) <| va (op_load 0 1 rfl rfl TI3 rfl (by decide)) <| va (op_fieldAddr FI27_3 rfl (add_at _ _ _)) <| va (op_load 0 1 rfl rfl TI3 rfl (by decide)) <| ?_
  replace h := bd h
  obtain ⟨r1880, hA1881, h⟩ := h
  refine sC (o_call0 FO39 (journal_headOf.ok k i1586 (wrap64 (bt a1 5)) i1805 r1880 hA1881) rfl rfl (ltn rfl) (All_of .nil)) <| ?_
  rintro _ _ _ ⟨rfl, rfl, rfl⟩
  refine sG (o_alloc Z74 ZL74) fun g1882 => ?_
  replace h := iN h
  obtain ⟨c1883, h⟩ := h
  replace h := iN h
  obtain ⟨c1884, h⟩ := h
  refine s1 (o_storeA 0 rfl rfl rfl TI74 c1883 c1884) <| dt <|
   VC.join0 (⟨109, [(6, .pointer (some ⟨g797, 0, none⟩)), (7, .bool false)], [], [(g797, 27, [.slice none 0 0, .slice none 0 0, .int .i64 i1586, .int .i64 (wrap64 (bt a1 5)), .int .i64 i1805, .slice none 0 0, .slice none 0 0])], []⟩) (True) ?_ ?_
  · exact VC.draw ⟨0, [], [], [(g799, 27, [.slice none 0 0, .slice none 0 0, .int .i64 i1586, .int .i64 (wrap64 (bt a1 5)), .int .i64 i1805, .slice none 0 0, .slice none 0 0])], []⟩ (by kernel_rfl) rfl (by kernel_rfl) (n := 22) (listed := LB 22 0) <|
     aw 0 1 rfl (op_load 0 7 rfl rfl TI27 rfl (fun h => absurd h (by decide))) ⟨trivial, ⟨⟨1, rfl⟩, trivial⟩, trivial⟩ <| aw 1 3 rfl (mv rfl) ⟨trivial, ⟨⟨1, rfl⟩, trivial⟩, trivial⟩ <| aw 2 7 rfl (mv rfl) ⟨trivial, ⟨⟨1, rfl⟩, trivial⟩, trivial⟩ <|
     aU 3 15 rfl rfl ⟨trivial, ⟨⟨1, rfl⟩, trivial⟩, trivial⟩ <| aU 4 31 rfl rfl ⟨trivial, ⟨⟨1, rfl⟩, trivial⟩, trivial⟩ <| aU 5 63 rfl rfl ⟨trivial, ⟨⟨1, rfl⟩, trivial⟩, trivial⟩ <| aU 6 127 rfl rfl ⟨trivial, ⟨⟨1, rfl⟩, trivial⟩, trivial⟩ <| aU 7 255 rfl rfl ⟨trivial, ⟨⟨1, rfl⟩, trivial⟩, trivial⟩ <|
     aU 8 511 rfl rfl ⟨trivial, ⟨⟨1, rfl⟩, trivial⟩, trivial⟩ <| aU 9 1023 rfl rfl ⟨trivial, ⟨⟨1, rfl⟩, trivial⟩, trivial⟩ <| aw 10 2047 rfl (op_pick rfl rfl) ⟨trivial, ⟨⟨1, rfl⟩, trivial⟩, trivial⟩ <| aw 11 4095 rfl (mv rfl) ⟨trivial, ⟨⟨1, rfl⟩, trivial⟩, trivial⟩ <|
     aU 12 8191 rfl rfl ⟨trivial, ⟨⟨1, rfl⟩, trivial⟩, trivial⟩ <| aU 13 16383 rfl rfl ⟨trivial, ⟨⟨1, rfl⟩, trivial⟩, trivial⟩ <| aU 14 32767 rfl rfl ⟨trivial, ⟨⟨1, rfl⟩, trivial⟩, trivial⟩ <| aU 15 65535 rfl rfl ⟨trivial, ⟨⟨1, rfl⟩, trivial⟩, trivial⟩ <|
     aU 16 131071 rfl rfl ⟨trivial, ⟨⟨1, rfl⟩, trivial⟩, trivial⟩ <| aU 17 262143 rfl rfl ⟨trivial, ⟨⟨1, rfl⟩, trivial⟩, trivial⟩ <| aU 18 524287 rfl rfl ⟨trivial, ⟨⟨1, rfl⟩, trivial⟩, trivial⟩ <| aw 19 1048575 rfl (op_pick rfl rfl) ⟨trivial, ⟨⟨1, rfl⟩, trivial⟩, trivial⟩ <|
     VA.one1 (i := 20) (listed' := LB 22 2097151) (by kernel_rfl) rfl (o_store 2 7 rfl rfl rfl TI27 (.agg (.of rfl)) rfl (len rfl)) rfl (by kernel_rfl) ⟨trivial, ⟨⟨1, rfl⟩, trivial⟩, trivial⟩ <| aw 21 4194303 rfl (ag rfl) ⟨trivial, ⟨⟨1, rfl⟩, trivial⟩, trivial⟩ <| VA.done (by kernel_rfl) <|
     VN.meet0  [2] [] trivial ⟨rfl, ⟨rfl, rfl, trivial⟩, trivial, rfl, by decide, rfl, by decide⟩
  intro _
  refine VC.ret <| ?_
  simp only [Option.some.injEq, Prod.mk.injEq] at h
  obtain ⟨rfl, rfl, rfl, rfl, rfl, rfl, rfl, rfl⟩ := h
  exact VR.nilRow' 9 1 <| VR.nilRow' 56 2 <| VR.nilRow' 9 1 <| VR.nilRow' 9 1 <|
   VR.fn (rs := [.cell 6 27, .tmp 7]) [] [((.slice none 0 0), 9, 1, ([] : List ByteArray).map enc_str), ((.slice none 0 0), 56, 2, ([] : List S55).map enc55), ((.slice none 0 0), 9, 1, ([] : List ByteArray).map enc_str), ((.slice none 0 0), 9, 1, ([] : List ByteArray).map enc_str)] [3, 2, 1, 0] rfl (.cell 0 rfl rfl TI27 (fun h => absurd h (by decide)) (.tmp rfl .nil)) ⟨(.slice none 0 0), (.slice none 0 0), (.slice none 0 0), (.slice none 0 0), rfl, rfl, rfl⟩ trivial rfl (by decide)

end Go.Proofs.Ytipeglbeongfmaa.PJournalKeeps
