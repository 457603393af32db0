/- Written by a program of this repo: what the program's functions do, each as a Lean function, shown of the loaded code; or a statement's row over that; no condition of its own. -/
import Derived.Test.YtipeglbeongfmaaGreatPJournalCrashesx2
namespace Go.Proofs.YtipeglbeongfmaaGreat.PJournalCrashes
open Go Go.RowKit Go.Proofs.YtipeglbeongfmaaGreatV
set_option linter.unusedVariables false
set_option linter.unusedSimpArgs false
set_option maxHeartbeats 4000000
set_option maxRecDepth 100000

theorem journal_read.ok (k : Nat) (a0 : Int) (a1 : ByteArray) (a2 : Int)  (r1 : List ByteArray) (r2 : List S71) (r3 : Int) (r4 : Int) (r5 : Int) (r6 : List ByteArray) (r7 : List ByteArray) (r8 : Bool) (h : journal_read.f k a0 a1 a2 = some (r1, r2, r3, r4, r5, r6, r7, r8)) :
    VCalls Tryz.prog 67 [iv a0, .string a1, iv a2] [] (fun v G own => ∃ w0 w1 w5 w6 : Value, v = .tuple #[.agg #[w0, w1, iv r3, iv r4, iv r5, w5, w6], .bool r8] ∧ G = [] ∧ own = [(w0, 9, 1, r1.map enc_str), (w1, 72, 2, r2.map enc71), (w5, 9, 1, r6.map enc_str), (w6, 9, 1, r7.map enc_str)]) := by
  refine VCalls.intro Tryz.func67 rfl (len rfl) fun E hC hW hD hU => ?_
  unfold journal_read.f at h
  refine sr <| sG (o_alloc Z27 ZL27) fun g795 => vs rfl <| nx <| vs rfl <| nx <| vm rfl <| vm rfl <| ?_
  replace h := iN h
  obtain ⟨c796, h⟩ := h
  refine va (op_indexS Tryz.underlying9 rfl rfl (by decide) c796 rfl) <| va (op_conv Tryz.underlying5 Tryz.underlying3 rfl (i64w _)) <|
   va (op_build (vals := [(2, iv (wrap64 (bt a1 5)))]) (vcs := [(2, [iv (wrap64 (bt a1 5))])]) (cells := [sn, sn, iv 0, iv (wrap64 (bt a1 5)), iv 0, sn, sn]) SI27 rfl (.cons ⟨rfl, (.c rfl)⟩ .nil) (by kernel_rfl)) <|
   sG (o_alloc Z27 ZL27) fun g797 => s1 (o_store 0 7 rfl rfl rfl TI27 (.agg (.of rfl)) rfl (len rfl)) <| dt <|
   VC.join1 (fun (i1584 : Int) => ⟨109, [(0, iv a0), (1, .string a1), (2, iv a2), (6, pt g795 0), (7, .bool false), (8, iv 5), (9, pt g797 0)], [], [(g797, 27, [sn, sn, iv i1584, iv (wrap64 (bt a1 5)), iv 0, sn, sn]), (g795, 27, [sn, sn, iv 0, iv 0, iv 0, sn, sn])], []⟩) (fun (i1584 : Int) => journal_read.j10 k a0 a1 a2 i1584 = some (r1, r2, r3, r4, r5, r6, r7, r8)) ?_ ?_
  · refine sr <| vm rfl <| dt <| VC.block <| VC.loop2 (fun (i1570 : Int) (i1571 : Int) => ⟨109, [(0, iv a0), (1, .string a1), (2, iv a2), (6, pt g795 0), (7, .bool false), (8, iv 5), (9, pt g797 0), (19, iv i1570)], [], [(g797, 27, [sn, sn, iv i1571, iv (wrap64 (bt a1 5)), iv 0, sn, sn]), (g795, 27, [sn, sn, iv 0, iv 0, iv 0, sn, sn])], []⟩) (fun (ml11 : Nat) (i1570 : Int) (i1571 : Int) => journal_read.l11 k a0 a1 a2 ml11 i1570 i1571 = some (r1, r2, r3, r4, r5, r6, r7, r8)) k 0 0 [0, 1] [] h ⟨rfl, ⟨rfl, rfl, rfl, rfl, rfl, rfl, rfl, rfl, trivial⟩, trivial, rfl, by decide, rfl, by decide⟩ (by intros; simp [journal_read.l11]) <|
     ?_
    clear h
    intro ml11 ihl11 i1570 i1571 h
    simp only [journal_read.l11] at h
    refine sr <| VL.letter (decide (i1570 < 8)) fun b1578 hb1578 => va (op_cmp rfl rfl (congrArg some hb1578)) <| ds <| ?_
    replace h := iC h
    rcases h with ⟨c1580, h⟩ | ⟨c1580, h⟩
    · cases lT c1580 hb1578
      refine ct <| sk <| sq <| VC.block <| sr <| vm rfl <| vs rfl <| dt <| ?_
      replace h := iN h
      obtain ⟨c1581, h⟩ := h
      replace h := iN h
      obtain ⟨c1582, h⟩ := h
      replace h := iN h
      obtain ⟨c1583, h⟩ := h
      refine VC.stop0 (⟨109, [(0, iv a0), (1, .string a1), (2, iv a2), (6, pt g795 0), (7, .bool false), (8, iv 5), (9, pt g797 0), (10, iv i1570), (19, iv i1570), (20, .bool true), (21, iv i1570), (22, pt g797 2), (23, iv i1571), (24, .string a1), (25, iv 5), (26, iv (wrap64 (5 + 1))), (27, iv i1570), (28, iv (wrap64 ((wrap64 (5 + 1)) + i1570))), (29, .int .u8 (bt a1 (wrap64 ((wrap64 (5 + 1)) + i1570)))), (30, iv (wrap64 (bt a1 (wrap64 ((wrap64 (5 + 1)) + i1570))))), (31, iv i1570), (32, iv (wrap64 (8 * i1570))), (33, iv (IntKind.i64.wrap ((wrap64 (bt a1 (wrap64 ((wrap64 (5 + 1)) + i1570)))) * 2 ^ min (wrap64 (8 * i1570)).toNat IntKind.i64.bits))), (34, iv (Go.bits .or .i64 i1571 (IntKind.i64.wrap ((wrap64 (bt a1 (wrap64 ((wrap64 (5 + 1)) + i1570)))) * 2 ^ min (wrap64 (8 * i1570)).toNat IntKind.i64.bits)))), (35, pt g797 2)], [], [(g797, 27, [sn, sn, iv (Go.bits .or .i64 i1571 (IntKind.i64.wrap ((wrap64 (bt a1 (wrap64 ((wrap64 (5 + 1)) + i1570)))) * 2 ^ min (wrap64 (8 * i1570)).toNat IntKind.i64.bits))), iv (wrap64 (bt a1 5)), iv 0, sn, sn]), (g795, 27, [sn, sn, iv 0, iv 0, iv 0, sn, sn])], []⟩) (True) ?_ ?_
      · exact VC.drawB ⟨0, [], [], [], []⟩ [14] ⟨0, [], [], [(g797, 27, [sn, sn, iv i1571, iv (wrap64 (bt a1 5)), iv 0, sn, sn])], []⟩ (by kernel_rfl) rfl (by kernel_rfl) (n := 15) (listed := LB 15 0) <|
         bv 0 1 rfl (op_fieldAddr FI27_1 rfl (add_at _ _ _)) <|
         VB.vb (i := 1) (listed' := LB 15 3) rfl (op_load 0 1 rfl rfl TI3 rfl (by decide)) rfl (by kernel_rfl) (by kernel_rfl) (by kernel_rfl) (by kernel_rfl) (by kernel_rfl) (by kernel_rfl) (PartP.on ⟨trivial, trivial, trivial⟩ ⟨trivial, ⟨⟨0, rfl⟩, trivial⟩, trivial⟩) (fun _ _ _ h => h) <|
         bv 2 7 rfl (mv rfl) <| bv 3 15 rfl (mv rfl) <| bv 4 31 rfl (op_ari64 rfl rfl rfl) <| bv 5 63 rfl (mv rfl) <| bv 6 127 rfl (op_ari64 rfl rfl rfl) <| bv 7 255 rfl (op_indexS Tryz.underlying9 rfl rfl c1581 c1582 rfl) <| bv 8 511 rfl (op_conv Tryz.underlying5 Tryz.underlying3 rfl (i64w _)) <|
         bv 9 1023 rfl (mv rfl) <| bv 10 2047 rfl (op_ari64 rfl rfl rfl) <| bv 11 4095 rfl (op_shl rfl rfl c1583 rfl) <| bv 12 8191 rfl (op_bits rfl rfl rfl) <| bv 13 16383 rfl (op_fieldAddr FI27_1 rfl (add_at _ _ _)) <|
         VB.one1 (i := 14) (listed' := LB 15 32767) (by kernel_rfl) rfl (o_store 0 1 rfl rfl rfl TI3 (.c rfl) rfl (len rfl)) rfl (by kernel_rfl) (PartP.off (by kernel_rfl) ⟨trivial, trivial, trivial⟩) <| VB.done (by kernel_rfl) <| VN.meet0 [0, 1] [] trivial
      intro _
      refine VN.block <| tr <| va (op_ari64 rfl rfl rfl) <| vm rfl <| dn <| VN.again [0, 1] [] (ihl11 (wrap64 (i1570 + 1)) (Go.bits .or .i64 i1571 (IntKind.i64.wrap ((wrap64 (bt a1 (wrap64 ((wrap64 (5 + 1)) + i1570)))) * 2 ^ min (wrap64 (8 * i1570)).toNat IntKind.i64.bits))) h)
    cases lF c1580 hb1578
    refine cf <| VC.exit <| VX.then <| VX.then <| VX.hit <| VN.meet1 i1571 [0, 1] [] h
  clear h
  intro i1584 h
  unfold journal_read.j10 at h
  refine VC.join1 (fun (i1803 : Int) => ⟨109, [(0, iv a0), (1, .string a1), (2, iv a2), (6, pt g795 0), (7, .bool false), (9, pt g797 0)], [], [(g797, 27, [sn, sn, iv i1584, iv (wrap64 (bt a1 5)), iv i1803, sn, sn]), (g795, 27, [sn, sn, iv 0, iv 0, iv 0, sn, sn])], []⟩) (fun (i1803 : Int) => journal_read.j14 k a0 a1 a2 i1584 i1803 = some (r1, r2, r3, r4, r5, r6, r7, r8)) ?_ ?_
  · refine sr <| vm rfl <| dt <| VC.block <| VC.loop2 (fun (i1789 : Int) (i1790 : Int) => ⟨109, [(0, iv a0), (1, .string a1), (2, iv a2), (6, pt g795 0), (7, .bool false), (8, iv 5), (9, pt g797 0), (37, iv i1789)], [], [(g797, 27, [sn, sn, iv i1584, iv (wrap64 (bt a1 5)), iv i1790, sn, sn]), (g795, 27, [sn, sn, iv 0, iv 0, iv 0, sn, sn])], []⟩) (fun (ml15 : Nat) (i1789 : Int) (i1790 : Int) => journal_read.l15 k a0 a1 a2 i1584 ml15 i1789 i1790 = some (r1, r2, r3, r4, r5, r6, r7, r8)) k 0 0 [0, 1] [] h ⟨rfl, ⟨rfl, rfl, rfl, rfl, rfl, rfl, rfl, rfl, trivial⟩, trivial, rfl, by decide, rfl, by decide⟩ (by intros; simp [journal_read.l15]) <|
     ?_
    clear h
    intro ml15 ihl15 i1789 i1790 h
    simp only [journal_read.l15] at h
    refine sr <| VL.letter (decide (i1789 < 4)) fun b1797 hb1797 => va (op_cmp rfl rfl (congrArg some hb1797)) <| ds <| ?_
    replace h := iC h
    rcases h with ⟨c1799, h⟩ | ⟨c1799, h⟩
    · cases lT c1799 hb1797
      refine ct <| sk <| sq <| VC.block <| sr <| vm rfl <| vs rfl <| dt <| ?_
      replace h := iN h
      obtain ⟨c1800, h⟩ := h
      replace h := iN h
      obtain ⟨c1801, h⟩ := h
      replace h := iN h
      obtain ⟨c1802, h⟩ := h
      refine VC.stop0 (⟨109, [(0, iv a0), (1, .string a1), (2, iv a2), (6, pt g795 0), (7, .bool false), (8, iv 5), (9, pt g797 0), (11, iv i1789), (37, iv i1789), (38, .bool true), (39, iv i1789), (40, pt g797 4), (41, iv i1790), (42, .string a1), (43, iv 5), (44, iv (wrap64 (5 + 9))), (45, iv i1789), (46, iv (wrap64 ((wrap64 (5 + 9)) + i1789))), (47, .int .u8 (bt a1 (wrap64 ((wrap64 (5 + 9)) + i1789)))), (48, iv (wrap64 (bt a1 (wrap64 ((wrap64 (5 + 9)) + i1789))))), (49, iv i1789), (50, iv (wrap64 (8 * i1789))), (51, iv (IntKind.i64.wrap ((wrap64 (bt a1 (wrap64 ((wrap64 (5 + 9)) + i1789)))) * 2 ^ min (wrap64 (8 * i1789)).toNat IntKind.i64.bits))), (52, iv (Go.bits .or .i64 i1790 (IntKind.i64.wrap ((wrap64 (bt a1 (wrap64 ((wrap64 (5 + 9)) + i1789)))) * 2 ^ min (wrap64 (8 * i1789)).toNat IntKind.i64.bits)))), (53, pt g797 4)], [], [(g797, 27, [sn, sn, iv i1584, iv (wrap64 (bt a1 5)), iv (Go.bits .or .i64 i1790 (IntKind.i64.wrap ((wrap64 (bt a1 (wrap64 ((wrap64 (5 + 9)) + i1789)))) * 2 ^ min (wrap64 (8 * i1789)).toNat IntKind.i64.bits))), sn, sn]), (g795, 27, [sn, sn, iv 0, iv 0, iv 0, sn, sn])], []⟩) (True) ?_ ?_
      · exact VC.drawB ⟨0, [], [], [], []⟩ [14] ⟨0, [], [], [(g797, 27, [sn, sn, iv i1584, iv (wrap64 (bt a1 5)), iv i1790, sn, sn])], []⟩ (by kernel_rfl) rfl (by kernel_rfl) (n := 15) (listed := LB 15 0) <|
         bv 0 1 rfl (op_fieldAddr FI27_3 rfl (add_at _ _ _)) <|
         VB.vb (i := 1) (listed' := LB 15 3) rfl (op_load 0 1 rfl rfl TI3 rfl (by decide)) rfl (by kernel_rfl) (by kernel_rfl) (by kernel_rfl) (by kernel_rfl) (by kernel_rfl) (by kernel_rfl) (PartP.on ⟨trivial, trivial, trivial⟩ ⟨trivial, ⟨⟨0, rfl⟩, trivial⟩, trivial⟩) (fun _ _ _ h => h) <|
         bv 2 7 rfl (mv rfl) <| bv 3 15 rfl (mv rfl) <| bv 4 31 rfl (op_ari64 rfl rfl rfl) <| bv 5 63 rfl (mv rfl) <| bv 6 127 rfl (op_ari64 rfl rfl rfl) <| bv 7 255 rfl (op_indexS Tryz.underlying9 rfl rfl c1800 c1801 rfl) <| bv 8 511 rfl (op_conv Tryz.underlying5 Tryz.underlying3 rfl (i64w _)) <|
         bv 9 1023 rfl (mv rfl) <| bv 10 2047 rfl (op_ari64 rfl rfl rfl) <| bv 11 4095 rfl (op_shl rfl rfl c1802 rfl) <| bv 12 8191 rfl (op_bits rfl rfl rfl) <| bv 13 16383 rfl (op_fieldAddr FI27_3 rfl (add_at _ _ _)) <|
         VB.one1 (i := 14) (listed' := LB 15 32767) (by kernel_rfl) rfl (o_store 0 1 rfl rfl rfl TI3 (.c rfl) rfl (len rfl)) rfl (by kernel_rfl) (PartP.off (by kernel_rfl) ⟨trivial, trivial, trivial⟩) <| VB.done (by kernel_rfl) <| VN.meet0 [0, 1] [] trivial
      intro _
      refine VN.block <| tr <| va (op_ari64 rfl rfl rfl) <| vm rfl <| dn <| VN.again [0, 1] [] (ihl15 (wrap64 (i1789 + 1)) (Go.bits .or .i64 i1790 (IntKind.i64.wrap ((wrap64 (bt a1 (wrap64 ((wrap64 (5 + 9)) + i1789)))) * 2 ^ min (wrap64 (8 * i1789)).toNat IntKind.i64.bits))) h)
    cases lF c1799 hb1797
    refine cf <| VC.exit <| VX.then <| VX.then <| VX.hit <| VN.meet1 i1790 [0, 1] [] h
  clear h
  intro i1803 h
  unfold journal_read.j14 at h
  refine VC.letter (decide (i1584 ≥ 1)) fun b1804 hb1804 => ?_
  replace h := iC h
  rcases h with ⟨c1805, h⟩ | ⟨c1805, h⟩
  · cases lT c1805 hb1804
    refine VC.letter (decide (i1584 ≤ 1099511627776)) fun b1806 hb1806 => ?_
    replace h := iC h
    rcases h with ⟨c1807, h⟩ | ⟨c1807, h⟩
    · cases lT c1807 hb1806
      refine VC.letter (((i1584.tmod 2) == a0)) fun b1808 hb1808 => ?_
      replace h := iC h
      rcases h with ⟨c1809, h⟩ | ⟨c1809, h⟩
      · obtain rfl : b1808 = true := hb1808.symm.trans (beq_iff_eq.2 c1809)
        refine VC.letter (decide ((wrap64 (bt a1 5)) ≤ 1)) fun b1810 hb1810 => ?_
        replace h := iC h
        rcases h with ⟨c1811, h⟩ | ⟨c1811, h⟩
        · cases lT c1811 hb1810
          replace h := bd h
          obtain ⟨t1812, hA1813, h⟩ := h
          refine VC.letter (decide (i1803 ≤ t1812)) fun b1814 hb1814 => VC.join0 (⟨109, [(1, .string a1), (6, pt g795 0), (7, .bool false), (9, pt g797 0), (12, .bool b1814)], [], [(g797, 27, [sn, sn, iv i1584, iv (wrap64 (bt a1 5)), iv i1803, sn, sn]), (g795, 27, [sn, sn, iv 0, iv 0, iv 0, sn, sn])], []⟩) (True) ?_ ?_
          · refine dw ⟨0, [], [], [(g797, 27, [sn, sn, iv i1584, iv (wrap64 (bt a1 5)), iv i1803, sn, sn])], []⟩ 28 <| av 0 1 rfl (op_fieldAddr FI27_1 rfl (add_at _ _ _)) <| av 1 3 rfl (op_load 0 1 rfl rfl TI3 rfl (by decide)) <|
             av 2 7 rfl (op_cmp rfl rfl (congrArg some hb1804)) <| av 3 15 rfl (mv rfl) <| av 4 31 rfl (op_fieldAddr FI27_1 rfl (add_at _ _ _)) <| av 5 63 rfl (op_load 0 1 rfl rfl TI3 rfl (by decide)) <| av 6 127 rfl (op_cmp rfl rfl (congrArg some hb1806)) <| av 7 255 rfl (op_pick rfl rfl) <|
             av 8 511 rfl (mv rfl) <| av 9 1023 rfl (op_fieldAddr FI27_1 rfl (add_at _ _ _)) <| av 10 2047 rfl (op_load 0 1 rfl rfl TI3 rfl (by decide)) <| av 11 4095 rfl (op_rem rfl rfl (by decide) rfl) <| av 12 8191 rfl (mv rfl) <| av 13 16383 rfl (op_cmp rfl rfl (congrArg some hb1808)) <|
             av 14 32767 rfl (op_pick rfl rfl) <| av 15 65535 rfl (mv rfl) <| av 16 131071 rfl (op_fieldAddr FI27_2 rfl (add_at _ _ _)) <| av 17 262143 rfl (op_load 0 1 rfl rfl TI3 rfl (by decide)) <| av 18 524287 rfl (op_cmp rfl rfl (congrArg some hb1810)) <| av 19 1048575 rfl (op_pick rfl rfl) <|
             av 20 2097151 rfl (mv rfl) <| av 21 4194303 rfl (op_fieldAddr FI27_3 rfl (add_at _ _ _)) <| av 22 8388607 rfl (op_load 0 1 rfl rfl TI3 rfl (by decide)) <| av 23 16777215 rfl (mv rfl) <| aC 24 33554431 rfl (o_call0 FO51 (journal_room.ok a2 t1812 hA1813) rfl rfl (ltn rfl) (All_of .nil)) <| ?_
            rintro _ _ _ ⟨rfl, rfl, rfl⟩
            refine ⟨⟨trivial, ⟨⟨0, rfl⟩, trivial⟩, trivial⟩, ?_⟩
            exact av 25 67108863 rfl (op_cmp rfl rfl (congrArg some hb1814)) <| av 26 134217727 rfl (op_pick rfl rfl) <| av 27 268435455 rfl (ag rfl) <| ad <| VN.meet0 [0, 1] [] trivial
          intro _
          refine sr <| va (op_fieldAddr FI27_1 rfl (add_at _ _ _)) <| va (op_load 0 1 rfl rfl TI3 rfl (by decide)) <| va (op_fieldAddr FI27_2 rfl (add_at _ _ _)) <| va (op_load 0 1 rfl rfl TI3 rfl (by decide)) <| va (op_fieldAddr FI27_3 rfl (add_at _ _ _)) <| va (op_load 0 1 rfl rfl TI3 rfl (by decide)) <| ?_
          replace h := bd h
          obtain ⟨r1815, hA1816, h⟩ := h
          refine sC (o_call0 FO55 (journal_headOf.ok k i1584 (wrap64 (bt a1 5)) i1803 r1815 hA1816) rfl rfl (ltn rfl) (All_of .nil)) <| ?_
          rintro _ _ _ ⟨rfl, rfl, rfl⟩
          refine sG (o_alloc Z82 ZL82) fun g1817 => ?_
          replace h := iN h
          obtain ⟨c1818, h⟩ := h
          replace h := iN h
          obtain ⟨c1819, h⟩ := h
          refine s1 (o_storeA 0 rfl rfl rfl TI82 c1818 c1819) <| dt <| ?_
          replace h := iC h
          rcases h with ⟨c1820, h⟩ | ⟨c1820, h⟩
          · cases lT c1820 hb1814
            replace h := iN h
            obtain ⟨c1821, h⟩ := h
            replace h := iN h
            obtain ⟨c1822, h⟩ := h
            replace h := iN h
            obtain ⟨c1825, h⟩ := h
            replace h := iN h
            obtain ⟨c1828, h⟩ := h
            refine VC.letter (decide (r1815 = ((byI (a1.extract 0 32)).take 32))) fun b1829 hb1829 => ?_
            replace h := iC h
            rcases h with ⟨c1830, h⟩ | ⟨c1830, h⟩
            · cases lT c1830 hb1829
              replace h := iN h
              obtain ⟨c1831, h⟩ := h
              replace h := iN h
              obtain ⟨c1834, h⟩ := h
              replace h := iN h
              obtain ⟨c1837, h⟩ := h
              refine VC.letter (decide (r1815 = ((byI (a1.extract 32 a1.size)).take 32))) fun b1838 hb1838 => VC.join0 (⟨109, [(6, pt g795 0), (7, .bool b1838)], [], [(g795, 27, [sn, sn, iv i1584, iv (wrap64 (bt a1 5)), iv i1803, sn, sn])], []⟩) (True) ?_ ?_
              · refine dw ⟨0, [], [], [(g1817, 82, ints .u8 r1815), (g797, 27, [sn, sn, iv i1584, iv (wrap64 (bt a1 5)), iv i1803, sn, sn])], []⟩ 22 <| av 0 1 rfl (op_load 1 7 rfl rfl TI27 rfl (fun h => absurd h (by decide))) <|
                 av 1 3 rfl (mv rfl) <| av 2 7 rfl (mv rfl) <| av 3 15 rfl (op_loadA 0 rfl rfl TI82 c1818) <| av 4 31 rfl (mv rfl) <| av 5 63 rfl (op_sliceS 0 32 Tryz.underlying9 rfl ⟨rfl, ⟨_, _, rfl, (by decide), rfl⟩, Nat.zero_le _, tN (a := (32 : Int)) (b := (a1.size : Int)) rfl rfl c1821⟩ rfl) <|
                 aG 6 127 rfl (o_strBytes (es3 := List.map enc_intu8 (byI (a1.extract 0 32))) rfl Tryz.underlying9 Tryz.underlying68 Tryz.underlying5 rfl c1822) fun v1824 => VA.more ⟨0, [], [.row v1824 1 ((byI (a1.extract 0 32)).map enc_intu8)], [(g1817, 82, ints .u8 r1815), (g797, 27, [sn, sn, iv i1584, iv (wrap64 (bt a1 5)), iv i1803, sn, sn])], []⟩ ⟨trivial, ⟨⟨0, rfl⟩, ⟨1, rfl⟩, trivial⟩, trivial⟩ <|
                 VA.open (m := (byI (a1.extract 0 32)).length) 0 lenm rfl (Nat.lt_of_lt_of_le (by decide) c1825) <| ?_
                rintro ad1826 n1827 rfl
                refine av 7 255 rfl (op_arrayAt Tryz.underlying82 rfl c1825) <| av 8 511 rfl (op_loadRA 0 (fun _ => rfl) rfl rfl TI82 c1825) <| av 9 1023 rfl (op_eqA Tryz.underlying82 (by kernel_rfl) TI5 Tryz.underlying5 (by kernel_rfl) rfl rfl c1818 c1828 hb1829) <| av 10 2047 rfl (op_pick rfl rfl) <|
                 av 11 4095 rfl (mv rfl) <| av 12 8191 rfl (op_loadA 0 rfl rfl TI82 c1818) <| av 13 16383 rfl (mv rfl) <| av 14 32767 rfl (op_sliceS 32 a1.size Tryz.underlying9 rfl ⟨⟨_, _, rfl, (by decide), rfl⟩, rfl, tN (a := (32 : Int)) (b := (a1.size : Int)) rfl rfl c1821, Nat.le_refl _⟩ rfl) <|
                 VA.all [15, 20] (by kernel_rfl) (by simp) <|
                 VAll.consG (listed' := LB 22 65535) rfl (o_strBytes (es3 := List.map enc_intu8 (byI (a1.extract 32 a1.size))) rfl Tryz.underlying9 Tryz.underlying68 Tryz.underlying5 rfl c1831) rfl (by kernel_rfl) (fun _ => ⟨⟨⟨1, rfl⟩, trivial⟩, ⟨⟨0, rfl⟩, ⟨1, rfl⟩, trivial⟩, trivial⟩) ?_ ?_
                · intro v1833
                  refine VA.more ⟨0, [], [.row (.slice (some ad1826) (byI (a1.extract 0 32)).length n1827) 1 ((byI (a1.extract 0 32)).map enc_intu8), .row v1833 1 ((byI (a1.extract 32 a1.size)).map enc_intu8)], [(g1817, 82, ints .u8 r1815), (g797, 27, [sn, sn, iv i1584, iv (wrap64 (bt a1 5)), iv i1803, sn, sn])], []⟩ ⟨⟨⟨0, rfl⟩, trivial⟩, ⟨⟨0, rfl⟩, ⟨1, rfl⟩, trivial⟩, trivial⟩ <|
                   VA.open (m := (byI (a1.extract 32 a1.size)).length) 0 lenm rfl (Nat.lt_of_lt_of_le (by decide) c1834) <| ?_
                  rintro ad1835 n1836 rfl
                  exact av 16 131071 rfl (op_arrayAt Tryz.underlying82 rfl c1834) <| av 17 262143 rfl (op_loadRA 1 (fun _ => rfl) rfl rfl TI82 c1834) <| av 18 524287 rfl (op_eqA Tryz.underlying82 (by kernel_rfl) TI5 Tryz.underlying5 (by kernel_rfl) rfl rfl c1818 c1837 hb1838) <|
                   av 19 1048575 rfl (op_pick rfl rfl) <| aO 20 2097151 rfl (o_store 2 7 rfl rfl rfl TI27 (.agg (.of rfl)) rfl (len rfl)) <| av 21 4194303 rfl (ag rfl) <| ad <| VN.meet0 [2] [] trivial
                refine VAll.cons1 (listed' := LB 22 1081343) rfl (o_store 2 7 rfl rfl rfl TI27 (.agg (.of rfl)) rfl (len rfl)) rfl (by kernel_rfl) ⟨⟨⟨0, rfl⟩, trivial⟩, ⟨⟨0, rfl⟩, ⟨1, rfl⟩, trivial⟩, trivial⟩ ?_ VAll.nil
                refine aG 15 1114111 rfl (o_strBytes (es3 := List.map enc_intu8 (byI (a1.extract 32 a1.size))) rfl Tryz.underlying9 Tryz.underlying68 Tryz.underlying5 rfl c1831) fun v1833 => VA.more ⟨0, [], [.row (.slice (some ad1826) (byI (a1.extract 0 32)).length n1827) 1 ((byI (a1.extract 0 32)).map enc_intu8), .row v1833 1 ((byI (a1.extract 32 a1.size)).map enc_intu8)], [(g1817, 82, ints .u8 r1815), (g797, 27, [sn, sn, iv i1584, iv (wrap64 (bt a1 5)), iv i1803, sn, sn])], []⟩ ⟨⟨⟨0, rfl⟩, trivial⟩, ⟨⟨0, rfl⟩, ⟨1, rfl⟩, trivial⟩, trivial⟩ <|
                 VA.open (m := (byI (a1.extract 32 a1.size)).length) 0 lenm rfl (Nat.lt_of_lt_of_le (by decide) c1834) <| ?_
                rintro ad1835 n1836 rfl
                exact av 16 1179647 rfl (op_arrayAt Tryz.underlying82 rfl c1834) <| av 17 1310719 rfl (op_loadRA 1 (fun _ => rfl) rfl rfl TI82 c1834) <| av 18 1572863 rfl (op_eqA Tryz.underlying82 (by kernel_rfl) TI5 Tryz.underlying5 (by kernel_rfl) rfl rfl c1818 c1837 hb1838) <|
                 av 19 2097151 rfl (op_pick rfl rfl) <| av 21 4194303 rfl (ag rfl) <| ad <| VN.meet0 [2] [] trivial
              intro _
              refine VC.ret <| ?_
              simp only [Option.some.injEq, Prod.mk.injEq] at h
              obtain ⟨rfl, rfl, rfl, rfl, rfl, rfl, rfl, rfl⟩ := h
              subst hb1838
              exact VR.nilRow' 9 1 <| VR.nilRow' 72 2 <| VR.nilRow' 9 1 <| VR.nilRow' 9 1 <| rf [.cell 6 27, .tmp 7] [3, 2, 1, 0] (.cell 0 rfl rfl TI27 (fun h => absurd h (by decide)) (.tmp rfl .nil)) ⟨sn, sn, sn, sn, rfl, rfl, rfl⟩
            cases lF c1830 hb1829
            refine VC.join0 (⟨109, [(6, pt g795 0), (7, .bool false)], [], [(g795, 27, [sn, sn, iv i1584, iv (wrap64 (bt a1 5)), iv i1803, sn, sn])], []⟩) (True) ?_ ?_
            · refine dw ⟨0, [], [], [(g1817, 82, ints .u8 r1815), (g797, 27, [sn, sn, iv i1584, iv (wrap64 (bt a1 5)), iv i1803, sn, sn])], []⟩ 22 <| av 0 1 rfl (op_load 1 7 rfl rfl TI27 rfl (fun h => absurd h (by decide))) <|
               av 1 3 rfl (mv rfl) <| av 2 7 rfl (mv rfl) <| av 3 15 rfl (op_loadA 0 rfl rfl TI82 c1818) <| av 4 31 rfl (mv rfl) <| av 5 63 rfl (op_sliceS 0 32 Tryz.underlying9 rfl ⟨rfl, ⟨_, _, rfl, (by decide), rfl⟩, Nat.zero_le _, tN (a := (32 : Int)) (b := (a1.size : Int)) rfl rfl c1821⟩ rfl) <|
               aG 6 127 rfl (o_strBytes (es3 := List.map enc_intu8 (byI (a1.extract 0 32))) rfl Tryz.underlying9 Tryz.underlying68 Tryz.underlying5 rfl c1822) fun v1824 => VA.more ⟨0, [], [.row v1824 1 ((byI (a1.extract 0 32)).map enc_intu8)], [(g1817, 82, ints .u8 r1815), (g797, 27, [sn, sn, iv i1584, iv (wrap64 (bt a1 5)), iv i1803, sn, sn])], []⟩ ⟨trivial, ⟨⟨0, rfl⟩, ⟨1, rfl⟩, trivial⟩, trivial⟩ <|
               VA.open (m := (byI (a1.extract 0 32)).length) 0 lenm rfl (Nat.lt_of_lt_of_le (by decide) c1825) <| ?_
              rintro ad1826 n1827 rfl
              exact av 7 255 rfl (op_arrayAt Tryz.underlying82 rfl c1825) <| av 8 511 rfl (op_loadRA 0 (fun _ => rfl) rfl rfl TI82 c1825) <| av 9 1023 rfl (op_eqA Tryz.underlying82 (by kernel_rfl) TI5 Tryz.underlying5 (by kernel_rfl) rfl rfl c1818 c1828 hb1829) <| av 10 2047 rfl (op_pick rfl rfl) <|
               av 11 4095 rfl (mv rfl) <| au 12 8191 rfl rfl <| au 13 16383 rfl rfl <| au 14 32767 rfl rfl <| au 15 65535 rfl rfl <| au 16 131071 rfl rfl <| au 17 262143 rfl rfl <| au 18 524287 rfl rfl <| av 19 1048575 rfl (op_pick rfl rfl) <|
               aO 20 2097151 rfl (o_store 2 7 rfl rfl rfl TI27 (.agg (.of rfl)) rfl (len rfl)) <| av 21 4194303 rfl (ag rfl) <| ad <| VN.meet0 [2] [] trivial
            intro _
            refine VC.ret <| ?_
            simp only [Option.some.injEq, Prod.mk.injEq] at h
            obtain ⟨rfl, rfl, rfl, rfl, rfl, rfl, rfl, rfl⟩ := h
            exact VR.nilRow' 9 1 <| VR.nilRow' 72 2 <| VR.nilRow' 9 1 <| VR.nilRow' 9 1 <| rf [.cell 6 27, .tmp 7] [3, 2, 1, 0] (.cell 0 rfl rfl TI27 (fun h => absurd h (by decide)) (.tmp rfl .nil)) ⟨sn, sn, sn, sn, rfl, rfl, rfl⟩
          cases lF c1820 hb1814
          refine VC.join0 (⟨109, [(6, pt g795 0), (7, .bool false)], [], [(g795, 27, [sn, sn, iv i1584, iv (wrap64 (bt a1 5)), iv i1803, sn, sn])], []⟩) (True) ?_ ?_
          · exact dw ⟨0, [], [], [(g797, 27, [sn, sn, iv i1584, iv (wrap64 (bt a1 5)), iv i1803, sn, sn])], []⟩ 22 <| av 0 1 rfl (op_load 0 7 rfl rfl TI27 rfl (fun h => absurd h (by decide))) <| av 1 3 rfl (mv rfl) <|
             av 2 7 rfl (mv rfl) <| au 3 15 rfl rfl <| au 4 31 rfl rfl <| au 5 63 rfl rfl <| au 6 127 rfl rfl <| au 7 255 rfl rfl <| au 8 511 rfl rfl <| au 9 1023 rfl rfl <| av 10 2047 rfl (op_pick rfl rfl) <| av 11 4095 rfl (mv rfl) <| au 12 8191 rfl rfl <| au 13 16383 rfl rfl <| au 14 32767 rfl rfl <|
             au 15 65535 rfl rfl <| au 16 131071 rfl rfl <| au 17 262143 rfl rfl <| au 18 524287 rfl rfl <| av 19 1048575 rfl (op_pick rfl rfl) <| aO 20 2097151 rfl (o_store 2 7 rfl rfl rfl TI27 (.agg (.of rfl)) rfl (len rfl)) <| av 21 4194303 rfl (ag rfl) <| ad <| VN.meet0 [2] [] trivial
          intro _
          refine VC.ret <| ?_
          simp only [Option.some.injEq, Prod.mk.injEq] at h
          obtain ⟨rfl, rfl, rfl, rfl, rfl, rfl, rfl, rfl⟩ := h
          exact VR.nilRow' 9 1 <| VR.nilRow' 72 2 <| VR.nilRow' 9 1 <| VR.nilRow' 9 1 <| rf [.cell 6 27, .tmp 7] [3, 2, 1, 0] (.cell 0 rfl rfl TI27 (fun h => absurd h (by decide)) (.tmp rfl .nil)) ⟨sn, sn, sn, sn, rfl, rfl, rfl⟩
        cases lF c1811 hb1810
        refine VC.join0 (⟨109, [(1, .string a1), (6, pt g795 0), (7, .bool false), (9, pt g797 0), (12, .bool false)], [], [(g797, 27, [sn, sn, iv i1584, iv (wrap64 (bt a1 5)), iv i1803, sn, sn]), (g795, 27, [sn, sn, iv 0, iv 0, iv 0, sn, sn])], []⟩) (True) ?_ ?_
        · exact dw ⟨0, [], [], [(g797, 27, [sn, sn, iv i1584, iv (wrap64 (bt a1 5)), iv i1803, sn, sn])], []⟩ 28 <| av 0 1 rfl (op_fieldAddr FI27_1 rfl (add_at _ _ _)) <| av 1 3 rfl (op_load 0 1 rfl rfl TI3 rfl (by decide)) <|
           av 2 7 rfl (op_cmp rfl rfl (congrArg some hb1804)) <| av 3 15 rfl (mv rfl) <| av 4 31 rfl (op_fieldAddr FI27_1 rfl (add_at _ _ _)) <| av 5 63 rfl (op_load 0 1 rfl rfl TI3 rfl (by decide)) <| av 6 127 rfl (op_cmp rfl rfl (congrArg some hb1806)) <| av 7 255 rfl (op_pick rfl rfl) <|
           av 8 511 rfl (mv rfl) <| av 9 1023 rfl (op_fieldAddr FI27_1 rfl (add_at _ _ _)) <| av 10 2047 rfl (op_load 0 1 rfl rfl TI3 rfl (by decide)) <| av 11 4095 rfl (op_rem rfl rfl (by decide) rfl) <| av 12 8191 rfl (mv rfl) <| av 13 16383 rfl (op_cmp rfl rfl (congrArg some hb1808)) <|
           av 14 32767 rfl (op_pick rfl rfl) <| av 15 65535 rfl (mv rfl) <| av 16 131071 rfl (op_fieldAddr FI27_2 rfl (add_at _ _ _)) <| av 17 262143 rfl (op_load 0 1 rfl rfl TI3 rfl (by decide)) <| av 18 524287 rfl (op_cmp rfl rfl (congrArg some hb1810)) <| av 19 1048575 rfl (op_pick rfl rfl) <|
           av 20 2097151 rfl (mv rfl) <| au 21 4194303 rfl rfl <| au 22 8388607 rfl rfl <| au 23 16777215 rfl rfl <| au 24 33554431 rfl rfl <| au 25 67108863 rfl rfl <| av 26 134217727 rfl (op_pick rfl rfl) <| av 27 268435455 rfl (ag rfl) <| ad <| VN.meet0 [0, 1] [] trivial
        intro _
        refine sr <| va (op_fieldAddr FI27_1 rfl (add_at _ _ _)) <| va (op_load 0 1 rfl rfl TI3 rfl (by decide)) <| va (op_fieldAddr FI27_2 rfl (add_at _ _ _)) <| va (op_load 0 1 rfl rfl TI3 rfl (by decide)) <| va (op_fieldAddr FI27_3 rfl (add_at _ _ _)) <| va (op_load 0 1 rfl rfl TI3 rfl (by decide)) <| ?_
        replace h := bd h
        obtain ⟨r1851, hA1852, h⟩ := h
        refine sC (o_call0 FO55 (journal_headOf.ok k i1584 (wrap64 (bt a1 5)) i1803 r1851 hA1852) rfl rfl (ltn rfl) (All_of .nil)) <| ?_
        rintro _ _ _ ⟨rfl, rfl, rfl⟩
        refine sG (o_alloc Z82 ZL82) fun g1853 => ?_
        replace h := iN h
        obtain ⟨c1854, h⟩ := h
        replace h := iN h
        obtain ⟨c1855, h⟩ := h
        refine s1 (o_storeA 0 rfl rfl rfl TI82 c1854 c1855) <| dt <|
         VC.join0 (⟨109, [(6, pt g795 0), (7, .bool false)], [], [(g795, 27, [sn, sn, iv i1584, iv (wrap64 (bt a1 5)), iv i1803, sn, sn])], []⟩) (True) ?_ ?_
        · exact dw ⟨0, [], [], [(g797, 27, [sn, sn, iv i1584, iv (wrap64 (bt a1 5)), iv i1803, sn, sn])], []⟩ 22 <| av 0 1 rfl (op_load 0 7 rfl rfl TI27 rfl (fun h => absurd h (by decide))) <| av 1 3 rfl (mv rfl) <|
           av 2 7 rfl (mv rfl) <| au 3 15 rfl rfl <| au 4 31 rfl rfl <| au 5 63 rfl rfl <| au 6 127 rfl rfl <| au 7 255 rfl rfl <| au 8 511 rfl rfl <| au 9 1023 rfl rfl <| av 10 2047 rfl (op_pick rfl rfl) <| av 11 4095 rfl (mv rfl) <| au 12 8191 rfl rfl <| au 13 16383 rfl rfl <| au 14 32767 rfl rfl <|
           au 15 65535 rfl rfl <| au 16 131071 rfl rfl <| au 17 262143 rfl rfl <| au 18 524287 rfl rfl <| av 19 1048575 rfl (op_pick rfl rfl) <| aO 20 2097151 rfl (o_store 2 7 rfl rfl rfl TI27 (.agg (.of rfl)) rfl (len rfl)) <| av 21 4194303 rfl (ag rfl) <| ad <| VN.meet0 [2] [] trivial
        intro _
        refine VC.ret <| ?_
        simp only [Option.some.injEq, Prod.mk.injEq] at h
        obtain ⟨rfl, rfl, rfl, rfl, rfl, rfl, rfl, rfl⟩ := h
        exact VR.nilRow' 9 1 <| VR.nilRow' 72 2 <| VR.nilRow' 9 1 <| VR.nilRow' 9 1 <| rf [.cell 6 27, .tmp 7] [3, 2, 1, 0] (.cell 0 rfl rfl TI27 (fun h => absurd h (by decide)) (.tmp rfl .nil)) ⟨sn, sn, sn, sn, rfl, rfl, rfl⟩
      obtain rfl : b1808 = false := hb1808.symm.trans (beq_eq_false_iff_ne.2 c1809)
      refine VC.join0 (⟨109, [(1, .string a1), (6, pt g795 0), (7, .bool false), (9, pt g797 0), (12, .bool false)], [], [(g797, 27, [sn, sn, iv i1584, iv (wrap64 (bt a1 5)), iv i1803, sn, sn]), (g795, 27, [sn, sn, iv 0, iv 0, iv 0, sn, sn])], []⟩) (True) ?_ ?_
      · exact dw ⟨0, [], [], [(g797, 27, [sn, sn, iv i1584, iv (wrap64 (bt a1 5)), iv i1803, sn, sn])], []⟩ 28 <| av 0 1 rfl (op_fieldAddr FI27_1 rfl (add_at _ _ _)) <| av 1 3 rfl (op_load 0 1 rfl rfl TI3 rfl (by decide)) <|
         av 2 7 rfl (op_cmp rfl rfl (congrArg some hb1804)) <| av 3 15 rfl (mv rfl) <| av 4 31 rfl (op_fieldAddr FI27_1 rfl (add_at _ _ _)) <| av 5 63 rfl (op_load 0 1 rfl rfl TI3 rfl (by decide)) <| av 6 127 rfl (op_cmp rfl rfl (congrArg some hb1806)) <| av 7 255 rfl (op_pick rfl rfl) <|
         av 8 511 rfl (mv rfl) <| av 9 1023 rfl (op_fieldAddr FI27_1 rfl (add_at _ _ _)) <| av 10 2047 rfl (op_load 0 1 rfl rfl TI3 rfl (by decide)) <| av 11 4095 rfl (op_rem rfl rfl (by decide) rfl) <| av 12 8191 rfl (mv rfl) <| av 13 16383 rfl (op_cmp rfl rfl (congrArg some hb1808)) <|
         av 14 32767 rfl (op_pick rfl rfl) <| av 15 65535 rfl (mv rfl) <| au 16 131071 rfl rfl <| au 17 262143 rfl rfl <| au 18 524287 rfl rfl <| av 19 1048575 rfl (op_pick rfl rfl) <| av 20 2097151 rfl (mv rfl) <| au 21 4194303 rfl rfl <| au 22 8388607 rfl rfl <| au 23 16777215 rfl rfl <|
         au 24 33554431 rfl rfl <| au 25 67108863 rfl rfl <| av 26 134217727 rfl (op_pick rfl rfl) <| av 27 268435455 rfl (ag rfl) <| ad <| VN.meet0 [0, 1] [] trivial
      intro _
      refine sr <| va (op_fieldAddr FI27_1 rfl (add_at _ _ _)) <| va (op_load 0 1 rfl rfl TI3 rfl (by decide)) <| va (op_fieldAddr FI27_2 rfl (add_at _ _ _)) <| va (op_load 0 1 rfl rfl TI3 rfl (by decide)) <| va (op_fieldAddr FI27_3 rfl (add_at _ _ _)) <| va (op_load 0 1 rfl rfl TI3 rfl (by decide)) <| ?_
      replace h := bd h
      obtain ⟨r1860, hA1861, h⟩ := h
      refine sC (o_call0 FO55 (journal_headOf.ok k i1584 (wrap64 (bt a1 5)) i1803 r1860 hA1861) rfl rfl (ltn rfl) (All_of .nil)) <| ?_
      rintro _ _ _ ⟨rfl, rfl, rfl⟩
      refine sG (o_alloc Z82 ZL82) fun g1862 => ?_
      replace h := iN h
      obtain ⟨c1863, h⟩ := h
      replace h := iN h
      obtain ⟨c1864, h⟩ := h
      refine s1 (o_storeA 0 rfl rfl rfl TI82 c1863 c1864) <| dt <|
       VC.join0 (⟨109, [(6, pt g795 0), (7, .bool false)], [], [(g795, 27, [sn, sn, iv i1584, iv (wrap64 (bt a1 5)), iv i1803, sn, sn])], []⟩) (True) ?_ ?_
      · exact dw ⟨0, [], [], [(g797, 27, [sn, sn, iv i1584, iv (wrap64 (bt a1 5)), iv i1803, sn, sn])], []⟩ 22 <| av 0 1 rfl (op_load 0 7 rfl rfl TI27 rfl (fun h => absurd h (by decide))) <| av 1 3 rfl (mv rfl) <|
         av 2 7 rfl (mv rfl) <| au 3 15 rfl rfl <| au 4 31 rfl rfl <| au 5 63 rfl rfl <| au 6 127 rfl rfl <| au 7 255 rfl rfl <| au 8 511 rfl rfl <| au 9 1023 rfl rfl <| av 10 2047 rfl (op_pick rfl rfl) <| av 11 4095 rfl (mv rfl) <| au 12 8191 rfl rfl <| au 13 16383 rfl rfl <| au 14 32767 rfl rfl <|
         au 15 65535 rfl rfl <| au 16 131071 rfl rfl <| au 17 262143 rfl rfl <| au 18 524287 rfl rfl <| av 19 1048575 rfl (op_pick rfl rfl) <| aO 20 2097151 rfl (o_store 2 7 rfl rfl rfl TI27 (.agg (.of rfl)) rfl (len rfl)) <| av 21 4194303 rfl (ag rfl) <| ad <| VN.meet0 [2] [] trivial
      intro _
      refine VC.ret <| ?_
      simp only [Option.some.injEq, Prod.mk.injEq] at h
      obtain ⟨rfl, rfl, rfl, rfl, rfl, rfl, rfl, rfl⟩ := h
      exact VR.nilRow' 9 1 <| VR.nilRow' 72 2 <| VR.nilRow' 9 1 <| VR.nilRow' 9 1 <| rf [.cell 6 27, .tmp 7] [3, 2, 1, 0] (.cell 0 rfl rfl TI27 (fun h => absurd h (by decide)) (.tmp rfl .nil)) ⟨sn, sn, sn, sn, rfl, rfl, rfl⟩
    cases lF c1807 hb1806
    refine VC.join0 (⟨109, [(1, .string a1), (6, pt g795 0), (7, .bool false), (9, pt g797 0), (12, .bool false)], [], [(g797, 27, [sn, sn, iv i1584, iv (wrap64 (bt a1 5)), iv i1803, sn, sn]), (g795, 27, [sn, sn, iv 0, iv 0, iv 0, sn, sn])], []⟩) (True) ?_ ?_
    · exact dw ⟨0, [], [], [(g797, 27, [sn, sn, iv i1584, iv (wrap64 (bt a1 5)), iv i1803, sn, sn])], []⟩ 28 <| av 0 1 rfl (op_fieldAddr FI27_1 rfl (add_at _ _ _)) <| av 1 3 rfl (op_load 0 1 rfl rfl TI3 rfl (by decide)) <|
       av 2 7 rfl (op_cmp rfl rfl (congrArg some hb1804)) <| av 3 15 rfl (mv rfl) <| av 4 31 rfl (op_fieldAddr FI27_1 rfl (add_at _ _ _)) <| av 5 63 rfl (op_load 0 1 rfl rfl TI3 rfl (by decide)) <| av 6 127 rfl (op_cmp rfl rfl (congrArg some hb1806)) <| av 7 255 rfl (op_pick rfl rfl) <|
       av 8 511 rfl (mv rfl) <| au 9 1023 rfl rfl <| au 10 2047 rfl rfl <| au 11 4095 rfl rfl <| au 12 8191 rfl rfl <| au 13 16383 rfl rfl <| av 14 32767 rfl (op_pick rfl rfl) <| av 15 65535 rfl (mv rfl) <| au 16 131071 rfl rfl <| au 17 262143 rfl rfl <| au 18 524287 rfl rfl <|
       av 19 1048575 rfl (op_pick rfl rfl) <| av 20 2097151 rfl (mv rfl) <| au 21 4194303 rfl rfl <| au 22 8388607 rfl rfl <| au 23 16777215 rfl rfl <| au 24 33554431 rfl rfl <| au 25 67108863 rfl rfl <| av 26 134217727 rfl (op_pick rfl rfl) <| av 27 268435455 rfl (ag rfl) <| ad <|
       VN.meet0 [0, 1] [] trivial
    intro _
    refine sr <| va (op_fieldAddr FI27_1 rfl (add_at _ _ _)) <| va (op_load 0 1 rfl rfl TI3 rfl (by decide)) <| va (op_fieldAddr FI27_2 rfl (add_at _ _ _)) <| va (op_load 0 1 rfl rfl TI3 rfl (by decide)) <| va (op_fieldAddr FI27_3 rfl (add_at _ _ _)) <| va (op_load 0 1 rfl rfl TI3 rfl (by decide)) <| ?_
    replace h := bd h
    obtain ⟨r1869, hA1870, h⟩ := h
    refine sC (o_call0 FO55 (journal_headOf.ok k i1584 (wrap64 (bt a1 5)) i1803 r1869 hA1870) rfl rfl (ltn rfl) (All_of .nil)) <| ?_
    rintro _ _ _ ⟨rfl, rfl, rfl⟩
    refine sG (o_alloc Z82 ZL82) fun g1871 => ?_
    replace h := iN h
    obtain ⟨c1872, h⟩ := h
    replace h := iN h
    obtain ⟨c1873, h⟩ := h
    refine s1 (o_storeA 0 rfl rfl rfl TI82 c1872 c1873) <| dt <|
     VC.join0 (⟨109, [(6, pt g795 0), (7, .bool false)], [], [(g795, 27, [sn, sn, iv i1584, iv (wrap64 (bt a1 5)), iv i1803, sn, sn])], []⟩) (True) ?_ ?_
    · exact dw ⟨0, [], [], [(g797, 27, [sn, sn, iv i1584, iv (wrap64 (bt a1 5)), iv i1803, sn, sn])], []⟩ 22 <| av 0 1 rfl (op_load 0 7 rfl rfl TI27 rfl (fun h => absurd h (by decide))) <| av 1 3 rfl (mv rfl) <|
       av 2 7 rfl (mv rfl) <| au 3 15 rfl rfl <| au 4 31 rfl rfl <| au 5 63 rfl rfl <| au 6 127 rfl rfl <| au 7 255 rfl rfl <| au 8 511 rfl rfl <| au 9 1023 rfl rfl <| av 10 2047 rfl (op_pick rfl rfl) <| av 11 4095 rfl (mv rfl) <| au 12 8191 rfl rfl <| au 13 16383 rfl rfl <| au 14 32767 rfl rfl <|
       au 15 65535 rfl rfl <| au 16 131071 rfl rfl <| au 17 262143 rfl rfl <| au 18 524287 rfl rfl <| av 19 1048575 rfl (op_pick rfl rfl) <| aO 20 2097151 rfl (o_store 2 7 rfl rfl rfl TI27 (.agg (.of rfl)) rfl (len rfl)) <| av 21 4194303 rfl (ag rfl) <| ad <| VN.meet0 [2] [] trivial
    intro _
    refine VC.ret <| ?_
    simp only [Option.some.injEq, Prod.mk.injEq] at h
    obtain ⟨rfl, rfl, rfl, rfl, rfl, rfl, rfl, rfl⟩ := h
    exact VR.nilRow' 9 1 <| VR.nilRow' 72 2 <| VR.nilRow' 9 1 <| VR.nilRow' 9 1 <| rf [.cell 6 27, .tmp 7] [3, 2, 1, 0] (.cell 0 rfl rfl TI27 (fun h => absurd h (by decide)) (.tmp rfl .nil)) ⟨sn, sn, sn, sn, rfl, rfl, rfl⟩
  cases lF c1805 hb1804
  refine VC.join0 (⟨109, [(1, .string a1), (6, pt g795 0), (7, .bool false), (9, pt g797 0), (12, .bool false)], [], [(g797, 27, [sn, sn, iv i1584, iv (wrap64 (bt a1 5)), iv i1803, sn, sn]), (g795, 27, [sn, sn, iv 0, iv 0, iv 0, sn, sn])], []⟩) (True) ?_ ?_
  · exact dw ⟨0, [], [], [(g797, 27, [sn, sn, iv i1584, iv (wrap64 (bt a1 5)), iv i1803, sn, sn])], []⟩ 28 <| av 0 1 rfl (op_fieldAddr FI27_1 rfl (add_at _ _ _)) <| av 1 3 rfl (op_load 0 1 rfl rfl TI3 rfl (by decide)) <|
     av 2 7 rfl (op_cmp rfl rfl (congrArg some hb1804)) <| av 3 15 rfl (mv rfl) <| au 4 31 rfl rfl <| au 5 63 rfl rfl <| au 6 127 rfl rfl <| av 7 255 rfl (op_pick rfl rfl) <| av 8 511 rfl (mv rfl) <| au 9 1023 rfl rfl <| au 10 2047 rfl rfl <| au 11 4095 rfl rfl <| au 12 8191 rfl rfl <|
     au 13 16383 rfl rfl <| av 14 32767 rfl (op_pick rfl rfl) <| av 15 65535 rfl (mv rfl) <| au 16 131071 rfl rfl <| au 17 262143 rfl rfl <| au 18 524287 rfl rfl <| av 19 1048575 rfl (op_pick rfl rfl) <| av 20 2097151 rfl (mv rfl) <| au 21 4194303 rfl rfl <| au 22 8388607 rfl rfl <|
     au 23 16777215 rfl rfl <| au 24 33554431 rfl rfl <| au 25 67108863 rfl rfl <| av 26 134217727 rfl (op_pick rfl rfl) <| av 27 268435455 rfl (ag rfl) <| ad <| VN.meet0 [0, 1] [] trivial
  intro _
  refine sr <| va (op_fieldAddr FI27_1 rfl (add_at _ _ _)) <| va (op_load 0 1 rfl rfl TI3 rfl (by decide)) <| va (op_fieldAddr FI27_2 rfl (add_at _ _ _)) <| va (op_load 0 1 rfl rfl TI3 rfl (by decide)) <| va (op_fieldAddr FI27_3 rfl (add_at _ _ _)) <| va (op_load 0 1 rfl rfl TI3 rfl (by decide)) <| ?_
  replace h := bd h
  obtain ⟨r1878, hA1879, h⟩ := h
  refine sC (o_call0 FO55 (journal_headOf.ok k i1584 (wrap64 (bt a1 5)) i1803 r1878 hA1879) rfl rfl (ltn rfl) (All_of .nil)) <| ?_
  rintro _ _ _ ⟨rfl, rfl, rfl⟩
  refine sG (o_alloc Z82 ZL82) fun g1880 => ?_
  replace h := iN h
  obtain ⟨c1881, h⟩ := h
  replace h := iN h
  obtain ⟨c1882, h⟩ := h
  refine s1 (o_storeA 0 rfl rfl rfl TI82 c1881 c1882) <| dt <|
   VC.join0 (⟨109, [(6, pt g795 0), (7, .bool false)], [], [(g795, 27, [sn, sn, iv i1584, iv (wrap64 (bt a1 5)), iv i1803, sn, sn])], []⟩) (True) ?_ ?_
  · exact dw ⟨0, [], [], [(g797, 27, [sn, sn, iv i1584, iv (wrap64 (bt a1 5)), iv i1803, sn, sn])], []⟩ 22 <| av 0 1 rfl (op_load 0 7 rfl rfl TI27 rfl (fun h => absurd h (by decide))) <| av 1 3 rfl (mv rfl) <|
     av 2 7 rfl (mv rfl) <| au 3 15 rfl rfl <| au 4 31 rfl rfl <| au 5 63 rfl rfl <| au 6 127 rfl rfl <| au 7 255 rfl rfl <| au 8 511 rfl rfl <| au 9 1023 rfl rfl <| av 10 2047 rfl (op_pick rfl rfl) <| av 11 4095 rfl (mv rfl) <| au 12 8191 rfl rfl <| au 13 16383 rfl rfl <| au 14 32767 rfl rfl <|
     au 15 65535 rfl rfl <| au 16 131071 rfl rfl <| au 17 262143 rfl rfl <| au 18 524287 rfl rfl <| av 19 1048575 rfl (op_pick rfl rfl) <| aO 20 2097151 rfl (o_store 2 7 rfl rfl rfl TI27 (.agg (.of rfl)) rfl (len rfl)) <| av 21 4194303 rfl (ag rfl) <| ad <| VN.meet0 [2] [] trivial
  intro _
  refine VC.ret <| ?_
  simp only [Option.some.injEq, Prod.mk.injEq] at h
  obtain ⟨rfl, rfl, rfl, rfl, rfl, rfl, rfl, rfl⟩ := h
  exact VR.nilRow' 9 1 <| VR.nilRow' 72 2 <| VR.nilRow' 9 1 <| VR.nilRow' 9 1 <| rf [.cell 6 27, .tmp 7] [3, 2, 1, 0] (.cell 0 rfl rfl TI27 (fun h => absurd h (by decide)) (.tmp rfl .nil)) ⟨sn, sn, sn, sn, rfl, rfl, rfl⟩

end Go.Proofs.YtipeglbeongfmaaGreat.PJournalCrashes
