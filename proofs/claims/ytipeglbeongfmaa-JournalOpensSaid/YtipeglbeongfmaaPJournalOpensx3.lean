/- Written by a program of this repo: what the program's functions do, each as a Lean function, shown of the loaded code; or a statement's row over that; no condition of its own. -/
import Derived.Test.YtipeglbeongfmaaPJournalOpensx2
namespace Go.Proofs.Ytipeglbeongfmaa.PJournalOpens
open Go Go.RowKit Go.Proofs.YtipeglbeongfmaaV
set_option linter.unusedVariables false
set_option linter.unusedSimpArgs false
set_option maxHeartbeats 4000000
set_option maxRecDepth 100000

theorem journal_read.ok (k : Nat) (a0 : Int) (a1 : ByteArray) (a2 : Int)  (r1 : List ByteArray) (r2 : List S55) (r3 : Int) (r4 : Int) (r5 : Int) (r6 : List ByteArray) (r7 : List ByteArray) (r8 : Bool) (h : journal_read.f k a0 a1 a2 = some (r1, r2, r3, r4, r5, r6, r7, r8)) :
    VCalls Try.prog 24 [iv a0, .string a1, iv a2] [] (fun v G own => ∃ w0 w1 w5 w6 : Value, v = .tuple #[.agg #[w0, w1, iv r3, iv r4, iv r5, w5, w6], .bool r8] ∧ G = [] ∧ own = [(w0, 9, 1, r1.map enc_str), (w1, 56, 2, r2.map enc55), (w5, 9, 1, r6.map enc_str), (w6, 9, 1, r7.map enc_str)]) := by
  refine VCalls.intro Try.func24 rfl (len rfl) fun E hC hW hD hU => ?_
  unfold journal_read.f at h
  refine sr <| sG (o_alloc Z27 ZL27) fun g792 => vs rfl <| nx <| vs rfl <| nx <| vm rfl <| vm rfl <| ?_
  replace h := iN h
  obtain ⟨c793, h⟩ := h
  refine va (op_indexS Try.underlying9 rfl rfl (by decide) c793 rfl) <| va (op_conv Try.underlying5 Try.underlying3 rfl (i64w _)) <|
   va (op_build (vals := [(2, iv (wrap64 (bt a1 5)))]) (vcs := [(2, [iv (wrap64 (bt a1 5))])]) (cells := [sn, sn, iv 0, iv (wrap64 (bt a1 5)), iv 0, sn, sn]) SI27 rfl (.cons ⟨rfl, (.c rfl)⟩ .nil) (by kernel_rfl)) <|
   sG (o_alloc Z27 ZL27) fun g794 => s1 (o_store 0 7 rfl rfl rfl TI27 (.agg (.of rfl)) rfl (len rfl)) <| dt <|
   VC.join1 (fun (i1581 : Int) => ⟨109, [(0, iv a0), (1, .string a1), (2, iv a2), (6, pt g792 0), (7, .bool false), (8, iv 5), (9, pt g794 0)], [], [(g794, 27, [sn, sn, iv i1581, iv (wrap64 (bt a1 5)), iv 0, sn, sn]), (g792, 27, [sn, sn, iv 0, iv 0, iv 0, sn, sn])], []⟩) (fun (i1581 : Int) => journal_read.j10 k a0 a1 a2 i1581 = some (r1, r2, r3, r4, r5, r6, r7, r8)) ?_ ?_
  · refine sr <| vm rfl <| dt <| VC.block <| VC.loop2 (fun (i1567 : Int) (i1568 : Int) => ⟨109, [(0, iv a0), (1, .string a1), (2, iv a2), (6, pt g792 0), (7, .bool false), (8, iv 5), (9, pt g794 0), (19, iv i1567)], [], [(g794, 27, [sn, sn, iv i1568, iv (wrap64 (bt a1 5)), iv 0, sn, sn]), (g792, 27, [sn, sn, iv 0, iv 0, iv 0, sn, sn])], []⟩) (fun (ml11 : Nat) (i1567 : Int) (i1568 : Int) => journal_read.l11 k a0 a1 a2 ml11 i1567 i1568 = some (r1, r2, r3, r4, r5, r6, r7, r8)) k 0 0 [0, 1] [] h ⟨rfl, ⟨rfl, rfl, rfl, rfl, rfl, rfl, rfl, rfl, trivial⟩, trivial, rfl, by decide, rfl, by decide⟩ (by intros; simp [journal_read.l11]) <|
     ?_
    clear h
    intro ml11 ihl11 i1567 i1568 h
    simp only [journal_read.l11] at h
    refine sr <| VL.letter (decide (i1567 < 8)) fun b1575 hb1575 => va (op_cmp rfl rfl (congrArg some hb1575)) <| ds <| ?_
    replace h := iC h
    rcases h with ⟨c1577, h⟩ | ⟨c1577, h⟩
    · cases lT c1577 hb1575
      refine ct <| sk <| sq <| VC.block <| sr <| vm rfl <| vs rfl <| dt <| ?_
      replace h := iN h
      obtain ⟨c1578, h⟩ := h
      replace h := iN h
      obtain ⟨c1579, h⟩ := h
      replace h := iN h
      obtain ⟨c1580, h⟩ := h
      refine VC.stop0 (⟨109, [(0, iv a0), (1, .string a1), (2, iv a2), (6, pt g792 0), (7, .bool false), (8, iv 5), (9, pt g794 0), (10, iv i1567), (19, iv i1567), (20, .bool true), (21, iv i1567), (22, pt g794 2), (23, iv i1568), (24, .string a1), (25, iv 5), (26, iv (wrap64 (5 + 1))), (27, iv i1567), (28, iv (wrap64 ((wrap64 (5 + 1)) + i1567))), (29, .int .u8 (bt a1 (wrap64 ((wrap64 (5 + 1)) + i1567)))), (30, iv (wrap64 (bt a1 (wrap64 ((wrap64 (5 + 1)) + i1567))))), (31, iv i1567), (32, iv (wrap64 (8 * i1567))), (33, iv (IntKind.i64.wrap ((wrap64 (bt a1 (wrap64 ((wrap64 (5 + 1)) + i1567)))) * 2 ^ min (wrap64 (8 * i1567)).toNat IntKind.i64.bits))), (34, iv (Go.bits .or .i64 i1568 (IntKind.i64.wrap ((wrap64 (bt a1 (wrap64 ((wrap64 (5 + 1)) + i1567)))) * 2 ^ min (wrap64 (8 * i1567)).toNat IntKind.i64.bits)))), (35, pt g794 2)], [], [(g794, 27, [sn, sn, iv (Go.bits .or .i64 i1568 (IntKind.i64.wrap ((wrap64 (bt a1 (wrap64 ((wrap64 (5 + 1)) + i1567)))) * 2 ^ min (wrap64 (8 * i1567)).toNat IntKind.i64.bits))), iv (wrap64 (bt a1 5)), iv 0, sn, sn]), (g792, 27, [sn, sn, iv 0, iv 0, iv 0, sn, sn])], []⟩) (True) ?_ ?_
      · exact VC.drawB ⟨0, [], [], [], []⟩ [14] ⟨0, [], [], [(g794, 27, [sn, sn, iv i1568, iv (wrap64 (bt a1 5)), iv 0, sn, sn])], []⟩ (by kernel_rfl) rfl (by kernel_rfl) (n := 15) (listed := LB 15 0) <|
         bv 0 1 rfl (op_fieldAddr FI27_1 rfl (add_at _ _ _)) <|
         VB.vb (i := 1) (listed' := LB 15 3) rfl (op_load 0 1 rfl rfl TI3 rfl (by decide)) rfl (by kernel_rfl) (by kernel_rfl) (by kernel_rfl) (by kernel_rfl) (by kernel_rfl) (by kernel_rfl) (PartP.on ⟨trivial, trivial, trivial⟩ ⟨trivial, ⟨⟨0, rfl⟩, trivial⟩, trivial⟩) (fun _ _ _ h => h) <|
         bv 2 7 rfl (mv rfl) <| bv 3 15 rfl (mv rfl) <| bv 4 31 rfl (op_ari64 rfl rfl rfl) <| bv 5 63 rfl (mv rfl) <| bv 6 127 rfl (op_ari64 rfl rfl rfl) <| bv 7 255 rfl (op_indexS Try.underlying9 rfl rfl c1578 c1579 rfl) <| bv 8 511 rfl (op_conv Try.underlying5 Try.underlying3 rfl (i64w _)) <|
         bv 9 1023 rfl (mv rfl) <| bv 10 2047 rfl (op_ari64 rfl rfl rfl) <| bv 11 4095 rfl (op_shl rfl rfl c1580 rfl) <| bv 12 8191 rfl (op_bits rfl rfl rfl) <| bv 13 16383 rfl (op_fieldAddr FI27_1 rfl (add_at _ _ _)) <|
         VB.one1 (i := 14) (listed' := LB 15 32767) (by kernel_rfl) rfl (o_store 0 1 rfl rfl rfl TI3 (.c rfl) rfl (len rfl)) rfl (by kernel_rfl) (PartP.off (by kernel_rfl) ⟨trivial, trivial, trivial⟩) <| VB.done (by kernel_rfl) <| VN.meet0 [0, 1] [] trivial
      intro _
      refine VN.block <| tr <| va (op_ari64 rfl rfl rfl) <| vm rfl <| dn <| VN.again [0, 1] [] (ihl11 (wrap64 (i1567 + 1)) (Go.bits .or .i64 i1568 (IntKind.i64.wrap ((wrap64 (bt a1 (wrap64 ((wrap64 (5 + 1)) + i1567)))) * 2 ^ min (wrap64 (8 * i1567)).toNat IntKind.i64.bits))) h)
    cases lF c1577 hb1575
    refine cf <| VC.exit <| VX.then <| VX.then <| VX.hit <| VN.meet1 i1568 [0, 1] [] h
  clear h
  intro i1581 h
  unfold journal_read.j10 at h
  refine VC.join1 (fun (i1800 : Int) => ⟨109, [(0, iv a0), (1, .string a1), (2, iv a2), (6, pt g792 0), (7, .bool false), (9, pt g794 0)], [], [(g794, 27, [sn, sn, iv i1581, iv (wrap64 (bt a1 5)), iv i1800, sn, sn]), (g792, 27, [sn, sn, iv 0, iv 0, iv 0, sn, sn])], []⟩) (fun (i1800 : Int) => journal_read.j14 k a0 a1 a2 i1581 i1800 = some (r1, r2, r3, r4, r5, r6, r7, r8)) ?_ ?_
  · refine sr <| vm rfl <| dt <| VC.block <| VC.loop2 (fun (i1786 : Int) (i1787 : Int) => ⟨109, [(0, iv a0), (1, .string a1), (2, iv a2), (6, pt g792 0), (7, .bool false), (8, iv 5), (9, pt g794 0), (37, iv i1786)], [], [(g794, 27, [sn, sn, iv i1581, iv (wrap64 (bt a1 5)), iv i1787, sn, sn]), (g792, 27, [sn, sn, iv 0, iv 0, iv 0, sn, sn])], []⟩) (fun (ml15 : Nat) (i1786 : Int) (i1787 : Int) => journal_read.l15 k a0 a1 a2 i1581 ml15 i1786 i1787 = some (r1, r2, r3, r4, r5, r6, r7, r8)) k 0 0 [0, 1] [] h ⟨rfl, ⟨rfl, rfl, rfl, rfl, rfl, rfl, rfl, rfl, trivial⟩, trivial, rfl, by decide, rfl, by decide⟩ (by intros; simp [journal_read.l15]) <|
     ?_
    clear h
    intro ml15 ihl15 i1786 i1787 h
    simp only [journal_read.l15] at h
    refine sr <| VL.letter (decide (i1786 < 4)) fun b1794 hb1794 => va (op_cmp rfl rfl (congrArg some hb1794)) <| ds <| ?_
    replace h := iC h
    rcases h with ⟨c1796, h⟩ | ⟨c1796, h⟩
    · cases lT c1796 hb1794
      refine ct <| sk <| sq <| VC.block <| sr <| vm rfl <| vs rfl <| dt <| ?_
      replace h := iN h
      obtain ⟨c1797, h⟩ := h
      replace h := iN h
      obtain ⟨c1798, h⟩ := h
      replace h := iN h
      obtain ⟨c1799, h⟩ := h
      refine VC.stop0 (⟨109, [(0, iv a0), (1, .string a1), (2, iv a2), (6, pt g792 0), (7, .bool false), (8, iv 5), (9, pt g794 0), (11, iv i1786), (37, iv i1786), (38, .bool true), (39, iv i1786), (40, pt g794 4), (41, iv i1787), (42, .string a1), (43, iv 5), (44, iv (wrap64 (5 + 9))), (45, iv i1786), (46, iv (wrap64 ((wrap64 (5 + 9)) + i1786))), (47, .int .u8 (bt a1 (wrap64 ((wrap64 (5 + 9)) + i1786)))), (48, iv (wrap64 (bt a1 (wrap64 ((wrap64 (5 + 9)) + i1786))))), (49, iv i1786), (50, iv (wrap64 (8 * i1786))), (51, iv (IntKind.i64.wrap ((wrap64 (bt a1 (wrap64 ((wrap64 (5 + 9)) + i1786)))) * 2 ^ min (wrap64 (8 * i1786)).toNat IntKind.i64.bits))), (52, iv (Go.bits .or .i64 i1787 (IntKind.i64.wrap ((wrap64 (bt a1 (wrap64 ((wrap64 (5 + 9)) + i1786)))) * 2 ^ min (wrap64 (8 * i1786)).toNat IntKind.i64.bits)))), (53, pt g794 4)], [], [(g794, 27, [sn, sn, iv i1581, iv (wrap64 (bt a1 5)), iv (Go.bits .or .i64 i1787 (IntKind.i64.wrap ((wrap64 (bt a1 (wrap64 ((wrap64 (5 + 9)) + i1786)))) * 2 ^ min (wrap64 (8 * i1786)).toNat IntKind.i64.bits))), sn, sn]), (g792, 27, [sn, sn, iv 0, iv 0, iv 0, sn, sn])], []⟩) (True) ?_ ?_
      · exact VC.drawB ⟨0, [], [], [], []⟩ [14] ⟨0, [], [], [(g794, 27, [sn, sn, iv i1581, iv (wrap64 (bt a1 5)), iv i1787, sn, sn])], []⟩ (by kernel_rfl) rfl (by kernel_rfl) (n := 15) (listed := LB 15 0) <|
         bv 0 1 rfl (op_fieldAddr FI27_3 rfl (add_at _ _ _)) <|
         VB.vb (i := 1) (listed' := LB 15 3) rfl (op_load 0 1 rfl rfl TI3 rfl (by decide)) rfl (by kernel_rfl) (by kernel_rfl) (by kernel_rfl) (by kernel_rfl) (by kernel_rfl) (by kernel_rfl) (PartP.on ⟨trivial, trivial, trivial⟩ ⟨trivial, ⟨⟨0, rfl⟩, trivial⟩, trivial⟩) (fun _ _ _ h => h) <|
         bv 2 7 rfl (mv rfl) <| bv 3 15 rfl (mv rfl) <| bv 4 31 rfl (op_ari64 rfl rfl rfl) <| bv 5 63 rfl (mv rfl) <| bv 6 127 rfl (op_ari64 rfl rfl rfl) <| bv 7 255 rfl (op_indexS Try.underlying9 rfl rfl c1797 c1798 rfl) <| bv 8 511 rfl (op_conv Try.underlying5 Try.underlying3 rfl (i64w _)) <|
         bv 9 1023 rfl (mv rfl) <| bv 10 2047 rfl (op_ari64 rfl rfl rfl) <| bv 11 4095 rfl (op_shl rfl rfl c1799 rfl) <| bv 12 8191 rfl (op_bits rfl rfl rfl) <| bv 13 16383 rfl (op_fieldAddr FI27_3 rfl (add_at _ _ _)) <|
         VB.one1 (i := 14) (listed' := LB 15 32767) (by kernel_rfl) rfl (o_store 0 1 rfl rfl rfl TI3 (.c rfl) rfl (len rfl)) rfl (by kernel_rfl) (PartP.off (by kernel_rfl) ⟨trivial, trivial, trivial⟩) <| VB.done (by kernel_rfl) <| VN.meet0 [0, 1] [] trivial
      intro _
      refine VN.block <| tr <| va (op_ari64 rfl rfl rfl) <| vm rfl <| dn <| VN.again [0, 1] [] (ihl15 (wrap64 (i1786 + 1)) (Go.bits .or .i64 i1787 (IntKind.i64.wrap ((wrap64 (bt a1 (wrap64 ((wrap64 (5 + 9)) + i1786)))) * 2 ^ min (wrap64 (8 * i1786)).toNat IntKind.i64.bits))) h)
    cases lF c1796 hb1794
    refine cf <| VC.exit <| VX.then <| VX.then <| VX.hit <| VN.meet1 i1787 [0, 1] [] h
  clear h
  intro i1800 h
  unfold journal_read.j14 at h
  refine VC.letter (decide (i1581 ≥ 1)) fun b1801 hb1801 => ?_
  replace h := iC h
  rcases h with ⟨c1802, h⟩ | ⟨c1802, h⟩
  · cases lT c1802 hb1801
    refine VC.letter (decide (i1581 ≤ 1099511627776)) fun b1803 hb1803 => ?_
    replace h := iC h
    rcases h with ⟨c1804, h⟩ | ⟨c1804, h⟩
    · cases lT c1804 hb1803
      refine VC.letter (((i1581.tmod 2) == a0)) fun b1805 hb1805 => ?_
      replace h := iC h
      rcases h with ⟨c1806, h⟩ | ⟨c1806, h⟩
      · obtain rfl : b1805 = true := hb1805.symm.trans (beq_iff_eq.2 c1806)
        refine VC.letter (decide ((wrap64 (bt a1 5)) ≤ 1)) fun b1807 hb1807 => ?_
        replace h := iC h
        rcases h with ⟨c1808, h⟩ | ⟨c1808, h⟩
        · cases lT c1808 hb1807
          replace h := bd h
          obtain ⟨t1809, hA1810, h⟩ := h
          refine VC.letter (decide (i1800 ≤ t1809)) fun b1811 hb1811 => VC.join0 (⟨109, [(1, .string a1), (6, pt g792 0), (7, .bool false), (9, pt g794 0), (12, .bool b1811)], [], [(g794, 27, [sn, sn, iv i1581, iv (wrap64 (bt a1 5)), iv i1800, sn, sn]), (g792, 27, [sn, sn, iv 0, iv 0, iv 0, sn, sn])], []⟩) (True) ?_ ?_
          · refine dw ⟨0, [], [], [(g794, 27, [sn, sn, iv i1581, iv (wrap64 (bt a1 5)), iv i1800, sn, sn])], []⟩ 28 <| av 0 1 rfl (op_fieldAddr FI27_1 rfl (add_at _ _ _)) <| av 1 3 rfl (op_load 0 1 rfl rfl TI3 rfl (by decide)) <|
             av 2 7 rfl (op_cmp rfl rfl (congrArg some hb1801)) <| av 3 15 rfl (mv rfl) <| av 4 31 rfl (op_fieldAddr FI27_1 rfl (add_at _ _ _)) <| av 5 63 rfl (op_load 0 1 rfl rfl TI3 rfl (by decide)) <| av 6 127 rfl (op_cmp rfl rfl (congrArg some hb1803)) <| av 7 255 rfl (op_pick rfl rfl) <|
             av 8 511 rfl (mv rfl) <| av 9 1023 rfl (op_fieldAddr FI27_1 rfl (add_at _ _ _)) <| av 10 2047 rfl (op_load 0 1 rfl rfl TI3 rfl (by decide)) <| av 11 4095 rfl (op_rem rfl rfl (by decide) rfl) <| av 12 8191 rfl (mv rfl) <| av 13 16383 rfl (op_cmp rfl rfl (congrArg some hb1805)) <|
             av 14 32767 rfl (op_pick rfl rfl) <| av 15 65535 rfl (mv rfl) <| av 16 131071 rfl (op_fieldAddr FI27_2 rfl (add_at _ _ _)) <| av 17 262143 rfl (op_load 0 1 rfl rfl TI3 rfl (by decide)) <| av 18 524287 rfl (op_cmp rfl rfl (congrArg some hb1807)) <| av 19 1048575 rfl (op_pick rfl rfl) <|
             av 20 2097151 rfl (mv rfl) <| av 21 4194303 rfl (op_fieldAddr FI27_3 rfl (add_at _ _ _)) <| av 22 8388607 rfl (op_load 0 1 rfl rfl TI3 rfl (by decide)) <| av 23 16777215 rfl (mv rfl) <| aC 24 33554431 rfl (o_call0 FO55 (journal_room.ok a2 t1809 hA1810) rfl rfl (ltn rfl) (All_of .nil)) <| ?_
            rintro _ _ _ ⟨rfl, rfl, rfl⟩
            refine ⟨⟨trivial, ⟨⟨0, rfl⟩, trivial⟩, trivial⟩, ?_⟩
            exact av 25 67108863 rfl (op_cmp rfl rfl (congrArg some hb1811)) <| av 26 134217727 rfl (op_pick rfl rfl) <| av 27 268435455 rfl (ag rfl) <| ad <| VN.meet0 [0, 1] [] trivial
          intro _
          refine sr <| va (op_fieldAddr FI27_1 rfl (add_at _ _ _)) <| va (op_load 0 1 rfl rfl TI3 rfl (by decide)) <| va (op_fieldAddr FI27_2 rfl (add_at _ _ _)) <| va (op_load 0 1 rfl rfl TI3 rfl (by decide)) <| va (op_fieldAddr FI27_3 rfl (add_at _ _ _)) <| va (op_load 0 1 rfl rfl TI3 rfl (by decide)) <| ?_
          replace h := bd h
          obtain ⟨r1812, hA1813, h⟩ := h
          refine sC (o_call0 FO39 (journal_headOf.ok k i1581 (wrap64 (bt a1 5)) i1800 r1812 hA1813) rfl rfl (ltn rfl) (All_of .nil)) <| ?_
          rintro _ _ _ ⟨rfl, rfl, rfl⟩
          refine sG (o_alloc Z74 ZL74) fun g1814 => ?_
          replace h := iN h
          obtain ⟨c1815, h⟩ := h
          replace h := iN h
          obtain ⟨c1816, h⟩ := h
          refine s1 (o_storeA 0 rfl rfl rfl TI74 c1815 c1816) <| dt <| ?_
          replace h := iC h
          rcases h with ⟨c1817, h⟩ | ⟨c1817, h⟩
          · cases lT c1817 hb1811
            replace h := iN h
            obtain ⟨c1818, h⟩ := h
            replace h := iN h
            obtain ⟨c1819, h⟩ := h
            replace h := iN h
            obtain ⟨c1822, h⟩ := h
            replace h := iN h
            obtain ⟨c1825, h⟩ := h
            refine VC.letter (decide (r1812 = ((byI (a1.extract 0 32)).take 32))) fun b1826 hb1826 => ?_
            replace h := iC h
            rcases h with ⟨c1827, h⟩ | ⟨c1827, h⟩
            · cases lT c1827 hb1826
              replace h := iN h
              obtain ⟨c1828, h⟩ := h
              replace h := iN h
              obtain ⟨c1831, h⟩ := h
              replace h := iN h
              obtain ⟨c1834, h⟩ := h
              refine VC.letter (decide (r1812 = ((byI (a1.extract 32 a1.size)).take 32))) fun b1835 hb1835 => VC.join0 (⟨109, [(6, pt g792 0), (7, .bool b1835)], [], [(g792, 27, [sn, sn, iv i1581, iv (wrap64 (bt a1 5)), iv i1800, sn, sn])], []⟩) (True) ?_ ?_
              · refine dw ⟨0, [], [], [(g1814, 74, ints .u8 r1812), (g794, 27, [sn, sn, iv i1581, iv (wrap64 (bt a1 5)), iv i1800, sn, sn])], []⟩ 22 <| av 0 1 rfl (op_load 1 7 rfl rfl TI27 rfl (fun h => absurd h (by decide))) <|
                 av 1 3 rfl (mv rfl) <| av 2 7 rfl (mv rfl) <| av 3 15 rfl (op_loadA 0 rfl rfl TI74 c1815) <| av 4 31 rfl (mv rfl) <| av 5 63 rfl (op_sliceS 0 32 Try.underlying9 rfl ⟨rfl, ⟨_, _, rfl, (by decide), rfl⟩, Nat.zero_le _, tN (a := (32 : Int)) (b := (a1.size : Int)) rfl rfl c1818⟩ rfl) <|
                 aG 6 127 rfl (o_strBytes (es3 := List.map enc_intu8 (byI (a1.extract 0 32))) rfl Try.underlying9 Try.underlying41 Try.underlying5 rfl c1819) fun v1821 => VA.more ⟨0, [], [.row v1821 1 ((byI (a1.extract 0 32)).map enc_intu8)], [(g1814, 74, ints .u8 r1812), (g794, 27, [sn, sn, iv i1581, iv (wrap64 (bt a1 5)), iv i1800, sn, sn])], []⟩ ⟨trivial, ⟨⟨0, rfl⟩, ⟨1, rfl⟩, trivial⟩, trivial⟩ <|
                 VA.open (m := (byI (a1.extract 0 32)).length) 0 lenm rfl (Nat.lt_of_lt_of_le (by decide) c1822) <| ?_
                rintro ad1823 n1824 rfl
                refine av 7 255 rfl (op_arrayAt Try.underlying74 rfl c1822) <| av 8 511 rfl (op_loadRA 0 (fun _ => rfl) rfl rfl TI74 c1822) <| av 9 1023 rfl (op_eqA Try.underlying74 (by kernel_rfl) TI5 Try.underlying5 (by kernel_rfl) rfl rfl c1815 c1825 hb1826) <| av 10 2047 rfl (op_pick rfl rfl) <|
                 av 11 4095 rfl (mv rfl) <| av 12 8191 rfl (op_loadA 0 rfl rfl TI74 c1815) <| av 13 16383 rfl (mv rfl) <| av 14 32767 rfl (op_sliceS 32 a1.size Try.underlying9 rfl ⟨⟨_, _, rfl, (by decide), rfl⟩, rfl, tN (a := (32 : Int)) (b := (a1.size : Int)) rfl rfl c1818, Nat.le_refl _⟩ rfl) <|
                 VA.all [15, 20] (by kernel_rfl) (by simp) <|
                 VAll.consG (listed' := LB 22 65535) rfl (o_strBytes (es3 := List.map enc_intu8 (byI (a1.extract 32 a1.size))) rfl Try.underlying9 Try.underlying41 Try.underlying5 rfl c1828) rfl (by kernel_rfl) (fun _ => ⟨⟨⟨1, rfl⟩, trivial⟩, ⟨⟨0, rfl⟩, ⟨1, rfl⟩, trivial⟩, trivial⟩) ?_ ?_
                · intro v1830
                  refine VA.more ⟨0, [], [.row (.slice (some ad1823) (byI (a1.extract 0 32)).length n1824) 1 ((byI (a1.extract 0 32)).map enc_intu8), .row v1830 1 ((byI (a1.extract 32 a1.size)).map enc_intu8)], [(g1814, 74, ints .u8 r1812), (g794, 27, [sn, sn, iv i1581, iv (wrap64 (bt a1 5)), iv i1800, sn, sn])], []⟩ ⟨⟨⟨0, rfl⟩, trivial⟩, ⟨⟨0, rfl⟩, ⟨1, rfl⟩, trivial⟩, trivial⟩ <|
                   VA.open (m := (byI (a1.extract 32 a1.size)).length) 0 lenm rfl (Nat.lt_of_lt_of_le (by decide) c1831) <| ?_
                  rintro ad1832 n1833 rfl
                  exact av 16 131071 rfl (op_arrayAt Try.underlying74 rfl c1831) <| av 17 262143 rfl (op_loadRA 1 (fun _ => rfl) rfl rfl TI74 c1831) <| av 18 524287 rfl (op_eqA Try.underlying74 (by kernel_rfl) TI5 Try.underlying5 (by kernel_rfl) rfl rfl c1815 c1834 hb1835) <| av 19 1048575 rfl (op_pick rfl rfl) <|
                   aO 20 2097151 rfl (o_store 2 7 rfl rfl rfl TI27 (.agg (.of rfl)) rfl (len rfl)) <| av 21 4194303 rfl (ag rfl) <| ad <| VN.meet0 [2] [] trivial
                refine VAll.cons1 (listed' := LB 22 1081343) rfl (o_store 2 7 rfl rfl rfl TI27 (.agg (.of rfl)) rfl (len rfl)) rfl (by kernel_rfl) ⟨⟨⟨0, rfl⟩, trivial⟩, ⟨⟨0, rfl⟩, ⟨1, rfl⟩, trivial⟩, trivial⟩ ?_ VAll.nil
                refine aG 15 1114111 rfl (o_strBytes (es3 := List.map enc_intu8 (byI (a1.extract 32 a1.size))) rfl Try.underlying9 Try.underlying41 Try.underlying5 rfl c1828) fun v1830 => VA.more ⟨0, [], [.row (.slice (some ad1823) (byI (a1.extract 0 32)).length n1824) 1 ((byI (a1.extract 0 32)).map enc_intu8), .row v1830 1 ((byI (a1.extract 32 a1.size)).map enc_intu8)], [(g1814, 74, ints .u8 r1812), (g794, 27, [sn, sn, iv i1581, iv (wrap64 (bt a1 5)), iv i1800, sn, sn])], []⟩ ⟨⟨⟨0, rfl⟩, trivial⟩, ⟨⟨0, rfl⟩, ⟨1, rfl⟩, trivial⟩, trivial⟩ <|
                 VA.open (m := (byI (a1.extract 32 a1.size)).length) 0 lenm rfl (Nat.lt_of_lt_of_le (by decide) c1831) <| ?_
                rintro ad1832 n1833 rfl
                exact av 16 1179647 rfl (op_arrayAt Try.underlying74 rfl c1831) <| av 17 1310719 rfl (op_loadRA 1 (fun _ => rfl) rfl rfl TI74 c1831) <| av 18 1572863 rfl (op_eqA Try.underlying74 (by kernel_rfl) TI5 Try.underlying5 (by kernel_rfl) rfl rfl c1815 c1834 hb1835) <|
                 av 19 2097151 rfl (op_pick rfl rfl) <| av 21 4194303 rfl (ag rfl) <| ad <| VN.meet0 [2] [] trivial
              intro _
              refine VC.ret <| ?_
              simp only [Option.some.injEq, Prod.mk.injEq] at h
              obtain ⟨rfl, rfl, rfl, rfl, rfl, rfl, rfl, rfl⟩ := h
              subst hb1835
              exact VR.nilRow' 9 1 <| VR.nilRow' 56 2 <| VR.nilRow' 9 1 <| VR.nilRow' 9 1 <| rf [.cell 6 27, .tmp 7] [3, 2, 1, 0] (.cell 0 rfl rfl TI27 (fun h => absurd h (by decide)) (.tmp rfl .nil)) ⟨sn, sn, sn, sn, rfl, rfl, rfl⟩
            cases lF c1827 hb1826
            refine VC.join0 (⟨109, [(6, pt g792 0), (7, .bool false)], [], [(g792, 27, [sn, sn, iv i1581, iv (wrap64 (bt a1 5)), iv i1800, sn, sn])], []⟩) (True) ?_ ?_
            · refine dw ⟨0, [], [], [(g1814, 74, ints .u8 r1812), (g794, 27, [sn, sn, iv i1581, iv (wrap64 (bt a1 5)), iv i1800, sn, sn])], []⟩ 22 <| av 0 1 rfl (op_load 1 7 rfl rfl TI27 rfl (fun h => absurd h (by decide))) <|
               av 1 3 rfl (mv rfl) <| av 2 7 rfl (mv rfl) <| av 3 15 rfl (op_loadA 0 rfl rfl TI74 c1815) <| av 4 31 rfl (mv rfl) <| av 5 63 rfl (op_sliceS 0 32 Try.underlying9 rfl ⟨rfl, ⟨_, _, rfl, (by decide), rfl⟩, Nat.zero_le _, tN (a := (32 : Int)) (b := (a1.size : Int)) rfl rfl c1818⟩ rfl) <|
               aG 6 127 rfl (o_strBytes (es3 := List.map enc_intu8 (byI (a1.extract 0 32))) rfl Try.underlying9 Try.underlying41 Try.underlying5 rfl c1819) fun v1821 => VA.more ⟨0, [], [.row v1821 1 ((byI (a1.extract 0 32)).map enc_intu8)], [(g1814, 74, ints .u8 r1812), (g794, 27, [sn, sn, iv i1581, iv (wrap64 (bt a1 5)), iv i1800, sn, sn])], []⟩ ⟨trivial, ⟨⟨0, rfl⟩, ⟨1, rfl⟩, trivial⟩, trivial⟩ <|
               VA.open (m := (byI (a1.extract 0 32)).length) 0 lenm rfl (Nat.lt_of_lt_of_le (by decide) c1822) <| ?_
              rintro ad1823 n1824 rfl
              exact av 7 255 rfl (op_arrayAt Try.underlying74 rfl c1822) <| av 8 511 rfl (op_loadRA 0 (fun _ => rfl) rfl rfl TI74 c1822) <| av 9 1023 rfl (op_eqA Try.underlying74 (by kernel_rfl) TI5 Try.underlying5 (by kernel_rfl) rfl rfl c1815 c1825 hb1826) <| av 10 2047 rfl (op_pick rfl rfl) <|
               av 11 4095 rfl (mv rfl) <| au 12 8191 rfl rfl <| au 13 16383 rfl rfl <| au 14 32767 rfl rfl <| au 15 65535 rfl rfl <| au 16 131071 rfl rfl <| au 17 262143 rfl rfl <| au 18 524287 rfl rfl <| av 19 1048575 rfl (op_pick rfl rfl) <|
               aO 20 2097151 rfl (o_store 2 7 rfl rfl rfl TI27 (.agg (.of rfl)) rfl (len rfl)) <| av 21 4194303 rfl (ag rfl) <| ad <| VN.meet0 [2] [] trivial
            intro _
            refine VC.ret <| ?_
            simp only [Option.some.injEq, Prod.mk.injEq] at h
            obtain ⟨rfl, rfl, rfl, rfl, rfl, rfl, rfl, rfl⟩ := h
            exact VR.nilRow' 9 1 <| VR.nilRow' 56 2 <| VR.nilRow' 9 1 <| VR.nilRow' 9 1 <| rf [.cell 6 27, .tmp 7] [3, 2, 1, 0] (.cell 0 rfl rfl TI27 (fun h => absurd h (by decide)) (.tmp rfl .nil)) ⟨sn, sn, sn, sn, rfl, rfl, rfl⟩
          cases lF c1817 hb1811
          refine VC.join0 (⟨109, [(6, pt g792 0), (7, .bool false)], [], [(g792, 27, [sn, sn, iv i1581, iv (wrap64 (bt a1 5)), iv i1800, sn, sn])], []⟩) (True) ?_ ?_
          · exact dw ⟨0, [], [], [(g794, 27, [sn, sn, iv i1581, iv (wrap64 (bt a1 5)), iv i1800, sn, sn])], []⟩ 22 <| av 0 1 rfl (op_load 0 7 rfl rfl TI27 rfl (fun h => absurd h (by decide))) <| av 1 3 rfl (mv rfl) <|
             av 2 7 rfl (mv rfl) <| au 3 15 rfl rfl <| au 4 31 rfl rfl <| au 5 63 rfl rfl <| au 6 127 rfl rfl <| au 7 255 rfl rfl <| au 8 511 rfl rfl <| au 9 1023 rfl rfl <| av 10 2047 rfl (op_pick rfl rfl) <| av 11 4095 rfl (mv rfl) <| au 12 8191 rfl rfl <| au 13 16383 rfl rfl <| au 14 32767 rfl rfl <|
             au 15 65535 rfl rfl <| au 16 131071 rfl rfl <| au 17 262143 rfl rfl <| au 18 524287 rfl rfl <| av 19 1048575 rfl (op_pick rfl rfl) <| aO 20 2097151 rfl (o_store 2 7 rfl rfl rfl TI27 (.agg (.of rfl)) rfl (len rfl)) <| av 21 4194303 rfl (ag rfl) <| ad <| VN.meet0 [2] [] trivial
          intro _
          refine VC.ret <| ?_
          simp only [Option.some.injEq, Prod.mk.injEq] at h
          obtain ⟨rfl, rfl, rfl, rfl, rfl, rfl, rfl, rfl⟩ := h
          exact VR.nilRow' 9 1 <| VR.nilRow' 56 2 <| VR.nilRow' 9 1 <| VR.nilRow' 9 1 <| rf [.cell 6 27, .tmp 7] [3, 2, 1, 0] (.cell 0 rfl rfl TI27 (fun h => absurd h (by decide)) (.tmp rfl .nil)) ⟨sn, sn, sn, sn, rfl, rfl, rfl⟩
        cases lF c1808 hb1807
        refine VC.join0 (⟨109, [(1, .string a1), (6, pt g792 0), (7, .bool false), (9, pt g794 0), (12, .bool false)], [], [(g794, 27, [sn, sn, iv i1581, iv (wrap64 (bt a1 5)), iv i1800, sn, sn]), (g792, 27, [sn, sn, iv 0, iv 0, iv 0, sn, sn])], []⟩) (True) ?_ ?_
        · exact dw ⟨0, [], [], [(g794, 27, [sn, sn, iv i1581, iv (wrap64 (bt a1 5)), iv i1800, sn, sn])], []⟩ 28 <| av 0 1 rfl (op_fieldAddr FI27_1 rfl (add_at _ _ _)) <| av 1 3 rfl (op_load 0 1 rfl rfl TI3 rfl (by decide)) <|
           av 2 7 rfl (op_cmp rfl rfl (congrArg some hb1801)) <| av 3 15 rfl (mv rfl) <| av 4 31 rfl (op_fieldAddr FI27_1 rfl (add_at _ _ _)) <| av 5 63 rfl (op_load 0 1 rfl rfl TI3 rfl (by decide)) <| av 6 127 rfl (op_cmp rfl rfl (congrArg some hb1803)) <| av 7 255 rfl (op_pick rfl rfl) <|
           av 8 511 rfl (mv rfl) <| av 9 1023 rfl (op_fieldAddr FI27_1 rfl (add_at _ _ _)) <| av 10 2047 rfl (op_load 0 1 rfl rfl TI3 rfl (by decide)) <| av 11 4095 rfl (op_rem rfl rfl (by decide) rfl) <| av 12 8191 rfl (mv rfl) <| av 13 16383 rfl (op_cmp rfl rfl (congrArg some hb1805)) <|
           av 14 32767 rfl (op_pick rfl rfl) <| av 15 65535 rfl (mv rfl) <| av 16 131071 rfl (op_fieldAddr FI27_2 rfl (add_at _ _ _)) <| av 17 262143 rfl (op_load 0 1 rfl rfl TI3 rfl (by decide)) <| av 18 524287 rfl (op_cmp rfl rfl (congrArg some hb1807)) <| av 19 1048575 rfl (op_pick rfl rfl) <|
           av 20 2097151 rfl (mv rfl) <| au 21 4194303 rfl rfl <| au 22 8388607 rfl rfl <| au 23 16777215 rfl rfl <| au 24 33554431 rfl rfl <| au 25 67108863 rfl rfl <| av 26 134217727 rfl (op_pick rfl rfl) <| av 27 268435455 rfl (ag rfl) <| ad <| VN.meet0 [0, 1] [] trivial
        intro _
        refine sr <| va (op_fieldAddr FI27_1 rfl (add_at _ _ _)) <| va (op_load 0 1 rfl rfl TI3 rfl (by decide)) <| va (op_fieldAddr FI27_2 rfl (add_at _ _ _)) <| va (op_load 0 1 rfl rfl TI3 rfl (by decide)) <| va (op_fieldAddr FI27_3 rfl (add_at _ _ _)) <| va (op_load 0 1 rfl rfl TI3 rfl (by decide)) <| ?_
        replace h := bd h
        obtain ⟨r1848, hA1849, h⟩ := h
        refine sC (o_call0 FO39 (journal_headOf.ok k i1581 (wrap64 (bt a1 5)) i1800 r1848 hA1849) rfl rfl (ltn rfl) (All_of .nil)) <| ?_
        rintro _ _ _ ⟨rfl, rfl, rfl⟩
        refine sG (o_alloc Z74 ZL74) fun g1850 => ?_
        replace h := iN h
        obtain ⟨c1851, h⟩ := h
        replace h := iN h
        obtain ⟨c1852, h⟩ := h
        refine s1 (o_storeA 0 rfl rfl rfl TI74 c1851 c1852) <| dt <|
         VC.join0 (⟨109, [(6, pt g792 0), (7, .bool false)], [], [(g792, 27, [sn, sn, iv i1581, iv (wrap64 (bt a1 5)), iv i1800, sn, sn])], []⟩) (True) ?_ ?_
        · exact dw ⟨0, [], [], [(g794, 27, [sn, sn, iv i1581, iv (wrap64 (bt a1 5)), iv i1800, sn, sn])], []⟩ 22 <| av 0 1 rfl (op_load 0 7 rfl rfl TI27 rfl (fun h => absurd h (by decide))) <| av 1 3 rfl (mv rfl) <|
           av 2 7 rfl (mv rfl) <| au 3 15 rfl rfl <| au 4 31 rfl rfl <| au 5 63 rfl rfl <| au 6 127 rfl rfl <| au 7 255 rfl rfl <| au 8 511 rfl rfl <| au 9 1023 rfl rfl <| av 10 2047 rfl (op_pick rfl rfl) <| av 11 4095 rfl (mv rfl) <| au 12 8191 rfl rfl <| au 13 16383 rfl rfl <| au 14 32767 rfl rfl <|
           au 15 65535 rfl rfl <| au 16 131071 rfl rfl <| au 17 262143 rfl rfl <| au 18 524287 rfl rfl <| av 19 1048575 rfl (op_pick rfl rfl) <| aO 20 2097151 rfl (o_store 2 7 rfl rfl rfl TI27 (.agg (.of rfl)) rfl (len rfl)) <| av 21 4194303 rfl (ag rfl) <| ad <| VN.meet0 [2] [] trivial
        intro _
        refine VC.ret <| ?_
        simp only [Option.some.injEq, Prod.mk.injEq] at h
        obtain ⟨rfl, rfl, rfl, rfl, rfl, rfl, rfl, rfl⟩ := h
        exact VR.nilRow' 9 1 <| VR.nilRow' 56 2 <| VR.nilRow' 9 1 <| VR.nilRow' 9 1 <| rf [.cell 6 27, .tmp 7] [3, 2, 1, 0] (.cell 0 rfl rfl TI27 (fun h => absurd h (by decide)) (.tmp rfl .nil)) ⟨sn, sn, sn, sn, rfl, rfl, rfl⟩
      obtain rfl : b1805 = false := hb1805.symm.trans (beq_eq_false_iff_ne.2 c1806)
      refine VC.join0 (⟨109, [(1, .string a1), (6, pt g792 0), (7, .bool false), (9, pt g794 0), (12, .bool false)], [], [(g794, 27, [sn, sn, iv i1581, iv (wrap64 (bt a1 5)), iv i1800, sn, sn]), (g792, 27, [sn, sn, iv 0, iv 0, iv 0, sn, sn])], []⟩) (True) ?_ ?_
      · exact dw ⟨0, [], [], [(g794, 27, [sn, sn, iv i1581, iv (wrap64 (bt a1 5)), iv i1800, sn, sn])], []⟩ 28 <| av 0 1 rfl (op_fieldAddr FI27_1 rfl (add_at _ _ _)) <| av 1 3 rfl (op_load 0 1 rfl rfl TI3 rfl (by decide)) <|
         av 2 7 rfl (op_cmp rfl rfl (congrArg some hb1801)) <| av 3 15 rfl (mv rfl) <| av 4 31 rfl (op_fieldAddr FI27_1 rfl (add_at _ _ _)) <| av 5 63 rfl (op_load 0 1 rfl rfl TI3 rfl (by decide)) <| av 6 127 rfl (op_cmp rfl rfl (congrArg some hb1803)) <| av 7 255 rfl (op_pick rfl rfl) <|
         av 8 511 rfl (mv rfl) <| av 9 1023 rfl (op_fieldAddr FI27_1 rfl (add_at _ _ _)) <| av 10 2047 rfl (op_load 0 1 rfl rfl TI3 rfl (by decide)) <| av 11 4095 rfl (op_rem rfl rfl (by decide) rfl) <| av 12 8191 rfl (mv rfl) <| av 13 16383 rfl (op_cmp rfl rfl (congrArg some hb1805)) <|
         av 14 32767 rfl (op_pick rfl rfl) <| av 15 65535 rfl (mv rfl) <| au 16 131071 rfl rfl <| au 17 262143 rfl rfl <| au 18 524287 rfl rfl <| av 19 1048575 rfl (op_pick rfl rfl) <| av 20 2097151 rfl (mv rfl) <| au 21 4194303 rfl rfl <| au 22 8388607 rfl rfl <| au 23 16777215 rfl rfl <|
         au 24 33554431 rfl rfl <| au 25 67108863 rfl rfl <| av 26 134217727 rfl (op_pick rfl rfl) <| av 27 268435455 rfl (ag rfl) <| ad <| VN.meet0 [0, 1] [] trivial
      intro _
      refine sr <| va (op_fieldAddr FI27_1 rfl (add_at _ _ _)) <| va (op_load 0 1 rfl rfl TI3 rfl (by decide)) <| va (op_fieldAddr FI27_2 rfl (add_at _ _ _)) <| va (op_load 0 1 rfl rfl TI3 rfl (by decide)) <| va (op_fieldAddr FI27_3 rfl (add_at _ _ _)) <| va (op_load 0 1 rfl rfl TI3 rfl (by decide)) <| ?_
      replace h := bd h
      obtain ⟨r1857, hA1858, h⟩ := h
      refine sC (o_call0 FO39 (journal_headOf.ok k i1581 (wrap64 (bt a1 5)) i1800 r1857 hA1858) rfl rfl (ltn rfl) (All_of .nil)) <| ?_
      rintro _ _ _ ⟨rfl, rfl, rfl⟩
      refine sG (o_alloc Z74 ZL74) fun g1859 => ?_
      replace h := iN h
      obtain ⟨c1860, h⟩ := h
      replace h := iN h
      obtain ⟨c1861, h⟩ := h
      refine s1 (o_storeA 0 rfl rfl rfl TI74 c1860 c1861) <| dt <|
       VC.join0 (⟨109, [(6, pt g792 0), (7, .bool false)], [], [(g792, 27, [sn, sn, iv i1581, iv (wrap64 (bt a1 5)), iv i1800, sn, sn])], []⟩) (True) ?_ ?_
      · exact dw ⟨0, [], [], [(g794, 27, [sn, sn, iv i1581, iv (wrap64 (bt a1 5)), iv i1800, sn, sn])], []⟩ 22 <| av 0 1 rfl (op_load 0 7 rfl rfl TI27 rfl (fun h => absurd h (by decide))) <| av 1 3 rfl (mv rfl) <|
         av 2 7 rfl (mv rfl) <| au 3 15 rfl rfl <| au 4 31 rfl rfl <| au 5 63 rfl rfl <| au 6 127 rfl rfl <| au 7 255 rfl rfl <| au 8 511 rfl rfl <| au 9 1023 rfl rfl <| av 10 2047 rfl (op_pick rfl rfl) <| av 11 4095 rfl (mv rfl) <| au 12 8191 rfl rfl <| au 13 16383 rfl rfl <| au 14 32767 rfl rfl <|
         au 15 65535 rfl rfl <| au 16 131071 rfl rfl <| au 17 262143 rfl rfl <| au 18 524287 rfl rfl <| av 19 1048575 rfl (op_pick rfl rfl) <| aO 20 2097151 rfl (o_store 2 7 rfl rfl rfl TI27 (.agg (.of rfl)) rfl (len rfl)) <| av 21 4194303 rfl (ag rfl) <| ad <| VN.meet0 [2] [] trivial
      intro _
      refine VC.ret <| ?_
      simp only [Option.some.injEq, Prod.mk.injEq] at h
      obtain ⟨rfl, rfl, rfl, rfl, rfl, rfl, rfl, rfl⟩ := h
      exact VR.nilRow' 9 1 <| VR.nilRow' 56 2 <| VR.nilRow' 9 1 <| VR.nilRow' 9 1 <| rf [.cell 6 27, .tmp 7] [3, 2, 1, 0] (.cell 0 rfl rfl TI27 (fun h => absurd h (by decide)) (.tmp rfl .nil)) ⟨sn, sn, sn, sn, rfl, rfl, rfl⟩
    cases lF c1804 hb1803
    refine VC.join0 (⟨109, [(1, .string a1), (6, pt g792 0), (7, .bool false), (9, pt g794 0), (12, .bool false)], [], [(g794, 27, [sn, sn, iv i1581, iv (wrap64 (bt a1 5)), iv i1800, sn, sn]), (g792, 27, [sn, sn, iv 0, iv 0, iv 0, sn, sn])], []⟩) (True) ?_ ?_
    · exact dw ⟨0, [], [], [(g794, 27, [sn, sn, iv i1581, iv (wrap64 (bt a1 5)), iv i1800, sn, sn])], []⟩ 28 <| av 0 1 rfl (op_fieldAddr FI27_1 rfl (add_at _ _ _)) <| av 1 3 rfl (op_load 0 1 rfl rfl TI3 rfl (by decide)) <|
       av 2 7 rfl (op_cmp rfl rfl (congrArg some hb1801)) <| av 3 15 rfl (mv rfl) <| av 4 31 rfl (op_fieldAddr FI27_1 rfl (add_at _ _ _)) <| av 5 63 rfl (op_load 0 1 rfl rfl TI3 rfl (by decide)) <| av 6 127 rfl (op_cmp rfl rfl (congrArg some hb1803)) <| av 7 255 rfl (op_pick rfl rfl) <|
       av 8 511 rfl (mv rfl) <| au 9 1023 rfl rfl <| au 10 2047 rfl rfl <| au 11 4095 rfl rfl <| au 12 8191 rfl rfl <| au 13 16383 rfl rfl <| av 14 32767 rfl (op_pick rfl rfl) <| av 15 65535 rfl (mv rfl) <| au 16 131071 rfl rfl <| au 17 262143 rfl rfl <| au 18 524287 rfl rfl <|
       av 19 1048575 rfl (op_pick rfl rfl) <| av 20 2097151 rfl (mv rfl) <| au 21 4194303 rfl rfl <| au 22 8388607 rfl rfl <| au 23 16777215 rfl rfl <| au 24 33554431 rfl rfl <| au 25 67108863 rfl rfl <| av 26 134217727 rfl (op_pick rfl rfl) <| av 27 268435455 rfl (ag rfl) <| ad <|
       VN.meet0 [0, 1] [] trivial
    intro _
    refine sr <| va (op_fieldAddr FI27_1 rfl (add_at _ _ _)) <| va (op_load 0 1 rfl rfl TI3 rfl (by decide)) <| va (op_fieldAddr FI27_2 rfl (add_at _ _ _)) <| va (op_load 0 1 rfl rfl TI3 rfl (by decide)) <| va (op_fieldAddr FI27_3 rfl (add_at _ _ _)) <| va (op_load 0 1 rfl rfl TI3 rfl (by decide)) <| ?_
    replace h := bd h
    obtain ⟨r1866, hA1867, h⟩ := h
    refine sC (o_call0 FO39 (journal_headOf.ok k i1581 (wrap64 (bt a1 5)) i1800 r1866 hA1867) rfl rfl (ltn rfl) (All_of .nil)) <| ?_
    rintro _ _ _ ⟨rfl, rfl, rfl⟩
    refine sG (o_alloc Z74 ZL74) fun g1868 => ?_
    replace h := iN h
    obtain ⟨c1869, h⟩ := h
    replace h := iN h
    obtain ⟨c1870, h⟩ := h
    refine s1 (o_storeA 0 rfl rfl rfl TI74 c1869 c1870) <| dt <|
     VC.join0 (⟨109, [(6, pt g792 0), (7, .bool false)], [], [(g792, 27, [sn, sn, iv i1581, iv (wrap64 (bt a1 5)), iv i1800, sn, sn])], []⟩) (True) ?_ ?_
    · exact dw ⟨0, [], [], [(g794, 27, [sn, sn, iv i1581, iv (wrap64 (bt a1 5)), iv i1800, sn, sn])], []⟩ 22 <| av 0 1 rfl (op_load 0 7 rfl rfl TI27 rfl (fun h => absurd h (by decide))) <| av 1 3 rfl (mv rfl) <|
       av 2 7 rfl (mv rfl) <| au 3 15 rfl rfl <| au 4 31 rfl rfl <| au 5 63 rfl rfl <| au 6 127 rfl rfl <| au 7 255 rfl rfl <| au 8 511 rfl rfl <| au 9 1023 rfl rfl <| av 10 2047 rfl (op_pick rfl rfl) <| av 11 4095 rfl (mv rfl) <| au 12 8191 rfl rfl <| au 13 16383 rfl rfl <| au 14 32767 rfl rfl <|
       au 15 65535 rfl rfl <| au 16 131071 rfl rfl <| au 17 262143 rfl rfl <| au 18 524287 rfl rfl <| av 19 1048575 rfl (op_pick rfl rfl) <| aO 20 2097151 rfl (o_store 2 7 rfl rfl rfl TI27 (.agg (.of rfl)) rfl (len rfl)) <| av 21 4194303 rfl (ag rfl) <| ad <| VN.meet0 [2] [] trivial
    intro _
    refine VC.ret <| ?_
    simp only [Option.some.injEq, Prod.mk.injEq] at h
    obtain ⟨rfl, rfl, rfl, rfl, rfl, rfl, rfl, rfl⟩ := h
    exact VR.nilRow' 9 1 <| VR.nilRow' 56 2 <| VR.nilRow' 9 1 <| VR.nilRow' 9 1 <| rf [.cell 6 27, .tmp 7] [3, 2, 1, 0] (.cell 0 rfl rfl TI27 (fun h => absurd h (by decide)) (.tmp rfl .nil)) ⟨sn, sn, sn, sn, rfl, rfl, rfl⟩
  cases lF c1802 hb1801
  refine VC.join0 (⟨109, [(1, .string a1), (6, pt g792 0), (7, .bool false), (9, pt g794 0), (12, .bool false)], [], [(g794, 27, [sn, sn, iv i1581, iv (wrap64 (bt a1 5)), iv i1800, sn, sn]), (g792, 27, [sn, sn, iv 0, iv 0, iv 0, sn, sn])], []⟩) (True) ?_ ?_
  · exact dw ⟨0, [], [], [(g794, 27, [sn, sn, iv i1581, iv (wrap64 (bt a1 5)), iv i1800, sn, sn])], []⟩ 28 <| av 0 1 rfl (op_fieldAddr FI27_1 rfl (add_at _ _ _)) <| av 1 3 rfl (op_load 0 1 rfl rfl TI3 rfl (by decide)) <|
     av 2 7 rfl (op_cmp rfl rfl (congrArg some hb1801)) <| av 3 15 rfl (mv rfl) <| au 4 31 rfl rfl <| au 5 63 rfl rfl <| au 6 127 rfl rfl <| av 7 255 rfl (op_pick rfl rfl) <| av 8 511 rfl (mv rfl) <| au 9 1023 rfl rfl <| au 10 2047 rfl rfl <| au 11 4095 rfl rfl <| au 12 8191 rfl rfl <|
     au 13 16383 rfl rfl <| av 14 32767 rfl (op_pick rfl rfl) <| av 15 65535 rfl (mv rfl) <| au 16 131071 rfl rfl <| au 17 262143 rfl rfl <| au 18 524287 rfl rfl <| av 19 1048575 rfl (op_pick rfl rfl) <| av 20 2097151 rfl (mv rfl) <| au 21 4194303 rfl rfl <| au 22 8388607 rfl rfl <|
     au 23 16777215 rfl rfl <| au 24 33554431 rfl rfl <| au 25 67108863 rfl rfl <| av 26 134217727 rfl (op_pick rfl rfl) <| av 27 268435455 rfl (ag rfl) <| ad <| VN.meet0 [0, 1] [] trivial
  intro _
  refine sr <| va (op_fieldAddr FI27_1 rfl (add_at _ _ _)) <| va (op_load 0 1 rfl rfl TI3 rfl (by decide)) <| va (op_fieldAddr FI27_2 rfl (add_at _ _ _)) <| va (op_load 0 1 rfl rfl TI3 rfl (by decide)) <| va (op_fieldAddr FI27_3 rfl (add_at _ _ _)) <| va (op_load 0 1 rfl rfl TI3 rfl (by decide)) <| ?_
  replace h := bd h
  obtain ⟨r1875, hA1876, h⟩ := h
  refine sC (o_call0 FO39 (journal_headOf.ok k i1581 (wrap64 (bt a1 5)) i1800 r1875 hA1876) rfl rfl (ltn rfl) (All_of .nil)) <| ?_
  rintro _ _ _ ⟨rfl, rfl, rfl⟩
  refine sG (o_alloc Z74 ZL74) fun g1877 => ?_
  replace h := iN h
  obtain ⟨c1878, h⟩ := h
  replace h := iN h
  obtain ⟨c1879, h⟩ := h
  refine s1 (o_storeA 0 rfl rfl rfl TI74 c1878 c1879) <| dt <|
   VC.join0 (⟨109, [(6, pt g792 0), (7, .bool false)], [], [(g792, 27, [sn, sn, iv i1581, iv (wrap64 (bt a1 5)), iv i1800, sn, sn])], []⟩) (True) ?_ ?_
  · exact dw ⟨0, [], [], [(g794, 27, [sn, sn, iv i1581, iv (wrap64 (bt a1 5)), iv i1800, sn, sn])], []⟩ 22 <| av 0 1 rfl (op_load 0 7 rfl rfl TI27 rfl (fun h => absurd h (by decide))) <| av 1 3 rfl (mv rfl) <|
     av 2 7 rfl (mv rfl) <| au 3 15 rfl rfl <| au 4 31 rfl rfl <| au 5 63 rfl rfl <| au 6 127 rfl rfl <| au 7 255 rfl rfl <| au 8 511 rfl rfl <| au 9 1023 rfl rfl <| av 10 2047 rfl (op_pick rfl rfl) <| av 11 4095 rfl (mv rfl) <| au 12 8191 rfl rfl <| au 13 16383 rfl rfl <| au 14 32767 rfl rfl <|
     au 15 65535 rfl rfl <| au 16 131071 rfl rfl <| au 17 262143 rfl rfl <| au 18 524287 rfl rfl <| av 19 1048575 rfl (op_pick rfl rfl) <| aO 20 2097151 rfl (o_store 2 7 rfl rfl rfl TI27 (.agg (.of rfl)) rfl (len rfl)) <| av 21 4194303 rfl (ag rfl) <| ad <| VN.meet0 [2] [] trivial
  intro _
  refine VC.ret <| ?_
  simp only [Option.some.injEq, Prod.mk.injEq] at h
  obtain ⟨rfl, rfl, rfl, rfl, rfl, rfl, rfl, rfl⟩ := h
  exact VR.nilRow' 9 1 <| VR.nilRow' 56 2 <| VR.nilRow' 9 1 <| VR.nilRow' 9 1 <| rf [.cell 6 27, .tmp 7] [3, 2, 1, 0] (.cell 0 rfl rfl TI27 (fun h => absurd h (by decide)) (.tmp rfl .nil)) ⟨sn, sn, sn, sn, rfl, rfl, rfl⟩

end Go.Proofs.Ytipeglbeongfmaa.PJournalOpens
