/- Written by a program of this repo: what the program's functions do, each as a Lean function, shown of the loaded code; or a statement's row over that; no condition of its own. -/
import Derived.Test.YtipeglbeongfmaaPJournalLivesx2
namespace Go.Proofs.Ytipeglbeongfmaa.PJournalLives
open Go Go.RowKit Go.Proofs.YtipeglbeongfmaaV
set_option linter.unusedVariables false
set_option linter.unusedSimpArgs false
set_option maxHeartbeats 4000000
set_option maxRecDepth 100000

theorem journal_read.ok (k : Nat) (a0 : Int) (a1 : ByteArray) (a2 : Int)  (r1 : List ByteArray) (r2 : List S55) (r3 : Int) (r4 : Int) (r5 : Int) (r6 : List ByteArray) (r7 : List ByteArray) (r8 : Bool) (h : journal_read.f k a0 a1 a2 = some (r1, r2, r3, r4, r5, r6, r7, r8)) :
    VCalls Try.prog 24 [.int .i64 a0, .string a1, .int .i64 a2] [] (fun v G own => ∃ w0 w1 w5 w6 : Value, v = .tuple #[.agg #[w0, w1, .int .i64 r3, .int .i64 r4, .int .i64 r5, w5, w6], .bool r8] ∧ G = [] ∧ own = [(w0, 9, 1, r1.map enc_str), (w1, 56, 2, r2.map enc55), (w5, 9, 1, r6.map enc_str), (w6, 9, 1, r7.map enc_str)]) := by
  refine VCalls.intro Try.func24 rfl (len rfl) fun E hC hW hD hU => ?_
  unfold journal_read.f at h
  refine sr <| sG (o_alloc Z27 ZL27) fun g1170 => vs rfl <| nx <| vs rfl <| nx <| vm rfl <| vm rfl <| ?_
  replace h := iN h
  obtain ⟨c1171, h⟩ := h
  refine va (op_indexS Try.underlying9 rfl rfl (by decide) c1171 rfl) <| va (op_conv Try.underlying5 Try.underlying3 rfl (i64w _)) <|
   va (op_build (vals := [(2, .int .i64 (wrap64 (bt a1 5)))]) (vcs := [(2, [.int .i64 (wrap64 (bt a1 5))])]) (cells := [.slice none 0 0, .slice none 0 0, .int .i64 0, .int .i64 (wrap64 (bt a1 5)), .int .i64 0, .slice none 0 0, .slice none 0 0]) SI27 rfl (.cons ⟨rfl, (.c rfl)⟩ .nil) (by kernel_rfl)) <|
   sG (o_alloc Z27 ZL27) fun g1172 => s1 (o_store 0 7 rfl rfl rfl TI27 (.agg (.of rfl)) rfl (len rfl)) <| dt <|
   VC.join1 (fun (i1829 : Int) => ⟨109, [(0, .int .i64 a0), (1, .string a1), (2, .int .i64 a2), (6, .pointer (some ⟨g1170, 0, none⟩)), (7, .bool false), (8, .int .i64 5), (9, .pointer (some ⟨g1172, 0, none⟩))], [], [(g1172, 27, [.slice none 0 0, .slice none 0 0, .int .i64 i1829, .int .i64 (wrap64 (bt a1 5)), .int .i64 0, .slice none 0 0, .slice none 0 0]), (g1170, 27, [.slice none 0 0, .slice none 0 0, .int .i64 0, .int .i64 0, .int .i64 0, .slice none 0 0, .slice none 0 0])], []⟩) (fun (i1829 : Int) => journal_read.j10 k a0 a1 a2 i1829 = some (r1, r2, r3, r4, r5, r6, r7, r8)) ?_ ?_
  · refine sr <| vm rfl <| dt <| VC.block <| VC.loop2 (fun (i1815 : Int) (i1816 : Int) => ⟨109, [(0, .int .i64 a0), (1, .string a1), (2, .int .i64 a2), (6, .pointer (some ⟨g1170, 0, none⟩)), (7, .bool false), (8, .int .i64 5), (9, .pointer (some ⟨g1172, 0, none⟩)), (19, .int .i64 i1815)], [], [(g1172, 27, [.slice none 0 0, .slice none 0 0, .int .i64 i1816, .int .i64 (wrap64 (bt a1 5)), .int .i64 0, .slice none 0 0, .slice none 0 0]), (g1170, 27, [.slice none 0 0, .slice none 0 0, .int .i64 0, .int .i64 0, .int .i64 0, .slice none 0 0, .slice none 0 0])], []⟩) (fun (ml11 : Nat) (i1815 : Int) (i1816 : Int) => journal_read.l11 k a0 a1 a2 ml11 i1815 i1816 = some (r1, r2, r3, r4, r5, r6, r7, r8)) k 0 0 [0, 1] [] h ⟨rfl, ⟨rfl, rfl, rfl, rfl, rfl, rfl, rfl, rfl, trivial⟩, trivial, rfl, by decide, rfl, by decide⟩ (by intros; simp [journal_read.l11]) <|
     ?_
    clear h
    intro ml11 ihl11 i1815 i1816 h
    simp only [journal_read.l11] at h
    refine sr <| VL.letter (decide (i1815 < 8)) fun b1823 hb1823 => va (op_cmp rfl rfl (congrArg some hb1823)) <| ds <| ?_
    replace h := iC h
    rcases h with ⟨c1825, h⟩ | ⟨c1825, h⟩
    · cases lT c1825 hb1823
      refine ct <| sk <| sq <| VC.block <| sr <| vm rfl <| vs rfl <| dt <| ?_
      replace h := iN h
      obtain ⟨c1826, h⟩ := h
      replace h := iN h
      obtain ⟨c1827, h⟩ := h
      replace h := iN h
      obtain ⟨c1828, h⟩ := h
      refine VC.stop0 (⟨109, [(0, .int .i64 a0), (1, .string a1), (2, .int .i64 a2), (6, .pointer (some ⟨g1170, 0, none⟩)), (7, .bool false), (8, .int .i64 5), (9, .pointer (some ⟨g1172, 0, none⟩)), (10, .int .i64 i1815), (19, .int .i64 i1815), (20, .bool true), (21, .int .i64 i1815), (22, .pointer (some ⟨g1172, 2, none⟩)), (23, .int .i64 i1816), (24, .string a1), (25, .int .i64 5), (26, .int .i64 (wrap64 (5 + 1))), (27, .int .i64 i1815), (28, .int .i64 (wrap64 ((wrap64 (5 + 1)) + i1815))), (29, .int .u8 (bt a1 (wrap64 ((wrap64 (5 + 1)) + i1815)))), (30, .int .i64 (wrap64 (bt a1 (wrap64 ((wrap64 (5 + 1)) + i1815))))), (31, .int .i64 i1815), (32, .int .i64 (wrap64 (8 * i1815))), (33, .int .i64 (IntKind.i64.wrap ((wrap64 (bt a1 (wrap64 ((wrap64 (5 + 1)) + i1815)))) * 2 ^ min (wrap64 (8 * i1815)).toNat IntKind.i64.bits))), (34, .int .i64 (Go.bits .or .i64 i1816 (IntKind.i64.wrap ((wrap64 (bt a1 (wrap64 ((wrap64 (5 + 1)) + i1815)))) * 2 ^ min (wrap64 (8 * i1815)).toNat IntKind.i64.bits)))), (35, .pointer (some ⟨g1172, 2, none⟩))], [], [(g1172, 27, [.slice none 0 0, .slice none 0 0, .int .i64 (Go.bits .or .i64 i1816 (IntKind.i64.wrap ((wrap64 (bt a1 (wrap64 ((wrap64 (5 + 1)) + i1815)))) * 2 ^ min (wrap64 (8 * i1815)).toNat IntKind.i64.bits))), .int .i64 (wrap64 (bt a1 5)), .int .i64 0, .slice none 0 0, .slice none 0 0]), (g1170, 27, [.slice none 0 0, .slice none 0 0, .int .i64 0, .int .i64 0, .int .i64 0, .slice none 0 0, .slice none 0 0])], []⟩) (True) ?_ ?_
      · exact VC.drawB ⟨0, [], [], [], []⟩ [14] ⟨0, [], [], [(g1172, 27, [.slice none 0 0, .slice none 0 0, .int .i64 i1816, .int .i64 (wrap64 (bt a1 5)), .int .i64 0, .slice none 0 0, .slice none 0 0])], []⟩ (by kernel_rfl) rfl (by kernel_rfl) (n := 15) (listed := LB 15 0) <|
         VB.va (i := 0) (listed' := LB 15 1) rfl (op_fieldAddr FI27_1 rfl (add_at _ _ _)) rfl (by kernel_rfl) (by kernel_rfl) (by kernel_rfl) (by kernel_rfl) (by decide) (PartP.on ⟨trivial, trivial, trivial⟩ ⟨trivial, ⟨⟨0, rfl⟩, trivial⟩, trivial⟩) (fun _ _ _ h => h) <|
         VB.vb (i := 1) (listed' := LB 15 3) rfl (op_load 0 1 rfl rfl TI3 rfl (by decide)) rfl (by kernel_rfl) (by kernel_rfl) (by kernel_rfl) (by kernel_rfl) (by kernel_rfl) (by kernel_rfl) (PartP.on ⟨trivial, trivial, trivial⟩ ⟨trivial, ⟨⟨0, rfl⟩, trivial⟩, trivial⟩) (fun _ _ _ h => h) <|
         VB.va (i := 2) (listed' := LB 15 7) rfl (mv rfl) rfl (by kernel_rfl) (by kernel_rfl) (by kernel_rfl) (by kernel_rfl) (by decide) (PartP.on ⟨trivial, trivial, trivial⟩ ⟨trivial, ⟨⟨0, rfl⟩, trivial⟩, trivial⟩) (fun _ _ _ h => h) <|
         VB.va (i := 3) (listed' := LB 15 15) rfl (mv rfl) rfl (by kernel_rfl) (by kernel_rfl) (by kernel_rfl) (by kernel_rfl) (by decide) (PartP.on ⟨trivial, trivial, trivial⟩ ⟨trivial, ⟨⟨0, rfl⟩, trivial⟩, trivial⟩) (fun _ _ _ h => h) <|
         VB.va (i := 4) (listed' := LB 15 31) rfl (op_ari64 rfl rfl rfl) rfl (by kernel_rfl) (by kernel_rfl) (by kernel_rfl) (by kernel_rfl) (by decide) (PartP.on ⟨trivial, trivial, trivial⟩ ⟨trivial, ⟨⟨0, rfl⟩, trivial⟩, trivial⟩) (fun _ _ _ h => h) <|
         VB.va (i := 5) (listed' := LB 15 63) rfl (mv rfl) rfl (by kernel_rfl) (by kernel_rfl) (by kernel_rfl) (by kernel_rfl) (by decide) (PartP.on ⟨trivial, trivial, trivial⟩ ⟨trivial, ⟨⟨0, rfl⟩, trivial⟩, trivial⟩) (fun _ _ _ h => h) <|
         VB.va (i := 6) (listed' := LB 15 127) rfl (op_ari64 rfl rfl rfl) rfl (by kernel_rfl) (by kernel_rfl) (by kernel_rfl) (by kernel_rfl) (by decide) (PartP.on ⟨trivial, trivial, trivial⟩ ⟨trivial, ⟨⟨0, rfl⟩, trivial⟩, trivial⟩) (fun _ _ _ h => h) <|
         VB.va (i := 7) (listed' := LB 15 255) rfl (op_indexS Try.underlying9 rfl rfl c1826 c1827 rfl) rfl (by kernel_rfl) (by kernel_rfl) (by kernel_rfl) (by kernel_rfl) (by decide) (PartP.on ⟨trivial, trivial, trivial⟩ ⟨trivial, ⟨⟨0, rfl⟩, trivial⟩, trivial⟩) (fun _ _ _ h => h) <|
         VB.va (i := 8) (listed' := LB 15 511) rfl (op_conv Try.underlying5 Try.underlying3 rfl (i64w _)) rfl (by kernel_rfl) (by kernel_rfl) (by kernel_rfl) (by kernel_rfl) (by decide) (PartP.on ⟨trivial, trivial, trivial⟩ ⟨trivial, ⟨⟨0, rfl⟩, trivial⟩, trivial⟩) (fun _ _ _ h => h) <|
         VB.va (i := 9) (listed' := LB 15 1023) rfl (mv rfl) rfl (by kernel_rfl) (by kernel_rfl) (by kernel_rfl) (by kernel_rfl) (by decide) (PartP.on ⟨trivial, trivial, trivial⟩ ⟨trivial, ⟨⟨0, rfl⟩, trivial⟩, trivial⟩) (fun _ _ _ h => h) <|
         VB.va (i := 10) (listed' := LB 15 2047) rfl (op_ari64 rfl rfl rfl) rfl (by kernel_rfl) (by kernel_rfl) (by kernel_rfl) (by kernel_rfl) (by decide) (PartP.on ⟨trivial, trivial, trivial⟩ ⟨trivial, ⟨⟨0, rfl⟩, trivial⟩, trivial⟩) (fun _ _ _ h => h) <|
         VB.va (i := 11) (listed' := LB 15 4095) rfl (op_shl rfl rfl c1828 rfl) rfl (by kernel_rfl) (by kernel_rfl) (by kernel_rfl) (by kernel_rfl) (by decide) (PartP.on ⟨trivial, trivial, trivial⟩ ⟨trivial, ⟨⟨0, rfl⟩, trivial⟩, trivial⟩) (fun _ _ _ h => h) <|
         VB.va (i := 12) (listed' := LB 15 8191) rfl (op_bits rfl rfl rfl) rfl (by kernel_rfl) (by kernel_rfl) (by kernel_rfl) (by kernel_rfl) (by decide) (PartP.on ⟨trivial, trivial, trivial⟩ ⟨trivial, ⟨⟨0, rfl⟩, trivial⟩, trivial⟩) (fun _ _ _ h => h) <|
         VB.va (i := 13) (listed' := LB 15 16383) rfl (op_fieldAddr FI27_1 rfl (add_at _ _ _)) rfl (by kernel_rfl) (by kernel_rfl) (by kernel_rfl) (by kernel_rfl) (by decide) (PartP.on ⟨trivial, trivial, trivial⟩ ⟨trivial, ⟨⟨0, rfl⟩, trivial⟩, trivial⟩) (fun _ _ _ h => h) <|
         VB.one1 (i := 14) (listed' := LB 15 32767) (by kernel_rfl) rfl (o_store 0 1 rfl rfl rfl TI3 (.c rfl) rfl (len rfl)) rfl (by kernel_rfl) (PartP.off (by kernel_rfl) ⟨trivial, trivial, trivial⟩) <| VB.done (by kernel_rfl) <|
         VN.meet0  [0, 1] [] trivial ⟨rfl, ⟨rfl, rfl, rfl, rfl, rfl, rfl, rfl, rfl, rfl, rfl, rfl, rfl, rfl, rfl, rfl, rfl, rfl, rfl, rfl, rfl, rfl, rfl, rfl, rfl, rfl, trivial⟩, trivial, rfl, by decide, rfl, by decide⟩
      intro _
      refine VN.block <| tr <| va (op_ari64 rfl rfl rfl) <| vm rfl <| dn <|
       VN.again [0, 1] [] (ihl11 (wrap64 (i1815 + 1)) (Go.bits .or .i64 i1816 (IntKind.i64.wrap ((wrap64 (bt a1 (wrap64 ((wrap64 (5 + 1)) + i1815)))) * 2 ^ min (wrap64 (8 * i1815)).toNat IntKind.i64.bits))) h) ⟨rfl, ⟨rfl, rfl, rfl, rfl, rfl, rfl, rfl, rfl, trivial⟩, trivial, rfl, by decide, rfl, by decide⟩
    cases lF c1825 hb1823
    refine cf <| VC.exit <| VX.then <| VX.then <| VX.hit <| VN.meet1 i1816 [0, 1] [] h ⟨rfl, ⟨rfl, rfl, rfl, rfl, rfl, rfl, rfl, trivial⟩, trivial, rfl, by decide, rfl, by decide⟩
  clear h
  intro i1829 h
  unfold journal_read.j10 at h
  refine VC.join1 (fun (i2048 : Int) => ⟨109, [(0, .int .i64 a0), (1, .string a1), (2, .int .i64 a2), (6, .pointer (some ⟨g1170, 0, none⟩)), (7, .bool false), (9, .pointer (some ⟨g1172, 0, none⟩))], [], [(g1172, 27, [.slice none 0 0, .slice none 0 0, .int .i64 i1829, .int .i64 (wrap64 (bt a1 5)), .int .i64 i2048, .slice none 0 0, .slice none 0 0]), (g1170, 27, [.slice none 0 0, .slice none 0 0, .int .i64 0, .int .i64 0, .int .i64 0, .slice none 0 0, .slice none 0 0])], []⟩) (fun (i2048 : Int) => journal_read.j14 k a0 a1 a2 i1829 i2048 = some (r1, r2, r3, r4, r5, r6, r7, r8)) ?_ ?_
  · refine sr <| vm rfl <| dt <| VC.block <| VC.loop2 (fun (i2034 : Int) (i2035 : Int) => ⟨109, [(0, .int .i64 a0), (1, .string a1), (2, .int .i64 a2), (6, .pointer (some ⟨g1170, 0, none⟩)), (7, .bool false), (8, .int .i64 5), (9, .pointer (some ⟨g1172, 0, none⟩)), (37, .int .i64 i2034)], [], [(g1172, 27, [.slice none 0 0, .slice none 0 0, .int .i64 i1829, .int .i64 (wrap64 (bt a1 5)), .int .i64 i2035, .slice none 0 0, .slice none 0 0]), (g1170, 27, [.slice none 0 0, .slice none 0 0, .int .i64 0, .int .i64 0, .int .i64 0, .slice none 0 0, .slice none 0 0])], []⟩) (fun (ml15 : Nat) (i2034 : Int) (i2035 : Int) => journal_read.l15 k a0 a1 a2 i1829 ml15 i2034 i2035 = some (r1, r2, r3, r4, r5, r6, r7, r8)) k 0 0 [0, 1] [] h ⟨rfl, ⟨rfl, rfl, rfl, rfl, rfl, rfl, rfl, rfl, trivial⟩, trivial, rfl, by decide, rfl, by decide⟩ (by intros; simp [journal_read.l15]) <|
     ?_
    clear h
    intro ml15 ihl15 i2034 i2035 h
    simp only [journal_read.l15] at h
    refine sr <| VL.letter (decide (i2034 < 4)) fun b2042 hb2042 => va (op_cmp rfl rfl (congrArg some hb2042)) <| ds <| ?_
    replace h := iC h
    rcases h with ⟨c2044, h⟩ | ⟨c2044, h⟩
    · cases lT c2044 hb2042
      refine ct <| sk <| sq <| VC.block <| sr <| vm rfl <| vs rfl <| dt <| ?_
      replace h := iN h
      obtain ⟨c2045, h⟩ := h
      replace h := iN h
      obtain ⟨c2046, h⟩ := h
      replace h := iN h
      obtain ⟨c2047, h⟩ := h
      refine VC.stop0 (⟨109, [(0, .int .i64 a0), (1, .string a1), (2, .int .i64 a2), (6, .pointer (some ⟨g1170, 0, none⟩)), (7, .bool false), (8, .int .i64 5), (9, .pointer (some ⟨g1172, 0, none⟩)), (11, .int .i64 i2034), (37, .int .i64 i2034), (38, .bool true), (39, .int .i64 i2034), (40, .pointer (some ⟨g1172, 4, none⟩)), (41, .int .i64 i2035), (42, .string a1), (43, .int .i64 5), (44, .int .i64 (wrap64 (5 + 9))), (45, .int .i64 i2034), (46, .int .i64 (wrap64 ((wrap64 (5 + 9)) + i2034))), (47, .int .u8 (bt a1 (wrap64 ((wrap64 (5 + 9)) + i2034)))), (48, .int .i64 (wrap64 (bt a1 (wrap64 ((wrap64 (5 + 9)) + i2034))))), (49, .int .i64 i2034), (50, .int .i64 (wrap64 (8 * i2034))), (51, .int .i64 (IntKind.i64.wrap ((wrap64 (bt a1 (wrap64 ((wrap64 (5 + 9)) + i2034)))) * 2 ^ min (wrap64 (8 * i2034)).toNat IntKind.i64.bits))), (52, .int .i64 (Go.bits .or .i64 i2035 (IntKind.i64.wrap ((wrap64 (bt a1 (wrap64 ((wrap64 (5 + 9)) + i2034)))) * 2 ^ min (wrap64 (8 * i2034)).toNat IntKind.i64.bits)))), (53, .pointer (some ⟨g1172, 4, none⟩))], [], [(g1172, 27, [.slice none 0 0, .slice none 0 0, .int .i64 i1829, .int .i64 (wrap64 (bt a1 5)), .int .i64 (Go.bits .or .i64 i2035 (IntKind.i64.wrap ((wrap64 (bt a1 (wrap64 ((wrap64 (5 + 9)) + i2034)))) * 2 ^ min (wrap64 (8 * i2034)).toNat IntKind.i64.bits))), .slice none 0 0, .slice none 0 0]), (g1170, 27, [.slice none 0 0, .slice none 0 0, .int .i64 0, .int .i64 0, .int .i64 0, .slice none 0 0, .slice none 0 0])], []⟩) (True) ?_ ?_
      · exact VC.drawB ⟨0, [], [], [], []⟩ [14] ⟨0, [], [], [(g1172, 27, [.slice none 0 0, .slice none 0 0, .int .i64 i1829, .int .i64 (wrap64 (bt a1 5)), .int .i64 i2035, .slice none 0 0, .slice none 0 0])], []⟩ (by kernel_rfl) rfl (by kernel_rfl) (n := 15) (listed := LB 15 0) <|
         VB.va (i := 0) (listed' := LB 15 1) rfl (op_fieldAddr FI27_3 rfl (add_at _ _ _)) rfl (by kernel_rfl) (by kernel_rfl) (by kernel_rfl) (by kernel_rfl) (by decide) (PartP.on ⟨trivial, trivial, trivial⟩ ⟨trivial, ⟨⟨0, rfl⟩, trivial⟩, trivial⟩) (fun _ _ _ h => h) <|
         VB.vb (i := 1) (listed' := LB 15 3) rfl (op_load 0 1 rfl rfl TI3 rfl (by decide)) rfl (by kernel_rfl) (by kernel_rfl) (by kernel_rfl) (by kernel_rfl) (by kernel_rfl) (by kernel_rfl) (PartP.on ⟨trivial, trivial, trivial⟩ ⟨trivial, ⟨⟨0, rfl⟩, trivial⟩, trivial⟩) (fun _ _ _ h => h) <|
         VB.va (i := 2) (listed' := LB 15 7) rfl (mv rfl) rfl (by kernel_rfl) (by kernel_rfl) (by kernel_rfl) (by kernel_rfl) (by decide) (PartP.on ⟨trivial, trivial, trivial⟩ ⟨trivial, ⟨⟨0, rfl⟩, trivial⟩, trivial⟩) (fun _ _ _ h => h) <|
         VB.va (i := 3) (listed' := LB 15 15) rfl (mv rfl) rfl (by kernel_rfl) (by kernel_rfl) (by kernel_rfl) (by kernel_rfl) (by decide) (PartP.on ⟨trivial, trivial, trivial⟩ ⟨trivial, ⟨⟨0, rfl⟩, trivial⟩, trivial⟩) (fun _ _ _ h => h) <|
         VB.va (i := 4) (listed' := LB 15 31) rfl (op_ari64 rfl rfl rfl) rfl (by kernel_rfl) (by kernel_rfl) (by kernel_rfl) (by kernel_rfl) (by decide) (PartP.on ⟨trivial, trivial, trivial⟩ ⟨trivial, ⟨⟨0, rfl⟩, trivial⟩, trivial⟩) (fun _ _ _ h => h) <|
         VB.va (i := 5) (listed' := LB 15 63) rfl (mv rfl) rfl (by kernel_rfl) (by kernel_rfl) (by kernel_rfl) (by kernel_rfl) (by decide) (PartP.on ⟨trivial, trivial, trivial⟩ ⟨trivial, ⟨⟨0, rfl⟩, trivial⟩, trivial⟩) (fun _ _ _ h => h) <|
         VB.va (i := 6) (listed' := LB 15 127) rfl (op_ari64 rfl rfl rfl) rfl (by kernel_rfl) (by kernel_rfl) (by kernel_rfl) (by kernel_rfl) (by decide) (PartP.on ⟨trivial, trivial, trivial⟩ ⟨trivial, ⟨⟨0, rfl⟩, trivial⟩, trivial⟩) (fun _ _ _ h => h) <|
         VB.va (i := 7) (listed' := LB 15 255) rfl (op_indexS Try.underlying9 rfl rfl c2045 c2046 rfl) rfl (by kernel_rfl) (by kernel_rfl) (by kernel_rfl) (by kernel_rfl) (by decide) (PartP.on ⟨trivial, trivial, trivial⟩ ⟨trivial, ⟨⟨0, rfl⟩, trivial⟩, trivial⟩) (fun _ _ _ h => h) <|
         VB.va (i := 8) (listed' := LB 15 511) rfl (op_conv Try.underlying5 Try.underlying3 rfl (i64w _)) rfl (by kernel_rfl) (by kernel_rfl) (by kernel_rfl) (by kernel_rfl) (by decide) (PartP.on ⟨trivial, trivial, trivial⟩ ⟨trivial, ⟨⟨0, rfl⟩, trivial⟩, trivial⟩) (fun _ _ _ h => h) <|
         VB.va (i := 9) (listed' := LB 15 1023) rfl (mv rfl) rfl (by kernel_rfl) (by kernel_rfl) (by kernel_rfl) (by kernel_rfl) (by decide) (PartP.on ⟨trivial, trivial, trivial⟩ ⟨trivial, ⟨⟨0, rfl⟩, trivial⟩, trivial⟩) (fun _ _ _ h => h) <|
         VB.va (i := 10) (listed' := LB 15 2047) rfl (op_ari64 rfl rfl rfl) rfl (by kernel_rfl) (by kernel_rfl) (by kernel_rfl) (by kernel_rfl) (by decide) (PartP.on ⟨trivial, trivial, trivial⟩ ⟨trivial, ⟨⟨0, rfl⟩, trivial⟩, trivial⟩) (fun _ _ _ h => h) <|
         VB.va (i := 11) (listed' := LB 15 4095) rfl (op_shl rfl rfl c2047 rfl) rfl (by kernel_rfl) (by kernel_rfl) (by kernel_rfl) (by kernel_rfl) (by decide) (PartP.on ⟨trivial, trivial, trivial⟩ ⟨trivial, ⟨⟨0, rfl⟩, trivial⟩, trivial⟩) (fun _ _ _ h => h) <|
         VB.va (i := 12) (listed' := LB 15 8191) rfl (op_bits rfl rfl rfl) rfl (by kernel_rfl) (by kernel_rfl) (by kernel_rfl) (by kernel_rfl) (by decide) (PartP.on ⟨trivial, trivial, trivial⟩ ⟨trivial, ⟨⟨0, rfl⟩, trivial⟩, trivial⟩) (fun _ _ _ h => h) <|
         VB.va (i := 13) (listed' := LB 15 16383) rfl (op_fieldAddr FI27_3 rfl (add_at _ _ _)) rfl (by kernel_rfl) (by kernel_rfl) (by kernel_rfl) (by kernel_rfl) (by decide) (PartP.on ⟨trivial, trivial, trivial⟩ ⟨trivial, ⟨⟨0, rfl⟩, trivial⟩, trivial⟩) (fun _ _ _ h => h) <|
         VB.one1 (i := 14) (listed' := LB 15 32767) (by kernel_rfl) rfl (o_store 0 1 rfl rfl rfl TI3 (.c rfl) rfl (len rfl)) rfl (by kernel_rfl) (PartP.off (by kernel_rfl) ⟨trivial, trivial, trivial⟩) <| VB.done (by kernel_rfl) <|
         VN.meet0  [0, 1] [] trivial ⟨rfl, ⟨rfl, rfl, rfl, rfl, rfl, rfl, rfl, rfl, rfl, rfl, rfl, rfl, rfl, rfl, rfl, rfl, rfl, rfl, rfl, rfl, rfl, rfl, rfl, rfl, rfl, trivial⟩, trivial, rfl, by decide, rfl, by decide⟩
      intro _
      refine VN.block <| tr <| va (op_ari64 rfl rfl rfl) <| vm rfl <| dn <|
       VN.again [0, 1] [] (ihl15 (wrap64 (i2034 + 1)) (Go.bits .or .i64 i2035 (IntKind.i64.wrap ((wrap64 (bt a1 (wrap64 ((wrap64 (5 + 9)) + i2034)))) * 2 ^ min (wrap64 (8 * i2034)).toNat IntKind.i64.bits))) h) ⟨rfl, ⟨rfl, rfl, rfl, rfl, rfl, rfl, rfl, rfl, trivial⟩, trivial, rfl, by decide, rfl, by decide⟩
    cases lF c2044 hb2042
    refine cf <| VC.exit <| VX.then <| VX.then <| VX.hit <| VN.meet1 i2035 [0, 1] [] h ⟨rfl, ⟨rfl, rfl, rfl, rfl, rfl, rfl, trivial⟩, trivial, rfl, by decide, rfl, by decide⟩
  clear h
  intro i2048 h
  unfold journal_read.j14 at h
  refine VC.letter (decide (i1829 ≥ 1)) fun b2049 hb2049 => ?_
  replace h := iC h
  rcases h with ⟨c2050, h⟩ | ⟨c2050, h⟩
  · cases lT c2050 hb2049
    refine VC.letter (decide (i1829 ≤ 1099511627776)) fun b2051 hb2051 => ?_
    replace h := iC h
    rcases h with ⟨c2052, h⟩ | ⟨c2052, h⟩
    · cases lT c2052 hb2051
      refine VC.letter (((i1829.tmod 2) == a0)) fun b2053 hb2053 => ?_
      replace h := iC h
      rcases h with ⟨c2054, h⟩ | ⟨c2054, h⟩
      · obtain rfl : b2053 = true := hb2053.symm.trans (beq_iff_eq.2 c2054)
        refine VC.letter (decide ((wrap64 (bt a1 5)) ≤ 1)) fun b2055 hb2055 => ?_
        replace h := iC h
        rcases h with ⟨c2056, h⟩ | ⟨c2056, h⟩
        · cases lT c2056 hb2055
          replace h := bd h
          obtain ⟨t2057, hA2058, h⟩ := h
          refine VC.letter (decide (i2048 ≤ t2057)) fun b2059 hb2059 => VC.join0 (⟨109, [(1, .string a1), (6, .pointer (some ⟨g1170, 0, none⟩)), (7, .bool false), (9, .pointer (some ⟨g1172, 0, none⟩)), (12, .bool b2059)], [], [(g1172, 27, [.slice none 0 0, .slice none 0 0, .int .i64 i1829, .int .i64 (wrap64 (bt a1 5)), .int .i64 i2048, .slice none 0 0, .slice none 0 0]), (g1170, 27, [.slice none 0 0, .slice none 0 0, .int .i64 0, .int .i64 0, .int .i64 0, .slice none 0 0, .slice none 0 0])], []⟩) (True) ?_ ?_
          · refine VC.draw ⟨0, [], [], [(g1172, 27, [.slice none 0 0, .slice none 0 0, .int .i64 i1829, .int .i64 (wrap64 (bt a1 5)), .int .i64 i2048, .slice none 0 0, .slice none 0 0])], []⟩ (by kernel_rfl) rfl (by kernel_rfl) (n := 28) (listed := LB 28 0) <|
             av 0 1 rfl (op_fieldAddr FI27_1 rfl (add_at _ _ _)) <| av 1 3 rfl (op_load 0 1 rfl rfl TI3 rfl (by decide)) <| av 2 7 rfl (op_cmp rfl rfl (congrArg some hb2049)) <| av 3 15 rfl (mv rfl) <| av 4 31 rfl (op_fieldAddr FI27_1 rfl (add_at _ _ _)) <|
             av 5 63 rfl (op_load 0 1 rfl rfl TI3 rfl (by decide)) <| av 6 127 rfl (op_cmp rfl rfl (congrArg some hb2051)) <| av 7 255 rfl (op_pick rfl rfl) <| av 8 511 rfl (mv rfl) <| av 9 1023 rfl (op_fieldAddr FI27_1 rfl (add_at _ _ _)) <| av 10 2047 rfl (op_load 0 1 rfl rfl TI3 rfl (by decide)) <|
             av 11 4095 rfl (op_rem rfl rfl (by decide) rfl) <| av 12 8191 rfl (mv rfl) <| av 13 16383 rfl (op_cmp rfl rfl (congrArg some hb2053)) <| av 14 32767 rfl (op_pick rfl rfl) <| av 15 65535 rfl (mv rfl) <| av 16 131071 rfl (op_fieldAddr FI27_2 rfl (add_at _ _ _)) <|
             av 17 262143 rfl (op_load 0 1 rfl rfl TI3 rfl (by decide)) <| av 18 524287 rfl (op_cmp rfl rfl (congrArg some hb2055)) <| av 19 1048575 rfl (op_pick rfl rfl) <| av 20 2097151 rfl (mv rfl) <| av 21 4194303 rfl (op_fieldAddr FI27_3 rfl (add_at _ _ _)) <|
             av 22 8388607 rfl (op_load 0 1 rfl rfl TI3 rfl (by decide)) <| av 23 16777215 rfl (mv rfl) <| VA.oneC (i := 24) (listed' := LB 28 33554431) (by kernel_rfl) rfl (o_call0 FO55 (journal_room.ok a2 t2057 hA2058) rfl rfl (ltn rfl) (All_of .nil)) rfl (by kernel_rfl) <| ?_
            rintro _ _ _ ⟨rfl, rfl, rfl⟩
            refine ⟨⟨trivial, ⟨⟨0, rfl⟩, trivial⟩, trivial⟩, ?_⟩
            exact av 25 67108863 rfl (op_cmp rfl rfl (congrArg some hb2059)) <| av 26 134217727 rfl (op_pick rfl rfl) <| av 27 268435455 rfl (ag rfl) <| VA.done (by kernel_rfl) <| VN.meet0  [0, 1] [] trivial ⟨rfl, ⟨rfl, rfl, rfl, rfl, rfl, trivial⟩, trivial, rfl, by decide, rfl, by decide⟩
          intro _
          refine sr <| va (op_fieldAddr FI27_1 rfl (add_at _ _ _)) <| va (op_load 0 1 rfl rfl TI3 rfl (by decide)) <| va (op_fieldAddr FI27_2 rfl (add_at _ _ _)) <| va (op_load 0 1 rfl rfl TI3 rfl (by decide)) <| va (op_fieldAddr FI27_3 rfl (add_at _ _ _)) <| va (op_load 0 1 rfl rfl TI3 rfl (by decide)) <| ?_
          replace h := bd h
          obtain ⟨r2060, hA2061, h⟩ := h
          refine sC (o_call0 FO39 (journal_headOf.ok k i1829 (wrap64 (bt a1 5)) i2048 r2060 hA2061) rfl rfl (ltn rfl) (All_of .nil)) <| ?_
          rintro _ _ _ ⟨rfl, rfl, rfl⟩
          refine sG (o_alloc Z74 ZL74) fun g2062 => ?_
          replace h := iN h
          obtain ⟨c2063, h⟩ := h
          replace h := iN h
          obtain ⟨c2064, h⟩ := h
          refine s1 (o_storeA 0 rfl rfl rfl TI74 c2063 c2064) <| dt <| ?_
          replace h := iC h
          rcases h with ⟨c2065, h⟩ | ⟨c2065, h⟩
          · cases lT c2065 hb2059
            replace h := iN h
            obtain ⟨c2066, h⟩ := h
            replace h := iN h
            obtain ⟨c2067, h⟩ := h
            replace h := iN h
            obtain ⟨c2070, h⟩ := h
            replace h := iN h
            obtain ⟨c2073, h⟩ := h
            refine VC.letter (decide (r2060 = ((byI (a1.extract 0 32)).take 32))) fun b2074 hb2074 => ?_
            replace h := iC h
            rcases h with ⟨c2075, h⟩ | ⟨c2075, h⟩
            · cases lT c2075 hb2074
              replace h := iN h
              obtain ⟨c2076, h⟩ := h
              replace h := iN h
              obtain ⟨c2079, h⟩ := h
              replace h := iN h
              obtain ⟨c2082, h⟩ := h
              refine VC.letter (decide (r2060 = ((byI (a1.extract 32 a1.size)).take 32))) fun b2083 hb2083 => VC.join0 (⟨109, [(6, .pointer (some ⟨g1170, 0, none⟩)), (7, .bool b2083)], [], [(g1170, 27, [.slice none 0 0, .slice none 0 0, .int .i64 i1829, .int .i64 (wrap64 (bt a1 5)), .int .i64 i2048, .slice none 0 0, .slice none 0 0])], []⟩) (True) ?_ ?_
              · refine VC.draw ⟨0, [], [], [(g2062, 74, ints .u8 r2060), (g1172, 27, [.slice none 0 0, .slice none 0 0, .int .i64 i1829, .int .i64 (wrap64 (bt a1 5)), .int .i64 i2048, .slice none 0 0, .slice none 0 0])], []⟩ (by kernel_rfl) rfl (by kernel_rfl) (n := 22) (listed := LB 22 0) <|
                 aw 0 1 rfl (op_load 1 7 rfl rfl TI27 rfl (fun h => absurd h (by decide))) ⟨trivial, ⟨⟨0, rfl⟩, ⟨1, rfl⟩, trivial⟩, trivial⟩ <| aw 1 3 rfl (mv rfl) ⟨trivial, ⟨⟨0, rfl⟩, ⟨1, rfl⟩, trivial⟩, trivial⟩ <| aw 2 7 rfl (mv rfl) ⟨trivial, ⟨⟨0, rfl⟩, ⟨1, rfl⟩, trivial⟩, trivial⟩ <|
                 aw 3 15 rfl (op_loadA 0 rfl rfl TI74 c2063) ⟨trivial, ⟨⟨0, rfl⟩, ⟨1, rfl⟩, trivial⟩, trivial⟩ <| aw 4 31 rfl (mv rfl) ⟨trivial, ⟨⟨0, rfl⟩, ⟨1, rfl⟩, trivial⟩, trivial⟩ <|
                 aw 5 63 rfl (op_sliceS 0 32 Try.underlying9 rfl ⟨rfl, ⟨_, _, rfl, (by decide), rfl⟩, Nat.zero_le _, tN (a := (32 : Int)) (b := (a1.size : Int)) rfl rfl c2066⟩ rfl) ⟨trivial, ⟨⟨0, rfl⟩, ⟨1, rfl⟩, trivial⟩, trivial⟩ <|
                 VA.oneG (i := 6) (listed' := LB 22 127) (by kernel_rfl) rfl (o_strBytes (es3 := List.map enc_intu8 (byI (a1.extract 0 32))) rfl Try.underlying9 Try.underlying41 Try.underlying5 rfl c2067) rfl (by kernel_rfl) (fun _ => ⟨trivial, ⟨⟨0, rfl⟩, ⟨1, rfl⟩, trivial⟩, trivial⟩) fun v2069 => VA.more ⟨0, [], [.row v2069 1 ((byI (a1.extract 0 32)).map enc_intu8)], [(g2062, 74, ints .u8 r2060), (g1172, 27, [.slice none 0 0, .slice none 0 0, .int .i64 i1829, .int .i64 (wrap64 (bt a1 5)), .int .i64 i2048, .slice none 0 0, .slice none 0 0])], []⟩ ⟨trivial, ⟨⟨0, rfl⟩, ⟨1, rfl⟩, trivial⟩, trivial⟩ <|
                 VA.open (m := (byI (a1.extract 0 32)).length) 0 lenm rfl (Nat.lt_of_lt_of_le (by decide) c2070) <| ?_
                rintro ad2071 n2072 rfl
                refine aw 7 255 rfl (op_arrayAt Try.underlying74 rfl c2070) ⟨⟨⟨0, rfl⟩, trivial⟩, ⟨⟨0, rfl⟩, ⟨1, rfl⟩, trivial⟩, trivial⟩ <| aw 8 511 rfl (op_loadRA 0 (fun _ => rfl) rfl rfl TI74 c2070) ⟨⟨⟨0, rfl⟩, trivial⟩, ⟨⟨0, rfl⟩, ⟨1, rfl⟩, trivial⟩, trivial⟩ <|
                 aw 9 1023 rfl (op_eqA Try.underlying74 (by kernel_rfl) TI5 Try.underlying5 (by kernel_rfl) rfl rfl c2063 c2073 hb2074) ⟨⟨⟨0, rfl⟩, trivial⟩, ⟨⟨0, rfl⟩, ⟨1, rfl⟩, trivial⟩, trivial⟩ <| aw 10 2047 rfl (op_pick rfl rfl) ⟨⟨⟨0, rfl⟩, trivial⟩, ⟨⟨0, rfl⟩, ⟨1, rfl⟩, trivial⟩, trivial⟩ <|
                 aw 11 4095 rfl (mv rfl) ⟨⟨⟨0, rfl⟩, trivial⟩, ⟨⟨0, rfl⟩, ⟨1, rfl⟩, trivial⟩, trivial⟩ <| aw 12 8191 rfl (op_loadA 0 rfl rfl TI74 c2063) ⟨⟨⟨0, rfl⟩, trivial⟩, ⟨⟨0, rfl⟩, ⟨1, rfl⟩, trivial⟩, trivial⟩ <| aw 13 16383 rfl (mv rfl) ⟨⟨⟨0, rfl⟩, trivial⟩, ⟨⟨0, rfl⟩, ⟨1, rfl⟩, trivial⟩, trivial⟩ <|
                 aw 14 32767 rfl (op_sliceS 32 a1.size Try.underlying9 rfl ⟨⟨_, _, rfl, (by decide), rfl⟩, rfl, tN (a := (32 : Int)) (b := (a1.size : Int)) rfl rfl c2066, Nat.le_refl _⟩ rfl) ⟨⟨⟨0, rfl⟩, trivial⟩, ⟨⟨0, rfl⟩, ⟨1, rfl⟩, trivial⟩, trivial⟩ <| VA.all [15, 20] (by kernel_rfl) (by simp) <|
                 VAll.consG (listed' := LB 22 65535) rfl (o_strBytes (es3 := List.map enc_intu8 (byI (a1.extract 32 a1.size))) rfl Try.underlying9 Try.underlying41 Try.underlying5 rfl c2076) rfl (by kernel_rfl) (fun _ => ⟨⟨⟨1, rfl⟩, trivial⟩, ⟨⟨0, rfl⟩, ⟨1, rfl⟩, trivial⟩, trivial⟩) ?_ ?_
                · intro v2078
                  refine VA.more ⟨0, [], [.row (.slice (some ad2071) (byI (a1.extract 0 32)).length n2072) 1 ((byI (a1.extract 0 32)).map enc_intu8), .row v2078 1 ((byI (a1.extract 32 a1.size)).map enc_intu8)], [(g2062, 74, ints .u8 r2060), (g1172, 27, [.slice none 0 0, .slice none 0 0, .int .i64 i1829, .int .i64 (wrap64 (bt a1 5)), .int .i64 i2048, .slice none 0 0, .slice none 0 0])], []⟩ ⟨⟨⟨0, rfl⟩, trivial⟩, ⟨⟨0, rfl⟩, ⟨1, rfl⟩, trivial⟩, trivial⟩ <|
                   VA.open (m := (byI (a1.extract 32 a1.size)).length) 0 lenm rfl (Nat.lt_of_lt_of_le (by decide) c2079) <| ?_
                  rintro ad2080 n2081 rfl
                  exact aw 16 131071 rfl (op_arrayAt Try.underlying74 rfl c2079) ⟨⟨⟨1, rfl⟩, ⟨0, rfl⟩, trivial⟩, ⟨⟨0, rfl⟩, ⟨1, rfl⟩, trivial⟩, trivial⟩ <| aw 17 262143 rfl (op_loadRA 1 (fun _ => rfl) rfl rfl TI74 c2079) ⟨⟨⟨1, rfl⟩, ⟨0, rfl⟩, trivial⟩, ⟨⟨0, rfl⟩, ⟨1, rfl⟩, trivial⟩, trivial⟩ <|
                   aw 18 524287 rfl (op_eqA Try.underlying74 (by kernel_rfl) TI5 Try.underlying5 (by kernel_rfl) rfl rfl c2063 c2082 hb2083) ⟨⟨⟨1, rfl⟩, ⟨0, rfl⟩, trivial⟩, ⟨⟨0, rfl⟩, ⟨1, rfl⟩, trivial⟩, trivial⟩ <|
                   aw 19 1048575 rfl (op_pick rfl rfl) ⟨⟨⟨1, rfl⟩, ⟨0, rfl⟩, trivial⟩, ⟨⟨0, rfl⟩, ⟨1, rfl⟩, trivial⟩, trivial⟩ <|
                   VA.one1 (i := 20) (listed' := LB 22 2097151) (by kernel_rfl) rfl (o_store 2 7 rfl rfl rfl TI27 (.agg (.of rfl)) rfl (len rfl)) rfl (by kernel_rfl) ⟨⟨⟨1, rfl⟩, ⟨0, rfl⟩, trivial⟩, ⟨⟨0, rfl⟩, ⟨1, rfl⟩, trivial⟩, trivial⟩ <|
                   aw 21 4194303 rfl (ag rfl) ⟨⟨⟨1, rfl⟩, ⟨0, rfl⟩, trivial⟩, ⟨⟨0, rfl⟩, ⟨1, rfl⟩, trivial⟩, trivial⟩ <| VA.done (by kernel_rfl) <| VN.meet0  [2] [] trivial ⟨rfl, ⟨rfl, rfl, trivial⟩, trivial, rfl, by decide, rfl, by decide⟩
                refine VAll.cons1 (listed' := LB 22 1081343) rfl (o_store 2 7 rfl rfl rfl TI27 (.agg (.of rfl)) rfl (len rfl)) rfl (by kernel_rfl) ⟨⟨⟨0, rfl⟩, trivial⟩, ⟨⟨0, rfl⟩, ⟨1, rfl⟩, trivial⟩, trivial⟩ ?_ VAll.nil
                refine VA.oneG (i := 15) (listed' := LB 22 1114111) (by kernel_rfl) rfl (o_strBytes (es3 := List.map enc_intu8 (byI (a1.extract 32 a1.size))) rfl Try.underlying9 Try.underlying41 Try.underlying5 rfl c2076) rfl (by kernel_rfl) (fun _ => ⟨⟨⟨1, rfl⟩, trivial⟩, ⟨⟨0, rfl⟩, ⟨1, rfl⟩, trivial⟩, trivial⟩) fun v2078 => VA.more ⟨0, [], [.row (.slice (some ad2071) (byI (a1.extract 0 32)).length n2072) 1 ((byI (a1.extract 0 32)).map enc_intu8), .row v2078 1 ((byI (a1.extract 32 a1.size)).map enc_intu8)], [(g2062, 74, ints .u8 r2060), (g1172, 27, [.slice none 0 0, .slice none 0 0, .int .i64 i1829, .int .i64 (wrap64 (bt a1 5)), .int .i64 i2048, .slice none 0 0, .slice none 0 0])], []⟩ ⟨⟨⟨0, rfl⟩, trivial⟩, ⟨⟨0, rfl⟩, ⟨1, rfl⟩, trivial⟩, trivial⟩ <|
                 VA.open (m := (byI (a1.extract 32 a1.size)).length) 0 lenm rfl (Nat.lt_of_lt_of_le (by decide) c2079) <| ?_
                rintro ad2080 n2081 rfl
                exact aw 16 1179647 rfl (op_arrayAt Try.underlying74 rfl c2079) ⟨⟨⟨1, rfl⟩, ⟨0, rfl⟩, trivial⟩, ⟨⟨0, rfl⟩, ⟨1, rfl⟩, trivial⟩, trivial⟩ <| aw 17 1310719 rfl (op_loadRA 1 (fun _ => rfl) rfl rfl TI74 c2079) ⟨⟨⟨1, rfl⟩, ⟨0, rfl⟩, trivial⟩, ⟨⟨0, rfl⟩, ⟨1, rfl⟩, trivial⟩, trivial⟩ <|
                 aw 18 1572863 rfl (op_eqA Try.underlying74 (by kernel_rfl) TI5 Try.underlying5 (by kernel_rfl) rfl rfl c2063 c2082 hb2083) ⟨⟨⟨1, rfl⟩, ⟨0, rfl⟩, trivial⟩, ⟨⟨0, rfl⟩, ⟨1, rfl⟩, trivial⟩, trivial⟩ <|
                 aw 19 2097151 rfl (op_pick rfl rfl) ⟨⟨⟨1, rfl⟩, ⟨0, rfl⟩, trivial⟩, ⟨⟨0, rfl⟩, ⟨1, rfl⟩, trivial⟩, trivial⟩ <| aw 21 4194303 rfl (ag rfl) ⟨⟨⟨1, rfl⟩, ⟨0, rfl⟩, trivial⟩, ⟨⟨0, rfl⟩, ⟨1, rfl⟩, trivial⟩, trivial⟩ <| VA.done (by kernel_rfl) <|
                 VN.meet0  [2] [] trivial ⟨rfl, ⟨rfl, rfl, trivial⟩, trivial, rfl, by decide, rfl, by decide⟩
              intro _
              refine VC.ret <| ?_
              simp only [Option.some.injEq, Prod.mk.injEq] at h
              obtain ⟨rfl, rfl, rfl, rfl, rfl, rfl, rfl, rfl⟩ := h
              subst hb2083
              exact VR.nilRow' 9 1 <| VR.nilRow' 56 2 <| VR.nilRow' 9 1 <| VR.nilRow' 9 1 <|
               VR.fn (rs := [.cell 6 27, .tmp 7]) [] [((.slice none 0 0), 9, 1, ([] : List ByteArray).map enc_str), ((.slice none 0 0), 56, 2, ([] : List S55).map enc55), ((.slice none 0 0), 9, 1, ([] : List ByteArray).map enc_str), ((.slice none 0 0), 9, 1, ([] : List ByteArray).map enc_str)] [3, 2, 1, 0] rfl (.cell 0 rfl rfl TI27 (fun h => absurd h (by decide)) (.tmp rfl .nil)) ⟨(.slice none 0 0), (.slice none 0 0), (.slice none 0 0), (.slice none 0 0), rfl, rfl, rfl⟩ trivial rfl (by decide)
            cases lF c2075 hb2074
            refine VC.join0 (⟨109, [(6, .pointer (some ⟨g1170, 0, none⟩)), (7, .bool false)], [], [(g1170, 27, [.slice none 0 0, .slice none 0 0, .int .i64 i1829, .int .i64 (wrap64 (bt a1 5)), .int .i64 i2048, .slice none 0 0, .slice none 0 0])], []⟩) (True) ?_ ?_
            · refine VC.draw ⟨0, [], [], [(g2062, 74, ints .u8 r2060), (g1172, 27, [.slice none 0 0, .slice none 0 0, .int .i64 i1829, .int .i64 (wrap64 (bt a1 5)), .int .i64 i2048, .slice none 0 0, .slice none 0 0])], []⟩ (by kernel_rfl) rfl (by kernel_rfl) (n := 22) (listed := LB 22 0) <|
               aw 0 1 rfl (op_load 1 7 rfl rfl TI27 rfl (fun h => absurd h (by decide))) ⟨trivial, ⟨⟨0, rfl⟩, ⟨1, rfl⟩, trivial⟩, trivial⟩ <| aw 1 3 rfl (mv rfl) ⟨trivial, ⟨⟨0, rfl⟩, ⟨1, rfl⟩, trivial⟩, trivial⟩ <| aw 2 7 rfl (mv rfl) ⟨trivial, ⟨⟨0, rfl⟩, ⟨1, rfl⟩, trivial⟩, trivial⟩ <|
               aw 3 15 rfl (op_loadA 0 rfl rfl TI74 c2063) ⟨trivial, ⟨⟨0, rfl⟩, ⟨1, rfl⟩, trivial⟩, trivial⟩ <| aw 4 31 rfl (mv rfl) ⟨trivial, ⟨⟨0, rfl⟩, ⟨1, rfl⟩, trivial⟩, trivial⟩ <|
               aw 5 63 rfl (op_sliceS 0 32 Try.underlying9 rfl ⟨rfl, ⟨_, _, rfl, (by decide), rfl⟩, Nat.zero_le _, tN (a := (32 : Int)) (b := (a1.size : Int)) rfl rfl c2066⟩ rfl) ⟨trivial, ⟨⟨0, rfl⟩, ⟨1, rfl⟩, trivial⟩, trivial⟩ <|
               VA.oneG (i := 6) (listed' := LB 22 127) (by kernel_rfl) rfl (o_strBytes (es3 := List.map enc_intu8 (byI (a1.extract 0 32))) rfl Try.underlying9 Try.underlying41 Try.underlying5 rfl c2067) rfl (by kernel_rfl) (fun _ => ⟨trivial, ⟨⟨0, rfl⟩, ⟨1, rfl⟩, trivial⟩, trivial⟩) fun v2069 => VA.more ⟨0, [], [.row v2069 1 ((byI (a1.extract 0 32)).map enc_intu8)], [(g2062, 74, ints .u8 r2060), (g1172, 27, [.slice none 0 0, .slice none 0 0, .int .i64 i1829, .int .i64 (wrap64 (bt a1 5)), .int .i64 i2048, .slice none 0 0, .slice none 0 0])], []⟩ ⟨trivial, ⟨⟨0, rfl⟩, ⟨1, rfl⟩, trivial⟩, trivial⟩ <|
               VA.open (m := (byI (a1.extract 0 32)).length) 0 lenm rfl (Nat.lt_of_lt_of_le (by decide) c2070) <| ?_
              rintro ad2071 n2072 rfl
              exact aw 7 255 rfl (op_arrayAt Try.underlying74 rfl c2070) ⟨⟨⟨0, rfl⟩, trivial⟩, ⟨⟨0, rfl⟩, ⟨1, rfl⟩, trivial⟩, trivial⟩ <| aw 8 511 rfl (op_loadRA 0 (fun _ => rfl) rfl rfl TI74 c2070) ⟨⟨⟨0, rfl⟩, trivial⟩, ⟨⟨0, rfl⟩, ⟨1, rfl⟩, trivial⟩, trivial⟩ <|
               aw 9 1023 rfl (op_eqA Try.underlying74 (by kernel_rfl) TI5 Try.underlying5 (by kernel_rfl) rfl rfl c2063 c2073 hb2074) ⟨⟨⟨0, rfl⟩, trivial⟩, ⟨⟨0, rfl⟩, ⟨1, rfl⟩, trivial⟩, trivial⟩ <| aw 10 2047 rfl (op_pick rfl rfl) ⟨⟨⟨0, rfl⟩, trivial⟩, ⟨⟨0, rfl⟩, ⟨1, rfl⟩, trivial⟩, trivial⟩ <|
               aw 11 4095 rfl (mv rfl) ⟨⟨⟨0, rfl⟩, trivial⟩, ⟨⟨0, rfl⟩, ⟨1, rfl⟩, trivial⟩, trivial⟩ <| aU 12 8191 rfl rfl ⟨⟨⟨0, rfl⟩, trivial⟩, ⟨⟨0, rfl⟩, ⟨1, rfl⟩, trivial⟩, trivial⟩ <| aU 13 16383 rfl rfl ⟨⟨⟨0, rfl⟩, trivial⟩, ⟨⟨0, rfl⟩, ⟨1, rfl⟩, trivial⟩, trivial⟩ <|
               aU 14 32767 rfl rfl ⟨⟨⟨0, rfl⟩, trivial⟩, ⟨⟨0, rfl⟩, ⟨1, rfl⟩, trivial⟩, trivial⟩ <| aU 15 65535 rfl rfl ⟨⟨⟨0, rfl⟩, trivial⟩, ⟨⟨0, rfl⟩, ⟨1, rfl⟩, trivial⟩, trivial⟩ <| aU 16 131071 rfl rfl ⟨⟨⟨0, rfl⟩, trivial⟩, ⟨⟨0, rfl⟩, ⟨1, rfl⟩, trivial⟩, trivial⟩ <|
               aU 17 262143 rfl rfl ⟨⟨⟨0, rfl⟩, trivial⟩, ⟨⟨0, rfl⟩, ⟨1, rfl⟩, trivial⟩, trivial⟩ <| aU 18 524287 rfl rfl ⟨⟨⟨0, rfl⟩, trivial⟩, ⟨⟨0, rfl⟩, ⟨1, rfl⟩, trivial⟩, trivial⟩ <| aw 19 1048575 rfl (op_pick rfl rfl) ⟨⟨⟨0, rfl⟩, trivial⟩, ⟨⟨0, rfl⟩, ⟨1, rfl⟩, trivial⟩, trivial⟩ <|
               VA.one1 (i := 20) (listed' := LB 22 2097151) (by kernel_rfl) rfl (o_store 2 7 rfl rfl rfl TI27 (.agg (.of rfl)) rfl (len rfl)) rfl (by kernel_rfl) ⟨⟨⟨0, rfl⟩, trivial⟩, ⟨⟨0, rfl⟩, ⟨1, rfl⟩, trivial⟩, trivial⟩ <|
               aw 21 4194303 rfl (ag rfl) ⟨⟨⟨0, rfl⟩, trivial⟩, ⟨⟨0, rfl⟩, ⟨1, rfl⟩, trivial⟩, trivial⟩ <| VA.done (by kernel_rfl) <| VN.meet0  [2] [] trivial ⟨rfl, ⟨rfl, rfl, trivial⟩, trivial, rfl, by decide, rfl, by decide⟩
            intro _
            refine VC.ret <| ?_
            simp only [Option.some.injEq, Prod.mk.injEq] at h
            obtain ⟨rfl, rfl, rfl, rfl, rfl, rfl, rfl, rfl⟩ := h
            exact VR.nilRow' 9 1 <| VR.nilRow' 56 2 <| VR.nilRow' 9 1 <| VR.nilRow' 9 1 <|
             VR.fn (rs := [.cell 6 27, .tmp 7]) [] [((.slice none 0 0), 9, 1, ([] : List ByteArray).map enc_str), ((.slice none 0 0), 56, 2, ([] : List S55).map enc55), ((.slice none 0 0), 9, 1, ([] : List ByteArray).map enc_str), ((.slice none 0 0), 9, 1, ([] : List ByteArray).map enc_str)] [3, 2, 1, 0] rfl (.cell 0 rfl rfl TI27 (fun h => absurd h (by decide)) (.tmp rfl .nil)) ⟨(.slice none 0 0), (.slice none 0 0), (.slice none 0 0), (.slice none 0 0), rfl, rfl, rfl⟩ trivial rfl (by decide)
          cases lF c2065 hb2059
          refine VC.join0 (⟨109, [(6, .pointer (some ⟨g1170, 0, none⟩)), (7, .bool false)], [], [(g1170, 27, [.slice none 0 0, .slice none 0 0, .int .i64 i1829, .int .i64 (wrap64 (bt a1 5)), .int .i64 i2048, .slice none 0 0, .slice none 0 0])], []⟩) (True) ?_ ?_
          · exact VC.draw ⟨0, [], [], [(g1172, 27, [.slice none 0 0, .slice none 0 0, .int .i64 i1829, .int .i64 (wrap64 (bt a1 5)), .int .i64 i2048, .slice none 0 0, .slice none 0 0])], []⟩ (by kernel_rfl) rfl (by kernel_rfl) (n := 22) (listed := LB 22 0) <|
             aw 0 1 rfl (op_load 0 7 rfl rfl TI27 rfl (fun h => absurd h (by decide))) ⟨trivial, ⟨⟨1, rfl⟩, trivial⟩, trivial⟩ <| aw 1 3 rfl (mv rfl) ⟨trivial, ⟨⟨1, rfl⟩, trivial⟩, trivial⟩ <| aw 2 7 rfl (mv rfl) ⟨trivial, ⟨⟨1, rfl⟩, trivial⟩, trivial⟩ <|
             aU 3 15 rfl rfl ⟨trivial, ⟨⟨1, rfl⟩, trivial⟩, trivial⟩ <| aU 4 31 rfl rfl ⟨trivial, ⟨⟨1, rfl⟩, trivial⟩, trivial⟩ <| aU 5 63 rfl rfl ⟨trivial, ⟨⟨1, rfl⟩, trivial⟩, trivial⟩ <| aU 6 127 rfl rfl ⟨trivial, ⟨⟨1, rfl⟩, trivial⟩, trivial⟩ <| aU 7 255 rfl rfl ⟨trivial, ⟨⟨1, rfl⟩, trivial⟩, trivial⟩ <|
             aU 8 511 rfl rfl ⟨trivial, ⟨⟨1, rfl⟩, trivial⟩, trivial⟩ <| aU 9 1023 rfl rfl ⟨trivial, ⟨⟨1, rfl⟩, trivial⟩, trivial⟩ <| aw 10 2047 rfl (op_pick rfl rfl) ⟨trivial, ⟨⟨1, rfl⟩, trivial⟩, trivial⟩ <| aw 11 4095 rfl (mv rfl) ⟨trivial, ⟨⟨1, rfl⟩, trivial⟩, trivial⟩ <|
             aU 12 8191 rfl rfl ⟨trivial, ⟨⟨1, rfl⟩, trivial⟩, trivial⟩ <| aU 13 16383 rfl rfl ⟨trivial, ⟨⟨1, rfl⟩, trivial⟩, trivial⟩ <| aU 14 32767 rfl rfl ⟨trivial, ⟨⟨1, rfl⟩, trivial⟩, trivial⟩ <| aU 15 65535 rfl rfl ⟨trivial, ⟨⟨1, rfl⟩, trivial⟩, trivial⟩ <|
             aU 16 131071 rfl rfl ⟨trivial, ⟨⟨1, rfl⟩, trivial⟩, trivial⟩ <| aU 17 262143 rfl rfl ⟨trivial, ⟨⟨1, rfl⟩, trivial⟩, trivial⟩ <| aU 18 524287 rfl rfl ⟨trivial, ⟨⟨1, rfl⟩, trivial⟩, trivial⟩ <| aw 19 1048575 rfl (op_pick rfl rfl) ⟨trivial, ⟨⟨1, rfl⟩, trivial⟩, trivial⟩ <|
             VA.one1 (i := 20) (listed' := LB 22 2097151) (by kernel_rfl) rfl (o_store 2 7 rfl rfl rfl TI27 (.agg (.of rfl)) rfl (len rfl)) rfl (by kernel_rfl) ⟨trivial, ⟨⟨1, rfl⟩, trivial⟩, trivial⟩ <| aw 21 4194303 rfl (ag rfl) ⟨trivial, ⟨⟨1, rfl⟩, trivial⟩, trivial⟩ <| VA.done (by kernel_rfl) <|
             VN.meet0  [2] [] trivial ⟨rfl, ⟨rfl, rfl, trivial⟩, trivial, rfl, by decide, rfl, by decide⟩
          intro _
          refine VC.ret <| ?_
          simp only [Option.some.injEq, Prod.mk.injEq] at h
          obtain ⟨rfl, rfl, rfl, rfl, rfl, rfl, rfl, rfl⟩ := h
          exact VR.nilRow' 9 1 <| VR.nilRow' 56 2 <| VR.nilRow' 9 1 <| VR.nilRow' 9 1 <|
           VR.fn (rs := [.cell 6 27, .tmp 7]) [] [((.slice none 0 0), 9, 1, ([] : List ByteArray).map enc_str), ((.slice none 0 0), 56, 2, ([] : List S55).map enc55), ((.slice none 0 0), 9, 1, ([] : List ByteArray).map enc_str), ((.slice none 0 0), 9, 1, ([] : List ByteArray).map enc_str)] [3, 2, 1, 0] rfl (.cell 0 rfl rfl TI27 (fun h => absurd h (by decide)) (.tmp rfl .nil)) ⟨(.slice none 0 0), (.slice none 0 0), (.slice none 0 0), (.slice none 0 0), rfl, rfl, rfl⟩ trivial rfl (by decide)
        cases lF c2056 hb2055
        refine VC.join0 (⟨109, [(1, .string a1), (6, .pointer (some ⟨g1170, 0, none⟩)), (7, .bool false), (9, .pointer (some ⟨g1172, 0, none⟩)), (12, .bool false)], [], [(g1172, 27, [.slice none 0 0, .slice none 0 0, .int .i64 i1829, .int .i64 (wrap64 (bt a1 5)), .int .i64 i2048, .slice none 0 0, .slice none 0 0]), (g1170, 27, [.slice none 0 0, .slice none 0 0, .int .i64 0, .int .i64 0, .int .i64 0, .slice none 0 0, .slice none 0 0])], []⟩) (True) ?_ ?_
        · exact VC.draw ⟨0, [], [], [(g1172, 27, [.slice none 0 0, .slice none 0 0, .int .i64 i1829, .int .i64 (wrap64 (bt a1 5)), .int .i64 i2048, .slice none 0 0, .slice none 0 0])], []⟩ (by kernel_rfl) rfl (by kernel_rfl) (n := 28) (listed := LB 28 0) <|
           av 0 1 rfl (op_fieldAddr FI27_1 rfl (add_at _ _ _)) <| av 1 3 rfl (op_load 0 1 rfl rfl TI3 rfl (by decide)) <| av 2 7 rfl (op_cmp rfl rfl (congrArg some hb2049)) <| av 3 15 rfl (mv rfl) <| av 4 31 rfl (op_fieldAddr FI27_1 rfl (add_at _ _ _)) <|
           av 5 63 rfl (op_load 0 1 rfl rfl TI3 rfl (by decide)) <| av 6 127 rfl (op_cmp rfl rfl (congrArg some hb2051)) <| av 7 255 rfl (op_pick rfl rfl) <| av 8 511 rfl (mv rfl) <| av 9 1023 rfl (op_fieldAddr FI27_1 rfl (add_at _ _ _)) <| av 10 2047 rfl (op_load 0 1 rfl rfl TI3 rfl (by decide)) <|
           av 11 4095 rfl (op_rem rfl rfl (by decide) rfl) <| av 12 8191 rfl (mv rfl) <| av 13 16383 rfl (op_cmp rfl rfl (congrArg some hb2053)) <| av 14 32767 rfl (op_pick rfl rfl) <| av 15 65535 rfl (mv rfl) <| av 16 131071 rfl (op_fieldAddr FI27_2 rfl (add_at _ _ _)) <|
           av 17 262143 rfl (op_load 0 1 rfl rfl TI3 rfl (by decide)) <| av 18 524287 rfl (op_cmp rfl rfl (congrArg some hb2055)) <| av 19 1048575 rfl (op_pick rfl rfl) <| av 20 2097151 rfl (mv rfl) <| au 21 4194303 rfl rfl <| au 22 8388607 rfl rfl <| au 23 16777215 rfl rfl <| au 24 33554431 rfl rfl <|
           au 25 67108863 rfl rfl <| av 26 134217727 rfl (op_pick rfl rfl) <| av 27 268435455 rfl (ag rfl) <| VA.done (by kernel_rfl) <| VN.meet0  [0, 1] [] trivial ⟨rfl, ⟨rfl, rfl, rfl, rfl, rfl, trivial⟩, trivial, rfl, by decide, rfl, by decide⟩
        intro _
        refine sr <| va (op_fieldAddr FI27_1 rfl (add_at _ _ _)) <| va (op_load 0 1 rfl rfl TI3 rfl (by decide)) <| va (op_fieldAddr FI27_2 rfl (add_at _ _ _)) <| va (op_load 0 1 rfl rfl TI3 rfl (by decide)) <| va (op_fieldAddr FI27_3 rfl (add_at _ _ _)) <| va (op_load 0 1 rfl rfl TI3 rfl (by decide)) <| ?_
        replace h := bd h
        obtain ⟨r2096, hA2097, h⟩ := h
        refine sC (o_call0 FO39 (journal_headOf.ok k i1829 (wrap64 (bt a1 5)) i2048 r2096 hA2097) rfl rfl (ltn rfl) (All_of .nil)) <| ?_
        rintro _ _ _ ⟨rfl, rfl, rfl⟩
        refine sG (o_alloc Z74 ZL74) fun g2098 => ?_
        replace h := iN h
        obtain ⟨c2099, h⟩ := h
        replace h := iN h
        obtain ⟨c2100, h⟩ := h
        refine s1 (o_storeA 0 rfl rfl rfl TI74 c2099 c2100) <| dt <|
         VC.join0 (⟨109, [(6, .pointer (some ⟨g1170, 0, none⟩)), (7, .bool false)], [], [(g1170, 27, [.slice none 0 0, .slice none 0 0, .int .i64 i1829, .int .i64 (wrap64 (bt a1 5)), .int .i64 i2048, .slice none 0 0, .slice none 0 0])], []⟩) (True) ?_ ?_
        · exact VC.draw ⟨0, [], [], [(g1172, 27, [.slice none 0 0, .slice none 0 0, .int .i64 i1829, .int .i64 (wrap64 (bt a1 5)), .int .i64 i2048, .slice none 0 0, .slice none 0 0])], []⟩ (by kernel_rfl) rfl (by kernel_rfl) (n := 22) (listed := LB 22 0) <|
           aw 0 1 rfl (op_load 0 7 rfl rfl TI27 rfl (fun h => absurd h (by decide))) ⟨trivial, ⟨⟨1, rfl⟩, trivial⟩, trivial⟩ <| aw 1 3 rfl (mv rfl) ⟨trivial, ⟨⟨1, rfl⟩, trivial⟩, trivial⟩ <| aw 2 7 rfl (mv rfl) ⟨trivial, ⟨⟨1, rfl⟩, trivial⟩, trivial⟩ <|
           aU 3 15 rfl rfl ⟨trivial, ⟨⟨1, rfl⟩, trivial⟩, trivial⟩ <| aU 4 31 rfl rfl ⟨trivial, ⟨⟨1, rfl⟩, trivial⟩, trivial⟩ <| aU 5 63 rfl rfl ⟨trivial, ⟨⟨1, rfl⟩, trivial⟩, trivial⟩ <| aU 6 127 rfl rfl ⟨trivial, ⟨⟨1, rfl⟩, trivial⟩, trivial⟩ <| aU 7 255 rfl rfl ⟨trivial, ⟨⟨1, rfl⟩, trivial⟩, trivial⟩ <|
           aU 8 511 rfl rfl ⟨trivial, ⟨⟨1, rfl⟩, trivial⟩, trivial⟩ <| aU 9 1023 rfl rfl ⟨trivial, ⟨⟨1, rfl⟩, trivial⟩, trivial⟩ <| aw 10 2047 rfl (op_pick rfl rfl) ⟨trivial, ⟨⟨1, rfl⟩, trivial⟩, trivial⟩ <| aw 11 4095 rfl (mv rfl) ⟨trivial, ⟨⟨1, rfl⟩, trivial⟩, trivial⟩ <|
           aU 12 8191 rfl rfl ⟨trivial, ⟨⟨1, rfl⟩, trivial⟩, trivial⟩ <| aU 13 16383 rfl rfl ⟨trivial, ⟨⟨1, rfl⟩, trivial⟩, trivial⟩ <| aU 14 32767 rfl rfl ⟨trivial, ⟨⟨1, rfl⟩, trivial⟩, trivial⟩ <| aU 15 65535 rfl rfl ⟨trivial, ⟨⟨1, rfl⟩, trivial⟩, trivial⟩ <|
           aU 16 131071 rfl rfl ⟨trivial, ⟨⟨1, rfl⟩, trivial⟩, trivial⟩ <| aU 17 262143 rfl rfl ⟨trivial, ⟨⟨1, rfl⟩, trivial⟩, trivial⟩ <| aU 18 524287 rfl rfl ⟨trivial, ⟨⟨1, rfl⟩, trivial⟩, trivial⟩ <| aw 19 1048575 rfl (op_pick rfl rfl) ⟨trivial, ⟨⟨1, rfl⟩, trivial⟩, trivial⟩ <|
           VA.one1 (i := 20) (listed' := LB 22 2097151) (by kernel_rfl) rfl (o_store 2 7 rfl rfl rfl TI27 (.agg (.of rfl)) rfl (len rfl)) rfl (by kernel_rfl) ⟨trivial, ⟨⟨1, rfl⟩, trivial⟩, trivial⟩ <| aw 21 4194303 rfl (ag rfl) ⟨trivial, ⟨⟨1, rfl⟩, trivial⟩, trivial⟩ <| VA.done (by kernel_rfl) <|
           VN.meet0  [2] [] trivial ⟨rfl, ⟨rfl, rfl, trivial⟩, trivial, rfl, by decide, rfl, by decide⟩
        intro _
        refine VC.ret <| ?_
        simp only [Option.some.injEq, Prod.mk.injEq] at h
        obtain ⟨rfl, rfl, rfl, rfl, rfl, rfl, rfl, rfl⟩ := h
        exact VR.nilRow' 9 1 <| VR.nilRow' 56 2 <| VR.nilRow' 9 1 <| VR.nilRow' 9 1 <|
         VR.fn (rs := [.cell 6 27, .tmp 7]) [] [((.slice none 0 0), 9, 1, ([] : List ByteArray).map enc_str), ((.slice none 0 0), 56, 2, ([] : List S55).map enc55), ((.slice none 0 0), 9, 1, ([] : List ByteArray).map enc_str), ((.slice none 0 0), 9, 1, ([] : List ByteArray).map enc_str)] [3, 2, 1, 0] rfl (.cell 0 rfl rfl TI27 (fun h => absurd h (by decide)) (.tmp rfl .nil)) ⟨(.slice none 0 0), (.slice none 0 0), (.slice none 0 0), (.slice none 0 0), rfl, rfl, rfl⟩ trivial rfl (by decide)
      obtain rfl : b2053 = false := hb2053.symm.trans (beq_eq_false_iff_ne.2 c2054)
      refine VC.join0 (⟨109, [(1, .string a1), (6, .pointer (some ⟨g1170, 0, none⟩)), (7, .bool false), (9, .pointer (some ⟨g1172, 0, none⟩)), (12, .bool false)], [], [(g1172, 27, [.slice none 0 0, .slice none 0 0, .int .i64 i1829, .int .i64 (wrap64 (bt a1 5)), .int .i64 i2048, .slice none 0 0, .slice none 0 0]), (g1170, 27, [.slice none 0 0, .slice none 0 0, .int .i64 0, .int .i64 0, .int .i64 0, .slice none 0 0, .slice none 0 0])], []⟩) (True) ?_ ?_
      · exact VC.draw ⟨0, [], [], [(g1172, 27, [.slice none 0 0, .slice none 0 0, .int .i64 i1829, .int .i64 (wrap64 (bt a1 5)), .int .i64 i2048, .slice none 0 0, .slice none 0 0])], []⟩ (by kernel_rfl) rfl (by kernel_rfl) (n := 28) (listed := LB 28 0) <|
         av 0 1 rfl (op_fieldAddr FI27_1 rfl (add_at _ _ _)) <| av 1 3 rfl (op_load 0 1 rfl rfl TI3 rfl (by decide)) <| av 2 7 rfl (op_cmp rfl rfl (congrArg some hb2049)) <| av 3 15 rfl (mv rfl) <| av 4 31 rfl (op_fieldAddr FI27_1 rfl (add_at _ _ _)) <|
         av 5 63 rfl (op_load 0 1 rfl rfl TI3 rfl (by decide)) <| av 6 127 rfl (op_cmp rfl rfl (congrArg some hb2051)) <| av 7 255 rfl (op_pick rfl rfl) <| av 8 511 rfl (mv rfl) <| av 9 1023 rfl (op_fieldAddr FI27_1 rfl (add_at _ _ _)) <| av 10 2047 rfl (op_load 0 1 rfl rfl TI3 rfl (by decide)) <|
         av 11 4095 rfl (op_rem rfl rfl (by decide) rfl) <| av 12 8191 rfl (mv rfl) <| av 13 16383 rfl (op_cmp rfl rfl (congrArg some hb2053)) <| av 14 32767 rfl (op_pick rfl rfl) <| av 15 65535 rfl (mv rfl) <| au 16 131071 rfl rfl <| au 17 262143 rfl rfl <| au 18 524287 rfl rfl <|
         av 19 1048575 rfl (op_pick rfl rfl) <| av 20 2097151 rfl (mv rfl) <| au 21 4194303 rfl rfl <| au 22 8388607 rfl rfl <| au 23 16777215 rfl rfl <| au 24 33554431 rfl rfl <| au 25 67108863 rfl rfl <| av 26 134217727 rfl (op_pick rfl rfl) <| av 27 268435455 rfl (ag rfl) <| VA.done (by kernel_rfl) <|
         VN.meet0  [0, 1] [] trivial ⟨rfl, ⟨rfl, rfl, rfl, rfl, rfl, trivial⟩, trivial, rfl, by decide, rfl, by decide⟩
      intro _
      refine sr <| va (op_fieldAddr FI27_1 rfl (add_at _ _ _)) <| va (op_load 0 1 rfl rfl TI3 rfl (by decide)) <| va (op_fieldAddr FI27_2 rfl (add_at _ _ _)) <| va (op_load 0 1 rfl rfl TI3 rfl (by decide)) <| va (op_fieldAddr FI27_3 rfl (add_at _ _ _)) <| va (op_load 0 1 rfl rfl TI3 rfl (by decide)) <| ?_
      replace h := bd h
      obtain ⟨r2105, hA2106, h⟩ := h
      refine sC (o_call0 FO39 (journal_headOf.ok k i1829 (wrap64 (bt a1 5)) i2048 r2105 hA2106) rfl rfl (ltn rfl) (All_of .nil)) <| ?_
      rintro _ _ _ ⟨rfl, rfl, rfl⟩
      refine sG (o_alloc Z74 ZL74) fun g2107 => ?_
      replace h := iN h
      obtain ⟨c2108, h⟩ := h
      replace h := iN h
      obtain ⟨c2109, h⟩ := h
      refine s1 (o_storeA 0 rfl rfl rfl TI74 c2108 c2109) <| dt <|
       VC.join0 (⟨109, [(6, .pointer (some ⟨g1170, 0, none⟩)), (7, .bool false)], [], [(g1170, 27, [.slice none 0 0, .slice none 0 0, .int .i64 i1829, .int .i64 (wrap64 (bt a1 5)), .int .i64 i2048, .slice none 0 0, .slice none 0 0])], []⟩) (True) ?_ ?_
      · exact VC.draw ⟨0, [], [], [(g1172, 27, [.slice none 0 0, .slice none 0 0, .int .i64 i1829, .int .i64 (wrap64 (bt a1 5)), .int .i64 i2048, .slice none 0 0, .slice none 0 0])], []⟩ (by kernel_rfl) rfl (by kernel_rfl) (n := 22) (listed := LB 22 0) <|
         aw 0 1 rfl (op_load 0 7 rfl rfl TI27 rfl (fun h => absurd h (by decide))) ⟨trivial, ⟨⟨1, rfl⟩, trivial⟩, trivial⟩ <| aw 1 3 rfl (mv rfl) ⟨trivial, ⟨⟨1, rfl⟩, trivial⟩, trivial⟩ <| aw 2 7 rfl (mv rfl) ⟨trivial, ⟨⟨1, rfl⟩, trivial⟩, trivial⟩ <|
         aU 3 15 rfl rfl ⟨trivial, ⟨⟨1, rfl⟩, trivial⟩, trivial⟩ <| aU 4 31 rfl rfl ⟨trivial, ⟨⟨1, rfl⟩, trivial⟩, trivial⟩ <| aU 5 63 rfl rfl ⟨trivial, ⟨⟨1, rfl⟩, trivial⟩, trivial⟩ <| aU 6 127 rfl rfl ⟨trivial, ⟨⟨1, rfl⟩, trivial⟩, trivial⟩ <| aU 7 255 rfl rfl ⟨trivial, ⟨⟨1, rfl⟩, trivial⟩, trivial⟩ <|
         aU 8 511 rfl rfl ⟨trivial, ⟨⟨1, rfl⟩, trivial⟩, trivial⟩ <| aU 9 1023 rfl rfl ⟨trivial, ⟨⟨1, rfl⟩, trivial⟩, trivial⟩ <| aw 10 2047 rfl (op_pick rfl rfl) ⟨trivial, ⟨⟨1, rfl⟩, trivial⟩, trivial⟩ <| aw 11 4095 rfl (mv rfl) ⟨trivial, ⟨⟨1, rfl⟩, trivial⟩, trivial⟩ <|
         aU 12 8191 rfl rfl ⟨trivial, ⟨⟨1, rfl⟩, trivial⟩, trivial⟩ <| aU 13 16383 rfl rfl ⟨trivial, ⟨⟨1, rfl⟩, trivial⟩, trivial⟩ <| aU 14 32767 rfl rfl ⟨trivial, ⟨⟨1, rfl⟩, trivial⟩, trivial⟩ <| aU 15 65535 rfl rfl ⟨trivial, ⟨⟨1, rfl⟩, trivial⟩, trivial⟩ <|
         aU 16 131071 rfl rfl ⟨trivial, ⟨⟨1, rfl⟩, trivial⟩, trivial⟩ <| aU 17 262143 rfl rfl ⟨trivial, ⟨⟨1, rfl⟩, trivial⟩, trivial⟩ <| aU 18 524287 rfl rfl ⟨trivial, ⟨⟨1, rfl⟩, trivial⟩, trivial⟩ <| aw 19 1048575 rfl (op_pick rfl rfl) ⟨trivial, ⟨⟨1, rfl⟩, trivial⟩, trivial⟩ <|
         VA.one1 (i := 20) (listed' := LB 22 2097151) (by kernel_rfl) rfl (o_store 2 7 rfl rfl rfl TI27 (.agg (.of rfl)) rfl (len rfl)) rfl (by kernel_rfl) ⟨trivial, ⟨⟨1, rfl⟩, trivial⟩, trivial⟩ <| aw 21 4194303 rfl (ag rfl) ⟨trivial, ⟨⟨1, rfl⟩, trivial⟩, trivial⟩ <| VA.done (by kernel_rfl) <|
         VN.meet0  [2] [] trivial ⟨rfl, ⟨rfl, rfl, trivial⟩, trivial, rfl, by decide, rfl, by decide⟩
      intro _
      refine VC.ret <| ?_
      simp only [Option.some.injEq, Prod.mk.injEq] at h
      obtain ⟨rfl, rfl, rfl, rfl, rfl, rfl, rfl, rfl⟩ := h
      exact VR.nilRow' 9 1 <| VR.nilRow' 56 2 <| VR.nilRow' 9 1 <| VR.nilRow' 9 1 <|
       VR.fn (rs := [.cell 6 27, .tmp 7]) [] [((.slice none 0 0), 9, 1, ([] : List ByteArray).map enc_str), ((.slice none 0 0), 56, 2, ([] : List S55).map enc55), ((.slice none 0 0), 9, 1, ([] : List ByteArray).map enc_str), ((.slice none 0 0), 9, 1, ([] : List ByteArray).map enc_str)] [3, 2, 1, 0] rfl (.cell 0 rfl rfl TI27 (fun h => absurd h (by decide)) (.tmp rfl .nil)) ⟨(.slice none 0 0), (.slice none 0 0), (.slice none 0 0), (.slice none 0 0), rfl, rfl, rfl⟩ trivial rfl (by decide)
    cases lF c2052 hb2051
    refine VC.join0 (⟨109, [(1, .string a1), (6, .pointer (some ⟨g1170, 0, none⟩)), (7, .bool false), (9, .pointer (some ⟨g1172, 0, none⟩)), (12, .bool false)], [], [(g1172, 27, [.slice none 0 0, .slice none 0 0, .int .i64 i1829, .int .i64 (wrap64 (bt a1 5)), .int .i64 i2048, .slice none 0 0, .slice none 0 0]), (g1170, 27, [.slice none 0 0, .slice none 0 0, .int .i64 0, .int .i64 0, .int .i64 0, .slice none 0 0, .slice none 0 0])], []⟩) (True) ?_ ?_
    · exact VC.draw ⟨0, [], [], [(g1172, 27, [.slice none 0 0, .slice none 0 0, .int .i64 i1829, .int .i64 (wrap64 (bt a1 5)), .int .i64 i2048, .slice none 0 0, .slice none 0 0])], []⟩ (by kernel_rfl) rfl (by kernel_rfl) (n := 28) (listed := LB 28 0) <|
       av 0 1 rfl (op_fieldAddr FI27_1 rfl (add_at _ _ _)) <| av 1 3 rfl (op_load 0 1 rfl rfl TI3 rfl (by decide)) <| av 2 7 rfl (op_cmp rfl rfl (congrArg some hb2049)) <| av 3 15 rfl (mv rfl) <| av 4 31 rfl (op_fieldAddr FI27_1 rfl (add_at _ _ _)) <|
       av 5 63 rfl (op_load 0 1 rfl rfl TI3 rfl (by decide)) <| av 6 127 rfl (op_cmp rfl rfl (congrArg some hb2051)) <| av 7 255 rfl (op_pick rfl rfl) <| av 8 511 rfl (mv rfl) <| au 9 1023 rfl rfl <| au 10 2047 rfl rfl <| au 11 4095 rfl rfl <| au 12 8191 rfl rfl <| au 13 16383 rfl rfl <|
       av 14 32767 rfl (op_pick rfl rfl) <| av 15 65535 rfl (mv rfl) <| au 16 131071 rfl rfl <| au 17 262143 rfl rfl <| au 18 524287 rfl rfl <| av 19 1048575 rfl (op_pick rfl rfl) <| av 20 2097151 rfl (mv rfl) <| au 21 4194303 rfl rfl <| au 22 8388607 rfl rfl <| au 23 16777215 rfl rfl <|
       au 24 33554431 rfl rfl <| au 25 67108863 rfl rfl <| av 26 134217727 rfl (op_pick rfl rfl) <| av 27 268435455 rfl (ag rfl) <| VA.done (by kernel_rfl) <| VN.meet0  [0, 1] [] trivial ⟨rfl, ⟨rfl, rfl, rfl, rfl, rfl, trivial⟩, trivial, rfl, by decide, rfl, by decide⟩
    intro _
    refine sr <| va (op_fieldAddr FI27_1 rfl (add_at _ _ _)) <| va (op_load 0 1 rfl rfl TI3 rfl (by decide)) <| va (op_fieldAddr FI27_2 rfl (add_at _ _ _)) <| va (op_load 0 1 rfl rfl TI3 rfl (by decide)) <| va (op_fieldAddr FI27_3 rfl (add_at _ _ _)) <| va (op_load 0 1 rfl rfl TI3 rfl (by decide)) <| ?_
    replace h := bd h
    obtain ⟨r2114, hA2115, h⟩ := h
    refine sC (o_call0 FO39 (journal_headOf.ok k i1829 (wrap64 (bt a1 5)) i2048 r2114 hA2115) rfl rfl (ltn rfl) (All_of .nil)) <| ?_
    rintro _ _ _ ⟨rfl, rfl, rfl⟩
    refine sG (o_alloc Z74 ZL74) fun g2116 => ?_
    replace h := iN h
    obtain ⟨c2117, h⟩ := h
    replace h := iN h
    obtain ⟨c2118, h⟩ := h
    refine s1 (o_storeA 0 rfl rfl rfl TI74 c2117 c2118) <| dt <|
     VC.join0 (⟨109, [(6, .pointer (some ⟨g1170, 0, none⟩)), (7, .bool false)], [], [(g1170, 27, [.slice none 0 0, .slice none 0 0, .int .i64 i1829, .int .i64 (wrap64 (bt a1 5)), .int .i64 i2048, .slice none 0 0, .slice none 0 0])], []⟩) (True) ?_ ?_
    · exact VC.draw ⟨0, [], [], [(g1172, 27, [.slice none 0 0, .slice none 0 0, .int .i64 i1829, .int .i64 (wrap64 (bt a1 5)), .int .i64 i2048, .slice none 0 0, .slice none 0 0])], []⟩ (by kernel_rfl) rfl (by kernel_rfl) (n := 22) (listed := LB 22 0) <|
       aw 0 1 rfl (op_load 0 7 rfl rfl TI27 rfl (fun h => absurd h (by decide))) ⟨trivial, ⟨⟨1, rfl⟩, trivial⟩, trivial⟩ <| aw 1 3 rfl (mv rfl) ⟨trivial, ⟨⟨1, rfl⟩, trivial⟩, trivial⟩ <| aw 2 7 rfl (mv rfl) ⟨trivial, ⟨⟨1, rfl⟩, trivial⟩, trivial⟩ <|
       aU 3 15 rfl rfl ⟨trivial, ⟨⟨1, rfl⟩, trivial⟩, trivial⟩ <| aU 4 31 rfl rfl ⟨trivial, ⟨⟨1, rfl⟩, trivial⟩, trivial⟩ <| aU 5 63 rfl rfl ⟨trivial, ⟨⟨1, rfl⟩, trivial⟩, trivial⟩ <| aU 6 127 rfl rfl ⟨trivial, ⟨⟨1, rfl⟩, trivial⟩, trivial⟩ <| aU 7 255 rfl rfl ⟨trivial, ⟨⟨1, rfl⟩, trivial⟩, trivial⟩ <|
       aU 8 511 rfl rfl ⟨trivial, ⟨⟨1, rfl⟩, trivial⟩, trivial⟩ <| aU 9 1023 rfl rfl ⟨trivial, ⟨⟨1, rfl⟩, trivial⟩, trivial⟩ <| aw 10 2047 rfl (op_pick rfl rfl) ⟨trivial, ⟨⟨1, rfl⟩, trivial⟩, trivial⟩ <| aw 11 4095 rfl (mv rfl) ⟨trivial, ⟨⟨1, rfl⟩, trivial⟩, trivial⟩ <|
       aU 12 8191 rfl rfl ⟨trivial, ⟨⟨1, rfl⟩, trivial⟩, trivial⟩ <| aU 13 16383 rfl rfl ⟨trivial, ⟨⟨1, rfl⟩, trivial⟩, trivial⟩ <| aU 14 32767 rfl rfl ⟨trivial, ⟨⟨1, rfl⟩, trivial⟩, trivial⟩ <| aU 15 65535 rfl rfl ⟨trivial, ⟨⟨1, rfl⟩, trivial⟩, trivial⟩ <|
       aU 16 131071 rfl rfl ⟨trivial, ⟨⟨1, rfl⟩, trivial⟩, trivial⟩ <| aU 17 262143 rfl rfl ⟨trivial, ⟨⟨1, rfl⟩, trivial⟩, trivial⟩ <| aU 18 524287 rfl rfl ⟨trivial, ⟨⟨1, rfl⟩, trivial⟩, trivial⟩ <| aw 19 1048575 rfl (op_pick rfl rfl) ⟨trivial, ⟨⟨1, rfl⟩, trivial⟩, trivial⟩ <|
       VA.one1 (i := 20) (listed' := LB 22 2097151) (by kernel_rfl) rfl (o_store 2 7 rfl rfl rfl TI27 (.agg (.of rfl)) rfl (len rfl)) rfl (by kernel_rfl) ⟨trivial, ⟨⟨1, rfl⟩, trivial⟩, trivial⟩ <| aw 21 4194303 rfl (ag rfl) ⟨trivial, ⟨⟨1, rfl⟩, trivial⟩, trivial⟩ <| VA.done (by kernel_rfl) <|
       VN.meet0  [2] [] trivial ⟨rfl, ⟨rfl, rfl, trivial⟩, trivial, rfl, by decide, rfl, by decide⟩
    intro _
    refine VC.ret <| ?_
    simp only [Option.some.injEq, Prod.mk.injEq] at h
    obtain ⟨rfl, rfl, rfl, rfl, rfl, rfl, rfl, rfl⟩ := h
    exact VR.nilRow' 9 1 <| VR.nilRow' 56 2 <| VR.nilRow' 9 1 <| VR.nilRow' 9 1 <|
     VR.fn (rs := [.cell 6 27, .tmp 7]) [] [((.slice none 0 0), 9, 1, ([] : List ByteArray).map enc_str), ((.slice none 0 0), 56, 2, ([] : List S55).map enc55), ((.slice none 0 0), 9, 1, ([] : List ByteArray).map enc_str), ((.slice none 0 0), 9, 1, ([] : List ByteArray).map enc_str)] [3, 2, 1, 0] rfl (.cell 0 rfl rfl TI27 (fun h => absurd h (by decide)) (.tmp rfl .nil)) ⟨(.slice none 0 0), (.slice none 0 0), (.slice none 0 0), (.slice none 0 0), rfl, rfl, rfl⟩ trivial rfl (by decide)
  cases lF c2050 hb2049
  refine VC.join0 (⟨109, [(1, .string a1), (6, .pointer (some ⟨g1170, 0, none⟩)), (7, .bool false), (9, .pointer (some ⟨g1172, 0, none⟩)), (12, .bool false)], [], [(g1172, 27, [.slice none 0 0, .slice none 0 0, .int .i64 i1829, .int .i64 (wrap64 (bt a1 5)), .int .i64 i2048, .slice none 0 0, .slice none 0 0]), (g1170, 27, [.slice none 0 0, .slice none 0 0, .int .i64 0, .int .i64 0, .int .i64 0, .slice none 0 0, .slice none 0 0])], []⟩) (True) ?_ ?_
  · exact VC.draw ⟨0, [], [], [(g1172, 27, [.slice none 0 0, .slice none 0 0, .int .i64 i1829, .int .i64 (wrap64 (bt a1 5)), .int .i64 i2048, .slice none 0 0, .slice none 0 0])], []⟩ (by kernel_rfl) rfl (by kernel_rfl) (n := 28) (listed := LB 28 0) <|
     av 0 1 rfl (op_fieldAddr FI27_1 rfl (add_at _ _ _)) <| av 1 3 rfl (op_load 0 1 rfl rfl TI3 rfl (by decide)) <| av 2 7 rfl (op_cmp rfl rfl (congrArg some hb2049)) <| av 3 15 rfl (mv rfl) <| au 4 31 rfl rfl <| au 5 63 rfl rfl <| au 6 127 rfl rfl <| av 7 255 rfl (op_pick rfl rfl) <|
     av 8 511 rfl (mv rfl) <| au 9 1023 rfl rfl <| au 10 2047 rfl rfl <| au 11 4095 rfl rfl <| au 12 8191 rfl rfl <| au 13 16383 rfl rfl <| av 14 32767 rfl (op_pick rfl rfl) <| av 15 65535 rfl (mv rfl) <| au 16 131071 rfl rfl <| au 17 262143 rfl rfl <| au 18 524287 rfl rfl <|
     av 19 1048575 rfl (op_pick rfl rfl) <| av 20 2097151 rfl (mv rfl) <| au 21 4194303 rfl rfl <| au 22 8388607 rfl rfl <| au 23 16777215 rfl rfl <| au 24 33554431 rfl rfl <| au 25 67108863 rfl rfl <| av 26 134217727 rfl (op_pick rfl rfl) <| av 27 268435455 rfl (ag rfl) <| VA.done (by kernel_rfl) <|
     VN.meet0  [0, 1] [] trivial ⟨rfl, ⟨rfl, rfl, rfl, rfl, rfl, trivial⟩, trivial, rfl, by decide, rfl, by decide⟩
  intro _
  refine sr <| va (op_fieldAddr FI27_1 rfl (add_at _ _ _)) <| va (op_load 0 1 rfl rfl TI3 rfl (by decide)) <| va (op_fieldAddr FI27_2 rfl (add_at _ _ _)) <| va (op_load 0 1 rfl rfl TI3 rfl (by decide)) <| va (op_fieldAddr FI27_3 rfl (add_at _ _ _)) <| va (op_load 0 1 rfl rfl TI3 rfl (by decide)) <| ?_
  replace h := bd h
  obtain ⟨r2123, hA2124, h⟩ := h
  refine sC (o_call0 FO39 (journal_headOf.ok k i1829 (wrap64 (bt a1 5)) i2048 r2123 hA2124) rfl rfl (ltn rfl) (All_of .nil)) <| ?_
  rintro _ _ _ ⟨rfl, rfl, rfl⟩
  refine sG (o_alloc Z74 ZL74) fun g2125 => ?_
  replace h := iN h
  obtain ⟨c2126, h⟩ := h
  replace h := iN h
  obtain ⟨c2127, h⟩ := h
  refine s1 (o_storeA 0 rfl rfl rfl TI74 c2126 c2127) <| dt <|
   VC.join0 (⟨109, [(6, .pointer (some ⟨g1170, 0, none⟩)), (7, .bool false)], [], [(g1170, 27, [.slice none 0 0, .slice none 0 0, .int .i64 i1829, .int .i64 (wrap64 (bt a1 5)), .int .i64 i2048, .slice none 0 0, .slice none 0 0])], []⟩) (True) ?_ ?_
  · exact VC.draw ⟨0, [], [], [(g1172, 27, [.slice none 0 0, .slice none 0 0, .int .i64 i1829, .int .i64 (wrap64 (bt a1 5)), .int .i64 i2048, .slice none 0 0, .slice none 0 0])], []⟩ (by kernel_rfl) rfl (by kernel_rfl) (n := 22) (listed := LB 22 0) <|
     aw 0 1 rfl (op_load 0 7 rfl rfl TI27 rfl (fun h => absurd h (by decide))) ⟨trivial, ⟨⟨1, rfl⟩, trivial⟩, trivial⟩ <| aw 1 3 rfl (mv rfl) ⟨trivial, ⟨⟨1, rfl⟩, trivial⟩, trivial⟩ <| aw 2 7 rfl (mv rfl) ⟨trivial, ⟨⟨1, rfl⟩, trivial⟩, trivial⟩ <|
     aU 3 15 rfl rfl ⟨trivial, ⟨⟨1, rfl⟩, trivial⟩, trivial⟩ <| aU 4 31 rfl rfl ⟨trivial, ⟨⟨1, rfl⟩, trivial⟩, trivial⟩ <| aU 5 63 rfl rfl ⟨trivial, ⟨⟨1, rfl⟩, trivial⟩, trivial⟩ <| aU 6 127 rfl rfl ⟨trivial, ⟨⟨1, rfl⟩, trivial⟩, trivial⟩ <| aU 7 255 rfl rfl ⟨trivial, ⟨⟨1, rfl⟩, trivial⟩, trivial⟩ <|
     aU 8 511 rfl rfl ⟨trivial, ⟨⟨1, rfl⟩, trivial⟩, trivial⟩ <| aU 9 1023 rfl rfl ⟨trivial, ⟨⟨1, rfl⟩, trivial⟩, trivial⟩ <| aw 10 2047 rfl (op_pick rfl rfl) ⟨trivial, ⟨⟨1, rfl⟩, trivial⟩, trivial⟩ <| aw 11 4095 rfl (mv rfl) ⟨trivial, ⟨⟨1, rfl⟩, trivial⟩, trivial⟩ <|
     aU 12 8191 rfl rfl ⟨trivial, ⟨⟨1, rfl⟩, trivial⟩, trivial⟩ <| aU 13 16383 rfl rfl ⟨trivial, ⟨⟨1, rfl⟩, trivial⟩, trivial⟩ <| aU 14 32767 rfl rfl ⟨trivial, ⟨⟨1, rfl⟩, trivial⟩, trivial⟩ <| aU 15 65535 rfl rfl ⟨trivial, ⟨⟨1, rfl⟩, trivial⟩, trivial⟩ <|
     aU 16 131071 rfl rfl ⟨trivial, ⟨⟨1, rfl⟩, trivial⟩, trivial⟩ <| aU 17 262143 rfl rfl ⟨trivial, ⟨⟨1, rfl⟩, trivial⟩, trivial⟩ <| aU 18 524287 rfl rfl ⟨trivial, ⟨⟨1, rfl⟩, trivial⟩, trivial⟩ <| aw 19 1048575 rfl (op_pick rfl rfl) ⟨trivial, ⟨⟨1, rfl⟩, trivial⟩, trivial⟩ <|
     VA.one1 (i := 20) (listed' := LB 22 2097151) (by kernel_rfl) rfl (o_store 2 7 rfl rfl rfl TI27 (.agg (.of rfl)) rfl (len rfl)) rfl (by kernel_rfl) ⟨trivial, ⟨⟨1, rfl⟩, trivial⟩, trivial⟩ <| aw 21 4194303 rfl (ag rfl) ⟨trivial, ⟨⟨1, rfl⟩, trivial⟩, trivial⟩ <| VA.done (by kernel_rfl) <|
     VN.meet0  [2] [] trivial ⟨rfl, ⟨rfl, rfl, trivial⟩, trivial, rfl, by decide, rfl, by decide⟩
  intro _
  refine VC.ret <| ?_
  simp only [Option.some.injEq, Prod.mk.injEq] at h
  obtain ⟨rfl, rfl, rfl, rfl, rfl, rfl, rfl, rfl⟩ := h
  exact VR.nilRow' 9 1 <| VR.nilRow' 56 2 <| VR.nilRow' 9 1 <| VR.nilRow' 9 1 <|
   VR.fn (rs := [.cell 6 27, .tmp 7]) [] [((.slice none 0 0), 9, 1, ([] : List ByteArray).map enc_str), ((.slice none 0 0), 56, 2, ([] : List S55).map enc55), ((.slice none 0 0), 9, 1, ([] : List ByteArray).map enc_str), ((.slice none 0 0), 9, 1, ([] : List ByteArray).map enc_str)] [3, 2, 1, 0] rfl (.cell 0 rfl rfl TI27 (fun h => absurd h (by decide)) (.tmp rfl .nil)) ⟨(.slice none 0 0), (.slice none 0 0), (.slice none 0 0), (.slice none 0 0), rfl, rfl, rfl⟩ trivial rfl (by decide)

end Go.Proofs.Ytipeglbeongfmaa.PJournalLives
