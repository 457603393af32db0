/- Written by a program of this repo: what the program's functions do, each as a Lean function, shown of the loaded code; or a statement's row over that; no condition of its own. -/
import Derived.Test.YtipeglbeongfmaaPJournalLivesx5
namespace Go.Proofs.Ytipeglbeongfmaa.PJournalLives
open Go Go.RowKit Go.Proofs.YtipeglbeongfmaaV
set_option linter.unusedVariables false
set_option linter.unusedSimpArgs false
set_option maxHeartbeats 4000000
set_option maxRecDepth 100000

theorem journal_Open.ok (k : Nat) (l0_0 : List ByteArray) (l0_1 : List S55) (v0_0 : Value) (v0_1 : Value) (r1 : List ByteArray) (r2 : List S55) (r3 : Int) (r4 : Int) (r5 : Int) (r6 : List ByteArray) (r7 : List ByteArray) (r8 : Int) (h : journal_Open.f k l0_0 l0_1 = some (r1, r2, r3, r4, r5, r6, r7, r8)) :
    VCalls Try.prog 9 [.agg #[v0_0, v0_1]] [.row v0_0 1 (l0_0.map enc_str), .row v0_1 2 (l0_1.map enc55)] (fun v G own => ∃ w0 w1 w5 w6 : Value, v = .tuple #[.agg #[w0, w1, .int .i64 r3, .int .i64 r4, .int .i64 r5, w5, w6], .int .i64 r8] ∧ G = [.row w0 1 (r1.map enc_str), .row w1 2 (r2.map enc55)] ∧ own = [(w5, 9, 1, r6.map enc_str), (w6, 9, 1, r7.map enc_str)]) := by
  refine VCalls.intro Try.func9 rfl (len rfl) fun E hC hW hD hU => ?_
  unfold journal_Open.f at h
  refine sr <| sG (o_box rfl (.agg (.f 0 rfl (.f 1 rfl .nil)))) fun g5283 => sG (o_alloc Z27 ZL27) fun g5284 => vs rfl <| ds <|
   VC.join1 (fun (q6072 : Bool) => ⟨94, [(1, .pointer (some ⟨g5283, 0, none⟩)), (2, .pointer (some ⟨g5284, 0, none⟩)), (3, .int .i64 0), (26, .bool q6072)], [.row v0_0 1 (l0_0.map enc_str), .row v0_1 2 (l0_1.map enc55)], [(g5284, 27, [.slice none 0 0, .slice none 0 0, .int .i64 0, .int .i64 0, .int .i64 0, .slice none 0 0, .slice none 0 0]), (g5283, 25, [v0_0, v0_1])], []⟩) (fun (q6072 : Bool) => journal_Open.j4 k l0_0 l0_1 q6072 = some (r1, r2, r3, r4, r5, r6, r7, r8)) ?_ ?_
  · refine rg <| va (op_load 1 2 rfl rfl TI25 rfl (fun h => absurd h (by decide))) <| ?_
    replace h := bd h
    obtain ⟨t6066, hA6067, h⟩ := h
    refine sC (o_call0 FO23 (disk_Right.ok k l0_0 l0_1 v0_0 v0_1 t6066 hA6067) rfl rfl (ltn rfl) (All_of (.cons (mG 0 rfl) (.cons (mG 1 rfl) .nil)))) <| ?_
    rintro _ _ _ ⟨rfl, rfl, rfl⟩
    replace h := iC h
    rcases h with ⟨c6068, h⟩ | ⟨c6068, h⟩
    · obtain rfl := c6068
      refine va (op_not rfl rfl) <| vm rfl <| va (op_fieldAddr FI25_0 rfl (add_at _ _ _)) <| va (op_load 1 1 rfl rfl TI22 rfl (by decide)) <| va (op_len (m := l0_0.length) 0 lenm Try.underlying22 rfl rfl) <|
       VL.letter (decide ((l0_0.length : Int) < 8)) fun b6069 hb6069 => va (op_cmp rfl rfl (congrArg some hb6069)) <| va (op_pick rfl rfl) <| vm rfl <| ?_
      replace h := iC h
      rcases h with ⟨c6070, h⟩ | ⟨c6070, h⟩
      · cases lT c6070 hb6069
        refine un rfl <| un rfl <| un rfl <| un rfl <| va (op_pick rfl rfl) <| dn <| VN.meet1 true [0, 1] [] h ⟨rfl, ⟨rfl, rfl, rfl, rfl, trivial⟩, ⟨⟨0, rfl⟩, ⟨1, rfl⟩, trivial⟩, rfl, by decide, rfl, by decide⟩
      cases lF c6070 hb6069
      refine va (op_fieldAddr FI25_1 rfl (add_at _ _ _)) <| va (op_load 1 1 rfl rfl TI23 rfl (by decide)) <| va (op_len (m := l0_1.length) 1 lenm Try.underlying23 rfl rfl) <| VL.letter (decide ((l0_1.length : Int) > 0)) fun b6071 hb6071 => va (op_cmp rfl rfl (congrArg some hb6071)) <|
       va (op_pick rfl rfl) <| dn <| ?_
      subst hb6071
      refine VN.meet1 (decide ((l0_1.length : Int) > 0)) [0, 1] [] h ⟨rfl, ⟨rfl, rfl, rfl, rfl, trivial⟩, ⟨⟨0, rfl⟩, ⟨1, rfl⟩, trivial⟩, rfl, by decide, rfl, by decide⟩
    obtain rfl := Bool.eq_false_iff.2 c6068
    refine va (op_not rfl rfl) <| vm rfl <| un rfl <| un rfl <| un rfl <| un rfl <| va (op_pick rfl rfl) <| vm rfl <| un rfl <| un rfl <| un rfl <| un rfl <| va (op_pick rfl rfl) <| dn <|
     VN.meet1 true [0, 1] [] h ⟨rfl, ⟨rfl, rfl, rfl, rfl, trivial⟩, ⟨⟨0, rfl⟩, ⟨1, rfl⟩, trivial⟩, rfl, by decide, rfl, by decide⟩
  clear h
  intro q6072 h
  unfold journal_Open.j4 at h
  replace h := iC h
  rcases h with ⟨c6073, h⟩ | ⟨c6073, h⟩
  · obtain rfl := c6073
    refine ct <| sr <| va (op_build (vals := []) (vcs := []) (cells := [.slice none 0 0, .slice none 0 0, .int .i64 0, .int .i64 0, .int .i64 0, .slice none 0 0, .slice none 0 0]) SI27 rfl .nil (by kernel_rfl)) <| s1 (o_store 0 7 rfl rfl rfl TI27 (.agg (.of rfl)) rfl (len rfl)) <| vs rfl <| dt <|
     VC.ret <| VR.then <| ?_
    simp only [Option.some.injEq, Prod.mk.injEq] at h
    obtain ⟨rfl, rfl, rfl, rfl, rfl, rfl, rfl, rfl⟩ := h
    exact VR.nilFact' 1 <| VR.nilFact' 2 <| VR.nilRow' 9 1 <| VR.nilRow' 9 1 <|
     VR.fn (rs := [.cell 2 27, .tmp 3]) [.row (.slice none 0 0) 1 (([] : List ByteArray).map enc_str), .row (.slice none 0 0) 2 (([] : List S55).map enc55)] [((.slice none 0 0), 9, 1, ([] : List ByteArray).map enc_str), ((.slice none 0 0), 9, 1, ([] : List ByteArray).map enc_str)] [1, 0] rfl (.cell 0 rfl rfl TI27 (fun h => absurd h (by decide)) (.tmp rfl .nil)) ⟨(.slice none 0 0), (.slice none 0 0), (.slice none 0 0), (.slice none 0 0), rfl, rfl, rfl⟩ ⟨⟨1, rfl⟩, ⟨0, rfl⟩, trivial⟩ rfl (by decide)
  obtain rfl := Bool.eq_false_iff.2 c6073
  refine cf <| sk <| sr <| sG (o_alloc Z27 ZL27) fun g6078 => dt <|
   VC.join11 (fun (v6753 : Value) (l6754 : List ByteArray) (v6756 : Value) (l6757 : List S55) (i6758 : Int) (i6759 : Int) (i6760 : Int) (v6762 : Value) (l6763 : List ByteArray) (v6765 : Value) (l6766 : List ByteArray) => ⟨94, [(1, .pointer (some ⟨g5283, 0, none⟩)), (2, .pointer (some ⟨g5284, 0, none⟩)), (3, .int .i64 0), (4, .pointer (some ⟨g6078, 0, none⟩))], [.row v0_0 1 (l0_0.map enc_str), .row v0_1 2 (l0_1.map enc55)], [(g6078, 27, [v6753, v6756, .int .i64 i6758, .int .i64 i6759, .int .i64 i6760, v6762, v6765]), (g5284, 27, [.slice none 0 0, .slice none 0 0, .int .i64 0, .int .i64 0, .int .i64 0, .slice none 0 0, .slice none 0 0]), (g5283, 25, [v0_0, v0_1])], [(v6753, 9, 1, l6754.map enc_str), (v6756, 56, 2, l6757.map enc55), (v6762, 9, 1, l6763.map enc_str), (v6765, 9, 1, l6766.map enc_str)]⟩) (fun (v6753 : Value) (l6754 : List ByteArray) (v6756 : Value) (l6757 : List S55) (i6758 : Int) (i6759 : Int) (i6760 : Int) (v6762 : Value) (l6763 : List ByteArray) (v6765 : Value) (l6766 : List ByteArray) => journal_Open.j7 k l0_0 l0_1 l6754 l6757 i6758 i6759 i6760 l6763 l6766 = some (r1, r2, r3, r4, r5, r6, r7, r8)) ?_ ?_
  · refine sr <| va (op_fieldAddr FI25_0 rfl (add_at _ _ _)) <| va (op_load 2 1 rfl rfl TI22 rfl (by decide)) <| ?_
    replace h := iN h
    obtain ⟨c6560, h⟩ := h
    refine sG (o_slice (m := l0_0.length) 0 0 2 lenm cutm Try.underlying22 TI9 rfl rfl ⟨rfl, ⟨_, _, rfl, (by decide), rfl⟩, Nat.zero_le _, tN (a := (2 : Int)) (b := (l0_0.length : Int)) rfl rfl c6560⟩) fun v6562 => va (op_len (m := ((l0_0.take 2).drop 0).length) 0 lenm Try.underlying22 rfl rfl) <|
     vm rfl <| dt <| VC.block <| VC.nilRow' 9 1 <| VC.nilRow' 56 2 <| VC.nilRow' 9 1 <| VC.nilRow' 9 1 <|
     VC.loop12 (fun (i6618 : Int) (v6620 : Value) (l6621 : List ByteArray) (v6624 : Value) (l6625 : List S55) (i6627 : Int) (i6628 : Int) (i6629 : Int) (v6631 : Value) (l6632 : List ByteArray) (v6635 : Value) (l6636 : List ByteArray) => ⟨94, [(1, .pointer (some ⟨g5283, 0, none⟩)), (2, .pointer (some ⟨g5284, 0, none⟩)), (3, .int .i64 0), (4, .pointer (some ⟨g6078, 0, none⟩)), (30, v6562), (31, .int .i64 (((l0_0.take 2).drop 0).length : Int)), (32, .int .i64 i6618)], [.row v6562 1 (((l0_0.take 2).drop 0).map enc_str), .row v0_0 1 (l0_0.map enc_str), .row v0_1 2 (l0_1.map enc55)], [(g6078, 27, [v6620, v6624, .int .i64 i6627, .int .i64 i6628, .int .i64 i6629, v6631, v6635]), (g5284, 27, [.slice none 0 0, .slice none 0 0, .int .i64 0, .int .i64 0, .int .i64 0, .slice none 0 0, .slice none 0 0]), (g5283, 25, [v0_0, v0_1])], [(v6620, 9, 1, l6621.map enc_str), (v6624, 56, 2, l6625.map enc55), (v6631, 9, 1, l6632.map enc_str), (v6635, 9, 1, l6636.map enc_str)]⟩) (fun (ml8 : Nat) (i6618 : Int) (v6620 : Value) (l6621 : List ByteArray) (v6624 : Value) (l6625 : List S55) (i6627 : Int) (i6628 : Int) (i6629 : Int) (v6631 : Value) (l6632 : List ByteArray) (v6635 : Value) (l6636 : List ByteArray) => journal_Open.l8 k l0_0 l0_1 ml8 i6618 l6621 l6625 i6627 i6628 i6629 l6632 l6636 = some (r1, r2, r3, r4, r5, r6, r7, r8)) k 0 (.slice none 0 0) ([] : List ByteArray) (.slice none 0 0) ([] : List S55) 0 0 0 (.slice none 0 0) ([] : List ByteArray) (.slice none 0 0) ([] : List ByteArray) [0, 1, 2] [3, 2, 1, 0] h ⟨rfl, ⟨rfl, rfl, rfl, rfl, rfl, rfl, rfl, trivial⟩, ⟨⟨0, rfl⟩, ⟨1, rfl⟩, ⟨2, rfl⟩, trivial⟩, rfl, by decide, rfl, by decide⟩ (by intros; simp [journal_Open.l8]) <|
     ?_
    clear h
    intro ml8 ihl8 i6618 v6620 l6621 v6624 l6625 i6627 i6628 i6629 v6631 l6632 v6635 l6636 h
    simp only [journal_Open.l8] at h
    refine sr <| VL.letter (decide (i6618 < (((l0_0.take 2).drop 0).length : Int))) fun b6695 hb6695 => va (op_cmp rfl rfl (congrArg some hb6695)) <| ds <| ?_
    replace h := iC h
    rcases h with ⟨c6697, h⟩ | ⟨c6697, h⟩
    · cases lT c6697 hb6695
      refine ct <| sk <| sq <| VC.block <| sr <| vm rfl <| ?_
      replace h := iN h
      obtain ⟨c6725, h⟩ := h
      replace h := bd h
      obtain ⟨x6726, hx6726, h⟩ := h
      refine VL.open (m := ((l0_0.take 2).drop 0).length) 0 lenm rfl (pos_get hx6726) <| ?_
      rintro ad6727 n6728 rfl
      refine va (op_indexAddr Try.underlying22 TI9 rfl rfl c6725 (lt_get c6725 hx6726) rfl) <| va (op_load_row (sz := 1) (o := 0) 0 i6618.toNat 1 rfl rfl (get_map hx6726) TI9 rfl (by decide)) <| vs rfl <| vs rfl <| nx <| vm rfl <| vm rfl <| va (op_fieldAddr FI25_0 rfl (add_at _ _ _)) <|
       va (op_load 2 1 rfl rfl TI22 rfl (by decide)) <| va (op_len (m := l0_0.length) 1 lenm Try.underlying22 rfl rfl) <| ?_
      replace h := bd h
      obtain ⟨⟨r6729, r6730, t6731, t6732, t6733, r6734, r6735, t6736⟩, hA6737, h⟩ := h
      dsimp only at h
      refine sC (o_call0 FO24 (journal_read.ok k i6618 x6726 (l0_0.length : Int) r6729 r6730 t6731 t6732 t6733 r6734 r6735 t6736 hA6737) rfl rfl (ltn rfl) (All_of .nil)) <| ?_
      rintro _ _ _ ⟨v6739, v6741, v6743, v6745, rfl, rfl, rfl⟩
      refine vm rfl <| va (op_extract rfl rfl) <| va (op_extract rfl rfl) <| sG (o_alloc Z27 ZL27) fun g6746 => s1 (o_store 0 7 rfl rfl rfl TI27 (.agg (.r 0 rfl (.r 1 rfl (.c rfl (.c rfl (.c rfl (.r 2 rfl (.r 3 rfl .nil)))))))) rfl (len rfl)) <| vs rfl <| nx <| vm rfl <| vm rfl <| ?_
      replace h := iC h
      rcases h with ⟨c6749, h⟩ | ⟨c6749, h⟩
      · obtain rfl := c6749
        refine va (op_fieldAddr FI27_1 rfl (add_at _ _ _)) <| va (op_load 0 1 rfl rfl TI3 rfl (by decide)) <| va (op_fieldAddr FI27_1 rfl (add_at _ _ _)) <| va (op_load 1 1 rfl rfl TI3 rfl (by decide)) <| VL.letter (decide (t6731 > i6627)) fun b6750 hb6750 => va (op_cmp rfl rfl (congrArg some hb6750)) <|
         va (op_pick rfl rfl) <| dt <| ?_
        replace h := iC h
        rcases h with ⟨c6751, h⟩ | ⟨c6751, h⟩
        · cases lT c6751 hb6750
          refine ct <| rg <| va (op_load 0 7 rfl rfl TI27 rfl (fun h => absurd h (by decide))) <| s1 (o_store 1 7 rfl rfl rfl TI27 (.agg (.r 0 rfl (.r 1 rfl (.c rfl (.c rfl (.c rfl (.r 2 rfl (.r 3 rfl .nil)))))))) rfl (len rfl)) <| dn <| VN.block <| tr <| va (op_ari64 rfl rfl rfl) <| vm rfl <| dn <|
           VN.again [1, 2, 3] [0, 1, 2, 3] (ihl8 (wrap64 (i6618 + 1)) v6739 r6729 v6741 r6730 t6731 t6732 t6733 v6743 r6734 v6745 r6735 h) ⟨rfl, ⟨rfl, rfl, rfl, rfl, rfl, rfl, rfl, trivial⟩, ⟨⟨0, rfl⟩, ⟨1, rfl⟩, ⟨2, rfl⟩, trivial⟩, rfl, by decide, rfl, by decide⟩
        cases lF c6751 hb6750
        refine cf <| VC.skip <| VN.block <| tr <| va (op_ari64 rfl rfl rfl) <| vm rfl <| dn <|
         VN.again [1, 2, 3] [4, 5, 6, 7] (ihl8 (wrap64 (i6618 + 1)) v6620 l6621 v6624 l6625 i6627 i6628 i6629 v6631 l6632 v6635 l6636 h) ⟨rfl, ⟨rfl, rfl, rfl, rfl, rfl, rfl, rfl, trivial⟩, ⟨⟨0, rfl⟩, ⟨1, rfl⟩, ⟨2, rfl⟩, trivial⟩, rfl, by decide, rfl, by decide⟩
      obtain rfl := Bool.eq_false_iff.2 c6749
      refine un rfl <| un rfl <| un rfl <| un rfl <| un rfl <| va (op_pick rfl rfl) <| dt <| cf <| VC.skip <| VN.block <| tr <| va (op_ari64 rfl rfl rfl) <| vm rfl <| dn <|
       VN.again [1, 2, 3] [4, 5, 6, 7] (ihl8 (wrap64 (i6618 + 1)) v6620 l6621 v6624 l6625 i6627 i6628 i6629 v6631 l6632 v6635 l6636 h) ⟨rfl, ⟨rfl, rfl, rfl, rfl, rfl, rfl, rfl, trivial⟩, ⟨⟨0, rfl⟩, ⟨1, rfl⟩, ⟨2, rfl⟩, trivial⟩, rfl, by decide, rfl, by decide⟩
    cases lF c6697 hb6695
    refine cf <| VC.exit <| VX.then <| VX.then <| VX.hit <| VN.meet11 v6620 l6621 v6624 l6625 i6627 i6628 i6629 v6631 l6632 v6635 l6636 [0, 1, 2] [0, 1, 2, 3] h ⟨rfl, ⟨rfl, rfl, rfl, rfl, trivial⟩, ⟨⟨1, rfl⟩, ⟨2, rfl⟩, trivial⟩, rfl, by decide, rfl, by decide⟩
  clear h
  intro v6753 l6754 v6756 l6757 i6758 i6759 i6760 v6762 l6763 v6765 l6766 h
  unfold journal_Open.j7 at h
  refine sq <| sr <| va (op_fieldAddr FI27_1 rfl (add_at _ _ _)) <| va (op_load 0 1 rfl rfl TI3 rfl (by decide)) <| VL.letter ((i6758 == 0)) fun b6773 hb6773 => va (op_cmp rfl rfl (congrArg some hb6773)) <| dt <| ?_
  replace h := iC h
  rcases h with ⟨c6774, h⟩ | ⟨c6774, h⟩
  · obtain rfl : b6773 = true := hb6773.symm.trans (beq_iff_eq.2 c6774)
    refine ct <| sr <| va (op_build (vals := []) (vcs := []) (cells := [.slice none 0 0, .slice none 0 0, .int .i64 0, .int .i64 0, .int .i64 0, .slice none 0 0, .slice none 0 0]) SI27 rfl .nil (by kernel_rfl)) <| s1 (o_store 1 7 rfl rfl rfl TI27 (.agg (.of rfl)) rfl (len rfl)) <| vs rfl <| dt <|
     VC.ret <| VR.then <| ?_
    simp only [Option.some.injEq, Prod.mk.injEq] at h
    obtain ⟨rfl, rfl, rfl, rfl, rfl, rfl, rfl, rfl⟩ := h
    exact VR.nilFact' 1 <| VR.nilFact' 2 <| VR.nilRow' 9 1 <| VR.nilRow' 9 1 <|
     VR.fn (rs := [.cell 2 27, .tmp 3]) [.row (.slice none 0 0) 1 (([] : List ByteArray).map enc_str), .row (.slice none 0 0) 2 (([] : List S55).map enc55)] [((.slice none 0 0), 9, 1, ([] : List ByteArray).map enc_str), ((.slice none 0 0), 9, 1, ([] : List ByteArray).map enc_str)] [1, 0] rfl (.cell 1 rfl rfl TI27 (fun h => absurd h (by decide)) (.tmp rfl .nil)) ⟨(.slice none 0 0), (.slice none 0 0), (.slice none 0 0), (.slice none 0 0), rfl, rfl, rfl⟩ ⟨⟨1, rfl⟩, ⟨0, rfl⟩, trivial⟩ rfl (by decide)
  obtain rfl : b6773 = false := hb6773.symm.trans (beq_eq_false_iff_ne.2 c6774)
  refine cf <| sk <| sr <| va (op_fieldAddr FI25_0 rfl (add_at _ _ _)) <| va (op_load 2 1 rfl rfl TI22 rfl (by decide)) <| va (op_len (m := l0_0.length) 0 lenm Try.underlying22 rfl rfl) <| va (op_fieldAddr FI27_2 rfl (add_at _ _ _)) <| va (op_load 0 1 rfl rfl TI3 rfl (by decide)) <| ?_
  replace h := bd h
  obtain ⟨t6779, hA6780, h⟩ := h
  refine sC (o_call0 FO25 (journal_begin.ok (l0_0.length : Int) i6759 t6779 hA6780) rfl rfl (ltn rfl) (All_of .nil)) <| ?_
  rintro _ _ _ ⟨rfl, rfl, rfl⟩
  refine vs rfl <| dt <| ?_
  replace h := iN h
  obtain ⟨c6781, h⟩ := h
  replace h := iN h
  obtain ⟨c6782, h⟩ := h
  replace h := iN h
  obtain ⟨c6783, h⟩ := h
  replace h := iN h
  obtain ⟨c6784, h⟩ := h
  replace h := bd h
  obtain ⟨r6787, hA6788, h⟩ := h
  replace h := iN h
  obtain ⟨c6789, h⟩ := h
  replace h := iN h
  obtain ⟨c6790, h⟩ := h
  replace h := bd h
  obtain ⟨⟨r6791, t6792⟩, hA6793, h⟩ := h
  dsimp only at h
  refine VC.join1 (fun (v6795 : Value) => ⟨94, [(1, .pointer (some ⟨g5283, 0, none⟩)), (2, .pointer (some ⟨g5284, 0, none⟩)), (3, .int .i64 0), (4, .pointer (some ⟨g6078, 0, none⟩)), (10, v6795), (11, .int .i64 t6792)], [.row v0_0 1 (l0_0.map enc_str), .row v0_1 2 (l0_1.map enc55)], [(g6078, 27, [v6753, v6756, .int .i64 i6758, .int .i64 i6759, .int .i64 i6760, v6762, v6765]), (g5284, 27, [.slice none 0 0, .slice none 0 0, .int .i64 0, .int .i64 0, .int .i64 0, .slice none 0 0, .slice none 0 0]), (g5283, 25, [v0_0, v0_1])], [(v6795, 9, 1, r6791.map enc_str), (v6753, 9, 1, l6754.map enc_str), (v6756, 56, 2, l6757.map enc55), (v6762, 9, 1, l6763.map enc_str), (v6765, 9, 1, l6766.map enc_str)]⟩) (fun (v6795 : Value) => True) ?_ ?_
  · refine VC.draw ⟨0, [], [.row v0_0 1 (l0_0.map enc_str)], [(g6078, 27, [v6753, v6756, .int .i64 i6758, .int .i64 i6759, .int .i64 i6760, v6762, v6765]), (g5283, 25, [v0_0, v0_1])], []⟩ (by kernel_rfl) rfl (by kernel_rfl) (n := 21) (listed := LB 21 0) <|
     aw 0 1 rfl (op_fieldAddr FI25_0 rfl (add_at _ _ _)) ⟨⟨⟨0, rfl⟩, trivial⟩, ⟨⟨0, rfl⟩, ⟨2, rfl⟩, trivial⟩, trivial⟩ <| aw 1 3 rfl (op_load 1 1 rfl rfl TI22 rfl (by decide)) ⟨⟨⟨0, rfl⟩, trivial⟩, ⟨⟨0, rfl⟩, ⟨2, rfl⟩, trivial⟩, trivial⟩ <|
     aw 2 7 rfl (mv rfl) ⟨⟨⟨0, rfl⟩, trivial⟩, ⟨⟨0, rfl⟩, ⟨2, rfl⟩, trivial⟩, trivial⟩ <| aw 3 15 rfl (mv rfl) ⟨⟨⟨0, rfl⟩, trivial⟩, ⟨⟨0, rfl⟩, ⟨2, rfl⟩, trivial⟩, trivial⟩ <| aw 4 31 rfl (op_fieldAddr FI25_0 rfl (add_at _ _ _)) ⟨⟨⟨0, rfl⟩, trivial⟩, ⟨⟨0, rfl⟩, ⟨2, rfl⟩, trivial⟩, trivial⟩ <|
     aw 5 63 rfl (op_load 1 1 rfl rfl TI22 rfl (by decide)) ⟨⟨⟨0, rfl⟩, trivial⟩, ⟨⟨0, rfl⟩, ⟨2, rfl⟩, trivial⟩, trivial⟩ <| aw 6 127 rfl (op_len (m := l0_0.length) 0 lenm Try.underlying22 rfl rfl) ⟨⟨⟨0, rfl⟩, trivial⟩, ⟨⟨0, rfl⟩, ⟨2, rfl⟩, trivial⟩, trivial⟩ <|
     aw 7 255 rfl (op_ari64 rfl rfl rfl) ⟨⟨⟨0, rfl⟩, trivial⟩, ⟨⟨0, rfl⟩, ⟨2, rfl⟩, trivial⟩, trivial⟩ <| aw 8 511 rfl (op_quo rfl rfl (by decide) rfl) ⟨⟨⟨0, rfl⟩, trivial⟩, ⟨⟨0, rfl⟩, ⟨2, rfl⟩, trivial⟩, trivial⟩ <|
     aw 9 1023 rfl (op_ari64 rfl rfl rfl) ⟨⟨⟨0, rfl⟩, trivial⟩, ⟨⟨0, rfl⟩, ⟨2, rfl⟩, trivial⟩, trivial⟩ <|
     VA.cut (i := 10) (listed' := LB 21 2047) rfl (m := l0_0.length) 0 t6779.toNat ((wrap64 (t6779 + (IntKind.i64.wrap ((wrap64 ((l0_0.length : Int) - 2)).tdiv 2)))).toNat) lenm cutm Try.underlying22 TI9 rfl rfl ⟨⟨_, _, rfl, c6781, rfl⟩, ⟨_, _, rfl, c6782, rfl⟩, tN (a := t6779) (b := (wrap64 (t6779 + (IntKind.i64.wrap ((wrap64 ((l0_0.length : Int) - 2)).tdiv 2))))) rfl rfl c6784, tN (a := (wrap64 (t6779 + (IntKind.i64.wrap ((wrap64 ((l0_0.length : Int) - 2)).tdiv 2))))) (b := (l0_0.length : Int)) rfl rfl c6783⟩ (ltn rfl) rfl (by kernel_rfl) (by kernel_rfl) (by kernel_rfl) (by kernel_rfl) ⟨⟨⟨0, rfl⟩, trivial⟩, ⟨⟨0, rfl⟩, ⟨2, rfl⟩, trivial⟩, trivial⟩ (fun _ _ _ _ h => h) <|
     ?_
    intro v6786
    refine aw 12 6143 rfl (op_fieldAddr FI27_3 rfl (add_at _ _ _)) ⟨⟨⟨1, rfl⟩, trivial⟩, ⟨⟨0, rfl⟩, ⟨2, rfl⟩, trivial⟩, trivial⟩ <| aw 13 14335 rfl (op_load 0 1 rfl rfl TI3 rfl (by decide)) ⟨⟨⟨1, rfl⟩, trivial⟩, ⟨⟨0, rfl⟩, ⟨2, rfl⟩, trivial⟩, trivial⟩ <|
     VA.oneC (i := 11) (listed' := LB 21 16383) (by kernel_rfl) rfl (o_call_b0 FO27 (strings_Join.ok ((l0_0.take ((wrap64 (t6779 + (IntKind.i64.wrap ((wrap64 ((l0_0.length : Int) - 2)).tdiv 2)))).toNat)).drop t6779.toNat) (⟨#[]⟩ : ByteArray) v6786 r6787 hA6788) rfl rfl (ltn rfl) (All_of (.cons (.inl (mG 0 rfl)) .nil)) (by rintro _ _ _ ⟨rfl, rfl, rfl⟩; rfl)) rfl (by kernel_rfl) <|
     ?_
    rintro _ _ _ ⟨rfl, rfl, rfl⟩
    refine ⟨⟨⟨⟨1, rfl⟩, trivial⟩, ⟨⟨0, rfl⟩, ⟨2, rfl⟩, trivial⟩, trivial⟩, ?_⟩
    refine aw 14 32767 rfl (op_sliceS 0 i6760.toNat Try.underlying9 rfl ⟨rfl, ⟨_, _, rfl, c6789, rfl⟩, Nat.zero_le _, tN (a := i6760) (b := (r6787.size : Int)) rfl rfl c6790⟩ rfl) ⟨⟨⟨1, rfl⟩, trivial⟩, ⟨⟨0, rfl⟩, ⟨2, rfl⟩, trivial⟩, trivial⟩ <|
     VA.oneC (i := 15) (listed' := LB 21 65535) (by kernel_rfl) rfl (o_call0 FO26 (frame_All.ok k (r6787.extract 0 i6760.toNat) r6791 t6792 hA6793) rfl rfl (ltn rfl) (All_of .nil)) rfl (by kernel_rfl) <| ?_
    rintro _ _ _ ⟨v6795, rfl, rfl, rfl⟩
    refine ⟨⟨⟨⟨1, rfl⟩, trivial⟩, ⟨⟨0, rfl⟩, ⟨2, rfl⟩, trivial⟩, trivial⟩, ?_⟩
    exact VA.more ⟨0, [], [.row v0_0 1 (l0_0.map enc_str)], [(g6078, 27, [v6753, v6756, .int .i64 i6758, .int .i64 i6759, .int .i64 i6760, v6762, v6765]), (g5283, 25, [v0_0, v0_1])], [(v6795, 9, 1, r6791.map enc_str)]⟩ ⟨⟨⟨0, rfl⟩, trivial⟩, ⟨⟨0, rfl⟩, ⟨1, rfl⟩, trivial⟩, trivial⟩ <|
     aw 16 131071 rfl (mv rfl) ⟨⟨⟨1, rfl⟩, trivial⟩, ⟨⟨0, rfl⟩, ⟨2, rfl⟩, trivial⟩, ⟨⟨0, rfl⟩, trivial⟩⟩ <| aw 17 262143 rfl (op_extract rfl rfl) ⟨⟨⟨1, rfl⟩, trivial⟩, ⟨⟨0, rfl⟩, ⟨2, rfl⟩, trivial⟩, ⟨⟨0, rfl⟩, trivial⟩⟩ <|
     aw 18 524287 rfl (op_extract rfl rfl) ⟨⟨⟨1, rfl⟩, trivial⟩, ⟨⟨0, rfl⟩, ⟨2, rfl⟩, trivial⟩, ⟨⟨0, rfl⟩, trivial⟩⟩ <| aw 19 1048575 rfl (ag rfl) ⟨⟨⟨1, rfl⟩, trivial⟩, ⟨⟨0, rfl⟩, ⟨2, rfl⟩, trivial⟩, ⟨⟨0, rfl⟩, trivial⟩⟩ <|
     aw 20 2097151 rfl (ag rfl) ⟨⟨⟨1, rfl⟩, trivial⟩, ⟨⟨0, rfl⟩, ⟨2, rfl⟩, trivial⟩, ⟨⟨0, rfl⟩, trivial⟩⟩ <| VA.done (by kernel_rfl) <| VN.meet1 v6795 [0, 1, 2] [0, 1, 2, 3, 4] trivial ⟨rfl, ⟨rfl, rfl, rfl, rfl, rfl, rfl, trivial⟩, ⟨⟨1, rfl⟩, ⟨2, rfl⟩, trivial⟩, rfl, by decide, rfl, by decide⟩
  intro v6795 _
  refine sq <| sr <| vm rfl <| VL.letter ((t6792 != 0)) fun b6802 hb6802 => va (op_cmp rfl rfl (congrArg some hb6802)) <| dt <| ?_
  replace h := iC h
  rcases h with ⟨c6803, h⟩ | ⟨c6803, h⟩
  · obtain rfl : b6802 = false := hb6802.symm.trans (bne_eq_false_iff_eq.2 c6803)
    refine cf <| sk <| sr <| va (op_load 2 2 rfl rfl TI25 rfl (fun h => absurd h (by decide))) <| vm rfl <| va (op_fieldAddr FI27_0 rfl (add_at _ _ _)) <| s1 (o_store 0 2 rfl rfl rfl TI25 (.agg (.f 0 rfl (.f 1 rfl .nil))) rfl (len rfl)) <| va (op_fieldAddr FI27_5 rfl (add_at _ _ _)) <|
     s1 (o_store 0 1 rfl rfl rfl TI22 (.r 0 rfl) rfl (len rfl)) <| nx <| va (op_load 0 7 rfl rfl TI27 rfl (fun h => absurd h (by decide))) <| s1 (o_store 1 7 rfl rfl rfl TI27 (.agg (.f 0 rfl (.f 1 rfl (.c rfl (.c rfl (.c rfl (.r 3 rfl (.r 0 rfl .nil)))))))) rfl (len rfl)) <| vs rfl <| dt <| VC.ret <| ?_
    simp only [Option.some.injEq, Prod.mk.injEq] at h
    obtain ⟨rfl, rfl, rfl, rfl, rfl, rfl, rfl, rfl⟩ := h
    exact VR.fn (rs := [.cell 2 27, .tmp 3]) [.row v0_0 1 (l0_0.map enc_str), .row v0_1 2 (l0_1.map enc55)] [(v6762, 9, 1, l6763.map enc_str), (v6795, 9, 1, r6791.map enc_str)] [3, 0] rfl (.cell 1 rfl rfl TI27 (fun h => absurd h (by decide)) (.tmp rfl .nil)) ⟨v0_0, v0_1, v6762, v6795, rfl, rfl, rfl⟩ ⟨⟨0, rfl⟩, ⟨1, rfl⟩, trivial⟩ rfl (by decide)
  obtain rfl : b6802 = true := hb6802.symm.trans (bne_iff_ne.2 c6803)
  refine ct <| sr <| va (op_build (vals := []) (vcs := []) (cells := [.slice none 0 0, .slice none 0 0, .int .i64 0, .int .i64 0, .int .i64 0, .slice none 0 0, .slice none 0 0]) SI27 rfl .nil (by kernel_rfl)) <| vm rfl <| s1 (o_store 1 7 rfl rfl rfl TI27 (.agg (.of rfl)) rfl (len rfl)) <| vs rfl <|
   dt <| VC.ret <| VR.then <| ?_
  simp only [Option.some.injEq, Prod.mk.injEq] at h
  obtain ⟨rfl, rfl, rfl, rfl, rfl, rfl, rfl, rfl⟩ := h
  exact VR.nilFact' 1 <| VR.nilFact' 2 <| VR.nilRow' 9 1 <| VR.nilRow' 9 1 <|
   VR.fn (rs := [.cell 2 27, .tmp 3]) [.row (.slice none 0 0) 1 (([] : List ByteArray).map enc_str), .row (.slice none 0 0) 2 (([] : List S55).map enc55)] [((.slice none 0 0), 9, 1, ([] : List ByteArray).map enc_str), ((.slice none 0 0), 9, 1, ([] : List ByteArray).map enc_str)] [1, 0] rfl (.cell 1 rfl rfl TI27 (fun h => absurd h (by decide)) (.tmp rfl .nil)) ⟨(.slice none 0 0), (.slice none 0 0), (.slice none 0 0), (.slice none 0 0), rfl, rfl, rfl⟩ ⟨⟨1, rfl⟩, ⟨0, rfl⟩, trivial⟩ rfl (by decide)

theorem journal_Format.ok (k : Nat) (a0 : Int)  (r1 : List ByteArray) (r2 : List S55) (r3 : Int) (r4 : Int) (r5 : Int) (r6 : List ByteArray) (r7 : List ByteArray) (r8 : Int) (h : journal_Format.f k a0 = some (r1, r2, r3, r4, r5, r6, r7, r8)) :
    VCalls Try.prog 15 [.int .i64 a0] [] (fun v G own => ∃ w0 w1 w5 w6 : Value, v = .tuple #[.agg #[w0, w1, .int .i64 r3, .int .i64 r4, .int .i64 r5, w5, w6], .int .i64 r8] ∧ G = [.row w0 1 (r1.map enc_str), .row w1 2 (r2.map enc55)] ∧ own = [(w5, 9, 1, r6.map enc_str), (w6, 9, 1, r7.map enc_str)]) := by
  refine VCalls.intro Try.func15 rfl (len rfl) fun E hC hW hD hU => ?_
  unfold journal_Format.f at h
  refine sr <| sG (o_alloc Z27 ZL27) fun g6825 => vs rfl <| ds <| sr <| vm rfl <| VL.letter (decide (a0 < 8)) fun b6832 hb6832 => va (op_cmp rfl rfl (congrArg some hb6832)) <| dt <| ?_
  replace h := iC h
  rcases h with ⟨c6833, h⟩ | ⟨c6833, h⟩
  · cases lT c6833 hb6832
    refine ct <| sr <| va (op_build (vals := []) (vcs := []) (cells := [.slice none 0 0, .slice none 0 0, .int .i64 0, .int .i64 0, .int .i64 0, .slice none 0 0, .slice none 0 0]) SI27 rfl .nil (by kernel_rfl)) <| s1 (o_store 0 7 rfl rfl rfl TI27 (.agg (.of rfl)) rfl (len rfl)) <| vs rfl <| dt <|
     VC.ret <| VR.then <| ?_
    simp only [Option.some.injEq, Prod.mk.injEq] at h
    obtain ⟨rfl, rfl, rfl, rfl, rfl, rfl, rfl, rfl⟩ := h
    exact VR.nilFact' 1 <| VR.nilFact' 2 <| VR.nilRow' 9 1 <| VR.nilRow' 9 1 <|
     VR.fn (rs := [.cell 2 27, .tmp 3]) [.row (.slice none 0 0) 1 (([] : List ByteArray).map enc_str), .row (.slice none 0 0) 2 (([] : List S55).map enc55)] [((.slice none 0 0), 9, 1, ([] : List ByteArray).map enc_str), ((.slice none 0 0), 9, 1, ([] : List ByteArray).map enc_str)] [1, 0] rfl (.cell 0 rfl rfl TI27 (fun h => absurd h (by decide)) (.tmp rfl .nil)) ⟨(.slice none 0 0), (.slice none 0 0), (.slice none 0 0), (.slice none 0 0), rfl, rfl, rfl⟩ ⟨⟨1, rfl⟩, ⟨0, rfl⟩, trivial⟩ rfl (by decide)
  cases lF c6833 hb6832
  refine cf <| sk <| sr <| vm rfl <| ?_
  replace h := bd h
  obtain ⟨⟨r6838, r6839, t6840⟩, hA6841, h⟩ := h
  dsimp only at h
  refine sC (o_call0 FO37 (disk_New.ok a0 r6838 r6839 t6840 hA6841) rfl rfl (ltn rfl) (All_of .nil)) <| ?_
  rintro _ _ _ ⟨v6843, v6845, rfl, rfl, rfl⟩
  refine vm rfl <| va (op_extract rfl rfl) <| va (op_extract rfl rfl) <| sG (o_alloc Z25 ZL25) fun g6846 => s1 (o_store 0 2 rfl rfl rfl TI25 (.agg (.r 0 rfl (.r 1 rfl .nil))) rfl (len rfl)) <| vs rfl <| ds <| sr <| vm rfl <|
   VL.letter ((t6840 != 0)) fun b6853 hb6853 => va (op_cmp rfl rfl (congrArg some hb6853)) <| dt <| ?_
  replace h := iC h
  rcases h with ⟨c6854, h⟩ | ⟨c6854, h⟩
  · obtain rfl : b6853 = false := hb6853.symm.trans (bne_eq_false_iff_eq.2 c6854)
    refine cf <| sk <| ?_
    replace h := bd h
    obtain ⟨r6855, hA6856, h⟩ := h
    replace h := bd h
    obtain ⟨t6857, hA6858, h⟩ := h
    replace h := bd h
    obtain ⟨⟨r6859, r6860, t6861⟩, hA6862, h⟩ := h
    dsimp only at h
    refine VC.freezeRow' 0 rfl <| VC.freezeRow' 0 rfl <|
     VC.join2 (fun (v6864 : Value) (v6866 : Value) => ⟨34, [(2, .pointer (some ⟨g6825, 0, none⟩)), (3, .int .i64 0), (4, .pointer (some ⟨g6846, 0, none⟩))], [.row v6864 1 (r6859.map enc_str), .row v6866 2 (r6860.map enc55)], [(g6846, 25, [v6864, v6866]), (g6825, 27, [.slice none 0 0, .slice none 0 0, .int .i64 0, .int .i64 0, .int .i64 0, .slice none 0 0, .slice none 0 0])], []⟩) (fun (v6864 : Value) (v6866 : Value) => True) ?_ ?_
    · refine VC.drawB ⟨0, [], [], [], []⟩ [7] ⟨0, [], [], [(g6846, 25, [v6843, v6845])], []⟩ (by kernel_rfl) rfl (by kernel_rfl) (n := 8) (listed := LB 8 0) <|
       VB.vb (i := 0) (listed' := LB 8 1) rfl (op_load 0 2 rfl rfl TI25 rfl (fun h => absurd h (by decide))) rfl (by kernel_rfl) (by kernel_rfl) (by kernel_rfl) (by kernel_rfl) (by kernel_rfl) (by kernel_rfl) (PartP.on ⟨trivial, trivial, trivial⟩ ⟨trivial, ⟨⟨0, rfl⟩, trivial⟩, trivial⟩) (fun _ _ _ h => h) <|
       VB.oneC (i := 1) (listed' := LB 8 3) (by kernel_rfl) rfl (o_call0 FO39 (journal_headOf.ok k 1 0 0 r6855 hA6856) rfl rfl (ltn rfl) (All_of .nil)) rfl (by kernel_rfl) <| ?_
      rintro _ _ _ ⟨rfl, rfl, rfl⟩
      refine ⟨(PartP.on ⟨trivial, trivial, trivial⟩ ⟨trivial, ⟨⟨0, rfl⟩, trivial⟩, trivial⟩), ?_⟩
      refine VB.oneC (i := 2) (listed' := LB 8 7) (by kernel_rfl) rfl (o_call0 FO40 (journal_head_sector.ok r6855 t6857 hA6858) rfl rfl (ltn rfl) (All_of .nil)) rfl (by kernel_rfl) <| ?_
      rintro _ _ _ ⟨rfl, rfl, rfl⟩
      refine ⟨(PartP.on ⟨trivial, trivial, trivial⟩ ⟨trivial, ⟨⟨0, rfl⟩, trivial⟩, trivial⟩), ?_⟩
      refine VB.oneC (i := 3) (listed' := LB 8 15) (by kernel_rfl) rfl (o_call0 FO38 (disk_Put.ok k r6838 r6839 1 t6857 v6843 v6845 r6859 r6860 t6861 hA6862) rfl rfl (ltn rfl) (All_of (.cons (mG 1 rfl) (.cons (mG 0 rfl) .nil)))) rfl (by kernel_rfl) <| ?_
      rintro _ _ _ ⟨v6864, v6866, rfl, rfl, rfl⟩
      refine ⟨(PartP.on ⟨trivial, trivial, trivial⟩ ⟨trivial, ⟨⟨0, rfl⟩, trivial⟩, trivial⟩), ?_⟩
      exact VB.more ⟨0, [], [.row v6864 1 (r6859.map enc_str), .row v6866 2 (r6860.map enc55)], [], []⟩ ⟨trivial, trivial, trivial⟩ <|
       VB.va (i := 4) (listed' := LB 8 31) rfl (mv rfl) rfl (by kernel_rfl) (by kernel_rfl) (by kernel_rfl) (by kernel_rfl) (by decide) (PartP.on ⟨⟨⟨0, rfl⟩, ⟨1, rfl⟩, trivial⟩, trivial, trivial⟩ ⟨trivial, ⟨⟨0, rfl⟩, trivial⟩, trivial⟩) (fun _ _ _ h => h) <|
       VB.va (i := 5) (listed' := LB 8 63) rfl (op_extract rfl rfl) rfl (by kernel_rfl) (by kernel_rfl) (by kernel_rfl) (by kernel_rfl) (by decide) (PartP.on ⟨⟨⟨0, rfl⟩, ⟨1, rfl⟩, trivial⟩, trivial, trivial⟩ ⟨trivial, ⟨⟨0, rfl⟩, trivial⟩, trivial⟩) (fun _ _ _ h => h) <|
       VB.va (i := 6) (listed' := LB 8 127) rfl (op_extract rfl rfl) rfl (by kernel_rfl) (by kernel_rfl) (by kernel_rfl) (by kernel_rfl) (by decide) (PartP.on ⟨⟨⟨0, rfl⟩, ⟨1, rfl⟩, trivial⟩, trivial, trivial⟩ ⟨trivial, ⟨⟨0, rfl⟩, trivial⟩, trivial⟩) (fun _ _ _ h => h) <|
       VB.one1 (i := 7) (listed' := LB 8 255) (by kernel_rfl) rfl (o_store 0 2 rfl rfl rfl TI25 (.agg (.f 0 rfl (.f 1 rfl .nil))) rfl (len rfl)) rfl (by kernel_rfl) (PartP.off (by kernel_rfl) ⟨⟨⟨0, rfl⟩, ⟨1, rfl⟩, trivial⟩, trivial, trivial⟩) <| VB.done (by kernel_rfl) <|
       VN.meet2 v6864 v6866 [0, 1] [] trivial ⟨rfl, ⟨rfl, rfl, rfl, trivial⟩, ⟨⟨0, rfl⟩, ⟨1, rfl⟩, trivial⟩, rfl, by decide, rfl, by decide⟩
    intro v6864 v6866 _
    refine sr <| va (op_load 0 2 rfl rfl TI25 rfl (fun h => absurd h (by decide))) <| ?_
    replace h := bd h
    obtain ⟨⟨r6867, r6868, t6869⟩, hA6870, h⟩ := h
    dsimp only at h
    refine sC (o_call0 FO41 (disk_Flush.ok k r6859 r6860 v6864 v6866 r6867 r6868 t6869 hA6870) rfl rfl (ltn rfl) (All_of (.cons (mG 0 rfl) (.cons (mG 1 rfl) .nil)))) <| ?_
    rintro _ _ _ ⟨v6872, v6874, rfl, rfl, rfl⟩
    refine vm rfl <| va (op_extract rfl rfl) <| va (op_extract rfl rfl) <| s1 (o_store 0 2 rfl rfl rfl TI25 (.agg (.r 0 rfl (.r 1 rfl .nil))) rfl (len rfl)) <| nx <| va (op_load 0 2 rfl rfl TI25 rfl (fun h => absurd h (by decide))) <| VL.freezeRow' 0 rfl <| VL.freezeRow' 0 rfl <| ?_
    replace h := bd h
    obtain ⟨⟨r6875, r6876, t6877, t6878, t6879, r6880, r6881, t6882⟩, hA6883, h⟩ := h
    dsimp only at h
    refine sC (o_call0 FO9 (journal_Open.ok k r6867 r6868 v6872 v6874 r6875 r6876 t6877 t6878 t6879 r6880 r6881 t6882 hA6883) rfl rfl (ltn rfl) (All_of (.cons (mG 1 rfl) (.cons (mG 0 rfl) .nil)))) <| ?_
    rintro _ _ _ ⟨v6885, v6887, v6889, v6891, rfl, rfl, rfl⟩
    refine va (op_extract rfl rfl) <| va (op_extract rfl rfl) <| s1 (o_store 1 7 rfl rfl rfl TI27 (.agg (.f 0 rfl (.f 1 rfl (.c rfl (.c rfl (.c rfl (.r 0 rfl (.r 1 rfl .nil)))))))) rfl (len rfl)) <| vs rfl <| dt <| VC.ret <| ?_
    simp only [Option.some.injEq, Prod.mk.injEq] at h
    obtain ⟨rfl, rfl, rfl, rfl, rfl, rfl, rfl, rfl⟩ := h
    exact VR.fn (rs := [.cell 2 27, .tmp 3]) [.row v6885 1 (r6875.map enc_str), .row v6887 2 (r6876.map enc55)] [(v6889, 9, 1, r6880.map enc_str), (v6891, 9, 1, r6881.map enc_str)] [0, 1] rfl (.cell 1 rfl rfl TI27 (fun h => absurd h (by decide)) (.tmp rfl .nil)) ⟨v6885, v6887, v6889, v6891, rfl, rfl, rfl⟩ ⟨⟨0, rfl⟩, ⟨1, rfl⟩, trivial⟩ rfl (by decide)
  obtain rfl : b6853 = true := hb6853.symm.trans (bne_iff_ne.2 c6854)
  refine ct <| sr <| va (op_build (vals := []) (vcs := []) (cells := [.slice none 0 0, .slice none 0 0, .int .i64 0, .int .i64 0, .int .i64 0, .slice none 0 0, .slice none 0 0]) SI27 rfl .nil (by kernel_rfl)) <| vm rfl <| s1 (o_store 1 7 rfl rfl rfl TI27 (.agg (.of rfl)) rfl (len rfl)) <| vs rfl <|
   dt <| VC.ret <| VR.then <| ?_
  simp only [Option.some.injEq, Prod.mk.injEq] at h
  obtain ⟨rfl, rfl, rfl, rfl, rfl, rfl, rfl, rfl⟩ := h
  exact VR.nilFact' 1 <| VR.nilFact' 2 <| VR.nilRow' 9 1 <| VR.nilRow' 9 1 <|
   VR.fn (rs := [.cell 2 27, .tmp 3]) [.row (.slice none 0 0) 1 (([] : List ByteArray).map enc_str), .row (.slice none 0 0) 2 (([] : List S55).map enc55)] [((.slice none 0 0), 9, 1, ([] : List ByteArray).map enc_str), ((.slice none 0 0), 9, 1, ([] : List ByteArray).map enc_str)] [1, 0] rfl (.cell 1 rfl rfl TI27 (fun h => absurd h (by decide)) (.tmp rfl .nil)) ⟨(.slice none 0 0), (.slice none 0 0), (.slice none 0 0), (.slice none 0 0), rfl, rfl, rfl⟩ ⟨⟨1, rfl⟩, ⟨0, rfl⟩, trivial⟩ rfl (by decide)

theorem slices_Equal_string_string.ok (k : Nat) (l0 : List ByteArray) (l1 : List ByteArray) (v0 : Value) (v1 : Value) (r1 : Bool) (h : slices_Equal_string_string.f k l0 l1 = some r1) :
    VCalls Try.prog 34 [v0, v1] [.row v0 1 (l0.map enc_str), .row v1 1 (l1.map enc_str)] (fun v G own => v = .bool r1 ∧ G = [] ∧ own = []) := by
  refine VCalls.intro Try.func34 rfl (len rfl) fun E hC hW hD hU => ?_
  unfold slices_Equal_string_string.f at h
  refine sr <| vs rfl <| ds <| sr <| vm rfl <| va (op_len (m := l0.length) 0 lenm Try.underlying22 rfl rfl) <| vm rfl <| va (op_len (m := l1.length) 1 lenm Try.underlying22 rfl rfl) <|
   VL.letter (((l0.length : Int) != (l1.length : Int))) fun b6977 hb6977 => va (op_cmp rfl rfl (congrArg some hb6977)) <| dt <| ?_
  replace h := iC h
  rcases h with ⟨c6978, h⟩ | ⟨c6978, h⟩
  · obtain rfl : b6977 = false := hb6977.symm.trans (bne_eq_false_iff_eq.2 c6978)
    refine cf <| sk <| sq <| sr <| vm rfl <| va (op_len (m := l0.length) 0 lenm Try.underlying22 rfl rfl) <| vm rfl <| dt <| VC.block <|
     VC.loop1 (fun (i7032 : Int) => ⟨26, [(0, v0), (1, v1), (4, .bool false), (12, .int .i64 (l0.length : Int)), (13, .int .i64 i7032)], [.row v0 1 (l0.map enc_str), .row v1 1 (l1.map enc_str)], [], []⟩) (fun (ml1 : Nat) (i7032 : Int) => slices_Equal_string_string.l1 k l0 l1 ml1 i7032 = some r1) k 0 [] [] h ⟨rfl, ⟨rfl, rfl, rfl, rfl, rfl, trivial⟩, ⟨⟨0, rfl⟩, ⟨1, rfl⟩, trivial⟩, rfl, by decide, rfl, by decide⟩ (by intros; simp [slices_Equal_string_string.l1]) <|
     ?_
    clear h
    intro ml1 ihl1 i7032 h
    simp only [slices_Equal_string_string.l1] at h
    refine sr <| VL.letter (decide (i7032 < (l0.length : Int))) fun b7046 hb7046 => va (op_cmp rfl rfl (congrArg some hb7046)) <| ds <| ?_
    replace h := iC h
    rcases h with ⟨c7048, h⟩ | ⟨c7048, h⟩
    · cases lT c7048 hb7046
      refine ct <| sk <| sq <| VC.block <| sr <| vm rfl <| vs rfl <| dt <| ?_
      replace h := iN h
      obtain ⟨c7054, h⟩ := h
      replace h := bd h
      obtain ⟨x7055, hx7055, h⟩ := h
      replace h := bd h
      obtain ⟨x7056, hx7056, h⟩ := h
      refine VC.letter ((x7055 != x7056)) fun b7057 hb7057 => VC.open (m := l0.length) 0 lenm rfl (pos_get hx7055) <| ?_
      rintro ad6983 n6984 rfl
      refine VC.open (m := l1.length) 1 lenm rfl (pos_get hx7056) <| ?_
      rintro ad6986 n6987 rfl
      refine VC.join0 (⟨26, [(0, (.slice (some ad6983) l0.length n6984)), (1, (.slice (some ad6986) l1.length n6987)), (4, .bool false), (5, .int .i64 i7032), (12, .int .i64 (l0.length : Int)), (13, .int .i64 i7032), (14, .bool true), (15, .int .i64 i7032), (16, (.slice (some ad6983) l0.length n6984)), (17, .int .i64 i7032), (19, .string x7055), (20, (.slice (some ad6986) l1.length n6987)), (21, .int .i64 i7032), (23, .string x7056), (24, .bool b7057)], [.row (.slice (some ad6983) l0.length n6984) 1 (l0.map enc_str), .row (.slice (some ad6986) l1.length n6987) 1 (l1.map enc_str)], [], []⟩) (True) ?_ ?_
      · exact VC.draw ⟨0, [], [.row (.slice (some ad6983) l0.length n6984) 1 (l0.map enc_str), .row (.slice (some ad6986) l1.length n6987) 1 (l1.map enc_str)], [], []⟩ (by kernel_rfl) rfl (by kernel_rfl) (n := 9) (listed := LB 9 0) <| av 0 1 rfl (mv rfl) <| av 1 3 rfl (mv rfl) <|
         av 2 7 rfl (op_indexAddr Try.underlying22 TI9 rfl rfl c7054 (lt_get c7054 hx7055) rfl) <| av 3 15 rfl (op_load_row (sz := 1) (o := 0) 0 i7032.toNat 1 rfl rfl (get_map hx7055) TI9 rfl (by decide)) <| av 4 31 rfl (mv rfl) <| av 5 63 rfl (mv rfl) <|
         av 6 127 rfl (op_indexAddr Try.underlying22 TI9 rfl rfl c7054 (lt_get c7054 hx7056) rfl) <| av 7 255 rfl (op_load_row (sz := 1) (o := 0) 1 i7032.toNat 1 rfl rfl (get_map hx7056) TI9 rfl (by decide)) <| av 8 511 rfl (op_cmps rfl rfl (congrArg some hb7057)) <| VA.done (by kernel_rfl) <|
         VN.meet0  [] [] trivial ⟨rfl, ⟨rfl, rfl, rfl, rfl, rfl, rfl, rfl, rfl, rfl, rfl, rfl, rfl, rfl, rfl, rfl, trivial⟩, ⟨⟨0, rfl⟩, ⟨1, rfl⟩, trivial⟩, rfl, by decide, rfl, by decide⟩
      intro _
      replace h := iC h
      rcases h with ⟨c7058, h⟩ | ⟨c7058, h⟩
      · obtain rfl : b7057 = false := hb7057.symm.trans (bne_of_t c7058)
        refine cf <| VC.skip <| VN.block <| tr <| va (op_ari64 rfl rfl rfl) <| vm rfl <| dn <| VN.again [] [] (ihl1 (wrap64 (i7032 + 1)) h) ⟨rfl, ⟨rfl, rfl, rfl, rfl, rfl, trivial⟩, ⟨⟨0, rfl⟩, ⟨1, rfl⟩, trivial⟩, rfl, by decide, rfl, by decide⟩
      obtain rfl : b7057 = true := hb7057.symm.trans (bne_of_f c7058)
      refine ct <| sr <| vs rfl <| dt <| VC.ret <| VR.block <| VR.then <| VR.then <| VR.block <| VR.then <| ?_
      obtain rfl := Option.some.inj h
      exact VR.fn (rs := [.tmp 4]) [] [] [] rfl (.tmp rfl .nil) ⟨rfl, rfl, rfl⟩ trivial rfl (by decide)
    cases lF c7048 hb7046
    refine cf <| VC.exit <| VX.then <| VX.then <| VX.hit <| tx <| vs rfl <| dt <| VC.ret <| ?_
    obtain rfl := Option.some.inj h
    exact VR.fn (rs := [.tmp 4]) [] [] [] rfl (.tmp rfl .nil) ⟨rfl, rfl, rfl⟩ trivial rfl (by decide)
  obtain rfl : b6977 = true := hb6977.symm.trans (bne_iff_ne.2 c6978)
  refine ct <| sr <| vs rfl <| dt <| VC.ret <| VR.then <| ?_
  obtain rfl := Option.some.inj h
  exact VR.fn (rs := [.tmp 4]) [] [] [] rfl (.tmp rfl .nil) ⟨rfl, rfl, rfl⟩ trivial rfl (by decide)

theorem journal_waits_1.ok (a0 : ByteArray)  (r1 : Bool) (h : journal_waits_1.f a0 = some r1) :
    VCalls Try.prog 67 [.string a0] [] (fun v G own => v = .bool r1 ∧ G = [] ∧ own = []) := by
  refine VCalls.intro Try.func67 rfl (len rfl) fun E hC hW hD hU => ?_
  unfold journal_waits_1.f at h
  refine sr <| vs rfl <| nx <| vm rfl <| va (op_lens Try.underlying9 rfl) <| VL.letter (decide ((a0.size : Int) > 1000)) fun b7086 hb7086 => va (op_cmp rfl rfl (congrArg some hb7086)) <| vs rfl <| dt <| VC.ret <| ?_
  obtain rfl := Option.some.inj h
  subst hb7086
  exact VR.fn (rs := [.tmp 2]) [] [] [] rfl (.tmp rfl .nil) ⟨rfl, rfl, rfl⟩ trivial rfl (by decide)

end Go.Proofs.Ytipeglbeongfmaa.PJournalLives
