/- Written by a program of this repo: what the program's functions do, each as a Lean function, shown of the loaded code; or a statement's row over that; no condition of its own. -/
import Derived.Test.YtipeglbeongfmaaPJournalKeepsx5
namespace Go.Proofs.Ytipeglbeongfmaa.PJournalKeeps
open Go Go.RowKit Go.Proofs.YtipeglbeongfmaaV
set_option linter.unusedVariables false
set_option linter.unusedSimpArgs false
set_option maxHeartbeats 4000000
set_option maxRecDepth 100000

theorem journal_Open.ok (k : Nat) (l0_0 : List ByteArray) (l0_1 : List S55) (v0_0 : Value) (v0_1 : Value) (r1 : List ByteArray) (r2 : List S55) (r3 : Int) (r4 : Int) (r5 : Int) (r6 : List ByteArray) (r7 : List ByteArray) (r8 : Int) (h : journal_Open.f k l0_0 l0_1 = some (r1, r2, r3, r4, r5, r6, r7, r8)) :
    VCalls Try.prog 9 [.agg #[v0_0, v0_1]] [.row v0_0 1 (l0_0.map enc_str), .row v0_1 2 (l0_1.map enc55)] (fun v G own => ∃ w0 w1 w5 w6 : Value, v = .tuple #[.agg #[w0, w1, .int .i64 r3, .int .i64 r4, .int .i64 r5, w5, w6], .int .i64 r8] ∧ G = [.row w0 1 (r1.map enc_str), .row w1 2 (r2.map enc55)] ∧ own = [(w5, 9, 1, r6.map enc_str), (w6, 9, 1, r7.map enc_str)]) := by
  refine VCalls.intro Try.func9 rfl (len rfl) fun E hC hW hD hU => ?_
  unfold journal_Open.f at h
  refine sr <| sG (o_box rfl (.agg (.f 0 rfl (.f 1 rfl .nil)))) fun g5040 => sG (o_alloc Z27 ZL27) fun g5041 => vs rfl <| ds <|
   VC.join1 (fun (q5829 : Bool) => ⟨94, [(1, .pointer (some ⟨g5040, 0, none⟩)), (2, .pointer (some ⟨g5041, 0, none⟩)), (3, .int .i64 0), (26, .bool q5829)], [.row v0_0 1 (l0_0.map enc_str), .row v0_1 2 (l0_1.map enc55)], [(g5041, 27, [.slice none 0 0, .slice none 0 0, .int .i64 0, .int .i64 0, .int .i64 0, .slice none 0 0, .slice none 0 0]), (g5040, 25, [v0_0, v0_1])], []⟩) (fun (q5829 : Bool) => journal_Open.j4 k l0_0 l0_1 q5829 = some (r1, r2, r3, r4, r5, r6, r7, r8)) ?_ ?_
  · refine rg <| va (op_load 1 2 rfl rfl TI25 rfl (fun h => absurd h (by decide))) <| ?_
    replace h := bd h
    obtain ⟨t5823, hA5824, h⟩ := h
    refine sC (o_call0 FO23 (disk_Right.ok k l0_0 l0_1 v0_0 v0_1 t5823 hA5824) rfl rfl (ltn rfl) (All_of (.cons (mG 0 rfl) (.cons (mG 1 rfl) .nil)))) <| ?_
    rintro _ _ _ ⟨rfl, rfl, rfl⟩
    replace h := iC h
    rcases h with ⟨c5825, h⟩ | ⟨c5825, h⟩
    · obtain rfl := c5825
      refine va (op_not rfl rfl) <| vm rfl <| va (op_fieldAddr FI25_0 rfl (add_at _ _ _)) <| va (op_load 1 1 rfl rfl TI22 rfl (by decide)) <| va (op_len (m := l0_0.length) 0 lenm Try.underlying22 rfl rfl) <|
       VL.letter (decide ((l0_0.length : Int) < 8)) fun b5826 hb5826 => va (op_cmp rfl rfl (congrArg some hb5826)) <| va (op_pick rfl rfl) <| vm rfl <| ?_
      replace h := iC h
      rcases h with ⟨c5827, h⟩ | ⟨c5827, h⟩
      · cases lT c5827 hb5826
        refine un rfl <| un rfl <| un rfl <| un rfl <| va (op_pick rfl rfl) <| dn <| VN.meet1 true [0, 1] [] h ⟨rfl, ⟨rfl, rfl, rfl, rfl, trivial⟩, ⟨⟨0, rfl⟩, ⟨1, rfl⟩, trivial⟩, rfl, by decide, rfl, by decide⟩
      cases lF c5827 hb5826
      refine va (op_fieldAddr FI25_1 rfl (add_at _ _ _)) <| va (op_load 1 1 rfl rfl TI23 rfl (by decide)) <| va (op_len (m := l0_1.length) 1 lenm Try.underlying23 rfl rfl) <| VL.letter (decide ((l0_1.length : Int) > 0)) fun b5828 hb5828 => va (op_cmp rfl rfl (congrArg some hb5828)) <|
       va (op_pick rfl rfl) <| dn <| ?_
      subst hb5828
      refine VN.meet1 (decide ((l0_1.length : Int) > 0)) [0, 1] [] h ⟨rfl, ⟨rfl, rfl, rfl, rfl, trivial⟩, ⟨⟨0, rfl⟩, ⟨1, rfl⟩, trivial⟩, rfl, by decide, rfl, by decide⟩
    obtain rfl := Bool.eq_false_iff.2 c5825
    refine va (op_not rfl rfl) <| vm rfl <| un rfl <| un rfl <| un rfl <| un rfl <| va (op_pick rfl rfl) <| vm rfl <| un rfl <| un rfl <| un rfl <| un rfl <| va (op_pick rfl rfl) <| dn <|
     VN.meet1 true [0, 1] [] h ⟨rfl, ⟨rfl, rfl, rfl, rfl, trivial⟩, ⟨⟨0, rfl⟩, ⟨1, rfl⟩, trivial⟩, rfl, by decide, rfl, by decide⟩
  clear h
  intro q5829 h
  unfold journal_Open.j4 at h
  replace h := iC h
  rcases h with ⟨c5830, h⟩ | ⟨c5830, h⟩
  · obtain rfl := c5830
    refine ct <| sr <| va (op_build (vals := []) (vcs := []) (cells := [.slice none 0 0, .slice none 0 0, .int .i64 0, .int .i64 0, .int .i64 0, .slice none 0 0, .slice none 0 0]) SI27 rfl .nil (by kernel_rfl)) <| s1 (o_store 0 7 rfl rfl rfl TI27 (.agg (.of rfl)) rfl (len rfl)) <| vs rfl <| dt <|
     VC.ret <| VR.then <| ?_
    simp only [Option.some.injEq, Prod.mk.injEq] at h
    obtain ⟨rfl, rfl, rfl, rfl, rfl, rfl, rfl, rfl⟩ := h
    exact VR.nilFact' 1 <| VR.nilFact' 2 <| VR.nilRow' 9 1 <| VR.nilRow' 9 1 <|
     VR.fn (rs := [.cell 2 27, .tmp 3]) [.row (.slice none 0 0) 1 (([] : List ByteArray).map enc_str), .row (.slice none 0 0) 2 (([] : List S55).map enc55)] [((.slice none 0 0), 9, 1, ([] : List ByteArray).map enc_str), ((.slice none 0 0), 9, 1, ([] : List ByteArray).map enc_str)] [1, 0] rfl (.cell 0 rfl rfl TI27 (fun h => absurd h (by decide)) (.tmp rfl .nil)) ⟨(.slice none 0 0), (.slice none 0 0), (.slice none 0 0), (.slice none 0 0), rfl, rfl, rfl⟩ ⟨⟨1, rfl⟩, ⟨0, rfl⟩, trivial⟩ rfl (by decide)
  obtain rfl := Bool.eq_false_iff.2 c5830
  refine cf <| sk <| sr <| sG (o_alloc Z27 ZL27) fun g5835 => dt <|
   VC.join11 (fun (v6510 : Value) (l6511 : List ByteArray) (v6513 : Value) (l6514 : List S55) (i6515 : Int) (i6516 : Int) (i6517 : Int) (v6519 : Value) (l6520 : List ByteArray) (v6522 : Value) (l6523 : List ByteArray) => ⟨94, [(1, .pointer (some ⟨g5040, 0, none⟩)), (2, .pointer (some ⟨g5041, 0, none⟩)), (3, .int .i64 0), (4, .pointer (some ⟨g5835, 0, none⟩))], [.row v0_0 1 (l0_0.map enc_str), .row v0_1 2 (l0_1.map enc55)], [(g5835, 27, [v6510, v6513, .int .i64 i6515, .int .i64 i6516, .int .i64 i6517, v6519, v6522]), (g5041, 27, [.slice none 0 0, .slice none 0 0, .int .i64 0, .int .i64 0, .int .i64 0, .slice none 0 0, .slice none 0 0]), (g5040, 25, [v0_0, v0_1])], [(v6510, 9, 1, l6511.map enc_str), (v6513, 56, 2, l6514.map enc55), (v6519, 9, 1, l6520.map enc_str), (v6522, 9, 1, l6523.map enc_str)]⟩) (fun (v6510 : Value) (l6511 : List ByteArray) (v6513 : Value) (l6514 : List S55) (i6515 : Int) (i6516 : Int) (i6517 : Int) (v6519 : Value) (l6520 : List ByteArray) (v6522 : Value) (l6523 : List ByteArray) => journal_Open.j7 k l0_0 l0_1 l6511 l6514 i6515 i6516 i6517 l6520 l6523 = some (r1, r2, r3, r4, r5, r6, r7, r8)) ?_ ?_
  · refine sr <| va (op_fieldAddr FI25_0 rfl (add_at _ _ _)) <| va (op_load 2 1 rfl rfl TI22 rfl (by decide)) <| ?_
    replace h := iN h
    obtain ⟨c6317, h⟩ := h
    refine sG (o_slice (m := l0_0.length) 0 0 2 lenm cutm Try.underlying22 TI9 rfl rfl ⟨rfl, ⟨_, _, rfl, (by decide), rfl⟩, Nat.zero_le _, tN (a := (2 : Int)) (b := (l0_0.length : Int)) rfl rfl c6317⟩) fun v6319 => va (op_len (m := ((l0_0.take 2).drop 0).length) 0 lenm Try.underlying22 rfl rfl) <|
     vm rfl <| dt <| VC.block <| VC.nilRow' 9 1 <| VC.nilRow' 56 2 <| VC.nilRow' 9 1 <| VC.nilRow' 9 1 <|
     VC.loop12 (fun (i6375 : Int) (v6377 : Value) (l6378 : List ByteArray) (v6381 : Value) (l6382 : List S55) (i6384 : Int) (i6385 : Int) (i6386 : Int) (v6388 : Value) (l6389 : List ByteArray) (v6392 : Value) (l6393 : List ByteArray) => ⟨94, [(1, .pointer (some ⟨g5040, 0, none⟩)), (2, .pointer (some ⟨g5041, 0, none⟩)), (3, .int .i64 0), (4, .pointer (some ⟨g5835, 0, none⟩)), (30, v6319), (31, .int .i64 (((l0_0.take 2).drop 0).length : Int)), (32, .int .i64 i6375)], [.row v6319 1 (((l0_0.take 2).drop 0).map enc_str), .row v0_0 1 (l0_0.map enc_str), .row v0_1 2 (l0_1.map enc55)], [(g5835, 27, [v6377, v6381, .int .i64 i6384, .int .i64 i6385, .int .i64 i6386, v6388, v6392]), (g5041, 27, [.slice none 0 0, .slice none 0 0, .int .i64 0, .int .i64 0, .int .i64 0, .slice none 0 0, .slice none 0 0]), (g5040, 25, [v0_0, v0_1])], [(v6377, 9, 1, l6378.map enc_str), (v6381, 56, 2, l6382.map enc55), (v6388, 9, 1, l6389.map enc_str), (v6392, 9, 1, l6393.map enc_str)]⟩) (fun (ml8 : Nat) (i6375 : Int) (v6377 : Value) (l6378 : List ByteArray) (v6381 : Value) (l6382 : List S55) (i6384 : Int) (i6385 : Int) (i6386 : Int) (v6388 : Value) (l6389 : List ByteArray) (v6392 : Value) (l6393 : List ByteArray) => journal_Open.l8 k l0_0 l0_1 ml8 i6375 l6378 l6382 i6384 i6385 i6386 l6389 l6393 = some (r1, r2, r3, r4, r5, r6, r7, r8)) k 0 (.slice none 0 0) ([] : List ByteArray) (.slice none 0 0) ([] : List S55) 0 0 0 (.slice none 0 0) ([] : List ByteArray) (.slice none 0 0) ([] : List ByteArray) [0, 1, 2] [3, 2, 1, 0] h ⟨rfl, ⟨rfl, rfl, rfl, rfl, rfl, rfl, rfl, trivial⟩, ⟨⟨0, rfl⟩, ⟨1, rfl⟩, ⟨2, rfl⟩, trivial⟩, rfl, by decide, rfl, by decide⟩ (by intros; simp [journal_Open.l8]) <|
     ?_
    clear h
    intro ml8 ihl8 i6375 v6377 l6378 v6381 l6382 i6384 i6385 i6386 v6388 l6389 v6392 l6393 h
    simp only [journal_Open.l8] at h
    refine sr <| VL.letter (decide (i6375 < (((l0_0.take 2).drop 0).length : Int))) fun b6452 hb6452 => va (op_cmp rfl rfl (congrArg some hb6452)) <| ds <| ?_
    replace h := iC h
    rcases h with ⟨c6454, h⟩ | ⟨c6454, h⟩
    · cases lT c6454 hb6452
      refine ct <| sk <| sq <| VC.block <| sr <| vm rfl <| ?_
      replace h := iN h
      obtain ⟨c6482, h⟩ := h
      replace h := bd h
      obtain ⟨x6483, hx6483, h⟩ := h
      refine VL.open (m := ((l0_0.take 2).drop 0).length) 0 lenm rfl (pos_get hx6483) <| ?_
      rintro ad6484 n6485 rfl
      refine va (op_indexAddr Try.underlying22 TI9 rfl rfl c6482 (lt_get c6482 hx6483) rfl) <| va (op_load_row (sz := 1) (o := 0) 0 i6375.toNat 1 rfl rfl (get_map hx6483) TI9 rfl (by decide)) <| vs rfl <| vs rfl <| nx <| vm rfl <| vm rfl <| va (op_fieldAddr FI25_0 rfl (add_at _ _ _)) <|
       va (op_load 2 1 rfl rfl TI22 rfl (by decide)) <| va (op_len (m := l0_0.length) 1 lenm Try.underlying22 rfl rfl) <| ?_
      replace h := bd h
      obtain ⟨⟨r6486, r6487, t6488, t6489, t6490, r6491, r6492, t6493⟩, hA6494, h⟩ := h
      dsimp only at h
      refine sC (o_call0 FO24 (journal_read.ok k i6375 x6483 (l0_0.length : Int) r6486 r6487 t6488 t6489 t6490 r6491 r6492 t6493 hA6494) rfl rfl (ltn rfl) (All_of .nil)) <| ?_
      rintro _ _ _ ⟨v6496, v6498, v6500, v6502, rfl, rfl, rfl⟩
      refine vm rfl <| va (op_extract rfl rfl) <| va (op_extract rfl rfl) <| sG (o_alloc Z27 ZL27) fun g6503 => s1 (o_store 0 7 rfl rfl rfl TI27 (.agg (.r 0 rfl (.r 1 rfl (.c rfl (.c rfl (.c rfl (.r 2 rfl (.r 3 rfl .nil)))))))) rfl (len rfl)) <| vs rfl <| nx <| vm rfl <| vm rfl <| ?_
      replace h := iC h
      rcases h with ⟨c6506, h⟩ | ⟨c6506, h⟩
      · obtain rfl := c6506
        refine va (op_fieldAddr FI27_1 rfl (add_at _ _ _)) <| va (op_load 0 1 rfl rfl TI3 rfl (by decide)) <| va (op_fieldAddr FI27_1 rfl (add_at _ _ _)) <| va (op_load 1 1 rfl rfl TI3 rfl (by decide)) <| VL.letter (decide (t6488 > i6384)) fun b6507 hb6507 => va (op_cmp rfl rfl (congrArg some hb6507)) <|
         va (op_pick rfl rfl) <| dt <| ?_
        replace h := iC h
        rcases h with ⟨c6508, h⟩ | ⟨c6508, h⟩
        · cases lT c6508 hb6507
          refine ct <| rg <| va (op_load 0 7 rfl rfl TI27 rfl (fun h => absurd h (by decide))) <| s1 (o_store 1 7 rfl rfl rfl TI27 (.agg (.r 0 rfl (.r 1 rfl (.c rfl (.c rfl (.c rfl (.r 2 rfl (.r 3 rfl .nil)))))))) rfl (len rfl)) <| dn <| VN.block <| tr <| va (op_ari64 rfl rfl rfl) <| vm rfl <| dn <|
           VN.again [1, 2, 3] [0, 1, 2, 3] (ihl8 (wrap64 (i6375 + 1)) v6496 r6486 v6498 r6487 t6488 t6489 t6490 v6500 r6491 v6502 r6492 h) ⟨rfl, ⟨rfl, rfl, rfl, rfl, rfl, rfl, rfl, trivial⟩, ⟨⟨0, rfl⟩, ⟨1, rfl⟩, ⟨2, rfl⟩, trivial⟩, rfl, by decide, rfl, by decide⟩
        cases lF c6508 hb6507
        refine cf <| VC.skip <| VN.block <| tr <| va (op_ari64 rfl rfl rfl) <| vm rfl <| dn <|
         VN.again [1, 2, 3] [4, 5, 6, 7] (ihl8 (wrap64 (i6375 + 1)) v6377 l6378 v6381 l6382 i6384 i6385 i6386 v6388 l6389 v6392 l6393 h) ⟨rfl, ⟨rfl, rfl, rfl, rfl, rfl, rfl, rfl, trivial⟩, ⟨⟨0, rfl⟩, ⟨1, rfl⟩, ⟨2, rfl⟩, trivial⟩, rfl, by decide, rfl, by decide⟩
      obtain rfl := Bool.eq_false_iff.2 c6506
      refine un rfl <| un rfl <| un rfl <| un rfl <| un rfl <| va (op_pick rfl rfl) <| dt <| cf <| VC.skip <| VN.block <| tr <| va (op_ari64 rfl rfl rfl) <| vm rfl <| dn <|
       VN.again [1, 2, 3] [4, 5, 6, 7] (ihl8 (wrap64 (i6375 + 1)) v6377 l6378 v6381 l6382 i6384 i6385 i6386 v6388 l6389 v6392 l6393 h) ⟨rfl, ⟨rfl, rfl, rfl, rfl, rfl, rfl, rfl, trivial⟩, ⟨⟨0, rfl⟩, ⟨1, rfl⟩, ⟨2, rfl⟩, trivial⟩, rfl, by decide, rfl, by decide⟩
    cases lF c6454 hb6452
    refine cf <| VC.exit <| VX.then <| VX.then <| VX.hit <| VN.meet11 v6377 l6378 v6381 l6382 i6384 i6385 i6386 v6388 l6389 v6392 l6393 [0, 1, 2] [0, 1, 2, 3] h ⟨rfl, ⟨rfl, rfl, rfl, rfl, trivial⟩, ⟨⟨1, rfl⟩, ⟨2, rfl⟩, trivial⟩, rfl, by decide, rfl, by decide⟩
  clear h
  intro v6510 l6511 v6513 l6514 i6515 i6516 i6517 v6519 l6520 v6522 l6523 h
  unfold journal_Open.j7 at h
  refine sq <| sr <| va (op_fieldAddr FI27_1 rfl (add_at _ _ _)) <| va (op_load 0 1 rfl rfl TI3 rfl (by decide)) <| VL.letter ((i6515 == 0)) fun b6530 hb6530 => va (op_cmp rfl rfl (congrArg some hb6530)) <| dt <| ?_
  replace h := iC h
  rcases h with ⟨c6531, h⟩ | ⟨c6531, h⟩
  · obtain rfl : b6530 = true := hb6530.symm.trans (beq_iff_eq.2 c6531)
    refine ct <| sr <| va (op_build (vals := []) (vcs := []) (cells := [.slice none 0 0, .slice none 0 0, .int .i64 0, .int .i64 0, .int .i64 0, .slice none 0 0, .slice none 0 0]) SI27 rfl .nil (by kernel_rfl)) <| s1 (o_store 1 7 rfl rfl rfl TI27 (.agg (.of rfl)) rfl (len rfl)) <| vs rfl <| dt <|
     VC.ret <| VR.then <| ?_
    simp only [Option.some.injEq, Prod.mk.injEq] at h
    obtain ⟨rfl, rfl, rfl, rfl, rfl, rfl, rfl, rfl⟩ := h
    exact VR.nilFact' 1 <| VR.nilFact' 2 <| VR.nilRow' 9 1 <| VR.nilRow' 9 1 <|
     VR.fn (rs := [.cell 2 27, .tmp 3]) [.row (.slice none 0 0) 1 (([] : List ByteArray).map enc_str), .row (.slice none 0 0) 2 (([] : List S55).map enc55)] [((.slice none 0 0), 9, 1, ([] : List ByteArray).map enc_str), ((.slice none 0 0), 9, 1, ([] : List ByteArray).map enc_str)] [1, 0] rfl (.cell 1 rfl rfl TI27 (fun h => absurd h (by decide)) (.tmp rfl .nil)) ⟨(.slice none 0 0), (.slice none 0 0), (.slice none 0 0), (.slice none 0 0), rfl, rfl, rfl⟩ ⟨⟨1, rfl⟩, ⟨0, rfl⟩, trivial⟩ rfl (by decide)
  obtain rfl : b6530 = false := hb6530.symm.trans (beq_eq_false_iff_ne.2 c6531)
  refine cf <| sk <| sr <| va (op_fieldAddr FI25_0 rfl (add_at _ _ _)) <| va (op_load 2 1 rfl rfl TI22 rfl (by decide)) <| va (op_len (m := l0_0.length) 0 lenm Try.underlying22 rfl rfl) <| va (op_fieldAddr FI27_2 rfl (add_at _ _ _)) <| va (op_load 0 1 rfl rfl TI3 rfl (by decide)) <| ?_
  replace h := bd h
  obtain ⟨t6536, hA6537, h⟩ := h
  refine sC (o_call0 FO25 (journal_begin.ok (l0_0.length : Int) i6516 t6536 hA6537) rfl rfl (ltn rfl) (All_of .nil)) <| ?_
  rintro _ _ _ ⟨rfl, rfl, rfl⟩
  refine vs rfl <| dt <| ?_
  replace h := iN h
  obtain ⟨c6538, h⟩ := h
  replace h := iN h
  obtain ⟨c6539, h⟩ := h
  replace h := iN h
  obtain ⟨c6540, h⟩ := h
  replace h := iN h
  obtain ⟨c6541, h⟩ := h
  replace h := bd h
  obtain ⟨r6544, hA6545, h⟩ := h
  replace h := iN h
  obtain ⟨c6546, h⟩ := h
  replace h := iN h
  obtain ⟨c6547, h⟩ := h
  replace h := bd h
  obtain ⟨⟨r6548, t6549⟩, hA6550, h⟩ := h
  dsimp only at h
  refine VC.join1 (fun (v6552 : Value) => ⟨94, [(1, .pointer (some ⟨g5040, 0, none⟩)), (2, .pointer (some ⟨g5041, 0, none⟩)), (3, .int .i64 0), (4, .pointer (some ⟨g5835, 0, none⟩)), (10, v6552), (11, .int .i64 t6549)], [.row v0_0 1 (l0_0.map enc_str), .row v0_1 2 (l0_1.map enc55)], [(g5835, 27, [v6510, v6513, .int .i64 i6515, .int .i64 i6516, .int .i64 i6517, v6519, v6522]), (g5041, 27, [.slice none 0 0, .slice none 0 0, .int .i64 0, .int .i64 0, .int .i64 0, .slice none 0 0, .slice none 0 0]), (g5040, 25, [v0_0, v0_1])], [(v6552, 9, 1, r6548.map enc_str), (v6510, 9, 1, l6511.map enc_str), (v6513, 56, 2, l6514.map enc55), (v6519, 9, 1, l6520.map enc_str), (v6522, 9, 1, l6523.map enc_str)]⟩) (fun (v6552 : Value) => True) ?_ ?_
  · refine VC.draw ⟨0, [], [.row v0_0 1 (l0_0.map enc_str)], [(g5835, 27, [v6510, v6513, .int .i64 i6515, .int .i64 i6516, .int .i64 i6517, v6519, v6522]), (g5040, 25, [v0_0, v0_1])], []⟩ (by kernel_rfl) rfl (by kernel_rfl) (n := 21) (listed := LB 21 0) <|
     aw 0 1 rfl (op_fieldAddr FI25_0 rfl (add_at _ _ _)) ⟨⟨⟨0, rfl⟩, trivial⟩, ⟨⟨0, rfl⟩, ⟨2, rfl⟩, trivial⟩, trivial⟩ <| aw 1 3 rfl (op_load 1 1 rfl rfl TI22 rfl (by decide)) ⟨⟨⟨0, rfl⟩, trivial⟩, ⟨⟨0, rfl⟩, ⟨2, rfl⟩, trivial⟩, trivial⟩ <|
     aw 2 7 rfl (mv rfl) ⟨⟨⟨0, rfl⟩, trivial⟩, ⟨⟨0, rfl⟩, ⟨2, rfl⟩, trivial⟩, trivial⟩ <| aw 3 15 rfl (mv rfl) ⟨⟨⟨0, rfl⟩, trivial⟩, ⟨⟨0, rfl⟩, ⟨2, rfl⟩, trivial⟩, trivial⟩ <| aw 4 31 rfl (op_fieldAddr FI25_0 rfl (add_at _ _ _)) ⟨⟨⟨0, rfl⟩, trivial⟩, ⟨⟨0, rfl⟩, ⟨2, rfl⟩, trivial⟩, trivial⟩ <|
     aw 5 63 rfl (op_load 1 1 rfl rfl TI22 rfl (by decide)) ⟨⟨⟨0, rfl⟩, trivial⟩, ⟨⟨0, rfl⟩, ⟨2, rfl⟩, trivial⟩, trivial⟩ <| aw 6 127 rfl (op_len (m := l0_0.length) 0 lenm Try.underlying22 rfl rfl) ⟨⟨⟨0, rfl⟩, trivial⟩, ⟨⟨0, rfl⟩, ⟨2, rfl⟩, trivial⟩, trivial⟩ <|
     aw 7 255 rfl (op_ari64 rfl rfl rfl) ⟨⟨⟨0, rfl⟩, trivial⟩, ⟨⟨0, rfl⟩, ⟨2, rfl⟩, trivial⟩, trivial⟩ <| aw 8 511 rfl (op_quo rfl rfl (by decide) rfl) ⟨⟨⟨0, rfl⟩, trivial⟩, ⟨⟨0, rfl⟩, ⟨2, rfl⟩, trivial⟩, trivial⟩ <|
     aw 9 1023 rfl (op_ari64 rfl rfl rfl) ⟨⟨⟨0, rfl⟩, trivial⟩, ⟨⟨0, rfl⟩, ⟨2, rfl⟩, trivial⟩, trivial⟩ <|
     VA.cut (i := 10) (listed' := LB 21 2047) rfl (m := l0_0.length) 0 t6536.toNat ((wrap64 (t6536 + (IntKind.i64.wrap ((wrap64 ((l0_0.length : Int) - 2)).tdiv 2)))).toNat) lenm cutm Try.underlying22 TI9 rfl rfl ⟨⟨_, _, rfl, c6538, rfl⟩, ⟨_, _, rfl, c6539, rfl⟩, tN (a := t6536) (b := (wrap64 (t6536 + (IntKind.i64.wrap ((wrap64 ((l0_0.length : Int) - 2)).tdiv 2))))) rfl rfl c6541, tN (a := (wrap64 (t6536 + (IntKind.i64.wrap ((wrap64 ((l0_0.length : Int) - 2)).tdiv 2))))) (b := (l0_0.length : Int)) rfl rfl c6540⟩ (ltn rfl) rfl (by kernel_rfl) (by kernel_rfl) (by kernel_rfl) (by kernel_rfl) ⟨⟨⟨0, rfl⟩, trivial⟩, ⟨⟨0, rfl⟩, ⟨2, rfl⟩, trivial⟩, trivial⟩ (fun _ _ _ _ h => h) <|
     ?_
    intro v6543
    refine aw 12 6143 rfl (op_fieldAddr FI27_3 rfl (add_at _ _ _)) ⟨⟨⟨1, rfl⟩, trivial⟩, ⟨⟨0, rfl⟩, ⟨2, rfl⟩, trivial⟩, trivial⟩ <| aw 13 14335 rfl (op_load 0 1 rfl rfl TI3 rfl (by decide)) ⟨⟨⟨1, rfl⟩, trivial⟩, ⟨⟨0, rfl⟩, ⟨2, rfl⟩, trivial⟩, trivial⟩ <|
     VA.oneC (i := 11) (listed' := LB 21 16383) (by kernel_rfl) rfl (o_call_b0 FO27 (strings_Join.ok ((l0_0.take ((wrap64 (t6536 + (IntKind.i64.wrap ((wrap64 ((l0_0.length : Int) - 2)).tdiv 2)))).toNat)).drop t6536.toNat) (⟨#[]⟩ : ByteArray) v6543 r6544 hA6545) rfl rfl (ltn rfl) (All_of (.cons (.inl (mG 0 rfl)) .nil)) (by rintro _ _ _ ⟨rfl, rfl, rfl⟩; rfl)) rfl (by kernel_rfl) <|
     ?_
    rintro _ _ _ ⟨rfl, rfl, rfl⟩
    refine ⟨⟨⟨⟨1, rfl⟩, trivial⟩, ⟨⟨0, rfl⟩, ⟨2, rfl⟩, trivial⟩, trivial⟩, ?_⟩
    refine aw 14 32767 rfl (op_sliceS 0 i6517.toNat Try.underlying9 rfl ⟨rfl, ⟨_, _, rfl, c6546, rfl⟩, Nat.zero_le _, tN (a := i6517) (b := (r6544.size : Int)) rfl rfl c6547⟩ rfl) ⟨⟨⟨1, rfl⟩, trivial⟩, ⟨⟨0, rfl⟩, ⟨2, rfl⟩, trivial⟩, trivial⟩ <|
     VA.oneC (i := 15) (listed' := LB 21 65535) (by kernel_rfl) rfl (o_call0 FO26 (frame_All.ok k (r6544.extract 0 i6517.toNat) r6548 t6549 hA6550) rfl rfl (ltn rfl) (All_of .nil)) rfl (by kernel_rfl) <| ?_
    rintro _ _ _ ⟨v6552, rfl, rfl, rfl⟩
    refine ⟨⟨⟨⟨1, rfl⟩, trivial⟩, ⟨⟨0, rfl⟩, ⟨2, rfl⟩, trivial⟩, trivial⟩, ?_⟩
    exact VA.more ⟨0, [], [.row v0_0 1 (l0_0.map enc_str)], [(g5835, 27, [v6510, v6513, .int .i64 i6515, .int .i64 i6516, .int .i64 i6517, v6519, v6522]), (g5040, 25, [v0_0, v0_1])], [(v6552, 9, 1, r6548.map enc_str)]⟩ ⟨⟨⟨0, rfl⟩, trivial⟩, ⟨⟨0, rfl⟩, ⟨1, rfl⟩, trivial⟩, trivial⟩ <|
     aw 16 131071 rfl (mv rfl) ⟨⟨⟨1, rfl⟩, trivial⟩, ⟨⟨0, rfl⟩, ⟨2, rfl⟩, trivial⟩, ⟨⟨0, rfl⟩, trivial⟩⟩ <| aw 17 262143 rfl (op_extract rfl rfl) ⟨⟨⟨1, rfl⟩, trivial⟩, ⟨⟨0, rfl⟩, ⟨2, rfl⟩, trivial⟩, ⟨⟨0, rfl⟩, trivial⟩⟩ <|
     aw 18 524287 rfl (op_extract rfl rfl) ⟨⟨⟨1, rfl⟩, trivial⟩, ⟨⟨0, rfl⟩, ⟨2, rfl⟩, trivial⟩, ⟨⟨0, rfl⟩, trivial⟩⟩ <| aw 19 1048575 rfl (ag rfl) ⟨⟨⟨1, rfl⟩, trivial⟩, ⟨⟨0, rfl⟩, ⟨2, rfl⟩, trivial⟩, ⟨⟨0, rfl⟩, trivial⟩⟩ <|
     aw 20 2097151 rfl (ag rfl) ⟨⟨⟨1, rfl⟩, trivial⟩, ⟨⟨0, rfl⟩, ⟨2, rfl⟩, trivial⟩, ⟨⟨0, rfl⟩, trivial⟩⟩ <| VA.done (by kernel_rfl) <| VN.meet1 v6552 [0, 1, 2] [0, 1, 2, 3, 4] trivial ⟨rfl, ⟨rfl, rfl, rfl, rfl, rfl, rfl, trivial⟩, ⟨⟨1, rfl⟩, ⟨2, rfl⟩, trivial⟩, rfl, by decide, rfl, by decide⟩
  intro v6552 _
  refine sq <| sr <| vm rfl <| VL.letter ((t6549 != 0)) fun b6559 hb6559 => va (op_cmp rfl rfl (congrArg some hb6559)) <| dt <| ?_
  replace h := iC h
  rcases h with ⟨c6560, h⟩ | ⟨c6560, h⟩
  · obtain rfl : b6559 = false := hb6559.symm.trans (bne_eq_false_iff_eq.2 c6560)
    refine cf <| sk <| sr <| va (op_load 2 2 rfl rfl TI25 rfl (fun h => absurd h (by decide))) <| vm rfl <| va (op_fieldAddr FI27_0 rfl (add_at _ _ _)) <| s1 (o_store 0 2 rfl rfl rfl TI25 (.agg (.f 0 rfl (.f 1 rfl .nil))) rfl (len rfl)) <| va (op_fieldAddr FI27_5 rfl (add_at _ _ _)) <|
     s1 (o_store 0 1 rfl rfl rfl TI22 (.r 0 rfl) rfl (len rfl)) <| nx <| va (op_load 0 7 rfl rfl TI27 rfl (fun h => absurd h (by decide))) <| s1 (o_store 1 7 rfl rfl rfl TI27 (.agg (.f 0 rfl (.f 1 rfl (.c rfl (.c rfl (.c rfl (.r 3 rfl (.r 0 rfl .nil)))))))) rfl (len rfl)) <| vs rfl <| dt <| VC.ret <| ?_
    simp only [Option.some.injEq, Prod.mk.injEq] at h
    obtain ⟨rfl, rfl, rfl, rfl, rfl, rfl, rfl, rfl⟩ := h
    exact VR.fn (rs := [.cell 2 27, .tmp 3]) [.row v0_0 1 (l0_0.map enc_str), .row v0_1 2 (l0_1.map enc55)] [(v6519, 9, 1, l6520.map enc_str), (v6552, 9, 1, r6548.map enc_str)] [3, 0] rfl (.cell 1 rfl rfl TI27 (fun h => absurd h (by decide)) (.tmp rfl .nil)) ⟨v0_0, v0_1, v6519, v6552, rfl, rfl, rfl⟩ ⟨⟨0, rfl⟩, ⟨1, rfl⟩, trivial⟩ rfl (by decide)
  obtain rfl : b6559 = true := hb6559.symm.trans (bne_iff_ne.2 c6560)
  refine ct <| sr <| va (op_build (vals := []) (vcs := []) (cells := [.slice none 0 0, .slice none 0 0, .int .i64 0, .int .i64 0, .int .i64 0, .slice none 0 0, .slice none 0 0]) SI27 rfl .nil (by kernel_rfl)) <| vm rfl <| s1 (o_store 1 7 rfl rfl rfl TI27 (.agg (.of rfl)) rfl (len rfl)) <| vs rfl <|
   dt <| VC.ret <| VR.then <| ?_
  simp only [Option.some.injEq, Prod.mk.injEq] at h
  obtain ⟨rfl, rfl, rfl, rfl, rfl, rfl, rfl, rfl⟩ := h
  exact VR.nilFact' 1 <| VR.nilFact' 2 <| VR.nilRow' 9 1 <| VR.nilRow' 9 1 <|
   VR.fn (rs := [.cell 2 27, .tmp 3]) [.row (.slice none 0 0) 1 (([] : List ByteArray).map enc_str), .row (.slice none 0 0) 2 (([] : List S55).map enc55)] [((.slice none 0 0), 9, 1, ([] : List ByteArray).map enc_str), ((.slice none 0 0), 9, 1, ([] : List ByteArray).map enc_str)] [1, 0] rfl (.cell 1 rfl rfl TI27 (fun h => absurd h (by decide)) (.tmp rfl .nil)) ⟨(.slice none 0 0), (.slice none 0 0), (.slice none 0 0), (.slice none 0 0), rfl, rfl, rfl⟩ ⟨⟨1, rfl⟩, ⟨0, rfl⟩, trivial⟩ rfl (by decide)

theorem slices_Equal_string_string.ok (k : Nat) (l0 : List ByteArray) (l1 : List ByteArray) (v0 : Value) (v1 : Value) (r1 : Bool) (h : slices_Equal_string_string.f k l0 l1 = some r1) :
    VCalls Try.prog 34 [v0, v1] [.row v0 1 (l0.map enc_str), .row v1 1 (l1.map enc_str)] (fun v G own => v = .bool r1 ∧ G = [] ∧ own = []) := by
  refine VCalls.intro Try.func34 rfl (len rfl) fun E hC hW hD hU => ?_
  unfold slices_Equal_string_string.f at h
  refine sr <| vs rfl <| ds <| sr <| vm rfl <| va (op_len (m := l0.length) 0 lenm Try.underlying22 rfl rfl) <| vm rfl <| va (op_len (m := l1.length) 1 lenm Try.underlying22 rfl rfl) <|
   VL.letter (((l0.length : Int) != (l1.length : Int))) fun b6593 hb6593 => va (op_cmp rfl rfl (congrArg some hb6593)) <| dt <| ?_
  replace h := iC h
  rcases h with ⟨c6594, h⟩ | ⟨c6594, h⟩
  · obtain rfl : b6593 = false := hb6593.symm.trans (bne_eq_false_iff_eq.2 c6594)
    refine cf <| sk <| sq <| sr <| vm rfl <| va (op_len (m := l0.length) 0 lenm Try.underlying22 rfl rfl) <| vm rfl <| dt <| VC.block <|
     VC.loop1 (fun (i6648 : Int) => ⟨26, [(0, v0), (1, v1), (4, .bool false), (12, .int .i64 (l0.length : Int)), (13, .int .i64 i6648)], [.row v0 1 (l0.map enc_str), .row v1 1 (l1.map enc_str)], [], []⟩) (fun (ml1 : Nat) (i6648 : Int) => slices_Equal_string_string.l1 k l0 l1 ml1 i6648 = some r1) k 0 [] [] h ⟨rfl, ⟨rfl, rfl, rfl, rfl, rfl, trivial⟩, ⟨⟨0, rfl⟩, ⟨1, rfl⟩, trivial⟩, rfl, by decide, rfl, by decide⟩ (by intros; simp [slices_Equal_string_string.l1]) <|
     ?_
    clear h
    intro ml1 ihl1 i6648 h
    simp only [slices_Equal_string_string.l1] at h
    refine sr <| VL.letter (decide (i6648 < (l0.length : Int))) fun b6662 hb6662 => va (op_cmp rfl rfl (congrArg some hb6662)) <| ds <| ?_
    replace h := iC h
    rcases h with ⟨c6664, h⟩ | ⟨c6664, h⟩
    · cases lT c6664 hb6662
      refine ct <| sk <| sq <| VC.block <| sr <| vm rfl <| vs rfl <| dt <| ?_
      replace h := iN h
      obtain ⟨c6670, h⟩ := h
      replace h := bd h
      obtain ⟨x6671, hx6671, h⟩ := h
      replace h := bd h
      obtain ⟨x6672, hx6672, h⟩ := h
      refine VC.letter ((x6671 != x6672)) fun b6673 hb6673 => VC.open (m := l0.length) 0 lenm rfl (pos_get hx6671) <| ?_
      rintro ad6599 n6600 rfl
      refine VC.open (m := l1.length) 1 lenm rfl (pos_get hx6672) <| ?_
      rintro ad6602 n6603 rfl
      refine VC.join0 (⟨26, [(0, (.slice (some ad6599) l0.length n6600)), (1, (.slice (some ad6602) l1.length n6603)), (4, .bool false), (5, .int .i64 i6648), (12, .int .i64 (l0.length : Int)), (13, .int .i64 i6648), (14, .bool true), (15, .int .i64 i6648), (16, (.slice (some ad6599) l0.length n6600)), (17, .int .i64 i6648), (19, .string x6671), (20, (.slice (some ad6602) l1.length n6603)), (21, .int .i64 i6648), (23, .string x6672), (24, .bool b6673)], [.row (.slice (some ad6599) l0.length n6600) 1 (l0.map enc_str), .row (.slice (some ad6602) l1.length n6603) 1 (l1.map enc_str)], [], []⟩) (True) ?_ ?_
      · exact VC.draw ⟨0, [], [.row (.slice (some ad6599) l0.length n6600) 1 (l0.map enc_str), .row (.slice (some ad6602) l1.length n6603) 1 (l1.map enc_str)], [], []⟩ (by kernel_rfl) rfl (by kernel_rfl) (n := 9) (listed := LB 9 0) <| av 0 1 rfl (mv rfl) <| av 1 3 rfl (mv rfl) <|
         av 2 7 rfl (op_indexAddr Try.underlying22 TI9 rfl rfl c6670 (lt_get c6670 hx6671) rfl) <| av 3 15 rfl (op_load_row (sz := 1) (o := 0) 0 i6648.toNat 1 rfl rfl (get_map hx6671) TI9 rfl (by decide)) <| av 4 31 rfl (mv rfl) <| av 5 63 rfl (mv rfl) <|
         av 6 127 rfl (op_indexAddr Try.underlying22 TI9 rfl rfl c6670 (lt_get c6670 hx6672) rfl) <| av 7 255 rfl (op_load_row (sz := 1) (o := 0) 1 i6648.toNat 1 rfl rfl (get_map hx6672) TI9 rfl (by decide)) <| av 8 511 rfl (op_cmps rfl rfl (congrArg some hb6673)) <| VA.done (by kernel_rfl) <|
         VN.meet0  [] [] trivial ⟨rfl, ⟨rfl, rfl, rfl, rfl, rfl, rfl, rfl, rfl, rfl, rfl, rfl, rfl, rfl, rfl, rfl, trivial⟩, ⟨⟨0, rfl⟩, ⟨1, rfl⟩, trivial⟩, rfl, by decide, rfl, by decide⟩
      intro _
      replace h := iC h
      rcases h with ⟨c6674, h⟩ | ⟨c6674, h⟩
      · obtain rfl : b6673 = false := hb6673.symm.trans (bne_of_t c6674)
        refine cf <| VC.skip <| VN.block <| tr <| va (op_ari64 rfl rfl rfl) <| vm rfl <| dn <| VN.again [] [] (ihl1 (wrap64 (i6648 + 1)) h) ⟨rfl, ⟨rfl, rfl, rfl, rfl, rfl, trivial⟩, ⟨⟨0, rfl⟩, ⟨1, rfl⟩, trivial⟩, rfl, by decide, rfl, by decide⟩
      obtain rfl : b6673 = true := hb6673.symm.trans (bne_of_f c6674)
      refine ct <| sr <| vs rfl <| dt <| VC.ret <| VR.block <| VR.then <| VR.then <| VR.block <| VR.then <| ?_
      obtain rfl := Option.some.inj h
      exact VR.fn (rs := [.tmp 4]) [] [] [] rfl (.tmp rfl .nil) ⟨rfl, rfl, rfl⟩ trivial rfl (by decide)
    cases lF c6664 hb6662
    refine cf <| VC.exit <| VX.then <| VX.then <| VX.hit <| tx <| vs rfl <| dt <| VC.ret <| ?_
    obtain rfl := Option.some.inj h
    exact VR.fn (rs := [.tmp 4]) [] [] [] rfl (.tmp rfl .nil) ⟨rfl, rfl, rfl⟩ trivial rfl (by decide)
  obtain rfl : b6593 = true := hb6593.symm.trans (bne_iff_ne.2 c6594)
  refine ct <| sr <| vs rfl <| dt <| VC.ret <| VR.then <| ?_
  obtain rfl := Option.some.inj h
  exact VR.fn (rs := [.tmp 4]) [] [] [] rfl (.tmp rfl .nil) ⟨rfl, rfl, rfl⟩ trivial rfl (by decide)

theorem journal_waits_1.ok (a0 : ByteArray)  (r1 : Bool) (h : journal_waits_1.f a0 = some r1) :
    VCalls Try.prog 67 [.string a0] [] (fun v G own => v = .bool r1 ∧ G = [] ∧ own = []) := by
  refine VCalls.intro Try.func67 rfl (len rfl) fun E hC hW hD hU => ?_
  unfold journal_waits_1.f at h
  refine sr <| vs rfl <| nx <| vm rfl <| va (op_lens Try.underlying9 rfl) <| VL.letter (decide ((a0.size : Int) > 1000)) fun b6702 hb6702 => va (op_cmp rfl rfl (congrArg some hb6702)) <| vs rfl <| dt <| VC.ret <| ?_
  obtain rfl := Option.some.inj h
  subst hb6702
  exact VR.fn (rs := [.tmp 2]) [] [] [] rfl (.tmp rfl .nil) ⟨rfl, rfl, rfl⟩ trivial rfl (by decide)

theorem slices_IndexFunc_string_string_s25.ok (k : Nat) (l0 : List ByteArray) (v0 : Value) (r1 : Int) (h : slices_IndexFunc_string_string_s25.f k l0 = some r1) :
    VCalls Try.prog 74 [v0, (.func (.func 67) #[] #[])] [.row v0 1 (l0.map enc_str)] (fun v G own => v = .int .i64 r1 ∧ G = [] ∧ own = []) := by
  refine VCalls.intro Try.func74 rfl (len rfl) fun E hC hW hD hU => ?_
  unfold slices_IndexFunc_string_string_s25.f at h
  refine sr <| vs rfl <| ds <| sr <| vm rfl <| va (op_len (m := l0.length) 0 lenm Try.underlying22 rfl rfl) <| vm rfl <| dt <| VC.block <|
   VC.loop1 (fun (i6762 : Int) => ⟨19, [(0, v0), (1, (.func (.func 67) #[] #[])), (4, .int .i64 0), (7, .int .i64 (l0.length : Int)), (8, .int .i64 i6762)], [.row v0 1 (l0.map enc_str)], [], []⟩) (fun (ml1 : Nat) (i6762 : Int) => slices_IndexFunc_string_string_s25.l1 k l0 ml1 i6762 = some r1) k 0 [] [] h ⟨rfl, ⟨rfl, rfl, rfl, rfl, rfl, trivial⟩, ⟨⟨0, rfl⟩, trivial⟩, rfl, by decide, rfl, by decide⟩ (by intros; simp [slices_IndexFunc_string_string_s25.l1]) <|
   ?_
  clear h
  intro ml1 ihl1 i6762 h
  simp only [slices_IndexFunc_string_string_s25.l1] at h
  refine sr <| VL.letter (decide (i6762 < (l0.length : Int))) fun b6780 hb6780 => va (op_cmp rfl rfl (congrArg some hb6780)) <| ds <| ?_
  replace h := iC h
  rcases h with ⟨c6782, h⟩ | ⟨c6782, h⟩
  · cases lT c6782 hb6780
    refine ct <| sk <| sq <| VC.block <| sr <| vm rfl <| vs rfl <| nx <| vm rfl <| vm rfl <| vm rfl <| ?_
    replace h := iN h
    obtain ⟨c6790, h⟩ := h
    replace h := bd h
    obtain ⟨x6791, hx6791, h⟩ := h
    refine VL.open (m := l0.length) 0 lenm rfl (pos_get hx6791) <| ?_
    rintro ad6792 n6793 rfl
    refine va (op_indexAddr Try.underlying22 TI9 rfl rfl c6790 (lt_get c6790 hx6791) rfl) <| va (op_load_row (sz := 1) (o := 0) 0 i6762.toNat 1 rfl rfl (get_map hx6791) TI9 rfl (by decide)) <| ?_
    replace h := bd h
    obtain ⟨t6794, hA6795, h⟩ := h
    refine sC (o_call0 FO67 (journal_waits_1.ok x6791 t6794 hA6795) rfl rfl (ltn rfl) (All_of .nil)) <| ?_
    rintro _ _ _ ⟨rfl, rfl, rfl⟩
    refine dt <| ?_
    replace h := iC h
    rcases h with ⟨c6796, h⟩ | ⟨c6796, h⟩
    · obtain rfl := c6796
      refine ct <| sr <| vm rfl <| vs rfl <| dt <| VC.ret <| VR.block <| VR.then <| VR.then <| VR.block <| VR.then <| ?_
      obtain rfl := Option.some.inj h
      exact VR.fn (rs := [.tmp 4]) [] [] [] rfl (.tmp rfl .nil) ⟨rfl, rfl, rfl⟩ trivial rfl (by decide)
    obtain rfl := Bool.eq_false_iff.2 c6796
    refine cf <| VC.skip <| VN.block <| tr <| va (op_ari64 rfl rfl rfl) <| vm rfl <| dn <| VN.again [] [] (ihl1 (wrap64 (i6762 + 1)) h) ⟨rfl, ⟨rfl, rfl, rfl, rfl, rfl, trivial⟩, ⟨⟨0, rfl⟩, trivial⟩, rfl, by decide, rfl, by decide⟩
  cases lF c6782 hb6780
  refine cf <| VC.exit <| VX.then <| VX.then <| VX.hit <| tx <| vs rfl <| dt <| VC.ret <| ?_
  obtain rfl := Option.some.inj h
  exact VR.fn (rs := [.tmp 4]) [] [] [] rfl (.tmp rfl .nil) ⟨rfl, rfl, rfl⟩ trivial rfl (by decide)

theorem slices_ContainsFunc_string_string_s25.ok (k : Nat) (l0 : List ByteArray) (v0 : Value) (r1 : Bool) (h : slices_ContainsFunc_string_string_s25.f k l0 = some r1) :
    VCalls Try.prog 53 [v0, (.func (.func 67) #[] #[])] [.row v0 1 (l0.map enc_str)] (fun v G own => v = .bool r1 ∧ G = [] ∧ own = []) := by
  refine VCalls.intro Try.func53 rfl (len rfl) fun E hC hW hD hU => ?_
  unfold slices_ContainsFunc_string_string_s25.f at h
  refine sr <| vs rfl <| nx <| vm rfl <| vm rfl <| ?_
  replace h := bd h
  obtain ⟨t6797, hA6798, h⟩ := h
  refine sC (o_call0 FO74 (slices_IndexFunc_string_string_s25.ok k l0 v0 t6797 hA6798) rfl rfl (ltn rfl) (All_of (.cons (mG 0 rfl) .nil))) <| ?_
  rintro _ _ _ ⟨rfl, rfl, rfl⟩
  refine VL.letter (decide (t6797 ≥ 0)) fun b6799 hb6799 => va (op_cmp rfl rfl (congrArg some hb6799)) <| vs rfl <| dt <| VC.ret <| ?_
  obtain rfl := Option.some.inj h
  subst hb6799
  exact VR.fn (rs := [.tmp 4]) [] [] [] rfl (.tmp rfl .nil) ⟨rfl, rfl, rfl⟩ trivial rfl (by decide)

end Go.Proofs.Ytipeglbeongfmaa.PJournalKeeps
