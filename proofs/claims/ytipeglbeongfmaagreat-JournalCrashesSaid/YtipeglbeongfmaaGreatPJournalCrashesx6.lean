/- Written by a program of this repo: what the program's functions do, each as a Lean function, shown of the loaded code; or a statement's row over that; no condition of its own. -/
import Derived.Test.YtipeglbeongfmaaGreatPJournalCrashesx5
namespace Go.Proofs.YtipeglbeongfmaaGreat.PJournalCrashes
open Go Go.RowKit Go.Proofs.YtipeglbeongfmaaGreatV
set_option linter.unusedVariables false
set_option linter.unusedSimpArgs false
set_option maxHeartbeats 4000000
set_option maxRecDepth 100000

theorem journal_Open.ok (k : Nat) (l0_0 : List ByteArray) (l0_1 : List S71) (v0_0 : Value) (v0_1 : Value) (r1 : List ByteArray) (r2 : List S71) (r3 : Int) (r4 : Int) (r5 : Int) (r6 : List ByteArray) (r7 : List ByteArray) (r8 : Int) (h : journal_Open.f k l0_0 l0_1 = some (r1, r2, r3, r4, r5, r6, r7, r8)) :
    VCalls Tryz.prog 46 [.agg #[v0_0, v0_1]] [.row v0_0 1 (l0_0.map enc_str), .row v0_1 2 (l0_1.map enc71)] (fun v G own => ∃ w0 w1 w5 w6 : Value, v = .tuple #[.agg #[w0, w1, iv r3, iv r4, iv r5, w5, w6], iv r8] ∧ G = [.row w0 1 (r1.map enc_str), .row w1 2 (r2.map enc71)] ∧ own = [(w5, 9, 1, r6.map enc_str), (w6, 9, 1, r7.map enc_str)]) := by
  refine VCalls.intro Tryz.func46 rfl (len rfl) fun E hC hW hD hU => ?_
  unfold journal_Open.f at h
  refine sr <| sG (o_box rfl (.agg (.f 0 rfl (.f 1 rfl .nil)))) fun g5038 => sG (o_alloc Z27 ZL27) fun g5039 => vs rfl <| ds <|
   VC.join1 (fun (q5827 : Bool) => ⟨94, [(1, pt g5038 0), (2, pt g5039 0), (3, iv 0), (26, .bool q5827)], [.row v0_0 1 (l0_0.map enc_str), .row v0_1 2 (l0_1.map enc71)], [(g5039, 27, [sn, sn, iv 0, iv 0, iv 0, sn, sn]), (g5038, 25, [v0_0, v0_1])], []⟩) (fun (q5827 : Bool) => journal_Open.j4 k l0_0 l0_1 q5827 = some (r1, r2, r3, r4, r5, r6, r7, r8)) ?_ ?_
  · refine rg <| va (op_load 1 2 rfl rfl TI25 rfl (fun h => absurd h (by decide))) <| ?_
    replace h := bd h
    obtain ⟨t5821, hA5822, h⟩ := h
    refine sC (o_call0 FO64 (disk_Right.ok k l0_0 l0_1 v0_0 v0_1 t5821 hA5822) rfl rfl (ltn rfl) (All_of (.cons (mG 0 rfl) (.cons (mG 1 rfl) .nil)))) <| ?_
    rintro _ _ _ ⟨rfl, rfl, rfl⟩
    replace h := iC h
    rcases h with ⟨c5823, h⟩ | ⟨c5823, h⟩
    · obtain rfl := c5823
      refine va (op_not rfl rfl) <| vm rfl <| va (op_fieldAddr FI25_0 rfl (add_at _ _ _)) <| va (op_load 1 1 rfl rfl TI22 rfl (by decide)) <| va (op_len (m := l0_0.length) 0 lenm Tryz.underlying22 rfl rfl) <|
       VL.letter (decide ((l0_0.length : Int) < 8)) fun b5824 hb5824 => va (op_cmp rfl rfl (congrArg some hb5824)) <| va (op_pick rfl rfl) <| vm rfl <| ?_
      replace h := iC h
      rcases h with ⟨c5825, h⟩ | ⟨c5825, h⟩
      · cases lT c5825 hb5824
        refine un rfl <| un rfl <| un rfl <| un rfl <| va (op_pick rfl rfl) <| dn <| VN.meet1 true [0, 1] [] h
      cases lF c5825 hb5824
      refine va (op_fieldAddr FI25_1 rfl (add_at _ _ _)) <| va (op_load 1 1 rfl rfl TI23 rfl (by decide)) <| va (op_len (m := l0_1.length) 1 lenm Tryz.underlying23 rfl rfl) <| VL.letter (decide ((l0_1.length : Int) > 0)) fun b5826 hb5826 => va (op_cmp rfl rfl (congrArg some hb5826)) <|
       va (op_pick rfl rfl) <| dn <| ?_
      subst hb5826
      refine VN.meet1 (decide ((l0_1.length : Int) > 0)) [0, 1] [] h
    obtain rfl := Bool.eq_false_iff.2 c5823
    refine va (op_not rfl rfl) <| vm rfl <| un rfl <| un rfl <| un rfl <| un rfl <| va (op_pick rfl rfl) <| vm rfl <| un rfl <| un rfl <| un rfl <| un rfl <| va (op_pick rfl rfl) <| dn <| VN.meet1 true [0, 1] [] h
  clear h
  intro q5827 h
  unfold journal_Open.j4 at h
  replace h := iC h
  rcases h with ⟨c5828, h⟩ | ⟨c5828, h⟩
  · obtain rfl := c5828
    refine ct <| sr <| va (op_build (vals := []) (vcs := []) (cells := [sn, sn, iv 0, iv 0, iv 0, sn, sn]) SI27 rfl .nil (by kernel_rfl)) <| s1 (o_store 0 7 rfl rfl rfl TI27 (.agg (.of rfl)) rfl (len rfl)) <| vs rfl <| dt <|
     VC.ret <| VR.then <| ?_
    simp only [Option.some.injEq, Prod.mk.injEq] at h
    obtain ⟨rfl, rfl, rfl, rfl, rfl, rfl, rfl, rfl⟩ := h
    exact VR.nilFact' 1 <| VR.nilFact' 2 <| VR.nilRow' 9 1 <| VR.nilRow' 9 1 <| rf [.cell 2 27, .tmp 3] [1, 0] (.cell 0 rfl rfl TI27 (fun h => absurd h (by decide)) (.tmp rfl .nil)) ⟨sn, sn, sn, sn, rfl, rfl, rfl⟩
  obtain rfl := Bool.eq_false_iff.2 c5828
  refine cf <| sk <| sr <| sG (o_alloc Z27 ZL27) fun g5833 => dt <|
   VC.join11 (fun (v6508 : Value) (l6509 : List ByteArray) (v6511 : Value) (l6512 : List S71) (i6513 : Int) (i6514 : Int) (i6515 : Int) (v6517 : Value) (l6518 : List ByteArray) (v6520 : Value) (l6521 : List ByteArray) => ⟨94, [(1, pt g5038 0), (2, pt g5039 0), (3, iv 0), (4, pt g5833 0)], [.row v0_0 1 (l0_0.map enc_str), .row v0_1 2 (l0_1.map enc71)], [(g5833, 27, [v6508, v6511, iv i6513, iv i6514, iv i6515, v6517, v6520]), (g5039, 27, [sn, sn, iv 0, iv 0, iv 0, sn, sn]), (g5038, 25, [v0_0, v0_1])], [(v6508, 9, 1, l6509.map enc_str), (v6511, 72, 2, l6512.map enc71), (v6517, 9, 1, l6518.map enc_str), (v6520, 9, 1, l6521.map enc_str)]⟩) (fun (v6508 : Value) (l6509 : List ByteArray) (v6511 : Value) (l6512 : List S71) (i6513 : Int) (i6514 : Int) (i6515 : Int) (v6517 : Value) (l6518 : List ByteArray) (v6520 : Value) (l6521 : List ByteArray) => journal_Open.j7 k l0_0 l0_1 l6509 l6512 i6513 i6514 i6515 l6518 l6521 = some (r1, r2, r3, r4, r5, r6, r7, r8)) ?_ ?_
  · refine sr <| va (op_fieldAddr FI25_0 rfl (add_at _ _ _)) <| va (op_load 2 1 rfl rfl TI22 rfl (by decide)) <| ?_
    replace h := iN h
    obtain ⟨c6315, h⟩ := h
    refine sG (o_slice (m := l0_0.length) 0 0 2 lenm cutm Tryz.underlying22 TI9 rfl rfl ⟨rfl, ⟨_, _, rfl, (by decide), rfl⟩, Nat.zero_le _, tN (a := (2 : Int)) (b := (l0_0.length : Int)) rfl rfl c6315⟩) fun v6317 => va (op_len (m := ((l0_0.take 2).drop 0).length) 0 lenm Tryz.underlying22 rfl rfl) <|
     vm rfl <| dt <| VC.block <| VC.nilRow' 9 1 <| VC.nilRow' 72 2 <| VC.nilRow' 9 1 <| VC.nilRow' 9 1 <|
     VC.loop12 (fun (i6373 : Int) (v6375 : Value) (l6376 : List ByteArray) (v6379 : Value) (l6380 : List S71) (i6382 : Int) (i6383 : Int) (i6384 : Int) (v6386 : Value) (l6387 : List ByteArray) (v6390 : Value) (l6391 : List ByteArray) => ⟨94, [(1, pt g5038 0), (2, pt g5039 0), (3, iv 0), (4, pt g5833 0), (30, v6317), (31, iv (((l0_0.take 2).drop 0).length : Int)), (32, iv i6373)], [.row v6317 1 (((l0_0.take 2).drop 0).map enc_str), .row v0_0 1 (l0_0.map enc_str), .row v0_1 2 (l0_1.map enc71)], [(g5833, 27, [v6375, v6379, iv i6382, iv i6383, iv i6384, v6386, v6390]), (g5039, 27, [sn, sn, iv 0, iv 0, iv 0, sn, sn]), (g5038, 25, [v0_0, v0_1])], [(v6375, 9, 1, l6376.map enc_str), (v6379, 72, 2, l6380.map enc71), (v6386, 9, 1, l6387.map enc_str), (v6390, 9, 1, l6391.map enc_str)]⟩) (fun (ml8 : Nat) (i6373 : Int) (v6375 : Value) (l6376 : List ByteArray) (v6379 : Value) (l6380 : List S71) (i6382 : Int) (i6383 : Int) (i6384 : Int) (v6386 : Value) (l6387 : List ByteArray) (v6390 : Value) (l6391 : List ByteArray) => journal_Open.l8 k l0_0 l0_1 ml8 i6373 l6376 l6380 i6382 i6383 i6384 l6387 l6391 = some (r1, r2, r3, r4, r5, r6, r7, r8)) k 0 sn ([] : List ByteArray) sn ([] : List S71) 0 0 0 sn ([] : List ByteArray) sn ([] : List ByteArray) [0, 1, 2] [3, 2, 1, 0] h ⟨rfl, ⟨rfl, rfl, rfl, rfl, rfl, rfl, rfl, trivial⟩, ⟨⟨0, rfl⟩, ⟨1, rfl⟩, ⟨2, rfl⟩, trivial⟩, rfl, by decide, rfl, by decide⟩ (by intros; simp [journal_Open.l8]) <|
     ?_
    clear h
    intro ml8 ihl8 i6373 v6375 l6376 v6379 l6380 i6382 i6383 i6384 v6386 l6387 v6390 l6391 h
    simp only [journal_Open.l8] at h
    refine sr <| VL.letter (decide (i6373 < (((l0_0.take 2).drop 0).length : Int))) fun b6450 hb6450 => va (op_cmp rfl rfl (congrArg some hb6450)) <| ds <| ?_
    replace h := iC h
    rcases h with ⟨c6452, h⟩ | ⟨c6452, h⟩
    · cases lT c6452 hb6450
      refine ct <| sk <| sq <| VC.block <| sr <| vm rfl <| ?_
      replace h := iN h
      obtain ⟨c6480, h⟩ := h
      replace h := bd h
      obtain ⟨x6481, hx6481, h⟩ := h
      refine VL.open (m := ((l0_0.take 2).drop 0).length) 0 lenm rfl (pos_get hx6481) <| ?_
      rintro ad6482 n6483 rfl
      refine va (op_indexAddr Tryz.underlying22 TI9 rfl rfl c6480 (lt_get c6480 hx6481) rfl) <| va (op_load_row (sz := 1) (o := 0) 0 i6373.toNat 1 rfl rfl (get_map hx6481) TI9 rfl (by decide)) <| vs rfl <| vs rfl <| nx <| vm rfl <| vm rfl <| va (op_fieldAddr FI25_0 rfl (add_at _ _ _)) <|
       va (op_load 2 1 rfl rfl TI22 rfl (by decide)) <| va (op_len (m := l0_0.length) 1 lenm Tryz.underlying22 rfl rfl) <| ?_
      replace h := bd h
      obtain ⟨⟨r6484, r6485, t6486, t6487, t6488, r6489, r6490, t6491⟩, hA6492, h⟩ := h
      dsimp only at h
      refine sC (o_call0 FO67 (journal_read.ok k i6373 x6481 (l0_0.length : Int) r6484 r6485 t6486 t6487 t6488 r6489 r6490 t6491 hA6492) rfl rfl (ltn rfl) (All_of .nil)) <| ?_
      rintro _ _ _ ⟨v6494, v6496, v6498, v6500, rfl, rfl, rfl⟩
      refine vm rfl <| va (op_extract rfl rfl) <| va (op_extract rfl rfl) <| sG (o_alloc Z27 ZL27) fun g6501 => s1 (o_store 0 7 rfl rfl rfl TI27 (.agg (.r 0 rfl (.r 1 rfl (.c rfl (.c rfl (.c rfl (.r 2 rfl (.r 3 rfl .nil)))))))) rfl (len rfl)) <| vs rfl <| nx <| vm rfl <| vm rfl <| ?_
      replace h := iC h
      rcases h with ⟨c6504, h⟩ | ⟨c6504, h⟩
      · obtain rfl := c6504
        refine va (op_fieldAddr FI27_1 rfl (add_at _ _ _)) <| va (op_load 0 1 rfl rfl TI3 rfl (by decide)) <| va (op_fieldAddr FI27_1 rfl (add_at _ _ _)) <| va (op_load 1 1 rfl rfl TI3 rfl (by decide)) <| VL.letter (decide (t6486 > i6382)) fun b6505 hb6505 => va (op_cmp rfl rfl (congrArg some hb6505)) <|
         va (op_pick rfl rfl) <| dt <| ?_
        replace h := iC h
        rcases h with ⟨c6506, h⟩ | ⟨c6506, h⟩
        · cases lT c6506 hb6505
          refine ct <| rg <| va (op_load 0 7 rfl rfl TI27 rfl (fun h => absurd h (by decide))) <| s1 (o_store 1 7 rfl rfl rfl TI27 (.agg (.r 0 rfl (.r 1 rfl (.c rfl (.c rfl (.c rfl (.r 2 rfl (.r 3 rfl .nil)))))))) rfl (len rfl)) <| dn <| VN.block <| tr <| va (op_ari64 rfl rfl rfl) <| vm rfl <| dn <|
           VN.again [1, 2, 3] [0, 1, 2, 3] (ihl8 (wrap64 (i6373 + 1)) v6494 r6484 v6496 r6485 t6486 t6487 t6488 v6498 r6489 v6500 r6490 h)
        cases lF c6506 hb6505
        refine cf <| VC.skip <| VN.block <| tr <| va (op_ari64 rfl rfl rfl) <| vm rfl <| dn <| VN.again [1, 2, 3] [4, 5, 6, 7] (ihl8 (wrap64 (i6373 + 1)) v6375 l6376 v6379 l6380 i6382 i6383 i6384 v6386 l6387 v6390 l6391 h)
      obtain rfl := Bool.eq_false_iff.2 c6504
      refine un rfl <| un rfl <| un rfl <| un rfl <| un rfl <| va (op_pick rfl rfl) <| dt <| cf <| VC.skip <| VN.block <| tr <| va (op_ari64 rfl rfl rfl) <| vm rfl <| dn <| VN.again [1, 2, 3] [4, 5, 6, 7] (ihl8 (wrap64 (i6373 + 1)) v6375 l6376 v6379 l6380 i6382 i6383 i6384 v6386 l6387 v6390 l6391 h)
    cases lF c6452 hb6450
    refine cf <| VC.exit <| VX.then <| VX.then <| VX.hit <| VN.meet11 v6375 l6376 v6379 l6380 i6382 i6383 i6384 v6386 l6387 v6390 l6391 [0, 1, 2] [0, 1, 2, 3] h
  clear h
  intro v6508 l6509 v6511 l6512 i6513 i6514 i6515 v6517 l6518 v6520 l6521 h
  unfold journal_Open.j7 at h
  refine sq <| sr <| va (op_fieldAddr FI27_1 rfl (add_at _ _ _)) <| va (op_load 0 1 rfl rfl TI3 rfl (by decide)) <| VL.letter ((i6513 == 0)) fun b6528 hb6528 => va (op_cmp rfl rfl (congrArg some hb6528)) <| dt <| ?_
  replace h := iC h
  rcases h with ⟨c6529, h⟩ | ⟨c6529, h⟩
  · obtain rfl : b6528 = true := hb6528.symm.trans (beq_iff_eq.2 c6529)
    refine ct <| sr <| va (op_build (vals := []) (vcs := []) (cells := [sn, sn, iv 0, iv 0, iv 0, sn, sn]) SI27 rfl .nil (by kernel_rfl)) <| s1 (o_store 1 7 rfl rfl rfl TI27 (.agg (.of rfl)) rfl (len rfl)) <| vs rfl <| dt <|
     VC.ret <| VR.then <| ?_
    simp only [Option.some.injEq, Prod.mk.injEq] at h
    obtain ⟨rfl, rfl, rfl, rfl, rfl, rfl, rfl, rfl⟩ := h
    exact VR.nilFact' 1 <| VR.nilFact' 2 <| VR.nilRow' 9 1 <| VR.nilRow' 9 1 <| rf [.cell 2 27, .tmp 3] [1, 0] (.cell 1 rfl rfl TI27 (fun h => absurd h (by decide)) (.tmp rfl .nil)) ⟨sn, sn, sn, sn, rfl, rfl, rfl⟩
  obtain rfl : b6528 = false := hb6528.symm.trans (beq_eq_false_iff_ne.2 c6529)
  refine cf <| sk <| sr <| va (op_fieldAddr FI25_0 rfl (add_at _ _ _)) <| va (op_load 2 1 rfl rfl TI22 rfl (by decide)) <| va (op_len (m := l0_0.length) 0 lenm Tryz.underlying22 rfl rfl) <| va (op_fieldAddr FI27_2 rfl (add_at _ _ _)) <| va (op_load 0 1 rfl rfl TI3 rfl (by decide)) <| ?_
  replace h := bd h
  obtain ⟨t6534, hA6535, h⟩ := h
  refine sC (o_call0 FO68 (journal_begin.ok (l0_0.length : Int) i6514 t6534 hA6535) rfl rfl (ltn rfl) (All_of .nil)) <| ?_
  rintro _ _ _ ⟨rfl, rfl, rfl⟩
  refine vs rfl <| dt <| ?_
  replace h := iN h
  obtain ⟨c6536, h⟩ := h
  replace h := iN h
  obtain ⟨c6537, h⟩ := h
  replace h := iN h
  obtain ⟨c6538, h⟩ := h
  replace h := iN h
  obtain ⟨c6539, h⟩ := h
  replace h := bd h
  obtain ⟨r6542, hA6543, h⟩ := h
  replace h := iN h
  obtain ⟨c6544, h⟩ := h
  replace h := iN h
  obtain ⟨c6545, h⟩ := h
  replace h := bd h
  obtain ⟨⟨r6546, t6547⟩, hA6548, h⟩ := h
  dsimp only at h
  refine VC.join1 (fun (v6550 : Value) => ⟨94, [(1, pt g5038 0), (2, pt g5039 0), (3, iv 0), (4, pt g5833 0), (10, v6550), (11, iv t6547)], [.row v0_0 1 (l0_0.map enc_str), .row v0_1 2 (l0_1.map enc71)], [(g5833, 27, [v6508, v6511, iv i6513, iv i6514, iv i6515, v6517, v6520]), (g5039, 27, [sn, sn, iv 0, iv 0, iv 0, sn, sn]), (g5038, 25, [v0_0, v0_1])], [(v6550, 9, 1, r6546.map enc_str), (v6508, 9, 1, l6509.map enc_str), (v6511, 72, 2, l6512.map enc71), (v6517, 9, 1, l6518.map enc_str), (v6520, 9, 1, l6521.map enc_str)]⟩) (fun (v6550 : Value) => True) ?_ ?_
  · refine dw ⟨0, [], [.row v0_0 1 (l0_0.map enc_str)], [(g5833, 27, [v6508, v6511, iv i6513, iv i6514, iv i6515, v6517, v6520]), (g5038, 25, [v0_0, v0_1])], []⟩ 21 <| av 0 1 rfl (op_fieldAddr FI25_0 rfl (add_at _ _ _)) <| av 1 3 rfl (op_load 1 1 rfl rfl TI22 rfl (by decide)) <|
     av 2 7 rfl (mv rfl) <| av 3 15 rfl (mv rfl) <| av 4 31 rfl (op_fieldAddr FI25_0 rfl (add_at _ _ _)) <| av 5 63 rfl (op_load 1 1 rfl rfl TI22 rfl (by decide)) <| av 6 127 rfl (op_len (m := l0_0.length) 0 lenm Tryz.underlying22 rfl rfl) <| av 7 255 rfl (op_ari64 rfl rfl rfl) <|
     av 8 511 rfl (op_quo rfl rfl (by decide) rfl) <| av 9 1023 rfl (op_ari64 rfl rfl rfl) <|
     VA.cut (i := 10) (listed' := LB 21 2047) rfl (m := l0_0.length) 0 t6534.toNat ((wrap64 (t6534 + (IntKind.i64.wrap ((wrap64 ((l0_0.length : Int) - 2)).tdiv 2)))).toNat) lenm cutm Tryz.underlying22 TI9 rfl rfl ⟨⟨_, _, rfl, c6536, rfl⟩, ⟨_, _, rfl, c6537, rfl⟩, tN (a := t6534) (b := (wrap64 (t6534 + (IntKind.i64.wrap ((wrap64 ((l0_0.length : Int) - 2)).tdiv 2))))) rfl rfl c6539, tN (a := (wrap64 (t6534 + (IntKind.i64.wrap ((wrap64 ((l0_0.length : Int) - 2)).tdiv 2))))) (b := (l0_0.length : Int)) rfl rfl c6538⟩ (ltn rfl) rfl (by kernel_rfl) (by kernel_rfl) (by kernel_rfl) (by kernel_rfl) ⟨⟨⟨0, rfl⟩, trivial⟩, ⟨⟨0, rfl⟩, ⟨2, rfl⟩, trivial⟩, trivial⟩ (fun _ _ _ _ h => h) <|
     ?_
    intro v6541
    refine av 12 6143 rfl (op_fieldAddr FI27_3 rfl (add_at _ _ _)) <| av 13 14335 rfl (op_load 0 1 rfl rfl TI3 rfl (by decide)) <|
     aC 11 16383 rfl (o_call_b0 FO70 (strings_Join.ok ((l0_0.take ((wrap64 (t6534 + (IntKind.i64.wrap ((wrap64 ((l0_0.length : Int) - 2)).tdiv 2)))).toNat)).drop t6534.toNat) (⟨#[]⟩ : ByteArray) v6541 r6542 hA6543) rfl rfl (ltn rfl) (All_of (.cons (.inl (mG 0 rfl)) .nil)) (by rintro _ _ _ ⟨rfl, rfl, rfl⟩; rfl)) <|
     ?_
    rintro _ _ _ ⟨rfl, rfl, rfl⟩
    refine ⟨⟨⟨⟨1, rfl⟩, trivial⟩, ⟨⟨0, rfl⟩, ⟨2, rfl⟩, trivial⟩, trivial⟩, ?_⟩
    refine av 14 32767 rfl (op_sliceS 0 i6515.toNat Tryz.underlying9 rfl ⟨rfl, ⟨_, _, rfl, c6544, rfl⟩, Nat.zero_le _, tN (a := i6515) (b := (r6542.size : Int)) rfl rfl c6545⟩ rfl) <|
     aC 15 65535 rfl (o_call0 FO69 (frame_All.ok k (r6542.extract 0 i6515.toNat) r6546 t6547 hA6548) rfl rfl (ltn rfl) (All_of .nil)) <| ?_
    rintro _ _ _ ⟨v6550, rfl, rfl, rfl⟩
    refine ⟨⟨⟨⟨1, rfl⟩, trivial⟩, ⟨⟨0, rfl⟩, ⟨2, rfl⟩, trivial⟩, trivial⟩, ?_⟩
    exact VA.more ⟨0, [], [.row v0_0 1 (l0_0.map enc_str)], [(g5833, 27, [v6508, v6511, iv i6513, iv i6514, iv i6515, v6517, v6520]), (g5038, 25, [v0_0, v0_1])], [(v6550, 9, 1, r6546.map enc_str)]⟩ ⟨⟨⟨0, rfl⟩, trivial⟩, ⟨⟨0, rfl⟩, ⟨1, rfl⟩, trivial⟩, trivial⟩ <|
     av 16 131071 rfl (mv rfl) <| av 17 262143 rfl (op_extract rfl rfl) <| av 18 524287 rfl (op_extract rfl rfl) <| av 19 1048575 rfl (ag rfl) <| av 20 2097151 rfl (ag rfl) <| ad <| VN.meet1 v6550 [0, 1, 2] [0, 1, 2, 3, 4] trivial
  intro v6550 _
  refine sq <| sr <| vm rfl <| VL.letter ((t6547 != 0)) fun b6557 hb6557 => va (op_cmp rfl rfl (congrArg some hb6557)) <| dt <| ?_
  replace h := iC h
  rcases h with ⟨c6558, h⟩ | ⟨c6558, h⟩
  · obtain rfl : b6557 = false := hb6557.symm.trans (bne_eq_false_iff_eq.2 c6558)
    refine cf <| sk <| sr <| va (op_load 2 2 rfl rfl TI25 rfl (fun h => absurd h (by decide))) <| vm rfl <| va (op_fieldAddr FI27_0 rfl (add_at _ _ _)) <| s1 (o_store 0 2 rfl rfl rfl TI25 (.agg (.f 0 rfl (.f 1 rfl .nil))) rfl (len rfl)) <| va (op_fieldAddr FI27_5 rfl (add_at _ _ _)) <|
     s1 (o_store 0 1 rfl rfl rfl TI22 (.r 0 rfl) rfl (len rfl)) <| nx <| va (op_load 0 7 rfl rfl TI27 rfl (fun h => absurd h (by decide))) <| s1 (o_store 1 7 rfl rfl rfl TI27 (.agg (.f 0 rfl (.f 1 rfl (.c rfl (.c rfl (.c rfl (.r 3 rfl (.r 0 rfl .nil)))))))) rfl (len rfl)) <| vs rfl <| dt <| VC.ret <| ?_
    simp only [Option.some.injEq, Prod.mk.injEq] at h
    obtain ⟨rfl, rfl, rfl, rfl, rfl, rfl, rfl, rfl⟩ := h
    exact rf [.cell 2 27, .tmp 3] [3, 0] (.cell 1 rfl rfl TI27 (fun h => absurd h (by decide)) (.tmp rfl .nil)) ⟨v0_0, v0_1, v6517, v6550, rfl, rfl, rfl⟩
  obtain rfl : b6557 = true := hb6557.symm.trans (bne_iff_ne.2 c6558)
  refine ct <| sr <| va (op_build (vals := []) (vcs := []) (cells := [sn, sn, iv 0, iv 0, iv 0, sn, sn]) SI27 rfl .nil (by kernel_rfl)) <| vm rfl <| s1 (o_store 1 7 rfl rfl rfl TI27 (.agg (.of rfl)) rfl (len rfl)) <| vs rfl <|
   dt <| VC.ret <| VR.then <| ?_
  simp only [Option.some.injEq, Prod.mk.injEq] at h
  obtain ⟨rfl, rfl, rfl, rfl, rfl, rfl, rfl, rfl⟩ := h
  exact VR.nilFact' 1 <| VR.nilFact' 2 <| VR.nilRow' 9 1 <| VR.nilRow' 9 1 <| rf [.cell 2 27, .tmp 3] [1, 0] (.cell 1 rfl rfl TI27 (fun h => absurd h (by decide)) (.tmp rfl .nil)) ⟨sn, sn, sn, sn, rfl, rfl, rfl⟩

theorem slices_Equal_string_string.ok (k : Nat) (l0 : List ByteArray) (l1 : List ByteArray) (v0 : Value) (v1 : Value) (r1 : Bool) (h : slices_Equal_string_string.f k l0 l1 = some r1) :
    VCalls Tryz.prog 47 [v0, v1] [.row v0 1 (l0.map enc_str), .row v1 1 (l1.map enc_str)] (fun v G own => v = .bool r1 ∧ G = [] ∧ own = []) := by
  refine VCalls.intro Tryz.func47 rfl (len rfl) fun E hC hW hD hU => ?_
  unfold slices_Equal_string_string.f at h
  refine sr <| vs rfl <| ds <| sr <| vm rfl <| va (op_len (m := l0.length) 0 lenm Tryz.underlying22 rfl rfl) <| vm rfl <| va (op_len (m := l1.length) 1 lenm Tryz.underlying22 rfl rfl) <|
   VL.letter (((l0.length : Int) != (l1.length : Int))) fun b6591 hb6591 => va (op_cmp rfl rfl (congrArg some hb6591)) <| dt <| ?_
  replace h := iC h
  rcases h with ⟨c6592, h⟩ | ⟨c6592, h⟩
  · obtain rfl : b6591 = false := hb6591.symm.trans (bne_eq_false_iff_eq.2 c6592)
    refine cf <| sk <| sq <| sr <| vm rfl <| va (op_len (m := l0.length) 0 lenm Tryz.underlying22 rfl rfl) <| vm rfl <| dt <| VC.block <|
     VC.loop1 (fun (i6646 : Int) => ⟨26, [(0, v0), (1, v1), (4, .bool false), (12, iv (l0.length : Int)), (13, iv i6646)], [.row v0 1 (l0.map enc_str), .row v1 1 (l1.map enc_str)], [], []⟩) (fun (ml1 : Nat) (i6646 : Int) => slices_Equal_string_string.l1 k l0 l1 ml1 i6646 = some r1) k 0 [] [] h ⟨rfl, ⟨rfl, rfl, rfl, rfl, rfl, trivial⟩, ⟨⟨0, rfl⟩, ⟨1, rfl⟩, trivial⟩, rfl, by decide, rfl, by decide⟩ (by intros; simp [slices_Equal_string_string.l1]) <|
     ?_
    clear h
    intro ml1 ihl1 i6646 h
    simp only [slices_Equal_string_string.l1] at h
    refine sr <| VL.letter (decide (i6646 < (l0.length : Int))) fun b6660 hb6660 => va (op_cmp rfl rfl (congrArg some hb6660)) <| ds <| ?_
    replace h := iC h
    rcases h with ⟨c6662, h⟩ | ⟨c6662, h⟩
    · cases lT c6662 hb6660
      refine ct <| sk <| sq <| VC.block <| sr <| vm rfl <| vs rfl <| dt <| ?_
      replace h := iN h
      obtain ⟨c6668, h⟩ := h
      replace h := bd h
      obtain ⟨x6669, hx6669, h⟩ := h
      replace h := bd h
      obtain ⟨x6670, hx6670, h⟩ := h
      refine VC.letter ((x6669 != x6670)) fun b6671 hb6671 => VC.open (m := l0.length) 0 lenm rfl (pos_get hx6669) <| ?_
      rintro ad6597 n6598 rfl
      refine VC.open (m := l1.length) 1 lenm rfl (pos_get hx6670) <| ?_
      rintro ad6600 n6601 rfl
      refine VC.join0 (⟨26, [(0, (.slice (some ad6597) l0.length n6598)), (1, (.slice (some ad6600) l1.length n6601)), (4, .bool false), (5, iv i6646), (12, iv (l0.length : Int)), (13, iv i6646), (14, .bool true), (15, iv i6646), (16, (.slice (some ad6597) l0.length n6598)), (17, iv i6646), (19, .string x6669), (20, (.slice (some ad6600) l1.length n6601)), (21, iv i6646), (23, .string x6670), (24, .bool b6671)], [.row (.slice (some ad6597) l0.length n6598) 1 (l0.map enc_str), .row (.slice (some ad6600) l1.length n6601) 1 (l1.map enc_str)], [], []⟩) (True) ?_ ?_
      · exact dw ⟨0, [], [.row (.slice (some ad6597) l0.length n6598) 1 (l0.map enc_str), .row (.slice (some ad6600) l1.length n6601) 1 (l1.map enc_str)], [], []⟩ 9 <| av 0 1 rfl (mv rfl) <| av 1 3 rfl (mv rfl) <| av 2 7 rfl (op_indexAddr Tryz.underlying22 TI9 rfl rfl c6668 (lt_get c6668 hx6669) rfl) <|
         av 3 15 rfl (op_load_row (sz := 1) (o := 0) 0 i6646.toNat 1 rfl rfl (get_map hx6669) TI9 rfl (by decide)) <| av 4 31 rfl (mv rfl) <| av 5 63 rfl (mv rfl) <| av 6 127 rfl (op_indexAddr Tryz.underlying22 TI9 rfl rfl c6668 (lt_get c6668 hx6670) rfl) <|
         av 7 255 rfl (op_load_row (sz := 1) (o := 0) 1 i6646.toNat 1 rfl rfl (get_map hx6670) TI9 rfl (by decide)) <| av 8 511 rfl (op_cmps rfl rfl (congrArg some hb6671)) <| ad <| VN.meet0 [] [] trivial
      intro _
      replace h := iC h
      rcases h with ⟨c6672, h⟩ | ⟨c6672, h⟩
      · obtain rfl : b6671 = false := hb6671.symm.trans (bne_of_t c6672)
        refine cf <| VC.skip <| VN.block <| tr <| va (op_ari64 rfl rfl rfl) <| vm rfl <| dn <| VN.again [] [] (ihl1 (wrap64 (i6646 + 1)) h)
      obtain rfl : b6671 = true := hb6671.symm.trans (bne_of_f c6672)
      refine ct <| sr <| vs rfl <| dt <| VC.ret <| VR.block <| VR.then <| VR.then <| VR.block <| VR.then <| ?_
      obtain rfl := Option.some.inj h
      exact rq 4 rfl ⟨rfl, rfl, rfl⟩
    cases lF c6662 hb6660
    refine cf <| VC.exit <| VX.then <| VX.then <| VX.hit <| tx <| vs rfl <| dt <| VC.ret <| ?_
    obtain rfl := Option.some.inj h
    exact rq 4 rfl ⟨rfl, rfl, rfl⟩
  obtain rfl : b6591 = true := hb6591.symm.trans (bne_iff_ne.2 c6592)
  refine ct <| sr <| vs rfl <| dt <| VC.ret <| VR.then <| ?_
  obtain rfl := Option.some.inj h
  exact rq 4 rfl ⟨rfl, rfl, rfl⟩

theorem journal_waits_1.ok (a0 : ByteArray)  (r1 : Bool) (h : journal_waits_1.f a0 = some r1) :
    VCalls Tryz.prog 49 [.string a0] [] (fun v G own => v = .bool r1 ∧ G = [] ∧ own = []) := by
  refine VCalls.intro Tryz.func49 rfl (len rfl) fun E hC hW hD hU => ?_
  unfold journal_waits_1.f at h
  refine sr <| vs rfl <| nx <| vm rfl <| va (op_lens Tryz.underlying9 rfl) <| VL.letter (decide ((a0.size : Int) > 1000)) fun b6700 hb6700 => va (op_cmp rfl rfl (congrArg some hb6700)) <| vs rfl <| dt <| VC.ret <| ?_
  obtain rfl := Option.some.inj h
  subst hb6700
  exact rq 2 rfl ⟨rfl, rfl, rfl⟩

theorem slices_IndexFunc_string_string_s25.ok (k : Nat) (l0 : List ByteArray) (v0 : Value) (r1 : Int) (h : slices_IndexFunc_string_string_s25.f k l0 = some r1) :
    VCalls Tryz.prog 71 [v0, (.func (.func 49) #[] #[])] [.row v0 1 (l0.map enc_str)] (fun v G own => v = iv r1 ∧ G = [] ∧ own = []) := by
  refine VCalls.intro Tryz.func71 rfl (len rfl) fun E hC hW hD hU => ?_
  unfold slices_IndexFunc_string_string_s25.f at h
  refine sr <| vs rfl <| ds <| sr <| vm rfl <| va (op_len (m := l0.length) 0 lenm Tryz.underlying22 rfl rfl) <| vm rfl <| dt <| VC.block <|
   VC.loop1 (fun (i6760 : Int) => ⟨19, [(0, v0), (1, (.func (.func 49) #[] #[])), (4, iv 0), (7, iv (l0.length : Int)), (8, iv i6760)], [.row v0 1 (l0.map enc_str)], [], []⟩) (fun (ml1 : Nat) (i6760 : Int) => slices_IndexFunc_string_string_s25.l1 k l0 ml1 i6760 = some r1) k 0 [] [] h ⟨rfl, ⟨rfl, rfl, rfl, rfl, rfl, trivial⟩, ⟨⟨0, rfl⟩, trivial⟩, rfl, by decide, rfl, by decide⟩ (by intros; simp [slices_IndexFunc_string_string_s25.l1]) <|
   ?_
  clear h
  intro ml1 ihl1 i6760 h
  simp only [slices_IndexFunc_string_string_s25.l1] at h
  refine sr <| VL.letter (decide (i6760 < (l0.length : Int))) fun b6778 hb6778 => va (op_cmp rfl rfl (congrArg some hb6778)) <| ds <| ?_
  replace h := iC h
  rcases h with ⟨c6780, h⟩ | ⟨c6780, h⟩
  · cases lT c6780 hb6778
    refine ct <| sk <| sq <| VC.block <| sr <| vm rfl <| vs rfl <| nx <| vm rfl <| vm rfl <| vm rfl <| ?_
    replace h := iN h
    obtain ⟨c6788, h⟩ := h
    replace h := bd h
    obtain ⟨x6789, hx6789, h⟩ := h
    refine VL.open (m := l0.length) 0 lenm rfl (pos_get hx6789) <| ?_
    rintro ad6790 n6791 rfl
    refine va (op_indexAddr Tryz.underlying22 TI9 rfl rfl c6788 (lt_get c6788 hx6789) rfl) <| va (op_load_row (sz := 1) (o := 0) 0 i6760.toNat 1 rfl rfl (get_map hx6789) TI9 rfl (by decide)) <| ?_
    replace h := bd h
    obtain ⟨t6792, hA6793, h⟩ := h
    refine sC (o_call0 FO49 (journal_waits_1.ok x6789 t6792 hA6793) rfl rfl (ltn rfl) (All_of .nil)) <| ?_
    rintro _ _ _ ⟨rfl, rfl, rfl⟩
    refine dt <| ?_
    replace h := iC h
    rcases h with ⟨c6794, h⟩ | ⟨c6794, h⟩
    · obtain rfl := c6794
      refine ct <| sr <| vm rfl <| vs rfl <| dt <| VC.ret <| VR.block <| VR.then <| VR.then <| VR.block <| VR.then <| ?_
      obtain rfl := Option.some.inj h
      exact rq 4 rfl ⟨rfl, rfl, rfl⟩
    obtain rfl := Bool.eq_false_iff.2 c6794
    refine cf <| VC.skip <| VN.block <| tr <| va (op_ari64 rfl rfl rfl) <| vm rfl <| dn <| VN.again [] [] (ihl1 (wrap64 (i6760 + 1)) h)
  cases lF c6780 hb6778
  refine cf <| VC.exit <| VX.then <| VX.then <| VX.hit <| tx <| vs rfl <| dt <| VC.ret <| ?_
  obtain rfl := Option.some.inj h
  exact rq 4 rfl ⟨rfl, rfl, rfl⟩

theorem slices_ContainsFunc_string_string_s25.ok (k : Nat) (l0 : List ByteArray) (v0 : Value) (r1 : Bool) (h : slices_ContainsFunc_string_string_s25.f k l0 = some r1) :
    VCalls Tryz.prog 48 [v0, (.func (.func 49) #[] #[])] [.row v0 1 (l0.map enc_str)] (fun v G own => v = .bool r1 ∧ G = [] ∧ own = []) := by
  refine VCalls.intro Tryz.func48 rfl (len rfl) fun E hC hW hD hU => ?_
  unfold slices_ContainsFunc_string_string_s25.f at h
  refine sr <| vs rfl <| nx <| vm rfl <| vm rfl <| ?_
  replace h := bd h
  obtain ⟨t6795, hA6796, h⟩ := h
  refine sC (o_call0 FO71 (slices_IndexFunc_string_string_s25.ok k l0 v0 t6795 hA6796) rfl rfl (ltn rfl) (All_of (.cons (mG 0 rfl) .nil))) <| ?_
  rintro _ _ _ ⟨rfl, rfl, rfl⟩
  refine VL.letter (decide (t6795 ≥ 0)) fun b6797 hb6797 => va (op_cmp rfl rfl (congrArg some hb6797)) <| vs rfl <| dt <| VC.ret <| ?_
  obtain rfl := Option.some.inj h
  subst hb6797
  exact rq 4 rfl ⟨rfl, rfl, rfl⟩

end Go.Proofs.YtipeglbeongfmaaGreat.PJournalCrashes
