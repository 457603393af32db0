/- Written by a program of this repo: what the program's functions do, each as a Lean function, shown of the loaded code; or a statement's row over that; no condition of its own. -/
import Derived.Test.YtipeglbeongfmaaPJournalOpensx5
namespace Go.Proofs.Ytipeglbeongfmaa.PJournalOpens
open Go Go.RowKit Go.Proofs.YtipeglbeongfmaaV
set_option linter.unusedVariables false
set_option linter.unusedSimpArgs false
set_option maxHeartbeats 4000000
set_option maxRecDepth 100000

theorem journal_Open.ok (k : Nat) (l0_0 : List ByteArray) (l0_1 : List S55) (v0_0 : Value) (v0_1 : Value) (r1 : List ByteArray) (r2 : List S55) (r3 : Int) (r4 : Int) (r5 : Int) (r6 : List ByteArray) (r7 : List ByteArray) (r8 : Int) (h : journal_Open.f k l0_0 l0_1 = some (r1, r2, r3, r4, r5, r6, r7, r8)) :
    VCalls Try.prog 9 [.agg #[v0_0, v0_1]] [.row v0_0 1 (l0_0.map enc_str), .row v0_1 2 (l0_1.map enc55)] (fun v G own => ∃ w0 w1 w5 w6 : Value, v = .tuple #[.agg #[w0, w1, iv r3, iv r4, iv r5, w5, w6], iv r8] ∧ G = [.row w0 1 (r1.map enc_str), .row w1 2 (r2.map enc55)] ∧ own = [(w5, 9, 1, r6.map enc_str), (w6, 9, 1, r7.map enc_str)]) := by
  refine VCalls.intro Try.func9 rfl (len rfl) fun E hC hW hD hU => ?_
  unfold journal_Open.f at h
  refine sr <| sG (o_box rfl (.agg (.f 0 rfl (.f 1 rfl .nil)))) fun g5035 => sG (o_alloc Z27 ZL27) fun g5036 => vs rfl <| ds <|
   VC.join1 (fun (q5824 : Bool) => ⟨94, [(1, pt g5035 0), (2, pt g5036 0), (3, iv 0), (26, .bool q5824)], [.row v0_0 1 (l0_0.map enc_str), .row v0_1 2 (l0_1.map enc55)], [(g5036, 27, [sn, sn, iv 0, iv 0, iv 0, sn, sn]), (g5035, 25, [v0_0, v0_1])], []⟩) (fun (q5824 : Bool) => journal_Open.j4 k l0_0 l0_1 q5824 = some (r1, r2, r3, r4, r5, r6, r7, r8)) ?_ ?_
  · refine rg <| va (op_load 1 2 rfl rfl TI25 rfl (fun h => absurd h (by decide))) <| ?_
    replace h := bd h
    obtain ⟨t5818, hA5819, h⟩ := h
    refine sC (o_call0 FO23 (disk_Right.ok k l0_0 l0_1 v0_0 v0_1 t5818 hA5819) rfl rfl (ltn rfl) (All_of (.cons (mG 0 rfl) (.cons (mG 1 rfl) .nil)))) <| ?_
    rintro _ _ _ ⟨rfl, rfl, rfl⟩
    replace h := iC h
    rcases h with ⟨c5820, h⟩ | ⟨c5820, h⟩
    · obtain rfl := c5820
      refine va (op_not rfl rfl) <| vm rfl <| va (op_fieldAddr FI25_0 rfl (add_at _ _ _)) <| va (op_load 1 1 rfl rfl TI22 rfl (by decide)) <| va (op_len (m := l0_0.length) 0 lenm Try.underlying22 rfl rfl) <|
       VL.letter (decide ((l0_0.length : Int) < 8)) fun b5821 hb5821 => va (op_cmp rfl rfl (congrArg some hb5821)) <| va (op_pick rfl rfl) <| vm rfl <| ?_
      replace h := iC h
      rcases h with ⟨c5822, h⟩ | ⟨c5822, h⟩
      · cases lT c5822 hb5821
        refine un rfl <| un rfl <| un rfl <| un rfl <| va (op_pick rfl rfl) <| dn <| VN.meet1 true [0, 1] [] h
      cases lF c5822 hb5821
      refine va (op_fieldAddr FI25_1 rfl (add_at _ _ _)) <| va (op_load 1 1 rfl rfl TI23 rfl (by decide)) <| va (op_len (m := l0_1.length) 1 lenm Try.underlying23 rfl rfl) <| VL.letter (decide ((l0_1.length : Int) > 0)) fun b5823 hb5823 => va (op_cmp rfl rfl (congrArg some hb5823)) <|
       va (op_pick rfl rfl) <| dn <| ?_
      subst hb5823
      refine VN.meet1 (decide ((l0_1.length : Int) > 0)) [0, 1] [] h
    obtain rfl := Bool.eq_false_iff.2 c5820
    refine va (op_not rfl rfl) <| vm rfl <| un rfl <| un rfl <| un rfl <| un rfl <| va (op_pick rfl rfl) <| vm rfl <| un rfl <| un rfl <| un rfl <| un rfl <| va (op_pick rfl rfl) <| dn <| VN.meet1 true [0, 1] [] h
  clear h
  intro q5824 h
  unfold journal_Open.j4 at h
  replace h := iC h
  rcases h with ⟨c5825, h⟩ | ⟨c5825, h⟩
  · obtain rfl := c5825
    refine ct <| sr <| va (op_build (vals := []) (vcs := []) (cells := [sn, sn, iv 0, iv 0, iv 0, sn, sn]) SI27 rfl .nil (by kernel_rfl)) <| s1 (o_store 0 7 rfl rfl rfl TI27 (.agg (.of rfl)) rfl (len rfl)) <| vs rfl <| dt <|
     VC.ret <| VR.then <| ?_
    simp only [Option.some.injEq, Prod.mk.injEq] at h
    obtain ⟨rfl, rfl, rfl, rfl, rfl, rfl, rfl, rfl⟩ := h
    exact VR.nilFact' 1 <| VR.nilFact' 2 <| VR.nilRow' 9 1 <| VR.nilRow' 9 1 <| rf [.cell 2 27, .tmp 3] [1, 0] (.cell 0 rfl rfl TI27 (fun h => absurd h (by decide)) (.tmp rfl .nil)) ⟨sn, sn, sn, sn, rfl, rfl, rfl⟩
  obtain rfl := Bool.eq_false_iff.2 c5825
  refine cf <| sk <| sr <| sG (o_alloc Z27 ZL27) fun g5830 => dt <|
   VC.join11 (fun (v6505 : Value) (l6506 : List ByteArray) (v6508 : Value) (l6509 : List S55) (i6510 : Int) (i6511 : Int) (i6512 : Int) (v6514 : Value) (l6515 : List ByteArray) (v6517 : Value) (l6518 : List ByteArray) => ⟨94, [(1, pt g5035 0), (2, pt g5036 0), (3, iv 0), (4, pt g5830 0)], [.row v0_0 1 (l0_0.map enc_str), .row v0_1 2 (l0_1.map enc55)], [(g5830, 27, [v6505, v6508, iv i6510, iv i6511, iv i6512, v6514, v6517]), (g5036, 27, [sn, sn, iv 0, iv 0, iv 0, sn, sn]), (g5035, 25, [v0_0, v0_1])], [(v6505, 9, 1, l6506.map enc_str), (v6508, 56, 2, l6509.map enc55), (v6514, 9, 1, l6515.map enc_str), (v6517, 9, 1, l6518.map enc_str)]⟩) (fun (v6505 : Value) (l6506 : List ByteArray) (v6508 : Value) (l6509 : List S55) (i6510 : Int) (i6511 : Int) (i6512 : Int) (v6514 : Value) (l6515 : List ByteArray) (v6517 : Value) (l6518 : List ByteArray) => journal_Open.j7 k l0_0 l0_1 l6506 l6509 i6510 i6511 i6512 l6515 l6518 = some (r1, r2, r3, r4, r5, r6, r7, r8)) ?_ ?_
  · refine sr <| va (op_fieldAddr FI25_0 rfl (add_at _ _ _)) <| va (op_load 2 1 rfl rfl TI22 rfl (by decide)) <| ?_
    replace h := iN h
    obtain ⟨c6312, h⟩ := h
    refine sG (o_slice (m := l0_0.length) 0 0 2 lenm cutm Try.underlying22 TI9 rfl rfl ⟨rfl, ⟨_, _, rfl, (by decide), rfl⟩, Nat.zero_le _, tN (a := (2 : Int)) (b := (l0_0.length : Int)) rfl rfl c6312⟩) fun v6314 => va (op_len (m := ((l0_0.take 2).drop 0).length) 0 lenm Try.underlying22 rfl rfl) <|
     vm rfl <| dt <| VC.block <| VC.nilRow' 9 1 <| VC.nilRow' 56 2 <| VC.nilRow' 9 1 <| VC.nilRow' 9 1 <|
     VC.loop12 (fun (i6370 : Int) (v6372 : Value) (l6373 : List ByteArray) (v6376 : Value) (l6377 : List S55) (i6379 : Int) (i6380 : Int) (i6381 : Int) (v6383 : Value) (l6384 : List ByteArray) (v6387 : Value) (l6388 : List ByteArray) => ⟨94, [(1, pt g5035 0), (2, pt g5036 0), (3, iv 0), (4, pt g5830 0), (30, v6314), (31, iv (((l0_0.take 2).drop 0).length : Int)), (32, iv i6370)], [.row v6314 1 (((l0_0.take 2).drop 0).map enc_str), .row v0_0 1 (l0_0.map enc_str), .row v0_1 2 (l0_1.map enc55)], [(g5830, 27, [v6372, v6376, iv i6379, iv i6380, iv i6381, v6383, v6387]), (g5036, 27, [sn, sn, iv 0, iv 0, iv 0, sn, sn]), (g5035, 25, [v0_0, v0_1])], [(v6372, 9, 1, l6373.map enc_str), (v6376, 56, 2, l6377.map enc55), (v6383, 9, 1, l6384.map enc_str), (v6387, 9, 1, l6388.map enc_str)]⟩) (fun (ml8 : Nat) (i6370 : Int) (v6372 : Value) (l6373 : List ByteArray) (v6376 : Value) (l6377 : List S55) (i6379 : Int) (i6380 : Int) (i6381 : Int) (v6383 : Value) (l6384 : List ByteArray) (v6387 : Value) (l6388 : List ByteArray) => journal_Open.l8 k l0_0 l0_1 ml8 i6370 l6373 l6377 i6379 i6380 i6381 l6384 l6388 = some (r1, r2, r3, r4, r5, r6, r7, r8)) k 0 sn ([] : List ByteArray) sn ([] : List S55) 0 0 0 sn ([] : List ByteArray) sn ([] : List ByteArray) [0, 1, 2] [3, 2, 1, 0] h ⟨rfl, ⟨rfl, rfl, rfl, rfl, rfl, rfl, rfl, trivial⟩, ⟨⟨0, rfl⟩, ⟨1, rfl⟩, ⟨2, rfl⟩, trivial⟩, rfl, by decide, rfl, by decide⟩ (by intros; simp [journal_Open.l8]) <|
     ?_
    clear h
    intro ml8 ihl8 i6370 v6372 l6373 v6376 l6377 i6379 i6380 i6381 v6383 l6384 v6387 l6388 h
    simp only [journal_Open.l8] at h
    refine sr <| VL.letter (decide (i6370 < (((l0_0.take 2).drop 0).length : Int))) fun b6447 hb6447 => va (op_cmp rfl rfl (congrArg some hb6447)) <| ds <| ?_
    replace h := iC h
    rcases h with ⟨c6449, h⟩ | ⟨c6449, h⟩
    · cases lT c6449 hb6447
      refine ct <| sk <| sq <| VC.block <| sr <| vm rfl <| ?_
      replace h := iN h
      obtain ⟨c6477, h⟩ := h
      replace h := bd h
      obtain ⟨x6478, hx6478, h⟩ := h
      refine VL.open (m := ((l0_0.take 2).drop 0).length) 0 lenm rfl (pos_get hx6478) <| ?_
      rintro ad6479 n6480 rfl
      refine va (op_indexAddr Try.underlying22 TI9 rfl rfl c6477 (lt_get c6477 hx6478) rfl) <| va (op_load_row (sz := 1) (o := 0) 0 i6370.toNat 1 rfl rfl (get_map hx6478) TI9 rfl (by decide)) <| vs rfl <| vs rfl <| nx <| vm rfl <| vm rfl <| va (op_fieldAddr FI25_0 rfl (add_at _ _ _)) <|
       va (op_load 2 1 rfl rfl TI22 rfl (by decide)) <| va (op_len (m := l0_0.length) 1 lenm Try.underlying22 rfl rfl) <| ?_
      replace h := bd h
      obtain ⟨⟨r6481, r6482, t6483, t6484, t6485, r6486, r6487, t6488⟩, hA6489, h⟩ := h
      dsimp only at h
      refine sC (o_call0 FO24 (journal_read.ok k i6370 x6478 (l0_0.length : Int) r6481 r6482 t6483 t6484 t6485 r6486 r6487 t6488 hA6489) rfl rfl (ltn rfl) (All_of .nil)) <| ?_
      rintro _ _ _ ⟨v6491, v6493, v6495, v6497, rfl, rfl, rfl⟩
      refine vm rfl <| va (op_extract rfl rfl) <| va (op_extract rfl rfl) <| sG (o_alloc Z27 ZL27) fun g6498 => s1 (o_store 0 7 rfl rfl rfl TI27 (.agg (.r 0 rfl (.r 1 rfl (.c rfl (.c rfl (.c rfl (.r 2 rfl (.r 3 rfl .nil)))))))) rfl (len rfl)) <| vs rfl <| nx <| vm rfl <| vm rfl <| ?_
      replace h := iC h
      rcases h with ⟨c6501, h⟩ | ⟨c6501, h⟩
      · obtain rfl := c6501
        refine va (op_fieldAddr FI27_1 rfl (add_at _ _ _)) <| va (op_load 0 1 rfl rfl TI3 rfl (by decide)) <| va (op_fieldAddr FI27_1 rfl (add_at _ _ _)) <| va (op_load 1 1 rfl rfl TI3 rfl (by decide)) <| VL.letter (decide (t6483 > i6379)) fun b6502 hb6502 => va (op_cmp rfl rfl (congrArg some hb6502)) <|
         va (op_pick rfl rfl) <| dt <| ?_
        replace h := iC h
        rcases h with ⟨c6503, h⟩ | ⟨c6503, h⟩
        · cases lT c6503 hb6502
          refine ct <| rg <| va (op_load 0 7 rfl rfl TI27 rfl (fun h => absurd h (by decide))) <| s1 (o_store 1 7 rfl rfl rfl TI27 (.agg (.r 0 rfl (.r 1 rfl (.c rfl (.c rfl (.c rfl (.r 2 rfl (.r 3 rfl .nil)))))))) rfl (len rfl)) <| dn <| VN.block <| tr <| va (op_ari64 rfl rfl rfl) <| vm rfl <| dn <|
           VN.again [1, 2, 3] [0, 1, 2, 3] (ihl8 (wrap64 (i6370 + 1)) v6491 r6481 v6493 r6482 t6483 t6484 t6485 v6495 r6486 v6497 r6487 h)
        cases lF c6503 hb6502
        refine cf <| VC.skip <| VN.block <| tr <| va (op_ari64 rfl rfl rfl) <| vm rfl <| dn <| VN.again [1, 2, 3] [4, 5, 6, 7] (ihl8 (wrap64 (i6370 + 1)) v6372 l6373 v6376 l6377 i6379 i6380 i6381 v6383 l6384 v6387 l6388 h)
      obtain rfl := Bool.eq_false_iff.2 c6501
      refine un rfl <| un rfl <| un rfl <| un rfl <| un rfl <| va (op_pick rfl rfl) <| dt <| cf <| VC.skip <| VN.block <| tr <| va (op_ari64 rfl rfl rfl) <| vm rfl <| dn <| VN.again [1, 2, 3] [4, 5, 6, 7] (ihl8 (wrap64 (i6370 + 1)) v6372 l6373 v6376 l6377 i6379 i6380 i6381 v6383 l6384 v6387 l6388 h)
    cases lF c6449 hb6447
    refine cf <| VC.exit <| VX.then <| VX.then <| VX.hit <| VN.meet11 v6372 l6373 v6376 l6377 i6379 i6380 i6381 v6383 l6384 v6387 l6388 [0, 1, 2] [0, 1, 2, 3] h
  clear h
  intro v6505 l6506 v6508 l6509 i6510 i6511 i6512 v6514 l6515 v6517 l6518 h
  unfold journal_Open.j7 at h
  refine sq <| sr <| va (op_fieldAddr FI27_1 rfl (add_at _ _ _)) <| va (op_load 0 1 rfl rfl TI3 rfl (by decide)) <| VL.letter ((i6510 == 0)) fun b6525 hb6525 => va (op_cmp rfl rfl (congrArg some hb6525)) <| dt <| ?_
  replace h := iC h
  rcases h with ⟨c6526, h⟩ | ⟨c6526, h⟩
  · obtain rfl : b6525 = true := hb6525.symm.trans (beq_iff_eq.2 c6526)
    refine ct <| sr <| va (op_build (vals := []) (vcs := []) (cells := [sn, sn, iv 0, iv 0, iv 0, sn, sn]) SI27 rfl .nil (by kernel_rfl)) <| s1 (o_store 1 7 rfl rfl rfl TI27 (.agg (.of rfl)) rfl (len rfl)) <| vs rfl <| dt <|
     VC.ret <| VR.then <| ?_
    simp only [Option.some.injEq, Prod.mk.injEq] at h
    obtain ⟨rfl, rfl, rfl, rfl, rfl, rfl, rfl, rfl⟩ := h
    exact VR.nilFact' 1 <| VR.nilFact' 2 <| VR.nilRow' 9 1 <| VR.nilRow' 9 1 <| rf [.cell 2 27, .tmp 3] [1, 0] (.cell 1 rfl rfl TI27 (fun h => absurd h (by decide)) (.tmp rfl .nil)) ⟨sn, sn, sn, sn, rfl, rfl, rfl⟩
  obtain rfl : b6525 = false := hb6525.symm.trans (beq_eq_false_iff_ne.2 c6526)
  refine cf <| sk <| sr <| va (op_fieldAddr FI25_0 rfl (add_at _ _ _)) <| va (op_load 2 1 rfl rfl TI22 rfl (by decide)) <| va (op_len (m := l0_0.length) 0 lenm Try.underlying22 rfl rfl) <| va (op_fieldAddr FI27_2 rfl (add_at _ _ _)) <| va (op_load 0 1 rfl rfl TI3 rfl (by decide)) <| ?_
  replace h := bd h
  obtain ⟨t6531, hA6532, h⟩ := h
  refine sC (o_call0 FO25 (journal_begin.ok (l0_0.length : Int) i6511 t6531 hA6532) rfl rfl (ltn rfl) (All_of .nil)) <| ?_
  rintro _ _ _ ⟨rfl, rfl, rfl⟩
  refine vs rfl <| dt <| ?_
  replace h := iN h
  obtain ⟨c6533, h⟩ := h
  replace h := iN h
  obtain ⟨c6534, h⟩ := h
  replace h := iN h
  obtain ⟨c6535, h⟩ := h
  replace h := iN h
  obtain ⟨c6536, h⟩ := h
  replace h := bd h
  obtain ⟨r6539, hA6540, h⟩ := h
  replace h := iN h
  obtain ⟨c6541, h⟩ := h
  replace h := iN h
  obtain ⟨c6542, h⟩ := h
  replace h := bd h
  obtain ⟨⟨r6543, t6544⟩, hA6545, h⟩ := h
  dsimp only at h
  refine VC.join1 (fun (v6547 : Value) => ⟨94, [(1, pt g5035 0), (2, pt g5036 0), (3, iv 0), (4, pt g5830 0), (10, v6547), (11, iv t6544)], [.row v0_0 1 (l0_0.map enc_str), .row v0_1 2 (l0_1.map enc55)], [(g5830, 27, [v6505, v6508, iv i6510, iv i6511, iv i6512, v6514, v6517]), (g5036, 27, [sn, sn, iv 0, iv 0, iv 0, sn, sn]), (g5035, 25, [v0_0, v0_1])], [(v6547, 9, 1, r6543.map enc_str), (v6505, 9, 1, l6506.map enc_str), (v6508, 56, 2, l6509.map enc55), (v6514, 9, 1, l6515.map enc_str), (v6517, 9, 1, l6518.map enc_str)]⟩) (fun (v6547 : Value) => True) ?_ ?_
  · refine dw ⟨0, [], [.row v0_0 1 (l0_0.map enc_str)], [(g5830, 27, [v6505, v6508, iv i6510, iv i6511, iv i6512, v6514, v6517]), (g5035, 25, [v0_0, v0_1])], []⟩ 21 <| av 0 1 rfl (op_fieldAddr FI25_0 rfl (add_at _ _ _)) <| av 1 3 rfl (op_load 1 1 rfl rfl TI22 rfl (by decide)) <|
     av 2 7 rfl (mv rfl) <| av 3 15 rfl (mv rfl) <| av 4 31 rfl (op_fieldAddr FI25_0 rfl (add_at _ _ _)) <| av 5 63 rfl (op_load 1 1 rfl rfl TI22 rfl (by decide)) <| av 6 127 rfl (op_len (m := l0_0.length) 0 lenm Try.underlying22 rfl rfl) <| av 7 255 rfl (op_ari64 rfl rfl rfl) <|
     av 8 511 rfl (op_quo rfl rfl (by decide) rfl) <| av 9 1023 rfl (op_ari64 rfl rfl rfl) <|
     VA.cut (i := 10) (listed' := LB 21 2047) rfl (m := l0_0.length) 0 t6531.toNat ((wrap64 (t6531 + (IntKind.i64.wrap ((wrap64 ((l0_0.length : Int) - 2)).tdiv 2)))).toNat) lenm cutm Try.underlying22 TI9 rfl rfl ⟨⟨_, _, rfl, c6533, rfl⟩, ⟨_, _, rfl, c6534, rfl⟩, tN (a := t6531) (b := (wrap64 (t6531 + (IntKind.i64.wrap ((wrap64 ((l0_0.length : Int) - 2)).tdiv 2))))) rfl rfl c6536, tN (a := (wrap64 (t6531 + (IntKind.i64.wrap ((wrap64 ((l0_0.length : Int) - 2)).tdiv 2))))) (b := (l0_0.length : Int)) rfl rfl c6535⟩ (ltn rfl) rfl (by kernel_rfl) (by kernel_rfl) (by kernel_rfl) (by kernel_rfl) ⟨⟨⟨0, rfl⟩, trivial⟩, ⟨⟨0, rfl⟩, ⟨2, rfl⟩, trivial⟩, trivial⟩ (fun _ _ _ _ h => h) <|
     ?_
    intro v6538
    refine av 12 6143 rfl (op_fieldAddr FI27_3 rfl (add_at _ _ _)) <| av 13 14335 rfl (op_load 0 1 rfl rfl TI3 rfl (by decide)) <|
     aC 11 16383 rfl (o_call_b0 FO27 (strings_Join.ok ((l0_0.take ((wrap64 (t6531 + (IntKind.i64.wrap ((wrap64 ((l0_0.length : Int) - 2)).tdiv 2)))).toNat)).drop t6531.toNat) (⟨#[]⟩ : ByteArray) v6538 r6539 hA6540) rfl rfl (ltn rfl) (All_of (.cons (.inl (mG 0 rfl)) .nil)) (by rintro _ _ _ ⟨rfl, rfl, rfl⟩; rfl)) <|
     ?_
    rintro _ _ _ ⟨rfl, rfl, rfl⟩
    refine ⟨⟨⟨⟨1, rfl⟩, trivial⟩, ⟨⟨0, rfl⟩, ⟨2, rfl⟩, trivial⟩, trivial⟩, ?_⟩
    refine av 14 32767 rfl (op_sliceS 0 i6512.toNat Try.underlying9 rfl ⟨rfl, ⟨_, _, rfl, c6541, rfl⟩, Nat.zero_le _, tN (a := i6512) (b := (r6539.size : Int)) rfl rfl c6542⟩ rfl) <|
     aC 15 65535 rfl (o_call0 FO26 (frame_All.ok k (r6539.extract 0 i6512.toNat) r6543 t6544 hA6545) rfl rfl (ltn rfl) (All_of .nil)) <| ?_
    rintro _ _ _ ⟨v6547, rfl, rfl, rfl⟩
    refine ⟨⟨⟨⟨1, rfl⟩, trivial⟩, ⟨⟨0, rfl⟩, ⟨2, rfl⟩, trivial⟩, trivial⟩, ?_⟩
    exact VA.more ⟨0, [], [.row v0_0 1 (l0_0.map enc_str)], [(g5830, 27, [v6505, v6508, iv i6510, iv i6511, iv i6512, v6514, v6517]), (g5035, 25, [v0_0, v0_1])], [(v6547, 9, 1, r6543.map enc_str)]⟩ ⟨⟨⟨0, rfl⟩, trivial⟩, ⟨⟨0, rfl⟩, ⟨1, rfl⟩, trivial⟩, trivial⟩ <|
     av 16 131071 rfl (mv rfl) <| av 17 262143 rfl (op_extract rfl rfl) <| av 18 524287 rfl (op_extract rfl rfl) <| av 19 1048575 rfl (ag rfl) <| av 20 2097151 rfl (ag rfl) <| ad <| VN.meet1 v6547 [0, 1, 2] [0, 1, 2, 3, 4] trivial
  intro v6547 _
  refine sq <| sr <| vm rfl <| VL.letter ((t6544 != 0)) fun b6554 hb6554 => va (op_cmp rfl rfl (congrArg some hb6554)) <| dt <| ?_
  replace h := iC h
  rcases h with ⟨c6555, h⟩ | ⟨c6555, h⟩
  · obtain rfl : b6554 = false := hb6554.symm.trans (bne_eq_false_iff_eq.2 c6555)
    refine cf <| sk <| sr <| va (op_load 2 2 rfl rfl TI25 rfl (fun h => absurd h (by decide))) <| vm rfl <| va (op_fieldAddr FI27_0 rfl (add_at _ _ _)) <| s1 (o_store 0 2 rfl rfl rfl TI25 (.agg (.f 0 rfl (.f 1 rfl .nil))) rfl (len rfl)) <| va (op_fieldAddr FI27_5 rfl (add_at _ _ _)) <|
     s1 (o_store 0 1 rfl rfl rfl TI22 (.r 0 rfl) rfl (len rfl)) <| nx <| va (op_load 0 7 rfl rfl TI27 rfl (fun h => absurd h (by decide))) <| s1 (o_store 1 7 rfl rfl rfl TI27 (.agg (.f 0 rfl (.f 1 rfl (.c rfl (.c rfl (.c rfl (.r 3 rfl (.r 0 rfl .nil)))))))) rfl (len rfl)) <| vs rfl <| dt <| VC.ret <| ?_
    simp only [Option.some.injEq, Prod.mk.injEq] at h
    obtain ⟨rfl, rfl, rfl, rfl, rfl, rfl, rfl, rfl⟩ := h
    exact rf [.cell 2 27, .tmp 3] [3, 0] (.cell 1 rfl rfl TI27 (fun h => absurd h (by decide)) (.tmp rfl .nil)) ⟨v0_0, v0_1, v6514, v6547, rfl, rfl, rfl⟩
  obtain rfl : b6554 = true := hb6554.symm.trans (bne_iff_ne.2 c6555)
  refine ct <| sr <| va (op_build (vals := []) (vcs := []) (cells := [sn, sn, iv 0, iv 0, iv 0, sn, sn]) SI27 rfl .nil (by kernel_rfl)) <| vm rfl <| s1 (o_store 1 7 rfl rfl rfl TI27 (.agg (.of rfl)) rfl (len rfl)) <| vs rfl <|
   dt <| VC.ret <| VR.then <| ?_
  simp only [Option.some.injEq, Prod.mk.injEq] at h
  obtain ⟨rfl, rfl, rfl, rfl, rfl, rfl, rfl, rfl⟩ := h
  exact VR.nilFact' 1 <| VR.nilFact' 2 <| VR.nilRow' 9 1 <| VR.nilRow' 9 1 <| rf [.cell 2 27, .tmp 3] [1, 0] (.cell 1 rfl rfl TI27 (fun h => absurd h (by decide)) (.tmp rfl .nil)) ⟨sn, sn, sn, sn, rfl, rfl, rfl⟩

theorem tarryref03_Right.ok (k : Nat) (l0_0 : List ByteArray) (l0_1 : List S55) (v0_0 : Value) (v0_1 : Value) (r1 : Bool) (h : tarryref03_Right.f k l0_0 l0_1 = some r1) :
    VCalls Try.prog 28 [.agg #[v0_0, v0_1]] [.row v0_0 1 (l0_0.map enc_str), .row v0_1 2 (l0_1.map enc55)] (fun v G own => v = .bool r1 ∧ G = [] ∧ own = []) := by
  refine VCalls.intro Try.func28 rfl (len rfl) fun E hC hW hD hU => ?_
  unfold tarryref03_Right.f at h
  refine sr <| sG (o_box rfl (.agg (.f 0 rfl (.f 1 rfl .nil)))) fun g6584 => vs rfl <| ds <| sr <| va (op_fieldAddr FI25_0 rfl (add_at _ _ _)) <| va (op_load 0 1 rfl rfl TI22 rfl (by decide)) <| va (op_len (m := l0_0.length) 0 lenm Try.underlying22 rfl rfl) <| vm rfl <| dt <| VC.block <|
   VC.loop1 (fun (i6642 : Int) => ⟨59, [(1, pt g6584 0), (2, .bool false), (8, v0_0), (9, iv (l0_0.length : Int)), (10, iv i6642)], [.row v0_0 1 (l0_0.map enc_str), .row v0_1 2 (l0_1.map enc55)], [(g6584, 25, [v0_0, v0_1])], []⟩) (fun (ml1 : Nat) (i6642 : Int) => tarryref03_Right.l1 k l0_0 l0_1 ml1 i6642 = some r1) k 0 [0] [] h ⟨rfl, ⟨rfl, rfl, rfl, rfl, rfl, trivial⟩, ⟨⟨0, rfl⟩, ⟨1, rfl⟩, trivial⟩, rfl, by decide, rfl, by decide⟩ (by intros; simp [tarryref03_Right.l1]) <|
   ?_
  clear h
  intro ml1 ihl1 i6642 h
  simp only [tarryref03_Right.l1] at h
  refine sr <| VL.letter (decide (i6642 < (l0_0.length : Int))) fun b6658 hb6658 => va (op_cmp rfl rfl (congrArg some hb6658)) <| ds <| ?_
  replace h := iC h
  rcases h with ⟨c6888, h⟩ | ⟨c6888, h⟩
  · cases lT c6888 hb6658
    refine ct <| sk <| sq <| VC.block <| sr <| ?_
    replace h := iN h
    obtain ⟨c6895, h⟩ := h
    replace h := bd h
    obtain ⟨x6896, hx6896, h⟩ := h
    refine VL.open (m := l0_0.length) 0 lenm rfl (pos_get hx6896) <| ?_
    rintro ad6897 n6898 rfl
    refine va (op_indexAddr Try.underlying22 TI9 rfl rfl c6895 (lt_get c6895 hx6896) rfl) <| va (op_load_row (sz := 1) (o := 0) 0 i6642.toNat 1 rfl rfl (get_map hx6896) TI9 rfl (by decide)) <| vs rfl <| nx <| vm rfl <| va (op_lens Try.underlying9 rfl) <|
     VL.letter (((x6896.size : Int) != 64)) fun b6899 hb6899 => va (op_cmp rfl rfl (congrArg some hb6899)) <| dt <| ?_
    replace h := iC h
    rcases h with ⟨c6900, h⟩ | ⟨c6900, h⟩
    · obtain rfl : b6899 = false := hb6899.symm.trans (bne_eq_false_iff_eq.2 c6900)
      refine cf <| VC.skip <| VN.block <| tr <| va (op_ari64 rfl rfl rfl) <| vm rfl <| dn <| VN.again [0] [] (ihl1 (wrap64 (i6642 + 1)) h)
    obtain rfl : b6899 = true := hb6899.symm.trans (bne_iff_ne.2 c6900)
    refine ct <| sr <| vs rfl <| dt <| VC.ret <| VR.block <| VR.then <| VR.then <| VR.block <| VR.then <| ?_
    obtain rfl := Option.some.inj h
    exact rq 2 rfl ⟨rfl, rfl, rfl⟩
  cases lF c6888 hb6658
  refine cf <| VC.exit <| VX.then <| VX.then <| VX.hit <| ts <| sr <| va (op_fieldAddr FI25_1 rfl (add_at _ _ _)) <| va (op_load 0 1 rfl rfl TI23 rfl (by decide)) <| va (op_len (m := l0_1.length) 1 lenm Try.underlying23 rfl rfl) <| vm rfl <| dt <| VC.block <|
   VC.loop1 (fun (i7038 : Int) => ⟨59, [(1, pt g6584 0), (2, .bool false), (19, v0_1), (20, iv (l0_1.length : Int)), (21, iv i7038)], [.row v0_1 2 (l0_1.map enc55), .row v0_0 1 (l0_0.map enc_str)], [(g6584, 25, [v0_0, v0_1])], []⟩) (fun (ml5 : Nat) (i7038 : Int) => tarryref03_Right.l5 k l0_0 l0_1 ml5 i7038 = some r1) k 0 [0] [] h ⟨rfl, ⟨rfl, rfl, rfl, rfl, rfl, trivial⟩, ⟨⟨1, rfl⟩, ⟨0, rfl⟩, trivial⟩, rfl, by decide, rfl, by decide⟩ (by intros; simp [tarryref03_Right.l5]) <|
   ?_
  clear h
  intro ml5 ihl5 i7038 h
  simp only [tarryref03_Right.l5] at h
  refine sr <| VL.letter (decide (i7038 < (l0_1.length : Int))) fun b7074 hb7074 => va (op_cmp rfl rfl (congrArg some hb7074)) <| ds <| ?_
  replace h := iC h
  rcases h with ⟨c7086, h⟩ | ⟨c7086, h⟩
  · cases lT c7086 hb7074
    refine ct <| sk <| sq <| VC.block <| sr <| ?_
    replace h := iN h
    obtain ⟨c7103, h⟩ := h
    replace h := bd h
    obtain ⟨x7104, hx7104, h⟩ := h
    refine VL.open (m := l0_1.length) 0 lenm rfl (pos_get hx7104) <| ?_
    rintro ad7105 n7106 rfl
    refine va (op_indexAddr Try.underlying23 TI56 rfl rfl c7103 (lt_get c7103 hx7104) rfl) <| va (op_load_row (sz := 2) (o := 0) 0 i7038.toNat 2 rfl rfl (get_map hx7104) TI56 rfl (fun h => absurd h (by decide))) <|
     sG (o_alloc Z56 ZL56) fun g7107 => s1 (o_store 0 2 rfl rfl rfl TI56 (.agg (.of rfl)) rfl (len rfl)) <| nx <| va (op_fieldAddr FI56_0 rfl (add_at _ _ _)) <| va (op_load 0 1 rfl rfl TI3 rfl (by decide)) <|
     VL.letter (decide (x7104.f0 < 0)) fun b7113 hb7113 => va (op_cmp rfl rfl (congrArg some hb7113)) <| vm rfl <| ?_
    replace h := iC h
    rcases h with ⟨c7114, h⟩ | ⟨c7114, h⟩
    · cases lT c7114 hb7113
      refine un rfl <| un rfl <| un rfl <| un rfl <| un rfl <| un rfl <| va (op_pick rfl rfl) <| vm rfl <| un rfl <| un rfl <| un rfl <| un rfl <| va (op_pick rfl rfl) <| dt <| ct <| sr <| vs rfl <| dt <| VC.ret <| VR.block <| VR.then <| VR.then <| VR.block <| VR.then <| ?_
      obtain rfl := Option.some.inj h
      exact rq 2 rfl ⟨rfl, rfl, rfl⟩
    cases lF c7114 hb7113
    refine va (op_fieldAddr FI56_0 rfl (add_at _ _ _)) <| va (op_load 0 1 rfl rfl TI3 rfl (by decide)) <| va (op_fieldAddr FI25_0 rfl (add_at _ _ _)) <| va (op_load 1 1 rfl rfl TI22 rfl (by decide)) <| va (op_len (m := l0_0.length) 1 lenm Try.underlying22 rfl rfl) <|
     VL.letter (decide (x7104.f0 ≥ (l0_0.length : Int))) fun b7115 hb7115 => va (op_cmp rfl rfl (congrArg some hb7115)) <| va (op_pick rfl rfl) <| vm rfl <| ?_
    replace h := iC h
    rcases h with ⟨c7116, h⟩ | ⟨c7116, h⟩
    · cases lT c7116 hb7115
      refine un rfl <| un rfl <| un rfl <| un rfl <| va (op_pick rfl rfl) <| dt <| ct <| sr <| vs rfl <| dt <| VC.ret <| VR.block <| VR.then <| VR.then <| VR.block <| VR.then <| ?_
      obtain rfl := Option.some.inj h
      exact rq 2 rfl ⟨rfl, rfl, rfl⟩
    cases lF c7116 hb7115
    refine va (op_fieldAddr FI56_1 rfl (add_at _ _ _)) <| va (op_load 0 1 rfl rfl TI9 rfl (by decide)) <| va (op_lens Try.underlying9 rfl) <| VL.letter (((x7104.f1.size : Int) != 64)) fun b7117 hb7117 => va (op_cmp rfl rfl (congrArg some hb7117)) <| va (op_pick rfl rfl) <| dt <| ?_
    replace h := iC h
    rcases h with ⟨c7118, h⟩ | ⟨c7118, h⟩
    · obtain rfl : b7117 = false := hb7117.symm.trans (bne_eq_false_iff_eq.2 c7118)
      refine cf <| VC.skip <| VN.block <| tr <| va (op_ari64 rfl rfl rfl) <| vm rfl <| dn <| VN.again [1] [] (ihl5 (wrap64 (i7038 + 1)) h)
    obtain rfl : b7117 = true := hb7117.symm.trans (bne_iff_ne.2 c7118)
    refine ct <| sr <| vs rfl <| dt <| VC.ret <| VR.block <| VR.then <| VR.then <| VR.block <| VR.then <| ?_
    obtain rfl := Option.some.inj h
    exact rq 2 rfl ⟨rfl, rfl, rfl⟩
  cases lF c7086 hb7074
  refine cf <| VC.exit <| VX.then <| VX.then <| VX.hit <| tx <| va (op_fieldAddr FI25_0 rfl (add_at _ _ _)) <| va (op_load 0 1 rfl rfl TI22 rfl (by decide)) <| va (op_len (m := l0_0.length) 1 lenm Try.underlying22 rfl rfl) <|
   VL.letter (decide ((l0_0.length : Int) > 0)) fun b7124 hb7124 => va (op_cmp rfl rfl (congrArg some hb7124)) <| vm rfl <| ?_
  replace h := iC h
  rcases h with ⟨c7125, h⟩ | ⟨c7125, h⟩
  · cases lT c7125 hb7124
    refine va (op_fieldAddr FI25_0 rfl (add_at _ _ _)) <| va (op_load 0 1 rfl rfl TI22 rfl (by decide)) <| va (op_len (m := l0_0.length) 1 lenm Try.underlying22 rfl rfl) <| VL.letter (decide ((l0_0.length : Int) ≤ 512)) fun b7126 hb7126 => va (op_cmp rfl rfl (congrArg some hb7126)) <|
     va (op_pick rfl rfl) <| vm rfl <| ?_
    replace h := iC h
    rcases h with ⟨c7127, h⟩ | ⟨c7127, h⟩
    · cases lT c7127 hb7126
      refine va (op_fieldAddr FI25_1 rfl (add_at _ _ _)) <| va (op_load 0 1 rfl rfl TI23 rfl (by decide)) <| va (op_len (m := l0_1.length) 0 lenm Try.underlying23 rfl rfl) <| VL.letter (decide ((l0_1.length : Int) ≤ 64)) fun b7128 hb7128 => va (op_cmp rfl rfl (congrArg some hb7128)) <|
       va (op_pick rfl rfl) <| vs rfl <| dt <| VC.ret <| ?_
      obtain rfl := Option.some.inj h
      subst hb7128
      exact rq 2 rfl ⟨rfl, rfl, rfl⟩
    cases lF c7127 hb7126
    refine un rfl <| un rfl <| un rfl <| un rfl <| va (op_pick rfl rfl) <| vs rfl <| dt <| VC.ret <| ?_
    obtain rfl := Option.some.inj h
    exact rq 2 rfl ⟨rfl, rfl, rfl⟩
  cases lF c7125 hb7124
  refine un rfl <| un rfl <| un rfl <| un rfl <| va (op_pick rfl rfl) <| vm rfl <| un rfl <| un rfl <| un rfl <| un rfl <| va (op_pick rfl rfl) <| vs rfl <| dt <| VC.ret <| ?_
  obtain rfl := Option.some.inj h
  exact rq 2 rfl ⟨rfl, rfl, rfl⟩

theorem tarryref05_number.ok (k : Nat) (a0 : ByteArray)  (r1 : Int) (h : tarryref05_number.f k a0 = some r1) :
    VCalls Try.prog 60 [.string a0] [] (fun v G own => v = iv r1 ∧ G = [] ∧ own = []) := by
  refine VCalls.intro Try.func60 rfl (len rfl) fun E hC hW hD hU => ?_
  unfold tarryref05_number.f at h
  refine sr <| vs rfl <| nx <| vs rfl <| ds <| sr <| vm rfl <| va (op_lens Try.underlying9 rfl) <| va (op_ari64 rfl rfl rfl) <| vs rfl <| dt <| VC.block <|
   VC.loop2 (fun (i7235 : Int) (i7236 : Int) => ⟨22, [(0, .string a0), (2, iv 0), (3, iv i7235), (4, iv i7236)], [], [], []⟩) (fun (ml1 : Nat) (i7235 : Int) (i7236 : Int) => tarryref05_number.l1 k a0 ml1 i7235 i7236 = some r1) k 0 (wrap64 ((a0.size : Int) - 1)) [] [] h ⟨rfl, ⟨rfl, rfl, rfl, rfl, trivial⟩, trivial, rfl, by decide, rfl, by decide⟩ (by intros; simp [tarryref05_number.l1]) <|
   ?_
  clear h
  intro ml1 ihl1 i7235 i7236 h
  simp only [tarryref05_number.l1] at h
  refine sq <| sr <| vm rfl <| VL.letter (decide (i7236 ≥ 0)) fun b7251 hb7251 => va (op_cmp rfl rfl (congrArg some hb7251)) <| dt <| ?_
  replace h := iC h
  rcases h with ⟨c7252, h⟩ | ⟨c7252, h⟩
  · cases lT c7252 hb7251
    refine ct <| sk <| sq <| VC.block <| sr <| vm rfl <| va (op_ari64 rfl rfl rfl) <| vm rfl <| vm rfl <| ?_
    replace h := iN h
    obtain ⟨c7257, h⟩ := h
    replace h := iN h
    obtain ⟨c7258, h⟩ := h
    refine va (op_indexS Try.underlying9 rfl rfl c7257 c7258 rfl) <| va (op_conv Try.underlying5 Try.underlying3 rfl (i64w _)) <| va (op_ari64 rfl rfl rfl) <| vs rfl <| nx <| vm rfl <|
     VL.letter (decide ((wrap64 ((wrap64 (256 * i7235)) + (wrap64 (bt a0 i7236)))) > 2199023255552)) fun b7259 hb7259 => va (op_cmp rfl rfl (congrArg some hb7259)) <| dt <| ?_
    replace h := iC h
    rcases h with ⟨c7260, h⟩ | ⟨c7260, h⟩
    · cases lT c7260 hb7259
      refine ct <| sr <| vs rfl <| dt <| VC.ret <| VR.block <| VR.then <| VR.then <| VR.block <| VR.then <| ?_
      obtain rfl := Option.some.inj h
      exact rq 2 rfl ⟨rfl, rfl, rfl⟩
    cases lF c7260 hb7259
    refine cf <| VC.skip <| VN.block <| tr <| vm rfl <| va (op_ari64 rfl rfl rfl) <| vs rfl <| dn <| VN.again [] [] (ihl1 (wrap64 ((wrap64 (256 * i7235)) + (wrap64 (bt a0 i7236)))) (wrap64 (i7236 - 1)) h)
  cases lF c7252 hb7251
  refine cf <| VC.exit <| VX.then <| VX.then <| VX.hit <| tx <| vm rfl <| vs rfl <| dt <| VC.ret <| ?_
  obtain rfl := Option.some.inj h
  exact rq 2 rfl ⟨rfl, rfl, rfl⟩

theorem tarryref05_Room.ok (a0 : Int)  (r1 : Int) (h : tarryref05_Room.f a0 = some r1) :
    VCalls Try.prog 61 [iv a0] [] (fun v G own => v = iv r1 ∧ G = [] ∧ own = []) := by
  refine VCalls.intro Try.func61 rfl (len rfl) fun E hC hW hD hU => ?_
  unfold tarryref05_Room.f at h
  refine sr <| vs rfl <| nx <| vm rfl <| va (op_ari64 rfl rfl rfl) <| va (op_quo rfl rfl (by decide) rfl) <| va (op_ari64 rfl rfl rfl) <| vs rfl <| dt <| VC.ret <| ?_
  obtain rfl := Option.some.inj h
  exact rq 2 rfl ⟨rfl, rfl, rfl⟩

end Go.Proofs.Ytipeglbeongfmaa.PJournalOpens
