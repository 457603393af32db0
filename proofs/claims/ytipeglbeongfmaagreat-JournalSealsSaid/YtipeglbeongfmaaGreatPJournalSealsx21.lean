/- Written by a program of this repo: what the program's functions do, each as a Lean function, shown of the loaded code; or a statement's row over that; no condition of its own. -/
import Derived.Test.YtipeglbeongfmaaGreatPJournalSealsx20
namespace Go.Proofs.YtipeglbeongfmaaGreat.PJournalSeals
open Go Go.RowKit Go.Proofs.YtipeglbeongfmaaGreatV
set_option linter.unusedVariables false
set_option linter.unusedSimpArgs false
set_option maxHeartbeats 4000000
set_option maxRecDepth 100000

theorem tarrylaw05_JournalSeals.ok (k : Nat) (l0_0 : List ByteArray) (l0_1 : List S71) (a0_2 : Int) (a0_3 : Int) (a0_4 : Int) (l0_5 : List ByteArray) (l0_6 : List ByteArray) (a1 : ByteArray) (v0_0 : Value) (v0_1 : Value) (v0_5 : Value) (v0_6 : Value) (r1 : Bool) (h : tarrylaw05_JournalSeals.f k l0_0 l0_1 a0_2 a0_3 a0_4 l0_5 l0_6 a1 = some r1) :
    VCalls Tryz.prog 3 [.agg #[v0_0, v0_1, iv a0_2, iv a0_3, iv a0_4, v0_5, v0_6], .string a1] [.row v0_0 1 (l0_0.map enc_str), .row v0_1 2 (l0_1.map enc71), .row v0_5 1 (l0_5.map enc_str), .row v0_6 1 (l0_6.map enc_str)] (fun v G own => v = .bool r1 ∧ G = [] ∧ own = []) := by
  refine VCalls.intro Tryz.func3 rfl (len rfl) fun E hC hW hD hU => ?_
  unfold tarrylaw05_JournalSeals.f at h
  refine sr <| sG (o_box rfl (.agg (.f 0 rfl (.f 1 rfl (.c rfl (.c rfl (.c rfl (.f 2 rfl (.f 3 rfl .nil))))))))) fun g5 => vs rfl <| dt <| ?_
  replace h := bd h
  obtain ⟨⟨r453, r454, t455, t456, t457, r458, r459⟩, hA460, h⟩ := h
  dsimp only at h
  replace h := iN h
  obtain ⟨c469, h⟩ := h
  replace h := iN h
  obtain ⟨c470, h⟩ := h
  refine VC.join4 (fun (v462 : Value) (v464 : Value) (v466 : Value) (v468 : Value) => ⟨186, [(1, .string (a1.extract 0 ((mn (a1.size : Int) 3002).toNat))), (2, pt g5 0), (4, .bool false)], [], [(g5, 27, [v462, v464, iv t455, iv t456, iv t457, v466, v468])], [(v462, 9, 1, r453.map enc_str), (v464, 72, 2, r454.map enc71), (v466, 9, 1, r458.map enc_str), (v468, 9, 1, r459.map enc_str)]⟩) (fun (v462 : Value) (v464 : Value) (v466 : Value) (v468 : Value) => True) ?_ ?_
  · refine VC.drawB ⟨0, [], [], [], []⟩ [7] ⟨0, [], [], [(g5, 27, [v0_0, v0_1, iv a0_2, iv a0_3, iv a0_4, v0_5, v0_6])], []⟩ (by kernel_rfl) rfl (by kernel_rfl) (n := 9) (listed := LB 9 0) <|
     VB.vb (i := 0) (listed' := LB 9 1) rfl (op_load 0 7 rfl rfl TI27 rfl (fun h => absurd h (by decide))) rfl (by kernel_rfl) (by kernel_rfl) (by kernel_rfl) (by kernel_rfl) (by kernel_rfl) (by kernel_rfl) (PartP.on ⟨trivial, trivial, trivial⟩ ⟨trivial, ⟨⟨0, rfl⟩, trivial⟩, trivial⟩) (fun _ _ _ h => h) <|
     bv 2 5 rfl (mv rfl) <| bv 3 13 rfl (mv rfl) <| bv 4 29 rfl (op_lens Tryz.underlying9 rfl) <| bv 5 61 rfl (op_min rfl rfl) <|
     bv 6 125 rfl (op_sliceS 0 ((mn (a1.size : Int) 3002).toNat) Tryz.underlying9 rfl ⟨rfl, ⟨_, _, rfl, c469, rfl⟩, Nat.zero_le _, tN (a := (mn (a1.size : Int) 3002)) (b := (a1.size : Int)) rfl rfl c470⟩ rfl) <|
     VB.oneC (i := 1) (listed' := LB 9 127) (by kernel_rfl) rfl (o_call0 FO5 (tarrylaw05_few.ok k l0_0 l0_1 a0_2 a0_3 a0_4 l0_5 l0_6 v0_0 v0_1 v0_5 v0_6 r453 r454 t455 t456 t457 r458 r459 hA460) rfl rfl (ltn rfl) (All_of (.cons (mG 0 rfl) (.cons (mG 1 rfl) (.cons (mG 2 rfl) (.cons (mG 3 rfl) .nil)))))) rfl (by kernel_rfl) <|
     ?_
    rintro _ _ _ ⟨v462, v464, v466, v468, rfl, rfl, rfl⟩
    refine ⟨(PartP.on ⟨trivial, trivial, trivial⟩ ⟨trivial, ⟨⟨0, rfl⟩, trivial⟩, trivial⟩), ?_⟩
    exact VB.one1 (i := 7) (listed' := LB 9 255) (by kernel_rfl) rfl (o_store 0 7 rfl rfl rfl TI27 (.agg (.r 0 rfl (.r 1 rfl (.c rfl (.c rfl (.c rfl (.r 2 rfl (.r 3 rfl .nil)))))))) rfl (len rfl)) rfl (by kernel_rfl) (PartP.off (by kernel_rfl) ⟨trivial, trivial, trivial⟩) <| bv 8 511 rfl (ag rfl) <|
     VB.done (by kernel_rfl) <| VN.meet4 v462 v464 v466 v468 [0] [0, 1, 2, 3] trivial
  intro v462 v464 v466 v468 _
  refine sr <| va (op_load 0 7 rfl rfl TI27 rfl (fun h => absurd h (by decide))) <| vm rfl <| VL.freezeRow' 0 rfl <| VL.freezeRow' 0 rfl <| VL.freezeRow' 0 rfl <| VL.freezeRow' 0 rfl <| ?_
  replace h := bd h
  obtain ⟨⟨r7114, r7115, t7116, t7117, t7118, r7119, r7120, t7121⟩, hA7122, h⟩ := h
  dsimp only at h
  refine sC (o_call0 FO6 (journal_Append.ok k r453 r454 t455 t456 t457 r458 r459 (a1.extract 0 ((mn (a1.size : Int) 3002).toNat)) v462 v464 v466 v468 r7114 r7115 t7116 t7117 t7118 r7119 r7120 t7121 hA7122) rfl rfl (ltn rfl) (All_of (.cons (mG 3 rfl) (.cons (mG 2 rfl) (.cons (mG 1 rfl) (.cons (mG 0 rfl) .nil)))))) <|
   ?_
  rintro _ _ _ ⟨v7124, v7126, v7128, v7130, rfl, rfl, rfl⟩
  refine vm rfl <| va (op_extract rfl rfl) <| va (op_extract rfl rfl) <| sG (o_alloc Z27 ZL27) fun g7131 => s1 (o_store 0 7 rfl rfl rfl TI27 (.agg (.f 0 rfl (.f 1 rfl (.c rfl (.c rfl (.c rfl (.f 2 rfl (.f 3 rfl .nil)))))))) rfl (len rfl)) <| vs rfl <| nx <|
   va (op_load 1 7 rfl rfl TI27 rfl (fun h => absurd h (by decide))) <| ?_
  replace h := bd h
  obtain ⟨⟨r8545, r8546, t8547, t8548, t8549, r8550, r8551, t8552⟩, hA8553, h⟩ := h
  dsimp only at h
  refine sC (o_call0 FO7 (journal_Commit.ok k r453 r454 t455 t456 t457 r458 r459 v462 v464 v466 v468 r8545 r8546 t8547 t8548 t8549 r8550 r8551 t8552 hA8553) rfl rfl (ltn rfl) (All_of (.cons (mG 7 rfl) (.cons (mG 6 rfl) (.cons (mG 5 rfl) (.cons (mG 4 rfl) .nil)))))) <| ?_
  rintro _ _ _ ⟨v8555, v8557, v8559, v8561, rfl, rfl, rfl⟩
  refine vm rfl <| va (op_extract rfl rfl) <| va (op_extract rfl rfl) <| sG (o_alloc Z27 ZL27) fun g8562 => s1 (o_store 0 7 rfl rfl rfl TI27 (.agg (.f 0 rfl (.f 1 rfl (.c rfl (.c rfl (.c rfl (.r 0 rfl (.r 1 rfl .nil)))))))) rfl (len rfl)) <| vs rfl <| nx <|
   va (op_load 2 7 rfl rfl TI27 rfl (fun h => absurd h (by decide))) <| vm rfl <| ?_
  replace h := bd h
  obtain ⟨⟨r8696, r8697, t8698, t8699, t8700, r8701, r8702, t8703⟩, hA8704, h⟩ := h
  dsimp only at h
  refine sC (o_call0 FO8 (journal_Compact.ok k r453 r454 t455 t456 t457 r458 r459 (a1.extract 0 ((mn (a1.size : Int) 3002).toNat)) v462 v464 v466 v468 r8696 r8697 t8698 t8699 t8700 r8701 r8702 t8703 hA8704) rfl rfl (ltn rfl) (All_of (.cons (mG 9 rfl) (.cons (mG 8 rfl) (.cons (mG 7 rfl) (.cons (mG 6 rfl) .nil)))))) <|
   ?_
  rintro _ _ _ ⟨v8706, v8708, v8710, v8712, rfl, rfl, rfl⟩
  refine vm rfl <| va (op_extract rfl rfl) <| va (op_extract rfl rfl) <| sG (o_alloc Z27 ZL27) fun g8713 => s1 (o_store 0 7 rfl rfl rfl TI27 (.agg (.f 0 rfl (.f 1 rfl (.c rfl (.c rfl (.c rfl (.r 0 rfl (.r 1 rfl .nil)))))))) rfl (len rfl)) <| vs rfl <| nx <|
   va (op_build (vals := []) (vcs := []) (cells := [sn, sn, iv 0, iv 0, iv 0, sn, sn]) SI27 rfl .nil (by kernel_rfl)) <| sG (o_alloc Z27 ZL27) fun g8714 => s1 (o_store 0 7 rfl rfl rfl TI27 (.agg (.of rfl)) rfl (len rfl)) <| ds <|
   sr <| ?_
  replace h := bd h
  obtain ⟨t8974, hA8975, h⟩ := h
  refine sC (o_call0 FO9 (tarrylaw05_alive.ok k t8974 hA8975) rfl rfl (ltn rfl) (All_of .nil)) <| ?_
  rintro _ _ _ ⟨rfl, rfl, rfl⟩
  replace h := iC h
  rcases h with ⟨c8976, h⟩ | ⟨c8976, h⟩
  · obtain rfl := c8976
    refine va (op_not rfl rfl) <| dt <| cf <| sk <| sq <|
     VC.join1 (fun (q34627 : Bool) => ⟨186, [(1, .string (a1.extract 0 ((mn (a1.size : Int) 3002).toNat))), (2, pt g5 0), (4, .bool false), (5, pt g7131 0), (6, iv t7121), (7, pt g8562 0), (8, iv t8552), (9, pt g8713 0), (10, iv t8703), (11, pt g8714 0), (46, .bool q34627)], [.row v8706 1 (r8696.map enc_str), .row v8708 2 (r8697.map enc71), .row v8555 1 (r8545.map enc_str), .row v8557 2 (r8546.map enc71), .row v7124 1 (r7114.map enc_str), .row v7126 2 (r7115.map enc71), .row v7128 1 (r7119.map enc_str), .row v7130 1 (r7120.map enc_str), .row v462 1 (r453.map enc_str), .row v464 2 (r454.map enc71), .row v466 1 (r458.map enc_str), .row v468 1 (r459.map enc_str)], [(g8714, 27, [sn, sn, iv 0, iv 0, iv 0, sn, sn]), (g8713, 27, [v8706, v8708, iv t8698, iv t8699, iv t8700, v8710, v8712]), (g8562, 27, [v8555, v8557, iv t8547, iv t8548, iv t8549, v8559, v8561]), (g7131, 27, [v7124, v7126, iv t7116, iv t7117, iv t7118, v7128, v7130]), (g5, 27, [v462, v464, iv t455, iv t456, iv t457, v466, v468])], [(v8710, 9, 1, r8701.map enc_str), (v8712, 9, 1, r8702.map enc_str), (v8559, 9, 1, r8550.map enc_str), (v8561, 9, 1, r8551.map enc_str)]⟩) (fun (q34627 : Bool) => tarrylaw05_JournalSeals.j2 k a1 r453 r454 r458 r459 r7114 r7115 r7119 r7120 r8545 r8546 r8550 r8551 r8696 r8697 r8701 r8702 t455 t456 t457 t7116 t7117 t7118 t7121 t8547 t8548 t8549 t8552 t8698 t8699 t8700 t8703 q34627 = some r1) ?_ ?_
    · refine rg <| va (op_load 4 7 rfl rfl TI27 rfl (fun h => absurd h (by decide))) <| ?_
      replace h := bd h
      obtain ⟨t34624, hA34625, h⟩ := h
      refine sC (o_call0 FO10 (tarryref05_Right.ok k r453 r454 t455 t456 t457 r458 r459 v462 v464 v466 v468 t34624 hA34625) rfl rfl (ltn rfl) (All_of (.cons (mG 11 rfl) (.cons (mG 10 rfl) (.cons (mG 9 rfl) (.cons (mG 8 rfl) .nil)))))) <| ?_
      rintro _ _ _ ⟨rfl, rfl, rfl⟩
      replace h := iC h
      rcases h with ⟨c34626, h⟩ | ⟨c34626, h⟩
      · obtain rfl := c34626
        refine va (op_not rfl rfl) <| dn <| VN.meet1 false [0, 1, 2, 3, 4] [0, 1, 2, 3] h ⟨rfl, ⟨rfl, rfl, rfl, rfl, rfl, rfl, rfl, rfl, rfl, rfl, rfl, trivial⟩, ⟨⟨0, rfl⟩, ⟨1, rfl⟩, ⟨2, rfl⟩, ⟨3, rfl⟩, ⟨4, rfl⟩, ⟨5, rfl⟩, ⟨6, rfl⟩, ⟨7, rfl⟩, ⟨11, rfl⟩, ⟨10, rfl⟩, ⟨9, rfl⟩, ⟨8, rfl⟩, trivial⟩, rfl, by decide, rfl, by decide⟩
      obtain rfl := Bool.eq_false_iff.2 c34626
      refine va (op_not rfl rfl) <| dn <| VN.meet1 true [0, 1, 2, 3, 4] [0, 1, 2, 3] h ⟨rfl, ⟨rfl, rfl, rfl, rfl, rfl, rfl, rfl, rfl, rfl, rfl, rfl, trivial⟩, ⟨⟨0, rfl⟩, ⟨1, rfl⟩, ⟨2, rfl⟩, ⟨3, rfl⟩, ⟨4, rfl⟩, ⟨5, rfl⟩, ⟨6, rfl⟩, ⟨7, rfl⟩, ⟨11, rfl⟩, ⟨10, rfl⟩, ⟨9, rfl⟩, ⟨8, rfl⟩, trivial⟩, rfl, by decide, rfl, by decide⟩
    clear h
    intro q34627 h
    unfold tarrylaw05_JournalSeals.j2 at h
    replace h := iC h
    rcases h with ⟨c34628, h⟩ | ⟨c34628, h⟩
    · obtain rfl := c34628
      refine ct <| sr <| vm rfl <| VL.letter ((t7121 == 1)) fun b34655 hb34655 => va (op_cmp rfl rfl (congrArg some hb34655)) <| vm rfl <| ?_
      replace h := iC h
      rcases h with ⟨c34656, h⟩ | ⟨c34656, h⟩
      · obtain rfl : b34655 = true := hb34655.symm.trans (beq_iff_eq.2 c34656)
        refine vm rfl <| VL.letter ((t8552 == 1)) fun b34657 hb34657 => va (op_cmp rfl rfl (congrArg some hb34657)) <| va (op_pick rfl rfl) <| vm rfl <| ?_
        replace h := iC h
        rcases h with ⟨c34658, h⟩ | ⟨c34658, h⟩
        · obtain rfl : b34657 = true := hb34657.symm.trans (beq_iff_eq.2 c34658)
          refine vm rfl <| VL.letter ((t8703 == 1)) fun b34659 hb34659 => va (op_cmp rfl rfl (congrArg some hb34659)) <| va (op_pick rfl rfl) <| vm rfl <| ?_
          replace h := iC h
          rcases h with ⟨c34660, h⟩ | ⟨c34660, h⟩
          · obtain rfl : b34659 = true := hb34659.symm.trans (beq_iff_eq.2 c34660)
            refine va (op_load 3 7 rfl rfl TI27 rfl (fun h => absurd h (by decide))) <| va (op_load 0 7 rfl rfl TI27 rfl (fun h => absurd h (by decide))) <| VL.nilFact' 1 <| VL.nilFact' 2 <| VL.nilFact' 1 <| VL.nilFact' 1 <| ?_
            replace h := bd h
            obtain ⟨t34665, hA34666, h⟩ := h
            refine sC (o_call0 FO11 (tarryref05_Like.ok k r7114 r7115 t7116 t7117 t7118 r7119 r7120 [] [] 0 0 0 [] [] v7124 v7126 v7128 v7130 sn sn sn sn t34665 hA34666) rfl rfl (ltn rfl) (All_of (.cons (mG 8 rfl) (.cons (mG 9 rfl) (.cons (mG 10 rfl) (.cons (mG 11 rfl) (.cons (mG 3 rfl) (.cons (mG 2 rfl) (.cons (mG 1 rfl) (.cons (mG 0 rfl) .nil)))))))))) <|
             ?_
            rintro _ _ _ ⟨rfl, rfl, rfl⟩
            refine va (op_pick rfl rfl) <| vm rfl <| ?_
            replace h := iC h
            rcases h with ⟨c34667, h⟩ | ⟨c34667, h⟩
            · obtain rfl := c34667
              refine va (op_load 2 7 rfl rfl TI27 rfl (fun h => absurd h (by decide))) <| va (op_load 0 7 rfl rfl TI27 rfl (fun h => absurd h (by decide))) <| VL.nilFact' 1 <| VL.nilFact' 2 <| VL.nilFact' 1 <| VL.nilFact' 1 <| ?_
              replace h := bd h
              obtain ⟨t34672, hA34673, h⟩ := h
              refine sC (o_call_b0 FO11 (tarryref05_Like.ok k r8545 r8546 t8547 t8548 t8549 r8550 r8551 [] [] 0 0 0 [] [] v8555 v8557 v8559 v8561 sn sn sn sn t34672 hA34673) rfl rfl (ltn rfl) (All_of (.cons (.inl (mG 10 rfl)) (.cons (.inl (mG 11 rfl)) (.cons (.inr (.inl ⟨_, mG 2 rfl, rfl⟩)) (.cons (.inr (.inl ⟨_, mG 3 rfl, rfl⟩)) (.cons (.inl (mG 3 rfl)) (.cons (.inl (mG 2 rfl)) (.cons (.inl (mG 1 rfl)) (.cons (.inl (mG 0 rfl)) .nil))))))))) (by rintro _ _ _ ⟨rfl, rfl, rfl⟩; rfl)) <|
               ?_
              rintro _ _ _ ⟨rfl, rfl, rfl⟩
              refine va (op_pick rfl rfl) <| vm rfl <| ?_
              replace h := iC h
              rcases h with ⟨c34674, h⟩ | ⟨c34674, h⟩
              · obtain rfl := c34674
                refine va (op_load 1 7 rfl rfl TI27 rfl (fun h => absurd h (by decide))) <| va (op_load 0 7 rfl rfl TI27 rfl (fun h => absurd h (by decide))) <| VL.nilFact' 1 <| VL.nilFact' 2 <| VL.nilFact' 1 <| VL.nilFact' 1 <| ?_
                replace h := bd h
                obtain ⟨t34679, hA34680, h⟩ := h
                refine sC (o_call_b0 FO11 (tarryref05_Like.ok k r8696 r8697 t8698 t8699 t8700 r8701 r8702 [] [] 0 0 0 [] [] v8706 v8708 v8710 v8712 sn sn sn sn t34679 hA34680) rfl rfl (ltn rfl) (All_of (.cons (.inl (mG 12 rfl)) (.cons (.inl (mG 13 rfl)) (.cons (.inr (.inl ⟨_, mG 0 rfl, rfl⟩)) (.cons (.inr (.inl ⟨_, mG 1 rfl, rfl⟩)) (.cons (.inl (mG 3 rfl)) (.cons (.inl (mG 2 rfl)) (.cons (.inl (mG 1 rfl)) (.cons (.inl (mG 0 rfl)) .nil))))))))) (by rintro _ _ _ ⟨rfl, rfl, rfl⟩; rfl)) <|
                 ?_
                rintro _ _ _ ⟨rfl, rfl, rfl⟩
                refine va (op_pick rfl rfl) <| vs rfl <| dt <| VC.ret <| VR.then <| ?_
                obtain rfl := Option.some.inj h
                exact rq 4 rfl ⟨rfl, rfl, rfl⟩
              obtain rfl := Bool.eq_false_iff.2 c34674
              refine un rfl <| un rfl <| un rfl <| va (op_pick rfl rfl) <| vs rfl <| dt <| VC.ret <| VR.then <| ?_
              cases h
            obtain rfl := Bool.eq_false_iff.2 c34667
            refine un rfl <| un rfl <| un rfl <| va (op_pick rfl rfl) <| vm rfl <| un rfl <| un rfl <| un rfl <| va (op_pick rfl rfl) <| vs rfl <| dt <| VC.ret <| VR.then <| ?_
            cases h
          obtain rfl : b34659 = false := hb34659.symm.trans (beq_eq_false_iff_ne.2 c34660)
          refine un rfl <| un rfl <| un rfl <| va (op_pick rfl rfl) <| vm rfl <| un rfl <| un rfl <| un rfl <| va (op_pick rfl rfl) <| vm rfl <| un rfl <| un rfl <| un rfl <| va (op_pick rfl rfl) <| vs rfl <| dt <| VC.ret <| VR.then <| ?_
          cases h
        obtain rfl : b34657 = false := hb34657.symm.trans (beq_eq_false_iff_ne.2 c34658)
        refine un rfl <| un rfl <| va (op_pick rfl rfl) <| vm rfl <| un rfl <| un rfl <| un rfl <| va (op_pick rfl rfl) <| vm rfl <| un rfl <| un rfl <| un rfl <| va (op_pick rfl rfl) <| vm rfl <| un rfl <| un rfl <| un rfl <| va (op_pick rfl rfl) <| vs rfl <| dt <| VC.ret <| VR.then <| ?_
        cases h
      obtain rfl : b34655 = false := hb34655.symm.trans (beq_eq_false_iff_ne.2 c34656)
      refine un rfl <| un rfl <| va (op_pick rfl rfl) <| vm rfl <| un rfl <| un rfl <| va (op_pick rfl rfl) <| vm rfl <| un rfl <| un rfl <| un rfl <| va (op_pick rfl rfl) <| vm rfl <| un rfl <| un rfl <| un rfl <| va (op_pick rfl rfl) <| vm rfl <| un rfl <| un rfl <| un rfl <| va (op_pick rfl rfl) <|
       vs rfl <| dt <| VC.ret <| VR.then <| ?_
      cases h
    obtain rfl := Bool.eq_false_iff.2 c34628
    refine cf <| sk <| sr <| sG (o_buildSlice (vals := []) (cells := #[]) (es := List.map enc_str ([] : List ByteArray)) Tryz.underlying22 TI9 Z9 rfl (by decide) (by decide) (by kernel_rfl) (by kernel_rfl) rfl (flat_map enc_str_ok _)) fun v34682 => va (op_fieldAddr FI27_4 rfl (add_at _ _ _)) <|
     va (op_load 4 1 rfl rfl TI22 rfl (by decide)) <| ?_
    replace h := iN h
    obtain ⟨c34683, h⟩ := h
    refine sG (o_append 0 appm Tryz.underlying22 EI9 rfl rfl rfl (.inl ⟨10, rfl⟩) (bndm c34683)) fun v34684 => vm rfl <|
     sG (o_buildSlice (vals := [(0, .string (a1.extract 0 ((mn (a1.size : Int) 3002).toNat)))]) (cells := #[.string (a1.extract 0 ((mn (a1.size : Int) 3002).toNat))]) (es := List.map enc_str ([a1.extract 0 ((mn (a1.size : Int) 3002).toNat)] : List ByteArray)) Tryz.underlying22 TI9 Z9 rfl (by decide) (by decide) (by kernel_rfl) (by kernel_rfl) rfl (flat_map enc_str_ok _)) fun v34687 => ?_
    replace h := iN h
    obtain ⟨c34688, h⟩ := h
    refine sG (o_append 1 appm Tryz.underlying22 EI9 rfl rfl rfl (.inr ⟨0, _, rfl⟩) (bndm c34688)) fun v34689 => vs rfl <| nx <| va (op_load 4 7 rfl rfl TI27 rfl (fun h => absurd h (by decide))) <|
     sG (o_alloc Z27 ZL27) fun g34691 => s1 (o_store 0 7 rfl rfl rfl TI27 (.agg (.f 8 rfl (.f 9 rfl (.c rfl (.c rfl (.c rfl (.f 10 rfl (.f 11 rfl .nil)))))))) rfl (len rfl)) <| nx <| vm rfl <| va (op_fieldAddr FI27_4 rfl (add_at _ _ _)) <| s1 (o_store 0 1 rfl rfl rfl TI22 (.r 1 rfl) rfl (len rfl)) <|
     dt <| VC.join0 (⟨186, [(1, .string (a1.extract 0 ((mn (a1.size : Int) 3002).toNat))), (2, pt g5 0), (4, .bool false), (7, pt g8562 0), (8, iv t8552), (9, pt g8713 0), (10, iv t8703), (11, pt g8714 0)], [.row v8706 1 (r8696.map enc_str), .row v8708 2 (r8697.map enc71), .row v8555 1 (r8545.map enc_str), .row v8557 2 (r8546.map enc71), .row v462 1 (r453.map enc_str), .row v464 2 (r454.map enc71), .row v466 1 (r458.map enc_str), .row v468 1 (r459.map enc_str)], [(g8714, 27, [sn, sn, iv 0, iv 0, iv 0, sn, sn]), (g8713, 27, [v8706, v8708, iv t8698, iv t8699, iv t8700, v8710, v8712]), (g8562, 27, [v8555, v8557, iv t8547, iv t8548, iv t8549, v8559, v8561]), (g5, 27, [v462, v464, iv t455, iv t456, iv t457, v466, v468])], [(v8710, 9, 1, r8701.map enc_str), (v8712, 9, 1, r8702.map enc_str), (v8559, 9, 1, r8550.map enc_str), (v8561, 9, 1, r8551.map enc_str)]⟩) (tarrylaw05_JournalSeals.j4 k a1 r453 r454 r458 r459 r8545 r8546 r8550 r8551 r8696 r8697 r8701 r8702 t455 t456 t457 t8547 t8548 t8549 t8552 t8698 t8699 t8700 t8703 = some r1) ?_ ?_
    · refine sr <| va (op_load 5 7 rfl rfl TI27 rfl (fun h => absurd h (by decide))) <| vm rfl <| ?_
      replace h := bd h
      obtain ⟨t36029, hA36030, h⟩ := h
      refine sC (o_call_b0 FO12 (tarryref05_Waits.ok k r453 r454 t455 t456 t457 r458 r459 ((([] : List ByteArray) ++ r458) ++ ([a1.extract 0 ((mn (a1.size : Int) 3002).toNat)] : List ByteArray)) v462 v464 v466 v468 v34689 t36029 hA36030) rfl rfl (ltn rfl) (All_of (.cons (.inl (mG 8 rfl)) (.cons (.inl (mG 9 rfl)) (.cons (.inl (mG 10 rfl)) (.cons (.inl (mG 11 rfl)) (.cons (.inr (.inl ⟨_, mG 1 rfl, rfl⟩)) .nil)))))) (by rintro _ _ _ ⟨rfl, rfl, rfl⟩; rfl)) <|
       ?_
      rintro _ _ _ ⟨rfl, rfl, rfl⟩
      refine vs rfl <| nx <| vm rfl <| vm rfl <| VL.letter ((t7121 != t36029)) fun b36056 hb36056 => va (op_cmp rfl rfl (congrArg some hb36056)) <| vm rfl <| ?_
      replace h := iC h
      rcases h with ⟨c36057, h⟩ | ⟨c36057, h⟩
      · obtain rfl : b36056 = false := hb36056.symm.trans (bne_eq_false_iff_eq.2 c36057)
        refine vm rfl <| VL.letter ((t36029 == 0)) fun b36058 hb36058 => va (op_cmp rfl rfl (congrArg some hb36058)) <| vm rfl <| ?_
        replace h := iC h
        rcases h with ⟨c36059, h⟩ | ⟨c36059, h⟩
        · obtain rfl : b36058 = true := hb36058.symm.trans (beq_iff_eq.2 c36059)
          refine va (op_load 4 7 rfl rfl TI27 rfl (fun h => absurd h (by decide))) <| va (op_load 0 7 rfl rfl TI27 rfl (fun h => absurd h (by decide))) <| ?_
          replace h := bd h
          obtain ⟨t36060, hA36061, h⟩ := h
          refine sC (o_call_b0 FO11 (tarryref05_Like.ok k r7114 r7115 t7116 t7117 t7118 r7119 r7120 r453 r454 t455 t456 t457 ((([] : List ByteArray) ++ r458) ++ ([a1.extract 0 ((mn (a1.size : Int) 3002).toNat)] : List ByteArray)) r459 v7124 v7126 v7128 v7130 v462 v464 v34689 v468 t36060 hA36061) rfl rfl (ltn rfl) (All_of (.cons (.inl (mG 4 rfl)) (.cons (.inl (mG 5 rfl)) (.cons (.inl (mG 6 rfl)) (.cons (.inl (mG 7 rfl)) (.cons (.inl (mG 8 rfl)) (.cons (.inl (mG 9 rfl)) (.cons (.inr (.inl ⟨_, mG 1 rfl, rfl⟩)) (.cons (.inl (mG 11 rfl)) .nil))))))))) (by rintro _ _ _ ⟨rfl, rfl, rfl⟩; rfl)) <|
           ?_
          rintro _ _ _ ⟨rfl, rfl, rfl⟩
          replace h := iC h
          rcases h with ⟨c36062, h⟩ | ⟨c36062, h⟩
          · obtain rfl := c36062
            refine va (op_not rfl rfl) <| va (op_pick rfl rfl) <| va (op_pick rfl rfl) <| vm rfl <| vm rfl <| VL.letter ((t36029 != 0)) fun b36063 hb36063 => va (op_cmp rfl rfl (congrArg some hb36063)) <| vm rfl <| ?_
            replace h := iC h
            rcases h with ⟨c36064, h⟩ | ⟨c36064, h⟩
            · obtain rfl : b36063 = false := hb36063.symm.trans (bne_eq_false_iff_eq.2 c36064)
              refine un rfl <| un rfl <| un rfl <| un rfl <| va (op_pick rfl rfl) <| va (op_pick rfl rfl) <| dt <| cf <| VC.skip <|
               VN.meet0  [1, 2, 3, 5] [2, 3, 4, 5] h ⟨rfl, ⟨rfl, rfl, rfl, rfl, rfl, rfl, rfl, rfl, trivial⟩, ⟨⟨0, rfl⟩, ⟨1, rfl⟩, ⟨2, rfl⟩, ⟨3, rfl⟩, ⟨8, rfl⟩, ⟨9, rfl⟩, ⟨10, rfl⟩, ⟨11, rfl⟩, trivial⟩, rfl, by decide, rfl, by decide⟩
            obtain rfl : b36063 = true := hb36063.symm.trans (bne_iff_ne.2 c36064)
            refine va (op_load 4 7 rfl rfl TI27 rfl (fun h => absurd h (by decide))) <| va (op_load 1 7 rfl rfl TI27 rfl (fun h => absurd h (by decide))) <| VL.nilFact' 1 <| VL.nilFact' 2 <| VL.nilFact' 1 <| VL.nilFact' 1 <| ?_
            replace h := bd h
            obtain ⟨t36069, hA36070, h⟩ := h
            refine sC (o_call0 FO11 (tarryref05_Like.ok k r7114 r7115 t7116 t7117 t7118 r7119 r7120 [] [] 0 0 0 [] [] v7124 v7126 v7128 v7130 sn sn sn sn t36069 hA36070) rfl rfl (ltn rfl) (All_of (.cons (mG 8 rfl) (.cons (mG 9 rfl) (.cons (mG 10 rfl) (.cons (mG 11 rfl) (.cons (mG 3 rfl) (.cons (mG 2 rfl) (.cons (mG 1 rfl) (.cons (mG 0 rfl) .nil)))))))))) <|
             ?_
            rintro _ _ _ ⟨rfl, rfl, rfl⟩
            replace h := iC h
            rcases h with ⟨c36071, h⟩ | ⟨c36071, h⟩
            · obtain rfl := c36071
              refine va (op_not rfl rfl) <| va (op_pick rfl rfl) <| va (op_pick rfl rfl) <| dt <| cf <| VC.skip <|
               VN.meet0  [1, 2, 3, 5] [2, 3, 4, 5] h ⟨rfl, ⟨rfl, rfl, rfl, rfl, rfl, rfl, rfl, rfl, trivial⟩, ⟨⟨4, rfl⟩, ⟨5, rfl⟩, ⟨6, rfl⟩, ⟨7, rfl⟩, ⟨12, rfl⟩, ⟨13, rfl⟩, ⟨14, rfl⟩, ⟨15, rfl⟩, trivial⟩, rfl, by decide, rfl, by decide⟩
            obtain rfl := Bool.eq_false_iff.2 c36071
            refine va (op_not rfl rfl) <| va (op_pick rfl rfl) <| va (op_pick rfl rfl) <| dt <| ct <| sr <| vs rfl <| dt <| VC.ret <| VR.then <| ?_
            cases h
          obtain rfl := Bool.eq_false_iff.2 c36062
          refine va (op_not rfl rfl) <| va (op_pick rfl rfl) <| va (op_pick rfl rfl) <| vm rfl <| un rfl <| un rfl <| un rfl <| un rfl <| un rfl <| un rfl <| un rfl <| un rfl <| va (op_pick rfl rfl) <| dt <| ct <| sr <| vs rfl <| dt <| VC.ret <| VR.then <| ?_
          cases h
        obtain rfl : b36058 = false := hb36058.symm.trans (beq_eq_false_iff_ne.2 c36059)
        refine un rfl <| un rfl <| un rfl <| un rfl <| va (op_pick rfl rfl) <| va (op_pick rfl rfl) <| vm rfl <| vm rfl <| VL.letter ((t36029 != 0)) fun b36072 hb36072 => va (op_cmp rfl rfl (congrArg some hb36072)) <| vm rfl <| ?_
        replace h := iC h
        rcases h with ⟨c36073, h⟩ | ⟨c36073, h⟩
        · obtain rfl : b36072 = false := hb36072.symm.trans (bne_eq_false_iff_eq.2 c36073)
          refine un rfl <| un rfl <| un rfl <| un rfl <| va (op_pick rfl rfl) <| va (op_pick rfl rfl) <| dt <| cf <| VC.skip <|
           VN.meet0  [1, 2, 3, 5] [2, 3, 4, 5] h ⟨rfl, ⟨rfl, rfl, rfl, rfl, rfl, rfl, rfl, rfl, trivial⟩, ⟨⟨0, rfl⟩, ⟨1, rfl⟩, ⟨2, rfl⟩, ⟨3, rfl⟩, ⟨8, rfl⟩, ⟨9, rfl⟩, ⟨10, rfl⟩, ⟨11, rfl⟩, trivial⟩, rfl, by decide, rfl, by decide⟩
        obtain rfl : b36072 = true := hb36072.symm.trans (bne_iff_ne.2 c36073)
        refine va (op_load 4 7 rfl rfl TI27 rfl (fun h => absurd h (by decide))) <| va (op_load 1 7 rfl rfl TI27 rfl (fun h => absurd h (by decide))) <| VL.nilFact' 1 <| VL.nilFact' 2 <| VL.nilFact' 1 <| VL.nilFact' 1 <| ?_
        replace h := bd h
        obtain ⟨t36078, hA36079, h⟩ := h
        refine sC (o_call0 FO11 (tarryref05_Like.ok k r7114 r7115 t7116 t7117 t7118 r7119 r7120 [] [] 0 0 0 [] [] v7124 v7126 v7128 v7130 sn sn sn sn t36078 hA36079) rfl rfl (ltn rfl) (All_of (.cons (mG 8 rfl) (.cons (mG 9 rfl) (.cons (mG 10 rfl) (.cons (mG 11 rfl) (.cons (mG 3 rfl) (.cons (mG 2 rfl) (.cons (mG 1 rfl) (.cons (mG 0 rfl) .nil)))))))))) <|
         ?_
        rintro _ _ _ ⟨rfl, rfl, rfl⟩
        replace h := iC h
        rcases h with ⟨c36080, h⟩ | ⟨c36080, h⟩
        · obtain rfl := c36080
          refine va (op_not rfl rfl) <| va (op_pick rfl rfl) <| va (op_pick rfl rfl) <| dt <| cf <| VC.skip <|
           VN.meet0  [1, 2, 3, 5] [2, 3, 4, 5] h ⟨rfl, ⟨rfl, rfl, rfl, rfl, rfl, rfl, rfl, rfl, trivial⟩, ⟨⟨4, rfl⟩, ⟨5, rfl⟩, ⟨6, rfl⟩, ⟨7, rfl⟩, ⟨12, rfl⟩, ⟨13, rfl⟩, ⟨14, rfl⟩, ⟨15, rfl⟩, trivial⟩, rfl, by decide, rfl, by decide⟩
        obtain rfl := Bool.eq_false_iff.2 c36080
        refine va (op_not rfl rfl) <| va (op_pick rfl rfl) <| va (op_pick rfl rfl) <| dt <| ct <| sr <| vs rfl <| dt <| VC.ret <| VR.then <| ?_
        cases h
      obtain rfl : b36056 = true := hb36056.symm.trans (bne_iff_ne.2 c36057)
      refine un rfl <| un rfl <| un rfl <| un rfl <| un rfl <| un rfl <| un rfl <| un rfl <| va (op_pick rfl rfl) <| vm rfl <| un rfl <| un rfl <| un rfl <| un rfl <| un rfl <| un rfl <| un rfl <| un rfl <| va (op_pick rfl rfl) <| dt <| ct <| sr <| vs rfl <| dt <| VC.ret <| VR.then <| ?_
      cases h
    clear h
    intro  h
    unfold tarrylaw05_JournalSeals.j4 at h
    refine sr <| va (op_fieldAddr FI27_1 rfl (add_at _ _ _)) <| va (op_load 3 1 rfl rfl TI3 rfl (by decide)) <| VL.letter ((t455 == 1099511627776)) fun b36081 hb36081 => va (op_cmp rfl rfl (congrArg some hb36081)) <| vs rfl <| ds <| ?_
    replace h := iC h
    rcases h with ⟨c36115, h⟩ | ⟨c36115, h⟩
    · obtain rfl : b36081 = true := hb36081.symm.trans (beq_iff_eq.2 c36115)
      refine VC.letter ((t8552 != 7)) fun b36116 hb36116 => ?_
      replace h := iC h
      rcases h with ⟨c36117, h⟩ | ⟨c36117, h⟩
      · obtain rfl : b36116 = false := hb36116.symm.trans (bne_eq_false_iff_eq.2 c36117)
        replace h := bd h
        obtain ⟨t36122, hA36123, h⟩ := h
        replace h := iC h
        rcases h with ⟨c36124, h⟩ | ⟨c36124, h⟩
        · obtain rfl := c36124
          refine VC.join0 (⟨186, [(1, .string (a1.extract 0 ((mn (a1.size : Int) 3002).toNat))), (2, pt g5 0), (4, .bool false), (9, pt g8713 0), (10, iv t8703), (11, pt g8714 0), (15, .bool true), (143, .bool false)], [.row v8706 1 (r8696.map enc_str), .row v8708 2 (r8697.map enc71), .row v462 1 (r453.map enc_str), .row v464 2 (r454.map enc71), .row v466 1 (r458.map enc_str), .row v468 1 (r459.map enc_str)], [(g8714, 27, [sn, sn, iv 0, iv 0, iv 0, sn, sn]), (g8713, 27, [v8706, v8708, iv t8698, iv t8699, iv t8700, v8710, v8712]), (g5, 27, [v462, v464, iv t455, iv t456, iv t457, v466, v468])], [(v8710, 9, 1, r8701.map enc_str), (v8712, 9, 1, r8702.map enc_str)]⟩) (True) ?_ ?_
          · refine dw ⟨0, [], [], [(g8714, 27, [sn, sn, iv 0, iv 0, iv 0, sn, sn]), (g8562, 27, [v8555, v8557, iv t8547, iv t8548, iv t8549, v8559, v8561])], []⟩ 33 <| av 0 1 rfl (mv rfl) <| av 1 3 rfl (mv rfl) <|
             av 2 7 rfl (mv rfl) <| av 3 15 rfl (op_cmp rfl rfl (congrArg some hb36116)) <| av 4 31 rfl (mv rfl) <| av 5 63 rfl (op_load 1 7 rfl rfl TI27 rfl (fun h => absurd h (by decide))) <| av 6 127 rfl (op_load 0 7 rfl rfl TI27 rfl (fun h => absurd h (by decide))) <| VA.nilFact' 1 <| VA.nilFact' 2 <|
             VA.nilFact' 1 <| VA.nilFact' 1 <| aC 7 255 rfl (o_call_b0 FO11 (tarryref05_Like.ok k r8545 r8546 t8547 t8548 t8549 r8550 r8551 [] [] 0 0 0 [] [] v8555 v8557 v8559 v8561 sn sn sn sn true hA36123) rfl rfl (ltn rfl) (All_of (.cons (.inl (mG 6 rfl)) (.cons (.inl (mG 7 rfl)) (.cons (.inr (.inl ⟨_, mG 2 rfl, rfl⟩)) (.cons (.inr (.inl ⟨_, mG 3 rfl, rfl⟩)) (.cons (.inl (mG 3 rfl)) (.cons (.inl (mG 2 rfl)) (.cons (.inl (mG 1 rfl)) (.cons (.inl (mG 0 rfl)) .nil))))))))) (by rintro _ _ _ ⟨rfl, rfl, rfl⟩; rfl)) <|
             ?_
            rintro _ _ _ ⟨rfl, rfl, rfl⟩
            refine ⟨⟨trivial, ⟨⟨0, rfl⟩, ⟨2, rfl⟩, trivial⟩, trivial⟩, ?_⟩
            exact av 8 511 rfl (op_not rfl rfl) <| av 9 1023 rfl (op_pick rfl rfl) <| av 10 2047 rfl (op_pick rfl rfl) <| av 11 4095 rfl (mv rfl) <| av 12 8191 rfl (mv rfl) <| av 13 16383 rfl (op_not rfl rfl) <| av 14 32767 rfl (mv rfl) <| au 15 65535 rfl rfl <| au 16 131071 rfl rfl <| au 17 262143 rfl rfl <|
             au 18 524287 rfl rfl <| au 19 1048575 rfl rfl <| au 20 2097151 rfl rfl <| au 21 4194303 rfl rfl <| au 22 8388607 rfl rfl <| au 23 16777215 rfl rfl <| au 24 33554431 rfl rfl <| au 25 67108863 rfl rfl <| au 26 134217727 rfl rfl <| au 27 268435455 rfl rfl <| au 28 536870911 rfl rfl <|
             au 29 1073741823 rfl rfl <| au 30 2147483647 rfl rfl <| av 31 4294967295 rfl (op_pick rfl rfl) <| av 32 8589934591 rfl (op_pick rfl rfl) <| ad <|
             VN.meet0  [0, 1, 3] [0, 1] trivial ⟨rfl, ⟨rfl, rfl, rfl, rfl, rfl, rfl, rfl, rfl, trivial⟩, ⟨⟨4, rfl⟩, ⟨5, rfl⟩, ⟨8, rfl⟩, ⟨9, rfl⟩, ⟨10, rfl⟩, ⟨11, rfl⟩, trivial⟩, rfl, by decide, rfl, by decide⟩
          intro _
          refine cf <| sk <| sr <| vm rfl <| ?_
          replace h := bd h
          obtain ⟨t36125, hA36126, h⟩ := h
          refine sC (o_call0 FO15 (tarryref04_Frame.ok k (a1.extract 0 ((mn (a1.size : Int) 3002).toNat)) t36125 hA36126) rfl rfl (ltn rfl) (All_of .nil)) <| ?_
          rintro _ _ _ ⟨rfl, rfl, rfl⟩
          refine vs rfl <| ds <| sr <| vm rfl <| va (op_lens Tryz.underlying9 rfl) <| VL.letter (decide (((a1.extract 0 ((mn (a1.size : Int) 3002).toNat)).size : Int) > 3000)) fun b36145 hb36145 => va (op_cmp rfl rfl (congrArg some hb36145)) <| dt <| ?_
          replace h := iC h
          rcases h with ⟨c36146, h⟩ | ⟨c36146, h⟩
          · cases lT c36146 hb36145
            refine ct <| sr <| vm rfl <| VL.letter ((t8703 == 3)) fun b36155 hb36155 => va (op_cmp rfl rfl (congrArg some hb36155)) <| vm rfl <| ?_
            replace h := iC h
            rcases h with ⟨c36156, h⟩ | ⟨c36156, h⟩
            · obtain rfl : b36155 = true := hb36155.symm.trans (beq_iff_eq.2 c36156)
              refine va (op_load 1 7 rfl rfl TI27 rfl (fun h => absurd h (by decide))) <| va (op_load 0 7 rfl rfl TI27 rfl (fun h => absurd h (by decide))) <| VL.nilFact' 1 <| VL.nilFact' 2 <| VL.nilFact' 1 <| VL.nilFact' 1 <| ?_
              replace h := bd h
              obtain ⟨t36161, hA36162, h⟩ := h
              refine sC (o_call_b0 FO11 (tarryref05_Like.ok k r8696 r8697 t8698 t8699 t8700 r8701 r8702 [] [] 0 0 0 [] [] v8706 v8708 v8710 v8712 sn sn sn sn t36161 hA36162) rfl rfl (ltn rfl) (All_of (.cons (.inl (mG 4 rfl)) (.cons (.inl (mG 5 rfl)) (.cons (.inr (.inl ⟨_, mG 0 rfl, rfl⟩)) (.cons (.inr (.inl ⟨_, mG 1 rfl, rfl⟩)) (.cons (.inl (mG 3 rfl)) (.cons (.inl (mG 2 rfl)) (.cons (.inl (mG 1 rfl)) (.cons (.inl (mG 0 rfl)) .nil))))))))) (by rintro _ _ _ ⟨rfl, rfl, rfl⟩; rfl)) <|
               ?_
              rintro _ _ _ ⟨rfl, rfl, rfl⟩
              refine va (op_pick rfl rfl) <| vs rfl <| dt <| VC.ret <| VR.then <| ?_
              obtain rfl := Option.some.inj h
              exact rq 4 rfl ⟨rfl, rfl, rfl⟩
            obtain rfl : b36155 = false := hb36155.symm.trans (beq_eq_false_iff_ne.2 c36156)
            refine un rfl <| un rfl <| un rfl <| va (op_pick rfl rfl) <| vs rfl <| dt <| VC.ret <| VR.then <| ?_
            cases h
          cases lF c36146 hb36145
          refine cf <| sk <| sq <| sr <| vm rfl <| vm rfl <| un rfl <| un rfl <| un rfl <| un rfl <| un rfl <| un rfl <| un rfl <| un rfl <| va (op_pick rfl rfl) <| dt <| ct <| sr <| vm rfl <| VL.letter ((t8703 == 7)) fun b36187 hb36187 => va (op_cmp rfl rfl (congrArg some hb36187)) <| vm rfl <| ?_
          replace h := iC h
          rcases h with ⟨c36188, h⟩ | ⟨c36188, h⟩
          · obtain rfl : b36187 = true := hb36187.symm.trans (beq_iff_eq.2 c36188)
            refine va (op_load 1 7 rfl rfl TI27 rfl (fun h => absurd h (by decide))) <| va (op_load 0 7 rfl rfl TI27 rfl (fun h => absurd h (by decide))) <| VL.nilFact' 1 <| VL.nilFact' 2 <| VL.nilFact' 1 <| VL.nilFact' 1 <| ?_
            replace h := bd h
            obtain ⟨t36193, hA36194, h⟩ := h
            refine sC (o_call_b0 FO11 (tarryref05_Like.ok k r8696 r8697 t8698 t8699 t8700 r8701 r8702 [] [] 0 0 0 [] [] v8706 v8708 v8710 v8712 sn sn sn sn t36193 hA36194) rfl rfl (ltn rfl) (All_of (.cons (.inl (mG 4 rfl)) (.cons (.inl (mG 5 rfl)) (.cons (.inr (.inl ⟨_, mG 0 rfl, rfl⟩)) (.cons (.inr (.inl ⟨_, mG 1 rfl, rfl⟩)) (.cons (.inl (mG 3 rfl)) (.cons (.inl (mG 2 rfl)) (.cons (.inl (mG 1 rfl)) (.cons (.inl (mG 0 rfl)) .nil))))))))) (by rintro _ _ _ ⟨rfl, rfl, rfl⟩; rfl)) <|
             ?_
            rintro _ _ _ ⟨rfl, rfl, rfl⟩
            refine va (op_pick rfl rfl) <| vs rfl <| dt <| VC.ret <| VR.then <| ?_
            obtain rfl := Option.some.inj h
            exact rq 4 rfl ⟨rfl, rfl, rfl⟩
          obtain rfl : b36187 = false := hb36187.symm.trans (beq_eq_false_iff_ne.2 c36188)
          refine un rfl <| un rfl <| un rfl <| va (op_pick rfl rfl) <| vs rfl <| dt <| VC.ret <| VR.then <| ?_
          cases h
        obtain rfl := Bool.eq_false_iff.2 c36124
        refine VC.join0 (⟨186, [(1, .string (a1.extract 0 ((mn (a1.size : Int) 3002).toNat))), (2, pt g5 0), (4, .bool false), (9, pt g8713 0), (10, iv t8703), (11, pt g8714 0), (15, .bool true), (143, .bool true)], [.row v8706 1 (r8696.map enc_str), .row v8708 2 (r8697.map enc71), .row v462 1 (r453.map enc_str), .row v464 2 (r454.map enc71), .row v466 1 (r458.map enc_str), .row v468 1 (r459.map enc_str)], [(g8714, 27, [sn, sn, iv 0, iv 0, iv 0, sn, sn]), (g8713, 27, [v8706, v8708, iv t8698, iv t8699, iv t8700, v8710, v8712]), (g5, 27, [v462, v464, iv t455, iv t456, iv t457, v466, v468])], [(v8710, 9, 1, r8701.map enc_str), (v8712, 9, 1, r8702.map enc_str)]⟩) (True) ?_ ?_
        · refine dw ⟨0, [], [], [(g8714, 27, [sn, sn, iv 0, iv 0, iv 0, sn, sn]), (g8562, 27, [v8555, v8557, iv t8547, iv t8548, iv t8549, v8559, v8561])], []⟩ 33 <| av 0 1 rfl (mv rfl) <| av 1 3 rfl (mv rfl) <|
           av 2 7 rfl (mv rfl) <| av 3 15 rfl (op_cmp rfl rfl (congrArg some hb36116)) <| av 4 31 rfl (mv rfl) <| av 5 63 rfl (op_load 1 7 rfl rfl TI27 rfl (fun h => absurd h (by decide))) <| av 6 127 rfl (op_load 0 7 rfl rfl TI27 rfl (fun h => absurd h (by decide))) <| VA.nilFact' 1 <| VA.nilFact' 2 <|
           VA.nilFact' 1 <| VA.nilFact' 1 <| aC 7 255 rfl (o_call_b0 FO11 (tarryref05_Like.ok k r8545 r8546 t8547 t8548 t8549 r8550 r8551 [] [] 0 0 0 [] [] v8555 v8557 v8559 v8561 sn sn sn sn false hA36123) rfl rfl (ltn rfl) (All_of (.cons (.inl (mG 6 rfl)) (.cons (.inl (mG 7 rfl)) (.cons (.inr (.inl ⟨_, mG 2 rfl, rfl⟩)) (.cons (.inr (.inl ⟨_, mG 3 rfl, rfl⟩)) (.cons (.inl (mG 3 rfl)) (.cons (.inl (mG 2 rfl)) (.cons (.inl (mG 1 rfl)) (.cons (.inl (mG 0 rfl)) .nil))))))))) (by rintro _ _ _ ⟨rfl, rfl, rfl⟩; rfl)) <|
           ?_
          rintro _ _ _ ⟨rfl, rfl, rfl⟩
          refine ⟨⟨trivial, ⟨⟨0, rfl⟩, ⟨2, rfl⟩, trivial⟩, trivial⟩, ?_⟩
          exact av 8 511 rfl (op_not rfl rfl) <| av 9 1023 rfl (op_pick rfl rfl) <| av 10 2047 rfl (op_pick rfl rfl) <| av 11 4095 rfl (mv rfl) <| au 12 8191 rfl rfl <| au 13 16383 rfl rfl <| au 14 32767 rfl rfl <| au 15 65535 rfl rfl <| au 16 131071 rfl rfl <| au 17 262143 rfl rfl <| au 18 524287 rfl rfl <|
           au 19 1048575 rfl rfl <| au 20 2097151 rfl rfl <| au 21 4194303 rfl rfl <| au 22 8388607 rfl rfl <| au 23 16777215 rfl rfl <| au 24 33554431 rfl rfl <| au 25 67108863 rfl rfl <| au 26 134217727 rfl rfl <| au 27 268435455 rfl rfl <| au 28 536870911 rfl rfl <| au 29 1073741823 rfl rfl <|
           au 30 2147483647 rfl rfl <| au 31 4294967295 rfl rfl <| av 32 8589934591 rfl (op_pick rfl rfl) <| ad <| VN.meet0  [0, 1, 3] [0, 1] trivial ⟨rfl, ⟨rfl, rfl, rfl, rfl, rfl, rfl, rfl, rfl, trivial⟩, ⟨⟨4, rfl⟩, ⟨5, rfl⟩, ⟨8, rfl⟩, ⟨9, rfl⟩, ⟨10, rfl⟩, ⟨11, rfl⟩, trivial⟩, rfl, by decide, rfl, by decide⟩
        intro _
        refine ct <| sr <| vs rfl <| dt <| VC.ret <| VR.then <| ?_
        cases h
      obtain rfl : b36116 = true := hb36116.symm.trans (bne_iff_ne.2 c36117)
      refine VC.join0 (⟨186, [(1, .string (a1.extract 0 ((mn (a1.size : Int) 3002).toNat))), (2, pt g5 0), (4, .bool false), (9, pt g8713 0), (10, iv t8703), (11, pt g8714 0), (15, .bool true), (143, .bool true)], [.row v8706 1 (r8696.map enc_str), .row v8708 2 (r8697.map enc71), .row v462 1 (r453.map enc_str), .row v464 2 (r454.map enc71), .row v466 1 (r458.map enc_str), .row v468 1 (r459.map enc_str)], [(g8714, 27, [sn, sn, iv 0, iv 0, iv 0, sn, sn]), (g8713, 27, [v8706, v8708, iv t8698, iv t8699, iv t8700, v8710, v8712]), (g5, 27, [v462, v464, iv t455, iv t456, iv t457, v466, v468])], [(v8710, 9, 1, r8701.map enc_str), (v8712, 9, 1, r8702.map enc_str)]⟩) (True) ?_ ?_
      · exact dw ⟨0, [], [], [], []⟩ 33 <| av 0 1 rfl (mv rfl) <| av 1 3 rfl (mv rfl) <| av 2 7 rfl (mv rfl) <| av 3 15 rfl (op_cmp rfl rfl (congrArg some hb36116)) <| av 4 31 rfl (mv rfl) <| au 5 63 rfl rfl <| au 6 127 rfl rfl <| au 7 255 rfl rfl <| au 8 511 rfl rfl <| av 9 1023 rfl (op_pick rfl rfl) <|
         av 10 2047 rfl (op_pick rfl rfl) <| av 11 4095 rfl (mv rfl) <| au 12 8191 rfl rfl <| au 13 16383 rfl rfl <| au 14 32767 rfl rfl <| au 15 65535 rfl rfl <| au 16 131071 rfl rfl <| au 17 262143 rfl rfl <| au 18 524287 rfl rfl <| au 19 1048575 rfl rfl <| au 20 2097151 rfl rfl <|
         au 21 4194303 rfl rfl <| au 22 8388607 rfl rfl <| au 23 16777215 rfl rfl <| au 24 33554431 rfl rfl <| au 25 67108863 rfl rfl <| au 26 134217727 rfl rfl <| au 27 268435455 rfl rfl <| au 28 536870911 rfl rfl <| au 29 1073741823 rfl rfl <| au 30 2147483647 rfl rfl <| au 31 4294967295 rfl rfl <|
         av 32 8589934591 rfl (op_pick rfl rfl) <| ad <| VN.meet0 [0, 1, 3] [0, 1] trivial
      intro _
      refine ct <| sr <| vs rfl <| dt <| VC.ret <| VR.then <| ?_
      cases h
    obtain rfl : b36081 = false := hb36081.symm.trans (beq_eq_false_iff_ne.2 c36115)
    refine VC.letter ((t8552 != 0)) fun b36195 hb36195 => ?_
    replace h := iC h
    rcases h with ⟨c36196, h⟩ | ⟨c36196, h⟩
    · obtain rfl : b36195 = false := hb36195.symm.trans (bne_eq_false_iff_eq.2 c36196)
      replace h := bd h
      obtain ⟨t36197, hA36198, h⟩ := h
      replace h := bd h
      obtain ⟨⟨r36199, r36200, t36201, t36202, t36203, r36204, r36205⟩, hA36206, h⟩ := h
      dsimp only at h
      replace h := bd h
      obtain ⟨t36215, hA36216, h⟩ := h
      replace h := iC h
      rcases h with ⟨c36217, h⟩ | ⟨c36217, h⟩
      · obtain rfl := c36217
        refine VC.join0 (⟨186, [(1, .string (a1.extract 0 ((mn (a1.size : Int) 3002).toNat))), (2, pt g5 0), (4, .bool false), (9, pt g8713 0), (10, iv t8703), (11, pt g8714 0), (15, .bool false), (143, .bool false)], [.row v8706 1 (r8696.map enc_str), .row v8708 2 (r8697.map enc71), .row v462 1 (r453.map enc_str), .row v464 2 (r454.map enc71), .row v466 1 (r458.map enc_str), .row v468 1 (r459.map enc_str)], [(g8714, 27, [sn, sn, iv 0, iv 0, iv 0, sn, sn]), (g8713, 27, [v8706, v8708, iv t8698, iv t8699, iv t8700, v8710, v8712]), (g5, 27, [v462, v464, iv t455, iv t456, iv t457, v466, v468])], [(v8710, 9, 1, r8701.map enc_str), (v8712, 9, 1, r8702.map enc_str)]⟩) (True) ?_ ?_
        · refine dw ⟨0, [], [], [(g8562, 27, [v8555, v8557, iv t8547, iv t8548, iv t8549, v8559, v8561]), (g5, 27, [v462, v464, iv t455, iv t456, iv t457, v466, v468])], []⟩ 33 <| av 0 1 rfl (mv rfl) <| av 1 3 rfl (mv rfl) <| au 2 7 rfl rfl <| au 3 15 rfl rfl <|
           au 4 31 rfl rfl <| au 5 63 rfl rfl <| au 6 127 rfl rfl <| au 7 255 rfl rfl <| au 8 511 rfl rfl <| au 9 1023 rfl rfl <| av 10 2047 rfl (op_pick rfl rfl) <| av 11 4095 rfl (mv rfl) <| av 12 8191 rfl (mv rfl) <| av 13 16383 rfl (op_not rfl rfl) <| av 14 32767 rfl (mv rfl) <|
           av 15 65535 rfl (mv rfl) <| av 16 131071 rfl (op_cmp rfl rfl (congrArg some hb36195)) <| av 17 262143 rfl (mv rfl) <| av 18 524287 rfl (op_load 0 7 rfl rfl TI27 rfl (fun h => absurd h (by decide))) <| av 19 1048575 rfl (op_load 1 7 rfl rfl TI27 rfl (fun h => absurd h (by decide))) <|
           av 20 2097151 rfl (op_fieldAddr FI27_2 rfl (add_at _ _ _)) <| av 21 4194303 rfl (op_load 1 1 rfl rfl TI3 rfl (by decide)) <| av 22 8388607 rfl (op_fieldAddr FI27_3 rfl (add_at _ _ _)) <| av 23 16777215 rfl (op_load 1 1 rfl rfl TI3 rfl (by decide)) <|
           av 24 33554431 rfl (op_fieldAddr FI27_4 rfl (add_at _ _ _)) <| av 25 67108863 rfl (op_load 1 1 rfl rfl TI22 rfl (by decide)) <| aC 26 134217727 rfl (o_call0 FO14 (tarryref04_Whole.ok k r458 v466 t36197 hA36198) rfl rfl (ltn rfl) (All_of (.cons (mG 6 rfl) .nil))) <| ?_
          rintro _ _ _ ⟨rfl, rfl, rfl⟩
          refine ⟨⟨trivial, ⟨⟨2, rfl⟩, ⟨3, rfl⟩, trivial⟩, trivial⟩, ?_⟩
          refine aC 27 268435455 rfl (o_call0 FO13 (tarryref05_Sealed.ok k r453 r454 t455 t456 t457 r458 r459 t456 t457 t36197 v462 v464 v466 v468 r36199 r36200 t36201 t36202 t36203 r36204 r36205 hA36206) rfl rfl (ltn rfl) (All_of (.cons (mG 4 rfl) (.cons (mG 5 rfl) (.cons (mG 6 rfl) (.cons (mG 7 rfl) .nil)))))) <|
           ?_
          rintro _ _ _ ⟨v36208, v36210, v36212, v36214, rfl, rfl, rfl⟩
          refine ⟨⟨trivial, ⟨⟨2, rfl⟩, ⟨3, rfl⟩, trivial⟩, trivial⟩, ?_⟩
          refine aC 28 536870911 rfl (o_call_b0 FO11 (tarryref05_Like.ok k r8545 r8546 t8547 t8548 t8549 r8550 r8551 r36199 r36200 t36201 t36202 t36203 r36204 r36205 v8555 v8557 v8559 v8561 v36208 v36210 v36212 v36214 true hA36216) rfl rfl (ltn rfl) (All_of (.cons (.inl (mG 4 rfl)) (.cons (.inl (mG 5 rfl)) (.cons (.inr (.inl ⟨_, mG 4 rfl, rfl⟩)) (.cons (.inr (.inl ⟨_, mG 5 rfl, rfl⟩)) (.cons (.inl (mG 0 rfl)) (.cons (.inl (mG 1 rfl)) (.cons (.inr (.inl ⟨_, mG 0 rfl, rfl⟩)) (.cons (.inr (.inl ⟨_, mG 1 rfl, rfl⟩)) .nil))))))))) (by rintro _ _ _ ⟨rfl, rfl, rfl⟩; rfl)) <|
           ?_
          rintro _ _ _ ⟨rfl, rfl, rfl⟩
          refine ⟨⟨trivial, ⟨⟨2, rfl⟩, ⟨3, rfl⟩, trivial⟩, trivial⟩, ?_⟩
          exact av 29 1073741823 rfl (op_not rfl rfl) <| av 30 2147483647 rfl (op_pick rfl rfl) <| av 31 4294967295 rfl (op_pick rfl rfl) <| av 32 8589934591 rfl (op_pick rfl rfl) <| ad <| VN.meet0 [0, 1, 3] [2, 3] trivial
        intro _
        refine cf <| sk <| sr <| vm rfl <| ?_
        replace h := bd h
        obtain ⟨t36218, hA36219, h⟩ := h
        refine sC (o_call0 FO15 (tarryref04_Frame.ok k (a1.extract 0 ((mn (a1.size : Int) 3002).toNat)) t36218 hA36219) rfl rfl (ltn rfl) (All_of .nil)) <| ?_
        rintro _ _ _ ⟨rfl, rfl, rfl⟩
        refine vs rfl <| ds <| sr <| vm rfl <| va (op_lens Tryz.underlying9 rfl) <| VL.letter (decide (((a1.extract 0 ((mn (a1.size : Int) 3002).toNat)).size : Int) > 3000)) fun b36238 hb36238 => va (op_cmp rfl rfl (congrArg some hb36238)) <| dt <| ?_
        replace h := iC h
        rcases h with ⟨c36239, h⟩ | ⟨c36239, h⟩
        · cases lT c36239 hb36238
          refine ct <| sr <| vm rfl <| VL.letter ((t8703 == 3)) fun b36248 hb36248 => va (op_cmp rfl rfl (congrArg some hb36248)) <| vm rfl <| ?_
          replace h := iC h
          rcases h with ⟨c36249, h⟩ | ⟨c36249, h⟩
          · obtain rfl : b36248 = true := hb36248.symm.trans (beq_iff_eq.2 c36249)
            refine va (op_load 1 7 rfl rfl TI27 rfl (fun h => absurd h (by decide))) <| va (op_load 0 7 rfl rfl TI27 rfl (fun h => absurd h (by decide))) <| VL.nilFact' 1 <| VL.nilFact' 2 <| VL.nilFact' 1 <| VL.nilFact' 1 <| ?_
            replace h := bd h
            obtain ⟨t36254, hA36255, h⟩ := h
            refine sC (o_call_b0 FO11 (tarryref05_Like.ok k r8696 r8697 t8698 t8699 t8700 r8701 r8702 [] [] 0 0 0 [] [] v8706 v8708 v8710 v8712 sn sn sn sn t36254 hA36255) rfl rfl (ltn rfl) (All_of (.cons (.inl (mG 4 rfl)) (.cons (.inl (mG 5 rfl)) (.cons (.inr (.inl ⟨_, mG 0 rfl, rfl⟩)) (.cons (.inr (.inl ⟨_, mG 1 rfl, rfl⟩)) (.cons (.inl (mG 3 rfl)) (.cons (.inl (mG 2 rfl)) (.cons (.inl (mG 1 rfl)) (.cons (.inl (mG 0 rfl)) .nil))))))))) (by rintro _ _ _ ⟨rfl, rfl, rfl⟩; rfl)) <|
             ?_
            rintro _ _ _ ⟨rfl, rfl, rfl⟩
            refine va (op_pick rfl rfl) <| vs rfl <| dt <| VC.ret <| VR.then <| ?_
            obtain rfl := Option.some.inj h
            exact rq 4 rfl ⟨rfl, rfl, rfl⟩
          obtain rfl : b36248 = false := hb36248.symm.trans (beq_eq_false_iff_ne.2 c36249)
          refine un rfl <| un rfl <| un rfl <| va (op_pick rfl rfl) <| vs rfl <| dt <| VC.ret <| VR.then <| ?_
          cases h
        cases lF c36239 hb36238
        refine cf <| sk <| sq <| sr <| vm rfl <| vm rfl <| vm rfl <| va (op_lens Tryz.underlying9 rfl) <| va (op_fieldAddr FI27_0 rfl (add_at _ _ _)) <| va (op_fieldAddr FI25_0 rfl (add_at _ _ _)) <| va (op_load 2 1 rfl rfl TI22 rfl (by decide)) <|
         va (op_len (m := r453.length) 2 lenm Tryz.underlying22 rfl rfl) <| ?_
        replace h := bd h
        obtain ⟨t36282, hA36283, h⟩ := h
        refine sC (o_call0 FO16 (tarryref05_Room.ok (r453.length : Int) t36282 hA36283) rfl rfl (ltn rfl) (All_of .nil)) <| ?_
        rintro _ _ _ ⟨rfl, rfl, rfl⟩
        refine VL.letter (decide ((t36218.size : Int) > t36282)) fun b36284 hb36284 => va (op_cmp rfl rfl (congrArg some hb36284)) <| va (op_pick rfl rfl) <| dt <| ?_
        replace h := iC h
        rcases h with ⟨c36285, h⟩ | ⟨c36285, h⟩
        · cases lT c36285 hb36284
          refine ct <| sr <| vm rfl <| VL.letter ((t8703 == 7)) fun b36294 hb36294 => va (op_cmp rfl rfl (congrArg some hb36294)) <| vm rfl <| ?_
          replace h := iC h
          rcases h with ⟨c36295, h⟩ | ⟨c36295, h⟩
          · obtain rfl : b36294 = true := hb36294.symm.trans (beq_iff_eq.2 c36295)
            refine va (op_load 1 7 rfl rfl TI27 rfl (fun h => absurd h (by decide))) <| va (op_load 0 7 rfl rfl TI27 rfl (fun h => absurd h (by decide))) <| VL.nilFact' 1 <| VL.nilFact' 2 <| VL.nilFact' 1 <| VL.nilFact' 1 <| ?_
            replace h := bd h
            obtain ⟨t36300, hA36301, h⟩ := h
            refine sC (o_call_b0 FO11 (tarryref05_Like.ok k r8696 r8697 t8698 t8699 t8700 r8701 r8702 [] [] 0 0 0 [] [] v8706 v8708 v8710 v8712 sn sn sn sn t36300 hA36301) rfl rfl (ltn rfl) (All_of (.cons (.inl (mG 4 rfl)) (.cons (.inl (mG 5 rfl)) (.cons (.inr (.inl ⟨_, mG 0 rfl, rfl⟩)) (.cons (.inr (.inl ⟨_, mG 1 rfl, rfl⟩)) (.cons (.inl (mG 3 rfl)) (.cons (.inl (mG 2 rfl)) (.cons (.inl (mG 1 rfl)) (.cons (.inl (mG 0 rfl)) .nil))))))))) (by rintro _ _ _ ⟨rfl, rfl, rfl⟩; rfl)) <|
             ?_
            rintro _ _ _ ⟨rfl, rfl, rfl⟩
            refine va (op_pick rfl rfl) <| vs rfl <| dt <| VC.ret <| VR.then <| ?_
            obtain rfl := Option.some.inj h
            exact rq 4 rfl ⟨rfl, rfl, rfl⟩
          obtain rfl : b36294 = false := hb36294.symm.trans (beq_eq_false_iff_ne.2 c36295)
          refine un rfl <| un rfl <| un rfl <| va (op_pick rfl rfl) <| vs rfl <| dt <| VC.ret <| VR.then <| ?_
          cases h
        cases lF c36285 hb36284
        refine cf <| sk <| VC.letter ((t8703 == 0)) fun b36302 hb36302 => ?_
        replace h := iC h
        rcases h with ⟨c36303, h⟩ | ⟨c36303, h⟩
        · obtain rfl : b36302 = true := hb36302.symm.trans (beq_iff_eq.2 c36303)
          replace h := bd h
          obtain ⟨⟨r36304, r36305, t36306, t36307, t36308, r36309, r36310⟩, hA36311, h⟩ := h
          dsimp only at h
          replace h := bd h
          obtain ⟨t36320, hA36321, h⟩ := h
          refine VC.join0 (⟨186, [(4, .bool t36320)], [], [], []⟩) (True) ?_ ?_
          · refine dw ⟨0, [], [], [(g8713, 27, [v8706, v8708, iv t8698, iv t8699, iv t8700, v8710, v8712]), (g5, 27, [v462, v464, iv t455, iv t456, iv t457, v466, v468])], []⟩ 13 <| av 0 1 rfl (mv rfl) <| av 1 3 rfl (op_cmp rfl rfl (congrArg some hb36302)) <|
             av 2 7 rfl (mv rfl) <| av 3 15 rfl (op_load 0 7 rfl rfl TI27 rfl (fun h => absurd h (by decide))) <| av 4 31 rfl (op_load 1 7 rfl rfl TI27 rfl (fun h => absurd h (by decide))) <| av 5 63 rfl (op_fieldAddr FI27_2 rfl (add_at _ _ _)) <| av 6 127 rfl (op_load 1 1 rfl rfl TI3 rfl (by decide)) <|
             av 7 255 rfl (op_ari64 rfl rfl rfl) <| av 8 511 rfl (mv rfl) <|
             aC 9 1023 rfl (o_call0 FO13 (tarryref05_Sealed.ok k r453 r454 t455 t456 t457 r458 r459 (wrap64 (1 - t456)) 0 t36218 v462 v464 v466 v468 r36304 r36305 t36306 t36307 t36308 r36309 r36310 hA36311) rfl rfl (ltn rfl) (All_of (.cons (mG 2 rfl) (.cons (mG 3 rfl) (.cons (mG 4 rfl) (.cons (mG 5 rfl) .nil)))))) <|
             ?_
            rintro _ _ _ ⟨v36313, v36315, v36317, v36319, rfl, rfl, rfl⟩
            refine ⟨⟨trivial, ⟨⟨1, rfl⟩, ⟨2, rfl⟩, trivial⟩, trivial⟩, ?_⟩
            refine aC 10 2047 rfl (o_call_b0 FO11 (tarryref05_Like.ok k r8696 r8697 t8698 t8699 t8700 r8701 r8702 r36304 r36305 t36306 t36307 t36308 r36309 r36310 v8706 v8708 v8710 v8712 v36313 v36315 v36317 v36319 t36320 hA36321) rfl rfl (ltn rfl) (All_of (.cons (.inl (mG 2 rfl)) (.cons (.inl (mG 3 rfl)) (.cons (.inr (.inl ⟨_, mG 2 rfl, rfl⟩)) (.cons (.inr (.inl ⟨_, mG 3 rfl, rfl⟩)) (.cons (.inl (mG 0 rfl)) (.cons (.inl (mG 1 rfl)) (.cons (.inr (.inl ⟨_, mG 0 rfl, rfl⟩)) (.cons (.inr (.inl ⟨_, mG 1 rfl, rfl⟩)) .nil))))))))) (by rintro _ _ _ ⟨rfl, rfl, rfl⟩; rfl)) <|
             ?_
            rintro _ _ _ ⟨rfl, rfl, rfl⟩
            refine ⟨⟨trivial, ⟨⟨1, rfl⟩, ⟨2, rfl⟩, trivial⟩, trivial⟩, ?_⟩
            exact av 11 4095 rfl (op_pick rfl rfl) <| av 12 8191 rfl (ag rfl) <| ad <| VN.meet0 [] [] trivial
          intro _
          refine VC.ret <| ?_
          obtain rfl := Option.some.inj h
          exact rq 4 rfl ⟨rfl, rfl, rfl⟩
        obtain rfl : b36302 = false := hb36302.symm.trans (beq_eq_false_iff_ne.2 c36303)
        refine VC.join0 (⟨186, [(4, .bool false)], [], [], []⟩) (True) ?_ ?_
        · exact dw ⟨0, [], [], [], []⟩ 13 <| av 0 1 rfl (mv rfl) <| av 1 3 rfl (op_cmp rfl rfl (congrArg some hb36302)) <| av 2 7 rfl (mv rfl) <| au 3 15 rfl rfl <| au 4 31 rfl rfl <| au 5 63 rfl rfl <| au 6 127 rfl rfl <| au 7 255 rfl rfl <| au 8 511 rfl rfl <| au 9 1023 rfl rfl <| au 10 2047 rfl rfl <|
           av 11 4095 rfl (op_pick rfl rfl) <| av 12 8191 rfl (ag rfl) <| ad <| VN.meet0 [] [] trivial
        intro _
        refine VC.ret <| ?_
        cases h
      obtain rfl := Bool.eq_false_iff.2 c36217
      refine VC.join0 (⟨186, [(1, .string (a1.extract 0 ((mn (a1.size : Int) 3002).toNat))), (2, pt g5 0), (4, .bool false), (9, pt g8713 0), (10, iv t8703), (11, pt g8714 0), (15, .bool false), (143, .bool true)], [.row v8706 1 (r8696.map enc_str), .row v8708 2 (r8697.map enc71), .row v462 1 (r453.map enc_str), .row v464 2 (r454.map enc71), .row v466 1 (r458.map enc_str), .row v468 1 (r459.map enc_str)], [(g8714, 27, [sn, sn, iv 0, iv 0, iv 0, sn, sn]), (g8713, 27, [v8706, v8708, iv t8698, iv t8699, iv t8700, v8710, v8712]), (g5, 27, [v462, v464, iv t455, iv t456, iv t457, v466, v468])], [(v8710, 9, 1, r8701.map enc_str), (v8712, 9, 1, r8702.map enc_str)]⟩) (True) ?_ ?_
      · refine dw ⟨0, [], [], [(g8562, 27, [v8555, v8557, iv t8547, iv t8548, iv t8549, v8559, v8561]), (g5, 27, [v462, v464, iv t455, iv t456, iv t457, v466, v468])], []⟩ 33 <| av 0 1 rfl (mv rfl) <| av 1 3 rfl (mv rfl) <| au 2 7 rfl rfl <| au 3 15 rfl rfl <|
         au 4 31 rfl rfl <| au 5 63 rfl rfl <| au 6 127 rfl rfl <| au 7 255 rfl rfl <| au 8 511 rfl rfl <| au 9 1023 rfl rfl <| av 10 2047 rfl (op_pick rfl rfl) <| av 11 4095 rfl (mv rfl) <| av 12 8191 rfl (mv rfl) <| av 13 16383 rfl (op_not rfl rfl) <| av 14 32767 rfl (mv rfl) <|
         av 15 65535 rfl (mv rfl) <| av 16 131071 rfl (op_cmp rfl rfl (congrArg some hb36195)) <| av 17 262143 rfl (mv rfl) <| av 18 524287 rfl (op_load 0 7 rfl rfl TI27 rfl (fun h => absurd h (by decide))) <| av 19 1048575 rfl (op_load 1 7 rfl rfl TI27 rfl (fun h => absurd h (by decide))) <|
         av 20 2097151 rfl (op_fieldAddr FI27_2 rfl (add_at _ _ _)) <| av 21 4194303 rfl (op_load 1 1 rfl rfl TI3 rfl (by decide)) <| av 22 8388607 rfl (op_fieldAddr FI27_3 rfl (add_at _ _ _)) <| av 23 16777215 rfl (op_load 1 1 rfl rfl TI3 rfl (by decide)) <|
         av 24 33554431 rfl (op_fieldAddr FI27_4 rfl (add_at _ _ _)) <| av 25 67108863 rfl (op_load 1 1 rfl rfl TI22 rfl (by decide)) <| aC 26 134217727 rfl (o_call0 FO14 (tarryref04_Whole.ok k r458 v466 t36197 hA36198) rfl rfl (ltn rfl) (All_of (.cons (mG 6 rfl) .nil))) <| ?_
        rintro _ _ _ ⟨rfl, rfl, rfl⟩
        refine ⟨⟨trivial, ⟨⟨2, rfl⟩, ⟨3, rfl⟩, trivial⟩, trivial⟩, ?_⟩
        refine aC 27 268435455 rfl (o_call0 FO13 (tarryref05_Sealed.ok k r453 r454 t455 t456 t457 r458 r459 t456 t457 t36197 v462 v464 v466 v468 r36199 r36200 t36201 t36202 t36203 r36204 r36205 hA36206) rfl rfl (ltn rfl) (All_of (.cons (mG 4 rfl) (.cons (mG 5 rfl) (.cons (mG 6 rfl) (.cons (mG 7 rfl) .nil)))))) <|
         ?_
        rintro _ _ _ ⟨v36208, v36210, v36212, v36214, rfl, rfl, rfl⟩
        refine ⟨⟨trivial, ⟨⟨2, rfl⟩, ⟨3, rfl⟩, trivial⟩, trivial⟩, ?_⟩
        refine aC 28 536870911 rfl (o_call_b0 FO11 (tarryref05_Like.ok k r8545 r8546 t8547 t8548 t8549 r8550 r8551 r36199 r36200 t36201 t36202 t36203 r36204 r36205 v8555 v8557 v8559 v8561 v36208 v36210 v36212 v36214 false hA36216) rfl rfl (ltn rfl) (All_of (.cons (.inl (mG 4 rfl)) (.cons (.inl (mG 5 rfl)) (.cons (.inr (.inl ⟨_, mG 4 rfl, rfl⟩)) (.cons (.inr (.inl ⟨_, mG 5 rfl, rfl⟩)) (.cons (.inl (mG 0 rfl)) (.cons (.inl (mG 1 rfl)) (.cons (.inr (.inl ⟨_, mG 0 rfl, rfl⟩)) (.cons (.inr (.inl ⟨_, mG 1 rfl, rfl⟩)) .nil))))))))) (by rintro _ _ _ ⟨rfl, rfl, rfl⟩; rfl)) <|
         ?_
        rintro _ _ _ ⟨rfl, rfl, rfl⟩
        refine ⟨⟨trivial, ⟨⟨2, rfl⟩, ⟨3, rfl⟩, trivial⟩, trivial⟩, ?_⟩
        exact av 29 1073741823 rfl (op_not rfl rfl) <| av 30 2147483647 rfl (op_pick rfl rfl) <| av 31 4294967295 rfl (op_pick rfl rfl) <| av 32 8589934591 rfl (op_pick rfl rfl) <| ad <| VN.meet0 [0, 1, 3] [2, 3] trivial
      intro _
      refine ct <| sr <| vs rfl <| dt <| VC.ret <| VR.then <| ?_
      cases h
    obtain rfl : b36195 = true := hb36195.symm.trans (bne_iff_ne.2 c36196)
    refine VC.join0 (⟨186, [(1, .string (a1.extract 0 ((mn (a1.size : Int) 3002).toNat))), (2, pt g5 0), (4, .bool false), (9, pt g8713 0), (10, iv t8703), (11, pt g8714 0), (15, .bool false), (143, .bool true)], [.row v8706 1 (r8696.map enc_str), .row v8708 2 (r8697.map enc71), .row v462 1 (r453.map enc_str), .row v464 2 (r454.map enc71), .row v466 1 (r458.map enc_str), .row v468 1 (r459.map enc_str)], [(g8714, 27, [sn, sn, iv 0, iv 0, iv 0, sn, sn]), (g8713, 27, [v8706, v8708, iv t8698, iv t8699, iv t8700, v8710, v8712]), (g5, 27, [v462, v464, iv t455, iv t456, iv t457, v466, v468])], [(v8710, 9, 1, r8701.map enc_str), (v8712, 9, 1, r8702.map enc_str)]⟩) (True) ?_ ?_
    · exact dw ⟨0, [], [], [], []⟩ 33 <| av 0 1 rfl (mv rfl) <| av 1 3 rfl (mv rfl) <| au 2 7 rfl rfl <| au 3 15 rfl rfl <| au 4 31 rfl rfl <| au 5 63 rfl rfl <| au 6 127 rfl rfl <| au 7 255 rfl rfl <| au 8 511 rfl rfl <| au 9 1023 rfl rfl <| av 10 2047 rfl (op_pick rfl rfl) <| av 11 4095 rfl (mv rfl) <|
       av 12 8191 rfl (mv rfl) <| av 13 16383 rfl (op_not rfl rfl) <| av 14 32767 rfl (mv rfl) <| av 15 65535 rfl (mv rfl) <| av 16 131071 rfl (op_cmp rfl rfl (congrArg some hb36195)) <| av 17 262143 rfl (mv rfl) <| au 18 524287 rfl rfl <| au 19 1048575 rfl rfl <| au 20 2097151 rfl rfl <|
       au 21 4194303 rfl rfl <| au 22 8388607 rfl rfl <| au 23 16777215 rfl rfl <| au 24 33554431 rfl rfl <| au 25 67108863 rfl rfl <| au 26 134217727 rfl rfl <| au 27 268435455 rfl rfl <| au 28 536870911 rfl rfl <| au 29 1073741823 rfl rfl <| av 30 2147483647 rfl (op_pick rfl rfl) <|
       av 31 4294967295 rfl (op_pick rfl rfl) <| av 32 8589934591 rfl (op_pick rfl rfl) <| ad <| VN.meet0 [0, 1, 3] [0, 1] trivial
    intro _
    refine ct <| sr <| vs rfl <| dt <| VC.ret <| VR.then <| ?_
    cases h
  obtain rfl := Bool.eq_false_iff.2 c8976
  refine va (op_not rfl rfl) <| dt <| ct <| sr <| vs rfl <| dt <| VC.ret <| VR.then <| ?_
  cases h

end Go.Proofs.YtipeglbeongfmaaGreat.PJournalSeals
