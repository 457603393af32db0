/- Written by a program of this repo: what the program's functions do, each as a Lean function, shown of the loaded code; or a statement's row over that; no condition of its own. -/
import Derived.Test.YtipeglbeongfmaaPJournalOpensx18
namespace Go.Proofs.Ytipeglbeongfmaa.PJournalOpens
open Go Go.RowKit Go.Proofs.YtipeglbeongfmaaV
set_option linter.unusedVariables false
set_option linter.unusedSimpArgs false
set_option maxHeartbeats 4000000
set_option maxRecDepth 100000

theorem tarrylaw05_JournalOpens.ok (k : Nat) (a0 : Int) (l1_0 : List ByteArray) (l1_1 : List S55) (l2_0 : List ByteArray) (l2_1 : List S55) (a2_2 : Int) (a2_3 : Int) (a2_4 : Int) (l2_5 : List ByteArray) (l2_6 : List ByteArray) (v1_0 : Value) (v1_1 : Value) (v2_0 : Value) (v2_1 : Value) (v2_5 : Value) (v2_6 : Value) (r1 : Bool) (h : tarrylaw05_JournalOpens.f k a0 l1_0 l1_1 l2_0 l2_1 a2_2 a2_3 a2_4 l2_5 l2_6 = some r1) :
    VCalls Try.prog 3 [iv a0, .agg #[v1_0, v1_1], .agg #[v2_0, v2_1, iv a2_2, iv a2_3, iv a2_4, v2_5, v2_6]] [.row v1_0 1 (l1_0.map enc_str), .row v1_1 2 (l1_1.map enc55), .row v2_0 1 (l2_0.map enc_str), .row v2_1 2 (l2_1.map enc55), .row v2_5 1 (l2_5.map enc_str), .row v2_6 1 (l2_6.map enc_str)] (fun v G own => v = .bool r1 ∧ G = [] ∧ own = []) := by
  refine VCalls.intro Try.func3 rfl (len rfl) fun E hC hW hD hU => ?_
  unfold tarrylaw05_JournalOpens.f at h
  refine sr <| sG (o_box rfl (.agg (.f 0 rfl (.f 1 rfl .nil)))) fun g7 => sG (o_box rfl (.agg (.f 2 rfl (.f 3 rfl (.c rfl (.c rfl (.c rfl (.f 4 rfl (.f 5 rfl .nil))))))))) fun g8 => vs rfl <| dt <| ?_
  replace h := bd h
  obtain ⟨⟨r332, r333⟩, hA334, h⟩ := h
  dsimp only at h
  replace h := bd h
  obtain ⟨⟨r463, r464, t465, t466, t467, r468, r469⟩, hA470, h⟩ := h
  dsimp only at h
  refine VC.join6 (fun (v472 : Value) (v474 : Value) (v476 : Value) (v478 : Value) (v336 : Value) (v338 : Value) => ⟨127, [(0, iv a0), (4, pt g7 0), (5, pt g8 0), (6, .bool false)], [], [(g8, 27, [v472, v474, iv t465, iv t466, iv t467, v476, v478]), (g7, 25, [v336, v338])], [(v472, 9, 1, r463.map enc_str), (v474, 56, 2, r464.map enc55), (v476, 9, 1, r468.map enc_str), (v478, 9, 1, r469.map enc_str), (v336, 9, 1, r332.map enc_str), (v338, 56, 2, r333.map enc55)]⟩) (fun (v472 : Value) (v474 : Value) (v476 : Value) (v478 : Value) (v336 : Value) (v338 : Value) => True) ?_ ?_
  · refine VC.drawB ⟨0, [], [], [], []⟩ [4, 5] ⟨0, [], [], [(g8, 27, [v2_0, v2_1, iv a2_2, iv a2_3, iv a2_4, v2_5, v2_6]), (g7, 25, [v1_0, v1_1])], []⟩ (by kernel_rfl) rfl (by kernel_rfl) (n := 6) (listed := LB 6 0) <|
     VB.vb (i := 0) (listed' := LB 6 1) rfl (op_load 1 2 rfl rfl TI25 rfl (fun h => absurd h (by decide))) rfl (by kernel_rfl) (by kernel_rfl) (by kernel_rfl) (by kernel_rfl) (by kernel_rfl) (by kernel_rfl) (PartP.on ⟨trivial, trivial, trivial⟩ ⟨trivial, ⟨⟨0, rfl⟩, ⟨1, rfl⟩, trivial⟩, trivial⟩) (fun _ _ _ h => h) <|
     VB.all [1, 2] (by kernel_rfl) (by simp) <| VBll.consC (listed' := LB 6 3) rfl (o_call0 FO7 (tarrylaw05_disk.ok k l1_0 l1_1 v1_0 v1_1 r332 r333 hA334) rfl rfl (ltn rfl) (All_of (.cons (mG 0 rfl) (.cons (mG 1 rfl) .nil)))) rfl (by kernel_rfl) ?_ ?_
    · rintro _ _ _ ⟨v336, v338, rfl, rfl, rfl⟩
      refine ⟨(PartP.on ⟨trivial, trivial, trivial⟩ ⟨trivial, ⟨⟨0, rfl⟩, ⟨1, rfl⟩, trivial⟩, trivial⟩), ?_⟩
      refine VB.one1 (i := 2) (listed' := LB 6 7) (by kernel_rfl) rfl ((op_load 0 7 rfl rfl TI27 rfl (fun h => absurd h (by decide))).op1') rfl (by kernel_rfl) (PartP.on ⟨trivial, trivial, trivial⟩ ⟨trivial, ⟨⟨0, rfl⟩, ⟨1, rfl⟩, trivial⟩, trivial⟩) <|
       VB.oneC (i := 3) (listed' := LB 6 15) (by kernel_rfl) rfl (o_call0 FO8 (tarrylaw05_few.ok k l2_0 l2_1 a2_2 a2_3 a2_4 l2_5 l2_6 v2_0 v2_1 v2_5 v2_6 r463 r464 t465 t466 t467 r468 r469 hA470) rfl rfl (ltn rfl) (All_of (.cons (mG 2 rfl) (.cons (mG 3 rfl) (.cons (mG 4 rfl) (.cons (mG 5 rfl) .nil)))))) rfl (by kernel_rfl) <|
       ?_
      rintro _ _ _ ⟨v472, v474, v476, v478, rfl, rfl, rfl⟩
      refine ⟨(PartP.on ⟨trivial, trivial, trivial⟩ ⟨trivial, ⟨⟨0, rfl⟩, ⟨1, rfl⟩, trivial⟩, trivial⟩), ?_⟩
      exact VB.one1 (i := 4) (listed' := LB 6 31) (by kernel_rfl) rfl (o_store 1 2 rfl rfl rfl TI25 (.agg (.r 4 rfl (.r 5 rfl .nil))) rfl (len rfl)) rfl (by kernel_rfl) (PartP.off (by kernel_rfl) ⟨trivial, trivial, trivial⟩) <|
       VB.one1 (i := 5) (listed' := LB 6 63) (by kernel_rfl) rfl (o_store 0 7 rfl rfl rfl TI27 (.agg (.r 0 rfl (.r 1 rfl (.c rfl (.c rfl (.c rfl (.r 2 rfl (.r 3 rfl .nil)))))))) rfl (len rfl)) rfl (by kernel_rfl) (PartP.off (by kernel_rfl) ⟨trivial, trivial, trivial⟩) <| VB.done (by kernel_rfl) <|
       VN.meet6 v472 v474 v476 v478 v336 v338 [0, 1] [0, 1, 2, 3, 4, 5] trivial
    refine VBll.cons1 (listed' := LB 6 5) rfl ((op_load 0 7 rfl rfl TI27 rfl (fun h => absurd h (by decide))).op1') rfl (by kernel_rfl) (PartP.on ⟨trivial, trivial, trivial⟩ ⟨trivial, ⟨⟨0, rfl⟩, ⟨1, rfl⟩, trivial⟩, trivial⟩) ?_ VBll.nil
    refine VB.oneC (i := 1) (listed' := LB 6 7) (by kernel_rfl) rfl (o_call0 FO7 (tarrylaw05_disk.ok k l1_0 l1_1 v1_0 v1_1 r332 r333 hA334) rfl rfl (ltn rfl) (All_of (.cons (mG 0 rfl) (.cons (mG 1 rfl) .nil)))) rfl (by kernel_rfl) <| ?_
    rintro _ _ _ ⟨v336, v338, rfl, rfl, rfl⟩
    refine ⟨(PartP.on ⟨trivial, trivial, trivial⟩ ⟨trivial, ⟨⟨0, rfl⟩, ⟨1, rfl⟩, trivial⟩, trivial⟩), ?_⟩
    refine VB.oneC (i := 3) (listed' := LB 6 15) (by kernel_rfl) rfl (o_call0 FO8 (tarrylaw05_few.ok k l2_0 l2_1 a2_2 a2_3 a2_4 l2_5 l2_6 v2_0 v2_1 v2_5 v2_6 r463 r464 t465 t466 t467 r468 r469 hA470) rfl rfl (ltn rfl) (All_of (.cons (mG 2 rfl) (.cons (mG 3 rfl) (.cons (mG 4 rfl) (.cons (mG 5 rfl) .nil)))))) rfl (by kernel_rfl) <|
     ?_
    rintro _ _ _ ⟨v472, v474, v476, v478, rfl, rfl, rfl⟩
    refine ⟨(PartP.on ⟨trivial, trivial, trivial⟩ ⟨trivial, ⟨⟨0, rfl⟩, ⟨1, rfl⟩, trivial⟩, trivial⟩), ?_⟩
    exact VB.one1 (i := 4) (listed' := LB 6 31) (by kernel_rfl) rfl (o_store 1 2 rfl rfl rfl TI25 (.agg (.r 4 rfl (.r 5 rfl .nil))) rfl (len rfl)) rfl (by kernel_rfl) (PartP.off (by kernel_rfl) ⟨trivial, trivial, trivial⟩) <|
     VB.one1 (i := 5) (listed' := LB 6 63) (by kernel_rfl) rfl (o_store 0 7 rfl rfl rfl TI27 (.agg (.r 0 rfl (.r 1 rfl (.c rfl (.c rfl (.c rfl (.r 2 rfl (.r 3 rfl .nil)))))))) rfl (len rfl)) rfl (by kernel_rfl) (PartP.off (by kernel_rfl) ⟨trivial, trivial, trivial⟩) <| VB.done (by kernel_rfl) <|
     VN.meet6 v472 v474 v476 v478 v336 v338 [0, 1] [0, 1, 2, 3, 4, 5] trivial
  intro v472 v474 v476 v478 v336 v338 _
  refine sr <| va (op_load 1 2 rfl rfl TI25 rfl (fun h => absurd h (by decide))) <| VL.freezeRow' 4 rfl <| VL.freezeRow' 4 rfl <| ?_
  replace h := bd h
  obtain ⟨⟨r6560, r6561, t6562, t6563, t6564, r6565, r6566, t6567⟩, hA6568, h⟩ := h
  dsimp only at h
  refine sC (o_call0 FO9 (journal_Open.ok k r332 r333 v336 v338 r6560 r6561 t6562 t6563 t6564 r6565 r6566 t6567 hA6568) rfl rfl (ltn rfl) (All_of (.cons (mG 1 rfl) (.cons (mG 0 rfl) .nil)))) <| ?_
  rintro _ _ _ ⟨v6570, v6572, v6574, v6576, rfl, rfl, rfl⟩
  refine vm rfl <| va (op_extract rfl rfl) <| va (op_extract rfl rfl) <| sG (o_alloc Z27 ZL27) fun g6577 => s1 (o_store 0 7 rfl rfl rfl TI27 (.agg (.f 0 rfl (.f 1 rfl (.c rfl (.c rfl (.c rfl (.r 0 rfl (.r 1 rfl .nil)))))))) rfl (len rfl)) <| vs rfl <| nx <|
   va (op_load 2 2 rfl rfl TI25 rfl (fun h => absurd h (by decide))) <| ?_
  replace h := bd h
  obtain ⟨⟨r24799, r24800, t24801, t24802, t24803, r24804, r24805, t24806⟩, hA24807, h⟩ := h
  dsimp only at h
  refine sC (o_call0 FO10 (tarryref05_Open.ok k r332 r333 v336 v338 r24799 r24800 t24801 t24802 t24803 r24804 r24805 t24806 hA24807) rfl rfl (ltn rfl) (All_of (.cons (mG 3 rfl) (.cons (mG 2 rfl) .nil)))) <| ?_
  rintro _ _ _ ⟨v24809, v24811, v24813, v24815, rfl, rfl, rfl⟩
  refine sG (o_alloc Z34 ZL34) fun g24816 => s1 (o_store 0 8 rfl rfl rfl TI34 (.agg (.f 0 rfl (.f 1 rfl (.c rfl (.c rfl (.c rfl (.r 0 rfl (.r 1 rfl (.c rfl .nil))))))))) rfl (len rfl)) <| ds <| VC.letter ((t6567 != t24806)) fun b27617 hb27617 => ?_
  replace h := iC h
  rcases h with ⟨c27618, h⟩ | ⟨c27618, h⟩
  · obtain rfl : b27617 = false := hb27617.symm.trans (bne_eq_false_iff_eq.2 c27618)
    replace h := bd h
    obtain ⟨t27619, hA27620, h⟩ := h
    replace h := iC h
    rcases h with ⟨c27621, h⟩ | ⟨c27621, h⟩
    · obtain rfl := c27621
      replace h := bd h
      obtain ⟨t27622, hA27623, h⟩ := h
      replace h := bd h
      obtain ⟨t27624, hA27625, h⟩ := h
      refine VC.letter ((!(t27622 == t27624))) fun b27626 hb27626 => ?_
      replace h := iC h
      rcases h with ⟨c27627, h⟩ | ⟨c27627, h⟩
      · obtain rfl : b27626 = false := hb27626.symm.trans (by rw [c27627]; simp)
        replace h := bd h
        obtain ⟨t27628, hA27629, h⟩ := h
        replace h := iC h
        rcases h with ⟨c27630, h⟩ | ⟨c27630, h⟩
        · obtain rfl := c27630
          refine VC.join0 (⟨127, [(0, iv a0), (6, .bool false), (46, .bool false)], [], [], []⟩) (True) ?_ ?_
          · refine dw ⟨0, [], [], [(g24816, 34, [v24809, v24811, iv t24801, iv t24802, iv t24803, v24813, v24815, iv t24806]), (g6577, 27, [v6570, v6572, iv t6562, iv t6563, iv t6564, v6574, v6576]), (g8, 27, [v472, v474, iv t465, iv t466, iv t467, v476, v478])], []⟩ 22 <|
             av 0 1 rfl (mv rfl) <| av 1 3 rfl (op_fieldAddr FI34_1 rfl (add_at _ _ _)) <| av 2 7 rfl (op_load 0 1 rfl rfl TI30 rfl (by decide)) <| av 3 15 rfl (op_cmp rfl rfl (congrArg some hb27617)) <| av 4 31 rfl (mv rfl) <| av 5 63 rfl (op_load 1 7 rfl rfl TI27 rfl (fun h => absurd h (by decide))) <|
             av 6 127 rfl (op_fieldAddr FI34_0 rfl (add_at _ _ _)) <| av 7 255 rfl (op_load 0 7 rfl rfl TI27 rfl (fun h => absurd h (by decide))) <|
             aC 8 511 rfl (o_call_b0 FO11 (tarryref05_Like.ok k r6560 r6561 t6562 t6563 t6564 r6565 r6566 r24799 r24800 t24801 t24802 t24803 r24804 r24805 v6570 v6572 v6574 v6576 v24809 v24811 v24813 v24815 true hA27620) rfl rfl (ltn rfl) (All_of (.cons (.inl (mG 2 rfl)) (.cons (.inl (mG 3 rfl)) (.cons (.inr (.inl ⟨_, mG 2 rfl, rfl⟩)) (.cons (.inr (.inl ⟨_, mG 3 rfl, rfl⟩)) (.cons (.inl (mG 0 rfl)) (.cons (.inl (mG 1 rfl)) (.cons (.inr (.inl ⟨_, mG 0 rfl, rfl⟩)) (.cons (.inr (.inl ⟨_, mG 1 rfl, rfl⟩)) .nil))))))))) (by rintro _ _ _ ⟨rfl, rfl, rfl⟩; rfl)) <|
             ?_
            rintro _ _ _ ⟨rfl, rfl, rfl⟩
            refine ⟨⟨trivial, ⟨⟨0, rfl⟩, ⟨1, rfl⟩, ⟨2, rfl⟩, trivial⟩, trivial⟩, ?_⟩
            refine av 9 1023 rfl (op_not rfl rfl) <| av 10 2047 rfl (op_pick rfl rfl) <| av 11 4095 rfl (mv rfl) <| av 12 8191 rfl (op_load 2 7 rfl rfl TI27 rfl (fun h => absurd h (by decide))) <| av 14 24575 rfl (op_load 2 7 rfl rfl TI27 rfl (fun h => absurd h (by decide))) <|
             aC 13 32767 rfl (o_call_b0 FO12 (journal_Right.ok k r463 r464 t465 t466 t467 r468 r469 v472 v474 v476 v478 t27622 hA27623) rfl rfl (ltn rfl) (All_of (.cons (.inr (.inl ⟨_, mG 4 rfl, rfl⟩)) (.cons (.inr (.inl ⟨_, mG 5 rfl, rfl⟩)) (.cons (.inr (.inl ⟨_, mG 6 rfl, rfl⟩)) (.cons (.inr (.inl ⟨_, mG 7 rfl, rfl⟩)) .nil))))) (by rintro _ _ _ ⟨rfl, rfl, rfl⟩; rfl)) <|
             ?_
            rintro _ _ _ ⟨rfl, rfl, rfl⟩
            refine ⟨⟨trivial, ⟨⟨0, rfl⟩, ⟨1, rfl⟩, ⟨2, rfl⟩, trivial⟩, trivial⟩, ?_⟩
            refine aC 15 65535 rfl (o_call_b0 FO13 (tarryref05_Right.ok k r463 r464 t465 t466 t467 r468 r469 v472 v474 v476 v478 t27624 hA27625) rfl rfl (ltn rfl) (All_of (.cons (.inr (.inl ⟨_, mG 4 rfl, rfl⟩)) (.cons (.inr (.inl ⟨_, mG 5 rfl, rfl⟩)) (.cons (.inr (.inl ⟨_, mG 6 rfl, rfl⟩)) (.cons (.inr (.inl ⟨_, mG 7 rfl, rfl⟩)) .nil))))) (by rintro _ _ _ ⟨rfl, rfl, rfl⟩; rfl)) <|
             ?_
            rintro _ _ _ ⟨rfl, rfl, rfl⟩
            refine ⟨⟨trivial, ⟨⟨0, rfl⟩, ⟨1, rfl⟩, ⟨2, rfl⟩, trivial⟩, trivial⟩, ?_⟩
            refine av 16 131071 rfl (op_eqb Try.underlying4 rfl rfl (congrArg some hb27626)) <| av 17 262143 rfl (op_pick rfl rfl) <| av 18 524287 rfl (mv rfl) <| aC 19 1048575 rfl (o_call0 FO14 (tarrylaw05_alive.ok k true hA27629) rfl rfl (ltn rfl) (All_of .nil)) <| ?_
            rintro _ _ _ ⟨rfl, rfl, rfl⟩
            refine ⟨⟨trivial, ⟨⟨0, rfl⟩, ⟨1, rfl⟩, ⟨2, rfl⟩, trivial⟩, trivial⟩, ?_⟩
            exact av 20 2097151 rfl (op_not rfl rfl) <| av 21 4194303 rfl (op_pick rfl rfl) <| ad <| VN.meet0 [] [] trivial
          intro _
          refine cf <| sk <| sr <| vm rfl <| ?_
          replace h := bd h
          obtain ⟨⟨r27631, r27632, t27633, t27634, t27635, r27636, r27637, t27638⟩, hA27639, h⟩ := h
          dsimp only at h
          refine sC (o_call0 FO15 (journal_Format.ok k a0 r27631 r27632 t27633 t27634 t27635 r27636 r27637 t27638 hA27639) rfl rfl (ltn rfl) (All_of .nil)) <| ?_
          rintro _ _ _ ⟨v27641, v27643, v27645, v27647, rfl, rfl, rfl⟩
          refine vm rfl <| va (op_extract rfl rfl) <| va (op_extract rfl rfl) <| sG (o_alloc Z27 ZL27) fun g27648 => s1 (o_store 0 7 rfl rfl rfl TI27 (.agg (.f 0 rfl (.f 1 rfl (.c rfl (.c rfl (.c rfl (.r 0 rfl (.r 1 rfl .nil)))))))) rfl (len rfl)) <| vs rfl <| ds <|
           VC.join1 (fun (q27923 : Bool) => ⟨127, [(0, iv a0), (6, .bool false), (10, pt g27648 0), (11, iv t27638), (57, .bool q27923)], [.row v27641 1 (r27631.map enc_str), .row v27643 2 (r27632.map enc55)], [(g27648, 27, [v27641, v27643, iv t27633, iv t27634, iv t27635, v27645, v27647])], [(v27645, 9, 1, r27636.map enc_str), (v27647, 9, 1, r27637.map enc_str)]⟩) (fun (q27923 : Bool) => tarrylaw05_JournalOpens.j2 k a0 r27631 r27632 r27636 r27637 t27633 t27634 t27635 t27638 q27923 = some r1) ?_ ?_
          · refine rg <| vm rfl <| VL.letter (decide (a0 < 8)) fun b27920 hb27920 => va (op_cmp rfl rfl (congrArg some hb27920)) <| vm rfl <| ?_
            replace h := iC h
            rcases h with ⟨c27921, h⟩ | ⟨c27921, h⟩
            · cases lT c27921 hb27920
              refine un rfl <| un rfl <| va (op_pick rfl rfl) <| dn <| VN.meet1 true [0] [0, 1] h
            cases lF c27921 hb27920
            refine vm rfl <| VL.letter (decide (a0 > 512)) fun b27922 hb27922 => va (op_cmp rfl rfl (congrArg some hb27922)) <| va (op_pick rfl rfl) <| dn <| ?_
            subst hb27922
            refine VN.meet1 (decide (a0 > 512)) [0] [0, 1] h
          clear h
          intro q27923 h
          unfold tarrylaw05_JournalOpens.j2 at h
          replace h := iC h
          rcases h with ⟨c27924, h⟩ | ⟨c27924, h⟩
          · obtain rfl := c27924
            refine ct <| sr <| vm rfl <| VL.letter ((t27638 == 1)) fun b27933 hb27933 => va (op_cmp rfl rfl (congrArg some hb27933)) <| vm rfl <| ?_
            replace h := iC h
            rcases h with ⟨c27934, h⟩ | ⟨c27934, h⟩
            · obtain rfl : b27933 = true := hb27933.symm.trans (beq_iff_eq.2 c27934)
              refine va (op_load 0 7 rfl rfl TI27 rfl (fun h => absurd h (by decide))) <| va (op_build (vals := []) (vcs := []) (cells := [sn, sn, iv 0, iv 0, iv 0, sn, sn]) SI27 rfl .nil (by kernel_rfl)) <| VL.nilFact' 1 <|
               VL.nilFact' 2 <| VL.nilFact' 1 <| VL.nilFact' 1 <| ?_
              replace h := bd h
              obtain ⟨t27939, hA27940, h⟩ := h
              refine sC (o_call_b0 FO11 (tarryref05_Like.ok k r27631 r27632 t27633 t27634 t27635 r27636 r27637 [] [] 0 0 0 [] [] v27641 v27643 v27645 v27647 sn sn sn sn t27939 hA27940) rfl rfl (ltn rfl) (All_of (.cons (.inl (mG 4 rfl)) (.cons (.inl (mG 5 rfl)) (.cons (.inr (.inl ⟨_, mG 0 rfl, rfl⟩)) (.cons (.inr (.inl ⟨_, mG 1 rfl, rfl⟩)) (.cons (.inl (mG 3 rfl)) (.cons (.inl (mG 2 rfl)) (.cons (.inl (mG 1 rfl)) (.cons (.inl (mG 0 rfl)) .nil))))))))) (by rintro _ _ _ ⟨rfl, rfl, rfl⟩; rfl)) <|
               ?_
              rintro _ _ _ ⟨rfl, rfl, rfl⟩
              refine va (op_pick rfl rfl) <| vs rfl <| dt <| VC.ret <| VR.then <| ?_
              obtain rfl := Option.some.inj h
              exact rq 6 rfl ⟨rfl, rfl, rfl⟩
            obtain rfl : b27933 = false := hb27933.symm.trans (beq_eq_false_iff_ne.2 c27934)
            refine un rfl <| un rfl <| un rfl <| va (op_pick rfl rfl) <| vs rfl <| dt <| VC.ret <| VR.then <| ?_
            cases h
          obtain rfl := Bool.eq_false_iff.2 c27924
          refine cf <| sk <| sq <| VC.letter ((t27638 != 0)) fun b27958 hb27958 => ?_
          replace h := iC h
          rcases h with ⟨c27959, h⟩ | ⟨c27959, h⟩
          · obtain rfl : b27958 = false := hb27958.symm.trans (bne_eq_false_iff_eq.2 c27959)
            refine VC.letter (((r27631.length : Int) != a0)) fun b27960 hb27960 => ?_
            replace h := iC h
            rcases h with ⟨c27961, h⟩ | ⟨c27961, h⟩
            · obtain rfl : b27960 = false := hb27960.symm.trans (bne_eq_false_iff_eq.2 c27961)
              replace h := bd h
              obtain ⟨x27962, hx27962, h⟩ := h
              replace h := bd h
              obtain ⟨t27963, hA27964, h⟩ := h
              refine VC.letter ((x27962 != t27963)) fun b27965 hb27965 => ?_
              replace h := iC h
              rcases h with ⟨c27966, h⟩ | ⟨c27966, h⟩
              · obtain rfl : b27965 = false := hb27965.symm.trans (bne_of_t c27966)
                refine VC.letter ((t27633 != 1)) fun b27967 hb27967 => ?_
                replace h := iC h
                rcases h with ⟨c27968, h⟩ | ⟨c27968, h⟩
                · obtain rfl : b27967 = false := hb27967.symm.trans (bne_eq_false_iff_eq.2 c27968)
                  refine VC.letter ((t27634 != 0)) fun b27969 hb27969 => ?_
                  replace h := iC h
                  rcases h with ⟨c27970, h⟩ | ⟨c27970, h⟩
                  · obtain rfl : b27969 = false := hb27969.symm.trans (bne_eq_false_iff_eq.2 c27970)
                    refine VC.letter ((t27635 != 0)) fun b27971 hb27971 => ?_
                    replace h := iC h
                    rcases h with ⟨c27972, h⟩ | ⟨c27972, h⟩
                    · obtain rfl : b27971 = false := hb27971.symm.trans (bne_eq_false_iff_eq.2 c27972)
                      refine VC.letter (((wrap64 ((r27637.length : Int) + (r27636.length : Int))) != 0)) fun b27973 hb27973 => VC.open (m := r27631.length) 0 lenm rfl (pos_get hx27962) <| ?_
                      rintro ad27732 n27733 rfl
                      refine VC.join0 (⟨127, [(6, .bool false), (10, pt g27648 0), (108, .bool b27973)], [.row (.slice (some ad27732) r27631.length n27733) 1 (r27631.map enc_str), .row v27643 2 (r27632.map enc55)], [(g27648, 27, [(.slice (some ad27732) r27631.length n27733), v27643, iv t27633, iv t27634, iv t27635, v27645, v27647])], [(v27645, 9, 1, r27636.map enc_str), (v27647, 9, 1, r27637.map enc_str)]⟩) (True) ?_ ?_
                      · refine dw ⟨0, [], [.row (.slice (some ad27732) r27631.length n27733) 1 (r27631.map enc_str)], [(g27648, 27, [(.slice (some ad27732) r27631.length n27733), v27643, iv t27633, iv t27634, iv t27635, v27645, v27647])], [(v27645, 9, 1, r27636.map enc_str), (v27647, 9, 1, r27637.map enc_str)]⟩ 44 <|
                         av 0 1 rfl (mv rfl) <| av 1 3 rfl (op_cmp rfl rfl (congrArg some hb27958)) <| av 2 7 rfl (mv rfl) <| av 3 15 rfl (op_fieldAddr FI27_0 rfl (add_at _ _ _)) <| av 4 31 rfl (op_fieldAddr FI25_0 rfl (add_at _ _ _)) <| av 5 63 rfl (op_load 0 1 rfl rfl TI22 rfl (by decide)) <|
                         av 6 127 rfl (op_len (m := r27631.length) 0 lenm Try.underlying22 rfl rfl) <| av 7 255 rfl (mv rfl) <| av 8 511 rfl (op_cmp rfl rfl (congrArg some hb27960)) <| av 9 1023 rfl (op_pick rfl rfl) <| av 10 2047 rfl (mv rfl) <| av 11 4095 rfl (op_fieldAddr FI27_0 rfl (add_at _ _ _)) <|
                         av 12 8191 rfl (op_fieldAddr FI25_0 rfl (add_at _ _ _)) <| av 13 16383 rfl (op_load 0 1 rfl rfl TI22 rfl (by decide)) <| av 14 32767 rfl (op_indexAddr Try.underlying22 TI9 rfl rfl (by decide) (lt_get (by decide) hx27962) rfl) <|
                         av 15 65535 rfl (op_load_row (sz := 1) (o := 0) 0 1 1 rfl rfl (get_map hx27962) TI9 rfl (by decide)) <| aC 16 131071 rfl (o_call0 FO16 (tarryref05_Head.ok k 1 0 0 t27963 hA27964) rfl rfl (ltn rfl) (All_of .nil)) <| ?_
                        rintro _ _ _ ⟨rfl, rfl, rfl⟩
                        refine ⟨⟨⟨⟨0, rfl⟩, trivial⟩, ⟨⟨0, rfl⟩, trivial⟩, ⟨⟨0, rfl⟩, ⟨1, rfl⟩, trivial⟩⟩, ?_⟩
                        exact av 17 262143 rfl (op_cmps rfl rfl (congrArg some hb27965)) <| av 18 524287 rfl (op_pick rfl rfl) <| av 19 1048575 rfl (mv rfl) <| av 20 2097151 rfl (op_fieldAddr FI27_1 rfl (add_at _ _ _)) <| av 21 4194303 rfl (op_load 0 1 rfl rfl TI3 rfl (by decide)) <|
                         av 22 8388607 rfl (op_cmp rfl rfl (congrArg some hb27967)) <| av 23 16777215 rfl (op_pick rfl rfl) <| av 24 33554431 rfl (mv rfl) <| av 25 67108863 rfl (op_fieldAddr FI27_2 rfl (add_at _ _ _)) <| av 26 134217727 rfl (op_load 0 1 rfl rfl TI3 rfl (by decide)) <|
                         av 27 268435455 rfl (op_cmp rfl rfl (congrArg some hb27969)) <| av 28 536870911 rfl (op_pick rfl rfl) <| av 29 1073741823 rfl (mv rfl) <| av 30 2147483647 rfl (op_fieldAddr FI27_3 rfl (add_at _ _ _)) <| av 31 4294967295 rfl (op_load 0 1 rfl rfl TI3 rfl (by decide)) <|
                         av 32 8589934591 rfl (op_cmp rfl rfl (congrArg some hb27971)) <| av 33 17179869183 rfl (op_pick rfl rfl) <| av 34 34359738367 rfl (mv rfl) <| av 35 68719476735 rfl (op_fieldAddr FI27_5 rfl (add_at _ _ _)) <| av 36 137438953471 rfl (op_load 0 1 rfl rfl TI22 rfl (by decide)) <|
                         av 37 274877906943 rfl (op_len_own (m := r27637.length) 1 lenm Try.underlying22 rfl rfl) <| av 38 549755813887 rfl (op_fieldAddr FI27_4 rfl (add_at _ _ _)) <| av 39 1099511627775 rfl (op_load 0 1 rfl rfl TI22 rfl (by decide)) <|
                         av 40 2199023255551 rfl (op_len_own (m := r27636.length) 0 lenm Try.underlying22 rfl rfl) <| av 41 4398046511103 rfl (op_ari64 rfl rfl rfl) <| av 42 8796093022207 rfl (op_cmp rfl rfl (congrArg some hb27973)) <| av 43 17592186044415 rfl (op_pick rfl rfl) <| ad <| VN.meet0 [0] [0, 1] trivial
                      intro _
                      replace h := iC h
                      rcases h with ⟨c27974, h⟩ | ⟨c27974, h⟩
                      · obtain rfl : b27973 = false := hb27973.symm.trans (bne_eq_false_iff_eq.2 c27974)
                        refine cf <| sk <| sq <| sr <| va (op_fieldAddr FI27_0 rfl (add_at _ _ _)) <| va (op_fieldAddr FI25_0 rfl (add_at _ _ _)) <| va (op_load 0 1 rfl rfl TI22 rfl (by decide)) <| va (op_len (m := r27631.length) 0 lenm Try.underlying22 rfl rfl) <| vm rfl <| dt <| VC.block <|
                         VC.loop1 (fun (i28072 : Int) => ⟨127, [(6, .bool false), (111, (.slice (some ad27732) r27631.length n27733)), (112, iv (r27631.length : Int)), (113, iv i28072)], [.row (.slice (some ad27732) r27631.length n27733) 1 (r27631.map enc_str)], [], []⟩) (fun (ml4 : Nat) (i28072 : Int) => tarrylaw05_JournalOpens.l4 k r27631 ml4 i28072 = some r1) k 0 [] [] h ⟨rfl, ⟨rfl, rfl, rfl, rfl, trivial⟩, ⟨⟨0, rfl⟩, trivial⟩, rfl, by decide, rfl, by decide⟩ (by intros; simp [tarrylaw05_JournalOpens.l4]) <|
                         ?_
                        clear h
                        intro ml4 ihl4 i28072 h
                        simp only [tarrylaw05_JournalOpens.l4] at h
                        refine sr <| VL.letter (decide (i28072 < (r27631.length : Int))) fun b28102 hb28102 => va (op_cmp rfl rfl (congrArg some hb28102)) <| ds <| ?_
                        replace h := iC h
                        rcases h with ⟨c28104, h⟩ | ⟨c28104, h⟩
                        · cases lT c28104 hb28102
                          refine ct <| sk <| sq <| VC.block <| sr <| vm rfl <| ?_
                          replace h := iN h
                          obtain ⟨c28118, h⟩ := h
                          replace h := bd h
                          obtain ⟨x28119, hx28119, h⟩ := h
                          refine va (op_indexAddr Try.underlying22 TI9 rfl rfl c28118 (lt_get c28118 hx28119) rfl) <| va (op_load_row (sz := 1) (o := 0) 0 i28072.toNat 1 rfl rfl (get_map hx28119) TI9 rfl (by decide)) <| vs rfl <| vs rfl <| nx <| vm rfl <|
                           VL.letter ((i28072 != 1)) fun b28125 hb28125 => va (op_cmp rfl rfl (congrArg some hb28125)) <| vm rfl <| ?_
                          replace h := iC h
                          rcases h with ⟨c28126, h⟩ | ⟨c28126, h⟩
                          · obtain rfl : b28125 = false := hb28125.symm.trans (bne_eq_false_iff_eq.2 c28126)
                            refine un rfl <| un rfl <| un rfl <| un rfl <| va (op_pick rfl rfl) <| dt <| cf <| VC.skip <| VN.block <| tr <| va (op_ari64 rfl rfl rfl) <| vm rfl <| dn <| VN.again [] [] (ihl4 (wrap64 (i28072 + 1)) h)
                          obtain rfl : b28125 = true := hb28125.symm.trans (bne_iff_ne.2 c28126)
                          refine vm rfl <| o_makeSliceI (k := .u8) Try.underlying41 EI5 (by kernel_rfl) rfl rfl (by decide) (ltn rfl) rfl fun g28127 => ?_
                          replace h := iN h
                          obtain ⟨c28128, h⟩ := h
                          refine va (op_bytesStrB 0 Try.underlying41 Try.underlying9 Try.underlying5 rfl rfl c28128) <| VL.letter ((x28119 != (strOfNums (List.replicate 64 (0 : Int))))) fun b28129 hb28129 => va (op_cmps rfl rfl (congrArg some hb28129)) <| va (op_pick rfl rfl) <| dt <| ?_
                          replace h := iC h
                          rcases h with ⟨c28130, h⟩ | ⟨c28130, h⟩
                          · obtain rfl : b28129 = false := hb28129.symm.trans (bne_of_t c28130)
                            refine cf <| VC.skip <| VN.block <| tr <| va (op_ari64 rfl rfl rfl) <| vm rfl <| dn <| VN.again [] [] (ihl4 (wrap64 (i28072 + 1)) h)
                          obtain rfl : b28129 = true := hb28129.symm.trans (bne_of_f c28130)
                          refine ct <| sr <| vs rfl <| dt <| VC.ret <| VR.block <| VR.then <| VR.then <| VR.block <| VR.then <| ?_
                          cases h
                        cases lF c28104 hb28102
                        refine cf <| VC.exit <| VX.then <| VX.then <| VX.hit <| tx <| vs rfl <| dt <| VC.ret <| ?_
                        obtain rfl := Option.some.inj h
                        exact rq 6 rfl ⟨rfl, rfl, rfl⟩
                      obtain rfl : b27973 = true := hb27973.symm.trans (bne_iff_ne.2 c27974)
                      refine ct <| sr <| vs rfl <| dt <| VC.ret <| VR.then <| ?_
                      cases h
                    obtain rfl : b27971 = true := hb27971.symm.trans (bne_iff_ne.2 c27972)
                    refine VC.open (m := r27631.length) 0 lenm rfl (pos_get hx27962) <| ?_
                    rintro ad27732 n27733 rfl
                    refine VC.join0 (⟨127, [(6, .bool false), (10, pt g27648 0), (108, .bool true)], [.row (.slice (some ad27732) r27631.length n27733) 1 (r27631.map enc_str), .row v27643 2 (r27632.map enc55)], [(g27648, 27, [(.slice (some ad27732) r27631.length n27733), v27643, iv t27633, iv t27634, iv t27635, v27645, v27647])], [(v27645, 9, 1, r27636.map enc_str), (v27647, 9, 1, r27637.map enc_str)]⟩) (True) ?_ ?_
                    · refine dw ⟨0, [], [.row (.slice (some ad27732) r27631.length n27733) 1 (r27631.map enc_str)], [(g27648, 27, [(.slice (some ad27732) r27631.length n27733), v27643, iv t27633, iv t27634, iv t27635, v27645, v27647])], []⟩ 44 <| av 0 1 rfl (mv rfl) <|
                       av 1 3 rfl (op_cmp rfl rfl (congrArg some hb27958)) <| av 2 7 rfl (mv rfl) <| av 3 15 rfl (op_fieldAddr FI27_0 rfl (add_at _ _ _)) <| av 4 31 rfl (op_fieldAddr FI25_0 rfl (add_at _ _ _)) <| av 5 63 rfl (op_load 0 1 rfl rfl TI22 rfl (by decide)) <|
                       av 6 127 rfl (op_len (m := r27631.length) 0 lenm Try.underlying22 rfl rfl) <| av 7 255 rfl (mv rfl) <| av 8 511 rfl (op_cmp rfl rfl (congrArg some hb27960)) <| av 9 1023 rfl (op_pick rfl rfl) <| av 10 2047 rfl (mv rfl) <| av 11 4095 rfl (op_fieldAddr FI27_0 rfl (add_at _ _ _)) <|
                       av 12 8191 rfl (op_fieldAddr FI25_0 rfl (add_at _ _ _)) <| av 13 16383 rfl (op_load 0 1 rfl rfl TI22 rfl (by decide)) <| av 14 32767 rfl (op_indexAddr Try.underlying22 TI9 rfl rfl (by decide) (lt_get (by decide) hx27962) rfl) <|
                       av 15 65535 rfl (op_load_row (sz := 1) (o := 0) 0 1 1 rfl rfl (get_map hx27962) TI9 rfl (by decide)) <| aC 16 131071 rfl (o_call0 FO16 (tarryref05_Head.ok k 1 0 0 t27963 hA27964) rfl rfl (ltn rfl) (All_of .nil)) <| ?_
                      rintro _ _ _ ⟨rfl, rfl, rfl⟩
                      refine ⟨⟨⟨⟨0, rfl⟩, trivial⟩, ⟨⟨0, rfl⟩, trivial⟩, trivial⟩, ?_⟩
                      exact av 17 262143 rfl (op_cmps rfl rfl (congrArg some hb27965)) <| av 18 524287 rfl (op_pick rfl rfl) <| av 19 1048575 rfl (mv rfl) <| av 20 2097151 rfl (op_fieldAddr FI27_1 rfl (add_at _ _ _)) <| av 21 4194303 rfl (op_load 0 1 rfl rfl TI3 rfl (by decide)) <|
                       av 22 8388607 rfl (op_cmp rfl rfl (congrArg some hb27967)) <| av 23 16777215 rfl (op_pick rfl rfl) <| av 24 33554431 rfl (mv rfl) <| av 25 67108863 rfl (op_fieldAddr FI27_2 rfl (add_at _ _ _)) <| av 26 134217727 rfl (op_load 0 1 rfl rfl TI3 rfl (by decide)) <|
                       av 27 268435455 rfl (op_cmp rfl rfl (congrArg some hb27969)) <| av 28 536870911 rfl (op_pick rfl rfl) <| av 29 1073741823 rfl (mv rfl) <| av 30 2147483647 rfl (op_fieldAddr FI27_3 rfl (add_at _ _ _)) <| av 31 4294967295 rfl (op_load 0 1 rfl rfl TI3 rfl (by decide)) <|
                       av 32 8589934591 rfl (op_cmp rfl rfl (congrArg some hb27971)) <| av 33 17179869183 rfl (op_pick rfl rfl) <| av 34 34359738367 rfl (mv rfl) <| au 35 68719476735 rfl rfl <| au 36 137438953471 rfl rfl <| au 37 274877906943 rfl rfl <| au 38 549755813887 rfl rfl <| au 39 1099511627775 rfl rfl <|
                       au 40 2199023255551 rfl rfl <| au 41 4398046511103 rfl rfl <| au 42 8796093022207 rfl rfl <| av 43 17592186044415 rfl (op_pick rfl rfl) <| ad <| VN.meet0 [0] [0, 1] trivial
                    intro _
                    refine ct <| sr <| vs rfl <| dt <| VC.ret <| VR.then <| ?_
                    cases h
                  obtain rfl : b27969 = true := hb27969.symm.trans (bne_iff_ne.2 c27970)
                  refine VC.open (m := r27631.length) 0 lenm rfl (pos_get hx27962) <| ?_
                  rintro ad27732 n27733 rfl
                  refine VC.join0 (⟨127, [(6, .bool false), (10, pt g27648 0), (108, .bool true)], [.row (.slice (some ad27732) r27631.length n27733) 1 (r27631.map enc_str), .row v27643 2 (r27632.map enc55)], [(g27648, 27, [(.slice (some ad27732) r27631.length n27733), v27643, iv t27633, iv t27634, iv t27635, v27645, v27647])], [(v27645, 9, 1, r27636.map enc_str), (v27647, 9, 1, r27637.map enc_str)]⟩) (True) ?_ ?_
                  · refine dw ⟨0, [], [.row (.slice (some ad27732) r27631.length n27733) 1 (r27631.map enc_str)], [(g27648, 27, [(.slice (some ad27732) r27631.length n27733), v27643, iv t27633, iv t27634, iv t27635, v27645, v27647])], []⟩ 44 <| av 0 1 rfl (mv rfl) <|
                     av 1 3 rfl (op_cmp rfl rfl (congrArg some hb27958)) <| av 2 7 rfl (mv rfl) <| av 3 15 rfl (op_fieldAddr FI27_0 rfl (add_at _ _ _)) <| av 4 31 rfl (op_fieldAddr FI25_0 rfl (add_at _ _ _)) <| av 5 63 rfl (op_load 0 1 rfl rfl TI22 rfl (by decide)) <|
                     av 6 127 rfl (op_len (m := r27631.length) 0 lenm Try.underlying22 rfl rfl) <| av 7 255 rfl (mv rfl) <| av 8 511 rfl (op_cmp rfl rfl (congrArg some hb27960)) <| av 9 1023 rfl (op_pick rfl rfl) <| av 10 2047 rfl (mv rfl) <| av 11 4095 rfl (op_fieldAddr FI27_0 rfl (add_at _ _ _)) <|
                     av 12 8191 rfl (op_fieldAddr FI25_0 rfl (add_at _ _ _)) <| av 13 16383 rfl (op_load 0 1 rfl rfl TI22 rfl (by decide)) <| av 14 32767 rfl (op_indexAddr Try.underlying22 TI9 rfl rfl (by decide) (lt_get (by decide) hx27962) rfl) <|
                     av 15 65535 rfl (op_load_row (sz := 1) (o := 0) 0 1 1 rfl rfl (get_map hx27962) TI9 rfl (by decide)) <| aC 16 131071 rfl (o_call0 FO16 (tarryref05_Head.ok k 1 0 0 t27963 hA27964) rfl rfl (ltn rfl) (All_of .nil)) <| ?_
                    rintro _ _ _ ⟨rfl, rfl, rfl⟩
                    refine ⟨⟨⟨⟨0, rfl⟩, trivial⟩, ⟨⟨0, rfl⟩, trivial⟩, trivial⟩, ?_⟩
                    exact av 17 262143 rfl (op_cmps rfl rfl (congrArg some hb27965)) <| av 18 524287 rfl (op_pick rfl rfl) <| av 19 1048575 rfl (mv rfl) <| av 20 2097151 rfl (op_fieldAddr FI27_1 rfl (add_at _ _ _)) <| av 21 4194303 rfl (op_load 0 1 rfl rfl TI3 rfl (by decide)) <|
                     av 22 8388607 rfl (op_cmp rfl rfl (congrArg some hb27967)) <| av 23 16777215 rfl (op_pick rfl rfl) <| av 24 33554431 rfl (mv rfl) <| av 25 67108863 rfl (op_fieldAddr FI27_2 rfl (add_at _ _ _)) <| av 26 134217727 rfl (op_load 0 1 rfl rfl TI3 rfl (by decide)) <|
                     av 27 268435455 rfl (op_cmp rfl rfl (congrArg some hb27969)) <| av 28 536870911 rfl (op_pick rfl rfl) <| av 29 1073741823 rfl (mv rfl) <| au 30 2147483647 rfl rfl <| au 31 4294967295 rfl rfl <| au 32 8589934591 rfl rfl <| av 33 17179869183 rfl (op_pick rfl rfl) <| av 34 34359738367 rfl (mv rfl) <|
                     au 35 68719476735 rfl rfl <| au 36 137438953471 rfl rfl <| au 37 274877906943 rfl rfl <| au 38 549755813887 rfl rfl <| au 39 1099511627775 rfl rfl <| au 40 2199023255551 rfl rfl <| au 41 4398046511103 rfl rfl <| au 42 8796093022207 rfl rfl <| av 43 17592186044415 rfl (op_pick rfl rfl) <| ad <|
                     VN.meet0 [0] [0, 1] trivial
                  intro _
                  refine ct <| sr <| vs rfl <| dt <| VC.ret <| VR.then <| ?_
                  cases h
                obtain rfl : b27967 = true := hb27967.symm.trans (bne_iff_ne.2 c27968)
                refine VC.open (m := r27631.length) 0 lenm rfl (pos_get hx27962) <| ?_
                rintro ad27732 n27733 rfl
                refine VC.join0 (⟨127, [(6, .bool false), (10, pt g27648 0), (108, .bool true)], [.row (.slice (some ad27732) r27631.length n27733) 1 (r27631.map enc_str), .row v27643 2 (r27632.map enc55)], [(g27648, 27, [(.slice (some ad27732) r27631.length n27733), v27643, iv t27633, iv t27634, iv t27635, v27645, v27647])], [(v27645, 9, 1, r27636.map enc_str), (v27647, 9, 1, r27637.map enc_str)]⟩) (True) ?_ ?_
                · refine dw ⟨0, [], [.row (.slice (some ad27732) r27631.length n27733) 1 (r27631.map enc_str)], [(g27648, 27, [(.slice (some ad27732) r27631.length n27733), v27643, iv t27633, iv t27634, iv t27635, v27645, v27647])], []⟩ 44 <| av 0 1 rfl (mv rfl) <|
                   av 1 3 rfl (op_cmp rfl rfl (congrArg some hb27958)) <| av 2 7 rfl (mv rfl) <| av 3 15 rfl (op_fieldAddr FI27_0 rfl (add_at _ _ _)) <| av 4 31 rfl (op_fieldAddr FI25_0 rfl (add_at _ _ _)) <| av 5 63 rfl (op_load 0 1 rfl rfl TI22 rfl (by decide)) <|
                   av 6 127 rfl (op_len (m := r27631.length) 0 lenm Try.underlying22 rfl rfl) <| av 7 255 rfl (mv rfl) <| av 8 511 rfl (op_cmp rfl rfl (congrArg some hb27960)) <| av 9 1023 rfl (op_pick rfl rfl) <| av 10 2047 rfl (mv rfl) <| av 11 4095 rfl (op_fieldAddr FI27_0 rfl (add_at _ _ _)) <|
                   av 12 8191 rfl (op_fieldAddr FI25_0 rfl (add_at _ _ _)) <| av 13 16383 rfl (op_load 0 1 rfl rfl TI22 rfl (by decide)) <| av 14 32767 rfl (op_indexAddr Try.underlying22 TI9 rfl rfl (by decide) (lt_get (by decide) hx27962) rfl) <|
                   av 15 65535 rfl (op_load_row (sz := 1) (o := 0) 0 1 1 rfl rfl (get_map hx27962) TI9 rfl (by decide)) <| aC 16 131071 rfl (o_call0 FO16 (tarryref05_Head.ok k 1 0 0 t27963 hA27964) rfl rfl (ltn rfl) (All_of .nil)) <| ?_
                  rintro _ _ _ ⟨rfl, rfl, rfl⟩
                  refine ⟨⟨⟨⟨0, rfl⟩, trivial⟩, ⟨⟨0, rfl⟩, trivial⟩, trivial⟩, ?_⟩
                  exact av 17 262143 rfl (op_cmps rfl rfl (congrArg some hb27965)) <| av 18 524287 rfl (op_pick rfl rfl) <| av 19 1048575 rfl (mv rfl) <| av 20 2097151 rfl (op_fieldAddr FI27_1 rfl (add_at _ _ _)) <| av 21 4194303 rfl (op_load 0 1 rfl rfl TI3 rfl (by decide)) <|
                   av 22 8388607 rfl (op_cmp rfl rfl (congrArg some hb27967)) <| av 23 16777215 rfl (op_pick rfl rfl) <| av 24 33554431 rfl (mv rfl) <| au 25 67108863 rfl rfl <| au 26 134217727 rfl rfl <| au 27 268435455 rfl rfl <| av 28 536870911 rfl (op_pick rfl rfl) <| av 29 1073741823 rfl (mv rfl) <|
                   au 30 2147483647 rfl rfl <| au 31 4294967295 rfl rfl <| au 32 8589934591 rfl rfl <| av 33 17179869183 rfl (op_pick rfl rfl) <| av 34 34359738367 rfl (mv rfl) <| au 35 68719476735 rfl rfl <| au 36 137438953471 rfl rfl <| au 37 274877906943 rfl rfl <| au 38 549755813887 rfl rfl <|
                   au 39 1099511627775 rfl rfl <| au 40 2199023255551 rfl rfl <| au 41 4398046511103 rfl rfl <| au 42 8796093022207 rfl rfl <| av 43 17592186044415 rfl (op_pick rfl rfl) <| ad <| VN.meet0 [0] [0, 1] trivial
                intro _
                refine ct <| sr <| vs rfl <| dt <| VC.ret <| VR.then <| ?_
                cases h
              obtain rfl : b27965 = true := hb27965.symm.trans (bne_of_f c27966)
              refine VC.open (m := r27631.length) 0 lenm rfl (pos_get hx27962) <| ?_
              rintro ad27732 n27733 rfl
              refine VC.join0 (⟨127, [(6, .bool false), (10, pt g27648 0), (108, .bool true)], [.row (.slice (some ad27732) r27631.length n27733) 1 (r27631.map enc_str), .row v27643 2 (r27632.map enc55)], [(g27648, 27, [(.slice (some ad27732) r27631.length n27733), v27643, iv t27633, iv t27634, iv t27635, v27645, v27647])], [(v27645, 9, 1, r27636.map enc_str), (v27647, 9, 1, r27637.map enc_str)]⟩) (True) ?_ ?_
              · refine dw ⟨0, [], [.row (.slice (some ad27732) r27631.length n27733) 1 (r27631.map enc_str)], [(g27648, 27, [(.slice (some ad27732) r27631.length n27733), v27643, iv t27633, iv t27634, iv t27635, v27645, v27647])], []⟩ 44 <| av 0 1 rfl (mv rfl) <|
                 av 1 3 rfl (op_cmp rfl rfl (congrArg some hb27958)) <| av 2 7 rfl (mv rfl) <| av 3 15 rfl (op_fieldAddr FI27_0 rfl (add_at _ _ _)) <| av 4 31 rfl (op_fieldAddr FI25_0 rfl (add_at _ _ _)) <| av 5 63 rfl (op_load 0 1 rfl rfl TI22 rfl (by decide)) <|
                 av 6 127 rfl (op_len (m := r27631.length) 0 lenm Try.underlying22 rfl rfl) <| av 7 255 rfl (mv rfl) <| av 8 511 rfl (op_cmp rfl rfl (congrArg some hb27960)) <| av 9 1023 rfl (op_pick rfl rfl) <| av 10 2047 rfl (mv rfl) <| av 11 4095 rfl (op_fieldAddr FI27_0 rfl (add_at _ _ _)) <|
                 av 12 8191 rfl (op_fieldAddr FI25_0 rfl (add_at _ _ _)) <| av 13 16383 rfl (op_load 0 1 rfl rfl TI22 rfl (by decide)) <| av 14 32767 rfl (op_indexAddr Try.underlying22 TI9 rfl rfl (by decide) (lt_get (by decide) hx27962) rfl) <|
                 av 15 65535 rfl (op_load_row (sz := 1) (o := 0) 0 1 1 rfl rfl (get_map hx27962) TI9 rfl (by decide)) <| aC 16 131071 rfl (o_call0 FO16 (tarryref05_Head.ok k 1 0 0 t27963 hA27964) rfl rfl (ltn rfl) (All_of .nil)) <| ?_
                rintro _ _ _ ⟨rfl, rfl, rfl⟩
                refine ⟨⟨⟨⟨0, rfl⟩, trivial⟩, ⟨⟨0, rfl⟩, trivial⟩, trivial⟩, ?_⟩
                exact av 17 262143 rfl (op_cmps rfl rfl (congrArg some hb27965)) <| av 18 524287 rfl (op_pick rfl rfl) <| av 19 1048575 rfl (mv rfl) <| au 20 2097151 rfl rfl <| au 21 4194303 rfl rfl <| au 22 8388607 rfl rfl <| av 23 16777215 rfl (op_pick rfl rfl) <| av 24 33554431 rfl (mv rfl) <|
                 au 25 67108863 rfl rfl <| au 26 134217727 rfl rfl <| au 27 268435455 rfl rfl <| av 28 536870911 rfl (op_pick rfl rfl) <| av 29 1073741823 rfl (mv rfl) <| au 30 2147483647 rfl rfl <| au 31 4294967295 rfl rfl <| au 32 8589934591 rfl rfl <| av 33 17179869183 rfl (op_pick rfl rfl) <|
                 av 34 34359738367 rfl (mv rfl) <| au 35 68719476735 rfl rfl <| au 36 137438953471 rfl rfl <| au 37 274877906943 rfl rfl <| au 38 549755813887 rfl rfl <| au 39 1099511627775 rfl rfl <| au 40 2199023255551 rfl rfl <| au 41 4398046511103 rfl rfl <| au 42 8796093022207 rfl rfl <|
                 av 43 17592186044415 rfl (op_pick rfl rfl) <| ad <| VN.meet0 [0] [0, 1] trivial
              intro _
              refine ct <| sr <| vs rfl <| dt <| VC.ret <| VR.then <| ?_
              cases h
            obtain rfl : b27960 = true := hb27960.symm.trans (bne_iff_ne.2 c27961)
            refine VC.join0 (⟨127, [(6, .bool false), (10, pt g27648 0), (108, .bool true)], [.row v27641 1 (r27631.map enc_str), .row v27643 2 (r27632.map enc55)], [(g27648, 27, [v27641, v27643, iv t27633, iv t27634, iv t27635, v27645, v27647])], [(v27645, 9, 1, r27636.map enc_str), (v27647, 9, 1, r27637.map enc_str)]⟩) (True) ?_ ?_
            · exact dw ⟨0, [], [.row v27641 1 (r27631.map enc_str)], [(g27648, 27, [v27641, v27643, iv t27633, iv t27634, iv t27635, v27645, v27647])], []⟩ 44 <| av 0 1 rfl (mv rfl) <| av 1 3 rfl (op_cmp rfl rfl (congrArg some hb27958)) <| av 2 7 rfl (mv rfl) <|
               av 3 15 rfl (op_fieldAddr FI27_0 rfl (add_at _ _ _)) <| av 4 31 rfl (op_fieldAddr FI25_0 rfl (add_at _ _ _)) <| av 5 63 rfl (op_load 0 1 rfl rfl TI22 rfl (by decide)) <| av 6 127 rfl (op_len (m := r27631.length) 0 lenm Try.underlying22 rfl rfl) <| av 7 255 rfl (mv rfl) <|
               av 8 511 rfl (op_cmp rfl rfl (congrArg some hb27960)) <| av 9 1023 rfl (op_pick rfl rfl) <| av 10 2047 rfl (mv rfl) <| au 11 4095 rfl rfl <| au 12 8191 rfl rfl <| au 13 16383 rfl rfl <| au 14 32767 rfl rfl <| au 15 65535 rfl rfl <| au 16 131071 rfl rfl <| au 17 262143 rfl rfl <|
               av 18 524287 rfl (op_pick rfl rfl) <| av 19 1048575 rfl (mv rfl) <| au 20 2097151 rfl rfl <| au 21 4194303 rfl rfl <| au 22 8388607 rfl rfl <| av 23 16777215 rfl (op_pick rfl rfl) <| av 24 33554431 rfl (mv rfl) <| au 25 67108863 rfl rfl <| au 26 134217727 rfl rfl <| au 27 268435455 rfl rfl <|
               av 28 536870911 rfl (op_pick rfl rfl) <| av 29 1073741823 rfl (mv rfl) <| au 30 2147483647 rfl rfl <| au 31 4294967295 rfl rfl <| au 32 8589934591 rfl rfl <| av 33 17179869183 rfl (op_pick rfl rfl) <| av 34 34359738367 rfl (mv rfl) <| au 35 68719476735 rfl rfl <| au 36 137438953471 rfl rfl <|
               au 37 274877906943 rfl rfl <| au 38 549755813887 rfl rfl <| au 39 1099511627775 rfl rfl <| au 40 2199023255551 rfl rfl <| au 41 4398046511103 rfl rfl <| au 42 8796093022207 rfl rfl <| av 43 17592186044415 rfl (op_pick rfl rfl) <| ad <| VN.meet0 [0] [0, 1] trivial
            intro _
            refine ct <| sr <| vs rfl <| dt <| VC.ret <| VR.then <| ?_
            cases h
          obtain rfl : b27958 = true := hb27958.symm.trans (bne_iff_ne.2 c27959)
          refine VC.join0 (⟨127, [(6, .bool false), (10, pt g27648 0), (108, .bool true)], [.row v27641 1 (r27631.map enc_str), .row v27643 2 (r27632.map enc55)], [(g27648, 27, [v27641, v27643, iv t27633, iv t27634, iv t27635, v27645, v27647])], [(v27645, 9, 1, r27636.map enc_str), (v27647, 9, 1, r27637.map enc_str)]⟩) (True) ?_ ?_
          · exact dw ⟨0, [], [], [], []⟩ 44 <| av 0 1 rfl (mv rfl) <| av 1 3 rfl (op_cmp rfl rfl (congrArg some hb27958)) <| av 2 7 rfl (mv rfl) <| au 3 15 rfl rfl <| au 4 31 rfl rfl <| au 5 63 rfl rfl <| au 6 127 rfl rfl <| au 7 255 rfl rfl <| au 8 511 rfl rfl <| av 9 1023 rfl (op_pick rfl rfl) <|
             av 10 2047 rfl (mv rfl) <| au 11 4095 rfl rfl <| au 12 8191 rfl rfl <| au 13 16383 rfl rfl <| au 14 32767 rfl rfl <| au 15 65535 rfl rfl <| au 16 131071 rfl rfl <| au 17 262143 rfl rfl <| av 18 524287 rfl (op_pick rfl rfl) <| av 19 1048575 rfl (mv rfl) <| au 20 2097151 rfl rfl <|
             au 21 4194303 rfl rfl <| au 22 8388607 rfl rfl <| av 23 16777215 rfl (op_pick rfl rfl) <| av 24 33554431 rfl (mv rfl) <| au 25 67108863 rfl rfl <| au 26 134217727 rfl rfl <| au 27 268435455 rfl rfl <| av 28 536870911 rfl (op_pick rfl rfl) <| av 29 1073741823 rfl (mv rfl) <|
             au 30 2147483647 rfl rfl <| au 31 4294967295 rfl rfl <| au 32 8589934591 rfl rfl <| av 33 17179869183 rfl (op_pick rfl rfl) <| av 34 34359738367 rfl (mv rfl) <| au 35 68719476735 rfl rfl <| au 36 137438953471 rfl rfl <| au 37 274877906943 rfl rfl <| au 38 549755813887 rfl rfl <|
             au 39 1099511627775 rfl rfl <| au 40 2199023255551 rfl rfl <| au 41 4398046511103 rfl rfl <| au 42 8796093022207 rfl rfl <| av 43 17592186044415 rfl (op_pick rfl rfl) <| ad <| VN.meet0 [0] [0, 1] trivial
          intro _
          refine ct <| sr <| vs rfl <| dt <| VC.ret <| VR.then <| ?_
          cases h
        obtain rfl := Bool.eq_false_iff.2 c27630
        refine VC.join0 (⟨127, [(0, iv a0), (6, .bool false), (46, .bool true)], [], [], []⟩) (True) ?_ ?_
        · refine dw ⟨0, [], [], [(g24816, 34, [v24809, v24811, iv t24801, iv t24802, iv t24803, v24813, v24815, iv t24806]), (g6577, 27, [v6570, v6572, iv t6562, iv t6563, iv t6564, v6574, v6576]), (g8, 27, [v472, v474, iv t465, iv t466, iv t467, v476, v478])], []⟩ 22 <|
           av 0 1 rfl (mv rfl) <| av 1 3 rfl (op_fieldAddr FI34_1 rfl (add_at _ _ _)) <| av 2 7 rfl (op_load 0 1 rfl rfl TI30 rfl (by decide)) <| av 3 15 rfl (op_cmp rfl rfl (congrArg some hb27617)) <| av 4 31 rfl (mv rfl) <| av 5 63 rfl (op_load 1 7 rfl rfl TI27 rfl (fun h => absurd h (by decide))) <|
           av 6 127 rfl (op_fieldAddr FI34_0 rfl (add_at _ _ _)) <| av 7 255 rfl (op_load 0 7 rfl rfl TI27 rfl (fun h => absurd h (by decide))) <|
           aC 8 511 rfl (o_call_b0 FO11 (tarryref05_Like.ok k r6560 r6561 t6562 t6563 t6564 r6565 r6566 r24799 r24800 t24801 t24802 t24803 r24804 r24805 v6570 v6572 v6574 v6576 v24809 v24811 v24813 v24815 true hA27620) rfl rfl (ltn rfl) (All_of (.cons (.inl (mG 2 rfl)) (.cons (.inl (mG 3 rfl)) (.cons (.inr (.inl ⟨_, mG 2 rfl, rfl⟩)) (.cons (.inr (.inl ⟨_, mG 3 rfl, rfl⟩)) (.cons (.inl (mG 0 rfl)) (.cons (.inl (mG 1 rfl)) (.cons (.inr (.inl ⟨_, mG 0 rfl, rfl⟩)) (.cons (.inr (.inl ⟨_, mG 1 rfl, rfl⟩)) .nil))))))))) (by rintro _ _ _ ⟨rfl, rfl, rfl⟩; rfl)) <|
           ?_
          rintro _ _ _ ⟨rfl, rfl, rfl⟩
          refine ⟨⟨trivial, ⟨⟨0, rfl⟩, ⟨1, rfl⟩, ⟨2, rfl⟩, trivial⟩, trivial⟩, ?_⟩
          refine av 9 1023 rfl (op_not rfl rfl) <| av 10 2047 rfl (op_pick rfl rfl) <| av 11 4095 rfl (mv rfl) <| av 12 8191 rfl (op_load 2 7 rfl rfl TI27 rfl (fun h => absurd h (by decide))) <| av 14 24575 rfl (op_load 2 7 rfl rfl TI27 rfl (fun h => absurd h (by decide))) <|
           aC 13 32767 rfl (o_call_b0 FO12 (journal_Right.ok k r463 r464 t465 t466 t467 r468 r469 v472 v474 v476 v478 t27622 hA27623) rfl rfl (ltn rfl) (All_of (.cons (.inr (.inl ⟨_, mG 4 rfl, rfl⟩)) (.cons (.inr (.inl ⟨_, mG 5 rfl, rfl⟩)) (.cons (.inr (.inl ⟨_, mG 6 rfl, rfl⟩)) (.cons (.inr (.inl ⟨_, mG 7 rfl, rfl⟩)) .nil))))) (by rintro _ _ _ ⟨rfl, rfl, rfl⟩; rfl)) <|
           ?_
          rintro _ _ _ ⟨rfl, rfl, rfl⟩
          refine ⟨⟨trivial, ⟨⟨0, rfl⟩, ⟨1, rfl⟩, ⟨2, rfl⟩, trivial⟩, trivial⟩, ?_⟩
          refine aC 15 65535 rfl (o_call_b0 FO13 (tarryref05_Right.ok k r463 r464 t465 t466 t467 r468 r469 v472 v474 v476 v478 t27624 hA27625) rfl rfl (ltn rfl) (All_of (.cons (.inr (.inl ⟨_, mG 4 rfl, rfl⟩)) (.cons (.inr (.inl ⟨_, mG 5 rfl, rfl⟩)) (.cons (.inr (.inl ⟨_, mG 6 rfl, rfl⟩)) (.cons (.inr (.inl ⟨_, mG 7 rfl, rfl⟩)) .nil))))) (by rintro _ _ _ ⟨rfl, rfl, rfl⟩; rfl)) <|
           ?_
          rintro _ _ _ ⟨rfl, rfl, rfl⟩
          refine ⟨⟨trivial, ⟨⟨0, rfl⟩, ⟨1, rfl⟩, ⟨2, rfl⟩, trivial⟩, trivial⟩, ?_⟩
          refine av 16 131071 rfl (op_eqb Try.underlying4 rfl rfl (congrArg some hb27626)) <| av 17 262143 rfl (op_pick rfl rfl) <| av 18 524287 rfl (mv rfl) <| aC 19 1048575 rfl (o_call0 FO14 (tarrylaw05_alive.ok k false hA27629) rfl rfl (ltn rfl) (All_of .nil)) <| ?_
          rintro _ _ _ ⟨rfl, rfl, rfl⟩
          refine ⟨⟨trivial, ⟨⟨0, rfl⟩, ⟨1, rfl⟩, ⟨2, rfl⟩, trivial⟩, trivial⟩, ?_⟩
          exact av 20 2097151 rfl (op_not rfl rfl) <| av 21 4194303 rfl (op_pick rfl rfl) <| ad <| VN.meet0 [] [] trivial
        intro _
        refine ct <| sr <| vs rfl <| dt <| VC.ret <| VR.then <| ?_
        cases h
      obtain rfl : b27626 = true := hb27626.symm.trans (by simpa using c27627)
      refine VC.join0 (⟨127, [(0, iv a0), (6, .bool false), (46, .bool true)], [], [], []⟩) (True) ?_ ?_
      · refine dw ⟨0, [], [], [(g24816, 34, [v24809, v24811, iv t24801, iv t24802, iv t24803, v24813, v24815, iv t24806]), (g6577, 27, [v6570, v6572, iv t6562, iv t6563, iv t6564, v6574, v6576]), (g8, 27, [v472, v474, iv t465, iv t466, iv t467, v476, v478])], []⟩ 22 <|
         av 0 1 rfl (mv rfl) <| av 1 3 rfl (op_fieldAddr FI34_1 rfl (add_at _ _ _)) <| av 2 7 rfl (op_load 0 1 rfl rfl TI30 rfl (by decide)) <| av 3 15 rfl (op_cmp rfl rfl (congrArg some hb27617)) <| av 4 31 rfl (mv rfl) <| av 5 63 rfl (op_load 1 7 rfl rfl TI27 rfl (fun h => absurd h (by decide))) <|
         av 6 127 rfl (op_fieldAddr FI34_0 rfl (add_at _ _ _)) <| av 7 255 rfl (op_load 0 7 rfl rfl TI27 rfl (fun h => absurd h (by decide))) <|
         aC 8 511 rfl (o_call_b0 FO11 (tarryref05_Like.ok k r6560 r6561 t6562 t6563 t6564 r6565 r6566 r24799 r24800 t24801 t24802 t24803 r24804 r24805 v6570 v6572 v6574 v6576 v24809 v24811 v24813 v24815 true hA27620) rfl rfl (ltn rfl) (All_of (.cons (.inl (mG 2 rfl)) (.cons (.inl (mG 3 rfl)) (.cons (.inr (.inl ⟨_, mG 2 rfl, rfl⟩)) (.cons (.inr (.inl ⟨_, mG 3 rfl, rfl⟩)) (.cons (.inl (mG 0 rfl)) (.cons (.inl (mG 1 rfl)) (.cons (.inr (.inl ⟨_, mG 0 rfl, rfl⟩)) (.cons (.inr (.inl ⟨_, mG 1 rfl, rfl⟩)) .nil))))))))) (by rintro _ _ _ ⟨rfl, rfl, rfl⟩; rfl)) <|
         ?_
        rintro _ _ _ ⟨rfl, rfl, rfl⟩
        refine ⟨⟨trivial, ⟨⟨0, rfl⟩, ⟨1, rfl⟩, ⟨2, rfl⟩, trivial⟩, trivial⟩, ?_⟩
        refine av 9 1023 rfl (op_not rfl rfl) <| av 10 2047 rfl (op_pick rfl rfl) <| av 11 4095 rfl (mv rfl) <| av 12 8191 rfl (op_load 2 7 rfl rfl TI27 rfl (fun h => absurd h (by decide))) <| av 14 24575 rfl (op_load 2 7 rfl rfl TI27 rfl (fun h => absurd h (by decide))) <|
         aC 13 32767 rfl (o_call_b0 FO12 (journal_Right.ok k r463 r464 t465 t466 t467 r468 r469 v472 v474 v476 v478 t27622 hA27623) rfl rfl (ltn rfl) (All_of (.cons (.inr (.inl ⟨_, mG 4 rfl, rfl⟩)) (.cons (.inr (.inl ⟨_, mG 5 rfl, rfl⟩)) (.cons (.inr (.inl ⟨_, mG 6 rfl, rfl⟩)) (.cons (.inr (.inl ⟨_, mG 7 rfl, rfl⟩)) .nil))))) (by rintro _ _ _ ⟨rfl, rfl, rfl⟩; rfl)) <|
         ?_
        rintro _ _ _ ⟨rfl, rfl, rfl⟩
        refine ⟨⟨trivial, ⟨⟨0, rfl⟩, ⟨1, rfl⟩, ⟨2, rfl⟩, trivial⟩, trivial⟩, ?_⟩
        refine aC 15 65535 rfl (o_call_b0 FO13 (tarryref05_Right.ok k r463 r464 t465 t466 t467 r468 r469 v472 v474 v476 v478 t27624 hA27625) rfl rfl (ltn rfl) (All_of (.cons (.inr (.inl ⟨_, mG 4 rfl, rfl⟩)) (.cons (.inr (.inl ⟨_, mG 5 rfl, rfl⟩)) (.cons (.inr (.inl ⟨_, mG 6 rfl, rfl⟩)) (.cons (.inr (.inl ⟨_, mG 7 rfl, rfl⟩)) .nil))))) (by rintro _ _ _ ⟨rfl, rfl, rfl⟩; rfl)) <|
         ?_
        rintro _ _ _ ⟨rfl, rfl, rfl⟩
        refine ⟨⟨trivial, ⟨⟨0, rfl⟩, ⟨1, rfl⟩, ⟨2, rfl⟩, trivial⟩, trivial⟩, ?_⟩
        exact av 16 131071 rfl (op_eqb Try.underlying4 rfl rfl (congrArg some hb27626)) <| av 17 262143 rfl (op_pick rfl rfl) <| av 18 524287 rfl (mv rfl) <| au 19 1048575 rfl rfl <| au 20 2097151 rfl rfl <| av 21 4194303 rfl (op_pick rfl rfl) <| ad <| VN.meet0 [] [] trivial
      intro _
      refine ct <| sr <| vs rfl <| dt <| VC.ret <| VR.then <| ?_
      cases h
    obtain rfl := Bool.eq_false_iff.2 c27621
    refine VC.join0 (⟨127, [(0, iv a0), (6, .bool false), (46, .bool true)], [], [], []⟩) (True) ?_ ?_
    · refine dw ⟨0, [], [], [(g24816, 34, [v24809, v24811, iv t24801, iv t24802, iv t24803, v24813, v24815, iv t24806]), (g6577, 27, [v6570, v6572, iv t6562, iv t6563, iv t6564, v6574, v6576])], []⟩ 22 <| av 0 1 rfl (mv rfl) <|
       av 1 3 rfl (op_fieldAddr FI34_1 rfl (add_at _ _ _)) <| av 2 7 rfl (op_load 0 1 rfl rfl TI30 rfl (by decide)) <| av 3 15 rfl (op_cmp rfl rfl (congrArg some hb27617)) <| av 4 31 rfl (mv rfl) <| av 5 63 rfl (op_load 1 7 rfl rfl TI27 rfl (fun h => absurd h (by decide))) <|
       av 6 127 rfl (op_fieldAddr FI34_0 rfl (add_at _ _ _)) <| av 7 255 rfl (op_load 0 7 rfl rfl TI27 rfl (fun h => absurd h (by decide))) <|
       aC 8 511 rfl (o_call_b0 FO11 (tarryref05_Like.ok k r6560 r6561 t6562 t6563 t6564 r6565 r6566 r24799 r24800 t24801 t24802 t24803 r24804 r24805 v6570 v6572 v6574 v6576 v24809 v24811 v24813 v24815 false hA27620) rfl rfl (ltn rfl) (All_of (.cons (.inl (mG 2 rfl)) (.cons (.inl (mG 3 rfl)) (.cons (.inr (.inl ⟨_, mG 2 rfl, rfl⟩)) (.cons (.inr (.inl ⟨_, mG 3 rfl, rfl⟩)) (.cons (.inl (mG 0 rfl)) (.cons (.inl (mG 1 rfl)) (.cons (.inr (.inl ⟨_, mG 0 rfl, rfl⟩)) (.cons (.inr (.inl ⟨_, mG 1 rfl, rfl⟩)) .nil))))))))) (by rintro _ _ _ ⟨rfl, rfl, rfl⟩; rfl)) <|
       ?_
      rintro _ _ _ ⟨rfl, rfl, rfl⟩
      refine ⟨⟨trivial, ⟨⟨0, rfl⟩, ⟨1, rfl⟩, trivial⟩, trivial⟩, ?_⟩
      exact av 9 1023 rfl (op_not rfl rfl) <| av 10 2047 rfl (op_pick rfl rfl) <| av 11 4095 rfl (mv rfl) <| au 12 8191 rfl rfl <| au 13 16383 rfl rfl <| au 14 32767 rfl rfl <| au 15 65535 rfl rfl <| au 16 131071 rfl rfl <| av 17 262143 rfl (op_pick rfl rfl) <| av 18 524287 rfl (mv rfl) <|
       au 19 1048575 rfl rfl <| au 20 2097151 rfl rfl <| av 21 4194303 rfl (op_pick rfl rfl) <| ad <| VN.meet0 [] [] trivial
    intro _
    refine ct <| sr <| vs rfl <| dt <| VC.ret <| VR.then <| ?_
    cases h
  obtain rfl : b27617 = true := hb27617.symm.trans (bne_iff_ne.2 c27618)
  refine VC.join0 (⟨127, [(0, iv a0), (6, .bool false), (46, .bool true)], [], [], []⟩) (True) ?_ ?_
  · exact dw ⟨0, [], [], [(g24816, 34, [v24809, v24811, iv t24801, iv t24802, iv t24803, v24813, v24815, iv t24806])], []⟩ 22 <| av 0 1 rfl (mv rfl) <| av 1 3 rfl (op_fieldAddr FI34_1 rfl (add_at _ _ _)) <| av 2 7 rfl (op_load 0 1 rfl rfl TI30 rfl (by decide)) <|
     av 3 15 rfl (op_cmp rfl rfl (congrArg some hb27617)) <| av 4 31 rfl (mv rfl) <| au 5 63 rfl rfl <| au 6 127 rfl rfl <| au 7 255 rfl rfl <| au 8 511 rfl rfl <| au 9 1023 rfl rfl <| av 10 2047 rfl (op_pick rfl rfl) <| av 11 4095 rfl (mv rfl) <| au 12 8191 rfl rfl <| au 13 16383 rfl rfl <|
     au 14 32767 rfl rfl <| au 15 65535 rfl rfl <| au 16 131071 rfl rfl <| av 17 262143 rfl (op_pick rfl rfl) <| av 18 524287 rfl (mv rfl) <| au 19 1048575 rfl rfl <| au 20 2097151 rfl rfl <| av 21 4194303 rfl (op_pick rfl rfl) <| ad <| VN.meet0 [] [] trivial
  intro _
  refine ct <| sr <| vs rfl <| dt <| VC.ret <| VR.then <| ?_
  cases h

end Go.Proofs.Ytipeglbeongfmaa.PJournalOpens
