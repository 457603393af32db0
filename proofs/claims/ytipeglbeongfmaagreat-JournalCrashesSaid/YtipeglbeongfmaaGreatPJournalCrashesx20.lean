/- Written by a program of this repo: what the program's functions do, each as a Lean function, shown of the loaded code; or a statement's row over that; no condition of its own. -/
import Derived.Test.YtipeglbeongfmaaGreatPJournalCrashesx19
namespace Go.Proofs.YtipeglbeongfmaaGreat.PJournalCrashes
open Go Go.RowKit Go.Proofs.YtipeglbeongfmaaGreatV
set_option linter.unusedVariables false
set_option linter.unusedSimpArgs false
set_option maxHeartbeats 4000000
set_option maxRecDepth 100000

theorem tarrylaw05_JournalCrashes.ok (k : Nat) (l0_0 : List ByteArray) (l0_1 : List S71) (a0_2 : Int) (a0_3 : Int) (a0_4 : Int) (l0_5 : List ByteArray) (l0_6 : List ByteArray) (a1 : ByteArray) (a2 : Bool) (a3 : Int) (a4 : Int) (v0_0 : Value) (v0_1 : Value) (v0_5 : Value) (v0_6 : Value) (r1 : Bool) (h : tarrylaw05_JournalCrashes.f k l0_0 l0_1 a0_2 a0_3 a0_4 l0_5 l0_6 a1 a2 a3 a4 = some r1) :
    VCalls Tryz.prog 4 [.agg #[v0_0, v0_1, iv a0_2, iv a0_3, iv a0_4, v0_5, v0_6], .string a1, .bool a2, .int .u64 a3, iv a4] [.row v0_0 1 (l0_0.map enc_str), .row v0_1 2 (l0_1.map enc71), .row v0_5 1 (l0_5.map enc_str), .row v0_6 1 (l0_6.map enc_str)] (fun v G own => v = .bool r1 ∧ G = [] ∧ own = []) := by
  refine VCalls.intro Tryz.func4 rfl (len rfl) fun E hC hW hD hU => ?_
  unfold tarrylaw05_JournalCrashes.f at h
  refine sr <| sG (o_box rfl (.agg (.f 0 rfl (.f 1 rfl (.c rfl (.c rfl (.c rfl (.f 2 rfl (.f 3 rfl .nil))))))))) fun g5 => vs rfl <| dt <| ?_
  replace h := bd h
  obtain ⟨⟨r453, r454, t455, t456, t457, r458, r459⟩, hA460, h⟩ := h
  dsimp only at h
  replace h := iN h
  obtain ⟨c469, h⟩ := h
  replace h := iN h
  obtain ⟨c470, h⟩ := h
  refine VC.join4 (fun (v462 : Value) (v464 : Value) (v466 : Value) (v468 : Value) => ⟨128, [(1, .string (a1.extract 0 ((mn (a1.size : Int) 3002).toNat))), (2, .bool a2), (3, .int .u64 a3), (4, iv a4), (5, pt g5 0), (10, .bool false)], [], [(g5, 27, [v462, v464, iv t455, iv t456, iv t457, v466, v468])], [(v462, 9, 1, r453.map enc_str), (v464, 72, 2, r454.map enc71), (v466, 9, 1, r458.map enc_str), (v468, 9, 1, r459.map enc_str)]⟩) (fun (v462 : Value) (v464 : Value) (v466 : Value) (v468 : Value) => True) ?_ ?_
  · refine VC.drawB ⟨0, [], [], [], []⟩ [7] ⟨0, [], [], [(g5, 27, [v0_0, v0_1, iv a0_2, iv a0_3, iv a0_4, v0_5, v0_6])], []⟩ (by kernel_rfl) rfl (by kernel_rfl) (n := 9) (listed := LB 9 0) <|
     VB.vb (i := 0) (listed' := LB 9 1) rfl (op_load 0 7 rfl rfl TI27 rfl (fun h => absurd h (by decide))) rfl (by kernel_rfl) (by kernel_rfl) (by kernel_rfl) (by kernel_rfl) (by kernel_rfl) (by kernel_rfl) (PartP.on ⟨trivial, trivial, trivial⟩ ⟨trivial, ⟨⟨0, rfl⟩, trivial⟩, trivial⟩) (fun _ _ _ h => h) <|
     bv 2 5 rfl (mv rfl) <| bv 3 13 rfl (mv rfl) <| bv 4 29 rfl (op_lens Tryz.underlying9 rfl) <| bv 5 61 rfl (op_min rfl rfl) <|
     bv 6 125 rfl (op_sliceS 0 ((mn (a1.size : Int) 3002).toNat) Tryz.underlying9 rfl ⟨rfl, ⟨_, _, rfl, c469, rfl⟩, Nat.zero_le _, tN (a := (mn (a1.size : Int) 3002)) (b := (a1.size : Int)) rfl rfl c470⟩ rfl) <|
     VB.oneC (i := 1) (listed' := LB 9 127) (by kernel_rfl) rfl (o_call0 FO5 (tarrylaw05_few.ok k l0_0 l0_1 a0_2 a0_3 a0_4 l0_5 l0_6 v0_0 v0_1 v0_5 v0_6 r453 r454 t455 t456 t457 r458 r459 hA460) rfl rfl (ltn rfl) (All_of (.cons (mG 0 rfl) (.cons (mG 1 rfl) (.cons (mG 2 rfl) (.cons (mG 3 rfl) .nil)))))) rfl (by kernel_rfl) <|
     ?_
    rintro _ _ _ ⟨v462, v464, v466, v468, rfl, rfl, rfl⟩
    refine ⟨(PartP.on ⟨trivial, trivial, trivial⟩ ⟨trivial, ⟨⟨0, rfl⟩, trivial⟩, trivial⟩), ?_⟩
    exact VB.one1 (i := 7) (listed' := LB 9 255) (by kernel_rfl) rfl (o_store 0 7 rfl rfl rfl TI27 (.agg (.r 0 rfl (.r 1 rfl (.c rfl (.c rfl (.c rfl (.r 2 rfl (.r 3 rfl .nil)))))))) rfl (len rfl)) rfl (by kernel_rfl) (PartP.off (by kernel_rfl) ⟨trivial, trivial, trivial⟩) <| bv 8 511 rfl (ag rfl) <|
     VB.done (by kernel_rfl) <| VN.meet4 v462 v464 v466 v468 [0] [0, 1, 2, 3] trivial
  intro v462 v464 v466 v468 _
  refine sr <| va (op_load 0 7 rfl rfl TI27 rfl (fun h => absurd h (by decide))) <| vm rfl <| vm rfl <| vm rfl <| vm rfl <| ?_
  replace h := bd h
  obtain ⟨⟨r8839, r8840, t8841⟩, hA8842, h⟩ := h
  dsimp only at h
  refine sC (o_call_b0 FO17 (journal_Crash.ok k r453 r454 t455 t456 t457 r458 r459 (a1.extract 0 ((mn (a1.size : Int) 3002).toNat)) a2 a3 a4 v462 v464 v466 v468 r8839 r8840 t8841 hA8842) rfl rfl (ltn rfl) (All_of (.cons (.inr (.inl ⟨_, mG 0 rfl, rfl⟩)) (.cons (.inr (.inl ⟨_, mG 1 rfl, rfl⟩)) (.cons (.inr (.inl ⟨_, mG 2 rfl, rfl⟩)) (.cons (.inr (.inl ⟨_, mG 3 rfl, rfl⟩)) .nil))))) (by rintro _ _ _ ⟨v8844, v8846, rfl, rfl, rfl⟩; rfl)) <|
   ?_
  rintro _ _ _ ⟨v8844, v8846, rfl, rfl, rfl⟩
  refine vm rfl <| va (op_extract rfl rfl) <| va (op_extract rfl rfl) <| sG (o_alloc Z25 ZL25) fun g8847 => s1 (o_store 0 2 rfl rfl rfl TI25 (.agg (.r 0 rfl (.r 1 rfl .nil))) rfl (len rfl)) <| vs rfl <| ds <|
   VC.join1 (fun (q33861 : Bool) => ⟨128, [(1, .string (a1.extract 0 ((mn (a1.size : Int) 3002).toNat))), (2, .bool a2), (3, .int .u64 a3), (4, iv a4), (5, pt g5 0), (10, .bool false), (11, pt g8847 0), (12, iv t8841), (35, .bool q33861)], [], [(g8847, 25, [v8844, v8846]), (g5, 27, [v462, v464, iv t455, iv t456, iv t457, v466, v468])], [(v8844, 9, 1, r8839.map enc_str), (v8846, 72, 2, r8840.map enc71), (v462, 9, 1, r453.map enc_str), (v464, 72, 2, r454.map enc71), (v466, 9, 1, r458.map enc_str), (v468, 9, 1, r459.map enc_str)]⟩) (fun (q33861 : Bool) => tarrylaw05_JournalCrashes.j4 k a1 a2 a3 a4 r453 r454 r458 r459 r8839 r8840 t455 t456 t457 t8841 q33861 = some r1) ?_ ?_
  · refine rg <| va (op_load 1 7 rfl rfl TI27 rfl (fun h => absurd h (by decide))) <| ?_
    replace h := bd h
    obtain ⟨t33858, hA33859, h⟩ := h
    refine sC (o_call_b0 FO10 (tarryref05_Right.ok k r453 r454 t455 t456 t457 r458 r459 v462 v464 v466 v468 t33858 hA33859) rfl rfl (ltn rfl) (All_of (.cons (.inr (.inl ⟨_, mG 2 rfl, rfl⟩)) (.cons (.inr (.inl ⟨_, mG 3 rfl, rfl⟩)) (.cons (.inr (.inl ⟨_, mG 4 rfl, rfl⟩)) (.cons (.inr (.inl ⟨_, mG 5 rfl, rfl⟩)) .nil))))) (by rintro _ _ _ ⟨rfl, rfl, rfl⟩; rfl)) <|
     ?_
    rintro _ _ _ ⟨rfl, rfl, rfl⟩
    replace h := iC h
    rcases h with ⟨c33860, h⟩ | ⟨c33860, h⟩
    · obtain rfl := c33860
      refine va (op_not rfl rfl) <| dn <| VN.meet1 false [0, 1] [0, 1, 2, 3, 4, 5] h
    obtain rfl := Bool.eq_false_iff.2 c33860
    refine va (op_not rfl rfl) <| dn <| VN.meet1 true [0, 1] [0, 1, 2, 3, 4, 5] h
  clear h
  intro q33861 h
  unfold tarrylaw05_JournalCrashes.j4 at h
  replace h := iC h
  rcases h with ⟨c33862, h⟩ | ⟨c33862, h⟩
  · obtain rfl := c33862
    refine ct <| sr <| ?_
    replace h := bd h
    obtain ⟨t33869, hA33870, h⟩ := h
    refine sC (o_call0 FO9 (tarrylaw05_alive.ok k t33869 hA33870) rfl rfl (ltn rfl) (All_of .nil)) <| ?_
    rintro _ _ _ ⟨rfl, rfl, rfl⟩
    refine vm rfl <| ?_
    replace h := iC h
    rcases h with ⟨c33871, h⟩ | ⟨c33871, h⟩
    · obtain rfl := c33871
      refine vm rfl <| VL.letter ((t8841 == 1)) fun b33872 hb33872 => va (op_cmp rfl rfl (congrArg some hb33872)) <| va (op_pick rfl rfl) <| vm rfl <| ?_
      replace h := iC h
      rcases h with ⟨c33873, h⟩ | ⟨c33873, h⟩
      · obtain rfl : b33872 = true := hb33872.symm.trans (beq_iff_eq.2 c33873)
        refine va (op_fieldAddr FI25_0 rfl (add_at _ _ _)) <| va (op_load 0 1 rfl rfl TI22 rfl (by decide)) <| va (op_len_own (m := r8839.length) 0 lenm Tryz.underlying22 rfl rfl) <| VL.letter (((r8839.length : Int) == 0)) fun b33874 hb33874 => va (op_cmp rfl rfl (congrArg some hb33874)) <|
         va (op_pick rfl rfl) <| vs rfl <| dt <| VC.ret <| VR.then <| ?_
        obtain rfl := Option.some.inj h
        subst hb33874
        exact rq 10 rfl ⟨rfl, rfl, rfl⟩
      obtain rfl : b33872 = false := hb33872.symm.trans (beq_eq_false_iff_ne.2 c33873)
      refine un rfl <| un rfl <| un rfl <| un rfl <| va (op_pick rfl rfl) <| vs rfl <| dt <| VC.ret <| VR.then <| ?_
      cases h
    obtain rfl := Bool.eq_false_iff.2 c33871
    refine un rfl <| un rfl <| va (op_pick rfl rfl) <| vm rfl <| un rfl <| un rfl <| un rfl <| un rfl <| va (op_pick rfl rfl) <| vs rfl <| dt <| VC.ret <| VR.then <| ?_
    cases h
  obtain rfl := Bool.eq_false_iff.2 c33862
  refine cf <| sk <| sq <| sr <| vm rfl <| va (op_lens Tryz.underlying9 rfl) <| VL.letter (decide (((a1.extract 0 ((mn (a1.size : Int) 3002).toNat)).size : Int) > 3000)) fun b33889 hb33889 => va (op_cmp rfl rfl (congrArg some hb33889)) <| dt <| ?_
  replace h := iC h
  rcases h with ⟨c33890, h⟩ | ⟨c33890, h⟩
  · cases lT c33890 hb33889
    refine ct <| sr <| ?_
    replace h := bd h
    obtain ⟨t33897, hA33898, h⟩ := h
    refine sC (o_call0 FO9 (tarrylaw05_alive.ok k t33897 hA33898) rfl rfl (ltn rfl) (All_of .nil)) <| ?_
    rintro _ _ _ ⟨rfl, rfl, rfl⟩
    refine vm rfl <| ?_
    replace h := iC h
    rcases h with ⟨c33899, h⟩ | ⟨c33899, h⟩
    · obtain rfl := c33899
      refine vm rfl <| VL.letter ((t8841 == 3)) fun b33900 hb33900 => va (op_cmp rfl rfl (congrArg some hb33900)) <| va (op_pick rfl rfl) <| vm rfl <| ?_
      replace h := iC h
      rcases h with ⟨c33901, h⟩ | ⟨c33901, h⟩
      · obtain rfl : b33900 = true := hb33900.symm.trans (beq_iff_eq.2 c33901)
        refine va (op_fieldAddr FI25_0 rfl (add_at _ _ _)) <| va (op_load 0 1 rfl rfl TI22 rfl (by decide)) <| va (op_len_own (m := r8839.length) 0 lenm Tryz.underlying22 rfl rfl) <| VL.letter (((r8839.length : Int) == 0)) fun b33902 hb33902 => va (op_cmp rfl rfl (congrArg some hb33902)) <|
         va (op_pick rfl rfl) <| vs rfl <| dt <| VC.ret <| VR.then <| ?_
        obtain rfl := Option.some.inj h
        subst hb33902
        exact rq 10 rfl ⟨rfl, rfl, rfl⟩
      obtain rfl : b33900 = false := hb33900.symm.trans (beq_eq_false_iff_ne.2 c33901)
      refine un rfl <| un rfl <| un rfl <| un rfl <| va (op_pick rfl rfl) <| vs rfl <| dt <| VC.ret <| VR.then <| ?_
      cases h
    obtain rfl := Bool.eq_false_iff.2 c33899
    refine un rfl <| un rfl <| va (op_pick rfl rfl) <| vm rfl <| un rfl <| un rfl <| un rfl <| un rfl <| va (op_pick rfl rfl) <| vs rfl <| dt <| VC.ret <| VR.then <| ?_
    cases h
  cases lF c33890 hb33889
  refine cf <| sk <| VC.join0 (⟨128, [(1, .string (a1.extract 0 ((mn (a1.size : Int) 3002).toNat))), (2, .bool a2), (3, .int .u64 a3), (4, iv a4), (5, pt g5 0), (10, .bool false), (11, pt g8847 0), (12, iv t8841)], [], [(g8847, 25, [v8844, v8846]), (g5, 27, [v462, v464, iv t455, iv t456, iv t457, v466, v468])], [(v8844, 9, 1, r8839.map enc_str), (v8846, 72, 2, r8840.map enc71), (v462, 9, 1, r453.map enc_str), (v464, 72, 2, r454.map enc71), (v466, 9, 1, r458.map enc_str), (v468, 9, 1, r459.map enc_str)]⟩) (tarrylaw05_JournalCrashes.j7 k a1 a2 a3 a4 r453 r454 r458 r459 r8839 r8840 t455 t456 t457 t8841 = some r1) ?_ ?_
  · refine VC.letter ((t455 == 1099511627776)) fun b34323 hb34323 => ?_
    replace h := iC h
    rcases h with ⟨c34324, h⟩ | ⟨c34324, h⟩
    · obtain rfl : b34323 = true := hb34323.symm.trans (beq_iff_eq.2 c34324)
      refine VC.join0 (⟨128, [(1, .string (a1.extract 0 ((mn (a1.size : Int) 3002).toNat))), (2, .bool a2), (3, .int .u64 a3), (4, iv a4), (5, pt g5 0), (10, .bool false), (11, pt g8847 0), (12, iv t8841), (78, .bool true)], [], [(g8847, 25, [v8844, v8846]), (g5, 27, [v462, v464, iv t455, iv t456, iv t457, v466, v468])], [(v8844, 9, 1, r8839.map enc_str), (v8846, 72, 2, r8840.map enc71), (v462, 9, 1, r453.map enc_str), (v464, 72, 2, r454.map enc71), (v466, 9, 1, r458.map enc_str), (v468, 9, 1, r459.map enc_str)]⟩) (True) ?_ ?_
      · exact dw ⟨0, [], [], [(g5, 27, [v462, v464, iv t455, iv t456, iv t457, v466, v468])], []⟩ 18 <| av 0 1 rfl (op_fieldAddr FI27_1 rfl (add_at _ _ _)) <| av 1 3 rfl (op_load 0 1 rfl rfl TI3 rfl (by decide)) <| av 2 7 rfl (op_cmp rfl rfl (congrArg some hb34323)) <|
         av 3 15 rfl (mv rfl) <| au 4 31 rfl rfl <| au 5 63 rfl rfl <| au 6 127 rfl rfl <| au 7 255 rfl rfl <| au 8 511 rfl rfl <| au 9 1023 rfl rfl <| au 10 2047 rfl rfl <| au 11 4095 rfl rfl <| au 12 8191 rfl rfl <| au 13 16383 rfl rfl <| au 14 32767 rfl rfl <| au 15 65535 rfl rfl <|
         au 16 131071 rfl rfl <| av 17 262143 rfl (op_pick rfl rfl) <| ad <| VN.meet0 [0, 1] [0, 1, 2, 3, 4, 5] trivial
      intro _
      refine ct <| sr <| ?_
      replace h := bd h
      obtain ⟨t34331, hA34332, h⟩ := h
      refine sC (o_call0 FO9 (tarrylaw05_alive.ok k t34331 hA34332) rfl rfl (ltn rfl) (All_of .nil)) <| ?_
      rintro _ _ _ ⟨rfl, rfl, rfl⟩
      refine vm rfl <| ?_
      replace h := iC h
      rcases h with ⟨c34333, h⟩ | ⟨c34333, h⟩
      · obtain rfl := c34333
        refine vm rfl <| VL.letter ((t8841 == 7)) fun b34334 hb34334 => va (op_cmp rfl rfl (congrArg some hb34334)) <| va (op_pick rfl rfl) <| vm rfl <| ?_
        replace h := iC h
        rcases h with ⟨c34335, h⟩ | ⟨c34335, h⟩
        · obtain rfl : b34334 = true := hb34334.symm.trans (beq_iff_eq.2 c34335)
          refine va (op_fieldAddr FI25_0 rfl (add_at _ _ _)) <| va (op_load 0 1 rfl rfl TI22 rfl (by decide)) <| va (op_len_own (m := r8839.length) 0 lenm Tryz.underlying22 rfl rfl) <| VL.letter (((r8839.length : Int) == 0)) fun b34336 hb34336 => va (op_cmp rfl rfl (congrArg some hb34336)) <|
           va (op_pick rfl rfl) <| vs rfl <| dt <| VC.ret <| VR.then <| ?_
          obtain rfl := Option.some.inj h
          subst hb34336
          exact rq 10 rfl ⟨rfl, rfl, rfl⟩
        obtain rfl : b34334 = false := hb34334.symm.trans (beq_eq_false_iff_ne.2 c34335)
        refine un rfl <| un rfl <| un rfl <| un rfl <| va (op_pick rfl rfl) <| vs rfl <| dt <| VC.ret <| VR.then <| ?_
        cases h
      obtain rfl := Bool.eq_false_iff.2 c34333
      refine un rfl <| un rfl <| va (op_pick rfl rfl) <| vm rfl <| un rfl <| un rfl <| un rfl <| un rfl <| va (op_pick rfl rfl) <| vs rfl <| dt <| VC.ret <| VR.then <| ?_
      cases h
    obtain rfl : b34323 = false := hb34323.symm.trans (beq_eq_false_iff_ne.2 c34324)
    refine VC.letter (((a1.extract 0 ((mn (a1.size : Int) 3002).toNat)) != (⟨#[]⟩ : ByteArray))) fun b34337 hb34337 => ?_
    replace h := iC h
    rcases h with ⟨c34338, h⟩ | ⟨c34338, h⟩
    · obtain rfl : b34337 = false := hb34337.symm.trans (bne_of_t c34338)
      refine VC.join0 (⟨128, [(1, .string (a1.extract 0 ((mn (a1.size : Int) 3002).toNat))), (2, .bool a2), (3, .int .u64 a3), (4, iv a4), (5, pt g5 0), (10, .bool false), (11, pt g8847 0), (12, iv t8841), (78, .bool false)], [], [(g8847, 25, [v8844, v8846]), (g5, 27, [v462, v464, iv t455, iv t456, iv t457, v466, v468])], [(v8844, 9, 1, r8839.map enc_str), (v8846, 72, 2, r8840.map enc71), (v462, 9, 1, r453.map enc_str), (v464, 72, 2, r454.map enc71), (v466, 9, 1, r458.map enc_str), (v468, 9, 1, r459.map enc_str)]⟩) (True) ?_ ?_
      · exact dw ⟨0, [], [], [(g5, 27, [v462, v464, iv t455, iv t456, iv t457, v466, v468])], []⟩ 18 <| av 0 1 rfl (op_fieldAddr FI27_1 rfl (add_at _ _ _)) <| av 1 3 rfl (op_load 0 1 rfl rfl TI3 rfl (by decide)) <| av 2 7 rfl (op_cmp rfl rfl (congrArg some hb34323)) <|
         av 3 15 rfl (mv rfl) <| av 4 31 rfl (mv rfl) <| av 5 63 rfl (op_cmps rfl rfl (congrArg some hb34337)) <| av 6 127 rfl (mv rfl) <| au 7 255 rfl rfl <| au 8 511 rfl rfl <| au 9 1023 rfl rfl <| au 10 2047 rfl rfl <| au 11 4095 rfl rfl <| au 12 8191 rfl rfl <| au 13 16383 rfl rfl <|
         au 14 32767 rfl rfl <| au 15 65535 rfl rfl <| av 16 131071 rfl (op_pick rfl rfl) <| av 17 262143 rfl (op_pick rfl rfl) <| ad <| VN.meet0 [0, 1] [0, 1, 2, 3, 4, 5] trivial
      intro _
      refine cf <| VC.skip <| VN.meet0 [0, 1] [0, 1, 2, 3, 4, 5] h
    obtain rfl : b34337 = true := hb34337.symm.trans (bne_of_f c34338)
    replace h := bd h
    obtain ⟨t34339, hA34340, h⟩ := h
    replace h := bd h
    obtain ⟨t34341, hA34342, h⟩ := h
    refine VC.letter (decide ((t34339.size : Int) > t34341)) fun b34343 hb34343 => VC.join0 (⟨128, [(1, .string (a1.extract 0 ((mn (a1.size : Int) 3002).toNat))), (2, .bool a2), (3, .int .u64 a3), (4, iv a4), (5, pt g5 0), (10, .bool false), (11, pt g8847 0), (12, iv t8841), (78, .bool b34343)], [], [(g8847, 25, [v8844, v8846]), (g5, 27, [v462, v464, iv t455, iv t456, iv t457, v466, v468])], [(v8844, 9, 1, r8839.map enc_str), (v8846, 72, 2, r8840.map enc71), (v462, 9, 1, r453.map enc_str), (v464, 72, 2, r454.map enc71), (v466, 9, 1, r458.map enc_str), (v468, 9, 1, r459.map enc_str)]⟩) (True) ?_ ?_
    · refine dw ⟨0, [], [], [(g5, 27, [v462, v464, iv t455, iv t456, iv t457, v466, v468])], [(v462, 9, 1, r453.map enc_str)]⟩ 18 <| av 0 1 rfl (op_fieldAddr FI27_1 rfl (add_at _ _ _)) <| av 1 3 rfl (op_load 0 1 rfl rfl TI3 rfl (by decide)) <|
       av 2 7 rfl (op_cmp rfl rfl (congrArg some hb34323)) <| av 3 15 rfl (mv rfl) <| av 4 31 rfl (mv rfl) <| av 5 63 rfl (op_cmps rfl rfl (congrArg some hb34337)) <| av 6 127 rfl (mv rfl) <| av 7 255 rfl (mv rfl) <| av 10 1279 rfl (op_fieldAddr FI27_0 rfl (add_at _ _ _)) <|
       av 11 3327 rfl (op_fieldAddr FI25_0 rfl (add_at _ _ _)) <| av 12 7423 rfl (op_load 0 1 rfl rfl TI22 rfl (by decide)) <| av 13 15615 rfl (op_len_own (m := r453.length) 0 lenm Tryz.underlying22 rfl rfl) <|
       aC 8 15871 rfl (o_call0 FO15 (tarryref04_Frame.ok k (a1.extract 0 ((mn (a1.size : Int) 3002).toNat)) t34339 hA34340) rfl rfl (ltn rfl) (All_of .nil)) <| ?_
      rintro _ _ _ ⟨rfl, rfl, rfl⟩
      refine ⟨⟨trivial, ⟨⟨1, rfl⟩, trivial⟩, ⟨⟨2, rfl⟩, trivial⟩⟩, ?_⟩
      refine av 9 16383 rfl (op_lens Tryz.underlying9 rfl) <| aC 14 32767 rfl (o_call0 FO16 (tarryref05_Room.ok (r453.length : Int) t34341 hA34342) rfl rfl (ltn rfl) (All_of .nil)) <| ?_
      rintro _ _ _ ⟨rfl, rfl, rfl⟩
      refine ⟨⟨trivial, ⟨⟨1, rfl⟩, trivial⟩, ⟨⟨2, rfl⟩, trivial⟩⟩, ?_⟩
      exact av 15 65535 rfl (op_cmp rfl rfl (congrArg some hb34343)) <| av 16 131071 rfl (op_pick rfl rfl) <| av 17 262143 rfl (op_pick rfl rfl) <| ad <| VN.meet0 [0, 1] [0, 1, 2, 3, 4, 5] trivial
    intro _
    replace h := iC h
    rcases h with ⟨c34344, h⟩ | ⟨c34344, h⟩
    · cases lT c34344 hb34343
      refine ct <| sr <| ?_
      replace h := bd h
      obtain ⟨t34351, hA34352, h⟩ := h
      refine sC (o_call0 FO9 (tarrylaw05_alive.ok k t34351 hA34352) rfl rfl (ltn rfl) (All_of .nil)) <| ?_
      rintro _ _ _ ⟨rfl, rfl, rfl⟩
      refine vm rfl <| ?_
      replace h := iC h
      rcases h with ⟨c34353, h⟩ | ⟨c34353, h⟩
      · obtain rfl := c34353
        refine vm rfl <| VL.letter ((t8841 == 7)) fun b34354 hb34354 => va (op_cmp rfl rfl (congrArg some hb34354)) <| va (op_pick rfl rfl) <| vm rfl <| ?_
        replace h := iC h
        rcases h with ⟨c34355, h⟩ | ⟨c34355, h⟩
        · obtain rfl : b34354 = true := hb34354.symm.trans (beq_iff_eq.2 c34355)
          refine va (op_fieldAddr FI25_0 rfl (add_at _ _ _)) <| va (op_load 0 1 rfl rfl TI22 rfl (by decide)) <| va (op_len_own (m := r8839.length) 0 lenm Tryz.underlying22 rfl rfl) <| VL.letter (((r8839.length : Int) == 0)) fun b34356 hb34356 => va (op_cmp rfl rfl (congrArg some hb34356)) <|
           va (op_pick rfl rfl) <| vs rfl <| dt <| VC.ret <| VR.then <| ?_
          obtain rfl := Option.some.inj h
          subst hb34356
          exact rq 10 rfl ⟨rfl, rfl, rfl⟩
        obtain rfl : b34354 = false := hb34354.symm.trans (beq_eq_false_iff_ne.2 c34355)
        refine un rfl <| un rfl <| un rfl <| un rfl <| va (op_pick rfl rfl) <| vs rfl <| dt <| VC.ret <| VR.then <| ?_
        cases h
      obtain rfl := Bool.eq_false_iff.2 c34353
      refine un rfl <| un rfl <| va (op_pick rfl rfl) <| vm rfl <| un rfl <| un rfl <| un rfl <| un rfl <| va (op_pick rfl rfl) <| vs rfl <| dt <| VC.ret <| VR.then <| ?_
      cases h
    cases lF c34344 hb34343
    refine cf <| VC.skip <| VN.meet0 [0, 1] [0, 1, 2, 3, 4, 5] h
  clear h
  intro  h
  unfold tarrylaw05_JournalCrashes.j7 at h
  replace h := bd h
  obtain ⟨t34357, hA34358, h⟩ := h
  refine VC.join0 (⟨128, [(1, .string (a1.extract 0 ((mn (a1.size : Int) 3002).toNat))), (2, .bool a2), (3, .int .u64 a3), (4, iv a4), (5, pt g5 0), (10, .bool false), (11, pt g8847 0), (12, iv t8841), (13, iv t456), (14, iv t457), (15, .string t34357)], [], [(g8847, 25, [v8844, v8846]), (g5, 27, [v462, v464, iv t455, iv t456, iv t457, v466, v468])], [(v8844, 9, 1, r8839.map enc_str), (v8846, 72, 2, r8840.map enc71), (v462, 9, 1, r453.map enc_str), (v464, 72, 2, r454.map enc71), (v466, 9, 1, r458.map enc_str), (v468, 9, 1, r459.map enc_str)]⟩) (True) ?_ ?_
  · refine dw ⟨0, [], [], [(g5, 27, [v462, v464, iv t455, iv t456, iv t457, v466, v468])], []⟩ 10 <| av 0 1 rfl (op_fieldAddr FI27_2 rfl (add_at _ _ _)) <| av 1 3 rfl (op_load 0 1 rfl rfl TI3 rfl (by decide)) <| av 2 7 rfl (op_fieldAddr FI27_3 rfl (add_at _ _ _)) <|
     av 3 15 rfl (op_load 0 1 rfl rfl TI3 rfl (by decide)) <| av 4 31 rfl (op_fieldAddr FI27_4 rfl (add_at _ _ _)) <| av 5 63 rfl (op_load 0 1 rfl rfl TI22 rfl (by decide)) <|
     aC 6 127 rfl (o_call_b0 FO14 (tarryref04_Whole.ok k r458 v466 t34357 hA34358) rfl rfl (ltn rfl) (All_of (.cons (.inr (.inl ⟨_, mG 4 rfl, rfl⟩)) .nil)) (by rintro _ _ _ ⟨rfl, rfl, rfl⟩; rfl)) <| ?_
    rintro _ _ _ ⟨rfl, rfl, rfl⟩
    refine ⟨⟨trivial, ⟨⟨1, rfl⟩, trivial⟩, trivial⟩, ?_⟩
    exact av 7 255 rfl (ag rfl) <| av 8 511 rfl (ag rfl) <| av 9 1023 rfl (ag rfl) <| ad <| VN.meet0 [0, 1] [0, 1, 2, 3, 4, 5] trivial
  intro _
  refine VC.join3 (fun (i34478 : Int) (i34479 : Int) (s34480 : ByteArray) => ⟨128, [(2, .bool a2), (3, .int .u64 a3), (4, iv a4), (5, pt g5 0), (10, .bool false), (11, pt g8847 0), (12, iv t8841), (13, iv i34478), (14, iv i34479), (15, .string s34480)], [], [(g8847, 25, [v8844, v8846]), (g5, 27, [v462, v464, iv t455, iv t456, iv t457, v466, v468])], [(v8844, 9, 1, r8839.map enc_str), (v8846, 72, 2, r8840.map enc71), (v462, 9, 1, r453.map enc_str), (v464, 72, 2, r454.map enc71), (v466, 9, 1, r458.map enc_str), (v468, 9, 1, r459.map enc_str)]⟩) (fun (i34478 : Int) (i34479 : Int) (s34480 : ByteArray) => tarrylaw05_JournalCrashes.j8 k a2 a3 a4 r453 r454 r458 r459 r8839 r8840 t455 t456 t457 t8841 i34478 i34479 s34480 = some r1) ?_ ?_
  · refine sr <| vm rfl <| VL.letter (((a1.extract 0 ((mn (a1.size : Int) 3002).toNat)) != (⟨#[]⟩ : ByteArray))) fun b34474 hb34474 => va (op_cmps rfl rfl (congrArg some hb34474)) <| dt <| ?_
    replace h := iC h
    rcases h with ⟨c34475, h⟩ | ⟨c34475, h⟩
    · obtain rfl : b34474 = false := hb34474.symm.trans (bne_of_t c34475)
      refine cf <| VC.skip <| VN.meet3 t456 t457 t34357 [0, 1] [0, 1, 2, 3, 4, 5] h
    obtain rfl : b34474 = true := hb34474.symm.trans (bne_of_f c34475)
    refine ct <| ?_
    replace h := bd h
    obtain ⟨t34476, hA34477, h⟩ := h
    refine VC.stop0 (⟨128, [(2, .bool a2), (3, .int .u64 a3), (4, iv a4), (5, pt g5 0), (10, .bool false), (11, pt g8847 0), (12, iv t8841), (13, iv (wrap64 (1 - t456))), (14, iv 0), (15, .string t34476)], [], [(g8847, 25, [v8844, v8846]), (g5, 27, [v462, v464, iv t455, iv t456, iv t457, v466, v468])], [(v8844, 9, 1, r8839.map enc_str), (v8846, 72, 2, r8840.map enc71), (v462, 9, 1, r453.map enc_str), (v464, 72, 2, r454.map enc71), (v466, 9, 1, r458.map enc_str), (v468, 9, 1, r459.map enc_str)]⟩) (True) ?_ ?_
    · refine dw ⟨0, [], [], [(g5, 27, [v462, v464, iv t455, iv t456, iv t457, v466, v468])], []⟩ 8 <| av 0 1 rfl (op_fieldAddr FI27_2 rfl (add_at _ _ _)) <| av 1 3 rfl (op_load 0 1 rfl rfl TI3 rfl (by decide)) <| av 2 7 rfl (op_ari64 rfl rfl rfl) <| av 3 15 rfl (mv rfl) <|
       aC 4 31 rfl (o_call0 FO15 (tarryref04_Frame.ok k (a1.extract 0 ((mn (a1.size : Int) 3002).toNat)) t34476 hA34477) rfl rfl (ltn rfl) (All_of .nil)) <| ?_
      rintro _ _ _ ⟨rfl, rfl, rfl⟩
      refine ⟨⟨trivial, ⟨⟨1, rfl⟩, trivial⟩, trivial⟩, ?_⟩
      exact av 5 63 rfl (ag rfl) <| av 6 127 rfl (ag rfl) <| av 7 255 rfl (ag rfl) <| ad <| VN.meet0 [0, 1] [0, 1, 2, 3, 4, 5] trivial
    intro _
    refine VN.meet3 (wrap64 (1 - t456)) 0 t34476 [0, 1] [0, 1, 2, 3, 4, 5] h
  clear h
  intro i34478 i34479 s34480 h
  unfold tarrylaw05_JournalCrashes.j8 at h
  refine sr <| va (op_load 1 7 rfl rfl TI27 rfl (fun h => absurd h (by decide))) <| vm rfl <| vm rfl <| vm rfl <| VL.freezeRow' 2 rfl <| VL.freezeRow' 2 rfl <| VL.freezeRow' 2 rfl <| VL.freezeRow' 2 rfl <| ?_
  replace h := bd h
  obtain ⟨⟨r34481, r34482⟩, hA34483, h⟩ := h
  dsimp only at h
  refine sC (o_call0 FO18 (tarryref05_First.ok k r453 r454 t455 t456 t457 r458 r459 i34478 i34479 s34480 v462 v464 v466 v468 r34481 r34482 hA34483) rfl rfl (ltn rfl) (All_of (.cons (mG 3 rfl) (.cons (mG 2 rfl) (.cons (mG 1 rfl) (.cons (mG 0 rfl) .nil)))))) <| ?_
  rintro _ _ _ ⟨v34485, v34487, rfl, rfl, rfl⟩
  refine sG (o_alloc Z25 ZL25) fun g34488 => s1 (o_store 0 2 rfl rfl rfl TI25 (.agg (.f 0 rfl (.r 0 rfl .nil))) rfl (len rfl)) <| ds <| sr <| vm rfl <| dt <| ?_
  replace h := iC h
  rcases h with ⟨c34497, h⟩ | ⟨c34497, h⟩
  · obtain rfl := c34497
    refine ct <| rg <| va (op_load 2 7 rfl rfl TI27 rfl (fun h => absurd h (by decide))) <| vm rfl <| vm rfl <| vm rfl <| ?_
    replace h := bd h
    obtain ⟨⟨r34498, r34499⟩, hA34500, h⟩ := h
    dsimp only at h
    refine sC (o_call0 FO19 (tarryref05_Second.ok k r453 r454 t455 t456 t457 r458 r459 i34478 i34479 s34480 v462 v464 v466 v468 r34498 r34499 hA34500) rfl rfl (ltn rfl) (All_of (.cons (mG 4 rfl) (.cons (mG 3 rfl) (.cons (mG 2 rfl) (.cons (mG 1 rfl) .nil)))))) <| ?_
    rintro _ _ _ ⟨v34502, v34504, rfl, rfl, rfl⟩
    refine s1 (o_store 0 2 rfl rfl rfl TI25 (.agg (.f 0 rfl (.r 0 rfl .nil))) rfl (len rfl)) <| dt <| ?_
    replace h := bd h
    obtain ⟨t34505, hA34506, h⟩ := h
    replace h := iC h
    rcases h with ⟨c34507, h⟩ | ⟨c34507, h⟩
    · obtain rfl := c34507
      refine VC.letter ((t8841 == 0)) fun b34508 hb34508 => ?_
      replace h := iC h
      rcases h with ⟨c34509, h⟩ | ⟨c34509, h⟩
      · obtain rfl : b34508 = true := hb34508.symm.trans (beq_iff_eq.2 c34509)
        replace h := bd h
        obtain ⟨⟨r34510, r34511⟩, hA34512, h⟩ := h
        dsimp only at h
        replace h := bd h
        obtain ⟨t34517, hA34518, h⟩ := h
        refine VC.freezeRow' 0 rfl <| VC.join0 (⟨128, [(10, .bool t34517)], [], [], []⟩) (True) ?_ ?_
        · refine dw ⟨0, [], [], [(g34488, 25, [v34502, v34504]), (g8847, 25, [v8844, v8846])], []⟩ 14 <| aC 0 1 rfl (o_call0 FO9 (tarrylaw05_alive.ok k true hA34506) rfl rfl (ltn rfl) (All_of .nil)) <| ?_
          rintro _ _ _ ⟨rfl, rfl, rfl⟩
          refine ⟨⟨trivial, ⟨⟨0, rfl⟩, ⟨1, rfl⟩, trivial⟩, trivial⟩, ?_⟩
          refine av 1 3 rfl (mv rfl) <| av 2 7 rfl (mv rfl) <| av 3 15 rfl (op_cmp rfl rfl (congrArg some hb34508)) <| av 4 31 rfl (op_pick rfl rfl) <| av 5 63 rfl (mv rfl) <| av 6 127 rfl (op_load 1 2 rfl rfl TI25 rfl (fun h => absurd h (by decide))) <|
           av 7 255 rfl (op_load 0 2 rfl rfl TI25 rfl (fun h => absurd h (by decide))) <| av 8 511 rfl (mv rfl) <| av 9 1023 rfl (mv rfl) <|
           aC 10 2047 rfl (o_call0 FO21 (tarryref03_Crash.ok k r34498 r34499 a3 a4 v34502 v34504 r34510 r34511 hA34512) rfl rfl (ltn rfl) (All_of (.cons (mG 1 rfl) (.cons (mG 0 rfl) .nil)))) <| ?_
          rintro _ _ _ ⟨v34514, v34516, rfl, rfl, rfl⟩
          refine ⟨⟨trivial, ⟨⟨0, rfl⟩, ⟨1, rfl⟩, trivial⟩, trivial⟩, ?_⟩
          refine aC 11 4095 rfl (o_call_b0 FO20 (tarryref03_Like.ok k r8839 r8840 r34510 r34511 v8844 v8846 v34514 v34516 t34517 hA34518) rfl rfl (ltn rfl) (All_of (.cons (.inr (.inl ⟨_, mG 2 rfl, rfl⟩)) (.cons (.inr (.inl ⟨_, mG 3 rfl, rfl⟩)) (.cons (.inl (mG 0 rfl)) (.cons (.inr (.inl ⟨_, mG 0 rfl, rfl⟩)) .nil))))) (by rintro _ _ _ ⟨rfl, rfl, rfl⟩; rfl)) <|
           ?_
          rintro _ _ _ ⟨rfl, rfl, rfl⟩
          refine ⟨⟨trivial, ⟨⟨0, rfl⟩, ⟨1, rfl⟩, trivial⟩, trivial⟩, ?_⟩
          exact av 12 8191 rfl (op_pick rfl rfl) <| av 13 16383 rfl (ag rfl) <| ad <| VN.meet0 [] [] trivial
        intro _
        refine VC.ret <| ?_
        obtain rfl := Option.some.inj h
        exact rq 10 rfl ⟨rfl, rfl, rfl⟩
      obtain rfl : b34508 = false := hb34508.symm.trans (beq_eq_false_iff_ne.2 c34509)
      refine VC.join0 (⟨128, [(10, .bool false)], [], [], []⟩) (True) ?_ ?_
      · refine dw ⟨0, [], [], [], []⟩ 14 <| aC 0 1 rfl (o_call0 FO9 (tarrylaw05_alive.ok k true hA34506) rfl rfl (ltn rfl) (All_of .nil)) <| ?_
        rintro _ _ _ ⟨rfl, rfl, rfl⟩
        refine ⟨⟨trivial, trivial, trivial⟩, ?_⟩
        exact av 1 3 rfl (mv rfl) <| av 2 7 rfl (mv rfl) <| av 3 15 rfl (op_cmp rfl rfl (congrArg some hb34508)) <| av 4 31 rfl (op_pick rfl rfl) <| av 5 63 rfl (mv rfl) <| au 6 127 rfl rfl <| au 7 255 rfl rfl <| au 8 511 rfl rfl <| au 9 1023 rfl rfl <| au 10 2047 rfl rfl <| au 11 4095 rfl rfl <|
         av 12 8191 rfl (op_pick rfl rfl) <| av 13 16383 rfl (ag rfl) <| ad <| VN.meet0 [] [] trivial
      intro _
      refine VC.ret <| ?_
      cases h
    obtain rfl := Bool.eq_false_iff.2 c34507
    refine VC.join0 (⟨128, [(10, .bool false)], [], [], []⟩) (True) ?_ ?_
    · refine dw ⟨0, [], [], [], []⟩ 14 <| aC 0 1 rfl (o_call0 FO9 (tarrylaw05_alive.ok k false hA34506) rfl rfl (ltn rfl) (All_of .nil)) <| ?_
      rintro _ _ _ ⟨rfl, rfl, rfl⟩
      refine ⟨⟨trivial, trivial, trivial⟩, ?_⟩
      exact av 1 3 rfl (mv rfl) <| au 2 7 rfl rfl <| au 3 15 rfl rfl <| av 4 31 rfl (op_pick rfl rfl) <| av 5 63 rfl (mv rfl) <| au 6 127 rfl rfl <| au 7 255 rfl rfl <| au 8 511 rfl rfl <| au 9 1023 rfl rfl <| au 10 2047 rfl rfl <| au 11 4095 rfl rfl <| av 12 8191 rfl (op_pick rfl rfl) <|
       av 13 16383 rfl (ag rfl) <| ad <| VN.meet0 [] [] trivial
    intro _
    refine VC.ret <| ?_
    cases h
  obtain rfl := Bool.eq_false_iff.2 c34497
  refine cf <| sk <| ?_
  replace h := bd h
  obtain ⟨t34519, hA34520, h⟩ := h
  replace h := iC h
  rcases h with ⟨c34521, h⟩ | ⟨c34521, h⟩
  · obtain rfl := c34521
    refine VC.letter ((t8841 == 0)) fun b34522 hb34522 => ?_
    replace h := iC h
    rcases h with ⟨c34523, h⟩ | ⟨c34523, h⟩
    · obtain rfl : b34522 = true := hb34522.symm.trans (beq_iff_eq.2 c34523)
      replace h := bd h
      obtain ⟨⟨r34524, r34525⟩, hA34526, h⟩ := h
      dsimp only at h
      replace h := bd h
      obtain ⟨t34531, hA34532, h⟩ := h
      refine VC.freezeRow' 0 rfl <| VC.join0 (⟨128, [(10, .bool t34531)], [], [], []⟩) (True) ?_ ?_
      · refine dw ⟨0, [], [], [(g34488, 25, [v34485, v34487]), (g8847, 25, [v8844, v8846])], []⟩ 14 <| aC 0 1 rfl (o_call0 FO9 (tarrylaw05_alive.ok k true hA34520) rfl rfl (ltn rfl) (All_of .nil)) <| ?_
        rintro _ _ _ ⟨rfl, rfl, rfl⟩
        refine ⟨⟨trivial, ⟨⟨0, rfl⟩, ⟨1, rfl⟩, trivial⟩, trivial⟩, ?_⟩
        refine av 1 3 rfl (mv rfl) <| av 2 7 rfl (mv rfl) <| av 3 15 rfl (op_cmp rfl rfl (congrArg some hb34522)) <| av 4 31 rfl (op_pick rfl rfl) <| av 5 63 rfl (mv rfl) <| av 6 127 rfl (op_load 1 2 rfl rfl TI25 rfl (fun h => absurd h (by decide))) <|
         av 7 255 rfl (op_load 0 2 rfl rfl TI25 rfl (fun h => absurd h (by decide))) <| av 8 511 rfl (mv rfl) <| av 9 1023 rfl (mv rfl) <|
         aC 10 2047 rfl (o_call0 FO21 (tarryref03_Crash.ok k r34481 r34482 a3 a4 v34485 v34487 r34524 r34525 hA34526) rfl rfl (ltn rfl) (All_of (.cons (mG 1 rfl) (.cons (mG 0 rfl) .nil)))) <| ?_
        rintro _ _ _ ⟨v34528, v34530, rfl, rfl, rfl⟩
        refine ⟨⟨trivial, ⟨⟨0, rfl⟩, ⟨1, rfl⟩, trivial⟩, trivial⟩, ?_⟩
        refine aC 11 4095 rfl (o_call_b0 FO20 (tarryref03_Like.ok k r8839 r8840 r34524 r34525 v8844 v8846 v34528 v34530 t34531 hA34532) rfl rfl (ltn rfl) (All_of (.cons (.inr (.inl ⟨_, mG 1 rfl, rfl⟩)) (.cons (.inr (.inl ⟨_, mG 2 rfl, rfl⟩)) (.cons (.inl (mG 0 rfl)) (.cons (.inr (.inl ⟨_, mG 0 rfl, rfl⟩)) .nil))))) (by rintro _ _ _ ⟨rfl, rfl, rfl⟩; rfl)) <|
         ?_
        rintro _ _ _ ⟨rfl, rfl, rfl⟩
        refine ⟨⟨trivial, ⟨⟨0, rfl⟩, ⟨1, rfl⟩, trivial⟩, trivial⟩, ?_⟩
        exact av 12 8191 rfl (op_pick rfl rfl) <| av 13 16383 rfl (ag rfl) <| ad <| VN.meet0 [] [] trivial
      intro _
      refine VC.ret <| ?_
      obtain rfl := Option.some.inj h
      exact rq 10 rfl ⟨rfl, rfl, rfl⟩
    obtain rfl : b34522 = false := hb34522.symm.trans (beq_eq_false_iff_ne.2 c34523)
    refine VC.join0 (⟨128, [(10, .bool false)], [], [], []⟩) (True) ?_ ?_
    · refine dw ⟨0, [], [], [], []⟩ 14 <| aC 0 1 rfl (o_call0 FO9 (tarrylaw05_alive.ok k true hA34520) rfl rfl (ltn rfl) (All_of .nil)) <| ?_
      rintro _ _ _ ⟨rfl, rfl, rfl⟩
      refine ⟨⟨trivial, trivial, trivial⟩, ?_⟩
      exact av 1 3 rfl (mv rfl) <| av 2 7 rfl (mv rfl) <| av 3 15 rfl (op_cmp rfl rfl (congrArg some hb34522)) <| av 4 31 rfl (op_pick rfl rfl) <| av 5 63 rfl (mv rfl) <| au 6 127 rfl rfl <| au 7 255 rfl rfl <| au 8 511 rfl rfl <| au 9 1023 rfl rfl <| au 10 2047 rfl rfl <| au 11 4095 rfl rfl <|
       av 12 8191 rfl (op_pick rfl rfl) <| av 13 16383 rfl (ag rfl) <| ad <| VN.meet0 [] [] trivial
    intro _
    refine VC.ret <| ?_
    cases h
  obtain rfl := Bool.eq_false_iff.2 c34521
  refine VC.join0 (⟨128, [(10, .bool false)], [], [], []⟩) (True) ?_ ?_
  · refine dw ⟨0, [], [], [], []⟩ 14 <| aC 0 1 rfl (o_call0 FO9 (tarrylaw05_alive.ok k false hA34520) rfl rfl (ltn rfl) (All_of .nil)) <| ?_
    rintro _ _ _ ⟨rfl, rfl, rfl⟩
    refine ⟨⟨trivial, trivial, trivial⟩, ?_⟩
    exact av 1 3 rfl (mv rfl) <| au 2 7 rfl rfl <| au 3 15 rfl rfl <| av 4 31 rfl (op_pick rfl rfl) <| av 5 63 rfl (mv rfl) <| au 6 127 rfl rfl <| au 7 255 rfl rfl <| au 8 511 rfl rfl <| au 9 1023 rfl rfl <| au 10 2047 rfl rfl <| au 11 4095 rfl rfl <| av 12 8191 rfl (op_pick rfl rfl) <|
     av 13 16383 rfl (ag rfl) <| ad <| VN.meet0 [] [] trivial
  intro _
  refine VC.ret <| ?_
  cases h

end Go.Proofs.YtipeglbeongfmaaGreat.PJournalCrashes
