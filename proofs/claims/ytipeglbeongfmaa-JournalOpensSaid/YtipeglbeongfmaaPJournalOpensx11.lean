/- Written by a program of this repo: what the program's functions do, each as a Lean function, shown of the loaded code; or a statement's row over that; no condition of its own. -/
import Derived.Test.YtipeglbeongfmaaPJournalOpensx10
namespace Go.Proofs.Ytipeglbeongfmaa.PJournalOpens
open Go Go.RowKit Go.Proofs.YtipeglbeongfmaaV
set_option linter.unusedVariables false
set_option linter.unusedSimpArgs false
set_option maxHeartbeats 4000000
set_option maxRecDepth 100000

theorem tarryref05_Open.ok (k : Nat) (l0_0 : List ByteArray) (l0_1 : List S55) (v0_0 : Value) (v0_1 : Value) (r1 : List ByteArray) (r2 : List S55) (r3 : Int) (r4 : Int) (r5 : Int) (r6 : List ByteArray) (r7 : List ByteArray) (r8 : Int) (h : tarryref05_Open.f k l0_0 l0_1 = some (r1, r2, r3, r4, r5, r6, r7, r8)) :
    VCalls Try.prog 10 [.agg #[v0_0, v0_1]] [.row v0_0 1 (l0_0.map enc_str), .row v0_1 2 (l0_1.map enc55)] (fun v G own => ∃ w0 w1 w5 w6 : Value, v = .agg #[w0, w1, iv r3, iv r4, iv r5, w5, w6, iv r8] ∧ G = [.row w0 1 (r1.map enc_str), .row w1 2 (r2.map enc55)] ∧ own = [(w5, 9, 1, r6.map enc_str), (w6, 9, 1, r7.map enc_str)]) := by
  refine VCalls.intro Try.func10 rfl (len rfl) fun E hC hW hD hU => ?_
  unfold tarryref05_Open.f at h
  refine sr <| sG (o_box rfl (.agg (.f 0 rfl (.f 1 rfl .nil)))) fun g24641 => sG (o_alloc Z34 ZL34) fun g24642 => ds <| sr <| va (op_load 1 2 rfl rfl TI25 rfl (fun h => absurd h (by decide))) <| ?_
  replace h := bd h
  obtain ⟨t24674, hA24675, h⟩ := h
  refine sC (o_call0 FO28 (tarryref03_Right.ok k l0_0 l0_1 v0_0 v0_1 t24674 hA24675) rfl rfl (ltn rfl) (All_of (.cons (mG 0 rfl) (.cons (mG 1 rfl) .nil)))) <| ?_
  rintro _ _ _ ⟨rfl, rfl, rfl⟩
  replace h := iC h
  rcases h with ⟨c24676, h⟩ | ⟨c24676, h⟩
  · obtain rfl := c24676
    refine va (op_not rfl rfl) <| vm rfl <| va (op_fieldAddr FI25_0 rfl (add_at _ _ _)) <| va (op_load 1 1 rfl rfl TI22 rfl (by decide)) <| va (op_len (m := l0_0.length) 0 lenm Try.underlying22 rfl rfl) <|
     VL.letter (decide ((l0_0.length : Int) < 8)) fun b24677 hb24677 => va (op_cmp rfl rfl (congrArg some hb24677)) <| va (op_pick rfl rfl) <| vm rfl <| ?_
    replace h := iC h
    rcases h with ⟨c24678, h⟩ | ⟨c24678, h⟩
    · cases lT c24678 hb24677
      refine un rfl <| un rfl <| un rfl <| un rfl <| va (op_pick rfl rfl) <| dt <| ct <| sr <|
       va (op_build (vals := [(1, iv 1)]) (vcs := [(1, [iv 1])]) (cells := [sn, sn, iv 0, iv 0, iv 0, sn, sn, iv 1]) SI34 rfl (.cons ⟨rfl, (.c rfl)⟩ .nil) (by kernel_rfl)) <|
       s1 (o_store 0 8 rfl rfl rfl TI34 (.agg (.of rfl)) rfl (len rfl)) <| dt <| VC.ret <| VR.then <| ?_
      simp only [Option.some.injEq, Prod.mk.injEq] at h
      obtain ⟨rfl, rfl, rfl, rfl, rfl, rfl, rfl, rfl⟩ := h
      exact VR.nilFact' 1 <| VR.nilFact' 2 <| VR.nilRow' 9 1 <| VR.nilRow' 9 1 <| rf [.cell 2 34] [1, 0] (.cell 0 rfl rfl TI34 (fun h => absurd h (by decide)) .nil) ⟨sn, sn, sn, sn, rfl, rfl, rfl⟩
    cases lF c24678 hb24677
    refine va (op_fieldAddr FI25_1 rfl (add_at _ _ _)) <| va (op_load 1 1 rfl rfl TI23 rfl (by decide)) <| va (op_len (m := l0_1.length) 1 lenm Try.underlying23 rfl rfl) <| VL.letter (decide ((l0_1.length : Int) > 0)) fun b24683 hb24683 => va (op_cmp rfl rfl (congrArg some hb24683)) <|
     va (op_pick rfl rfl) <| dt <| ?_
    replace h := iC h
    rcases h with ⟨c24684, h⟩ | ⟨c24684, h⟩
    · cases lT c24684 hb24683
      refine ct <| sr <| va (op_build (vals := [(1, iv 1)]) (vcs := [(1, [iv 1])]) (cells := [sn, sn, iv 0, iv 0, iv 0, sn, sn, iv 1]) SI34 rfl (.cons ⟨rfl, (.c rfl)⟩ .nil) (by kernel_rfl)) <|
       s1 (o_store 0 8 rfl rfl rfl TI34 (.agg (.of rfl)) rfl (len rfl)) <| dt <| VC.ret <| VR.then <| ?_
      simp only [Option.some.injEq, Prod.mk.injEq] at h
      obtain ⟨rfl, rfl, rfl, rfl, rfl, rfl, rfl, rfl⟩ := h
      exact VR.nilFact' 1 <| VR.nilFact' 2 <| VR.nilRow' 9 1 <| VR.nilRow' 9 1 <| rf [.cell 2 34] [1, 0] (.cell 0 rfl rfl TI34 (fun h => absurd h (by decide)) .nil) ⟨sn, sn, sn, sn, rfl, rfl, rfl⟩
    cases lF c24684 hb24683
    refine cf <| sk <| sr <| va (op_load 1 2 rfl rfl TI25 rfl (fun h => absurd h (by decide))) <| ?_
    replace h := bd h
    obtain ⟨⟨r24689, r24690, t24691, t24692, t24693, r24694, r24695⟩, hA24696, h⟩ := h
    dsimp only at h
    refine sC (o_call0 FO29 (tarryref05_read.ok k l0_0 l0_1 0 v0_0 v0_1 r24689 r24690 t24691 t24692 t24693 r24694 r24695 hA24696) rfl rfl (ltn rfl) (All_of (.cons (mG 0 rfl) (.cons (mG 1 rfl) .nil)))) <| ?_
    rintro _ _ _ ⟨v24698, v24700, v24702, v24704, rfl, rfl, rfl⟩
    refine sG (o_alloc Z27 ZL27) fun g24705 => s1 (o_store 0 7 rfl rfl rfl TI27 (.agg (.r 0 rfl (.r 1 rfl (.c rfl (.c rfl (.c rfl (.r 2 rfl (.r 3 rfl .nil)))))))) rfl (len rfl)) <| nx <| va (op_load 2 2 rfl rfl TI25 rfl (fun h => absurd h (by decide))) <| ?_
    replace h := bd h
    obtain ⟨⟨r24706, r24707, t24708, t24709, t24710, r24711, r24712⟩, hA24713, h⟩ := h
    dsimp only at h
    refine sC (o_call0 FO29 (tarryref05_read.ok k l0_0 l0_1 1 v0_0 v0_1 r24706 r24707 t24708 t24709 t24710 r24711 r24712 hA24713) rfl rfl (ltn rfl) (All_of (.cons (mG 0 rfl) (.cons (mG 1 rfl) .nil)))) <| ?_
    rintro _ _ _ ⟨v24715, v24717, v24719, v24721, rfl, rfl, rfl⟩
    refine sG (o_alloc Z27 ZL27) fun g24722 => s1 (o_store 0 7 rfl rfl rfl TI27 (.agg (.r 0 rfl (.r 1 rfl (.c rfl (.c rfl (.c rfl (.r 2 rfl (.r 3 rfl .nil)))))))) rfl (len rfl)) <| ds <| sr <| va (op_fieldAddr FI27_1 rfl (add_at _ _ _)) <| va (op_load 0 1 rfl rfl TI3 rfl (by decide)) <|
     va (op_fieldAddr FI27_1 rfl (add_at _ _ _)) <| va (op_load 1 1 rfl rfl TI3 rfl (by decide)) <| VL.letter (decide (t24708 > t24691)) fun b24725 hb24725 => va (op_cmp rfl rfl (congrArg some hb24725)) <| dt <| ?_
    replace h := iC h
    rcases h with ⟨c24726, h⟩ | ⟨c24726, h⟩
    · cases lT c24726 hb24725
      refine ct <| rg <| va (op_load 0 7 rfl rfl TI27 rfl (fun h => absurd h (by decide))) <| s1 (o_store 1 7 rfl rfl rfl TI27 (.agg (.r 0 rfl (.r 1 rfl (.c rfl (.c rfl (.c rfl (.r 2 rfl (.r 3 rfl .nil)))))))) rfl (len rfl)) <| ds <| sr <| va (op_fieldAddr FI27_1 rfl (add_at _ _ _)) <|
       va (op_load 1 1 rfl rfl TI3 rfl (by decide)) <| VL.letter ((t24708 == 0)) fun b24733 hb24733 => va (op_cmp rfl rfl (congrArg some hb24733)) <| dt <| ?_
      replace h := iC h
      rcases h with ⟨c24734, h⟩ | ⟨c24734, h⟩
      · obtain rfl : b24733 = true := hb24733.symm.trans (beq_iff_eq.2 c24734)
        refine ct <| sr <| va (op_build (vals := [(1, iv 5)]) (vcs := [(1, [iv 5])]) (cells := [sn, sn, iv 0, iv 0, iv 0, sn, sn, iv 5]) SI34 rfl (.cons ⟨rfl, (.c rfl)⟩ .nil) (by kernel_rfl)) <|
         s1 (o_store 2 8 rfl rfl rfl TI34 (.agg (.of rfl)) rfl (len rfl)) <| dt <| VC.ret <| VR.then <| ?_
        simp only [Option.some.injEq, Prod.mk.injEq] at h
        obtain ⟨rfl, rfl, rfl, rfl, rfl, rfl, rfl, rfl⟩ := h
        exact VR.nilFact' 1 <| VR.nilFact' 2 <| VR.nilRow' 9 1 <| VR.nilRow' 9 1 <| rf [.cell 2 34] [1, 0] (.cell 2 rfl rfl TI34 (fun h => absurd h (by decide)) .nil) ⟨sn, sn, sn, sn, rfl, rfl, rfl⟩
      obtain rfl : b24733 = false := hb24733.symm.trans (beq_eq_false_iff_ne.2 c24734)
      refine cf <| sk <| sr <| va (op_load 3 2 rfl rfl TI25 rfl (fun h => absurd h (by decide))) <| va (op_fieldAddr FI27_2 rfl (add_at _ _ _)) <| va (op_load 1 1 rfl rfl TI3 rfl (by decide)) <| va (op_fieldAddr FI27_3 rfl (add_at _ _ _)) <| va (op_load 1 1 rfl rfl TI3 rfl (by decide)) <| ?_
      replace h := bd h
      obtain ⟨t24739, hA24740, h⟩ := h
      refine sC (o_call0 FO30 (tarryref05_Bytes.ok k l0_0 l0_1 t24709 t24710 v0_0 v0_1 t24739 hA24740) rfl rfl (ltn rfl) (All_of (.cons (mG 0 rfl) (.cons (mG 1 rfl) .nil)))) <| ?_
      rintro _ _ _ ⟨rfl, rfl, rfl⟩
      refine vs rfl <| nx <| vm rfl <| ?_
      replace h := bd h
      obtain ⟨r24741, hA24742, h⟩ := h
      refine sC (o_call0 FO31 (tarryref04_Scan.ok k t24739 r24741 hA24742) rfl rfl (ltn rfl) (All_of .nil)) <| ?_
      rintro v24744 _ _ ⟨_, rfl, rfl, rfl⟩
      refine va (op_fieldAddr FI27_5 rfl (add_at _ _ _)) <| s1 (o_store 1 1 rfl rfl rfl TI22 (.r 0 rfl) rfl (len rfl)) <| ds <| sr <| va (op_fieldAddr FI27_5 rfl (add_at _ _ _)) <| va (op_load 1 1 rfl rfl TI22 rfl (by decide)) <| ?_
      replace h := bd h
      obtain ⟨t24753, hA24754, h⟩ := h
      refine sC (o_call_b0 FO32 (tarryref04_Whole.ok k r24741 v24744 t24753 hA24754) rfl rfl (ltn rfl) (All_of (.cons (.inr (.inl ⟨_, mG 0 rfl, rfl⟩)) .nil)) (by rintro _ _ _ ⟨rfl, rfl, rfl⟩; rfl)) <| ?_
      rintro _ _ _ ⟨rfl, rfl, rfl⟩
      refine vm rfl <| VL.letter ((t24753 != t24739)) fun b24755 hb24755 => va (op_cmps rfl rfl (congrArg some hb24755)) <| dt <| ?_
      replace h := iC h
      rcases h with ⟨c24756, h⟩ | ⟨c24756, h⟩
      · obtain rfl : b24755 = false := hb24755.symm.trans (bne_of_t c24756)
        refine cf <| sk <| sr <| va (op_load 3 2 rfl rfl TI25 rfl (fun h => absurd h (by decide))) <| va (op_fieldAddr FI27_0 rfl (add_at _ _ _)) <| s1 (o_store 1 2 rfl rfl rfl TI25 (.agg (.f 0 rfl (.f 1 rfl .nil))) rfl (len rfl)) <| nx <|
         va (op_load 1 7 rfl rfl TI27 rfl (fun h => absurd h (by decide))) <|
         va (op_build (vals := [(0, .agg #[v0_0, v0_1, iv t24708, iv t24709, iv t24710, v24719, v24744])]) (vcs := [(0, [v0_0, v0_1, iv t24708, iv t24709, iv t24710, v24719, v24744])]) (cells := [v0_0, v0_1, iv t24708, iv t24709, iv t24710, v24719, v24744, iv 0]) SI34 rfl (.cons ⟨rfl, (.agg (.f 0 rfl (.f 1 rfl (.c rfl (.c rfl (.c rfl (.r 3 rfl (.r 0 rfl .nil))))))))⟩ .nil) (by kernel_rfl)) <|
         s1 (o_store 2 8 rfl rfl rfl TI34 (.agg (.f 0 rfl (.f 1 rfl (.c rfl (.c rfl (.c rfl (.r 3 rfl (.r 0 rfl (.c rfl .nil))))))))) rfl (len rfl)) <| dt <| VC.ret <| ?_
        simp only [Option.some.injEq, Prod.mk.injEq] at h
        obtain ⟨rfl, rfl, rfl, rfl, rfl, rfl, rfl, rfl⟩ := h
        exact rf [.cell 2 34] [3, 0] (.cell 2 rfl rfl TI34 (fun h => absurd h (by decide)) .nil) ⟨v0_0, v0_1, v24719, v24744, rfl, rfl, rfl⟩
      obtain rfl : b24755 = true := hb24755.symm.trans (bne_of_f c24756)
      refine ct <| sr <| va (op_build (vals := [(1, iv 6)]) (vcs := [(1, [iv 6])]) (cells := [sn, sn, iv 0, iv 0, iv 0, sn, sn, iv 6]) SI34 rfl (.cons ⟨rfl, (.c rfl)⟩ .nil) (by kernel_rfl)) <|
       s1 (o_store 2 8 rfl rfl rfl TI34 (.agg (.of rfl)) rfl (len rfl)) <| dt <| VC.ret <| VR.then <| ?_
      simp only [Option.some.injEq, Prod.mk.injEq] at h
      obtain ⟨rfl, rfl, rfl, rfl, rfl, rfl, rfl, rfl⟩ := h
      exact VR.nilFact' 1 <| VR.nilFact' 2 <| VR.nilRow' 9 1 <| VR.nilRow' 9 1 <| rf [.cell 2 34] [1, 0] (.cell 2 rfl rfl TI34 (fun h => absurd h (by decide)) .nil) ⟨sn, sn, sn, sn, rfl, rfl, rfl⟩
    cases lF c24726 hb24725
    refine cf <| sk <| sq <| sr <| va (op_fieldAddr FI27_1 rfl (add_at _ _ _)) <| va (op_load 1 1 rfl rfl TI3 rfl (by decide)) <| VL.letter ((t24691 == 0)) fun b24767 hb24767 => va (op_cmp rfl rfl (congrArg some hb24767)) <| dt <| ?_
    replace h := iC h
    rcases h with ⟨c24768, h⟩ | ⟨c24768, h⟩
    · obtain rfl : b24767 = true := hb24767.symm.trans (beq_iff_eq.2 c24768)
      refine ct <| sr <| va (op_build (vals := [(1, iv 5)]) (vcs := [(1, [iv 5])]) (cells := [sn, sn, iv 0, iv 0, iv 0, sn, sn, iv 5]) SI34 rfl (.cons ⟨rfl, (.c rfl)⟩ .nil) (by kernel_rfl)) <|
       s1 (o_store 2 8 rfl rfl rfl TI34 (.agg (.of rfl)) rfl (len rfl)) <| dt <| VC.ret <| VR.then <| ?_
      simp only [Option.some.injEq, Prod.mk.injEq] at h
      obtain ⟨rfl, rfl, rfl, rfl, rfl, rfl, rfl, rfl⟩ := h
      exact VR.nilFact' 1 <| VR.nilFact' 2 <| VR.nilRow' 9 1 <| VR.nilRow' 9 1 <| rf [.cell 2 34] [1, 0] (.cell 2 rfl rfl TI34 (fun h => absurd h (by decide)) .nil) ⟨sn, sn, sn, sn, rfl, rfl, rfl⟩
    obtain rfl : b24767 = false := hb24767.symm.trans (beq_eq_false_iff_ne.2 c24768)
    refine cf <| sk <| sr <| va (op_load 3 2 rfl rfl TI25 rfl (fun h => absurd h (by decide))) <| va (op_fieldAddr FI27_2 rfl (add_at _ _ _)) <| va (op_load 1 1 rfl rfl TI3 rfl (by decide)) <| va (op_fieldAddr FI27_3 rfl (add_at _ _ _)) <| va (op_load 1 1 rfl rfl TI3 rfl (by decide)) <| ?_
    replace h := bd h
    obtain ⟨t24773, hA24774, h⟩ := h
    refine sC (o_call0 FO30 (tarryref05_Bytes.ok k l0_0 l0_1 t24692 t24693 v0_0 v0_1 t24773 hA24774) rfl rfl (ltn rfl) (All_of (.cons (mG 0 rfl) (.cons (mG 1 rfl) .nil)))) <| ?_
    rintro _ _ _ ⟨rfl, rfl, rfl⟩
    refine vs rfl <| nx <| vm rfl <| ?_
    replace h := bd h
    obtain ⟨r24775, hA24776, h⟩ := h
    refine sC (o_call0 FO31 (tarryref04_Scan.ok k t24773 r24775 hA24776) rfl rfl (ltn rfl) (All_of .nil)) <| ?_
    rintro v24778 _ _ ⟨_, rfl, rfl, rfl⟩
    refine va (op_fieldAddr FI27_5 rfl (add_at _ _ _)) <| s1 (o_store 1 1 rfl rfl rfl TI22 (.r 0 rfl) rfl (len rfl)) <| ds <| sr <| va (op_fieldAddr FI27_5 rfl (add_at _ _ _)) <| va (op_load 1 1 rfl rfl TI22 rfl (by decide)) <| ?_
    replace h := bd h
    obtain ⟨t24787, hA24788, h⟩ := h
    refine sC (o_call_b0 FO32 (tarryref04_Whole.ok k r24775 v24778 t24787 hA24788) rfl rfl (ltn rfl) (All_of (.cons (.inr (.inl ⟨_, mG 0 rfl, rfl⟩)) .nil)) (by rintro _ _ _ ⟨rfl, rfl, rfl⟩; rfl)) <| ?_
    rintro _ _ _ ⟨rfl, rfl, rfl⟩
    refine vm rfl <| VL.letter ((t24787 != t24773)) fun b24789 hb24789 => va (op_cmps rfl rfl (congrArg some hb24789)) <| dt <| ?_
    replace h := iC h
    rcases h with ⟨c24790, h⟩ | ⟨c24790, h⟩
    · obtain rfl : b24789 = false := hb24789.symm.trans (bne_of_t c24790)
      refine cf <| sk <| sr <| va (op_load 3 2 rfl rfl TI25 rfl (fun h => absurd h (by decide))) <| va (op_fieldAddr FI27_0 rfl (add_at _ _ _)) <| s1 (o_store 1 2 rfl rfl rfl TI25 (.agg (.f 0 rfl (.f 1 rfl .nil))) rfl (len rfl)) <| nx <|
       va (op_load 1 7 rfl rfl TI27 rfl (fun h => absurd h (by decide))) <|
       va (op_build (vals := [(0, .agg #[v0_0, v0_1, iv t24691, iv t24692, iv t24693, v24702, v24778])]) (vcs := [(0, [v0_0, v0_1, iv t24691, iv t24692, iv t24693, v24702, v24778])]) (cells := [v0_0, v0_1, iv t24691, iv t24692, iv t24693, v24702, v24778, iv 0]) SI34 rfl (.cons ⟨rfl, (.agg (.f 0 rfl (.f 1 rfl (.c rfl (.c rfl (.c rfl (.r 7 rfl (.r 0 rfl .nil))))))))⟩ .nil) (by kernel_rfl)) <|
       s1 (o_store 2 8 rfl rfl rfl TI34 (.agg (.f 0 rfl (.f 1 rfl (.c rfl (.c rfl (.c rfl (.r 7 rfl (.r 0 rfl (.c rfl .nil))))))))) rfl (len rfl)) <| dt <| VC.ret <| ?_
      simp only [Option.some.injEq, Prod.mk.injEq] at h
      obtain ⟨rfl, rfl, rfl, rfl, rfl, rfl, rfl, rfl⟩ := h
      exact rf [.cell 2 34] [7, 0] (.cell 2 rfl rfl TI34 (fun h => absurd h (by decide)) .nil) ⟨v0_0, v0_1, v24702, v24778, rfl, rfl, rfl⟩
    obtain rfl : b24789 = true := hb24789.symm.trans (bne_of_f c24790)
    refine ct <| sr <| va (op_build (vals := [(1, iv 6)]) (vcs := [(1, [iv 6])]) (cells := [sn, sn, iv 0, iv 0, iv 0, sn, sn, iv 6]) SI34 rfl (.cons ⟨rfl, (.c rfl)⟩ .nil) (by kernel_rfl)) <|
     s1 (o_store 2 8 rfl rfl rfl TI34 (.agg (.of rfl)) rfl (len rfl)) <| dt <| VC.ret <| VR.then <| ?_
    simp only [Option.some.injEq, Prod.mk.injEq] at h
    obtain ⟨rfl, rfl, rfl, rfl, rfl, rfl, rfl, rfl⟩ := h
    exact VR.nilFact' 1 <| VR.nilFact' 2 <| VR.nilRow' 9 1 <| VR.nilRow' 9 1 <| rf [.cell 2 34] [1, 0] (.cell 2 rfl rfl TI34 (fun h => absurd h (by decide)) .nil) ⟨sn, sn, sn, sn, rfl, rfl, rfl⟩
  obtain rfl := Bool.eq_false_iff.2 c24676
  refine va (op_not rfl rfl) <| vm rfl <| un rfl <| un rfl <| un rfl <| un rfl <| va (op_pick rfl rfl) <| vm rfl <| un rfl <| un rfl <| un rfl <| un rfl <| va (op_pick rfl rfl) <| dt <| ct <| sr <|
   va (op_build (vals := [(1, iv 1)]) (vcs := [(1, [iv 1])]) (cells := [sn, sn, iv 0, iv 0, iv 0, sn, sn, iv 1]) SI34 rfl (.cons ⟨rfl, (.c rfl)⟩ .nil) (by kernel_rfl)) <|
   s1 (o_store 0 8 rfl rfl rfl TI34 (.agg (.of rfl)) rfl (len rfl)) <| dt <| VC.ret <| VR.then <| ?_
  simp only [Option.some.injEq, Prod.mk.injEq] at h
  obtain ⟨rfl, rfl, rfl, rfl, rfl, rfl, rfl, rfl⟩ := h
  exact VR.nilFact' 1 <| VR.nilFact' 2 <| VR.nilRow' 9 1 <| VR.nilRow' 9 1 <| rf [.cell 2 34] [1, 0] (.cell 0 rfl rfl TI34 (fun h => absurd h (by decide)) .nil) ⟨sn, sn, sn, sn, rfl, rfl, rfl⟩

theorem tarryref01_Same.ok (k : Nat) (l0 : List ByteArray) (l1 : List ByteArray) (v0 : Value) (v1 : Value) (r1 : Bool) (h : tarryref01_Same.f k l0 l1 = some r1) :
    VCalls Try.prog 17 [v0, v1] [.row v0 1 (l0.map enc_str), .row v1 1 (l1.map enc_str)] (fun v G own => v = .bool r1 ∧ G = [] ∧ own = []) := by
  refine VCalls.intro Try.func17 rfl (len rfl) fun E hC hW hD hU => ?_
  unfold tarryref01_Same.f at h
  refine sr <| vs rfl <| ds <| sr <| vm rfl <| va (op_len (m := l0.length) 0 lenm Try.underlying22 rfl rfl) <| vm rfl <| va (op_len (m := l1.length) 1 lenm Try.underlying22 rfl rfl) <|
   VL.letter (((l0.length : Int) != (l1.length : Int))) fun b24839 hb24839 => va (op_cmp rfl rfl (congrArg some hb24839)) <| dt <| ?_
  replace h := iC h
  rcases h with ⟨c24840, h⟩ | ⟨c24840, h⟩
  · obtain rfl : b24839 = false := hb24839.symm.trans (bne_eq_false_iff_eq.2 c24840)
    refine cf <| sk <| sq <| sr <| vm rfl <| va (op_len (m := l0.length) 0 lenm Try.underlying22 rfl rfl) <| vm rfl <| dt <| VC.block <|
     VC.loop1 (fun (i24894 : Int) => ⟨26, [(0, v0), (1, v1), (4, .bool false), (12, iv (l0.length : Int)), (13, iv i24894)], [.row v0 1 (l0.map enc_str), .row v1 1 (l1.map enc_str)], [], []⟩) (fun (ml1 : Nat) (i24894 : Int) => tarryref01_Same.l1 k l0 l1 ml1 i24894 = some r1) k 0 [] [] h ⟨rfl, ⟨rfl, rfl, rfl, rfl, rfl, trivial⟩, ⟨⟨0, rfl⟩, ⟨1, rfl⟩, trivial⟩, rfl, by decide, rfl, by decide⟩ (by intros; simp [tarryref01_Same.l1]) <|
     ?_
    clear h
    intro ml1 ihl1 i24894 h
    simp only [tarryref01_Same.l1] at h
    refine sr <| VL.letter (decide (i24894 < (l0.length : Int))) fun b24908 hb24908 => va (op_cmp rfl rfl (congrArg some hb24908)) <| ds <| ?_
    replace h := iC h
    rcases h with ⟨c24910, h⟩ | ⟨c24910, h⟩
    · cases lT c24910 hb24908
      refine ct <| sk <| sq <| VC.block <| sr <| vm rfl <| vs rfl <| dt <| ?_
      replace h := iN h
      obtain ⟨c24916, h⟩ := h
      replace h := bd h
      obtain ⟨x24917, hx24917, h⟩ := h
      replace h := bd h
      obtain ⟨x24918, hx24918, h⟩ := h
      refine VC.letter ((x24917 != x24918)) fun b24919 hb24919 => VC.open (m := l0.length) 0 lenm rfl (pos_get hx24917) <| ?_
      rintro ad24845 n24846 rfl
      refine VC.open (m := l1.length) 1 lenm rfl (pos_get hx24918) <| ?_
      rintro ad24848 n24849 rfl
      refine VC.join0 (⟨26, [(0, (.slice (some ad24845) l0.length n24846)), (1, (.slice (some ad24848) l1.length n24849)), (4, .bool false), (5, iv i24894), (12, iv (l0.length : Int)), (13, iv i24894), (14, .bool true), (15, iv i24894), (16, (.slice (some ad24845) l0.length n24846)), (17, iv i24894), (19, .string x24917), (20, (.slice (some ad24848) l1.length n24849)), (21, iv i24894), (23, .string x24918), (24, .bool b24919)], [.row (.slice (some ad24845) l0.length n24846) 1 (l0.map enc_str), .row (.slice (some ad24848) l1.length n24849) 1 (l1.map enc_str)], [], []⟩) (True) ?_ ?_
      · exact dw ⟨0, [], [.row (.slice (some ad24845) l0.length n24846) 1 (l0.map enc_str), .row (.slice (some ad24848) l1.length n24849) 1 (l1.map enc_str)], [], []⟩ 9 <| av 0 1 rfl (mv rfl) <| av 1 3 rfl (mv rfl) <|
         av 2 7 rfl (op_indexAddr Try.underlying22 TI9 rfl rfl c24916 (lt_get c24916 hx24917) rfl) <| av 3 15 rfl (op_load_row (sz := 1) (o := 0) 0 i24894.toNat 1 rfl rfl (get_map hx24917) TI9 rfl (by decide)) <| av 4 31 rfl (mv rfl) <| av 5 63 rfl (mv rfl) <|
         av 6 127 rfl (op_indexAddr Try.underlying22 TI9 rfl rfl c24916 (lt_get c24916 hx24918) rfl) <| av 7 255 rfl (op_load_row (sz := 1) (o := 0) 1 i24894.toNat 1 rfl rfl (get_map hx24918) TI9 rfl (by decide)) <| av 8 511 rfl (op_cmps rfl rfl (congrArg some hb24919)) <| ad <| VN.meet0 [] [] trivial
      intro _
      replace h := iC h
      rcases h with ⟨c24920, h⟩ | ⟨c24920, h⟩
      · obtain rfl : b24919 = false := hb24919.symm.trans (bne_of_t c24920)
        refine cf <| VC.skip <| VN.block <| tr <| va (op_ari64 rfl rfl rfl) <| vm rfl <| dn <| VN.again [] [] (ihl1 (wrap64 (i24894 + 1)) h)
      obtain rfl : b24919 = true := hb24919.symm.trans (bne_of_f c24920)
      refine ct <| sr <| vs rfl <| dt <| VC.ret <| VR.block <| VR.then <| VR.then <| VR.block <| VR.then <| ?_
      obtain rfl := Option.some.inj h
      exact rq 4 rfl ⟨rfl, rfl, rfl⟩
    cases lF c24910 hb24908
    refine cf <| VC.exit <| VX.then <| VX.then <| VX.hit <| tx <| vs rfl <| dt <| VC.ret <| ?_
    obtain rfl := Option.some.inj h
    exact rq 4 rfl ⟨rfl, rfl, rfl⟩
  obtain rfl : b24839 = true := hb24839.symm.trans (bne_iff_ne.2 c24840)
  refine ct <| sr <| vs rfl <| dt <| VC.ret <| VR.then <| ?_
  obtain rfl := Option.some.inj h
  exact rq 4 rfl ⟨rfl, rfl, rfl⟩

end Go.Proofs.Ytipeglbeongfmaa.PJournalOpens
