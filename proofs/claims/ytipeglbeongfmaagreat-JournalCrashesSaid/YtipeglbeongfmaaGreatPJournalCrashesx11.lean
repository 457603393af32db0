/- Written by a program of this repo: what the program's functions do, each as a Lean function, shown of the loaded code; or a statement's row over that; no condition of its own. -/
import Derived.Test.YtipeglbeongfmaaGreatPJournalCrashesx10
namespace Go.Proofs.YtipeglbeongfmaaGreat.PJournalCrashes
open Go Go.RowKit Go.Proofs.YtipeglbeongfmaaGreatV
set_option linter.unusedVariables false
set_option linter.unusedSimpArgs false
set_option maxHeartbeats 4000000
set_option maxRecDepth 100000

theorem journal_Crash.ok (k : Nat) (l0_0 : List ByteArray) (l0_1 : List S71) (a0_2 : Int) (a0_3 : Int) (a0_4 : Int) (l0_5 : List ByteArray) (l0_6 : List ByteArray) (a1 : ByteArray) (a2 : Bool) (a3 : Int) (a4 : Int) (v0_0 : Value) (v0_1 : Value) (v0_5 : Value) (v0_6 : Value) (r1 : List ByteArray) (r2 : List S71) (r3 : Int) (h : journal_Crash.f k l0_0 l0_1 a0_2 a0_3 a0_4 l0_5 l0_6 a1 a2 a3 a4 = some (r1, r2, r3)) :
    VCalls Tryz.prog 17 [.agg #[v0_0, v0_1, iv a0_2, iv a0_3, iv a0_4, v0_5, v0_6], .string a1, .bool a2, .int .u64 a3, iv a4] [.row v0_0 1 (l0_0.map enc_str), .row v0_1 2 (l0_1.map enc71), .row v0_5 1 (l0_5.map enc_str), .row v0_6 1 (l0_6.map enc_str)] (fun v G own => ∃ w0 w1 : Value, v = .tuple #[.agg #[w0, w1], iv r3] ∧ G = [] ∧ own = [(w0, 9, 1, r1.map enc_str), (w1, 72, 2, r2.map enc71)]) := by
  refine VCalls.intro Tryz.func17 rfl (len rfl) fun E hC hW hD hU => ?_
  unfold journal_Crash.f at h
  refine sr <| sG (o_box rfl (.agg (.f 0 rfl (.f 1 rfl (.c rfl (.c rfl (.c rfl (.f 2 rfl (.f 3 rfl .nil))))))))) fun g475 => sG (o_alloc Z25 ZL25) fun g476 => vs rfl <| dt <|
   VC.join0 (⟨56, [(1, .string a1), (2, .bool a2), (3, .int .u64 a3), (4, iv a4), (5, pt g475 0), (10, pt g476 0), (11, iv 0)], [.row v0_0 1 (l0_0.map enc_str), .row v0_1 2 (l0_1.map enc71), .row v0_5 1 (l0_5.map enc_str), .row v0_6 1 (l0_6.map enc_str)], [(g476, 25, [sn, sn]), (g475, 27, [v0_0, v0_1, iv a0_2, iv a0_3, iv a0_4, v0_5, v0_6])], []⟩) (journal_Crash.j1 k a0_2 a0_3 a0_4 a1 a2 a3 a4 l0_0 l0_1 l0_5 l0_6 = some (r1, r2, r3)) ?_ ?_
  · refine VC.block <| sr <| va (op_load 1 7 rfl rfl TI27 rfl (fun h => absurd h (by decide))) <| ?_
    replace h := bd h
    obtain ⟨t8704, hA8705, h⟩ := h
    refine sC (o_call0 FO24 (journal_Right.ok k l0_0 l0_1 a0_2 a0_3 a0_4 l0_5 l0_6 v0_0 v0_1 v0_5 v0_6 t8704 hA8705) rfl rfl (ltn rfl) (All_of (.cons (mG 0 rfl) (.cons (mG 1 rfl) (.cons (mG 2 rfl) (.cons (mG 3 rfl) .nil)))))) <| ?_
    rintro _ _ _ ⟨rfl, rfl, rfl⟩
    replace h := iC h
    rcases h with ⟨c8706, h⟩ | ⟨c8706, h⟩
    · obtain rfl := c8706
      refine va (op_not rfl rfl) <| vs rfl <| dt <| cf <| sr <| vm rfl <| VL.letter ((a1 == (⟨#[]⟩ : ByteArray))) fun b8710 hb8710 => va (op_cmps rfl rfl (congrArg some hb8710)) <| vm rfl <| ?_
      replace h := iC h
      rcases h with ⟨c8711, h⟩ | ⟨c8711, h⟩
      · obtain rfl : b8710 = true := hb8710.symm.trans (c8711)
        refine va (op_fieldAddr FI27_1 rfl (add_at _ _ _)) <| va (op_load 1 1 rfl rfl TI3 rfl (by decide)) <| VL.letter ((a0_2 == 1099511627776)) fun b8712 hb8712 => va (op_cmp rfl rfl (congrArg some hb8712)) <| va (op_pick rfl rfl) <| vs rfl <| dt <| ?_
        replace h := iC h
        rcases h with ⟨c8713, h⟩ | ⟨c8713, h⟩
        · obtain rfl : b8712 = true := hb8712.symm.trans (beq_iff_eq.2 c8713)
          refine ct <| sr <| va (op_build (vals := []) (vcs := []) (cells := [sn, sn]) SI25 rfl .nil (by kernel_rfl)) <| s1 (o_store 0 2 rfl rfl rfl TI25 (.agg (.of rfl)) rfl (len rfl)) <| vs rfl <| dt <| VC.ret <| VR.block <| VR.then <| ?_
          simp only [Option.some.injEq, Prod.mk.injEq] at h
          obtain ⟨rfl, rfl, rfl⟩ := h
          exact VR.nilRow' 9 1 <| VR.nilRow' 72 2 <| rf [.cell 10 25, .tmp 11] [1, 0] (.cell 0 rfl rfl TI25 (fun h => absurd h (by decide)) (.tmp rfl .nil)) ⟨sn, sn, rfl, rfl, rfl⟩
        obtain rfl : b8712 = false := hb8712.symm.trans (beq_eq_false_iff_ne.2 c8713)
        refine cf <| VC.skip <| VN.block <| VN.meet0 [0, 1] [] h
      obtain rfl : b8710 = false := hb8710.symm.trans (Bool.eq_false_iff.2 c8711)
      refine un rfl <| un rfl <| un rfl <| va (op_pick rfl rfl) <| vs rfl <| dt <| cf <| VC.skip <| VN.block <| VN.meet0 [0, 1] [] h
    obtain rfl := Bool.eq_false_iff.2 c8706
    refine va (op_not rfl rfl) <| vs rfl <| dt <| ct <| sr <| va (op_build (vals := []) (vcs := []) (cells := [sn, sn]) SI25 rfl .nil (by kernel_rfl)) <| s1 (o_store 0 2 rfl rfl rfl TI25 (.agg (.of rfl)) rfl (len rfl)) <| vs rfl <| dt <| VC.ret <| VR.block <| VR.then <| ?_
    simp only [Option.some.injEq, Prod.mk.injEq] at h
    obtain ⟨rfl, rfl, rfl⟩ := h
    exact VR.nilRow' 9 1 <| VR.nilRow' 72 2 <| rf [.cell 10 25, .tmp 11] [1, 0] (.cell 0 rfl rfl TI25 (fun h => absurd h (by decide)) (.tmp rfl .nil)) ⟨sn, sn, rfl, rfl, rfl⟩
  clear h
  intro  h
  unfold journal_Crash.j1 at h
  refine sr <| va (op_load 1 7 rfl rfl TI27 rfl (fun h => absurd h (by decide))) <| ?_
  replace h := bd h
  obtain ⟨⟨t8718, t8719, t8720⟩, hA8721, h⟩ := h
  dsimp only at h
  refine sC (o_call0 FO27 (journal_groups.ok k l0_0 l0_1 a0_2 a0_3 a0_4 l0_5 l0_6 v0_0 v0_1 v0_5 v0_6 t8718 t8719 t8720 hA8721) rfl rfl (ltn rfl) (All_of (.cons (mG 0 rfl) (.cons (mG 1 rfl) (.cons (mG 2 rfl) (.cons (mG 3 rfl) .nil)))))) <| ?_
  rintro _ _ _ ⟨rfl, rfl, rfl⟩
  refine sG (o_alloc Z53 ZL53) fun g8722 => s1 (o_store 0 3 rfl rfl rfl TI53 (.agg (.of rfl)) rfl (len rfl)) <| ds <| sr <| vm rfl <| VL.letter ((a1 != (⟨#[]⟩ : ByteArray))) fun b8741 hb8741 => va (op_cmps rfl rfl (congrArg some hb8741)) <| dt <| ?_
  replace h := iC h
  rcases h with ⟨c8742, h⟩ | ⟨c8742, h⟩
  · obtain rfl : b8741 = false := hb8741.symm.trans (bne_of_t c8742)
    refine cf <| sk <| sr <| va (op_load 0 3 rfl rfl TI53 rfl (fun h => absurd h (by decide))) <| va (op_load 2 7 rfl rfl TI27 rfl (fun h => absurd h (by decide))) <| ?_
    replace h := bd h
    obtain ⟨⟨r8743, r8744⟩, hA8745, h⟩ := h
    dsimp only at h
    refine sC (o_call0 FO38 (journal_plan_first.ok k t8718 t8719 t8720 l0_0 l0_1 a0_2 a0_3 a0_4 l0_5 l0_6 v0_0 v0_1 v0_5 v0_6 r8743 r8744 hA8745) rfl rfl (ltn rfl) (All_of (.cons (mG 0 rfl) (.cons (mG 1 rfl) (.cons (mG 2 rfl) (.cons (mG 3 rfl) .nil)))))) <| ?_
    rintro _ _ _ ⟨v8747, v8749, rfl, rfl, rfl⟩
    refine sG (o_alloc Z25 ZL25) fun g8750 => s1 (o_store 0 2 rfl rfl rfl TI25 (.agg (.f 0 rfl (.f 1 rfl .nil))) rfl (len rfl)) <| ds <| sr <| vm rfl <| dt <| ?_
    replace h := iC h
    rcases h with ⟨c8759, h⟩ | ⟨c8759, h⟩
    · obtain rfl := c8759
      refine ct <| rg <| va (op_load 1 3 rfl rfl TI53 rfl (fun h => absurd h (by decide))) <| va (op_load 3 7 rfl rfl TI27 rfl (fun h => absurd h (by decide))) <| ?_
      replace h := bd h
      obtain ⟨⟨r8760, r8761⟩, hA8762, h⟩ := h
      dsimp only at h
      refine sC (o_call0 FO39 (journal_plan_second.ok k t8718 t8719 t8720 l0_0 l0_1 a0_2 a0_3 a0_4 l0_5 l0_6 v0_0 v0_1 v0_5 v0_6 r8760 r8761 hA8762) rfl rfl (ltn rfl) (All_of (.cons (mG 2 rfl) (.cons (mG 3 rfl) (.cons (mG 4 rfl) (.cons (mG 5 rfl) .nil)))))) <| ?_
      rintro _ _ _ ⟨v8764, v8766, rfl, rfl, rfl⟩
      refine s1 (o_store 0 2 rfl rfl rfl TI25 (.agg (.f 0 rfl (.f 1 rfl .nil))) rfl (len rfl)) <| nx <| va (op_load 0 2 rfl rfl TI25 rfl (fun h => absurd h (by decide))) <| vm rfl <| vm rfl <| ?_
      replace h := bd h
      obtain ⟨⟨r8767, r8768, t8769⟩, hA8770, h⟩ := h
      dsimp only at h
      refine sC (o_call0 FO40 (disk_Crash.ok k r8760 r8761 a3 a4 v8764 v8766 r8767 r8768 t8769 hA8770) rfl rfl (ltn rfl) (All_of (.cons (mG 0 rfl) (.cons (mG 1 rfl) .nil)))) <| ?_
      rintro _ _ _ ⟨v8772, v8774, rfl, rfl, rfl⟩
      refine va (op_extract rfl rfl) <| va (op_extract rfl rfl) <| s1 (o_store 2 2 rfl rfl rfl TI25 (.agg (.r 0 rfl (.r 1 rfl .nil))) rfl (len rfl)) <| vs rfl <| dt <| VC.ret <| ?_
      simp only [Option.some.injEq, Prod.mk.injEq] at h
      obtain ⟨rfl, rfl, rfl⟩ := h
      exact rf [.cell 10 25, .tmp 11] [0, 1] (.cell 2 rfl rfl TI25 (fun h => absurd h (by decide)) (.tmp rfl .nil)) ⟨v8772, v8774, rfl, rfl, rfl⟩
    obtain rfl := Bool.eq_false_iff.2 c8759
    refine cf <| sk <| sr <| va (op_load 0 2 rfl rfl TI25 rfl (fun h => absurd h (by decide))) <| vm rfl <| vm rfl <| ?_
    replace h := bd h
    obtain ⟨⟨r8775, r8776, t8777⟩, hA8778, h⟩ := h
    dsimp only at h
    refine sC (o_call0 FO40 (disk_Crash.ok k r8743 r8744 a3 a4 v8747 v8749 r8775 r8776 t8777 hA8778) rfl rfl (ltn rfl) (All_of (.cons (mG 0 rfl) (.cons (mG 1 rfl) .nil)))) <| ?_
    rintro _ _ _ ⟨v8780, v8782, rfl, rfl, rfl⟩
    refine va (op_extract rfl rfl) <| va (op_extract rfl rfl) <| s1 (o_store 2 2 rfl rfl rfl TI25 (.agg (.r 0 rfl (.r 1 rfl .nil))) rfl (len rfl)) <| vs rfl <| dt <| VC.ret <| ?_
    simp only [Option.some.injEq, Prod.mk.injEq] at h
    obtain ⟨rfl, rfl, rfl⟩ := h
    exact rf [.cell 10 25, .tmp 11] [0, 1] (.cell 2 rfl rfl TI25 (fun h => absurd h (by decide)) (.tmp rfl .nil)) ⟨v8780, v8782, rfl, rfl, rfl⟩
  obtain rfl : b8741 = true := hb8741.symm.trans (bne_of_f c8742)
  refine ct <| sq <| sr <| va (op_load 2 7 rfl rfl TI27 rfl (fun h => absurd h (by decide))) <| vm rfl <| ?_
  replace h := bd h
  obtain ⟨t8789, hA8790, h⟩ := h
  refine sC (o_call0 FO29 (journal_compacts.ok k l0_0 l0_1 a0_2 a0_3 a0_4 l0_5 l0_6 a1 v0_0 v0_1 v0_5 v0_6 t8789 hA8790) rfl rfl (ltn rfl) (All_of (.cons (mG 0 rfl) (.cons (mG 1 rfl) (.cons (mG 2 rfl) (.cons (mG 3 rfl) .nil)))))) <| ?_
  rintro _ _ _ ⟨rfl, rfl, rfl⟩
  refine vs rfl <| nx <| vm rfl <| VL.letter ((t8789 != 0)) fun b8791 hb8791 => va (op_cmp rfl rfl (congrArg some hb8791)) <| dt <| ?_
  replace h := iC h
  rcases h with ⟨c8792, h⟩ | ⟨c8792, h⟩
  · obtain rfl : b8791 = false := hb8791.symm.trans (bne_eq_false_iff_eq.2 c8792)
    refine cf <| sk <| rg <| va (op_load 2 7 rfl rfl TI27 rfl (fun h => absurd h (by decide))) <| vm rfl <| ?_
    replace h := bd h
    obtain ⟨⟨t8793, t8794, t8795⟩, hA8796, h⟩ := h
    dsimp only at h
    refine sC (o_call0 FO30 (journal_other.ok k l0_0 l0_1 a0_2 a0_3 a0_4 l0_5 l0_6 a1 v0_0 v0_1 v0_5 v0_6 t8793 t8794 t8795 hA8796) rfl rfl (ltn rfl) (All_of (.cons (mG 0 rfl) (.cons (mG 1 rfl) (.cons (mG 2 rfl) (.cons (mG 3 rfl) .nil)))))) <| ?_
    rintro _ _ _ ⟨rfl, rfl, rfl⟩
    refine s1 (o_store 0 3 rfl rfl rfl TI53 (.agg (.of rfl)) rfl (len rfl)) <| nx <| va (op_load 0 3 rfl rfl TI53 rfl (fun h => absurd h (by decide))) <| va (op_load 2 7 rfl rfl TI27 rfl (fun h => absurd h (by decide))) <| ?_
    replace h := bd h
    obtain ⟨⟨r8797, r8798⟩, hA8799, h⟩ := h
    dsimp only at h
    refine sC (o_call0 FO38 (journal_plan_first.ok k t8793 t8794 t8795 l0_0 l0_1 a0_2 a0_3 a0_4 l0_5 l0_6 v0_0 v0_1 v0_5 v0_6 r8797 r8798 hA8799) rfl rfl (ltn rfl) (All_of (.cons (mG 0 rfl) (.cons (mG 1 rfl) (.cons (mG 2 rfl) (.cons (mG 3 rfl) .nil)))))) <| ?_
    rintro _ _ _ ⟨v8801, v8803, rfl, rfl, rfl⟩
    refine sG (o_alloc Z25 ZL25) fun g8804 => s1 (o_store 0 2 rfl rfl rfl TI25 (.agg (.f 0 rfl (.f 1 rfl .nil))) rfl (len rfl)) <| ds <| sr <| vm rfl <| dt <| ?_
    replace h := iC h
    rcases h with ⟨c8813, h⟩ | ⟨c8813, h⟩
    · obtain rfl := c8813
      refine ct <| rg <| va (op_load 1 3 rfl rfl TI53 rfl (fun h => absurd h (by decide))) <| va (op_load 3 7 rfl rfl TI27 rfl (fun h => absurd h (by decide))) <| ?_
      replace h := bd h
      obtain ⟨⟨r8814, r8815⟩, hA8816, h⟩ := h
      dsimp only at h
      refine sC (o_call0 FO39 (journal_plan_second.ok k t8793 t8794 t8795 l0_0 l0_1 a0_2 a0_3 a0_4 l0_5 l0_6 v0_0 v0_1 v0_5 v0_6 r8814 r8815 hA8816) rfl rfl (ltn rfl) (All_of (.cons (mG 2 rfl) (.cons (mG 3 rfl) (.cons (mG 4 rfl) (.cons (mG 5 rfl) .nil)))))) <| ?_
      rintro _ _ _ ⟨v8818, v8820, rfl, rfl, rfl⟩
      refine s1 (o_store 0 2 rfl rfl rfl TI25 (.agg (.f 0 rfl (.f 1 rfl .nil))) rfl (len rfl)) <| nx <| va (op_load 0 2 rfl rfl TI25 rfl (fun h => absurd h (by decide))) <| vm rfl <| vm rfl <| ?_
      replace h := bd h
      obtain ⟨⟨r8821, r8822, t8823⟩, hA8824, h⟩ := h
      dsimp only at h
      refine sC (o_call0 FO40 (disk_Crash.ok k r8814 r8815 a3 a4 v8818 v8820 r8821 r8822 t8823 hA8824) rfl rfl (ltn rfl) (All_of (.cons (mG 0 rfl) (.cons (mG 1 rfl) .nil)))) <| ?_
      rintro _ _ _ ⟨v8826, v8828, rfl, rfl, rfl⟩
      refine va (op_extract rfl rfl) <| va (op_extract rfl rfl) <| s1 (o_store 2 2 rfl rfl rfl TI25 (.agg (.r 0 rfl (.r 1 rfl .nil))) rfl (len rfl)) <| vs rfl <| dt <| VC.ret <| ?_
      simp only [Option.some.injEq, Prod.mk.injEq] at h
      obtain ⟨rfl, rfl, rfl⟩ := h
      exact rf [.cell 10 25, .tmp 11] [0, 1] (.cell 2 rfl rfl TI25 (fun h => absurd h (by decide)) (.tmp rfl .nil)) ⟨v8826, v8828, rfl, rfl, rfl⟩
    obtain rfl := Bool.eq_false_iff.2 c8813
    refine cf <| sk <| sr <| va (op_load 0 2 rfl rfl TI25 rfl (fun h => absurd h (by decide))) <| vm rfl <| vm rfl <| ?_
    replace h := bd h
    obtain ⟨⟨r8829, r8830, t8831⟩, hA8832, h⟩ := h
    dsimp only at h
    refine sC (o_call0 FO40 (disk_Crash.ok k r8797 r8798 a3 a4 v8801 v8803 r8829 r8830 t8831 hA8832) rfl rfl (ltn rfl) (All_of (.cons (mG 0 rfl) (.cons (mG 1 rfl) .nil)))) <| ?_
    rintro _ _ _ ⟨v8834, v8836, rfl, rfl, rfl⟩
    refine va (op_extract rfl rfl) <| va (op_extract rfl rfl) <| s1 (o_store 2 2 rfl rfl rfl TI25 (.agg (.r 0 rfl (.r 1 rfl .nil))) rfl (len rfl)) <| vs rfl <| dt <| VC.ret <| ?_
    simp only [Option.some.injEq, Prod.mk.injEq] at h
    obtain ⟨rfl, rfl, rfl⟩ := h
    exact rf [.cell 10 25, .tmp 11] [0, 1] (.cell 2 rfl rfl TI25 (fun h => absurd h (by decide)) (.tmp rfl .nil)) ⟨v8834, v8836, rfl, rfl, rfl⟩
  obtain rfl : b8791 = true := hb8791.symm.trans (bne_iff_ne.2 c8792)
  refine ct <| sr <| va (op_build (vals := []) (vcs := []) (cells := [sn, sn]) SI25 rfl .nil (by kernel_rfl)) <| vm rfl <| s1 (o_store 1 2 rfl rfl rfl TI25 (.agg (.of rfl)) rfl (len rfl)) <| vs rfl <| dt <| VC.ret <| VR.then <| VR.then <| ?_
  simp only [Option.some.injEq, Prod.mk.injEq] at h
  obtain ⟨rfl, rfl, rfl⟩ := h
  exact VR.nilRow' 9 1 <| VR.nilRow' 72 2 <| rf [.cell 10 25, .tmp 11] [1, 0] (.cell 1 rfl rfl TI25 (fun h => absurd h (by decide)) (.tmp rfl .nil)) ⟨sn, sn, rfl, rfl, rfl⟩

theorem tarryref03_Right.ok (k : Nat) (l0_0 : List ByteArray) (l0_1 : List S71) (v0_0 : Value) (v0_1 : Value) (r1 : Bool) (h : tarryref03_Right.f k l0_0 l0_1 = some r1) :
    VCalls Tryz.prog 57 [.agg #[v0_0, v0_1]] [.row v0_0 1 (l0_0.map enc_str), .row v0_1 2 (l0_1.map enc71)] (fun v G own => v = .bool r1 ∧ G = [] ∧ own = []) := by
  refine VCalls.intro Tryz.func57 rfl (len rfl) fun E hC hW hD hU => ?_
  unfold tarryref03_Right.f at h
  refine sr <| sG (o_box rfl (.agg (.f 0 rfl (.f 1 rfl .nil)))) fun g8859 => vs rfl <| ds <| sr <| va (op_fieldAddr FI25_0 rfl (add_at _ _ _)) <| va (op_load 0 1 rfl rfl TI22 rfl (by decide)) <| va (op_len (m := l0_0.length) 0 lenm Tryz.underlying22 rfl rfl) <| vm rfl <| dt <| VC.block <|
   VC.loop1 (fun (i8917 : Int) => ⟨59, [(1, pt g8859 0), (2, .bool false), (8, v0_0), (9, iv (l0_0.length : Int)), (10, iv i8917)], [.row v0_0 1 (l0_0.map enc_str), .row v0_1 2 (l0_1.map enc71)], [(g8859, 25, [v0_0, v0_1])], []⟩) (fun (ml1 : Nat) (i8917 : Int) => tarryref03_Right.l1 k l0_0 l0_1 ml1 i8917 = some r1) k 0 [0] [] h ⟨rfl, ⟨rfl, rfl, rfl, rfl, rfl, trivial⟩, ⟨⟨0, rfl⟩, ⟨1, rfl⟩, trivial⟩, rfl, by decide, rfl, by decide⟩ (by intros; simp [tarryref03_Right.l1]) <|
   ?_
  clear h
  intro ml1 ihl1 i8917 h
  simp only [tarryref03_Right.l1] at h
  refine sr <| VL.letter (decide (i8917 < (l0_0.length : Int))) fun b8933 hb8933 => va (op_cmp rfl rfl (congrArg some hb8933)) <| ds <| ?_
  replace h := iC h
  rcases h with ⟨c9163, h⟩ | ⟨c9163, h⟩
  · cases lT c9163 hb8933
    refine ct <| sk <| sq <| VC.block <| sr <| ?_
    replace h := iN h
    obtain ⟨c9170, h⟩ := h
    replace h := bd h
    obtain ⟨x9171, hx9171, h⟩ := h
    refine VL.open (m := l0_0.length) 0 lenm rfl (pos_get hx9171) <| ?_
    rintro ad9172 n9173 rfl
    refine va (op_indexAddr Tryz.underlying22 TI9 rfl rfl c9170 (lt_get c9170 hx9171) rfl) <| va (op_load_row (sz := 1) (o := 0) 0 i8917.toNat 1 rfl rfl (get_map hx9171) TI9 rfl (by decide)) <| vs rfl <| nx <| vm rfl <| va (op_lens Tryz.underlying9 rfl) <|
     VL.letter (((x9171.size : Int) != 64)) fun b9174 hb9174 => va (op_cmp rfl rfl (congrArg some hb9174)) <| dt <| ?_
    replace h := iC h
    rcases h with ⟨c9175, h⟩ | ⟨c9175, h⟩
    · obtain rfl : b9174 = false := hb9174.symm.trans (bne_eq_false_iff_eq.2 c9175)
      refine cf <| VC.skip <| VN.block <| tr <| va (op_ari64 rfl rfl rfl) <| vm rfl <| dn <| VN.again [0] [] (ihl1 (wrap64 (i8917 + 1)) h)
    obtain rfl : b9174 = true := hb9174.symm.trans (bne_iff_ne.2 c9175)
    refine ct <| sr <| vs rfl <| dt <| VC.ret <| VR.block <| VR.then <| VR.then <| VR.block <| VR.then <| ?_
    obtain rfl := Option.some.inj h
    exact rq 2 rfl ⟨rfl, rfl, rfl⟩
  cases lF c9163 hb8933
  refine cf <| VC.exit <| VX.then <| VX.then <| VX.hit <| ts <| sr <| va (op_fieldAddr FI25_1 rfl (add_at _ _ _)) <| va (op_load 0 1 rfl rfl TI23 rfl (by decide)) <| va (op_len (m := l0_1.length) 1 lenm Tryz.underlying23 rfl rfl) <| vm rfl <| dt <| VC.block <|
   VC.loop1 (fun (i9313 : Int) => ⟨59, [(1, pt g8859 0), (2, .bool false), (19, v0_1), (20, iv (l0_1.length : Int)), (21, iv i9313)], [.row v0_1 2 (l0_1.map enc71), .row v0_0 1 (l0_0.map enc_str)], [(g8859, 25, [v0_0, v0_1])], []⟩) (fun (ml5 : Nat) (i9313 : Int) => tarryref03_Right.l5 k l0_0 l0_1 ml5 i9313 = some r1) k 0 [0] [] h ⟨rfl, ⟨rfl, rfl, rfl, rfl, rfl, trivial⟩, ⟨⟨1, rfl⟩, ⟨0, rfl⟩, trivial⟩, rfl, by decide, rfl, by decide⟩ (by intros; simp [tarryref03_Right.l5]) <|
   ?_
  clear h
  intro ml5 ihl5 i9313 h
  simp only [tarryref03_Right.l5] at h
  refine sr <| VL.letter (decide (i9313 < (l0_1.length : Int))) fun b9349 hb9349 => va (op_cmp rfl rfl (congrArg some hb9349)) <| ds <| ?_
  replace h := iC h
  rcases h with ⟨c9361, h⟩ | ⟨c9361, h⟩
  · cases lT c9361 hb9349
    refine ct <| sk <| sq <| VC.block <| sr <| ?_
    replace h := iN h
    obtain ⟨c9378, h⟩ := h
    replace h := bd h
    obtain ⟨x9379, hx9379, h⟩ := h
    refine VL.open (m := l0_1.length) 0 lenm rfl (pos_get hx9379) <| ?_
    rintro ad9380 n9381 rfl
    refine va (op_indexAddr Tryz.underlying23 TI72 rfl rfl c9378 (lt_get c9378 hx9379) rfl) <| va (op_load_row (sz := 2) (o := 0) 0 i9313.toNat 2 rfl rfl (get_map hx9379) TI72 rfl (fun h => absurd h (by decide))) <|
     sG (o_alloc Z72 ZL72) fun g9382 => s1 (o_store 0 2 rfl rfl rfl TI72 (.agg (.of rfl)) rfl (len rfl)) <| nx <| va (op_fieldAddr FI72_0 rfl (add_at _ _ _)) <| va (op_load 0 1 rfl rfl TI3 rfl (by decide)) <|
     VL.letter (decide (x9379.f0 < 0)) fun b9388 hb9388 => va (op_cmp rfl rfl (congrArg some hb9388)) <| vm rfl <| ?_
    replace h := iC h
    rcases h with ⟨c9389, h⟩ | ⟨c9389, h⟩
    · cases lT c9389 hb9388
      refine un rfl <| un rfl <| un rfl <| un rfl <| un rfl <| un rfl <| va (op_pick rfl rfl) <| vm rfl <| un rfl <| un rfl <| un rfl <| un rfl <| va (op_pick rfl rfl) <| dt <| ct <| sr <| vs rfl <| dt <| VC.ret <| VR.block <| VR.then <| VR.then <| VR.block <| VR.then <| ?_
      obtain rfl := Option.some.inj h
      exact rq 2 rfl ⟨rfl, rfl, rfl⟩
    cases lF c9389 hb9388
    refine va (op_fieldAddr FI72_0 rfl (add_at _ _ _)) <| va (op_load 0 1 rfl rfl TI3 rfl (by decide)) <| va (op_fieldAddr FI25_0 rfl (add_at _ _ _)) <| va (op_load 1 1 rfl rfl TI22 rfl (by decide)) <| va (op_len (m := l0_0.length) 1 lenm Tryz.underlying22 rfl rfl) <|
     VL.letter (decide (x9379.f0 ≥ (l0_0.length : Int))) fun b9390 hb9390 => va (op_cmp rfl rfl (congrArg some hb9390)) <| va (op_pick rfl rfl) <| vm rfl <| ?_
    replace h := iC h
    rcases h with ⟨c9391, h⟩ | ⟨c9391, h⟩
    · cases lT c9391 hb9390
      refine un rfl <| un rfl <| un rfl <| un rfl <| va (op_pick rfl rfl) <| dt <| ct <| sr <| vs rfl <| dt <| VC.ret <| VR.block <| VR.then <| VR.then <| VR.block <| VR.then <| ?_
      obtain rfl := Option.some.inj h
      exact rq 2 rfl ⟨rfl, rfl, rfl⟩
    cases lF c9391 hb9390
    refine va (op_fieldAddr FI72_1 rfl (add_at _ _ _)) <| va (op_load 0 1 rfl rfl TI9 rfl (by decide)) <| va (op_lens Tryz.underlying9 rfl) <| VL.letter (((x9379.f1.size : Int) != 64)) fun b9392 hb9392 => va (op_cmp rfl rfl (congrArg some hb9392)) <| va (op_pick rfl rfl) <| dt <| ?_
    replace h := iC h
    rcases h with ⟨c9393, h⟩ | ⟨c9393, h⟩
    · obtain rfl : b9392 = false := hb9392.symm.trans (bne_eq_false_iff_eq.2 c9393)
      refine cf <| VC.skip <| VN.block <| tr <| va (op_ari64 rfl rfl rfl) <| vm rfl <| dn <| VN.again [1] [] (ihl5 (wrap64 (i9313 + 1)) h)
    obtain rfl : b9392 = true := hb9392.symm.trans (bne_iff_ne.2 c9393)
    refine ct <| sr <| vs rfl <| dt <| VC.ret <| VR.block <| VR.then <| VR.then <| VR.block <| VR.then <| ?_
    obtain rfl := Option.some.inj h
    exact rq 2 rfl ⟨rfl, rfl, rfl⟩
  cases lF c9361 hb9349
  refine cf <| VC.exit <| VX.then <| VX.then <| VX.hit <| tx <| va (op_fieldAddr FI25_0 rfl (add_at _ _ _)) <| va (op_load 0 1 rfl rfl TI22 rfl (by decide)) <| va (op_len (m := l0_0.length) 1 lenm Tryz.underlying22 rfl rfl) <|
   VL.letter (decide ((l0_0.length : Int) > 0)) fun b9399 hb9399 => va (op_cmp rfl rfl (congrArg some hb9399)) <| vm rfl <| ?_
  replace h := iC h
  rcases h with ⟨c9400, h⟩ | ⟨c9400, h⟩
  · cases lT c9400 hb9399
    refine va (op_fieldAddr FI25_0 rfl (add_at _ _ _)) <| va (op_load 0 1 rfl rfl TI22 rfl (by decide)) <| va (op_len (m := l0_0.length) 1 lenm Tryz.underlying22 rfl rfl) <| VL.letter (decide ((l0_0.length : Int) ≤ 512)) fun b9401 hb9401 => va (op_cmp rfl rfl (congrArg some hb9401)) <|
     va (op_pick rfl rfl) <| vm rfl <| ?_
    replace h := iC h
    rcases h with ⟨c9402, h⟩ | ⟨c9402, h⟩
    · cases lT c9402 hb9401
      refine va (op_fieldAddr FI25_1 rfl (add_at _ _ _)) <| va (op_load 0 1 rfl rfl TI23 rfl (by decide)) <| va (op_len (m := l0_1.length) 0 lenm Tryz.underlying23 rfl rfl) <| VL.letter (decide ((l0_1.length : Int) ≤ 64)) fun b9403 hb9403 => va (op_cmp rfl rfl (congrArg some hb9403)) <|
       va (op_pick rfl rfl) <| vs rfl <| dt <| VC.ret <| ?_
      obtain rfl := Option.some.inj h
      subst hb9403
      exact rq 2 rfl ⟨rfl, rfl, rfl⟩
    cases lF c9402 hb9401
    refine un rfl <| un rfl <| un rfl <| un rfl <| va (op_pick rfl rfl) <| vs rfl <| dt <| VC.ret <| ?_
    obtain rfl := Option.some.inj h
    exact rq 2 rfl ⟨rfl, rfl, rfl⟩
  cases lF c9400 hb9399
  refine un rfl <| un rfl <| un rfl <| un rfl <| va (op_pick rfl rfl) <| vm rfl <| un rfl <| un rfl <| un rfl <| un rfl <| va (op_pick rfl rfl) <| vs rfl <| dt <| VC.ret <| ?_
  obtain rfl := Option.some.inj h
  exact rq 2 rfl ⟨rfl, rfl, rfl⟩

theorem tarryref05_number.ok (k : Nat) (a0 : ByteArray)  (r1 : Int) (h : tarryref05_number.f k a0 = some r1) :
    VCalls Tryz.prog 77 [.string a0] [] (fun v G own => v = iv r1 ∧ G = [] ∧ own = []) := by
  refine VCalls.intro Tryz.func77 rfl (len rfl) fun E hC hW hD hU => ?_
  unfold tarryref05_number.f at h
  refine sr <| vs rfl <| nx <| vs rfl <| ds <| sr <| vm rfl <| va (op_lens Tryz.underlying9 rfl) <| va (op_ari64 rfl rfl rfl) <| vs rfl <| dt <| VC.block <|
   VC.loop2 (fun (i9510 : Int) (i9511 : Int) => ⟨22, [(0, .string a0), (2, iv 0), (3, iv i9510), (4, iv i9511)], [], [], []⟩) (fun (ml1 : Nat) (i9510 : Int) (i9511 : Int) => tarryref05_number.l1 k a0 ml1 i9510 i9511 = some r1) k 0 (wrap64 ((a0.size : Int) - 1)) [] [] h ⟨rfl, ⟨rfl, rfl, rfl, rfl, trivial⟩, trivial, rfl, by decide, rfl, by decide⟩ (by intros; simp [tarryref05_number.l1]) <|
   ?_
  clear h
  intro ml1 ihl1 i9510 i9511 h
  simp only [tarryref05_number.l1] at h
  refine sq <| sr <| vm rfl <| VL.letter (decide (i9511 ≥ 0)) fun b9526 hb9526 => va (op_cmp rfl rfl (congrArg some hb9526)) <| dt <| ?_
  replace h := iC h
  rcases h with ⟨c9527, h⟩ | ⟨c9527, h⟩
  · cases lT c9527 hb9526
    refine ct <| sk <| sq <| VC.block <| sr <| vm rfl <| va (op_ari64 rfl rfl rfl) <| vm rfl <| vm rfl <| ?_
    replace h := iN h
    obtain ⟨c9532, h⟩ := h
    replace h := iN h
    obtain ⟨c9533, h⟩ := h
    refine va (op_indexS Tryz.underlying9 rfl rfl c9532 c9533 rfl) <| va (op_conv Tryz.underlying5 Tryz.underlying3 rfl (i64w _)) <| va (op_ari64 rfl rfl rfl) <| vs rfl <| nx <| vm rfl <|
     VL.letter (decide ((wrap64 ((wrap64 (256 * i9510)) + (wrap64 (bt a0 i9511)))) > 2199023255552)) fun b9534 hb9534 => va (op_cmp rfl rfl (congrArg some hb9534)) <| dt <| ?_
    replace h := iC h
    rcases h with ⟨c9535, h⟩ | ⟨c9535, h⟩
    · cases lT c9535 hb9534
      refine ct <| sr <| vs rfl <| dt <| VC.ret <| VR.block <| VR.then <| VR.then <| VR.block <| VR.then <| ?_
      obtain rfl := Option.some.inj h
      exact rq 2 rfl ⟨rfl, rfl, rfl⟩
    cases lF c9535 hb9534
    refine cf <| VC.skip <| VN.block <| tr <| vm rfl <| va (op_ari64 rfl rfl rfl) <| vs rfl <| dn <| VN.again [] [] (ihl1 (wrap64 ((wrap64 (256 * i9510)) + (wrap64 (bt a0 i9511)))) (wrap64 (i9511 - 1)) h)
  cases lF c9527 hb9526
  refine cf <| VC.exit <| VX.then <| VX.then <| VX.hit <| tx <| vm rfl <| vs rfl <| dt <| VC.ret <| ?_
  obtain rfl := Option.some.inj h
  exact rq 2 rfl ⟨rfl, rfl, rfl⟩

theorem tarryref05_Room.ok (a0 : Int)  (r1 : Int) (h : tarryref05_Room.f a0 = some r1) :
    VCalls Tryz.prog 16 [iv a0] [] (fun v G own => v = iv r1 ∧ G = [] ∧ own = []) := by
  refine VCalls.intro Tryz.func16 rfl (len rfl) fun E hC hW hD hU => ?_
  unfold tarryref05_Room.f at h
  refine sr <| vs rfl <| nx <| vm rfl <| va (op_ari64 rfl rfl rfl) <| va (op_quo rfl rfl (by decide) rfl) <| va (op_ari64 rfl rfl rfl) <| vs rfl <| dt <| VC.ret <| ?_
  obtain rfl := Option.some.inj h
  exact rq 2 rfl ⟨rfl, rfl, rfl⟩

theorem tarryref05_low.ok (k : Nat) (a0 : Int) (a1 : Int)  (r1 : ByteArray) (h : tarryref05_low.f k a0 a1 = some r1) :
    VCalls Tryz.prog 66 [iv a0, iv a1] [] (fun v G own => v = .string r1 ∧ G = [] ∧ own = []) := by
  refine VCalls.intro Tryz.func66 rfl (len rfl) fun E hC hW hD hU => ?_
  unfold tarryref05_low.f at h
  refine sr <| vs rfl <| nx <| sG (o_buildSlice (vals := []) (cells := #[]) (es := List.map enc_intu8 ([] : List Int)) Tryz.underlying68 TI5 Z5 rfl (by decide) (by decide) (by kernel_rfl) (by kernel_rfl) rfl (flat_map enc_intu8_ok _)) fun v9579 => vs rfl <| ds <| sr <| vs rfl <| dt <| VC.block <|
   VC.loop4 (fun (i9621 : Int) (v9623 : Value) (l9624 : List Int) (i9625 : Int) => ⟨23, [(0, iv i9621), (1, iv a1), (4, .string (⟨#[]⟩ : ByteArray)), (5, v9623), (6, iv i9625)], [], [], [(v9623, 5, 1, l9624.map enc_intu8)]⟩) (fun (ml1 : Nat) (i9621 : Int) (v9623 : Value) (l9624 : List Int) (i9625 : Int) => tarryref05_low.l1 k a1 ml1 i9621 l9624 i9625 = some r1) k a0 v9579 ([] : List Int) 0 [] [0] h ⟨rfl, ⟨rfl, rfl, rfl, rfl, rfl, trivial⟩, trivial, rfl, by decide, rfl, by decide⟩ (by intros; simp [tarryref05_low.l1]) <|
   ?_
  clear h
  intro ml1 ihl1 i9621 v9623 l9624 i9625 h
  simp only [tarryref05_low.l1] at h
  refine sq <| sr <| vm rfl <| vm rfl <| VL.letter (decide (i9625 < a1)) fun b9637 hb9637 => va (op_cmp rfl rfl (congrArg some hb9637)) <| dt <| ?_
  replace h := iC h
  rcases h with ⟨c9638, h⟩ | ⟨c9638, h⟩
  · cases lT c9638 hb9637
    refine ct <| sk <| sq <| VC.block <| sr <| vm rfl <| vm rfl <| va (op_rem rfl rfl (by decide) rfl) <| va (op_conv Tryz.underlying3 Tryz.underlying5 rfl rfl) <|
     sG (o_buildSlice (vals := [(0, .int .u8 (IntKind.u8.wrap (i9621.tmod 256)))]) (cells := #[.int .u8 (IntKind.u8.wrap (i9621.tmod 256))]) (es := List.map enc_intu8 ([IntKind.u8.wrap (i9621.tmod 256)] : List Int)) Tryz.underlying68 TI5 Z5 rfl (by decide) (by decide) (by kernel_rfl) (by kernel_rfl) rfl (flat_map enc_intu8_ok _)) fun v9640 => ?_
    replace h := iN h
    obtain ⟨c9641, h⟩ := h
    refine sG (o_append 1 appm Tryz.underlying68 EI5 rfl rfl rfl (.inr ⟨0, _, rfl⟩) (bndm c9641)) fun v9642 => vs rfl <| dr <| vm rfl <| va (op_quo rfl rfl (by decide) rfl) <| vs rfl <| dn <| VN.block <| tr <| vm rfl <| va (op_ari64 rfl rfl rfl) <| vs rfl <| dn <|
     VN.again [] [1] (ihl1 (IntKind.i64.wrap (i9621.tdiv 256)) v9642 (l9624 ++ ([IntKind.u8.wrap (i9621.tmod 256)] : List Int)) (wrap64 (i9625 + 1)) h)
  cases lF c9638 hb9637
  refine cf <| VC.exit <| VX.then <| VX.then <| VX.hit <| tx <| vm rfl <| va (op_bytesStr_own (xs := l9624) 0 rfl rfl Tryz.underlying68 Tryz.underlying9 Tryz.underlying5 rfl rfl) <| vs rfl <| dt <| VC.ret <| ?_
  obtain rfl := Option.some.inj h
  exact rq 4 rfl ⟨rfl, rfl, rfl⟩

theorem tarryref05_Head.ok (k : Nat) (a0 : Int) (a1 : Int) (a2 : Int)  (r1 : ByteArray) (h : tarryref05_Head.f k a0 a1 a2 = some r1) :
    VCalls Tryz.prog 43 [iv a0, iv a1, iv a2] [] (fun v G own => v = .string r1 ∧ G = [] ∧ own = []) := by
  refine VCalls.intro Tryz.func43 rfl (len rfl) fun E hC hW hD hU => ?_
  unfold tarryref05_Head.f at h
  refine sr <| vs rfl <| nx <| vm rfl <| ?_
  replace h := bd h
  obtain ⟨t9644, hA9645, h⟩ := h
  refine sC (o_call0 FO66 (tarryref05_low.ok k a1 1 t9644 hA9645) rfl rfl (ltn rfl) (All_of .nil)) <| ?_
  rintro _ _ _ ⟨rfl, rfl, rfl⟩
  replace h := iN h
  obtain ⟨c9646, h⟩ := h
  refine va (op_adds rfl rfl rfl c9646) <| vm rfl <| ?_
  replace h := bd h
  obtain ⟨t9647, hA9648, h⟩ := h
  refine sC (o_call0 FO66 (tarryref05_low.ok k a0 8 t9647 hA9648) rfl rfl (ltn rfl) (All_of .nil)) <| ?_
  rintro _ _ _ ⟨rfl, rfl, rfl⟩
  replace h := iN h
  obtain ⟨c9649, h⟩ := h
  refine va (op_adds rfl rfl rfl c9649) <| vm rfl <| ?_
  replace h := bd h
  obtain ⟨t9650, hA9651, h⟩ := h
  refine sC (o_call0 FO66 (tarryref05_low.ok k a2 4 t9650 hA9651) rfl rfl (ltn rfl) (All_of .nil)) <| ?_
  rintro _ _ _ ⟨rfl, rfl, rfl⟩
  replace h := iN h
  obtain ⟨c9652, h⟩ := h
  refine va (op_adds rfl rfl rfl c9652) <| vs rfl <| ds <| VC.block <|
   VC.loop1 (fun (s9674 : ByteArray) => ⟨25, [(6, .string (⟨#[]⟩ : ByteArray)), (7, .string s9674)], [], [], []⟩) (fun (ml1 : Nat) (s9674 : ByteArray) => tarryref05_Head.l1 k ml1 s9674 = some r1) k ((((⟨#[116, 97, 114, 114, 121]⟩ : ByteArray) ++ t9644) ++ t9647) ++ t9650) [] [] h ⟨rfl, ⟨rfl, rfl, trivial⟩, trivial, rfl, by decide, rfl, by decide⟩ (by intros; simp [tarryref05_Head.l1]) <|
   ?_
  clear h
  intro ml1 ihl1 s9674 h
  simp only [tarryref05_Head.l1] at h
  refine sq <| sr <| vm rfl <| va (op_lens Tryz.underlying9 rfl) <| VL.letter (decide ((s9674.size : Int) < 32)) fun b9683 hb9683 => va (op_cmp rfl rfl (congrArg some hb9683)) <| dt <| ?_
  replace h := iC h
  rcases h with ⟨c9684, h⟩ | ⟨c9684, h⟩
  · cases lT c9684 hb9683
    refine ct <| sk <| VC.block <| rg <| vm rfl <| ?_
    replace h := iN h
    obtain ⟨c9685, h⟩ := h
    refine va (op_adds rfl rfl rfl c9685) <| vs rfl <| dn <| VN.block <| VN.again [] [] (ihl1 (s9674 ++ (⟨#[0]⟩ : ByteArray)) h)
  cases lF c9684 hb9683
  refine cf <| VC.exit <| VX.then <| VX.then <| VX.hit <| tx <| vm rfl <| vm rfl <| ?_
  replace h := iN h
  obtain ⟨c9686, h⟩ := h
  refine va (op_adds rfl rfl rfl c9686) <| vs rfl <| dt <| VC.ret <| ?_
  obtain rfl := Option.some.inj h
  exact rq 6 rfl ⟨rfl, rfl, rfl⟩

end Go.Proofs.YtipeglbeongfmaaGreat.PJournalCrashes
