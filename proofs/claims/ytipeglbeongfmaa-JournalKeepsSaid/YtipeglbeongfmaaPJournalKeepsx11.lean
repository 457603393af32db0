/- Written by a program of this repo: what the program's functions do, each as a Lean function, shown of the loaded code; or a statement's row over that; no condition of its own. -/
import Derived.Test.YtipeglbeongfmaaPJournalKeepsx10
namespace Go.Proofs.Ytipeglbeongfmaa.PJournalKeeps
open Go Go.RowKit Go.Proofs.YtipeglbeongfmaaV
set_option linter.unusedVariables false
set_option linter.unusedSimpArgs false
set_option maxHeartbeats 4000000
set_option maxRecDepth 100000

theorem journal_Crash.ok (k : Nat) (l0_0 : List ByteArray) (l0_1 : List S55) (a0_2 : Int) (a0_3 : Int) (a0_4 : Int) (l0_5 : List ByteArray) (l0_6 : List ByteArray) (a1 : ByteArray) (a2 : Bool) (a3 : Int) (a4 : Int) (v0_0 : Value) (v0_1 : Value) (v0_5 : Value) (v0_6 : Value) (r1 : List ByteArray) (r2 : List S55) (r3 : Int) (h : journal_Crash.f k l0_0 l0_1 a0_2 a0_3 a0_4 l0_5 l0_6 a1 a2 a3 a4 = some (r1, r2, r3)) :
    VCalls Try.prog 20 [.agg #[v0_0, v0_1, .int .i64 a0_2, .int .i64 a0_3, .int .i64 a0_4, v0_5, v0_6], .string a1, .bool a2, .int .u64 a3, .int .i64 a4] [.row v0_0 1 (l0_0.map enc_str), .row v0_1 2 (l0_1.map enc55), .row v0_5 1 (l0_5.map enc_str), .row v0_6 1 (l0_6.map enc_str)] (fun v G own => ∃ w0 w1 : Value, v = .tuple #[.agg #[w0, w1], .int .i64 r3] ∧ G = [] ∧ own = [(w0, 9, 1, r1.map enc_str), (w1, 56, 2, r2.map enc55)]) := by
  refine VCalls.intro Try.func20 rfl (len rfl) fun E hC hW hD hU => ?_
  unfold journal_Crash.f at h
  refine sr <| sG (o_box rfl (.agg (.f 0 rfl (.f 1 rfl (.c rfl (.c rfl (.c rfl (.f 2 rfl (.f 3 rfl .nil))))))))) fun g477 => sG (o_alloc Z25 ZL25) fun g478 => vs rfl <| dt <|
   VC.join0 (⟨56, [(1, .string a1), (2, .bool a2), (3, .int .u64 a3), (4, .int .i64 a4), (5, .pointer (some ⟨g477, 0, none⟩)), (10, .pointer (some ⟨g478, 0, none⟩)), (11, .int .i64 0)], [.row v0_0 1 (l0_0.map enc_str), .row v0_1 2 (l0_1.map enc55), .row v0_5 1 (l0_5.map enc_str), .row v0_6 1 (l0_6.map enc_str)], [(g478, 25, [.slice none 0 0, .slice none 0 0]), (g477, 27, [v0_0, v0_1, .int .i64 a0_2, .int .i64 a0_3, .int .i64 a0_4, v0_5, v0_6])], []⟩) (journal_Crash.j1 k a0_2 a0_3 a0_4 a1 a2 a3 a4 l0_0 l0_1 l0_5 l0_6 = some (r1, r2, r3)) ?_ ?_
  · refine VC.block <| sr <| va (op_load 1 7 rfl rfl TI27 rfl (fun h => absurd h (by decide))) <| ?_
    replace h := bd h
    obtain ⟨t8706, hA8707, h⟩ := h
    refine sC (o_call0 FO12 (journal_Right.ok k l0_0 l0_1 a0_2 a0_3 a0_4 l0_5 l0_6 v0_0 v0_1 v0_5 v0_6 t8706 hA8707) rfl rfl (ltn rfl) (All_of (.cons (mG 0 rfl) (.cons (mG 1 rfl) (.cons (mG 2 rfl) (.cons (mG 3 rfl) .nil)))))) <| ?_
    rintro _ _ _ ⟨rfl, rfl, rfl⟩
    replace h := iC h
    rcases h with ⟨c8708, h⟩ | ⟨c8708, h⟩
    · obtain rfl := c8708
      refine va (op_not rfl rfl) <| vs rfl <| dt <| cf <| sr <| vm rfl <| VL.letter ((a1 == (⟨#[]⟩ : ByteArray))) fun b8712 hb8712 => va (op_cmps rfl rfl (congrArg some hb8712)) <| vm rfl <| ?_
      replace h := iC h
      rcases h with ⟨c8713, h⟩ | ⟨c8713, h⟩
      · obtain rfl : b8712 = true := hb8712.symm.trans (c8713)
        refine va (op_fieldAddr FI27_1 rfl (add_at _ _ _)) <| va (op_load 1 1 rfl rfl TI3 rfl (by decide)) <| VL.letter ((a0_2 == 1099511627776)) fun b8714 hb8714 => va (op_cmp rfl rfl (congrArg some hb8714)) <| va (op_pick rfl rfl) <| vs rfl <| dt <| ?_
        replace h := iC h
        rcases h with ⟨c8715, h⟩ | ⟨c8715, h⟩
        · obtain rfl : b8714 = true := hb8714.symm.trans (beq_iff_eq.2 c8715)
          refine ct <| sr <| va (op_build (vals := []) (vcs := []) (cells := [.slice none 0 0, .slice none 0 0]) SI25 rfl .nil (by kernel_rfl)) <| s1 (o_store 0 2 rfl rfl rfl TI25 (.agg (.of rfl)) rfl (len rfl)) <| vs rfl <| dt <| VC.ret <| VR.block <| VR.then <| ?_
          simp only [Option.some.injEq, Prod.mk.injEq] at h
          obtain ⟨rfl, rfl, rfl⟩ := h
          exact VR.nilRow' 9 1 <| VR.nilRow' 56 2 <| VR.fn (rs := [.cell 10 25, .tmp 11]) [] [((.slice none 0 0), 9, 1, ([] : List ByteArray).map enc_str), ((.slice none 0 0), 56, 2, ([] : List S55).map enc55)] [1, 0] rfl (.cell 0 rfl rfl TI25 (fun h => absurd h (by decide)) (.tmp rfl .nil)) ⟨(.slice none 0 0), (.slice none 0 0), rfl, rfl, rfl⟩ trivial rfl (by decide)
        obtain rfl : b8714 = false := hb8714.symm.trans (beq_eq_false_iff_ne.2 c8715)
        refine cf <| VC.skip <| VN.block <| VN.meet0  [0, 1] [] h ⟨rfl, ⟨rfl, rfl, rfl, rfl, rfl, rfl, rfl, trivial⟩, ⟨⟨0, rfl⟩, ⟨1, rfl⟩, ⟨2, rfl⟩, ⟨3, rfl⟩, trivial⟩, rfl, by decide, rfl, by decide⟩
      obtain rfl : b8712 = false := hb8712.symm.trans (Bool.eq_false_iff.2 c8713)
      refine un rfl <| un rfl <| un rfl <| va (op_pick rfl rfl) <| vs rfl <| dt <| cf <| VC.skip <| VN.block <| VN.meet0  [0, 1] [] h ⟨rfl, ⟨rfl, rfl, rfl, rfl, rfl, rfl, rfl, trivial⟩, ⟨⟨0, rfl⟩, ⟨1, rfl⟩, ⟨2, rfl⟩, ⟨3, rfl⟩, trivial⟩, rfl, by decide, rfl, by decide⟩
    obtain rfl := Bool.eq_false_iff.2 c8708
    refine va (op_not rfl rfl) <| vs rfl <| dt <| ct <| sr <| va (op_build (vals := []) (vcs := []) (cells := [.slice none 0 0, .slice none 0 0]) SI25 rfl .nil (by kernel_rfl)) <| s1 (o_store 0 2 rfl rfl rfl TI25 (.agg (.of rfl)) rfl (len rfl)) <| vs rfl <| dt <| VC.ret <| VR.block <| VR.then <| ?_
    simp only [Option.some.injEq, Prod.mk.injEq] at h
    obtain ⟨rfl, rfl, rfl⟩ := h
    exact VR.nilRow' 9 1 <| VR.nilRow' 56 2 <| VR.fn (rs := [.cell 10 25, .tmp 11]) [] [((.slice none 0 0), 9, 1, ([] : List ByteArray).map enc_str), ((.slice none 0 0), 56, 2, ([] : List S55).map enc55)] [1, 0] rfl (.cell 0 rfl rfl TI25 (fun h => absurd h (by decide)) (.tmp rfl .nil)) ⟨(.slice none 0 0), (.slice none 0 0), rfl, rfl, rfl⟩ trivial rfl (by decide)
  clear h
  intro  h
  unfold journal_Crash.j1 at h
  refine sr <| va (op_load 1 7 rfl rfl TI27 rfl (fun h => absurd h (by decide))) <| ?_
  replace h := bd h
  obtain ⟨⟨t8720, t8721, t8722⟩, hA8723, h⟩ := h
  dsimp only at h
  refine sC (o_call0 FO44 (journal_groups.ok k l0_0 l0_1 a0_2 a0_3 a0_4 l0_5 l0_6 v0_0 v0_1 v0_5 v0_6 t8720 t8721 t8722 hA8723) rfl rfl (ltn rfl) (All_of (.cons (mG 0 rfl) (.cons (mG 1 rfl) (.cons (mG 2 rfl) (.cons (mG 3 rfl) .nil)))))) <| ?_
  rintro _ _ _ ⟨rfl, rfl, rfl⟩
  refine sG (o_alloc Z81 ZL81) fun g8724 => s1 (o_store 0 3 rfl rfl rfl TI81 (.agg (.of rfl)) rfl (len rfl)) <| ds <| sr <| vm rfl <| VL.letter ((a1 != (⟨#[]⟩ : ByteArray))) fun b8743 hb8743 => va (op_cmps rfl rfl (congrArg some hb8743)) <| dt <| ?_
  replace h := iC h
  rcases h with ⟨c8744, h⟩ | ⟨c8744, h⟩
  · obtain rfl : b8743 = false := hb8743.symm.trans (bne_of_t c8744)
    refine cf <| sk <| sr <| va (op_load 0 3 rfl rfl TI81 rfl (fun h => absurd h (by decide))) <| va (op_load 2 7 rfl rfl TI27 rfl (fun h => absurd h (by decide))) <| ?_
    replace h := bd h
    obtain ⟨⟨r8745, r8746⟩, hA8747, h⟩ := h
    dsimp only at h
    refine sC (o_call0 FO48 (journal_plan_first.ok k t8720 t8721 t8722 l0_0 l0_1 a0_2 a0_3 a0_4 l0_5 l0_6 v0_0 v0_1 v0_5 v0_6 r8745 r8746 hA8747) rfl rfl (ltn rfl) (All_of (.cons (mG 0 rfl) (.cons (mG 1 rfl) (.cons (mG 2 rfl) (.cons (mG 3 rfl) .nil)))))) <| ?_
    rintro _ _ _ ⟨v8749, v8751, rfl, rfl, rfl⟩
    refine sG (o_alloc Z25 ZL25) fun g8752 => s1 (o_store 0 2 rfl rfl rfl TI25 (.agg (.f 0 rfl (.f 1 rfl .nil))) rfl (len rfl)) <| ds <| sr <| vm rfl <| dt <| ?_
    replace h := iC h
    rcases h with ⟨c8761, h⟩ | ⟨c8761, h⟩
    · obtain rfl := c8761
      refine ct <| rg <| va (op_load 1 3 rfl rfl TI81 rfl (fun h => absurd h (by decide))) <| va (op_load 3 7 rfl rfl TI27 rfl (fun h => absurd h (by decide))) <| ?_
      replace h := bd h
      obtain ⟨⟨r8762, r8763⟩, hA8764, h⟩ := h
      dsimp only at h
      refine sC (o_call0 FO49 (journal_plan_second.ok k t8720 t8721 t8722 l0_0 l0_1 a0_2 a0_3 a0_4 l0_5 l0_6 v0_0 v0_1 v0_5 v0_6 r8762 r8763 hA8764) rfl rfl (ltn rfl) (All_of (.cons (mG 2 rfl) (.cons (mG 3 rfl) (.cons (mG 4 rfl) (.cons (mG 5 rfl) .nil)))))) <| ?_
      rintro _ _ _ ⟨v8766, v8768, rfl, rfl, rfl⟩
      refine s1 (o_store 0 2 rfl rfl rfl TI25 (.agg (.f 0 rfl (.f 1 rfl .nil))) rfl (len rfl)) <| nx <| va (op_load 0 2 rfl rfl TI25 rfl (fun h => absurd h (by decide))) <| vm rfl <| vm rfl <| ?_
      replace h := bd h
      obtain ⟨⟨r8769, r8770, t8771⟩, hA8772, h⟩ := h
      dsimp only at h
      refine sC (o_call0 FO50 (disk_Crash.ok k r8762 r8763 a3 a4 v8766 v8768 r8769 r8770 t8771 hA8772) rfl rfl (ltn rfl) (All_of (.cons (mG 0 rfl) (.cons (mG 1 rfl) .nil)))) <| ?_
      rintro _ _ _ ⟨v8774, v8776, rfl, rfl, rfl⟩
      refine va (op_extract rfl rfl) <| va (op_extract rfl rfl) <| s1 (o_store 2 2 rfl rfl rfl TI25 (.agg (.r 0 rfl (.r 1 rfl .nil))) rfl (len rfl)) <| vs rfl <| dt <| VC.ret <| ?_
      simp only [Option.some.injEq, Prod.mk.injEq] at h
      obtain ⟨rfl, rfl, rfl⟩ := h
      exact VR.fn (rs := [.cell 10 25, .tmp 11]) [] [(v8774, 9, 1, r8769.map enc_str), (v8776, 56, 2, r8770.map enc55)] [0, 1] rfl (.cell 2 rfl rfl TI25 (fun h => absurd h (by decide)) (.tmp rfl .nil)) ⟨v8774, v8776, rfl, rfl, rfl⟩ trivial rfl (by decide)
    obtain rfl := Bool.eq_false_iff.2 c8761
    refine cf <| sk <| sr <| va (op_load 0 2 rfl rfl TI25 rfl (fun h => absurd h (by decide))) <| vm rfl <| vm rfl <| ?_
    replace h := bd h
    obtain ⟨⟨r8777, r8778, t8779⟩, hA8780, h⟩ := h
    dsimp only at h
    refine sC (o_call0 FO50 (disk_Crash.ok k r8745 r8746 a3 a4 v8749 v8751 r8777 r8778 t8779 hA8780) rfl rfl (ltn rfl) (All_of (.cons (mG 0 rfl) (.cons (mG 1 rfl) .nil)))) <| ?_
    rintro _ _ _ ⟨v8782, v8784, rfl, rfl, rfl⟩
    refine va (op_extract rfl rfl) <| va (op_extract rfl rfl) <| s1 (o_store 2 2 rfl rfl rfl TI25 (.agg (.r 0 rfl (.r 1 rfl .nil))) rfl (len rfl)) <| vs rfl <| dt <| VC.ret <| ?_
    simp only [Option.some.injEq, Prod.mk.injEq] at h
    obtain ⟨rfl, rfl, rfl⟩ := h
    exact VR.fn (rs := [.cell 10 25, .tmp 11]) [] [(v8782, 9, 1, r8777.map enc_str), (v8784, 56, 2, r8778.map enc55)] [0, 1] rfl (.cell 2 rfl rfl TI25 (fun h => absurd h (by decide)) (.tmp rfl .nil)) ⟨v8782, v8784, rfl, rfl, rfl⟩ trivial rfl (by decide)
  obtain rfl : b8743 = true := hb8743.symm.trans (bne_of_f c8744)
  refine ct <| sq <| sr <| va (op_load 2 7 rfl rfl TI27 rfl (fun h => absurd h (by decide))) <| vm rfl <| ?_
  replace h := bd h
  obtain ⟨t8791, hA8792, h⟩ := h
  refine sC (o_call0 FO46 (journal_compacts.ok k l0_0 l0_1 a0_2 a0_3 a0_4 l0_5 l0_6 a1 v0_0 v0_1 v0_5 v0_6 t8791 hA8792) rfl rfl (ltn rfl) (All_of (.cons (mG 0 rfl) (.cons (mG 1 rfl) (.cons (mG 2 rfl) (.cons (mG 3 rfl) .nil)))))) <| ?_
  rintro _ _ _ ⟨rfl, rfl, rfl⟩
  refine vs rfl <| nx <| vm rfl <| VL.letter ((t8791 != 0)) fun b8793 hb8793 => va (op_cmp rfl rfl (congrArg some hb8793)) <| dt <| ?_
  replace h := iC h
  rcases h with ⟨c8794, h⟩ | ⟨c8794, h⟩
  · obtain rfl : b8793 = false := hb8793.symm.trans (bne_eq_false_iff_eq.2 c8794)
    refine cf <| sk <| rg <| va (op_load 2 7 rfl rfl TI27 rfl (fun h => absurd h (by decide))) <| vm rfl <| ?_
    replace h := bd h
    obtain ⟨⟨t8795, t8796, t8797⟩, hA8798, h⟩ := h
    dsimp only at h
    refine sC (o_call0 FO47 (journal_other.ok k l0_0 l0_1 a0_2 a0_3 a0_4 l0_5 l0_6 a1 v0_0 v0_1 v0_5 v0_6 t8795 t8796 t8797 hA8798) rfl rfl (ltn rfl) (All_of (.cons (mG 0 rfl) (.cons (mG 1 rfl) (.cons (mG 2 rfl) (.cons (mG 3 rfl) .nil)))))) <| ?_
    rintro _ _ _ ⟨rfl, rfl, rfl⟩
    refine s1 (o_store 0 3 rfl rfl rfl TI81 (.agg (.of rfl)) rfl (len rfl)) <| nx <| va (op_load 0 3 rfl rfl TI81 rfl (fun h => absurd h (by decide))) <| va (op_load 2 7 rfl rfl TI27 rfl (fun h => absurd h (by decide))) <| ?_
    replace h := bd h
    obtain ⟨⟨r8799, r8800⟩, hA8801, h⟩ := h
    dsimp only at h
    refine sC (o_call0 FO48 (journal_plan_first.ok k t8795 t8796 t8797 l0_0 l0_1 a0_2 a0_3 a0_4 l0_5 l0_6 v0_0 v0_1 v0_5 v0_6 r8799 r8800 hA8801) rfl rfl (ltn rfl) (All_of (.cons (mG 0 rfl) (.cons (mG 1 rfl) (.cons (mG 2 rfl) (.cons (mG 3 rfl) .nil)))))) <| ?_
    rintro _ _ _ ⟨v8803, v8805, rfl, rfl, rfl⟩
    refine sG (o_alloc Z25 ZL25) fun g8806 => s1 (o_store 0 2 rfl rfl rfl TI25 (.agg (.f 0 rfl (.f 1 rfl .nil))) rfl (len rfl)) <| ds <| sr <| vm rfl <| dt <| ?_
    replace h := iC h
    rcases h with ⟨c8815, h⟩ | ⟨c8815, h⟩
    · obtain rfl := c8815
      refine ct <| rg <| va (op_load 1 3 rfl rfl TI81 rfl (fun h => absurd h (by decide))) <| va (op_load 3 7 rfl rfl TI27 rfl (fun h => absurd h (by decide))) <| ?_
      replace h := bd h
      obtain ⟨⟨r8816, r8817⟩, hA8818, h⟩ := h
      dsimp only at h
      refine sC (o_call0 FO49 (journal_plan_second.ok k t8795 t8796 t8797 l0_0 l0_1 a0_2 a0_3 a0_4 l0_5 l0_6 v0_0 v0_1 v0_5 v0_6 r8816 r8817 hA8818) rfl rfl (ltn rfl) (All_of (.cons (mG 2 rfl) (.cons (mG 3 rfl) (.cons (mG 4 rfl) (.cons (mG 5 rfl) .nil)))))) <| ?_
      rintro _ _ _ ⟨v8820, v8822, rfl, rfl, rfl⟩
      refine s1 (o_store 0 2 rfl rfl rfl TI25 (.agg (.f 0 rfl (.f 1 rfl .nil))) rfl (len rfl)) <| nx <| va (op_load 0 2 rfl rfl TI25 rfl (fun h => absurd h (by decide))) <| vm rfl <| vm rfl <| ?_
      replace h := bd h
      obtain ⟨⟨r8823, r8824, t8825⟩, hA8826, h⟩ := h
      dsimp only at h
      refine sC (o_call0 FO50 (disk_Crash.ok k r8816 r8817 a3 a4 v8820 v8822 r8823 r8824 t8825 hA8826) rfl rfl (ltn rfl) (All_of (.cons (mG 0 rfl) (.cons (mG 1 rfl) .nil)))) <| ?_
      rintro _ _ _ ⟨v8828, v8830, rfl, rfl, rfl⟩
      refine va (op_extract rfl rfl) <| va (op_extract rfl rfl) <| s1 (o_store 2 2 rfl rfl rfl TI25 (.agg (.r 0 rfl (.r 1 rfl .nil))) rfl (len rfl)) <| vs rfl <| dt <| VC.ret <| ?_
      simp only [Option.some.injEq, Prod.mk.injEq] at h
      obtain ⟨rfl, rfl, rfl⟩ := h
      exact VR.fn (rs := [.cell 10 25, .tmp 11]) [] [(v8828, 9, 1, r8823.map enc_str), (v8830, 56, 2, r8824.map enc55)] [0, 1] rfl (.cell 2 rfl rfl TI25 (fun h => absurd h (by decide)) (.tmp rfl .nil)) ⟨v8828, v8830, rfl, rfl, rfl⟩ trivial rfl (by decide)
    obtain rfl := Bool.eq_false_iff.2 c8815
    refine cf <| sk <| sr <| va (op_load 0 2 rfl rfl TI25 rfl (fun h => absurd h (by decide))) <| vm rfl <| vm rfl <| ?_
    replace h := bd h
    obtain ⟨⟨r8831, r8832, t8833⟩, hA8834, h⟩ := h
    dsimp only at h
    refine sC (o_call0 FO50 (disk_Crash.ok k r8799 r8800 a3 a4 v8803 v8805 r8831 r8832 t8833 hA8834) rfl rfl (ltn rfl) (All_of (.cons (mG 0 rfl) (.cons (mG 1 rfl) .nil)))) <| ?_
    rintro _ _ _ ⟨v8836, v8838, rfl, rfl, rfl⟩
    refine va (op_extract rfl rfl) <| va (op_extract rfl rfl) <| s1 (o_store 2 2 rfl rfl rfl TI25 (.agg (.r 0 rfl (.r 1 rfl .nil))) rfl (len rfl)) <| vs rfl <| dt <| VC.ret <| ?_
    simp only [Option.some.injEq, Prod.mk.injEq] at h
    obtain ⟨rfl, rfl, rfl⟩ := h
    exact VR.fn (rs := [.cell 10 25, .tmp 11]) [] [(v8836, 9, 1, r8831.map enc_str), (v8838, 56, 2, r8832.map enc55)] [0, 1] rfl (.cell 2 rfl rfl TI25 (fun h => absurd h (by decide)) (.tmp rfl .nil)) ⟨v8836, v8838, rfl, rfl, rfl⟩ trivial rfl (by decide)
  obtain rfl : b8793 = true := hb8793.symm.trans (bne_iff_ne.2 c8794)
  refine ct <| sr <| va (op_build (vals := []) (vcs := []) (cells := [.slice none 0 0, .slice none 0 0]) SI25 rfl .nil (by kernel_rfl)) <| vm rfl <| s1 (o_store 1 2 rfl rfl rfl TI25 (.agg (.of rfl)) rfl (len rfl)) <| vs rfl <| dt <| VC.ret <| VR.then <| VR.then <| ?_
  simp only [Option.some.injEq, Prod.mk.injEq] at h
  obtain ⟨rfl, rfl, rfl⟩ := h
  exact VR.nilRow' 9 1 <| VR.nilRow' 56 2 <| VR.fn (rs := [.cell 10 25, .tmp 11]) [] [((.slice none 0 0), 9, 1, ([] : List ByteArray).map enc_str), ((.slice none 0 0), 56, 2, ([] : List S55).map enc55)] [1, 0] rfl (.cell 1 rfl rfl TI25 (fun h => absurd h (by decide)) (.tmp rfl .nil)) ⟨(.slice none 0 0), (.slice none 0 0), rfl, rfl, rfl⟩ trivial rfl (by decide)

def lay_83_ren : Go.Shelf.Ren := ⟨fun | 212 => 83 | 263 => 95 | 264 => 96 | n => n, fun | 46 => 125 | 51 => 108 | 146 => 138 | 53 => 47 | 148 => 140 | n => n, fun | n => n⟩
theorem lay_83 : Go.Proofs.Lays.n212 Try.prog lay_83_ren where
  mixed := by kernel_rfl
  f212 := Try.func83.trans (congrArg some (by kernel_rfl))
  f263 := Try.func95.trans (congrArg some (by kernel_rfl))
  f264 := Try.func96.trans (congrArg some (by kernel_rfl))
  t46 := Try.underlying125
  a46 := Try.isAgg125
  z46 := Try.sizeOf125
  v46 := Try.zeroValue125
  t51 := Try.underlying108
  a51 := Try.isAgg108
  z51 := Try.sizeOf108
  v51 := Try.zeroValue108
  t53 := Try.underlying47
  a53 := Try.isAgg47
  z53 := Try.sizeOf47
  v53 := Try.zeroValue47
  t146 := Try.underlying138
  a146 := Try.isAgg138
  z146 := Try.sizeOf138
  v146 := Try.zeroValue138
  t148 := Try.underlying140
  a148 := Try.isAgg140
  z148 := Try.sizeOf140
  v148 := Try.zeroValue140
theorem slices_Repeat_string_string.mul (x y : Nat) (hx : x * y < 18446744073709551616) (hx1 : x < 18446744073709551616) (hy : y < 18446744073709551616) : VCalls Try.prog 83 [.int .u64 x, .int .u64 y] [] (fun v G own => v = .tuple [.int .u64 0, .int .u64 ((x * y : Nat) : Int)].toArray ∧ G = [] ∧ own = []) := by
  refine VCalls.of fun w => (Go.Proofs.Any.bits_Mul lay_83 x y hx1 hy w).mono ?_
  rintro e w' ⟨he, hw⟩
  rw [Nat.div_eq_of_lt hx, Nat.mod_eq_of_lt hx] at he
  exact ⟨he, hw ▸ Below.refl _ _⟩
theorem slices_Repeat_string_string.ok (l0 : List ByteArray) (a1 : Int) (v0 : Value) (r1 : List ByteArray) (h : slices_Repeat_string_string.f l0 a1 = some r1) :
    VCalls Try.prog 69 [v0, .int .i64 a1] [.row v0 1 (l0.map enc_str)] (fun v G own => ∃ w0 : Value, v = w0 ∧ G = [] ∧ own = [(w0, 9, 1, r1.map enc_str)]) := by
  unfold slices_Repeat_string_string.f at h
  by_cases hc : ¬ (0 < l0.length ∧ 0 < a1 ∧ l0.length * a1.toNat * 16 ≤ 140737488355328)
  · rw [if_neg hc] at h; cases h
  replace hc := Decidable.not_not.1 hc
  rw [if_pos hc] at h
  obtain rfl := Option.some.inj h
  clear h
  obtain ⟨hl0, ha1, hbig⟩ := hc
  obtain ⟨n, rfl⟩ : ∃ n : Nat, a1 = (n : Int) := ⟨a1.toNat, by omega⟩
  have hn0 : 0 < n := by omega
  clear ha1
  simp only [Int.toNat_natCast] at hbig ⊢
  obtain ⟨N, hN⟩ : ∃ N, l0.length * n = N := ⟨_, rfl⟩
  have hNp : 0 < N := by rw [← hN]; exact Nat.mul_pos hl0 hn0
  have hpN : l0.length ≤ N := by rw [← hN]; exact Nat.le_mul_of_pos_right _ hn0
  have hnN : n ≤ N := by rw [← hN]; exact Nat.le_mul_of_pos_left _ hl0
  rw [hN] at hbig
  have hNs : N ≤ 140737488355328 := by omega
  have hRl : (repl l0 n).length = N := by rw [repl_len, hN]
  have hRf : flatOk 1 ((repl l0 n).map enc_str) := flat_map enc_str_ok _
  have hLf : flatOk 1 (l0.map enc_str) := flat_map enc_str_ok _
  have hsh : ∀ j m, l0.length ∣ j → j + m ≤ N → (((repl l0 n).map enc_str).flatten.drop (j * 1)).take (m * 1) = ((repl l0 n).map enc_str).flatten.take (m * 1) := by
    rintro j m ⟨q, rfl⟩ hjm
    have hq : q ≤ n := by
      rcases Nat.lt_or_ge n q with h | h
      · have := Nat.mul_lt_mul_of_pos_left h hl0
        omega
      · exact h
    have e := repl_shift l0 n q hq
    rw [← flat_drop _ hRf, ← List.map_drop, e, List.map_take, flat_take _ hRf, List.take_take, Nat.min_eq_left (Nat.mul_le_mul_right _ (by omega))]
  have hRF : ((repl l0 n).map enc_str).flatten.length = N * 1 := by rw [flat_len hRf, lenm, hRl]
  have hR1 : ((repl l0 n).map enc_str).flatten.take (l0.length * 1) = (l0.map enc_str).flatten := by
    obtain ⟨k, rfl⟩ : ∃ k, n = k + 1 := ⟨n - 1, by omega⟩
    rw [repl, List.map_append, List.flatten_append, ← lenm (f := enc_str) (xs := l0), ← flat_len hLf, List.take_left]
  have hone : ∀ k, ∀ u ∈ ((repl l0 n).map enc_str).flatten.take k, u.oneCell' = true := fun k u hu => flat_one hRf u (List.mem_of_mem_take hu)
  generalize hRR : ((repl l0 n).map enc_str).flatten = R at *
  refine VCalls.intro Try.func69 rfl (len rfl) fun E hC hW hD hU => ?_
  refine VC.formF 0 rfl fun A cap hv h1 h2 h3 => ?_
  rw [lenm] at hv h1 h3
  subst hv
  cases A with
  | none => exact absurd (h3 rfl) (by omega)
  | some ad =>
  clear h3
  refine VC.seq (VC.region ?_)
  refine VL.va (op_assign rfl (ltn rfl)) rfl ?_
  refine VL.done (VN.then ?_)
  refine VC.seq ?_
  refine VC.seq (VC.region ?_)
  refine VL.va (op_move rfl (ltn rfl)) rfl ?_
  refine VL.letter (decide ((n : Int) < 0)) fun b1 hb1 => ?_
  refine VL.va (op_cmp rfl rfl (congrArg some hb1) (ltn rfl)) rfl ?_
  refine VL.done (VN.then ?_)
  obtain rfl : b1 = false := hb1.symm.trans (decide_eq_false (by omega))
  clear hb1
  refine VC.cond_f rfl (VC.skip (VN.then ?_))
  refine VC.seq (VC.region ?_)
  refine VL.va (op_move rfl (ltn rfl)) rfl ?_
  refine VL.va (op_len (m := l0.length) 0 lenm Try.underlying22 rfl rfl (ltn rfl)) rfl ?_
  refine VL.va (op_conv (q := (l0.length : Int)) Try.underlying3 Try.underlying125 rfl (by rw [IntKind.wrap_u64]; omega) (ltn rfl)) rfl ?_
  refine VL.va (op_move rfl (ltn rfl)) rfl ?_
  refine VL.va (op_conv (q := (n : Int)) Try.underlying3 Try.underlying125 rfl (by rw [IntKind.wrap_u64]; omega) (ltn rfl)) rfl ?_
  refine VL.sC (o_call0 FO83 (slices_Repeat_string_string.mul l0.length n (by rw [hN]; omega) (by omega) (by omega)) rfl rfl (ltn rfl) (All_of .nil)) rfl ?_
  rintro _ _ _ ⟨rfl, rfl, rfl⟩
  rw [hN]
  refine VL.va (op_move rfl (ltn rfl)) rfl ?_
  refine VL.va (op_extract rfl rfl (ltn rfl)) rfl ?_
  refine VL.va (op_extract rfl rfl (ltn rfl)) rfl ?_
  refine VL.va (op_assign rfl (ltn rfl)) rfl ?_
  refine VL.va (op_assign rfl (ltn rfl)) rfl ?_
  refine VL.done (VN.then ?_)
  refine VC.seq ?_
  refine VC.seq (VC.region ?_)
  refine VL.va (op_move rfl (ltn rfl)) rfl ?_
  refine VL.va (op_cmp (b := false) rfl rfl rfl (ltn rfl)) rfl ?_
  refine VL.va (op_move rfl (ltn rfl)) rfl ?_
  refine VL.va (op_move rfl (ltn rfl)) rfl ?_
  refine VL.letter (decide ((N : Int) > 9223372036854775807)) fun b2 hb2 => ?_
  refine VL.va (op_cmp rfl rfl (congrArg some hb2) (ltn rfl)) rfl ?_
  refine VL.va (op_pick rfl rfl (ltn rfl)) rfl ?_
  refine VL.done (VN.then ?_)
  obtain rfl : b2 = false := hb2.symm.trans (decide_eq_false (by omega))
  clear hb2
  refine VC.cond_f rfl (VC.skip (VN.then ?_))
  refine VC.seq (VC.region ?_)
  refine VL.va (op_move rfl (ltn rfl)) rfl ?_
  refine VL.va (op_conv (q := (N : Int)) Try.underlying125 Try.underlying3 rfl (by rw [IntKind.wrap_i64]; omega) (ltn rfl)) rfl ?_
  refine o_makeSlice Try.underlying22 EI9 rfl rfl hbig (ltn rfl) rfl fun g cur hcur => ?_
  refine VL.va (op_assign rfl (ltn rfl)) rfl ?_
  refine VL.done (VN.then ?_)
  refine VC.seq (VC.region ?_)
  refine VL.va (op_move rfl (ltn rfl)) rfl ?_
  refine VL.va (op_move rfl (ltn rfl)) rfl ?_
  have hLl : (l0.map enc_str).flatten.length = l0.length * 1 := by rw [flat_len hLf, lenm]
  refine VL.step1 (o_copy (m := l0.length) (cs := (l0.map enc_str).flatten) 0 Try.underlying22 TI9 rfl rfl rfl (Nat.min_eq_left hpN) hLl (by rw [hLl, hcur, Nat.zero_add]; exact Nat.mul_le_mul_right _ hpN) (src_row 0 rfl) (flat_one hLf) rfl (ltn rfl)) rfl ?_
  refine VL.va (op_assign rfl (ltn rfl)) rfl ?_
  refine VL.done (VN.then ?_)
  have hc1 : (upd cur 0 (l0.map enc_str).flatten).length = N * 1 := by rw [upd_len, hcur]; rw [hLl, hcur, Nat.zero_add]; exact Nat.mul_le_mul_right _ hpN
  have hc2 : (upd cur 0 (l0.map enc_str).flatten).take (l0.length * 1) = R.take (l0.length * 1) := by
    rw [hR1, upd, List.take_zero, List.nil_append, ← hLl, List.take_left]
  generalize upd cur 0 (l0.map enc_str).flatten = cur1 at hc1 hc2 ⊢
  clear hcur
  refine VC.seq (VC.block ?_)
  refine VC.loop2 (fun (j : Nat) (cs : List Value) => ⟨48, [(7, .slice (some ⟨g, 0, none⟩) N N), (8, .int .i64 j)], [.row (.slice (some ad) l0.length cap) 1 (l0.map enc_str)], [(g, 9, cs)], []⟩)
    (fun k j cs => N < k + j ∧ 0 < j ∧ j ≤ N ∧ cs.length = N * 1 ∧ cs.take (j * 1) = R.take (j * 1) ∧ (l0.length ∣ j ∨ j = N))
    (N + 1) l0.length cur1 [0] [] ⟨by omega, hl0, hpN, hc1, hc2, .inl (Nat.dvd_refl _)⟩ ⟨rfl, ⟨rfl, rfl, trivial⟩, SubF.of (fun _ h => h), rfl, by decide, rfl, by decide⟩ (by rintro j cs ⟨h, _, h2, _⟩; omega) ?_
  clear hc1 hc2 cur1
  rintro k ih j cs ⟨hk, hj0, hjN, hcl, hct, hdv⟩
  refine VC.seq ?_
  refine VC.seq (VC.region ?_)
  refine VL.va (op_move rfl (ltn rfl)) rfl ?_
  refine VL.va (op_move rfl (ltn rfl)) rfl ?_
  refine VL.va (op_lenV Try.underlying22 rfl (ltn rfl)) rfl ?_
  refine VL.letter (decide ((j : Int) < (N : Int))) fun b3 hb3 => ?_
  refine VL.va (op_cmp rfl rfl (congrArg some hb3) (ltn rfl)) rfl ?_
  refine VL.done (VN.then ?_)
  by_cases c3 : j < N
  · obtain rfl : b3 = true := hb3.symm.trans (decide_eq_true (by omega))
    clear hb3
    refine VC.cond_t rfl (VC.skip (VN.then ?_))
    have hdv2 := hdv.resolve_right (by omega)
    obtain ⟨m, hm⟩ : ∃ m, min j (N - j) = m := ⟨_, rfl⟩
    have hm1 : m ≤ j := by omega
    have hm2 : m ≤ N - j := by omega
    have hm0 : 0 < m := by omega
    have hjm : j * 1 + m * 1 ≤ N * 1 := by rw [← Nat.add_mul]; exact Nat.mul_le_mul_right _ (by omega)
    have hmj : m * 1 ≤ j * 1 := Nat.mul_le_mul_right _ hm1
    have hcs : (cs.drop 0).take (m * 1) = R.take (m * 1) := by
      have := congrArg (List.take (m * 1)) hct
      rw [List.take_take, List.take_take, Nat.min_eq_left hmj] at this
      rw [List.drop_zero]
      exact this
    have hcsl : (R.take (m * 1)).length = m * 1 := by rw [List.length_take, hRF]; omega
    refine VC.block ?_
    refine VC.draw ⟨0, [], [], [], []⟩ (by kernel_rfl) rfl (by kernel_rfl) (n := 10) (listed := LB 10 0) ?_
    refine VA.va (i := 0) (listed' := LB 10 1) rfl (op_move rfl (ltn rfl)) rfl (by kernel_rfl) (by kernel_rfl) (by kernel_rfl) (by kernel_rfl) ⟨trivial, trivial, trivial⟩ (fun _ _ _ h => h) ?_
    refine VA.va (i := 1) (listed' := LB 10 3) rfl (op_move rfl (ltn rfl)) rfl (by kernel_rfl) (by kernel_rfl) (by kernel_rfl) (by kernel_rfl) ⟨trivial, trivial, trivial⟩ (fun _ _ _ h => h) ?_
    refine VA.va (i := 2) (listed' := LB 10 7) rfl (op_move rfl (ltn rfl)) rfl (by kernel_rfl) (by kernel_rfl) (by kernel_rfl) (by kernel_rfl) ⟨trivial, trivial, trivial⟩ (fun _ _ _ h => h) ?_
    refine VA.va (i := 3) (listed' := LB 10 15) rfl (op_cutV' j N (cutV_at0 (.inl c3)) Try.underlying22 TI9 rfl ⟨⟨_, _, rfl, Int.natCast_nonneg j, Int.toNat_natCast _⟩, rfl, by omega, Nat.le_refl _⟩ (Nat.le_refl _) (ltn rfl)) rfl (by kernel_rfl) (by kernel_rfl) (by kernel_rfl) (by kernel_rfl) ⟨trivial, trivial, trivial⟩ (fun _ _ _ h => h) ?_
    refine VA.va (i := 4) (listed' := LB 10 31) rfl (op_move rfl (ltn rfl)) rfl (by kernel_rfl) (by kernel_rfl) (by kernel_rfl) (by kernel_rfl) ⟨trivial, trivial, trivial⟩ (fun _ _ _ h => h) ?_
    refine VA.va (i := 5) (listed' := LB 10 63) rfl (op_move rfl (ltn rfl)) rfl (by kernel_rfl) (by kernel_rfl) (by kernel_rfl) (by kernel_rfl) ⟨trivial, trivial, trivial⟩ (fun _ _ _ h => h) ?_
    refine VA.va (i := 6) (listed' := LB 10 127) rfl (op_cutH' 0 j (v := .slice (some ⟨g, 0, none⟩) j N) (by rw [cutV_at0 (.inr rfl)]; simp) Try.underlying22 TI9 rfl ⟨rfl, ⟨_, _, rfl, Int.natCast_nonneg j, Int.toNat_natCast j⟩, Nat.zero_le _, by omega⟩ (ltn rfl)) rfl (by kernel_rfl) (by kernel_rfl) (by kernel_rfl) (by kernel_rfl) ⟨trivial, trivial, trivial⟩ (fun _ _ _ h => h) ?_
    refine VA.one1 (i := 7) (listed' := LB 10 255) (by kernel_rfl) rfl (o_copy (m := m) (cs := R.take (m * 1)) 0 Try.underlying22 TI9 rfl rfl rfl hm hcsl (by rw [hcsl, hcl]; exact hjm) (src_box (m * 1) 0 rfl hcs.symm) (hone _) rfl (ltn rfl)) rfl (by kernel_rfl) ⟨trivial, trivial, trivial⟩ ?_
    refine VA.va (i := 8) (listed' := LB 10 511) rfl (op_ari64 (q := ((j + m : Nat) : Int)) rfl rfl (congrArg some (by show wrap64 ((j : Int) + (m : Int)) = _; exact w64 (by omega) (by omega))) (ltn rfl)) rfl (by kernel_rfl) (by kernel_rfl) (by kernel_rfl) (by kernel_rfl) ⟨trivial, trivial, trivial⟩ (fun _ _ _ h => h) ?_
    refine VA.va (i := 9) (listed' := LB 10 1023) rfl (op_assign rfl (ltn rfl)) rfl (by kernel_rfl) (by kernel_rfl) (by kernel_rfl) (by kernel_rfl) ⟨trivial, trivial, trivial⟩ (fun _ _ _ h => h) ?_
    refine VA.done (by kernel_rfl) (VN.block ?_)
    refine VN.again [0] [] (ih (j + m) (upd cs (j * 1) (R.take (m * 1))) ⟨by omega, by omega, by omega, ?_, ?_, ?_⟩) ⟨rfl, ⟨rfl, rfl, trivial⟩, SubF.of (fun _ h => h), rfl, by decide, rfl, by decide⟩
    · rw [upd_len, hcl]
      rw [hcsl, hcl]
      exact hjm
    · have h1 : (R.take (j * 1)).length = j * 1 := by rw [List.length_take, hRF]; omega
      have h2 : (R.take (j * 1) ++ R.take (m * 1)).length = (j + m) * 1 := by rw [List.length_append, h1, hcsl, Nat.add_mul]
      unfold upd
      rw [hct, ← h2, List.take_left, h2, Nat.add_mul, List.take_add, hsh j m hdv2 (by omega)]
    · rcases Nat.lt_or_ge (N - j) j with h | h
      · exact .inr (by omega)
      · have : m = j := by omega
        subst this
        exact .inl (by obtain ⟨q, hq⟩ := hdv2; exact ⟨q + q, by rw [Nat.mul_add, ← hq]⟩)
  obtain rfl : b3 = false := hb3.symm.trans (decide_eq_false (by omega))
  clear hb3
  obtain rfl : j = N := by omega
  refine VC.cond_f rfl ?_
  refine VC.exit (VX.then (VX.then (VX.hit (VN.then ?_))))
  refine VC.seq (VC.region ?_)
  refine VL.va (op_move rfl (ltn rfl)) rfl ?_
  refine VL.va (op_assign rfl (ltn rfl)) rfl ?_
  refine VL.done (VN.then ?_)
  refine VC.ret ?_
  refine VR.closeBox 0 j 1 ((repl l0 n).map enc_str) rfl (by rw [lenm, hRl]; exact Nat.le_refl _) (by simp only [maxLen]; omega) hcl ?_ hRf ?_
  · rw [lenm, hRl, hct, hRR, ← hRF, List.take_length]
  rw [lenm, hRl]
  exact VR.fn (rs := [.tmp 4]) [] [(.slice (some ⟨g, 0, none⟩) j j, 9, 1, (repl l0 n).map enc_str)] [0] rfl (.tmp rfl .nil) ⟨_, rfl, rfl, rfl⟩ trivial rfl (by decide)

theorem disk_New.ok (a0 : Int)  (r1 : List ByteArray) (r2 : List S55) (r3 : Int) (h : disk_New.f a0 = some (r1, r2, r3)) :
    VCalls Try.prog 37 [.int .i64 a0] [] (fun v G own => ∃ w0 w1 : Value, v = .tuple #[.agg #[w0, w1], .int .i64 r3] ∧ G = [] ∧ own = [(w0, 9, 1, r1.map enc_str), (w1, 56, 2, r2.map enc55)]) := by
  refine VCalls.intro Try.func37 rfl (len rfl) fun E hC hW hD hU => ?_
  unfold disk_New.f at h
  refine sr <| sG (o_alloc Z25 ZL25) fun g8865 => vs rfl <| ds <| sr <| vm rfl <| VL.letter (decide (a0 < 1)) fun b8880 hb8880 => va (op_cmp rfl rfl (congrArg some hb8880)) <| vm rfl <| ?_
  replace h := iC h
  rcases h with ⟨c8881, h⟩ | ⟨c8881, h⟩
  · cases lT c8881 hb8880
    refine un rfl <| un rfl <| va (op_pick rfl rfl) <| dt <| ct <| sr <| va (op_build (vals := []) (vcs := []) (cells := [.slice none 0 0, .slice none 0 0]) SI25 rfl .nil (by kernel_rfl)) <| s1 (o_store 0 2 rfl rfl rfl TI25 (.agg (.of rfl)) rfl (len rfl)) <| vs rfl <| dt <| VC.ret <| VR.then <| ?_
    simp only [Option.some.injEq, Prod.mk.injEq] at h
    obtain ⟨rfl, rfl, rfl⟩ := h
    exact VR.nilRow' 9 1 <| VR.nilRow' 56 2 <| VR.fn (rs := [.cell 2 25, .tmp 3]) [] [((.slice none 0 0), 9, 1, ([] : List ByteArray).map enc_str), ((.slice none 0 0), 56, 2, ([] : List S55).map enc55)] [1, 0] rfl (.cell 0 rfl rfl TI25 (fun h => absurd h (by decide)) (.tmp rfl .nil)) ⟨(.slice none 0 0), (.slice none 0 0), rfl, rfl, rfl⟩ trivial rfl (by decide)
  cases lF c8881 hb8880
  refine vm rfl <| VL.letter (decide (a0 > 512)) fun b8884 hb8884 => va (op_cmp rfl rfl (congrArg some hb8884)) <| va (op_pick rfl rfl) <| dt <| ?_
  replace h := iC h
  rcases h with ⟨c8885, h⟩ | ⟨c8885, h⟩
  · cases lT c8885 hb8884
    refine ct <| sr <| va (op_build (vals := []) (vcs := []) (cells := [.slice none 0 0, .slice none 0 0]) SI25 rfl .nil (by kernel_rfl)) <| s1 (o_store 0 2 rfl rfl rfl TI25 (.agg (.of rfl)) rfl (len rfl)) <| vs rfl <| dt <| VC.ret <| VR.then <| ?_
    simp only [Option.some.injEq, Prod.mk.injEq] at h
    obtain ⟨rfl, rfl, rfl⟩ := h
    exact VR.nilRow' 9 1 <| VR.nilRow' 56 2 <| VR.fn (rs := [.cell 2 25, .tmp 3]) [] [((.slice none 0 0), 9, 1, ([] : List ByteArray).map enc_str), ((.slice none 0 0), 56, 2, ([] : List S55).map enc55)] [1, 0] rfl (.cell 0 rfl rfl TI25 (fun h => absurd h (by decide)) (.tmp rfl .nil)) ⟨(.slice none 0 0), (.slice none 0 0), rfl, rfl, rfl⟩ trivial rfl (by decide)
  cases lF c8885 hb8884
  refine cf <| sk <| sr <| ?_
  replace h := bd h
  obtain ⟨r8888, hA8889, h⟩ := h
  refine sC (o_call0 FO70 (strings_Repeat.ok (⟨#[0]⟩ : ByteArray) 64 r8888 hA8889) rfl rfl (ltn rfl) (All_of .nil)) <| ?_
  rintro _ _ _ ⟨rfl, rfl, rfl⟩
  refine sG (o_buildSlice (vals := [(0, .string r8888)]) (cells := #[.string r8888]) (es := List.map enc_str ([r8888] : List ByteArray)) Try.underlying22 TI9 Z9 rfl (by decide) (by decide) (by kernel_rfl) (by kernel_rfl) rfl (flat_map enc_str_ok _)) fun v8891 => vm rfl <| ?_
  replace h := bd h
  obtain ⟨r8892, hA8893, h⟩ := h
  refine sC (o_call_b0 FO69 (slices_Repeat_string_string.ok ([r8888] : List ByteArray) a0 v8891 r8892 hA8893) rfl rfl (ltn rfl) (All_of (.cons (.inr (.inl ⟨_, mG 0 rfl, rfl⟩)) .nil)) (by rintro _ _ _ ⟨_, rfl, rfl, rfl⟩; rfl)) <| ?_
  rintro v8895 _ _ ⟨_, rfl, rfl, rfl⟩
  refine va (op_build (vals := [(0, v8895)]) (vcs := [(0, [v8895])]) (cells := [v8895, .slice none 0 0]) SI25 rfl (.cons ⟨rfl, (.r 0 rfl)⟩ .nil) (by kernel_rfl)) <| s1 (o_store 0 2 rfl rfl rfl TI25 (.agg (.r 0 rfl (.c rfl .nil))) rfl (len rfl)) <| vs rfl <| dt <| VC.ret <| ?_
  simp only [Option.some.injEq, Prod.mk.injEq] at h
  obtain ⟨rfl, rfl, rfl⟩ := h
  exact VR.nilRow' 56 2 <| VR.fn (rs := [.cell 2 25, .tmp 3]) [] [(v8895, 9, 1, r8892.map enc_str), ((.slice none 0 0), 56, 2, ([] : List S55).map enc55)] [1, 0] rfl (.cell 0 rfl rfl TI25 (fun h => absurd h (by decide)) (.tmp rfl .nil)) ⟨v8895, (.slice none 0 0), rfl, rfl, rfl⟩ trivial rfl (by decide)

theorem journal_Format.ok (k : Nat) (a0 : Int)  (r1 : List ByteArray) (r2 : List S55) (r3 : Int) (r4 : Int) (r5 : Int) (r6 : List ByteArray) (r7 : List ByteArray) (r8 : Int) (h : journal_Format.f k a0 = some (r1, r2, r3, r4, r5, r6, r7, r8)) :
    VCalls Try.prog 15 [.int .i64 a0] [] (fun v G own => ∃ w0 w1 w5 w6 : Value, v = .tuple #[.agg #[w0, w1, .int .i64 r3, .int .i64 r4, .int .i64 r5, w5, w6], .int .i64 r8] ∧ G = [.row w0 1 (r1.map enc_str), .row w1 2 (r2.map enc55)] ∧ own = [(w5, 9, 1, r6.map enc_str), (w6, 9, 1, r7.map enc_str)]) := by
  refine VCalls.intro Try.func15 rfl (len rfl) fun E hC hW hD hU => ?_
  unfold journal_Format.f at h
  refine sr <| sG (o_alloc Z27 ZL27) fun g8951 => vs rfl <| ds <| sr <| vm rfl <| VL.letter (decide (a0 < 8)) fun b8958 hb8958 => va (op_cmp rfl rfl (congrArg some hb8958)) <| dt <| ?_
  replace h := iC h
  rcases h with ⟨c8959, h⟩ | ⟨c8959, h⟩
  · cases lT c8959 hb8958
    refine ct <| sr <| va (op_build (vals := []) (vcs := []) (cells := [.slice none 0 0, .slice none 0 0, .int .i64 0, .int .i64 0, .int .i64 0, .slice none 0 0, .slice none 0 0]) SI27 rfl .nil (by kernel_rfl)) <| s1 (o_store 0 7 rfl rfl rfl TI27 (.agg (.of rfl)) rfl (len rfl)) <| vs rfl <| dt <|
     VC.ret <| VR.then <| ?_
    simp only [Option.some.injEq, Prod.mk.injEq] at h
    obtain ⟨rfl, rfl, rfl, rfl, rfl, rfl, rfl, rfl⟩ := h
    exact VR.nilFact' 1 <| VR.nilFact' 2 <| VR.nilRow' 9 1 <| VR.nilRow' 9 1 <|
     VR.fn (rs := [.cell 2 27, .tmp 3]) [.row (.slice none 0 0) 1 (([] : List ByteArray).map enc_str), .row (.slice none 0 0) 2 (([] : List S55).map enc55)] [((.slice none 0 0), 9, 1, ([] : List ByteArray).map enc_str), ((.slice none 0 0), 9, 1, ([] : List ByteArray).map enc_str)] [1, 0] rfl (.cell 0 rfl rfl TI27 (fun h => absurd h (by decide)) (.tmp rfl .nil)) ⟨(.slice none 0 0), (.slice none 0 0), (.slice none 0 0), (.slice none 0 0), rfl, rfl, rfl⟩ ⟨⟨1, rfl⟩, ⟨0, rfl⟩, trivial⟩ rfl (by decide)
  cases lF c8959 hb8958
  refine cf <| sk <| sr <| vm rfl <| ?_
  replace h := bd h
  obtain ⟨⟨r8964, r8965, t8966⟩, hA8967, h⟩ := h
  dsimp only at h
  refine sC (o_call0 FO37 (disk_New.ok a0 r8964 r8965 t8966 hA8967) rfl rfl (ltn rfl) (All_of .nil)) <| ?_
  rintro _ _ _ ⟨v8969, v8971, rfl, rfl, rfl⟩
  refine vm rfl <| va (op_extract rfl rfl) <| va (op_extract rfl rfl) <| sG (o_alloc Z25 ZL25) fun g8972 => s1 (o_store 0 2 rfl rfl rfl TI25 (.agg (.r 0 rfl (.r 1 rfl .nil))) rfl (len rfl)) <| vs rfl <| ds <| sr <| vm rfl <|
   VL.letter ((t8966 != 0)) fun b8979 hb8979 => va (op_cmp rfl rfl (congrArg some hb8979)) <| dt <| ?_
  replace h := iC h
  rcases h with ⟨c8980, h⟩ | ⟨c8980, h⟩
  · obtain rfl : b8979 = false := hb8979.symm.trans (bne_eq_false_iff_eq.2 c8980)
    refine cf <| sk <| ?_
    replace h := bd h
    obtain ⟨r8981, hA8982, h⟩ := h
    replace h := bd h
    obtain ⟨t8983, hA8984, h⟩ := h
    replace h := bd h
    obtain ⟨⟨r8985, r8986, t8987⟩, hA8988, h⟩ := h
    dsimp only at h
    refine VC.freezeRow' 0 rfl <| VC.freezeRow' 0 rfl <|
     VC.join2 (fun (v8990 : Value) (v8992 : Value) => ⟨34, [(2, .pointer (some ⟨g8951, 0, none⟩)), (3, .int .i64 0), (4, .pointer (some ⟨g8972, 0, none⟩))], [.row v8990 1 (r8985.map enc_str), .row v8992 2 (r8986.map enc55)], [(g8972, 25, [v8990, v8992]), (g8951, 27, [.slice none 0 0, .slice none 0 0, .int .i64 0, .int .i64 0, .int .i64 0, .slice none 0 0, .slice none 0 0])], []⟩) (fun (v8990 : Value) (v8992 : Value) => True) ?_ ?_
    · refine VC.drawB ⟨0, [], [], [], []⟩ [7] ⟨0, [], [], [(g8972, 25, [v8969, v8971])], []⟩ (by kernel_rfl) rfl (by kernel_rfl) (n := 8) (listed := LB 8 0) <|
       VB.vb (i := 0) (listed' := LB 8 1) rfl (op_load 0 2 rfl rfl TI25 rfl (fun h => absurd h (by decide))) rfl (by kernel_rfl) (by kernel_rfl) (by kernel_rfl) (by kernel_rfl) (by kernel_rfl) (by kernel_rfl) (PartP.on ⟨trivial, trivial, trivial⟩ ⟨trivial, ⟨⟨0, rfl⟩, trivial⟩, trivial⟩) (fun _ _ _ h => h) <|
       VB.oneC (i := 1) (listed' := LB 8 3) (by kernel_rfl) rfl (o_call0 FO39 (journal_headOf.ok k 1 0 0 r8981 hA8982) rfl rfl (ltn rfl) (All_of .nil)) rfl (by kernel_rfl) <| ?_
      rintro _ _ _ ⟨rfl, rfl, rfl⟩
      refine ⟨(PartP.on ⟨trivial, trivial, trivial⟩ ⟨trivial, ⟨⟨0, rfl⟩, trivial⟩, trivial⟩), ?_⟩
      refine VB.oneC (i := 2) (listed' := LB 8 7) (by kernel_rfl) rfl (o_call0 FO40 (journal_head_sector.ok r8981 t8983 hA8984) rfl rfl (ltn rfl) (All_of .nil)) rfl (by kernel_rfl) <| ?_
      rintro _ _ _ ⟨rfl, rfl, rfl⟩
      refine ⟨(PartP.on ⟨trivial, trivial, trivial⟩ ⟨trivial, ⟨⟨0, rfl⟩, trivial⟩, trivial⟩), ?_⟩
      refine VB.oneC (i := 3) (listed' := LB 8 15) (by kernel_rfl) rfl (o_call0 FO38 (disk_Put.ok k r8964 r8965 1 t8983 v8969 v8971 r8985 r8986 t8987 hA8988) rfl rfl (ltn rfl) (All_of (.cons (mG 1 rfl) (.cons (mG 0 rfl) .nil)))) rfl (by kernel_rfl) <| ?_
      rintro _ _ _ ⟨v8990, v8992, rfl, rfl, rfl⟩
      refine ⟨(PartP.on ⟨trivial, trivial, trivial⟩ ⟨trivial, ⟨⟨0, rfl⟩, trivial⟩, trivial⟩), ?_⟩
      exact VB.more ⟨0, [], [.row v8990 1 (r8985.map enc_str), .row v8992 2 (r8986.map enc55)], [], []⟩ ⟨trivial, trivial, trivial⟩ <|
       VB.va (i := 4) (listed' := LB 8 31) rfl (mv rfl) rfl (by kernel_rfl) (by kernel_rfl) (by kernel_rfl) (by kernel_rfl) (by decide) (PartP.on ⟨⟨⟨0, rfl⟩, ⟨1, rfl⟩, trivial⟩, trivial, trivial⟩ ⟨trivial, ⟨⟨0, rfl⟩, trivial⟩, trivial⟩) (fun _ _ _ h => h) <|
       VB.va (i := 5) (listed' := LB 8 63) rfl (op_extract rfl rfl) rfl (by kernel_rfl) (by kernel_rfl) (by kernel_rfl) (by kernel_rfl) (by decide) (PartP.on ⟨⟨⟨0, rfl⟩, ⟨1, rfl⟩, trivial⟩, trivial, trivial⟩ ⟨trivial, ⟨⟨0, rfl⟩, trivial⟩, trivial⟩) (fun _ _ _ h => h) <|
       VB.va (i := 6) (listed' := LB 8 127) rfl (op_extract rfl rfl) rfl (by kernel_rfl) (by kernel_rfl) (by kernel_rfl) (by kernel_rfl) (by decide) (PartP.on ⟨⟨⟨0, rfl⟩, ⟨1, rfl⟩, trivial⟩, trivial, trivial⟩ ⟨trivial, ⟨⟨0, rfl⟩, trivial⟩, trivial⟩) (fun _ _ _ h => h) <|
       VB.one1 (i := 7) (listed' := LB 8 255) (by kernel_rfl) rfl (o_store 0 2 rfl rfl rfl TI25 (.agg (.f 0 rfl (.f 1 rfl .nil))) rfl (len rfl)) rfl (by kernel_rfl) (PartP.off (by kernel_rfl) ⟨⟨⟨0, rfl⟩, ⟨1, rfl⟩, trivial⟩, trivial, trivial⟩) <| VB.done (by kernel_rfl) <|
       VN.meet2 v8990 v8992 [0, 1] [] trivial ⟨rfl, ⟨rfl, rfl, rfl, trivial⟩, ⟨⟨0, rfl⟩, ⟨1, rfl⟩, trivial⟩, rfl, by decide, rfl, by decide⟩
    intro v8990 v8992 _
    refine sr <| va (op_load 0 2 rfl rfl TI25 rfl (fun h => absurd h (by decide))) <| ?_
    replace h := bd h
    obtain ⟨⟨r8993, r8994, t8995⟩, hA8996, h⟩ := h
    dsimp only at h
    refine sC (o_call0 FO41 (disk_Flush.ok k r8985 r8986 v8990 v8992 r8993 r8994 t8995 hA8996) rfl rfl (ltn rfl) (All_of (.cons (mG 0 rfl) (.cons (mG 1 rfl) .nil)))) <| ?_
    rintro _ _ _ ⟨v8998, v9000, rfl, rfl, rfl⟩
    refine vm rfl <| va (op_extract rfl rfl) <| va (op_extract rfl rfl) <| s1 (o_store 0 2 rfl rfl rfl TI25 (.agg (.r 0 rfl (.r 1 rfl .nil))) rfl (len rfl)) <| nx <| va (op_load 0 2 rfl rfl TI25 rfl (fun h => absurd h (by decide))) <| VL.freezeRow' 0 rfl <| VL.freezeRow' 0 rfl <| ?_
    replace h := bd h
    obtain ⟨⟨r9001, r9002, t9003, t9004, t9005, r9006, r9007, t9008⟩, hA9009, h⟩ := h
    dsimp only at h
    refine sC (o_call0 FO9 (journal_Open.ok k r8993 r8994 v8998 v9000 r9001 r9002 t9003 t9004 t9005 r9006 r9007 t9008 hA9009) rfl rfl (ltn rfl) (All_of (.cons (mG 1 rfl) (.cons (mG 0 rfl) .nil)))) <| ?_
    rintro _ _ _ ⟨v9011, v9013, v9015, v9017, rfl, rfl, rfl⟩
    refine va (op_extract rfl rfl) <| va (op_extract rfl rfl) <| s1 (o_store 1 7 rfl rfl rfl TI27 (.agg (.f 0 rfl (.f 1 rfl (.c rfl (.c rfl (.c rfl (.r 0 rfl (.r 1 rfl .nil)))))))) rfl (len rfl)) <| vs rfl <| dt <| VC.ret <| ?_
    simp only [Option.some.injEq, Prod.mk.injEq] at h
    obtain ⟨rfl, rfl, rfl, rfl, rfl, rfl, rfl, rfl⟩ := h
    exact VR.fn (rs := [.cell 2 27, .tmp 3]) [.row v9011 1 (r9001.map enc_str), .row v9013 2 (r9002.map enc55)] [(v9015, 9, 1, r9006.map enc_str), (v9017, 9, 1, r9007.map enc_str)] [0, 1] rfl (.cell 1 rfl rfl TI27 (fun h => absurd h (by decide)) (.tmp rfl .nil)) ⟨v9011, v9013, v9015, v9017, rfl, rfl, rfl⟩ ⟨⟨0, rfl⟩, ⟨1, rfl⟩, trivial⟩ rfl (by decide)
  obtain rfl : b8979 = true := hb8979.symm.trans (bne_iff_ne.2 c8980)
  refine ct <| sr <| va (op_build (vals := []) (vcs := []) (cells := [.slice none 0 0, .slice none 0 0, .int .i64 0, .int .i64 0, .int .i64 0, .slice none 0 0, .slice none 0 0]) SI27 rfl .nil (by kernel_rfl)) <| vm rfl <| s1 (o_store 1 7 rfl rfl rfl TI27 (.agg (.of rfl)) rfl (len rfl)) <| vs rfl <|
   dt <| VC.ret <| VR.then <| ?_
  simp only [Option.some.injEq, Prod.mk.injEq] at h
  obtain ⟨rfl, rfl, rfl, rfl, rfl, rfl, rfl, rfl⟩ := h
  exact VR.nilFact' 1 <| VR.nilFact' 2 <| VR.nilRow' 9 1 <| VR.nilRow' 9 1 <|
   VR.fn (rs := [.cell 2 27, .tmp 3]) [.row (.slice none 0 0) 1 (([] : List ByteArray).map enc_str), .row (.slice none 0 0) 2 (([] : List S55).map enc55)] [((.slice none 0 0), 9, 1, ([] : List ByteArray).map enc_str), ((.slice none 0 0), 9, 1, ([] : List ByteArray).map enc_str)] [1, 0] rfl (.cell 1 rfl rfl TI27 (fun h => absurd h (by decide)) (.tmp rfl .nil)) ⟨(.slice none 0 0), (.slice none 0 0), (.slice none 0 0), (.slice none 0 0), rfl, rfl, rfl⟩ ⟨⟨1, rfl⟩, ⟨0, rfl⟩, trivial⟩ rfl (by decide)

theorem slices_Clip_string_string.ok (l0 : List ByteArray) (v0 : Value) (r1 : List ByteArray) (h : slices_Clip_string_string.f l0 = some r1) :
    VCalls Try.prog 43 [v0] [.row v0 1 (l0.map enc_str)] (fun v G own => ∃ A : Option Addr, v = .slice A r1.length r1.length ∧ G = [.row (.slice A r1.length r1.length) 1 (r1.map enc_str)] ∧ own = []) := by
  obtain rfl := Option.some.inj h
  clear h
  refine VCalls.intro Try.func43 rfl (len rfl) fun E hC hW hD hU => ?_
  refine VC.seq (VC.region ?_)
  refine VL.va (op_assign rfl (ltn rfl)) rfl ?_
  refine VL.done (VN.then ?_)
  refine VC.seq (VC.region ?_)
  refine VL.va (op_move rfl (ltn rfl)) rfl ?_
  refine VL.va (op_move rfl (ltn rfl)) rfl ?_
  refine VL.va (op_len (m := l0.length) 0 lenm Try.underlying22 rfl rfl (ltn rfl)) rfl ?_
  refine VL.va (op_move rfl (ltn rfl)) rfl ?_
  refine VL.va (op_len (m := l0.length) 0 lenm Try.underlying22 rfl rfl (ltn rfl)) rfl ?_
  refine VL.sG (o_clip (m := l0.length) 0 lenm Try.underlying22 TI9 rfl rfl rfl rfl (ltn rfl)) rfl ?_
  intro A
  refine VL.va (op_assign rfl (ltn rfl)) rfl ?_
  refine VL.done (VN.then ?_)
  refine VC.ret ?_
  exact VR.fn (rs := [.tmp 2]) [.row (.slice A l0.length l0.length) 1 (l0.map enc_str)] [] [] rfl (.tmp rfl .nil) ⟨_, rfl, rfl, rfl⟩ ⟨⟨0, rfl⟩, trivial⟩ rfl (by decide)

end Go.Proofs.Ytipeglbeongfmaa.PJournalKeeps
