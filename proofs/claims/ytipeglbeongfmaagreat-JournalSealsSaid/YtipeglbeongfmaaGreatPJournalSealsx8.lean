/- Written by a program of this repo: what the program's functions do, each as a Lean function, shown of the loaded code; or a statement's row over that; no condition of its own. -/
import Derived.Test.YtipeglbeongfmaaGreatPJournalSealsx7
namespace Go.Proofs.YtipeglbeongfmaaGreat.PJournalSeals
open Go Go.RowKit Go.Proofs.YtipeglbeongfmaaGreatV
set_option linter.unusedVariables false
set_option linter.unusedSimpArgs false
set_option maxHeartbeats 4000000
set_option maxRecDepth 100000

theorem journal_Right.ok (k : Nat) (l0_0 : List ByteArray) (l0_1 : List S71) (a0_2 : Int) (a0_3 : Int) (a0_4 : Int) (l0_5 : List ByteArray) (l0_6 : List ByteArray) (v0_0 : Value) (v0_1 : Value) (v0_5 : Value) (v0_6 : Value) (r1 : Bool) (h : journal_Right.f k l0_0 l0_1 a0_2 a0_3 a0_4 l0_5 l0_6 = some r1) :
    VCalls Tryz.prog 24 [.agg #[v0_0, v0_1, iv a0_2, iv a0_3, iv a0_4, v0_5, v0_6]] [.row v0_0 1 (l0_0.map enc_str), .row v0_1 2 (l0_1.map enc71), .row v0_5 1 (l0_5.map enc_str), .row v0_6 1 (l0_6.map enc_str)] (fun v G own => v = .bool r1 ∧ G = [] ∧ own = []) := by
  refine VCalls.intro Tryz.func24 rfl (len rfl) fun E hC hW hD hU => ?_
  unfold journal_Right.f at h
  refine sr <| sG (o_box rfl (.agg (.f 0 rfl (.f 1 rfl (.c rfl (.c rfl (.c rfl (.f 2 rfl (.f 3 rfl .nil))))))))) fun g481 => vs rfl <| nx <| va (op_fieldAddr FI27_0 rfl (add_at _ _ _)) <| va (op_load 0 2 rfl rfl TI25 rfl (fun h => absurd h (by decide))) <| ?_
  replace h := bd h
  obtain ⟨⟨r6563, r6564, t6565, t6566, t6567, r6568, r6569, t6570⟩, hA6571, h⟩ := h
  dsimp only at h
  refine sC (o_call0 FO46 (journal_Open.ok k l0_0 l0_1 v0_0 v0_1 r6563 r6564 t6565 t6566 t6567 r6568 r6569 t6570 hA6571) rfl rfl (ltn rfl) (All_of (.cons (mG 0 rfl) (.cons (mG 1 rfl) .nil)))) <| ?_
  rintro _ _ _ ⟨v6573, v6575, v6577, v6579, rfl, rfl, rfl⟩
  refine vm rfl <| va (op_extract rfl rfl) <| va (op_extract rfl rfl) <| sG (o_alloc Z27 ZL27) fun g6580 => s1 (o_store 0 7 rfl rfl rfl TI27 (.agg (.f 0 rfl (.f 1 rfl (.c rfl (.c rfl (.c rfl (.r 0 rfl (.r 1 rfl .nil)))))))) rfl (len rfl)) <| vs rfl <| nx <|
   va (op_fieldAddr FI27_1 rfl (add_at _ _ _)) <| va (op_load 0 1 rfl rfl TI3 rfl (by decide)) <| va (op_fieldAddr FI27_1 rfl (add_at _ _ _)) <| va (op_load 1 1 rfl rfl TI3 rfl (by decide)) <| VL.letter ((t6565 == a0_2)) fun b6675 hb6675 => va (op_cmp rfl rfl (congrArg some hb6675)) <| vm rfl <| ?_
  replace h := iC h
  rcases h with ⟨c6676, h⟩ | ⟨c6676, h⟩
  · obtain rfl : b6675 = true := hb6675.symm.trans (beq_iff_eq.2 c6676)
    refine va (op_fieldAddr FI27_2 rfl (add_at _ _ _)) <| va (op_load 0 1 rfl rfl TI3 rfl (by decide)) <| va (op_fieldAddr FI27_2 rfl (add_at _ _ _)) <| va (op_load 1 1 rfl rfl TI3 rfl (by decide)) <| VL.letter ((t6566 == a0_3)) fun b6677 hb6677 => va (op_cmp rfl rfl (congrArg some hb6677)) <|
     va (op_pick rfl rfl) <| vm rfl <| ?_
    replace h := iC h
    rcases h with ⟨c6678, h⟩ | ⟨c6678, h⟩
    · obtain rfl : b6677 = true := hb6677.symm.trans (beq_iff_eq.2 c6678)
      refine va (op_fieldAddr FI27_3 rfl (add_at _ _ _)) <| va (op_load 0 1 rfl rfl TI3 rfl (by decide)) <| va (op_fieldAddr FI27_3 rfl (add_at _ _ _)) <| va (op_load 1 1 rfl rfl TI3 rfl (by decide)) <| VL.letter ((t6567 == a0_4)) fun b6679 hb6679 => va (op_cmp rfl rfl (congrArg some hb6679)) <|
       va (op_pick rfl rfl) <| vm rfl <| ?_
      replace h := iC h
      rcases h with ⟨c6680, h⟩ | ⟨c6680, h⟩
      · obtain rfl : b6679 = true := hb6679.symm.trans (beq_iff_eq.2 c6680)
        refine va (op_fieldAddr FI27_5 rfl (add_at _ _ _)) <| va (op_load 0 1 rfl rfl TI22 rfl (by decide)) <| va (op_fieldAddr FI27_5 rfl (add_at _ _ _)) <| va (op_load 1 1 rfl rfl TI22 rfl (by decide)) <| ?_
        replace h := bd h
        obtain ⟨t6681, hA6682, h⟩ := h
        refine sC (o_call_b0 FO47 (slices_Equal_string_string.ok k r6569 l0_6 v6579 v0_6 t6681 hA6682) rfl rfl (ltn rfl) (All_of (.cons (.inr (.inl ⟨_, mG 1 rfl, rfl⟩)) (.cons (.inl (mG 5 rfl)) .nil))) (by rintro _ _ _ ⟨rfl, rfl, rfl⟩; rfl)) <| ?_
        rintro _ _ _ ⟨rfl, rfl, rfl⟩
        refine va (op_pick rfl rfl) <| vs rfl <| nx <| vm rfl <| VL.letter ((t6570 == 0)) fun b7008 hb7008 => va (op_cmp rfl rfl (congrArg some hb7008)) <| vm rfl <| ?_
        replace h := iC h
        rcases h with ⟨c7009, h⟩ | ⟨c7009, h⟩
        · obtain rfl : b7008 = true := hb7008.symm.trans (beq_iff_eq.2 c7009)
          refine vm rfl <| va (op_pick rfl rfl) <| vm rfl <| ?_
          replace h := iC h
          rcases h with ⟨c7010, h⟩ | ⟨c7010, h⟩
          · obtain rfl := c7010
            refine va (op_load 1 7 rfl rfl TI27 rfl (fun h => absurd h (by decide))) <| va (op_fieldAddr FI27_4 rfl (add_at _ _ _)) <| va (op_load 1 1 rfl rfl TI22 rfl (by decide)) <| ?_
            replace h := bd h
            obtain ⟨t7011, hA7012, h⟩ := h
            refine sC (o_call0 FO26 (journal_waits.ok k l0_0 l0_1 a0_2 a0_3 a0_4 l0_5 l0_6 l0_5 v0_0 v0_1 v0_5 v0_6 v0_5 t7011 hA7012) rfl rfl (ltn rfl) (All_of (.cons (mG 2 rfl) (.cons (mG 3 rfl) (.cons (mG 4 rfl) (.cons (mG 5 rfl) (.cons (mG 4 rfl) .nil))))))) <| ?_
            rintro _ _ _ ⟨rfl, rfl, rfl⟩
            refine VL.letter ((t7011 == 0)) fun b7013 hb7013 => va (op_cmp rfl rfl (congrArg some hb7013)) <| va (op_pick rfl rfl) <| vs rfl <| dt <| VC.ret <| ?_
            obtain rfl := Option.some.inj h
            subst hb7013
            exact rq 2 rfl ⟨rfl, rfl, rfl⟩
          obtain rfl := Bool.eq_false_iff.2 c7010
          refine un rfl <| un rfl <| un rfl <| un rfl <| un rfl <| va (op_pick rfl rfl) <| vs rfl <| dt <| VC.ret <| ?_
          obtain rfl := Option.some.inj h
          exact rq 2 rfl ⟨rfl, rfl, rfl⟩
        obtain rfl : b7008 = false := hb7008.symm.trans (beq_eq_false_iff_ne.2 c7009)
        refine un rfl <| va (op_pick rfl rfl) <| vm rfl <| un rfl <| un rfl <| un rfl <| un rfl <| un rfl <| va (op_pick rfl rfl) <| vs rfl <| dt <| VC.ret <| ?_
        obtain rfl := Option.some.inj h
        exact rq 2 rfl ⟨rfl, rfl, rfl⟩
      obtain rfl : b6679 = false := hb6679.symm.trans (beq_eq_false_iff_ne.2 c6680)
      refine un rfl <| un rfl <| un rfl <| un rfl <| un rfl <| va (op_pick rfl rfl) <| vs rfl <| nx <| vm rfl <| VL.letter ((t6570 == 0)) fun b7016 hb7016 => va (op_cmp rfl rfl (congrArg some hb7016)) <| vm rfl <| ?_
      replace h := iC h
      rcases h with ⟨c7017, h⟩ | ⟨c7017, h⟩
      · obtain rfl : b7016 = true := hb7016.symm.trans (beq_iff_eq.2 c7017)
        refine vm rfl <| va (op_pick rfl rfl) <| vm rfl <| un rfl <| un rfl <| un rfl <| un rfl <| un rfl <| va (op_pick rfl rfl) <| vs rfl <| dt <| VC.ret <| ?_
        obtain rfl := Option.some.inj h
        exact rq 2 rfl ⟨rfl, rfl, rfl⟩
      obtain rfl : b7016 = false := hb7016.symm.trans (beq_eq_false_iff_ne.2 c7017)
      refine un rfl <| va (op_pick rfl rfl) <| vm rfl <| un rfl <| un rfl <| un rfl <| un rfl <| un rfl <| va (op_pick rfl rfl) <| vs rfl <| dt <| VC.ret <| ?_
      obtain rfl := Option.some.inj h
      exact rq 2 rfl ⟨rfl, rfl, rfl⟩
    obtain rfl : b6677 = false := hb6677.symm.trans (beq_eq_false_iff_ne.2 c6678)
    refine un rfl <| un rfl <| un rfl <| un rfl <| un rfl <| va (op_pick rfl rfl) <| vm rfl <| un rfl <| un rfl <| un rfl <| un rfl <| un rfl <| va (op_pick rfl rfl) <| vs rfl <| nx <| vm rfl <| VL.letter ((t6570 == 0)) fun b7020 hb7020 => va (op_cmp rfl rfl (congrArg some hb7020)) <| vm rfl <| ?_
    replace h := iC h
    rcases h with ⟨c7021, h⟩ | ⟨c7021, h⟩
    · obtain rfl : b7020 = true := hb7020.symm.trans (beq_iff_eq.2 c7021)
      refine vm rfl <| va (op_pick rfl rfl) <| vm rfl <| un rfl <| un rfl <| un rfl <| un rfl <| un rfl <| va (op_pick rfl rfl) <| vs rfl <| dt <| VC.ret <| ?_
      obtain rfl := Option.some.inj h
      exact rq 2 rfl ⟨rfl, rfl, rfl⟩
    obtain rfl : b7020 = false := hb7020.symm.trans (beq_eq_false_iff_ne.2 c7021)
    refine un rfl <| va (op_pick rfl rfl) <| vm rfl <| un rfl <| un rfl <| un rfl <| un rfl <| un rfl <| va (op_pick rfl rfl) <| vs rfl <| dt <| VC.ret <| ?_
    obtain rfl := Option.some.inj h
    exact rq 2 rfl ⟨rfl, rfl, rfl⟩
  obtain rfl : b6675 = false := hb6675.symm.trans (beq_eq_false_iff_ne.2 c6676)
  refine un rfl <| un rfl <| un rfl <| un rfl <| un rfl <| va (op_pick rfl rfl) <| vm rfl <| un rfl <| un rfl <| un rfl <| un rfl <| un rfl <| va (op_pick rfl rfl) <| vm rfl <| un rfl <| un rfl <| un rfl <| un rfl <| un rfl <| va (op_pick rfl rfl) <| vs rfl <| nx <| vm rfl <|
   VL.letter ((t6570 == 0)) fun b7024 hb7024 => va (op_cmp rfl rfl (congrArg some hb7024)) <| vm rfl <| ?_
  replace h := iC h
  rcases h with ⟨c7025, h⟩ | ⟨c7025, h⟩
  · obtain rfl : b7024 = true := hb7024.symm.trans (beq_iff_eq.2 c7025)
    refine vm rfl <| va (op_pick rfl rfl) <| vm rfl <| un rfl <| un rfl <| un rfl <| un rfl <| un rfl <| va (op_pick rfl rfl) <| vs rfl <| dt <| VC.ret <| ?_
    obtain rfl := Option.some.inj h
    exact rq 2 rfl ⟨rfl, rfl, rfl⟩
  obtain rfl : b7024 = false := hb7024.symm.trans (beq_eq_false_iff_ne.2 c7025)
  refine un rfl <| va (op_pick rfl rfl) <| vm rfl <| un rfl <| un rfl <| un rfl <| un rfl <| un rfl <| va (op_pick rfl rfl) <| vs rfl <| dt <| VC.ret <| ?_
  obtain rfl := Option.some.inj h
  exact rq 2 rfl ⟨rfl, rfl, rfl⟩

theorem slices_Clip_string_string.ok (l0 : List ByteArray) (v0 : Value) (r1 : List ByteArray) (h : slices_Clip_string_string.f l0 = some r1) :
    VCalls Tryz.prog 25 [v0] [.row v0 1 (l0.map enc_str)] (fun v G own => ∃ A : Option Addr, v = .slice A r1.length r1.length ∧ G = [.row (.slice A r1.length r1.length) 1 (r1.map enc_str)] ∧ own = []) := by
  obtain rfl := Option.some.inj h
  clear h
  refine VCalls.intro Tryz.func25 rfl (len rfl) fun E hC hW hD hU => ?_
  refine VC.seq (VC.region ?_)
  refine VL.va (op_assign rfl (ltn rfl)) rfl ?_
  refine VL.done (VN.then ?_)
  refine VC.seq (VC.region ?_)
  refine VL.va (op_move rfl (ltn rfl)) rfl ?_
  refine VL.va (op_move rfl (ltn rfl)) rfl ?_
  refine VL.va (op_len (m := l0.length) 0 lenm Tryz.underlying22 rfl rfl (ltn rfl)) rfl ?_
  refine VL.va (op_move rfl (ltn rfl)) rfl ?_
  refine VL.va (op_len (m := l0.length) 0 lenm Tryz.underlying22 rfl rfl (ltn rfl)) rfl ?_
  refine VL.sG (o_clip (m := l0.length) 0 lenm Tryz.underlying22 TI9 rfl rfl rfl rfl (ltn rfl)) rfl ?_
  intro A
  refine VL.va (op_assign rfl (ltn rfl)) rfl ?_
  refine VL.done (VN.then ?_)
  refine VC.ret ?_
  exact VR.fn (rs := [.tmp 2]) [.row (.slice A l0.length l0.length) 1 (l0.map enc_str)] [] [] rfl (.tmp rfl .nil) ⟨_, rfl, rfl, rfl⟩ ⟨⟨0, rfl⟩, trivial⟩ rfl (by decide)

theorem journal_Append.ok (k : Nat) (l0_0 : List ByteArray) (l0_1 : List S71) (a0_2 : Int) (a0_3 : Int) (a0_4 : Int) (l0_5 : List ByteArray) (l0_6 : List ByteArray) (a1 : ByteArray) (v0_0 : Value) (v0_1 : Value) (v0_5 : Value) (v0_6 : Value) (r1 : List ByteArray) (r2 : List S71) (r3 : Int) (r4 : Int) (r5 : Int) (r6 : List ByteArray) (r7 : List ByteArray) (r8 : Int) (h : journal_Append.f k l0_0 l0_1 a0_2 a0_3 a0_4 l0_5 l0_6 a1 = some (r1, r2, r3, r4, r5, r6, r7, r8)) :
    VCalls Tryz.prog 6 [.agg #[v0_0, v0_1, iv a0_2, iv a0_3, iv a0_4, v0_5, v0_6], .string a1] [.row v0_0 1 (l0_0.map enc_str), .row v0_1 2 (l0_1.map enc71), .row v0_5 1 (l0_5.map enc_str), .row v0_6 1 (l0_6.map enc_str)] (fun v G own => ∃ w0 w1 w5 w6 : Value, v = .tuple #[.agg #[w0, w1, iv r3, iv r4, iv r5, w5, w6], iv r8] ∧ G = [.row w0 1 (r1.map enc_str), .row w1 2 (r2.map enc71), .row w5 1 (r6.map enc_str), .row w6 1 (r7.map enc_str)] ∧ own = []) := by
  refine VCalls.intro Tryz.func6 rfl (len rfl) fun E hC hW hD hU => ?_
  unfold journal_Append.f at h
  refine sr <| sG (o_box rfl (.agg (.f 0 rfl (.f 1 rfl (.c rfl (.c rfl (.c rfl (.f 2 rfl (.f 3 rfl .nil))))))))) fun g7067 => sG (o_alloc Z27 ZL27) fun g7068 => vs rfl <| ds <| sr <| va (op_load 1 7 rfl rfl TI27 rfl (fun h => absurd h (by decide))) <| ?_
  replace h := bd h
  obtain ⟨t7082, hA7083, h⟩ := h
  refine sC (o_call0 FO24 (journal_Right.ok k l0_0 l0_1 a0_2 a0_3 a0_4 l0_5 l0_6 v0_0 v0_1 v0_5 v0_6 t7082 hA7083) rfl rfl (ltn rfl) (All_of (.cons (mG 0 rfl) (.cons (mG 1 rfl) (.cons (mG 2 rfl) (.cons (mG 3 rfl) .nil)))))) <| ?_
  rintro _ _ _ ⟨rfl, rfl, rfl⟩
  replace h := iC h
  rcases h with ⟨c7084, h⟩ | ⟨c7084, h⟩
  · obtain rfl := c7084
    refine va (op_not rfl rfl) <| dt <| cf <| sk <| sr <| va (op_fieldAddr FI27_4 rfl (add_at _ _ _)) <| va (op_load 1 1 rfl rfl TI22 rfl (by decide)) <| ?_
    replace h := bd h
    obtain ⟨r7085, hA7086, h⟩ := h
    refine sC (o_call0 FO25 (slices_Clip_string_string.ok l0_5 v0_5 r7085 hA7086) rfl rfl (ltn rfl) (All_of (.cons (mG 2 rfl) .nil))) <| ?_
    rintro _ _ _ ⟨A7087, rfl, rfl, rfl⟩
    refine vm rfl <| sG (o_buildSlice (vals := [(0, .string a1)]) (cells := #[.string a1]) (es := List.map enc_str ([a1] : List ByteArray)) Tryz.underlying22 TI9 Z9 rfl (by decide) (by decide) (by kernel_rfl) (by kernel_rfl) rfl (flat_map enc_str_ok _)) fun v7090 => ?_
    replace h := iN h
    obtain ⟨c7091, h⟩ := h
    refine sG (o_append_clip 0 appm Tryz.underlying22 EI9 rfl rfl rfl (.inr ⟨0, _, rfl⟩) (bndm c7091)) fun v7092 => vs rfl <| ds <| sr <| va (op_load 1 7 rfl rfl TI27 rfl (fun h => absurd h (by decide))) <| vm rfl <| ?_
    replace h := bd h
    obtain ⟨t7102, hA7103, h⟩ := h
    refine sC (o_call0 FO26 (journal_waits.ok k l0_0 l0_1 a0_2 a0_3 a0_4 l0_5 l0_6 (r7085 ++ ([a1] : List ByteArray)) v0_0 v0_1 v0_5 v0_6 v7092 t7102 hA7103) rfl rfl (ltn rfl) (All_of (.cons (mG 2 rfl) (.cons (mG 3 rfl) (.cons (mG 4 rfl) (.cons (mG 5 rfl) (.cons (mG 0 rfl) .nil))))))) <| ?_
    rintro _ _ _ ⟨rfl, rfl, rfl⟩
    refine vs rfl <| nx <| vm rfl <| VL.letter ((t7102 != 0)) fun b7104 hb7104 => va (op_cmp rfl rfl (congrArg some hb7104)) <| dt <| ?_
    replace h := iC h
    rcases h with ⟨c7105, h⟩ | ⟨c7105, h⟩
    · obtain rfl : b7104 = false := hb7104.symm.trans (bne_eq_false_iff_eq.2 c7105)
      refine cf <| sk <| sr <| vm rfl <| va (op_fieldAddr FI27_4 rfl (add_at _ _ _)) <| s1 (o_store 1 1 rfl rfl rfl TI22 (.f 0 rfl) rfl (len rfl)) <| nx <| va (op_load 1 7 rfl rfl TI27 rfl (fun h => absurd h (by decide))) <|
       s1 (o_store 0 7 rfl rfl rfl TI27 (.agg (.f 2 rfl (.f 3 rfl (.c rfl (.c rfl (.c rfl (.f 0 rfl (.f 5 rfl .nil)))))))) rfl (len rfl)) <| vs rfl <| dt <| VC.ret <| ?_
      simp only [Option.some.injEq, Prod.mk.injEq] at h
      obtain ⟨rfl, rfl, rfl, rfl, rfl, rfl, rfl, rfl⟩ := h
      exact rf [.cell 4 27, .tmp 5] [] (.cell 0 rfl rfl TI27 (fun h => absurd h (by decide)) (.tmp rfl .nil)) ⟨v0_0, v0_1, v7092, v0_6, rfl, rfl, rfl⟩
    obtain rfl : b7104 = true := hb7104.symm.trans (bne_iff_ne.2 c7105)
    refine ct <| sr <| va (op_build (vals := []) (vcs := []) (cells := [sn, sn, iv 0, iv 0, iv 0, sn, sn]) SI27 rfl .nil (by kernel_rfl)) <| vm rfl <| s1 (o_store 0 7 rfl rfl rfl TI27 (.agg (.of rfl)) rfl (len rfl)) <| vs rfl <|
     dt <| VC.ret <| VR.then <| ?_
    simp only [Option.some.injEq, Prod.mk.injEq] at h
    obtain ⟨rfl, rfl, rfl, rfl, rfl, rfl, rfl, rfl⟩ := h
    exact VR.nilFact' 1 <| VR.nilFact' 2 <| VR.nilFact' 1 <| VR.nilFact' 1 <| rf [.cell 4 27, .tmp 5] [] (.cell 0 rfl rfl TI27 (fun h => absurd h (by decide)) (.tmp rfl .nil)) ⟨sn, sn, sn, sn, rfl, rfl, rfl⟩
  obtain rfl := Bool.eq_false_iff.2 c7084
  refine va (op_not rfl rfl) <| dt <| ct <| sr <| va (op_build (vals := []) (vcs := []) (cells := [sn, sn, iv 0, iv 0, iv 0, sn, sn]) SI27 rfl .nil (by kernel_rfl)) <|
   s1 (o_store 0 7 rfl rfl rfl TI27 (.agg (.of rfl)) rfl (len rfl)) <| vs rfl <| dt <| VC.ret <| VR.then <| ?_
  simp only [Option.some.injEq, Prod.mk.injEq] at h
  obtain ⟨rfl, rfl, rfl, rfl, rfl, rfl, rfl, rfl⟩ := h
  exact VR.nilFact' 1 <| VR.nilFact' 2 <| VR.nilFact' 1 <| VR.nilFact' 1 <| rf [.cell 4 27, .tmp 5] [] (.cell 0 rfl rfl TI27 (fun h => absurd h (by decide)) (.tmp rfl .nil)) ⟨sn, sn, sn, sn, rfl, rfl, rfl⟩

theorem journal_groups.ok (k : Nat) (l0_0 : List ByteArray) (l0_1 : List S71) (a0_2 : Int) (a0_3 : Int) (a0_4 : Int) (l0_5 : List ByteArray) (l0_6 : List ByteArray) (v0_0 : Value) (v0_1 : Value) (v0_5 : Value) (v0_6 : Value) (r1 : Int) (r2 : Int) (r3 : ByteArray) (h : journal_groups.f k l0_0 l0_1 a0_2 a0_3 a0_4 l0_5 l0_6 = some (r1, r2, r3)) :
    VCalls Tryz.prog 27 [.agg #[v0_0, v0_1, iv a0_2, iv a0_3, iv a0_4, v0_5, v0_6]] [.row v0_0 1 (l0_0.map enc_str), .row v0_1 2 (l0_1.map enc71), .row v0_5 1 (l0_5.map enc_str), .row v0_6 1 (l0_6.map enc_str)] (fun v G own => v = .agg #[iv r1, iv r2, .string r3] ∧ G = [] ∧ own = []) := by
  refine VCalls.intro Tryz.func27 rfl (len rfl) fun E hC hW hD hU => ?_
  unfold journal_groups.f at h
  refine sr <| sG (o_box rfl (.agg (.f 0 rfl (.f 1 rfl (.c rfl (.c rfl (.c rfl (.f 2 rfl (.f 3 rfl .nil))))))))) fun g7170 => sG (o_alloc Z53 ZL53) fun g7171 => dt <| ?_
  replace h := bd h
  obtain ⟨t7172, hA7173, h⟩ := h
  refine VC.join0 (⟨11, [(2, pt g7171 0)], [], [(g7171, 53, [iv a0_3, iv a0_4, .string t7172])], []⟩) (True) ?_ ?_
  · refine dw ⟨0, [], [], [(g7170, 27, [v0_0, v0_1, iv a0_2, iv a0_3, iv a0_4, v0_5, v0_6])], []⟩ 9 <| av 0 1 rfl (op_fieldAddr FI27_2 rfl (add_at _ _ _)) <| av 1 3 rfl (op_load 0 1 rfl rfl TI3 rfl (by decide)) <| av 2 7 rfl (op_fieldAddr FI27_3 rfl (add_at _ _ _)) <|
     av 3 15 rfl (op_load 0 1 rfl rfl TI3 rfl (by decide)) <| av 4 31 rfl (op_fieldAddr FI27_4 rfl (add_at _ _ _)) <| av 5 63 rfl (op_load 0 1 rfl rfl TI22 rfl (by decide)) <| aC 6 127 rfl (o_call0 FO50 (journal_frames.ok k l0_5 v0_5 t7172 hA7173) rfl rfl (ltn rfl) (All_of (.cons (mG 2 rfl) .nil))) <| ?_
    rintro _ _ _ ⟨rfl, rfl, rfl⟩
    refine ⟨⟨trivial, ⟨⟨1, rfl⟩, trivial⟩, trivial⟩, ?_⟩
    exact av 7 255 rfl (op_build (vals := [(0, iv a0_3), (1, iv a0_4), (2, .string t7172)]) (vcs := [(0, [iv a0_3]), (1, [iv a0_4]), (2, [.string t7172])]) (cells := [iv a0_3, iv a0_4, .string t7172]) SI53 rfl (.cons ⟨rfl, (.c rfl)⟩ (.cons ⟨rfl, (.c rfl)⟩ (.cons ⟨rfl, (.c rfl)⟩ .nil))) (by kernel_rfl)) <|
     aO 8 511 rfl (o_store 0 3 rfl rfl rfl TI53 (.agg (.of rfl)) rfl (len rfl)) <| ad <| VN.meet0 [0] [] trivial
  intro _
  refine VC.ret <| ?_
  simp only [Option.some.injEq, Prod.mk.injEq] at h
  obtain ⟨rfl, rfl, rfl⟩ := h
  exact rf [.cell 2 53] [] (.cell 0 rfl rfl TI53 (fun h => absurd h (by decide)) .nil) ⟨rfl, rfl, rfl⟩

theorem slices_Backward_api_Write_api_Write.ok (l0 : List S71) (v0 : Value) (r1 : List S71) (h : slices_Backward_api_Write_api_Write.f l0 = some r1) :
    VCalls Tryz.prog 95 [v0] [.row v0 2 (l0.map enc71)] (fun v G own => ∃ w0 : Value, ∃ p0 : Nat, v = .func (.func 105) #[] #[pt p0 0] ∧ G = [.row w0 2 (r1.map enc71), .at_ ⟨p0, 0, none⟩ [w0]] ∧ own = []) := by
  refine VCalls.intro Tryz.func95 rfl (len rfl) fun E hC hW hD hU => ?_
  unfold slices_Backward_api_Write_api_Write.f at h
  refine sr <| sG (o_box rfl (.f 0 rfl)) fun g7244 => vs rfl <| nx <| va (op_makeFunc (vals := [pt g7244 0]) rfl) <| vs rfl <| dt <| VC.ret <| ?_
  obtain rfl := Option.some.inj h
  exact VR.freeze' 0 rfl <| rf [.tmp 2] [] (.tmp rfl .nil) ⟨v0, g7244, rfl, rfl, rfl⟩

theorem disk_Get.ok (k : Nat) (l0_0 : List ByteArray) (l0_1 : List S71) (a1 : Int) (v0_0 : Value) (v0_1 : Value) (r1 : ByteArray) (r2 : Int) (h : disk_Get.f k l0_0 l0_1 a1 = some (r1, r2)) :
    VCalls Tryz.prog 81 [.agg #[v0_0, v0_1], iv a1] [.row v0_0 1 (l0_0.map enc_str), .row v0_1 2 (l0_1.map enc71)] (fun v G own => v = .tuple #[.string r1, iv r2] ∧ G = [] ∧ own = []) := by
  refine VCalls.introM Tryz.func81 rfl (len rfl) fun E hC hW hD hU => ?_
  unfold disk_Get.f at h
  refine sr <| sG (o_box rfl (.agg (.f 0 rfl (.f 1 rfl .nil)))) fun g7211 => sG (o_box rfl (.c rfl)) fun g7212 => sG (o_alloc Z9 ZL9) fun g7213 => sG (o_alloc Z29 ZL29) fun g7214 => ds <| VC.block <| sr <| va (op_load 3 2 rfl rfl TI25 rfl (fun h => absurd h (by decide))) <| ?_
  replace h := bd h
  obtain ⟨t7231, hA7232, h⟩ := h
  refine sC (o_call0 FO64 (disk_Right.ok k l0_0 l0_1 v0_0 v0_1 t7231 hA7232) rfl rfl (ltn rfl) (All_of (.cons (mG 0 rfl) (.cons (mG 1 rfl) .nil)))) <| ?_
  rintro _ _ _ ⟨rfl, rfl, rfl⟩
  replace h := iC h
  rcases h with ⟨c7233, h⟩ | ⟨c7233, h⟩
  · obtain rfl := c7233
    refine va (op_not rfl rfl) <| vs rfl <| dt <| cf <| sr <| va (op_load 2 1 rfl rfl TI3 rfl (by decide)) <| VL.letter (decide (a1 < 0)) fun b7237 hb7237 => va (op_cmp rfl rfl (congrArg some hb7237)) <| vm rfl <| ?_
    replace h := iC h
    rcases h with ⟨c7238, h⟩ | ⟨c7238, h⟩
    · cases lT c7238 hb7237
      refine un rfl <| un rfl <| un rfl <| un rfl <| un rfl <| va (op_pick rfl rfl) <| vs rfl <| dt <| ct <| sr <| s1 (o_store 1 1 rfl rfl rfl TI9 (.c rfl) rfl (len rfl)) <| s1 (o_store 0 1 rfl rfl rfl TI29 (.c rfl) rfl (len rfl)) <| dt <| VC.ret <| VR.block <| VR.then <| ?_
      simp only [Option.some.injEq, Prod.mk.injEq] at h
      obtain ⟨rfl, rfl⟩ := h
      exact VR.m0 <| rf [.cell 4 9, .cell 5 29] [] (.cell 1 rfl rfl TI9 (fun _ => rfl) (.cell 0 rfl rfl TI29 (fun _ => rfl) .nil)) ⟨rfl, rfl, rfl⟩
    cases lF c7238 hb7237
    refine va (op_load 2 1 rfl rfl TI3 rfl (by decide)) <| va (op_fieldAddr FI25_0 rfl (add_at _ _ _)) <| va (op_load 3 1 rfl rfl TI22 rfl (by decide)) <| va (op_len (m := l0_0.length) 0 lenm Tryz.underlying22 rfl rfl) <|
     VL.letter (decide (a1 ≥ (l0_0.length : Int))) fun b7239 hb7239 => va (op_cmp rfl rfl (congrArg some hb7239)) <| va (op_pick rfl rfl) <| vs rfl <| dt <| ?_
    replace h := iC h
    rcases h with ⟨c7240, h⟩ | ⟨c7240, h⟩
    · cases lT c7240 hb7239
      refine ct <| sr <| s1 (o_store 1 1 rfl rfl rfl TI9 (.c rfl) rfl (len rfl)) <| s1 (o_store 0 1 rfl rfl rfl TI29 (.c rfl) rfl (len rfl)) <| dt <| VC.ret <| VR.block <| VR.then <| ?_
      simp only [Option.some.injEq, Prod.mk.injEq] at h
      obtain ⟨rfl, rfl⟩ := h
      exact VR.m0 <| rf [.cell 4 9, .cell 5 29] [] (.cell 1 rfl rfl TI9 (fun _ => rfl) (.cell 0 rfl rfl TI29 (fun _ => rfl) .nil)) ⟨rfl, rfl, rfl⟩
    cases lF c7240 hb7239
    refine cf <| VC.skip <| VN.block <| ts <| sr <| va (op_fieldAddr FI25_1 rfl (add_at _ _ _)) <| va (op_load 3 1 rfl rfl TI23 rfl (by decide)) <| ?_
    replace h := bd h
    obtain ⟨r7245, hA7246, h⟩ := h
    refine sC (o_call0 FO95 (slices_Backward_api_Write_api_Write.ok l0_1 v0_1 r7245 hA7246) rfl rfl (ltn rfl) (All_of (.cons (mG 1 rfl) .nil))) <| ?_
    rintro _ _ _ ⟨v7248, g7249, rfl, rfl, rfl⟩
    refine dt <| VC.block <| VC.rangeFunc (ps := [25, 26]) (caps := [pt g7249 0]) Tryz.func105 FO105 rfl rfl (len rfl) fun D7250 l7251 L7252 hLl7251 hDD7250 => sr <|
     va (op_load_at (ad := ⟨g7249, 0, none⟩) 3 0 1 (by first | rfl | exact congrArg (fun a => some (Value.pointer (some a))) (add_at _ 0 _).symm) rfl TI23 rfl (by decide)) <| va (op_len (m := r7245.length) 2 lenm Tryz.underlying23 rfl rfl) <| va (op_ari64 rfl rfl rfl) <| vs rfl <| dt <| VC.block <|
     VC.loop1 (fun (i7285 : Int) => ⟨19, [(0, (.func (.yield l7251) #[] #[])), (1, pt g7249 0), (3, iv i7285)], [.loop l7251 L7252 .ready none, .dfr D7250, .at_ ⟨g7249, 0, none⟩ [v7248], .row v0_0 1 (l0_0.map enc_str), .row v0_1 2 (l0_1.map enc71), .row v7248 2 (r7245.map enc71)], [(g7214, 29, [iv 0]), (g7213, 9, [.string (⟨#[]⟩ : ByteArray)]), (g7212, 3, [iv a1]), (g7211, 25, [v0_0, v0_1])], []⟩) (fun (ml0 : Nat) (i7285 : Int) => disk_Get.l0 k a1 l0_0 r7245 ml0 i7285 = some (r1, r2)) k (wrap64 ((r7245.length : Int) - 1)) [0, 1, 2, 3] [] h ⟨rfl, ⟨rfl, rfl, rfl, trivial⟩, ⟨⟨0, rfl⟩, ⟨1, rfl⟩, ⟨3, rfl⟩, ⟨4, rfl⟩, ⟨5, rfl⟩, ⟨2, rfl⟩, trivial⟩, rfl, by decide, rfl, by decide⟩ (by intros; simp [disk_Get.l0]) <|
     ?_
    clear h
    intro ml0 ihl0 i7285 h
    simp only [disk_Get.l0] at h
    refine sq <| sr <| vm rfl <| VL.letter (decide (i7285 ≥ 0)) fun b7324 hb7324 => va (op_cmp rfl rfl (congrArg some hb7324)) <| dt <| ?_
    replace h := iC h
    rcases h with ⟨c7325, h⟩ | ⟨c7325, h⟩
    · cases lT c7325 hb7324
      refine ct <| sk <| sq <| VC.block <| sr <| vm rfl <| vm rfl <| va (op_load_at (ad := ⟨g7249, 0, none⟩) 2 0 1 (by first | rfl | exact congrArg (fun a => some (Value.pointer (some a))) (add_at _ 0 _).symm) rfl TI23 rfl (by decide)) <| vm rfl <| ?_
      replace h := iN h
      obtain ⟨c7347, h⟩ := h
      replace h := bd h
      obtain ⟨x7348, hx7348, h⟩ := h
      refine VL.open (m := r7245.length) 5 lenm rfl (pos_get hx7348) <| ?_
      rintro ad7349 n7350 rfl
      refine va (op_indexAddr Tryz.underlying23 TI72 rfl rfl c7347 (lt_get c7347 hx7348) rfl) <| va (op_load_row (sz := 2) (o := 0) 5 i7285.toNat 2 rfl rfl (get_map hx7348) TI72 rfl (fun h => absurd h (by decide))) <|
       VL.yield (vals := [iv i7285, .agg #[iv x7348.f0, .string x7348.f1]]) hLl7251 rfl rfl rfl rfl (ltn rfl) 0 rfl rfl <| rg <| sG (o_alloc Z72 ZL72) fun g7351 => s1 (o_store 0 2 rfl rfl rfl TI72 (.agg (.of rfl)) rfl (len rfl)) <| dn <| VN.begin 0 hLl7251.base rfl rfl rfl <| VC.block <|
       sr <| va (op_fieldAddr FI72_0 rfl (add_at _ _ _)) <| va (op_load 0 1 rfl rfl TI3 rfl (by decide)) <| va (op_load 3 1 rfl rfl TI3 rfl (by decide)) <| VL.letter ((x7348.f0 == a1)) fun b7352 hb7352 => va (op_cmp rfl rfl (congrArg some hb7352)) <| dt <| ?_
      replace h := iC h
      rcases h with ⟨c7353, h⟩ | ⟨c7353, h⟩
      · obtain rfl : b7352 = true := hb7352.symm.trans (beq_iff_eq.2 c7353)
        refine ct <| sr <| va (op_fieldAddr FI72_1 rfl (add_at _ _ _)) <| va (op_load 0 1 rfl rfl TI9 rfl (by decide)) <| s1 (o_store 2 1 rfl rfl rfl TI9 (.c rfl) rfl (len rfl)) <| s1 (o_store 1 1 rfl rfl rfl TI29 (.c rfl) rfl (len rfl)) <| dt <| VC.ret <| VR.block <|
         VR.endRound 0 hLl7251.base rfl rfl rfl <| va (op_not rfl rfl) <| dt <| ct <| VC.ret <| VR.block <| VR.then <| VR.then <| VR.block <| VR.endRFj 0 rfl rfl rfl rfl <| VC.ret <| VR.block <| VR.then <| ?_
        simp only [Option.some.injEq, Prod.mk.injEq] at h
        obtain ⟨rfl, rfl⟩ := h
        exact VR.mark 0 hDD7250 rfl rfl rfl <| rf [.cell 4 9, .cell 5 29] [] (.cell 2 rfl rfl TI9 (fun _ => rfl) (.cell 1 rfl rfl TI29 (fun _ => rfl) .nil)) ⟨rfl, rfl, rfl⟩
      obtain rfl : b7352 = false := hb7352.symm.trans (beq_eq_false_iff_ne.2 c7353)
      refine cf <| VC.skip <| VN.block <| VN.endRound 0 hLl7251.base rfl rfl rfl <| va (op_not rfl rfl) <| dt <| cf <| VC.skip <| VN.block <| tr <| vm rfl <| va (op_ari64 rfl rfl rfl) <| vs rfl <| dn <| VN.again [1, 2, 3, 4] [] (ihl0 (wrap64 (i7285 - 1)) h)
    cases lF c7325 hb7324
    refine cf <| VC.exit <| VX.then <| VX.then <| VX.hit <| VN.endRF 0 rfl rfl rfl rfl <| VN.block <| tx <| va (op_fieldAddr FI25_0 rfl (add_at _ _ _)) <| va (op_load 3 1 rfl rfl TI22 rfl (by decide)) <| va (op_load 2 1 rfl rfl TI3 rfl (by decide)) <| ?_
    replace h := iN h
    obtain ⟨c7354, h⟩ := h
    replace h := bd h
    obtain ⟨x7355, hx7355, h⟩ := h
    refine VL.open (m := l0_0.length) 2 lenm rfl (pos_get hx7355) <| ?_
    rintro ad7356 n7357 rfl
    refine va (op_indexAddr Tryz.underlying22 TI9 rfl rfl c7354 (lt_get c7354 hx7355) rfl) <| va (op_load_row (sz := 1) (o := 0) 2 a1.toNat 1 rfl rfl (get_map hx7355) TI9 rfl (by decide)) <| s1 (o_store 1 1 rfl rfl rfl TI9 (.c rfl) rfl (len rfl)) <|
     s1 (o_store 0 1 rfl rfl rfl TI29 (.c rfl) rfl (len rfl)) <| dt <| VC.ret <| ?_
    simp only [Option.some.injEq, Prod.mk.injEq] at h
    obtain ⟨rfl, rfl⟩ := h
    exact VR.mark 0 hDD7250 rfl rfl rfl <| rf [.cell 4 9, .cell 5 29] [] (.cell 1 rfl rfl TI9 (fun _ => rfl) (.cell 0 rfl rfl TI29 (fun _ => rfl) .nil)) ⟨rfl, rfl, rfl⟩
  obtain rfl := Bool.eq_false_iff.2 c7233
  refine va (op_not rfl rfl) <| vs rfl <| dt <| ct <| sr <| s1 (o_store 1 1 rfl rfl rfl TI9 (.c rfl) rfl (len rfl)) <| s1 (o_store 0 1 rfl rfl rfl TI29 (.c rfl) rfl (len rfl)) <| dt <| VC.ret <| VR.block <| VR.then <| ?_
  simp only [Option.some.injEq, Prod.mk.injEq] at h
  obtain ⟨rfl, rfl⟩ := h
  exact VR.m0 <| rf [.cell 4 9, .cell 5 29] [] (.cell 1 rfl rfl TI9 (fun _ => rfl) (.cell 0 rfl rfl TI29 (fun _ => rfl) .nil)) ⟨rfl, rfl, rfl⟩

theorem slices_Clip_api_Write_api_Write.ok (l0 : List S71) (v0 : Value) (r1 : List S71) (h : slices_Clip_api_Write_api_Write.f l0 = some r1) :
    VCalls Tryz.prog 76 [v0] [.row v0 2 (l0.map enc71)] (fun v G own => ∃ A : Option Addr, v = .slice A r1.length r1.length ∧ G = [.row (.slice A r1.length r1.length) 2 (r1.map enc71)] ∧ own = []) := by
  obtain rfl := Option.some.inj h
  clear h
  refine VCalls.intro Tryz.func76 rfl (len rfl) fun E hC hW hD hU => ?_
  refine VC.seq (VC.region ?_)
  refine VL.va (op_assign rfl (ltn rfl)) rfl ?_
  refine VL.done (VN.then ?_)
  refine VC.seq (VC.region ?_)
  refine VL.va (op_move rfl (ltn rfl)) rfl ?_
  refine VL.va (op_move rfl (ltn rfl)) rfl ?_
  refine VL.va (op_len (m := l0.length) 0 lenm Tryz.underlying23 rfl rfl (ltn rfl)) rfl ?_
  refine VL.va (op_move rfl (ltn rfl)) rfl ?_
  refine VL.va (op_len (m := l0.length) 0 lenm Tryz.underlying23 rfl rfl (ltn rfl)) rfl ?_
  refine VL.sG (o_clip (m := l0.length) 0 lenm Tryz.underlying23 TI72 rfl rfl rfl rfl (ltn rfl)) rfl ?_
  intro A
  refine VL.va (op_assign rfl (ltn rfl)) rfl ?_
  refine VL.done (VN.then ?_)
  refine VC.ret ?_
  exact VR.fn (rs := [.tmp 2]) [.row (.slice A l0.length l0.length) 2 (l0.map enc71)] [] [] rfl (.tmp rfl .nil) ⟨_, rfl, rfl, rfl⟩ ⟨⟨0, rfl⟩, trivial⟩ rfl (by decide)

end Go.Proofs.YtipeglbeongfmaaGreat.PJournalSeals
