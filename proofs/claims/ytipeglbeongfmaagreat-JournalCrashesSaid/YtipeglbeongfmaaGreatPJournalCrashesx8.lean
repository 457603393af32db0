/- Written by a program of this repo: what the program's functions do, each as a Lean function, shown of the loaded code; or a statement's row over that; no condition of its own. -/
import Derived.Test.YtipeglbeongfmaaGreatPJournalCrashesx7
namespace Go.Proofs.YtipeglbeongfmaaGreat.PJournalCrashes
open Go Go.RowKit Go.Proofs.YtipeglbeongfmaaGreatV
set_option linter.unusedVariables false
set_option linter.unusedSimpArgs false
set_option maxHeartbeats 4000000
set_option maxRecDepth 100000

theorem journal_Right.ok (k : Nat) (l0_0 : List ByteArray) (l0_1 : List S71) (a0_2 : Int) (a0_3 : Int) (a0_4 : Int) (l0_5 : List ByteArray) (l0_6 : List ByteArray) (v0_0 : Value) (v0_1 : Value) (v0_5 : Value) (v0_6 : Value) (r1 : Bool) (h : journal_Right.f k l0_0 l0_1 a0_2 a0_3 a0_4 l0_5 l0_6 = some r1) :
    VCalls Tryz.prog 24 [.agg #[v0_0, v0_1, iv a0_2, iv a0_3, iv a0_4, v0_5, v0_6]] [.row v0_0 1 (l0_0.map enc_str), .row v0_1 2 (l0_1.map enc71), .row v0_5 1 (l0_5.map enc_str), .row v0_6 1 (l0_6.map enc_str)] (fun v G own => v = .bool r1 ∧ G = [] ∧ own = []) := by
  refine VCalls.intro Tryz.func24 rfl (len rfl) fun E hC hW hD hU => ?_
  unfold journal_Right.f at h
  refine sr <| sG (o_box rfl (.agg (.f 0 rfl (.f 1 rfl (.c rfl (.c rfl (.c rfl (.f 2 rfl (.f 3 rfl .nil))))))))) fun g481 => vs rfl <| nx <| va (op_fieldAddr FI27_0 rfl (add_at _ _ _)) <| va (op_load 0 2 rfl rfl TI25 rfl (fun h => absurd h (by decide))) <| ?_
  replace h := bd h
  obtain ⟨⟨r6563, r6564, t6565, t6566, t6567, r6568, r6569, t6570⟩, hA6571, h⟩ := h
  dsimp only at h
  refine sC (o_call0 FO46 (journal_Open.ok k l0_0 l0_1 v0_0 v0_1 r6563 r6564 t6565 t6566 t6567 r6568 r6569 t6570 hA6571) rfl rfl (ltn rfl) (All_of (.cons (mG 0 rfl) (.cons (mG 1 rfl) .nil)))) <| ?_
  rintro _ _ _ ⟨v6573, v6575, v6577, v6579, rfl, rfl, rfl⟩
  refine vm rfl <| va (op_extract rfl rfl) <| va (op_extract rfl rfl) <| sG (o_alloc Z27 ZL27) fun g6580 => s1 (o_store 0 7 rfl rfl rfl TI27 (.agg (.f 0 rfl (.f 1 rfl (.c rfl (.c rfl (.c rfl (.r 0 rfl (.r 1 rfl .nil)))))))) rfl (len rfl)) <| vs rfl <| nx <|
   va (op_fieldAddr FI27_1 rfl (add_at _ _ _)) <| va (op_load 0 1 rfl rfl TI3 rfl (by decide)) <| va (op_fieldAddr FI27_1 rfl (add_at _ _ _)) <| va (op_load 1 1 rfl rfl TI3 rfl (by decide)) <| VL.letter ((t6565 == a0_2)) fun b6675 hb6675 => va (op_cmp rfl rfl (congrArg some hb6675)) <| vm rfl <| ?_
  replace h := iC h
  rcases h with ⟨c6676, h⟩ | ⟨c6676, h⟩
  · obtain rfl : b6675 = true := hb6675.symm.trans (beq_iff_eq.2 c6676)
    refine va (op_fieldAddr FI27_2 rfl (add_at _ _ _)) <| va (op_load 0 1 rfl rfl TI3 rfl (by decide)) <| va (op_fieldAddr FI27_2 rfl (add_at _ _ _)) <| va (op_load 1 1 rfl rfl TI3 rfl (by decide)) <| VL.letter ((t6566 == a0_3)) fun b6677 hb6677 => va (op_cmp rfl rfl (congrArg some hb6677)) <|
     va (op_pick rfl rfl) <| vm rfl <| ?_
    replace h := iC h
    rcases h with ⟨c6678, h⟩ | ⟨c6678, h⟩
    · obtain rfl : b6677 = true := hb6677.symm.trans (beq_iff_eq.2 c6678)
      refine va (op_fieldAddr FI27_3 rfl (add_at _ _ _)) <| va (op_load 0 1 rfl rfl TI3 rfl (by decide)) <| va (op_fieldAddr FI27_3 rfl (add_at _ _ _)) <| va (op_load 1 1 rfl rfl TI3 rfl (by decide)) <| VL.letter ((t6567 == a0_4)) fun b6679 hb6679 => va (op_cmp rfl rfl (congrArg some hb6679)) <|
       va (op_pick rfl rfl) <| vm rfl <| ?_
      replace h := iC h
      rcases h with ⟨c6680, h⟩ | ⟨c6680, h⟩
      · obtain rfl : b6679 = true := hb6679.symm.trans (beq_iff_eq.2 c6680)
        refine va (op_fieldAddr FI27_5 rfl (add_at _ _ _)) <| va (op_load 0 1 rfl rfl TI22 rfl (by decide)) <| va (op_fieldAddr FI27_5 rfl (add_at _ _ _)) <| va (op_load 1 1 rfl rfl TI22 rfl (by decide)) <| ?_
        replace h := bd h
        obtain ⟨t6681, hA6682, h⟩ := h
        refine sC (o_call_b0 FO47 (slices_Equal_string_string.ok k r6569 l0_6 v6579 v0_6 t6681 hA6682) rfl rfl (ltn rfl) (All_of (.cons (.inr (.inl ⟨_, mG 1 rfl, rfl⟩)) (.cons (.inl (mG 5 rfl)) .nil))) (by rintro _ _ _ ⟨rfl, rfl, rfl⟩; rfl)) <| ?_
        rintro _ _ _ ⟨rfl, rfl, rfl⟩
        refine va (op_pick rfl rfl) <| vs rfl <| nx <| vm rfl <| VL.letter ((t6570 == 0)) fun b7008 hb7008 => va (op_cmp rfl rfl (congrArg some hb7008)) <| vm rfl <| ?_
        replace h := iC h
        rcases h with ⟨c7009, h⟩ | ⟨c7009, h⟩
        · obtain rfl : b7008 = true := hb7008.symm.trans (beq_iff_eq.2 c7009)
          refine vm rfl <| va (op_pick rfl rfl) <| vm rfl <| ?_
          replace h := iC h
          rcases h with ⟨c7010, h⟩ | ⟨c7010, h⟩
          · obtain rfl := c7010
            refine va (op_load 1 7 rfl rfl TI27 rfl (fun h => absurd h (by decide))) <| va (op_fieldAddr FI27_4 rfl (add_at _ _ _)) <| va (op_load 1 1 rfl rfl TI22 rfl (by decide)) <| ?_
            replace h := bd h
            obtain ⟨t7011, hA7012, h⟩ := h
            refine sC (o_call0 FO26 (journal_waits.ok k l0_0 l0_1 a0_2 a0_3 a0_4 l0_5 l0_6 l0_5 v0_0 v0_1 v0_5 v0_6 v0_5 t7011 hA7012) rfl rfl (ltn rfl) (All_of (.cons (mG 2 rfl) (.cons (mG 3 rfl) (.cons (mG 4 rfl) (.cons (mG 5 rfl) (.cons (mG 4 rfl) .nil))))))) <| ?_
            rintro _ _ _ ⟨rfl, rfl, rfl⟩
            refine VL.letter ((t7011 == 0)) fun b7013 hb7013 => va (op_cmp rfl rfl (congrArg some hb7013)) <| va (op_pick rfl rfl) <| vs rfl <| dt <| VC.ret <| ?_
            obtain rfl := Option.some.inj h
            subst hb7013
            exact rq 2 rfl ⟨rfl, rfl, rfl⟩
          obtain rfl := Bool.eq_false_iff.2 c7010
          refine un rfl <| un rfl <| un rfl <| un rfl <| un rfl <| va (op_pick rfl rfl) <| vs rfl <| dt <| VC.ret <| ?_
          obtain rfl := Option.some.inj h
          exact rq 2 rfl ⟨rfl, rfl, rfl⟩
        obtain rfl : b7008 = false := hb7008.symm.trans (beq_eq_false_iff_ne.2 c7009)
        refine un rfl <| va (op_pick rfl rfl) <| vm rfl <| un rfl <| un rfl <| un rfl <| un rfl <| un rfl <| va (op_pick rfl rfl) <| vs rfl <| dt <| VC.ret <| ?_
        obtain rfl := Option.some.inj h
        exact rq 2 rfl ⟨rfl, rfl, rfl⟩
      obtain rfl : b6679 = false := hb6679.symm.trans (beq_eq_false_iff_ne.2 c6680)
      refine un rfl <| un rfl <| un rfl <| un rfl <| un rfl <| va (op_pick rfl rfl) <| vs rfl <| nx <| vm rfl <| VL.letter ((t6570 == 0)) fun b7016 hb7016 => va (op_cmp rfl rfl (congrArg some hb7016)) <| vm rfl <| ?_
      replace h := iC h
      rcases h with ⟨c7017, h⟩ | ⟨c7017, h⟩
      · obtain rfl : b7016 = true := hb7016.symm.trans (beq_iff_eq.2 c7017)
        refine vm rfl <| va (op_pick rfl rfl) <| vm rfl <| un rfl <| un rfl <| un rfl <| un rfl <| un rfl <| va (op_pick rfl rfl) <| vs rfl <| dt <| VC.ret <| ?_
        obtain rfl := Option.some.inj h
        exact rq 2 rfl ⟨rfl, rfl, rfl⟩
      obtain rfl : b7016 = false := hb7016.symm.trans (beq_eq_false_iff_ne.2 c7017)
      refine un rfl <| va (op_pick rfl rfl) <| vm rfl <| un rfl <| un rfl <| un rfl <| un rfl <| un rfl <| va (op_pick rfl rfl) <| vs rfl <| dt <| VC.ret <| ?_
      obtain rfl := Option.some.inj h
      exact rq 2 rfl ⟨rfl, rfl, rfl⟩
    obtain rfl : b6677 = false := hb6677.symm.trans (beq_eq_false_iff_ne.2 c6678)
    refine un rfl <| un rfl <| un rfl <| un rfl <| un rfl <| va (op_pick rfl rfl) <| vm rfl <| un rfl <| un rfl <| un rfl <| un rfl <| un rfl <| va (op_pick rfl rfl) <| vs rfl <| nx <| vm rfl <| VL.letter ((t6570 == 0)) fun b7020 hb7020 => va (op_cmp rfl rfl (congrArg some hb7020)) <| vm rfl <| ?_
    replace h := iC h
    rcases h with ⟨c7021, h⟩ | ⟨c7021, h⟩
    · obtain rfl : b7020 = true := hb7020.symm.trans (beq_iff_eq.2 c7021)
      refine vm rfl <| va (op_pick rfl rfl) <| vm rfl <| un rfl <| un rfl <| un rfl <| un rfl <| un rfl <| va (op_pick rfl rfl) <| vs rfl <| dt <| VC.ret <| ?_
      obtain rfl := Option.some.inj h
      exact rq 2 rfl ⟨rfl, rfl, rfl⟩
    obtain rfl : b7020 = false := hb7020.symm.trans (beq_eq_false_iff_ne.2 c7021)
    refine un rfl <| va (op_pick rfl rfl) <| vm rfl <| un rfl <| un rfl <| un rfl <| un rfl <| un rfl <| va (op_pick rfl rfl) <| vs rfl <| dt <| VC.ret <| ?_
    obtain rfl := Option.some.inj h
    exact rq 2 rfl ⟨rfl, rfl, rfl⟩
  obtain rfl : b6675 = false := hb6675.symm.trans (beq_eq_false_iff_ne.2 c6676)
  refine un rfl <| un rfl <| un rfl <| un rfl <| un rfl <| va (op_pick rfl rfl) <| vm rfl <| un rfl <| un rfl <| un rfl <| un rfl <| un rfl <| va (op_pick rfl rfl) <| vm rfl <| un rfl <| un rfl <| un rfl <| un rfl <| un rfl <| va (op_pick rfl rfl) <| vs rfl <| nx <| vm rfl <|
   VL.letter ((t6570 == 0)) fun b7024 hb7024 => va (op_cmp rfl rfl (congrArg some hb7024)) <| vm rfl <| ?_
  replace h := iC h
  rcases h with ⟨c7025, h⟩ | ⟨c7025, h⟩
  · obtain rfl : b7024 = true := hb7024.symm.trans (beq_iff_eq.2 c7025)
    refine vm rfl <| va (op_pick rfl rfl) <| vm rfl <| un rfl <| un rfl <| un rfl <| un rfl <| un rfl <| va (op_pick rfl rfl) <| vs rfl <| dt <| VC.ret <| ?_
    obtain rfl := Option.some.inj h
    exact rq 2 rfl ⟨rfl, rfl, rfl⟩
  obtain rfl : b7024 = false := hb7024.symm.trans (beq_eq_false_iff_ne.2 c7025)
  refine un rfl <| va (op_pick rfl rfl) <| vm rfl <| un rfl <| un rfl <| un rfl <| un rfl <| un rfl <| va (op_pick rfl rfl) <| vs rfl <| dt <| VC.ret <| ?_
  obtain rfl := Option.some.inj h
  exact rq 2 rfl ⟨rfl, rfl, rfl⟩

theorem journal_groups.ok (k : Nat) (l0_0 : List ByteArray) (l0_1 : List S71) (a0_2 : Int) (a0_3 : Int) (a0_4 : Int) (l0_5 : List ByteArray) (l0_6 : List ByteArray) (v0_0 : Value) (v0_1 : Value) (v0_5 : Value) (v0_6 : Value) (r1 : Int) (r2 : Int) (r3 : ByteArray) (h : journal_groups.f k l0_0 l0_1 a0_2 a0_3 a0_4 l0_5 l0_6 = some (r1, r2, r3)) :
    VCalls Tryz.prog 27 [.agg #[v0_0, v0_1, iv a0_2, iv a0_3, iv a0_4, v0_5, v0_6]] [.row v0_0 1 (l0_0.map enc_str), .row v0_1 2 (l0_1.map enc71), .row v0_5 1 (l0_5.map enc_str), .row v0_6 1 (l0_6.map enc_str)] (fun v G own => v = .agg #[iv r1, iv r2, .string r3] ∧ G = [] ∧ own = []) := by
  refine VCalls.intro Tryz.func27 rfl (len rfl) fun E hC hW hD hU => ?_
  unfold journal_groups.f at h
  refine sr <| sG (o_box rfl (.agg (.f 0 rfl (.f 1 rfl (.c rfl (.c rfl (.c rfl (.f 2 rfl (.f 3 rfl .nil))))))))) fun g7062 => sG (o_alloc Z53 ZL53) fun g7063 => dt <| ?_
  replace h := bd h
  obtain ⟨t7064, hA7065, h⟩ := h
  refine VC.join0 (⟨11, [(2, pt g7063 0)], [], [(g7063, 53, [iv a0_3, iv a0_4, .string t7064])], []⟩) (True) ?_ ?_
  · refine dw ⟨0, [], [], [(g7062, 27, [v0_0, v0_1, iv a0_2, iv a0_3, iv a0_4, v0_5, v0_6])], []⟩ 9 <| av 0 1 rfl (op_fieldAddr FI27_2 rfl (add_at _ _ _)) <| av 1 3 rfl (op_load 0 1 rfl rfl TI3 rfl (by decide)) <| av 2 7 rfl (op_fieldAddr FI27_3 rfl (add_at _ _ _)) <|
     av 3 15 rfl (op_load 0 1 rfl rfl TI3 rfl (by decide)) <| av 4 31 rfl (op_fieldAddr FI27_4 rfl (add_at _ _ _)) <| av 5 63 rfl (op_load 0 1 rfl rfl TI22 rfl (by decide)) <| aC 6 127 rfl (o_call0 FO50 (journal_frames.ok k l0_5 v0_5 t7064 hA7065) rfl rfl (ltn rfl) (All_of (.cons (mG 2 rfl) .nil))) <| ?_
    rintro _ _ _ ⟨rfl, rfl, rfl⟩
    refine ⟨⟨trivial, ⟨⟨1, rfl⟩, trivial⟩, trivial⟩, ?_⟩
    exact av 7 255 rfl (op_build (vals := [(0, iv a0_3), (1, iv a0_4), (2, .string t7064)]) (vcs := [(0, [iv a0_3]), (1, [iv a0_4]), (2, [.string t7064])]) (cells := [iv a0_3, iv a0_4, .string t7064]) SI53 rfl (.cons ⟨rfl, (.c rfl)⟩ (.cons ⟨rfl, (.c rfl)⟩ (.cons ⟨rfl, (.c rfl)⟩ .nil))) (by kernel_rfl)) <|
     aO 8 511 rfl (o_store 0 3 rfl rfl rfl TI53 (.agg (.of rfl)) rfl (len rfl)) <| ad <| VN.meet0 [0] [] trivial
  intro _
  refine VC.ret <| ?_
  simp only [Option.some.injEq, Prod.mk.injEq] at h
  obtain ⟨rfl, rfl, rfl⟩ := h
  exact rf [.cell 2 53] [] (.cell 0 rfl rfl TI53 (fun h => absurd h (by decide)) .nil) ⟨rfl, rfl, rfl⟩

theorem journal_compacts.ok (k : Nat) (l0_0 : List ByteArray) (l0_1 : List S71) (a0_2 : Int) (a0_3 : Int) (a0_4 : Int) (l0_5 : List ByteArray) (l0_6 : List ByteArray) (a1 : ByteArray) (v0_0 : Value) (v0_1 : Value) (v0_5 : Value) (v0_6 : Value) (r1 : Int) (h : journal_compacts.f k l0_0 l0_1 a0_2 a0_3 a0_4 l0_5 l0_6 a1 = some r1) :
    VCalls Tryz.prog 29 [.agg #[v0_0, v0_1, iv a0_2, iv a0_3, iv a0_4, v0_5, v0_6], .string a1] [.row v0_0 1 (l0_0.map enc_str), .row v0_1 2 (l0_1.map enc71), .row v0_5 1 (l0_5.map enc_str), .row v0_6 1 (l0_6.map enc_str)] (fun v G own => v = iv r1 ∧ G = [] ∧ own = []) := by
  refine VCalls.intro Tryz.func29 rfl (len rfl) fun E hC hW hD hU => ?_
  unfold journal_compacts.f at h
  refine sr <| sG (o_box rfl (.agg (.f 0 rfl (.f 1 rfl (.c rfl (.c rfl (.c rfl (.f 2 rfl (.f 3 rfl .nil))))))))) fun g7077 => vs rfl <| ds <| VC.block <| sr <| va (op_load 0 7 rfl rfl TI27 rfl (fun h => absurd h (by decide))) <| ?_
  replace h := bd h
  obtain ⟨t7099, hA7100, h⟩ := h
  refine sC (o_call0 FO24 (journal_Right.ok k l0_0 l0_1 a0_2 a0_3 a0_4 l0_5 l0_6 v0_0 v0_1 v0_5 v0_6 t7099 hA7100) rfl rfl (ltn rfl) (All_of (.cons (mG 0 rfl) (.cons (mG 1 rfl) (.cons (mG 2 rfl) (.cons (mG 3 rfl) .nil)))))) <| ?_
  rintro _ _ _ ⟨rfl, rfl, rfl⟩
  replace h := iC h
  rcases h with ⟨c7101, h⟩ | ⟨c7101, h⟩
  · obtain rfl := c7101
    refine va (op_not rfl rfl) <| vs rfl <| dt <| cf <| sr <| vm rfl <| va (op_lens Tryz.underlying9 rfl) <| VL.letter (decide ((a1.size : Int) > 3000)) fun b7102 hb7102 => va (op_cmp rfl rfl (congrArg some hb7102)) <| vs rfl <| dt <| ?_
    replace h := iC h
    rcases h with ⟨c7103, h⟩ | ⟨c7103, h⟩
    · cases lT c7103 hb7102
      refine ct <| sr <| vs rfl <| dt <| VC.ret <| VR.block <| VR.then <| ?_
      obtain rfl := Option.some.inj h
      exact rq 4 rfl ⟨rfl, rfl, rfl⟩
    cases lF c7103 hb7102
    refine cf <| ?_
    replace h := bd h
    obtain ⟨t7106, hA7107, h⟩ := h
    replace h := bd h
    obtain ⟨t7108, hA7109, h⟩ := h
    refine VC.letter (decide ((t7106.size : Int) > t7108)) fun b7110 hb7110 => ?_
    replace h := iC h
    rcases h with ⟨c7111, h⟩ | ⟨c7111, h⟩
    · cases lT c7111 hb7110
      refine VC.join0 (⟨29, [(4, iv 0), (13, .bool true)], [], [], []⟩) (True) ?_ ?_
      · refine dw ⟨0, [], [.row v0_0 1 (l0_0.map enc_str)], [(g7077, 27, [v0_0, v0_1, iv a0_2, iv a0_3, iv a0_4, v0_5, v0_6])], []⟩ 16 <| av 0 1 rfl (mv rfl) <| av 4 17 rfl (op_fieldAddr FI27_0 rfl (add_at _ _ _)) <| av 5 49 rfl (op_fieldAddr FI25_0 rfl (add_at _ _ _)) <|
         av 6 113 rfl (op_load 0 1 rfl rfl TI22 rfl (by decide)) <| av 7 241 rfl (op_len (m := l0_0.length) 0 lenm Tryz.underlying22 rfl rfl) <|
         aG 1 243 rfl (o_buildSlice (vals := [(0, .string a1)]) (cells := #[.string a1]) (es := List.map enc_str ([a1] : List ByteArray)) Tryz.underlying22 TI9 Z9 rfl (by decide) (by decide) (by kernel_rfl) (by kernel_rfl) rfl (flat_map enc_str_ok _)) fun v7105 => aC 2 247 rfl (o_call_b0 FO50 (journal_frames.ok k ([a1] : List ByteArray) v7105 t7106 hA7107) rfl rfl (ltn rfl) (All_of (.cons (.inr (.inl ⟨_, mG 0 rfl, rfl⟩)) .nil)) (by rintro _ _ _ ⟨rfl, rfl, rfl⟩; rfl)) <|
         ?_
        rintro _ _ _ ⟨rfl, rfl, rfl⟩
        refine ⟨⟨⟨⟨0, rfl⟩, trivial⟩, ⟨⟨0, rfl⟩, trivial⟩, trivial⟩, ?_⟩
        refine av 3 255 rfl (op_lens Tryz.underlying9 rfl) <| aC 8 511 rfl (o_call0 FO51 (journal_room.ok (l0_0.length : Int) t7108 hA7109) rfl rfl (ltn rfl) (All_of .nil)) <| ?_
        rintro _ _ _ ⟨rfl, rfl, rfl⟩
        refine ⟨⟨⟨⟨0, rfl⟩, trivial⟩, ⟨⟨0, rfl⟩, trivial⟩, trivial⟩, ?_⟩
        exact av 9 1023 rfl (op_cmp rfl rfl (congrArg some hb7110)) <| av 10 2047 rfl (mv rfl) <| au 11 4095 rfl rfl <| au 12 8191 rfl rfl <| au 13 16383 rfl rfl <| av 14 32767 rfl (op_pick rfl rfl) <| av 15 65535 rfl (ag rfl) <| ad <| VN.meet0 [] [] trivial
      intro _
      refine ct <| sr <| vs rfl <| dt <| VC.ret <| VR.block <| VR.then <| ?_
      obtain rfl := Option.some.inj h
      exact rq 4 rfl ⟨rfl, rfl, rfl⟩
    cases lF c7111 hb7110
    refine VC.letter ((a0_2 == 1099511627776)) fun b7112 hb7112 => VC.join0 (⟨29, [(4, iv 0), (13, .bool b7112)], [], [], []⟩) (True) ?_ ?_
    · refine dw ⟨0, [], [.row v0_0 1 (l0_0.map enc_str)], [(g7077, 27, [v0_0, v0_1, iv a0_2, iv a0_3, iv a0_4, v0_5, v0_6])], []⟩ 16 <| av 0 1 rfl (mv rfl) <| av 4 17 rfl (op_fieldAddr FI27_0 rfl (add_at _ _ _)) <| av 5 49 rfl (op_fieldAddr FI25_0 rfl (add_at _ _ _)) <|
       av 6 113 rfl (op_load 0 1 rfl rfl TI22 rfl (by decide)) <| av 7 241 rfl (op_len (m := l0_0.length) 0 lenm Tryz.underlying22 rfl rfl) <|
       aG 1 243 rfl (o_buildSlice (vals := [(0, .string a1)]) (cells := #[.string a1]) (es := List.map enc_str ([a1] : List ByteArray)) Tryz.underlying22 TI9 Z9 rfl (by decide) (by decide) (by kernel_rfl) (by kernel_rfl) rfl (flat_map enc_str_ok _)) fun v7105 => aC 2 247 rfl (o_call_b0 FO50 (journal_frames.ok k ([a1] : List ByteArray) v7105 t7106 hA7107) rfl rfl (ltn rfl) (All_of (.cons (.inr (.inl ⟨_, mG 0 rfl, rfl⟩)) .nil)) (by rintro _ _ _ ⟨rfl, rfl, rfl⟩; rfl)) <|
       ?_
      rintro _ _ _ ⟨rfl, rfl, rfl⟩
      refine ⟨⟨⟨⟨0, rfl⟩, trivial⟩, ⟨⟨0, rfl⟩, trivial⟩, trivial⟩, ?_⟩
      refine av 3 255 rfl (op_lens Tryz.underlying9 rfl) <| aC 8 511 rfl (o_call0 FO51 (journal_room.ok (l0_0.length : Int) t7108 hA7109) rfl rfl (ltn rfl) (All_of .nil)) <| ?_
      rintro _ _ _ ⟨rfl, rfl, rfl⟩
      refine ⟨⟨⟨⟨0, rfl⟩, trivial⟩, ⟨⟨0, rfl⟩, trivial⟩, trivial⟩, ?_⟩
      exact av 9 1023 rfl (op_cmp rfl rfl (congrArg some hb7110)) <| av 10 2047 rfl (mv rfl) <| av 11 4095 rfl (op_fieldAddr FI27_1 rfl (add_at _ _ _)) <| av 12 8191 rfl (op_load 0 1 rfl rfl TI3 rfl (by decide)) <| av 13 16383 rfl (op_cmp rfl rfl (congrArg some hb7112)) <|
       av 14 32767 rfl (op_pick rfl rfl) <| av 15 65535 rfl (ag rfl) <| ad <| VN.meet0 [] [] trivial
    intro _
    replace h := iC h
    rcases h with ⟨c7113, h⟩ | ⟨c7113, h⟩
    · obtain rfl : b7112 = true := hb7112.symm.trans (beq_iff_eq.2 c7113)
      refine ct <| sr <| vs rfl <| dt <| VC.ret <| VR.block <| VR.then <| ?_
      obtain rfl := Option.some.inj h
      exact rq 4 rfl ⟨rfl, rfl, rfl⟩
    obtain rfl : b7112 = false := hb7112.symm.trans (beq_eq_false_iff_ne.2 c7113)
    refine cf <| VC.skip <| VN.block <| tx <| vs rfl <| dt <| VC.ret <| ?_
    obtain rfl := Option.some.inj h
    exact rq 4 rfl ⟨rfl, rfl, rfl⟩
  obtain rfl := Bool.eq_false_iff.2 c7101
  refine va (op_not rfl rfl) <| vs rfl <| dt <| ct <| sr <| vs rfl <| dt <| VC.ret <| VR.block <| VR.then <| ?_
  obtain rfl := Option.some.inj h
  exact rq 4 rfl ⟨rfl, rfl, rfl⟩

theorem journal_other.ok (k : Nat) (l0_0 : List ByteArray) (l0_1 : List S71) (a0_2 : Int) (a0_3 : Int) (a0_4 : Int) (l0_5 : List ByteArray) (l0_6 : List ByteArray) (a1 : ByteArray) (v0_0 : Value) (v0_1 : Value) (v0_5 : Value) (v0_6 : Value) (r1 : Int) (r2 : Int) (r3 : ByteArray) (h : journal_other.f k l0_0 l0_1 a0_2 a0_3 a0_4 l0_5 l0_6 a1 = some (r1, r2, r3)) :
    VCalls Tryz.prog 30 [.agg #[v0_0, v0_1, iv a0_2, iv a0_3, iv a0_4, v0_5, v0_6], .string a1] [.row v0_0 1 (l0_0.map enc_str), .row v0_1 2 (l0_1.map enc71), .row v0_5 1 (l0_5.map enc_str), .row v0_6 1 (l0_6.map enc_str)] (fun v G own => v = .agg #[iv r1, iv r2, .string r3] ∧ G = [] ∧ own = []) := by
  refine VCalls.intro Tryz.func30 rfl (len rfl) fun E hC hW hD hU => ?_
  unfold journal_other.f at h
  refine sr <| sG (o_box rfl (.agg (.f 0 rfl (.f 1 rfl (.c rfl (.c rfl (.c rfl (.f 2 rfl (.f 3 rfl .nil))))))))) fun g7128 => sG (o_alloc Z53 ZL53) fun g7129 => dt <| ?_
  replace h := bd h
  obtain ⟨t7132, hA7133, h⟩ := h
  refine VC.join0 (⟨12, [(4, pt g7129 0)], [], [(g7129, 53, [iv (wrap64 (1 - a0_3)), iv 0, .string t7132])], []⟩) (True) ?_ ?_
  · refine dw ⟨0, [], [], [(g7128, 27, [v0_0, v0_1, iv a0_2, iv a0_3, iv a0_4, v0_5, v0_6])], []⟩ 8 <| av 0 1 rfl (op_fieldAddr FI27_2 rfl (add_at _ _ _)) <| av 1 3 rfl (op_load 0 1 rfl rfl TI3 rfl (by decide)) <| av 2 7 rfl (op_ari64 rfl rfl rfl) <| av 3 15 rfl (mv rfl) <|
     aG 4 31 rfl (o_buildSlice (vals := [(0, .string a1)]) (cells := #[.string a1]) (es := List.map enc_str ([a1] : List ByteArray)) Tryz.underlying22 TI9 Z9 rfl (by decide) (by decide) (by kernel_rfl) (by kernel_rfl) rfl (flat_map enc_str_ok _)) fun v7131 => aC 5 63 rfl (o_call_b0 FO50 (journal_frames.ok k ([a1] : List ByteArray) v7131 t7132 hA7133) rfl rfl (ltn rfl) (All_of (.cons (.inr (.inl ⟨_, mG 0 rfl, rfl⟩)) .nil)) (by rintro _ _ _ ⟨rfl, rfl, rfl⟩; rfl)) <|
     ?_
    rintro _ _ _ ⟨rfl, rfl, rfl⟩
    refine ⟨⟨trivial, ⟨⟨1, rfl⟩, trivial⟩, trivial⟩, ?_⟩
    exact av 6 127 rfl (op_build (vals := [(0, iv (wrap64 (1 - a0_3))), (1, iv 0), (2, .string t7132)]) (vcs := [(0, [iv (wrap64 (1 - a0_3))]), (1, [iv 0]), (2, [.string t7132])]) (cells := [iv (wrap64 (1 - a0_3)), iv 0, .string t7132]) SI53 rfl (.cons ⟨rfl, (.c rfl)⟩ (.cons ⟨rfl, (.c rfl)⟩ (.cons ⟨rfl, (.c rfl)⟩ .nil))) (by kernel_rfl)) <|
     aO 7 255 rfl (o_store 0 3 rfl rfl rfl TI53 (.agg (.of rfl)) rfl (len rfl)) <| ad <| VN.meet0 [0] [] trivial
  intro _
  refine VC.ret <| ?_
  simp only [Option.some.injEq, Prod.mk.injEq] at h
  obtain ⟨rfl, rfl, rfl⟩ := h
  exact rf [.cell 4 53] [] (.cell 0 rfl rfl TI53 (fun h => absurd h (by decide)) .nil) ⟨rfl, rfl, rfl⟩

theorem slices_Backward_api_Write_api_Write.ok (l0 : List S71) (v0 : Value) (r1 : List S71) (h : slices_Backward_api_Write_api_Write.f l0 = some r1) :
    VCalls Tryz.prog 95 [v0] [.row v0 2 (l0.map enc71)] (fun v G own => ∃ w0 : Value, ∃ p0 : Nat, v = .func (.func 105) #[] #[pt p0 0] ∧ G = [.row w0 2 (r1.map enc71), .at_ ⟨p0, 0, none⟩ [w0]] ∧ own = []) := by
  refine VCalls.intro Tryz.func95 rfl (len rfl) fun E hC hW hD hU => ?_
  unfold slices_Backward_api_Write_api_Write.f at h
  refine sr <| sG (o_box rfl (.f 0 rfl)) fun g7194 => vs rfl <| nx <| va (op_makeFunc (vals := [pt g7194 0]) rfl) <| vs rfl <| dt <| VC.ret <| ?_
  obtain rfl := Option.some.inj h
  exact VR.freeze' 0 rfl <| rf [.tmp 2] [] (.tmp rfl .nil) ⟨v0, g7194, rfl, rfl, rfl⟩

theorem disk_Get.ok (k : Nat) (l0_0 : List ByteArray) (l0_1 : List S71) (a1 : Int) (v0_0 : Value) (v0_1 : Value) (r1 : ByteArray) (r2 : Int) (h : disk_Get.f k l0_0 l0_1 a1 = some (r1, r2)) :
    VCalls Tryz.prog 81 [.agg #[v0_0, v0_1], iv a1] [.row v0_0 1 (l0_0.map enc_str), .row v0_1 2 (l0_1.map enc71)] (fun v G own => v = .tuple #[.string r1, iv r2] ∧ G = [] ∧ own = []) := by
  refine VCalls.introM Tryz.func81 rfl (len rfl) fun E hC hW hD hU => ?_
  unfold disk_Get.f at h
  refine sr <| sG (o_box rfl (.agg (.f 0 rfl (.f 1 rfl .nil)))) fun g7161 => sG (o_box rfl (.c rfl)) fun g7162 => sG (o_alloc Z9 ZL9) fun g7163 => sG (o_alloc Z29 ZL29) fun g7164 => ds <| VC.block <| sr <| va (op_load 3 2 rfl rfl TI25 rfl (fun h => absurd h (by decide))) <| ?_
  replace h := bd h
  obtain ⟨t7181, hA7182, h⟩ := h
  refine sC (o_call0 FO64 (disk_Right.ok k l0_0 l0_1 v0_0 v0_1 t7181 hA7182) rfl rfl (ltn rfl) (All_of (.cons (mG 0 rfl) (.cons (mG 1 rfl) .nil)))) <| ?_
  rintro _ _ _ ⟨rfl, rfl, rfl⟩
  replace h := iC h
  rcases h with ⟨c7183, h⟩ | ⟨c7183, h⟩
  · obtain rfl := c7183
    refine va (op_not rfl rfl) <| vs rfl <| dt <| cf <| sr <| va (op_load 2 1 rfl rfl TI3 rfl (by decide)) <| VL.letter (decide (a1 < 0)) fun b7187 hb7187 => va (op_cmp rfl rfl (congrArg some hb7187)) <| vm rfl <| ?_
    replace h := iC h
    rcases h with ⟨c7188, h⟩ | ⟨c7188, h⟩
    · cases lT c7188 hb7187
      refine un rfl <| un rfl <| un rfl <| un rfl <| un rfl <| va (op_pick rfl rfl) <| vs rfl <| dt <| ct <| sr <| s1 (o_store 1 1 rfl rfl rfl TI9 (.c rfl) rfl (len rfl)) <| s1 (o_store 0 1 rfl rfl rfl TI29 (.c rfl) rfl (len rfl)) <| dt <| VC.ret <| VR.block <| VR.then <| ?_
      simp only [Option.some.injEq, Prod.mk.injEq] at h
      obtain ⟨rfl, rfl⟩ := h
      exact VR.m0 <| rf [.cell 4 9, .cell 5 29] [] (.cell 1 rfl rfl TI9 (fun _ => rfl) (.cell 0 rfl rfl TI29 (fun _ => rfl) .nil)) ⟨rfl, rfl, rfl⟩
    cases lF c7188 hb7187
    refine va (op_load 2 1 rfl rfl TI3 rfl (by decide)) <| va (op_fieldAddr FI25_0 rfl (add_at _ _ _)) <| va (op_load 3 1 rfl rfl TI22 rfl (by decide)) <| va (op_len (m := l0_0.length) 0 lenm Tryz.underlying22 rfl rfl) <|
     VL.letter (decide (a1 ≥ (l0_0.length : Int))) fun b7189 hb7189 => va (op_cmp rfl rfl (congrArg some hb7189)) <| va (op_pick rfl rfl) <| vs rfl <| dt <| ?_
    replace h := iC h
    rcases h with ⟨c7190, h⟩ | ⟨c7190, h⟩
    · cases lT c7190 hb7189
      refine ct <| sr <| s1 (o_store 1 1 rfl rfl rfl TI9 (.c rfl) rfl (len rfl)) <| s1 (o_store 0 1 rfl rfl rfl TI29 (.c rfl) rfl (len rfl)) <| dt <| VC.ret <| VR.block <| VR.then <| ?_
      simp only [Option.some.injEq, Prod.mk.injEq] at h
      obtain ⟨rfl, rfl⟩ := h
      exact VR.m0 <| rf [.cell 4 9, .cell 5 29] [] (.cell 1 rfl rfl TI9 (fun _ => rfl) (.cell 0 rfl rfl TI29 (fun _ => rfl) .nil)) ⟨rfl, rfl, rfl⟩
    cases lF c7190 hb7189
    refine cf <| VC.skip <| VN.block <| ts <| sr <| va (op_fieldAddr FI25_1 rfl (add_at _ _ _)) <| va (op_load 3 1 rfl rfl TI23 rfl (by decide)) <| ?_
    replace h := bd h
    obtain ⟨r7195, hA7196, h⟩ := h
    refine sC (o_call0 FO95 (slices_Backward_api_Write_api_Write.ok l0_1 v0_1 r7195 hA7196) rfl rfl (ltn rfl) (All_of (.cons (mG 1 rfl) .nil))) <| ?_
    rintro _ _ _ ⟨v7198, g7199, rfl, rfl, rfl⟩
    refine dt <| VC.block <| VC.rangeFunc (ps := [25, 26]) (caps := [pt g7199 0]) Tryz.func105 FO105 rfl rfl (len rfl) fun D7200 l7201 L7202 hLl7201 hDD7200 => sr <|
     va (op_load_at (ad := ⟨g7199, 0, none⟩) 3 0 1 (by first | rfl | exact congrArg (fun a => some (Value.pointer (some a))) (add_at _ 0 _).symm) rfl TI23 rfl (by decide)) <| va (op_len (m := r7195.length) 2 lenm Tryz.underlying23 rfl rfl) <| va (op_ari64 rfl rfl rfl) <| vs rfl <| dt <| VC.block <|
     VC.loop1 (fun (i7235 : Int) => ⟨19, [(0, (.func (.yield l7201) #[] #[])), (1, pt g7199 0), (3, iv i7235)], [.loop l7201 L7202 .ready none, .dfr D7200, .at_ ⟨g7199, 0, none⟩ [v7198], .row v0_0 1 (l0_0.map enc_str), .row v0_1 2 (l0_1.map enc71), .row v7198 2 (r7195.map enc71)], [(g7164, 29, [iv 0]), (g7163, 9, [.string (⟨#[]⟩ : ByteArray)]), (g7162, 3, [iv a1]), (g7161, 25, [v0_0, v0_1])], []⟩) (fun (ml0 : Nat) (i7235 : Int) => disk_Get.l0 k a1 l0_0 r7195 ml0 i7235 = some (r1, r2)) k (wrap64 ((r7195.length : Int) - 1)) [0, 1, 2, 3] [] h ⟨rfl, ⟨rfl, rfl, rfl, trivial⟩, ⟨⟨0, rfl⟩, ⟨1, rfl⟩, ⟨3, rfl⟩, ⟨4, rfl⟩, ⟨5, rfl⟩, ⟨2, rfl⟩, trivial⟩, rfl, by decide, rfl, by decide⟩ (by intros; simp [disk_Get.l0]) <|
     ?_
    clear h
    intro ml0 ihl0 i7235 h
    simp only [disk_Get.l0] at h
    refine sq <| sr <| vm rfl <| VL.letter (decide (i7235 ≥ 0)) fun b7274 hb7274 => va (op_cmp rfl rfl (congrArg some hb7274)) <| dt <| ?_
    replace h := iC h
    rcases h with ⟨c7275, h⟩ | ⟨c7275, h⟩
    · cases lT c7275 hb7274
      refine ct <| sk <| sq <| VC.block <| sr <| vm rfl <| vm rfl <| va (op_load_at (ad := ⟨g7199, 0, none⟩) 2 0 1 (by first | rfl | exact congrArg (fun a => some (Value.pointer (some a))) (add_at _ 0 _).symm) rfl TI23 rfl (by decide)) <| vm rfl <| ?_
      replace h := iN h
      obtain ⟨c7297, h⟩ := h
      replace h := bd h
      obtain ⟨x7298, hx7298, h⟩ := h
      refine VL.open (m := r7195.length) 5 lenm rfl (pos_get hx7298) <| ?_
      rintro ad7299 n7300 rfl
      refine va (op_indexAddr Tryz.underlying23 TI72 rfl rfl c7297 (lt_get c7297 hx7298) rfl) <| va (op_load_row (sz := 2) (o := 0) 5 i7235.toNat 2 rfl rfl (get_map hx7298) TI72 rfl (fun h => absurd h (by decide))) <|
       VL.yield (vals := [iv i7235, .agg #[iv x7298.f0, .string x7298.f1]]) hLl7201 rfl rfl rfl rfl (ltn rfl) 0 rfl rfl <| rg <| sG (o_alloc Z72 ZL72) fun g7301 => s1 (o_store 0 2 rfl rfl rfl TI72 (.agg (.of rfl)) rfl (len rfl)) <| dn <| VN.begin 0 hLl7201.base rfl rfl rfl <| VC.block <|
       sr <| va (op_fieldAddr FI72_0 rfl (add_at _ _ _)) <| va (op_load 0 1 rfl rfl TI3 rfl (by decide)) <| va (op_load 3 1 rfl rfl TI3 rfl (by decide)) <| VL.letter ((x7298.f0 == a1)) fun b7302 hb7302 => va (op_cmp rfl rfl (congrArg some hb7302)) <| dt <| ?_
      replace h := iC h
      rcases h with ⟨c7303, h⟩ | ⟨c7303, h⟩
      · obtain rfl : b7302 = true := hb7302.symm.trans (beq_iff_eq.2 c7303)
        refine ct <| sr <| va (op_fieldAddr FI72_1 rfl (add_at _ _ _)) <| va (op_load 0 1 rfl rfl TI9 rfl (by decide)) <| s1 (o_store 2 1 rfl rfl rfl TI9 (.c rfl) rfl (len rfl)) <| s1 (o_store 1 1 rfl rfl rfl TI29 (.c rfl) rfl (len rfl)) <| dt <| VC.ret <| VR.block <|
         VR.endRound 0 hLl7201.base rfl rfl rfl <| va (op_not rfl rfl) <| dt <| ct <| VC.ret <| VR.block <| VR.then <| VR.then <| VR.block <| VR.endRFj 0 rfl rfl rfl rfl <| VC.ret <| VR.block <| VR.then <| ?_
        simp only [Option.some.injEq, Prod.mk.injEq] at h
        obtain ⟨rfl, rfl⟩ := h
        exact VR.mark 0 hDD7200 rfl rfl rfl <| rf [.cell 4 9, .cell 5 29] [] (.cell 2 rfl rfl TI9 (fun _ => rfl) (.cell 1 rfl rfl TI29 (fun _ => rfl) .nil)) ⟨rfl, rfl, rfl⟩
      obtain rfl : b7302 = false := hb7302.symm.trans (beq_eq_false_iff_ne.2 c7303)
      refine cf <| VC.skip <| VN.block <| VN.endRound 0 hLl7201.base rfl rfl rfl <| va (op_not rfl rfl) <| dt <| cf <| VC.skip <| VN.block <| tr <| vm rfl <| va (op_ari64 rfl rfl rfl) <| vs rfl <| dn <| VN.again [1, 2, 3, 4] [] (ihl0 (wrap64 (i7235 - 1)) h)
    cases lF c7275 hb7274
    refine cf <| VC.exit <| VX.then <| VX.then <| VX.hit <| VN.endRF 0 rfl rfl rfl rfl <| VN.block <| tx <| va (op_fieldAddr FI25_0 rfl (add_at _ _ _)) <| va (op_load 3 1 rfl rfl TI22 rfl (by decide)) <| va (op_load 2 1 rfl rfl TI3 rfl (by decide)) <| ?_
    replace h := iN h
    obtain ⟨c7304, h⟩ := h
    replace h := bd h
    obtain ⟨x7305, hx7305, h⟩ := h
    refine VL.open (m := l0_0.length) 2 lenm rfl (pos_get hx7305) <| ?_
    rintro ad7306 n7307 rfl
    refine va (op_indexAddr Tryz.underlying22 TI9 rfl rfl c7304 (lt_get c7304 hx7305) rfl) <| va (op_load_row (sz := 1) (o := 0) 2 a1.toNat 1 rfl rfl (get_map hx7305) TI9 rfl (by decide)) <| s1 (o_store 1 1 rfl rfl rfl TI9 (.c rfl) rfl (len rfl)) <|
     s1 (o_store 0 1 rfl rfl rfl TI29 (.c rfl) rfl (len rfl)) <| dt <| VC.ret <| ?_
    simp only [Option.some.injEq, Prod.mk.injEq] at h
    obtain ⟨rfl, rfl⟩ := h
    exact VR.mark 0 hDD7200 rfl rfl rfl <| rf [.cell 4 9, .cell 5 29] [] (.cell 1 rfl rfl TI9 (fun _ => rfl) (.cell 0 rfl rfl TI29 (fun _ => rfl) .nil)) ⟨rfl, rfl, rfl⟩
  obtain rfl := Bool.eq_false_iff.2 c7183
  refine va (op_not rfl rfl) <| vs rfl <| dt <| ct <| sr <| s1 (o_store 1 1 rfl rfl rfl TI9 (.c rfl) rfl (len rfl)) <| s1 (o_store 0 1 rfl rfl rfl TI29 (.c rfl) rfl (len rfl)) <| dt <| VC.ret <| VR.block <| VR.then <| ?_
  simp only [Option.some.injEq, Prod.mk.injEq] at h
  obtain ⟨rfl, rfl⟩ := h
  exact VR.m0 <| rf [.cell 4 9, .cell 5 29] [] (.cell 1 rfl rfl TI9 (fun _ => rfl) (.cell 0 rfl rfl TI29 (fun _ => rfl) .nil)) ⟨rfl, rfl, rfl⟩

end Go.Proofs.YtipeglbeongfmaaGreat.PJournalCrashes
