/- Written by a program of this repo: what the program's functions do, each as a Lean function, shown of the loaded code; or a statement's row over that; no condition of its own. -/
import Derived.Test.YtipeglbeongfmaaPJournalKeepsx7
namespace Go.Proofs.Ytipeglbeongfmaa.PJournalKeeps
open Go Go.RowKit Go.Proofs.YtipeglbeongfmaaV
set_option linter.unusedVariables false
set_option linter.unusedSimpArgs false
set_option maxHeartbeats 4000000
set_option maxRecDepth 100000

theorem journal_Right.ok (k : Nat) (l0_0 : List ByteArray) (l0_1 : List S55) (a0_2 : Int) (a0_3 : Int) (a0_4 : Int) (l0_5 : List ByteArray) (l0_6 : List ByteArray) (v0_0 : Value) (v0_1 : Value) (v0_5 : Value) (v0_6 : Value) (r1 : Bool) (h : journal_Right.f k l0_0 l0_1 a0_2 a0_3 a0_4 l0_5 l0_6 = some r1) :
    VCalls Try.prog 12 [.agg #[v0_0, v0_1, .int .i64 a0_2, .int .i64 a0_3, .int .i64 a0_4, v0_5, v0_6]] [.row v0_0 1 (l0_0.map enc_str), .row v0_1 2 (l0_1.map enc55), .row v0_5 1 (l0_5.map enc_str), .row v0_6 1 (l0_6.map enc_str)] (fun v G own => v = .bool r1 ∧ G = [] ∧ own = []) := by
  refine VCalls.intro Try.func12 rfl (len rfl) fun E hC hW hD hU => ?_
  unfold journal_Right.f at h
  refine sr <| sG (o_box rfl (.agg (.f 0 rfl (.f 1 rfl (.c rfl (.c rfl (.c rfl (.f 2 rfl (.f 3 rfl .nil))))))))) fun g483 => vs rfl <| nx <| va (op_fieldAddr FI27_0 rfl (add_at _ _ _)) <| va (op_load 0 2 rfl rfl TI25 rfl (fun h => absurd h (by decide))) <| ?_
  replace h := bd h
  obtain ⟨⟨r6565, r6566, t6567, t6568, t6569, r6570, r6571, t6572⟩, hA6573, h⟩ := h
  dsimp only at h
  refine sC (o_call0 FO9 (journal_Open.ok k l0_0 l0_1 v0_0 v0_1 r6565 r6566 t6567 t6568 t6569 r6570 r6571 t6572 hA6573) rfl rfl (ltn rfl) (All_of (.cons (mG 0 rfl) (.cons (mG 1 rfl) .nil)))) <| ?_
  rintro _ _ _ ⟨v6575, v6577, v6579, v6581, rfl, rfl, rfl⟩
  refine vm rfl <| va (op_extract rfl rfl) <| va (op_extract rfl rfl) <| sG (o_alloc Z27 ZL27) fun g6582 => s1 (o_store 0 7 rfl rfl rfl TI27 (.agg (.f 0 rfl (.f 1 rfl (.c rfl (.c rfl (.c rfl (.r 0 rfl (.r 1 rfl .nil)))))))) rfl (len rfl)) <| vs rfl <| nx <|
   va (op_fieldAddr FI27_1 rfl (add_at _ _ _)) <| va (op_load 0 1 rfl rfl TI3 rfl (by decide)) <| va (op_fieldAddr FI27_1 rfl (add_at _ _ _)) <| va (op_load 1 1 rfl rfl TI3 rfl (by decide)) <| VL.letter ((t6567 == a0_2)) fun b6677 hb6677 => va (op_cmp rfl rfl (congrArg some hb6677)) <| vm rfl <| ?_
  replace h := iC h
  rcases h with ⟨c6678, h⟩ | ⟨c6678, h⟩
  · obtain rfl : b6677 = true := hb6677.symm.trans (beq_iff_eq.2 c6678)
    refine va (op_fieldAddr FI27_2 rfl (add_at _ _ _)) <| va (op_load 0 1 rfl rfl TI3 rfl (by decide)) <| va (op_fieldAddr FI27_2 rfl (add_at _ _ _)) <| va (op_load 1 1 rfl rfl TI3 rfl (by decide)) <| VL.letter ((t6568 == a0_3)) fun b6679 hb6679 => va (op_cmp rfl rfl (congrArg some hb6679)) <|
     va (op_pick rfl rfl) <| vm rfl <| ?_
    replace h := iC h
    rcases h with ⟨c6680, h⟩ | ⟨c6680, h⟩
    · obtain rfl : b6679 = true := hb6679.symm.trans (beq_iff_eq.2 c6680)
      refine va (op_fieldAddr FI27_3 rfl (add_at _ _ _)) <| va (op_load 0 1 rfl rfl TI3 rfl (by decide)) <| va (op_fieldAddr FI27_3 rfl (add_at _ _ _)) <| va (op_load 1 1 rfl rfl TI3 rfl (by decide)) <| VL.letter ((t6569 == a0_4)) fun b6681 hb6681 => va (op_cmp rfl rfl (congrArg some hb6681)) <|
       va (op_pick rfl rfl) <| vm rfl <| ?_
      replace h := iC h
      rcases h with ⟨c6682, h⟩ | ⟨c6682, h⟩
      · obtain rfl : b6681 = true := hb6681.symm.trans (beq_iff_eq.2 c6682)
        refine va (op_fieldAddr FI27_5 rfl (add_at _ _ _)) <| va (op_load 0 1 rfl rfl TI22 rfl (by decide)) <| va (op_fieldAddr FI27_5 rfl (add_at _ _ _)) <| va (op_load 1 1 rfl rfl TI22 rfl (by decide)) <| ?_
        replace h := bd h
        obtain ⟨t6683, hA6684, h⟩ := h
        refine sC (o_call_b0 FO34 (slices_Equal_string_string.ok k r6571 l0_6 v6581 v0_6 t6683 hA6684) rfl rfl (ltn rfl) (All_of (.cons (.inr (.inl ⟨_, mG 1 rfl, rfl⟩)) (.cons (.inl (mG 5 rfl)) .nil))) (by rintro _ _ _ ⟨rfl, rfl, rfl⟩; rfl)) <| ?_
        rintro _ _ _ ⟨rfl, rfl, rfl⟩
        refine va (op_pick rfl rfl) <| vs rfl <| nx <| vm rfl <| VL.letter ((t6572 == 0)) fun b7010 hb7010 => va (op_cmp rfl rfl (congrArg some hb7010)) <| vm rfl <| ?_
        replace h := iC h
        rcases h with ⟨c7011, h⟩ | ⟨c7011, h⟩
        · obtain rfl : b7010 = true := hb7010.symm.trans (beq_iff_eq.2 c7011)
          refine vm rfl <| va (op_pick rfl rfl) <| vm rfl <| ?_
          replace h := iC h
          rcases h with ⟨c7012, h⟩ | ⟨c7012, h⟩
          · obtain rfl := c7012
            refine va (op_load 1 7 rfl rfl TI27 rfl (fun h => absurd h (by decide))) <| va (op_fieldAddr FI27_4 rfl (add_at _ _ _)) <| va (op_load 1 1 rfl rfl TI22 rfl (by decide)) <| ?_
            replace h := bd h
            obtain ⟨t7013, hA7014, h⟩ := h
            refine sC (o_call0 FO35 (journal_waits.ok k l0_0 l0_1 a0_2 a0_3 a0_4 l0_5 l0_6 l0_5 v0_0 v0_1 v0_5 v0_6 v0_5 t7013 hA7014) rfl rfl (ltn rfl) (All_of (.cons (mG 2 rfl) (.cons (mG 3 rfl) (.cons (mG 4 rfl) (.cons (mG 5 rfl) (.cons (mG 4 rfl) .nil))))))) <| ?_
            rintro _ _ _ ⟨rfl, rfl, rfl⟩
            refine VL.letter ((t7013 == 0)) fun b7015 hb7015 => va (op_cmp rfl rfl (congrArg some hb7015)) <| va (op_pick rfl rfl) <| vs rfl <| dt <| VC.ret <| ?_
            obtain rfl := Option.some.inj h
            subst hb7015
            exact VR.fn (rs := [.tmp 2]) [] [] [] rfl (.tmp rfl .nil) ⟨rfl, rfl, rfl⟩ trivial rfl (by decide)
          obtain rfl := Bool.eq_false_iff.2 c7012
          refine un rfl <| un rfl <| un rfl <| un rfl <| un rfl <| va (op_pick rfl rfl) <| vs rfl <| dt <| VC.ret <| ?_
          obtain rfl := Option.some.inj h
          exact VR.fn (rs := [.tmp 2]) [] [] [] rfl (.tmp rfl .nil) ⟨rfl, rfl, rfl⟩ trivial rfl (by decide)
        obtain rfl : b7010 = false := hb7010.symm.trans (beq_eq_false_iff_ne.2 c7011)
        refine un rfl <| va (op_pick rfl rfl) <| vm rfl <| un rfl <| un rfl <| un rfl <| un rfl <| un rfl <| va (op_pick rfl rfl) <| vs rfl <| dt <| VC.ret <| ?_
        obtain rfl := Option.some.inj h
        exact VR.fn (rs := [.tmp 2]) [] [] [] rfl (.tmp rfl .nil) ⟨rfl, rfl, rfl⟩ trivial rfl (by decide)
      obtain rfl : b6681 = false := hb6681.symm.trans (beq_eq_false_iff_ne.2 c6682)
      refine un rfl <| un rfl <| un rfl <| un rfl <| un rfl <| va (op_pick rfl rfl) <| vs rfl <| nx <| vm rfl <| VL.letter ((t6572 == 0)) fun b7018 hb7018 => va (op_cmp rfl rfl (congrArg some hb7018)) <| vm rfl <| ?_
      replace h := iC h
      rcases h with ⟨c7019, h⟩ | ⟨c7019, h⟩
      · obtain rfl : b7018 = true := hb7018.symm.trans (beq_iff_eq.2 c7019)
        refine vm rfl <| va (op_pick rfl rfl) <| vm rfl <| un rfl <| un rfl <| un rfl <| un rfl <| un rfl <| va (op_pick rfl rfl) <| vs rfl <| dt <| VC.ret <| ?_
        obtain rfl := Option.some.inj h
        exact VR.fn (rs := [.tmp 2]) [] [] [] rfl (.tmp rfl .nil) ⟨rfl, rfl, rfl⟩ trivial rfl (by decide)
      obtain rfl : b7018 = false := hb7018.symm.trans (beq_eq_false_iff_ne.2 c7019)
      refine un rfl <| va (op_pick rfl rfl) <| vm rfl <| un rfl <| un rfl <| un rfl <| un rfl <| un rfl <| va (op_pick rfl rfl) <| vs rfl <| dt <| VC.ret <| ?_
      obtain rfl := Option.some.inj h
      exact VR.fn (rs := [.tmp 2]) [] [] [] rfl (.tmp rfl .nil) ⟨rfl, rfl, rfl⟩ trivial rfl (by decide)
    obtain rfl : b6679 = false := hb6679.symm.trans (beq_eq_false_iff_ne.2 c6680)
    refine un rfl <| un rfl <| un rfl <| un rfl <| un rfl <| va (op_pick rfl rfl) <| vm rfl <| un rfl <| un rfl <| un rfl <| un rfl <| un rfl <| va (op_pick rfl rfl) <| vs rfl <| nx <| vm rfl <| VL.letter ((t6572 == 0)) fun b7022 hb7022 => va (op_cmp rfl rfl (congrArg some hb7022)) <| vm rfl <| ?_
    replace h := iC h
    rcases h with ⟨c7023, h⟩ | ⟨c7023, h⟩
    · obtain rfl : b7022 = true := hb7022.symm.trans (beq_iff_eq.2 c7023)
      refine vm rfl <| va (op_pick rfl rfl) <| vm rfl <| un rfl <| un rfl <| un rfl <| un rfl <| un rfl <| va (op_pick rfl rfl) <| vs rfl <| dt <| VC.ret <| ?_
      obtain rfl := Option.some.inj h
      exact VR.fn (rs := [.tmp 2]) [] [] [] rfl (.tmp rfl .nil) ⟨rfl, rfl, rfl⟩ trivial rfl (by decide)
    obtain rfl : b7022 = false := hb7022.symm.trans (beq_eq_false_iff_ne.2 c7023)
    refine un rfl <| va (op_pick rfl rfl) <| vm rfl <| un rfl <| un rfl <| un rfl <| un rfl <| un rfl <| va (op_pick rfl rfl) <| vs rfl <| dt <| VC.ret <| ?_
    obtain rfl := Option.some.inj h
    exact VR.fn (rs := [.tmp 2]) [] [] [] rfl (.tmp rfl .nil) ⟨rfl, rfl, rfl⟩ trivial rfl (by decide)
  obtain rfl : b6677 = false := hb6677.symm.trans (beq_eq_false_iff_ne.2 c6678)
  refine un rfl <| un rfl <| un rfl <| un rfl <| un rfl <| va (op_pick rfl rfl) <| vm rfl <| un rfl <| un rfl <| un rfl <| un rfl <| un rfl <| va (op_pick rfl rfl) <| vm rfl <| un rfl <| un rfl <| un rfl <| un rfl <| un rfl <| va (op_pick rfl rfl) <| vs rfl <| nx <| vm rfl <|
   VL.letter ((t6572 == 0)) fun b7026 hb7026 => va (op_cmp rfl rfl (congrArg some hb7026)) <| vm rfl <| ?_
  replace h := iC h
  rcases h with ⟨c7027, h⟩ | ⟨c7027, h⟩
  · obtain rfl : b7026 = true := hb7026.symm.trans (beq_iff_eq.2 c7027)
    refine vm rfl <| va (op_pick rfl rfl) <| vm rfl <| un rfl <| un rfl <| un rfl <| un rfl <| un rfl <| va (op_pick rfl rfl) <| vs rfl <| dt <| VC.ret <| ?_
    obtain rfl := Option.some.inj h
    exact VR.fn (rs := [.tmp 2]) [] [] [] rfl (.tmp rfl .nil) ⟨rfl, rfl, rfl⟩ trivial rfl (by decide)
  obtain rfl : b7026 = false := hb7026.symm.trans (beq_eq_false_iff_ne.2 c7027)
  refine un rfl <| va (op_pick rfl rfl) <| vm rfl <| un rfl <| un rfl <| un rfl <| un rfl <| un rfl <| va (op_pick rfl rfl) <| vs rfl <| dt <| VC.ret <| ?_
  obtain rfl := Option.some.inj h
  exact VR.fn (rs := [.tmp 2]) [] [] [] rfl (.tmp rfl .nil) ⟨rfl, rfl, rfl⟩ trivial rfl (by decide)

theorem journal_groups.ok (k : Nat) (l0_0 : List ByteArray) (l0_1 : List S55) (a0_2 : Int) (a0_3 : Int) (a0_4 : Int) (l0_5 : List ByteArray) (l0_6 : List ByteArray) (v0_0 : Value) (v0_1 : Value) (v0_5 : Value) (v0_6 : Value) (r1 : Int) (r2 : Int) (r3 : ByteArray) (h : journal_groups.f k l0_0 l0_1 a0_2 a0_3 a0_4 l0_5 l0_6 = some (r1, r2, r3)) :
    VCalls Try.prog 44 [.agg #[v0_0, v0_1, .int .i64 a0_2, .int .i64 a0_3, .int .i64 a0_4, v0_5, v0_6]] [.row v0_0 1 (l0_0.map enc_str), .row v0_1 2 (l0_1.map enc55), .row v0_5 1 (l0_5.map enc_str), .row v0_6 1 (l0_6.map enc_str)] (fun v G own => v = .agg #[.int .i64 r1, .int .i64 r2, .string r3] ∧ G = [] ∧ own = []) := by
  refine VCalls.intro Try.func44 rfl (len rfl) fun E hC hW hD hU => ?_
  unfold journal_groups.f at h
  refine sr <| sG (o_box rfl (.agg (.f 0 rfl (.f 1 rfl (.c rfl (.c rfl (.c rfl (.f 2 rfl (.f 3 rfl .nil))))))))) fun g7064 => sG (o_alloc Z81 ZL81) fun g7065 => dt <| ?_
  replace h := bd h
  obtain ⟨t7066, hA7067, h⟩ := h
  refine VC.join0 (⟨11, [(2, .pointer (some ⟨g7065, 0, none⟩))], [], [(g7065, 81, [.int .i64 a0_3, .int .i64 a0_4, .string t7066])], []⟩) (True) ?_ ?_
  · refine VC.draw ⟨0, [], [], [(g7064, 27, [v0_0, v0_1, .int .i64 a0_2, .int .i64 a0_3, .int .i64 a0_4, v0_5, v0_6])], []⟩ (by kernel_rfl) rfl (by kernel_rfl) (n := 9) (listed := LB 9 0) <| aw 0 1 rfl (op_fieldAddr FI27_2 rfl (add_at _ _ _)) ⟨trivial, ⟨⟨1, rfl⟩, trivial⟩, trivial⟩ <|
     aw 1 3 rfl (op_load 0 1 rfl rfl TI3 rfl (by decide)) ⟨trivial, ⟨⟨1, rfl⟩, trivial⟩, trivial⟩ <| aw 2 7 rfl (op_fieldAddr FI27_3 rfl (add_at _ _ _)) ⟨trivial, ⟨⟨1, rfl⟩, trivial⟩, trivial⟩ <| aw 3 15 rfl (op_load 0 1 rfl rfl TI3 rfl (by decide)) ⟨trivial, ⟨⟨1, rfl⟩, trivial⟩, trivial⟩ <|
     aw 4 31 rfl (op_fieldAddr FI27_4 rfl (add_at _ _ _)) ⟨trivial, ⟨⟨1, rfl⟩, trivial⟩, trivial⟩ <| aw 5 63 rfl (op_load 0 1 rfl rfl TI22 rfl (by decide)) ⟨trivial, ⟨⟨1, rfl⟩, trivial⟩, trivial⟩ <|
     VA.oneC (i := 6) (listed' := LB 9 127) (by kernel_rfl) rfl (o_call0 FO68 (journal_frames.ok k l0_5 v0_5 t7066 hA7067) rfl rfl (ltn rfl) (All_of (.cons (mG 2 rfl) .nil))) rfl (by kernel_rfl) <| ?_
    rintro _ _ _ ⟨rfl, rfl, rfl⟩
    refine ⟨⟨trivial, ⟨⟨1, rfl⟩, trivial⟩, trivial⟩, ?_⟩
    exact aw 7 255 rfl (op_build (vals := [(0, .int .i64 a0_3), (1, .int .i64 a0_4), (2, .string t7066)]) (vcs := [(0, [.int .i64 a0_3]), (1, [.int .i64 a0_4]), (2, [.string t7066])]) (cells := [.int .i64 a0_3, .int .i64 a0_4, .string t7066]) SI81 rfl (.cons ⟨rfl, (.c rfl)⟩ (.cons ⟨rfl, (.c rfl)⟩ (.cons ⟨rfl, (.c rfl)⟩ .nil))) (by kernel_rfl)) ⟨trivial, ⟨⟨1, rfl⟩, trivial⟩, trivial⟩ <|
     VA.one1 (i := 8) (listed' := LB 9 511) (by kernel_rfl) rfl (o_store 0 3 rfl rfl rfl TI81 (.agg (.of rfl)) rfl (len rfl)) rfl (by kernel_rfl) ⟨trivial, ⟨⟨1, rfl⟩, trivial⟩, trivial⟩ <| VA.done (by kernel_rfl) <| VN.meet0  [0] [] trivial ⟨rfl, ⟨rfl, trivial⟩, trivial, rfl, by decide, rfl, by decide⟩
  intro _
  refine VC.ret <| ?_
  simp only [Option.some.injEq, Prod.mk.injEq] at h
  obtain ⟨rfl, rfl, rfl⟩ := h
  exact VR.fn (rs := [.cell 2 81]) [] [] [] rfl (.cell 0 rfl rfl TI81 (fun h => absurd h (by decide)) .nil) ⟨rfl, rfl, rfl⟩ trivial rfl (by decide)

theorem journal_compacts.ok (k : Nat) (l0_0 : List ByteArray) (l0_1 : List S55) (a0_2 : Int) (a0_3 : Int) (a0_4 : Int) (l0_5 : List ByteArray) (l0_6 : List ByteArray) (a1 : ByteArray) (v0_0 : Value) (v0_1 : Value) (v0_5 : Value) (v0_6 : Value) (r1 : Int) (h : journal_compacts.f k l0_0 l0_1 a0_2 a0_3 a0_4 l0_5 l0_6 a1 = some r1) :
    VCalls Try.prog 46 [.agg #[v0_0, v0_1, .int .i64 a0_2, .int .i64 a0_3, .int .i64 a0_4, v0_5, v0_6], .string a1] [.row v0_0 1 (l0_0.map enc_str), .row v0_1 2 (l0_1.map enc55), .row v0_5 1 (l0_5.map enc_str), .row v0_6 1 (l0_6.map enc_str)] (fun v G own => v = .int .i64 r1 ∧ G = [] ∧ own = []) := by
  refine VCalls.intro Try.func46 rfl (len rfl) fun E hC hW hD hU => ?_
  unfold journal_compacts.f at h
  refine sr <| sG (o_box rfl (.agg (.f 0 rfl (.f 1 rfl (.c rfl (.c rfl (.c rfl (.f 2 rfl (.f 3 rfl .nil))))))))) fun g7079 => vs rfl <| ds <| VC.block <| sr <| va (op_load 0 7 rfl rfl TI27 rfl (fun h => absurd h (by decide))) <| ?_
  replace h := bd h
  obtain ⟨t7101, hA7102, h⟩ := h
  refine sC (o_call0 FO12 (journal_Right.ok k l0_0 l0_1 a0_2 a0_3 a0_4 l0_5 l0_6 v0_0 v0_1 v0_5 v0_6 t7101 hA7102) rfl rfl (ltn rfl) (All_of (.cons (mG 0 rfl) (.cons (mG 1 rfl) (.cons (mG 2 rfl) (.cons (mG 3 rfl) .nil)))))) <| ?_
  rintro _ _ _ ⟨rfl, rfl, rfl⟩
  replace h := iC h
  rcases h with ⟨c7103, h⟩ | ⟨c7103, h⟩
  · obtain rfl := c7103
    refine va (op_not rfl rfl) <| vs rfl <| dt <| cf <| sr <| vm rfl <| va (op_lens Try.underlying9 rfl) <| VL.letter (decide ((a1.size : Int) > 3000)) fun b7104 hb7104 => va (op_cmp rfl rfl (congrArg some hb7104)) <| vs rfl <| dt <| ?_
    replace h := iC h
    rcases h with ⟨c7105, h⟩ | ⟨c7105, h⟩
    · cases lT c7105 hb7104
      refine ct <| sr <| vs rfl <| dt <| VC.ret <| VR.block <| VR.then <| ?_
      obtain rfl := Option.some.inj h
      exact VR.fn (rs := [.tmp 4]) [] [] [] rfl (.tmp rfl .nil) ⟨rfl, rfl, rfl⟩ trivial rfl (by decide)
    cases lF c7105 hb7104
    refine cf <| ?_
    replace h := bd h
    obtain ⟨t7108, hA7109, h⟩ := h
    replace h := bd h
    obtain ⟨t7110, hA7111, h⟩ := h
    refine VC.letter (decide ((t7108.size : Int) > t7110)) fun b7112 hb7112 => ?_
    replace h := iC h
    rcases h with ⟨c7113, h⟩ | ⟨c7113, h⟩
    · cases lT c7113 hb7112
      refine VC.join0 (⟨29, [(4, .int .i64 0), (13, .bool true)], [], [], []⟩) (True) ?_ ?_
      · refine VC.draw ⟨0, [], [.row v0_0 1 (l0_0.map enc_str)], [(g7079, 27, [v0_0, v0_1, .int .i64 a0_2, .int .i64 a0_3, .int .i64 a0_4, v0_5, v0_6])], []⟩ (by kernel_rfl) rfl (by kernel_rfl) (n := 16) (listed := LB 16 0) <| aw 0 1 rfl (mv rfl) ⟨⟨⟨0, rfl⟩, trivial⟩, ⟨⟨0, rfl⟩, trivial⟩, trivial⟩ <|
         aw 4 17 rfl (op_fieldAddr FI27_0 rfl (add_at _ _ _)) ⟨⟨⟨0, rfl⟩, trivial⟩, ⟨⟨0, rfl⟩, trivial⟩, trivial⟩ <| aw 5 49 rfl (op_fieldAddr FI25_0 rfl (add_at _ _ _)) ⟨⟨⟨0, rfl⟩, trivial⟩, ⟨⟨0, rfl⟩, trivial⟩, trivial⟩ <|
         aw 6 113 rfl (op_load 0 1 rfl rfl TI22 rfl (by decide)) ⟨⟨⟨0, rfl⟩, trivial⟩, ⟨⟨0, rfl⟩, trivial⟩, trivial⟩ <| aw 7 241 rfl (op_len (m := l0_0.length) 0 lenm Try.underlying22 rfl rfl) ⟨⟨⟨0, rfl⟩, trivial⟩, ⟨⟨0, rfl⟩, trivial⟩, trivial⟩ <|
         VA.oneG (i := 1) (listed' := LB 16 243) (by kernel_rfl) rfl (o_buildSlice (vals := [(0, .string a1)]) (cells := #[.string a1]) (es := List.map enc_str ([a1] : List ByteArray)) Try.underlying22 TI9 Z9 rfl (by decide) (by decide) (by kernel_rfl) (by kernel_rfl) rfl (flat_map enc_str_ok _)) rfl (by kernel_rfl) (fun _ => ⟨⟨⟨0, rfl⟩, trivial⟩, ⟨⟨0, rfl⟩, trivial⟩, trivial⟩) fun v7107 => VA.oneC (i := 2) (listed' := LB 16 247) (by kernel_rfl) rfl (o_call_b0 FO68 (journal_frames.ok k ([a1] : List ByteArray) v7107 t7108 hA7109) rfl rfl (ltn rfl) (All_of (.cons (.inr (.inl ⟨_, mG 0 rfl, rfl⟩)) .nil)) (by rintro _ _ _ ⟨rfl, rfl, rfl⟩; rfl)) rfl (by kernel_rfl) <|
         ?_
        rintro _ _ _ ⟨rfl, rfl, rfl⟩
        refine ⟨⟨⟨⟨0, rfl⟩, trivial⟩, ⟨⟨0, rfl⟩, trivial⟩, trivial⟩, ?_⟩
        refine aw 3 255 rfl (op_lens Try.underlying9 rfl) ⟨⟨⟨0, rfl⟩, trivial⟩, ⟨⟨0, rfl⟩, trivial⟩, trivial⟩ <| VA.oneC (i := 8) (listed' := LB 16 511) (by kernel_rfl) rfl (o_call0 FO55 (journal_room.ok (l0_0.length : Int) t7110 hA7111) rfl rfl (ltn rfl) (All_of .nil)) rfl (by kernel_rfl) <| ?_
        rintro _ _ _ ⟨rfl, rfl, rfl⟩
        refine ⟨⟨⟨⟨0, rfl⟩, trivial⟩, ⟨⟨0, rfl⟩, trivial⟩, trivial⟩, ?_⟩
        exact aw 9 1023 rfl (op_cmp rfl rfl (congrArg some hb7112)) ⟨⟨⟨0, rfl⟩, trivial⟩, ⟨⟨0, rfl⟩, trivial⟩, trivial⟩ <| aw 10 2047 rfl (mv rfl) ⟨⟨⟨0, rfl⟩, trivial⟩, ⟨⟨0, rfl⟩, trivial⟩, trivial⟩ <| aU 11 4095 rfl rfl ⟨⟨⟨0, rfl⟩, trivial⟩, ⟨⟨0, rfl⟩, trivial⟩, trivial⟩ <|
         aU 12 8191 rfl rfl ⟨⟨⟨0, rfl⟩, trivial⟩, ⟨⟨0, rfl⟩, trivial⟩, trivial⟩ <| aU 13 16383 rfl rfl ⟨⟨⟨0, rfl⟩, trivial⟩, ⟨⟨0, rfl⟩, trivial⟩, trivial⟩ <| aw 14 32767 rfl (op_pick rfl rfl) ⟨⟨⟨0, rfl⟩, trivial⟩, ⟨⟨0, rfl⟩, trivial⟩, trivial⟩ <|
         aw 15 65535 rfl (ag rfl) ⟨⟨⟨0, rfl⟩, trivial⟩, ⟨⟨0, rfl⟩, trivial⟩, trivial⟩ <| VA.done (by kernel_rfl) <| VN.meet0  [] [] trivial ⟨rfl, ⟨rfl, rfl, trivial⟩, trivial, rfl, by decide, rfl, by decide⟩
      intro _
      refine ct <| sr <| vs rfl <| dt <| VC.ret <| VR.block <| VR.then <| ?_
      obtain rfl := Option.some.inj h
      exact VR.fn (rs := [.tmp 4]) [] [] [] rfl (.tmp rfl .nil) ⟨rfl, rfl, rfl⟩ trivial rfl (by decide)
    cases lF c7113 hb7112
    refine VC.letter ((a0_2 == 1099511627776)) fun b7114 hb7114 => VC.join0 (⟨29, [(4, .int .i64 0), (13, .bool b7114)], [], [], []⟩) (True) ?_ ?_
    · refine VC.draw ⟨0, [], [.row v0_0 1 (l0_0.map enc_str)], [(g7079, 27, [v0_0, v0_1, .int .i64 a0_2, .int .i64 a0_3, .int .i64 a0_4, v0_5, v0_6])], []⟩ (by kernel_rfl) rfl (by kernel_rfl) (n := 16) (listed := LB 16 0) <| aw 0 1 rfl (mv rfl) ⟨⟨⟨0, rfl⟩, trivial⟩, ⟨⟨0, rfl⟩, trivial⟩, trivial⟩ <|
       aw 4 17 rfl (op_fieldAddr FI27_0 rfl (add_at _ _ _)) ⟨⟨⟨0, rfl⟩, trivial⟩, ⟨⟨0, rfl⟩, trivial⟩, trivial⟩ <| aw 5 49 rfl (op_fieldAddr FI25_0 rfl (add_at _ _ _)) ⟨⟨⟨0, rfl⟩, trivial⟩, ⟨⟨0, rfl⟩, trivial⟩, trivial⟩ <|
       aw 6 113 rfl (op_load 0 1 rfl rfl TI22 rfl (by decide)) ⟨⟨⟨0, rfl⟩, trivial⟩, ⟨⟨0, rfl⟩, trivial⟩, trivial⟩ <| aw 7 241 rfl (op_len (m := l0_0.length) 0 lenm Try.underlying22 rfl rfl) ⟨⟨⟨0, rfl⟩, trivial⟩, ⟨⟨0, rfl⟩, trivial⟩, trivial⟩ <|
       VA.oneG (i := 1) (listed' := LB 16 243) (by kernel_rfl) rfl (o_buildSlice (vals := [(0, .string a1)]) (cells := #[.string a1]) (es := List.map enc_str ([a1] : List ByteArray)) Try.underlying22 TI9 Z9 rfl (by decide) (by decide) (by kernel_rfl) (by kernel_rfl) rfl (flat_map enc_str_ok _)) rfl (by kernel_rfl) (fun _ => ⟨⟨⟨0, rfl⟩, trivial⟩, ⟨⟨0, rfl⟩, trivial⟩, trivial⟩) fun v7107 => VA.oneC (i := 2) (listed' := LB 16 247) (by kernel_rfl) rfl (o_call_b0 FO68 (journal_frames.ok k ([a1] : List ByteArray) v7107 t7108 hA7109) rfl rfl (ltn rfl) (All_of (.cons (.inr (.inl ⟨_, mG 0 rfl, rfl⟩)) .nil)) (by rintro _ _ _ ⟨rfl, rfl, rfl⟩; rfl)) rfl (by kernel_rfl) <|
       ?_
      rintro _ _ _ ⟨rfl, rfl, rfl⟩
      refine ⟨⟨⟨⟨0, rfl⟩, trivial⟩, ⟨⟨0, rfl⟩, trivial⟩, trivial⟩, ?_⟩
      refine aw 3 255 rfl (op_lens Try.underlying9 rfl) ⟨⟨⟨0, rfl⟩, trivial⟩, ⟨⟨0, rfl⟩, trivial⟩, trivial⟩ <| VA.oneC (i := 8) (listed' := LB 16 511) (by kernel_rfl) rfl (o_call0 FO55 (journal_room.ok (l0_0.length : Int) t7110 hA7111) rfl rfl (ltn rfl) (All_of .nil)) rfl (by kernel_rfl) <| ?_
      rintro _ _ _ ⟨rfl, rfl, rfl⟩
      refine ⟨⟨⟨⟨0, rfl⟩, trivial⟩, ⟨⟨0, rfl⟩, trivial⟩, trivial⟩, ?_⟩
      exact aw 9 1023 rfl (op_cmp rfl rfl (congrArg some hb7112)) ⟨⟨⟨0, rfl⟩, trivial⟩, ⟨⟨0, rfl⟩, trivial⟩, trivial⟩ <| aw 10 2047 rfl (mv rfl) ⟨⟨⟨0, rfl⟩, trivial⟩, ⟨⟨0, rfl⟩, trivial⟩, trivial⟩ <|
       aw 11 4095 rfl (op_fieldAddr FI27_1 rfl (add_at _ _ _)) ⟨⟨⟨0, rfl⟩, trivial⟩, ⟨⟨0, rfl⟩, trivial⟩, trivial⟩ <| aw 12 8191 rfl (op_load 0 1 rfl rfl TI3 rfl (by decide)) ⟨⟨⟨0, rfl⟩, trivial⟩, ⟨⟨0, rfl⟩, trivial⟩, trivial⟩ <|
       aw 13 16383 rfl (op_cmp rfl rfl (congrArg some hb7114)) ⟨⟨⟨0, rfl⟩, trivial⟩, ⟨⟨0, rfl⟩, trivial⟩, trivial⟩ <| aw 14 32767 rfl (op_pick rfl rfl) ⟨⟨⟨0, rfl⟩, trivial⟩, ⟨⟨0, rfl⟩, trivial⟩, trivial⟩ <| aw 15 65535 rfl (ag rfl) ⟨⟨⟨0, rfl⟩, trivial⟩, ⟨⟨0, rfl⟩, trivial⟩, trivial⟩ <|
       VA.done (by kernel_rfl) <| VN.meet0  [] [] trivial ⟨rfl, ⟨rfl, rfl, trivial⟩, trivial, rfl, by decide, rfl, by decide⟩
    intro _
    replace h := iC h
    rcases h with ⟨c7115, h⟩ | ⟨c7115, h⟩
    · obtain rfl : b7114 = true := hb7114.symm.trans (beq_iff_eq.2 c7115)
      refine ct <| sr <| vs rfl <| dt <| VC.ret <| VR.block <| VR.then <| ?_
      obtain rfl := Option.some.inj h
      exact VR.fn (rs := [.tmp 4]) [] [] [] rfl (.tmp rfl .nil) ⟨rfl, rfl, rfl⟩ trivial rfl (by decide)
    obtain rfl : b7114 = false := hb7114.symm.trans (beq_eq_false_iff_ne.2 c7115)
    refine cf <| VC.skip <| VN.block <| tx <| vs rfl <| dt <| VC.ret <| ?_
    obtain rfl := Option.some.inj h
    exact VR.fn (rs := [.tmp 4]) [] [] [] rfl (.tmp rfl .nil) ⟨rfl, rfl, rfl⟩ trivial rfl (by decide)
  obtain rfl := Bool.eq_false_iff.2 c7103
  refine va (op_not rfl rfl) <| vs rfl <| dt <| ct <| sr <| vs rfl <| dt <| VC.ret <| VR.block <| VR.then <| ?_
  obtain rfl := Option.some.inj h
  exact VR.fn (rs := [.tmp 4]) [] [] [] rfl (.tmp rfl .nil) ⟨rfl, rfl, rfl⟩ trivial rfl (by decide)

theorem journal_other.ok (k : Nat) (l0_0 : List ByteArray) (l0_1 : List S55) (a0_2 : Int) (a0_3 : Int) (a0_4 : Int) (l0_5 : List ByteArray) (l0_6 : List ByteArray) (a1 : ByteArray) (v0_0 : Value) (v0_1 : Value) (v0_5 : Value) (v0_6 : Value) (r1 : Int) (r2 : Int) (r3 : ByteArray) (h : journal_other.f k l0_0 l0_1 a0_2 a0_3 a0_4 l0_5 l0_6 a1 = some (r1, r2, r3)) :
    VCalls Try.prog 47 [.agg #[v0_0, v0_1, .int .i64 a0_2, .int .i64 a0_3, .int .i64 a0_4, v0_5, v0_6], .string a1] [.row v0_0 1 (l0_0.map enc_str), .row v0_1 2 (l0_1.map enc55), .row v0_5 1 (l0_5.map enc_str), .row v0_6 1 (l0_6.map enc_str)] (fun v G own => v = .agg #[.int .i64 r1, .int .i64 r2, .string r3] ∧ G = [] ∧ own = []) := by
  refine VCalls.intro Try.func47 rfl (len rfl) fun E hC hW hD hU => ?_
  unfold journal_other.f at h
  refine sr <| sG (o_box rfl (.agg (.f 0 rfl (.f 1 rfl (.c rfl (.c rfl (.c rfl (.f 2 rfl (.f 3 rfl .nil))))))))) fun g7130 => sG (o_alloc Z81 ZL81) fun g7131 => dt <| ?_
  replace h := bd h
  obtain ⟨t7134, hA7135, h⟩ := h
  refine VC.join0 (⟨12, [(4, .pointer (some ⟨g7131, 0, none⟩))], [], [(g7131, 81, [.int .i64 (wrap64 (1 - a0_3)), .int .i64 0, .string t7134])], []⟩) (True) ?_ ?_
  · refine VC.draw ⟨0, [], [], [(g7130, 27, [v0_0, v0_1, .int .i64 a0_2, .int .i64 a0_3, .int .i64 a0_4, v0_5, v0_6])], []⟩ (by kernel_rfl) rfl (by kernel_rfl) (n := 8) (listed := LB 8 0) <| aw 0 1 rfl (op_fieldAddr FI27_2 rfl (add_at _ _ _)) ⟨trivial, ⟨⟨1, rfl⟩, trivial⟩, trivial⟩ <|
     aw 1 3 rfl (op_load 0 1 rfl rfl TI3 rfl (by decide)) ⟨trivial, ⟨⟨1, rfl⟩, trivial⟩, trivial⟩ <| aw 2 7 rfl (op_ari64 rfl rfl rfl) ⟨trivial, ⟨⟨1, rfl⟩, trivial⟩, trivial⟩ <| aw 3 15 rfl (mv rfl) ⟨trivial, ⟨⟨1, rfl⟩, trivial⟩, trivial⟩ <|
     VA.oneG (i := 4) (listed' := LB 8 31) (by kernel_rfl) rfl (o_buildSlice (vals := [(0, .string a1)]) (cells := #[.string a1]) (es := List.map enc_str ([a1] : List ByteArray)) Try.underlying22 TI9 Z9 rfl (by decide) (by decide) (by kernel_rfl) (by kernel_rfl) rfl (flat_map enc_str_ok _)) rfl (by kernel_rfl) (fun _ => ⟨trivial, ⟨⟨1, rfl⟩, trivial⟩, trivial⟩) fun v7133 => VA.oneC (i := 5) (listed' := LB 8 63) (by kernel_rfl) rfl (o_call_b0 FO68 (journal_frames.ok k ([a1] : List ByteArray) v7133 t7134 hA7135) rfl rfl (ltn rfl) (All_of (.cons (.inr (.inl ⟨_, mG 0 rfl, rfl⟩)) .nil)) (by rintro _ _ _ ⟨rfl, rfl, rfl⟩; rfl)) rfl (by kernel_rfl) <|
     ?_
    rintro _ _ _ ⟨rfl, rfl, rfl⟩
    refine ⟨⟨trivial, ⟨⟨1, rfl⟩, trivial⟩, trivial⟩, ?_⟩
    exact aw 6 127 rfl (op_build (vals := [(0, .int .i64 (wrap64 (1 - a0_3))), (1, .int .i64 0), (2, .string t7134)]) (vcs := [(0, [.int .i64 (wrap64 (1 - a0_3))]), (1, [.int .i64 0]), (2, [.string t7134])]) (cells := [.int .i64 (wrap64 (1 - a0_3)), .int .i64 0, .string t7134]) SI81 rfl (.cons ⟨rfl, (.c rfl)⟩ (.cons ⟨rfl, (.c rfl)⟩ (.cons ⟨rfl, (.c rfl)⟩ .nil))) (by kernel_rfl)) ⟨trivial, ⟨⟨1, rfl⟩, trivial⟩, trivial⟩ <|
     VA.one1 (i := 7) (listed' := LB 8 255) (by kernel_rfl) rfl (o_store 0 3 rfl rfl rfl TI81 (.agg (.of rfl)) rfl (len rfl)) rfl (by kernel_rfl) ⟨trivial, ⟨⟨1, rfl⟩, trivial⟩, trivial⟩ <| VA.done (by kernel_rfl) <| VN.meet0  [0] [] trivial ⟨rfl, ⟨rfl, trivial⟩, trivial, rfl, by decide, rfl, by decide⟩
  intro _
  refine VC.ret <| ?_
  simp only [Option.some.injEq, Prod.mk.injEq] at h
  obtain ⟨rfl, rfl, rfl⟩ := h
  exact VR.fn (rs := [.cell 4 81]) [] [] [] rfl (.cell 0 rfl rfl TI81 (fun h => absurd h (by decide)) .nil) ⟨rfl, rfl, rfl⟩ trivial rfl (by decide)

theorem slices_Backward_api_Write_api_Write.ok (l0 : List S55) (v0 : Value) (r1 : List S55) (h : slices_Backward_api_Write_api_Write.f l0 = some r1) :
    VCalls Try.prog 98 [v0] [.row v0 2 (l0.map enc55)] (fun v G own => ∃ w0 : Value, ∃ p0 : Nat, v = .func (.func 101) #[] #[.pointer (some ⟨p0, 0, none⟩)] ∧ G = [.row w0 2 (r1.map enc55), .at_ ⟨p0, 0, none⟩ [w0]] ∧ own = []) := by
  refine VCalls.intro Try.func98 rfl (len rfl) fun E hC hW hD hU => ?_
  unfold slices_Backward_api_Write_api_Write.f at h
  refine sr <| sG (o_box rfl (.f 0 rfl)) fun g7196 => vs rfl <| nx <| va (op_makeFunc (vals := [.pointer (some ⟨g7196, 0, none⟩)]) rfl) <| vs rfl <| dt <| VC.ret <| ?_
  obtain rfl := Option.some.inj h
  exact VR.freeze' 0 rfl <| VR.fn (rs := [.tmp 2]) [.row v0 2 (l0.map enc55), .at_ ⟨g7196, 0, none⟩ [v0]] [] [] rfl (.tmp rfl .nil) ⟨v0, g7196, rfl, rfl, rfl⟩ ⟨⟨1, rfl⟩, ⟨0, rfl⟩, trivial⟩ rfl (by decide)

theorem disk_Get.ok (k : Nat) (l0_0 : List ByteArray) (l0_1 : List S55) (a1 : Int) (v0_0 : Value) (v0_1 : Value) (r1 : ByteArray) (r2 : Int) (h : disk_Get.f k l0_0 l0_1 a1 = some (r1, r2)) :
    VCalls Try.prog 86 [.agg #[v0_0, v0_1], .int .i64 a1] [.row v0_0 1 (l0_0.map enc_str), .row v0_1 2 (l0_1.map enc55)] (fun v G own => v = .tuple #[.string r1, .int .i64 r2] ∧ G = [] ∧ own = []) := by
  refine VCalls.introM Try.func86 rfl (len rfl) fun E hC hW hD hU => ?_
  unfold disk_Get.f at h
  refine sr <| sG (o_box rfl (.agg (.f 0 rfl (.f 1 rfl .nil)))) fun g7163 => sG (o_box rfl (.c rfl)) fun g7164 => sG (o_alloc Z9 ZL9) fun g7165 => sG (o_alloc Z30 ZL30) fun g7166 => ds <| VC.block <| sr <| va (op_load 3 2 rfl rfl TI25 rfl (fun h => absurd h (by decide))) <| ?_
  replace h := bd h
  obtain ⟨t7183, hA7184, h⟩ := h
  refine sC (o_call0 FO23 (disk_Right.ok k l0_0 l0_1 v0_0 v0_1 t7183 hA7184) rfl rfl (ltn rfl) (All_of (.cons (mG 0 rfl) (.cons (mG 1 rfl) .nil)))) <| ?_
  rintro _ _ _ ⟨rfl, rfl, rfl⟩
  replace h := iC h
  rcases h with ⟨c7185, h⟩ | ⟨c7185, h⟩
  · obtain rfl := c7185
    refine va (op_not rfl rfl) <| vs rfl <| dt <| cf <| sr <| va (op_load 2 1 rfl rfl TI3 rfl (by decide)) <| VL.letter (decide (a1 < 0)) fun b7189 hb7189 => va (op_cmp rfl rfl (congrArg some hb7189)) <| vm rfl <| ?_
    replace h := iC h
    rcases h with ⟨c7190, h⟩ | ⟨c7190, h⟩
    · cases lT c7190 hb7189
      refine un rfl <| un rfl <| un rfl <| un rfl <| un rfl <| va (op_pick rfl rfl) <| vs rfl <| dt <| ct <| sr <| s1 (o_store 1 1 rfl rfl rfl TI9 (.c rfl) rfl (len rfl)) <| s1 (o_store 0 1 rfl rfl rfl TI30 (.c rfl) rfl (len rfl)) <| dt <| VC.ret <| VR.block <| VR.then <| ?_
      simp only [Option.some.injEq, Prod.mk.injEq] at h
      obtain ⟨rfl, rfl⟩ := h
      exact VR.m0 <| VR.fn (rs := [.cell 4 9, .cell 5 30]) [] [] [] rfl (.cell 1 rfl rfl TI9 (fun _ => rfl) (.cell 0 rfl rfl TI30 (fun _ => rfl) .nil)) ⟨rfl, rfl, rfl⟩ trivial rfl (by decide)
    cases lF c7190 hb7189
    refine va (op_load 2 1 rfl rfl TI3 rfl (by decide)) <| va (op_fieldAddr FI25_0 rfl (add_at _ _ _)) <| va (op_load 3 1 rfl rfl TI22 rfl (by decide)) <| va (op_len (m := l0_0.length) 0 lenm Try.underlying22 rfl rfl) <|
     VL.letter (decide (a1 ≥ (l0_0.length : Int))) fun b7191 hb7191 => va (op_cmp rfl rfl (congrArg some hb7191)) <| va (op_pick rfl rfl) <| vs rfl <| dt <| ?_
    replace h := iC h
    rcases h with ⟨c7192, h⟩ | ⟨c7192, h⟩
    · cases lT c7192 hb7191
      refine ct <| sr <| s1 (o_store 1 1 rfl rfl rfl TI9 (.c rfl) rfl (len rfl)) <| s1 (o_store 0 1 rfl rfl rfl TI30 (.c rfl) rfl (len rfl)) <| dt <| VC.ret <| VR.block <| VR.then <| ?_
      simp only [Option.some.injEq, Prod.mk.injEq] at h
      obtain ⟨rfl, rfl⟩ := h
      exact VR.m0 <| VR.fn (rs := [.cell 4 9, .cell 5 30]) [] [] [] rfl (.cell 1 rfl rfl TI9 (fun _ => rfl) (.cell 0 rfl rfl TI30 (fun _ => rfl) .nil)) ⟨rfl, rfl, rfl⟩ trivial rfl (by decide)
    cases lF c7192 hb7191
    refine cf <| VC.skip <| VN.block <| ts <| sr <| va (op_fieldAddr FI25_1 rfl (add_at _ _ _)) <| va (op_load 3 1 rfl rfl TI23 rfl (by decide)) <| ?_
    replace h := bd h
    obtain ⟨r7197, hA7198, h⟩ := h
    refine sC (o_call0 FO98 (slices_Backward_api_Write_api_Write.ok l0_1 v0_1 r7197 hA7198) rfl rfl (ltn rfl) (All_of (.cons (mG 1 rfl) .nil))) <| ?_
    rintro _ _ _ ⟨v7200, g7201, rfl, rfl, rfl⟩
    refine dt <| VC.block <| VC.rangeFunc (ps := [25, 26]) (caps := [.pointer (some ⟨g7201, 0, none⟩)]) Try.func101 FO101 rfl rfl (len rfl) fun D7202 l7203 L7204 hLl7203 hDD7202 => sr <|
     va (op_load_at (ad := ⟨g7201, 0, none⟩) 3 0 1 (by first | rfl | exact congrArg (fun a => some (Value.pointer (some a))) (add_at _ 0 _).symm) rfl TI23 rfl (by decide)) <| va (op_len (m := r7197.length) 2 lenm Try.underlying23 rfl rfl) <| va (op_ari64 rfl rfl rfl) <| vs rfl <| dt <| VC.block <|
     VC.loop1 (fun (i7237 : Int) => ⟨19, [(0, (.func (.yield l7203) #[] #[])), (1, .pointer (some ⟨g7201, 0, none⟩)), (3, .int .i64 i7237)], [.loop l7203 L7204 .ready none, .dfr D7202, .at_ ⟨g7201, 0, none⟩ [v7200], .row v0_0 1 (l0_0.map enc_str), .row v0_1 2 (l0_1.map enc55), .row v7200 2 (r7197.map enc55)], [(g7166, 30, [.int .i64 0]), (g7165, 9, [.string (⟨#[]⟩ : ByteArray)]), (g7164, 3, [.int .i64 a1]), (g7163, 25, [v0_0, v0_1])], []⟩) (fun (ml0 : Nat) (i7237 : Int) => disk_Get.l0 k a1 l0_0 r7197 ml0 i7237 = some (r1, r2)) k (wrap64 ((r7197.length : Int) - 1)) [0, 1, 2, 3] [] h ⟨rfl, ⟨rfl, rfl, rfl, trivial⟩, ⟨⟨0, rfl⟩, ⟨1, rfl⟩, ⟨3, rfl⟩, ⟨4, rfl⟩, ⟨5, rfl⟩, ⟨2, rfl⟩, trivial⟩, rfl, by decide, rfl, by decide⟩ (by intros; simp [disk_Get.l0]) <|
     ?_
    clear h
    intro ml0 ihl0 i7237 h
    simp only [disk_Get.l0] at h
    refine sq <| sr <| vm rfl <| VL.letter (decide (i7237 ≥ 0)) fun b7276 hb7276 => va (op_cmp rfl rfl (congrArg some hb7276)) <| dt <| ?_
    replace h := iC h
    rcases h with ⟨c7277, h⟩ | ⟨c7277, h⟩
    · cases lT c7277 hb7276
      refine ct <| sk <| sq <| VC.block <| sr <| vm rfl <| vm rfl <| va (op_load_at (ad := ⟨g7201, 0, none⟩) 2 0 1 (by first | rfl | exact congrArg (fun a => some (Value.pointer (some a))) (add_at _ 0 _).symm) rfl TI23 rfl (by decide)) <| vm rfl <| ?_
      replace h := iN h
      obtain ⟨c7299, h⟩ := h
      replace h := bd h
      obtain ⟨x7300, hx7300, h⟩ := h
      refine VL.open (m := r7197.length) 5 lenm rfl (pos_get hx7300) <| ?_
      rintro ad7301 n7302 rfl
      refine va (op_indexAddr Try.underlying23 TI56 rfl rfl c7299 (lt_get c7299 hx7300) rfl) <| va (op_load_row (sz := 2) (o := 0) 5 i7237.toNat 2 rfl rfl (get_map hx7300) TI56 rfl (fun h => absurd h (by decide))) <|
       VL.yield (vals := [.int .i64 i7237, .agg #[.int .i64 x7300.f0, .string x7300.f1]]) hLl7203 rfl rfl rfl rfl (ltn rfl) 0 rfl rfl <| rg <| sG (o_alloc Z56 ZL56) fun g7303 => s1 (o_store 0 2 rfl rfl rfl TI56 (.agg (.of rfl)) rfl (len rfl)) <| dn <| VN.begin 0 hLl7203.base rfl rfl rfl <| VC.block <|
       sr <| va (op_fieldAddr FI56_0 rfl (add_at _ _ _)) <| va (op_load 0 1 rfl rfl TI3 rfl (by decide)) <| va (op_load 3 1 rfl rfl TI3 rfl (by decide)) <| VL.letter ((x7300.f0 == a1)) fun b7304 hb7304 => va (op_cmp rfl rfl (congrArg some hb7304)) <| dt <| ?_
      replace h := iC h
      rcases h with ⟨c7305, h⟩ | ⟨c7305, h⟩
      · obtain rfl : b7304 = true := hb7304.symm.trans (beq_iff_eq.2 c7305)
        refine ct <| sr <| va (op_fieldAddr FI56_1 rfl (add_at _ _ _)) <| va (op_load 0 1 rfl rfl TI9 rfl (by decide)) <| s1 (o_store 2 1 rfl rfl rfl TI9 (.c rfl) rfl (len rfl)) <| s1 (o_store 1 1 rfl rfl rfl TI30 (.c rfl) rfl (len rfl)) <| dt <| VC.ret <| VR.block <|
         VR.endRound 0 hLl7203.base rfl rfl rfl <| va (op_not rfl rfl) <| dt <| ct <| VC.ret <| VR.block <| VR.then <| VR.then <| VR.block <| VR.endRFj 0 rfl rfl rfl rfl <| VC.ret <| VR.block <| VR.then <| ?_
        simp only [Option.some.injEq, Prod.mk.injEq] at h
        obtain ⟨rfl, rfl⟩ := h
        exact VR.mark 0 hDD7202 rfl rfl rfl <| VR.fn (rs := [.cell 4 9, .cell 5 30]) [] [] [] rfl (.cell 2 rfl rfl TI9 (fun _ => rfl) (.cell 1 rfl rfl TI30 (fun _ => rfl) .nil)) ⟨rfl, rfl, rfl⟩ trivial rfl (by decide)
      obtain rfl : b7304 = false := hb7304.symm.trans (beq_eq_false_iff_ne.2 c7305)
      refine cf <| VC.skip <| VN.block <| VN.endRound 0 hLl7203.base rfl rfl rfl <| va (op_not rfl rfl) <| dt <| cf <| VC.skip <| VN.block <| tr <| vm rfl <| va (op_ari64 rfl rfl rfl) <| vs rfl <| dn <|
       VN.again [1, 2, 3, 4] [] (ihl0 (wrap64 (i7237 - 1)) h) ⟨rfl, ⟨rfl, rfl, rfl, trivial⟩, ⟨⟨0, rfl⟩, ⟨1, rfl⟩, ⟨2, rfl⟩, ⟨3, rfl⟩, ⟨4, rfl⟩, ⟨5, rfl⟩, trivial⟩, rfl, by decide, rfl, by decide⟩
    cases lF c7277 hb7276
    refine cf <| VC.exit <| VX.then <| VX.then <| VX.hit <| VN.endRF 0 rfl rfl rfl rfl <| VN.block <| tx <| va (op_fieldAddr FI25_0 rfl (add_at _ _ _)) <| va (op_load 3 1 rfl rfl TI22 rfl (by decide)) <| va (op_load 2 1 rfl rfl TI3 rfl (by decide)) <| ?_
    replace h := iN h
    obtain ⟨c7306, h⟩ := h
    replace h := bd h
    obtain ⟨x7307, hx7307, h⟩ := h
    refine VL.open (m := l0_0.length) 2 lenm rfl (pos_get hx7307) <| ?_
    rintro ad7308 n7309 rfl
    refine va (op_indexAddr Try.underlying22 TI9 rfl rfl c7306 (lt_get c7306 hx7307) rfl) <| va (op_load_row (sz := 1) (o := 0) 2 a1.toNat 1 rfl rfl (get_map hx7307) TI9 rfl (by decide)) <| s1 (o_store 1 1 rfl rfl rfl TI9 (.c rfl) rfl (len rfl)) <|
     s1 (o_store 0 1 rfl rfl rfl TI30 (.c rfl) rfl (len rfl)) <| dt <| VC.ret <| ?_
    simp only [Option.some.injEq, Prod.mk.injEq] at h
    obtain ⟨rfl, rfl⟩ := h
    exact VR.mark 0 hDD7202 rfl rfl rfl <| VR.fn (rs := [.cell 4 9, .cell 5 30]) [] [] [] rfl (.cell 1 rfl rfl TI9 (fun _ => rfl) (.cell 0 rfl rfl TI30 (fun _ => rfl) .nil)) ⟨rfl, rfl, rfl⟩ trivial rfl (by decide)
  obtain rfl := Bool.eq_false_iff.2 c7185
  refine va (op_not rfl rfl) <| vs rfl <| dt <| ct <| sr <| s1 (o_store 1 1 rfl rfl rfl TI9 (.c rfl) rfl (len rfl)) <| s1 (o_store 0 1 rfl rfl rfl TI30 (.c rfl) rfl (len rfl)) <| dt <| VC.ret <| VR.block <| VR.then <| ?_
  simp only [Option.some.injEq, Prod.mk.injEq] at h
  obtain ⟨rfl, rfl⟩ := h
  exact VR.m0 <| VR.fn (rs := [.cell 4 9, .cell 5 30]) [] [] [] rfl (.cell 1 rfl rfl TI9 (fun _ => rfl) (.cell 0 rfl rfl TI30 (fun _ => rfl) .nil)) ⟨rfl, rfl, rfl⟩ trivial rfl (by decide)

end Go.Proofs.Ytipeglbeongfmaa.PJournalKeeps
