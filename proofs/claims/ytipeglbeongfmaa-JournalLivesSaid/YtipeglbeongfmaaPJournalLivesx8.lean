/- Written by a program of this repo: what the program's functions do, each as a Lean function, shown of the loaded code; or a statement's row over that; no condition of its own. -/
import Derived.Test.YtipeglbeongfmaaPJournalLivesx7
namespace Go.Proofs.Ytipeglbeongfmaa.PJournalLives
open Go Go.RowKit Go.Proofs.YtipeglbeongfmaaV
set_option linter.unusedVariables false
set_option linter.unusedSimpArgs false
set_option maxHeartbeats 4000000
set_option maxRecDepth 100000

theorem journal_Right.ok (k : Nat) (l0_0 : List ByteArray) (l0_1 : List S55) (a0_2 : Int) (a0_3 : Int) (a0_4 : Int) (l0_5 : List ByteArray) (l0_6 : List ByteArray) (v0_0 : Value) (v0_1 : Value) (v0_5 : Value) (v0_6 : Value) (r1 : Bool) (h : journal_Right.f k l0_0 l0_1 a0_2 a0_3 a0_4 l0_5 l0_6 = some r1) :
    VCalls Try.prog 12 [.agg #[v0_0, v0_1, .int .i64 a0_2, .int .i64 a0_3, .int .i64 a0_4, v0_5, v0_6]] [.row v0_0 1 (l0_0.map enc_str), .row v0_1 2 (l0_1.map enc55), .row v0_5 1 (l0_5.map enc_str), .row v0_6 1 (l0_6.map enc_str)] (fun v G own => v = .bool r1 ∧ G = [] ∧ own = []) := by
  refine VCalls.intro Try.func12 rfl (len rfl) fun E hC hW hD hU => ?_
  unfold journal_Right.f at h
  refine sr <| sG (o_box rfl (.agg (.f 0 rfl (.f 1 rfl (.c rfl (.c rfl (.c rfl (.f 2 rfl (.f 3 rfl .nil))))))))) fun g6948 => vs rfl <| nx <| va (op_fieldAddr FI27_0 rfl (add_at _ _ _)) <| va (op_load 0 2 rfl rfl TI25 rfl (fun h => absurd h (by decide))) <| ?_
  replace h := bd h
  obtain ⟨⟨r6949, r6950, t6951, t6952, t6953, r6954, r6955, t6956⟩, hA6957, h⟩ := h
  dsimp only at h
  refine sC (o_call0 FO9 (journal_Open.ok k l0_0 l0_1 v0_0 v0_1 r6949 r6950 t6951 t6952 t6953 r6954 r6955 t6956 hA6957) rfl rfl (ltn rfl) (All_of (.cons (mG 0 rfl) (.cons (mG 1 rfl) .nil)))) <| ?_
  rintro _ _ _ ⟨v6959, v6961, v6963, v6965, rfl, rfl, rfl⟩
  refine vm rfl <| va (op_extract rfl rfl) <| va (op_extract rfl rfl) <| sG (o_alloc Z27 ZL27) fun g6966 => s1 (o_store 0 7 rfl rfl rfl TI27 (.agg (.f 0 rfl (.f 1 rfl (.c rfl (.c rfl (.c rfl (.r 0 rfl (.r 1 rfl .nil)))))))) rfl (len rfl)) <| vs rfl <| nx <|
   va (op_fieldAddr FI27_1 rfl (add_at _ _ _)) <| va (op_load 0 1 rfl rfl TI3 rfl (by decide)) <| va (op_fieldAddr FI27_1 rfl (add_at _ _ _)) <| va (op_load 1 1 rfl rfl TI3 rfl (by decide)) <| VL.letter ((t6951 == a0_2)) fun b7061 hb7061 => va (op_cmp rfl rfl (congrArg some hb7061)) <| vm rfl <| ?_
  replace h := iC h
  rcases h with ⟨c7062, h⟩ | ⟨c7062, h⟩
  · obtain rfl : b7061 = true := hb7061.symm.trans (beq_iff_eq.2 c7062)
    refine va (op_fieldAddr FI27_2 rfl (add_at _ _ _)) <| va (op_load 0 1 rfl rfl TI3 rfl (by decide)) <| va (op_fieldAddr FI27_2 rfl (add_at _ _ _)) <| va (op_load 1 1 rfl rfl TI3 rfl (by decide)) <| VL.letter ((t6952 == a0_3)) fun b7063 hb7063 => va (op_cmp rfl rfl (congrArg some hb7063)) <|
     va (op_pick rfl rfl) <| vm rfl <| ?_
    replace h := iC h
    rcases h with ⟨c7064, h⟩ | ⟨c7064, h⟩
    · obtain rfl : b7063 = true := hb7063.symm.trans (beq_iff_eq.2 c7064)
      refine va (op_fieldAddr FI27_3 rfl (add_at _ _ _)) <| va (op_load 0 1 rfl rfl TI3 rfl (by decide)) <| va (op_fieldAddr FI27_3 rfl (add_at _ _ _)) <| va (op_load 1 1 rfl rfl TI3 rfl (by decide)) <| VL.letter ((t6953 == a0_4)) fun b7065 hb7065 => va (op_cmp rfl rfl (congrArg some hb7065)) <|
       va (op_pick rfl rfl) <| vm rfl <| ?_
      replace h := iC h
      rcases h with ⟨c7066, h⟩ | ⟨c7066, h⟩
      · obtain rfl : b7065 = true := hb7065.symm.trans (beq_iff_eq.2 c7066)
        refine va (op_fieldAddr FI27_5 rfl (add_at _ _ _)) <| va (op_load 0 1 rfl rfl TI22 rfl (by decide)) <| va (op_fieldAddr FI27_5 rfl (add_at _ _ _)) <| va (op_load 1 1 rfl rfl TI22 rfl (by decide)) <| ?_
        replace h := bd h
        obtain ⟨t7067, hA7068, h⟩ := h
        refine sC (o_call_b0 FO34 (slices_Equal_string_string.ok k r6955 l0_6 v6965 v0_6 t7067 hA7068) rfl rfl (ltn rfl) (All_of (.cons (.inr (.inl ⟨_, mG 1 rfl, rfl⟩)) (.cons (.inl (mG 5 rfl)) .nil))) (by rintro _ _ _ ⟨rfl, rfl, rfl⟩; rfl)) <| ?_
        rintro _ _ _ ⟨rfl, rfl, rfl⟩
        refine va (op_pick rfl rfl) <| vs rfl <| nx <| vm rfl <| VL.letter ((t6956 == 0)) fun b7394 hb7394 => va (op_cmp rfl rfl (congrArg some hb7394)) <| vm rfl <| ?_
        replace h := iC h
        rcases h with ⟨c7395, h⟩ | ⟨c7395, h⟩
        · obtain rfl : b7394 = true := hb7394.symm.trans (beq_iff_eq.2 c7395)
          refine vm rfl <| va (op_pick rfl rfl) <| vm rfl <| ?_
          replace h := iC h
          rcases h with ⟨c7396, h⟩ | ⟨c7396, h⟩
          · obtain rfl := c7396
            refine va (op_load 1 7 rfl rfl TI27 rfl (fun h => absurd h (by decide))) <| va (op_fieldAddr FI27_4 rfl (add_at _ _ _)) <| va (op_load 1 1 rfl rfl TI22 rfl (by decide)) <| ?_
            replace h := bd h
            obtain ⟨t7397, hA7398, h⟩ := h
            refine sC (o_call0 FO35 (journal_waits.ok k l0_0 l0_1 a0_2 a0_3 a0_4 l0_5 l0_6 l0_5 v0_0 v0_1 v0_5 v0_6 v0_5 t7397 hA7398) rfl rfl (ltn rfl) (All_of (.cons (mG 2 rfl) (.cons (mG 3 rfl) (.cons (mG 4 rfl) (.cons (mG 5 rfl) (.cons (mG 4 rfl) .nil))))))) <| ?_
            rintro _ _ _ ⟨rfl, rfl, rfl⟩
            refine VL.letter ((t7397 == 0)) fun b7399 hb7399 => va (op_cmp rfl rfl (congrArg some hb7399)) <| va (op_pick rfl rfl) <| vs rfl <| dt <| VC.ret <| ?_
            obtain rfl := Option.some.inj h
            subst hb7399
            exact VR.fn (rs := [.tmp 2]) [] [] [] rfl (.tmp rfl .nil) ⟨rfl, rfl, rfl⟩ trivial rfl (by decide)
          obtain rfl := Bool.eq_false_iff.2 c7396
          refine un rfl <| un rfl <| un rfl <| un rfl <| un rfl <| va (op_pick rfl rfl) <| vs rfl <| dt <| VC.ret <| ?_
          obtain rfl := Option.some.inj h
          exact VR.fn (rs := [.tmp 2]) [] [] [] rfl (.tmp rfl .nil) ⟨rfl, rfl, rfl⟩ trivial rfl (by decide)
        obtain rfl : b7394 = false := hb7394.symm.trans (beq_eq_false_iff_ne.2 c7395)
        refine un rfl <| va (op_pick rfl rfl) <| vm rfl <| un rfl <| un rfl <| un rfl <| un rfl <| un rfl <| va (op_pick rfl rfl) <| vs rfl <| dt <| VC.ret <| ?_
        obtain rfl := Option.some.inj h
        exact VR.fn (rs := [.tmp 2]) [] [] [] rfl (.tmp rfl .nil) ⟨rfl, rfl, rfl⟩ trivial rfl (by decide)
      obtain rfl : b7065 = false := hb7065.symm.trans (beq_eq_false_iff_ne.2 c7066)
      refine un rfl <| un rfl <| un rfl <| un rfl <| un rfl <| va (op_pick rfl rfl) <| vs rfl <| nx <| vm rfl <| VL.letter ((t6956 == 0)) fun b7402 hb7402 => va (op_cmp rfl rfl (congrArg some hb7402)) <| vm rfl <| ?_
      replace h := iC h
      rcases h with ⟨c7403, h⟩ | ⟨c7403, h⟩
      · obtain rfl : b7402 = true := hb7402.symm.trans (beq_iff_eq.2 c7403)
        refine vm rfl <| va (op_pick rfl rfl) <| vm rfl <| un rfl <| un rfl <| un rfl <| un rfl <| un rfl <| va (op_pick rfl rfl) <| vs rfl <| dt <| VC.ret <| ?_
        obtain rfl := Option.some.inj h
        exact VR.fn (rs := [.tmp 2]) [] [] [] rfl (.tmp rfl .nil) ⟨rfl, rfl, rfl⟩ trivial rfl (by decide)
      obtain rfl : b7402 = false := hb7402.symm.trans (beq_eq_false_iff_ne.2 c7403)
      refine un rfl <| va (op_pick rfl rfl) <| vm rfl <| un rfl <| un rfl <| un rfl <| un rfl <| un rfl <| va (op_pick rfl rfl) <| vs rfl <| dt <| VC.ret <| ?_
      obtain rfl := Option.some.inj h
      exact VR.fn (rs := [.tmp 2]) [] [] [] rfl (.tmp rfl .nil) ⟨rfl, rfl, rfl⟩ trivial rfl (by decide)
    obtain rfl : b7063 = false := hb7063.symm.trans (beq_eq_false_iff_ne.2 c7064)
    refine un rfl <| un rfl <| un rfl <| un rfl <| un rfl <| va (op_pick rfl rfl) <| vm rfl <| un rfl <| un rfl <| un rfl <| un rfl <| un rfl <| va (op_pick rfl rfl) <| vs rfl <| nx <| vm rfl <| VL.letter ((t6956 == 0)) fun b7406 hb7406 => va (op_cmp rfl rfl (congrArg some hb7406)) <| vm rfl <| ?_
    replace h := iC h
    rcases h with ⟨c7407, h⟩ | ⟨c7407, h⟩
    · obtain rfl : b7406 = true := hb7406.symm.trans (beq_iff_eq.2 c7407)
      refine vm rfl <| va (op_pick rfl rfl) <| vm rfl <| un rfl <| un rfl <| un rfl <| un rfl <| un rfl <| va (op_pick rfl rfl) <| vs rfl <| dt <| VC.ret <| ?_
      obtain rfl := Option.some.inj h
      exact VR.fn (rs := [.tmp 2]) [] [] [] rfl (.tmp rfl .nil) ⟨rfl, rfl, rfl⟩ trivial rfl (by decide)
    obtain rfl : b7406 = false := hb7406.symm.trans (beq_eq_false_iff_ne.2 c7407)
    refine un rfl <| va (op_pick rfl rfl) <| vm rfl <| un rfl <| un rfl <| un rfl <| un rfl <| un rfl <| va (op_pick rfl rfl) <| vs rfl <| dt <| VC.ret <| ?_
    obtain rfl := Option.some.inj h
    exact VR.fn (rs := [.tmp 2]) [] [] [] rfl (.tmp rfl .nil) ⟨rfl, rfl, rfl⟩ trivial rfl (by decide)
  obtain rfl : b7061 = false := hb7061.symm.trans (beq_eq_false_iff_ne.2 c7062)
  refine un rfl <| un rfl <| un rfl <| un rfl <| un rfl <| va (op_pick rfl rfl) <| vm rfl <| un rfl <| un rfl <| un rfl <| un rfl <| un rfl <| va (op_pick rfl rfl) <| vm rfl <| un rfl <| un rfl <| un rfl <| un rfl <| un rfl <| va (op_pick rfl rfl) <| vs rfl <| nx <| vm rfl <|
   VL.letter ((t6956 == 0)) fun b7410 hb7410 => va (op_cmp rfl rfl (congrArg some hb7410)) <| vm rfl <| ?_
  replace h := iC h
  rcases h with ⟨c7411, h⟩ | ⟨c7411, h⟩
  · obtain rfl : b7410 = true := hb7410.symm.trans (beq_iff_eq.2 c7411)
    refine vm rfl <| va (op_pick rfl rfl) <| vm rfl <| un rfl <| un rfl <| un rfl <| un rfl <| un rfl <| va (op_pick rfl rfl) <| vs rfl <| dt <| VC.ret <| ?_
    obtain rfl := Option.some.inj h
    exact VR.fn (rs := [.tmp 2]) [] [] [] rfl (.tmp rfl .nil) ⟨rfl, rfl, rfl⟩ trivial rfl (by decide)
  obtain rfl : b7410 = false := hb7410.symm.trans (beq_eq_false_iff_ne.2 c7411)
  refine un rfl <| va (op_pick rfl rfl) <| vm rfl <| un rfl <| un rfl <| un rfl <| un rfl <| un rfl <| va (op_pick rfl rfl) <| vs rfl <| dt <| VC.ret <| ?_
  obtain rfl := Option.some.inj h
  exact VR.fn (rs := [.tmp 2]) [] [] [] rfl (.tmp rfl .nil) ⟨rfl, rfl, rfl⟩ trivial rfl (by decide)

theorem slices_Clip_string_string.ok (l0 : List ByteArray) (v0 : Value) (r1 : List ByteArray) (h : slices_Clip_string_string.f l0 = some r1) :
    VCalls Try.prog 43 [v0] [.row v0 1 (l0.map enc_str)] (fun v G own => ∃ A : Option Addr, v = .slice A r1.length r1.length ∧ G = [.row (.slice A r1.length r1.length) 1 (r1.map enc_str)] ∧ own = []) := by
  obtain rfl := Option.some.inj h
  clear h
  refine VCalls.intro Try.func43 rfl (len rfl) fun E hC hW hD hU => ?_
  refine VC.seq (VC.region ?_)
  refine VL.va (op_assign rfl (ltn rfl)) rfl ?_
  refine VL.done (VN.then ?_)
  refine VC.seq (VC.region ?_)
  refine VL.va (op_move rfl (ltn rfl)) rfl ?_
  refine VL.va (op_move rfl (ltn rfl)) rfl ?_
  refine VL.va (op_len (m := l0.length) 0 lenm Try.underlying22 rfl rfl (ltn rfl)) rfl ?_
  refine VL.va (op_move rfl (ltn rfl)) rfl ?_
  refine VL.va (op_len (m := l0.length) 0 lenm Try.underlying22 rfl rfl (ltn rfl)) rfl ?_
  refine VL.sG (o_clip (m := l0.length) 0 lenm Try.underlying22 TI9 rfl rfl rfl rfl (ltn rfl)) rfl ?_
  intro A
  refine VL.va (op_assign rfl (ltn rfl)) rfl ?_
  refine VL.done (VN.then ?_)
  refine VC.ret ?_
  exact VR.fn (rs := [.tmp 2]) [.row (.slice A l0.length l0.length) 1 (l0.map enc_str)] [] [] rfl (.tmp rfl .nil) ⟨_, rfl, rfl, rfl⟩ ⟨⟨0, rfl⟩, trivial⟩ rfl (by decide)

theorem journal_Append.ok (k : Nat) (l0_0 : List ByteArray) (l0_1 : List S55) (a0_2 : Int) (a0_3 : Int) (a0_4 : Int) (l0_5 : List ByteArray) (l0_6 : List ByteArray) (a1 : ByteArray) (v0_0 : Value) (v0_1 : Value) (v0_5 : Value) (v0_6 : Value) (r1 : List ByteArray) (r2 : List S55) (r3 : Int) (r4 : Int) (r5 : Int) (r6 : List ByteArray) (r7 : List ByteArray) (r8 : Int) (h : journal_Append.f k l0_0 l0_1 a0_2 a0_3 a0_4 l0_5 l0_6 a1 = some (r1, r2, r3, r4, r5, r6, r7, r8)) :
    VCalls Try.prog 18 [.agg #[v0_0, v0_1, .int .i64 a0_2, .int .i64 a0_3, .int .i64 a0_4, v0_5, v0_6], .string a1] [.row v0_0 1 (l0_0.map enc_str), .row v0_1 2 (l0_1.map enc55), .row v0_5 1 (l0_5.map enc_str), .row v0_6 1 (l0_6.map enc_str)] (fun v G own => ∃ w0 w1 w5 w6 : Value, v = .tuple #[.agg #[w0, w1, .int .i64 r3, .int .i64 r4, .int .i64 r5, w5, w6], .int .i64 r8] ∧ G = [.row w0 1 (r1.map enc_str), .row w1 2 (r2.map enc55), .row w5 1 (r6.map enc_str), .row w6 1 (r7.map enc_str)] ∧ own = []) := by
  refine VCalls.intro Try.func18 rfl (len rfl) fun E hC hW hD hU => ?_
  unfold journal_Append.f at h
  refine sr <| sG (o_box rfl (.agg (.f 0 rfl (.f 1 rfl (.c rfl (.c rfl (.c rfl (.f 2 rfl (.f 3 rfl .nil))))))))) fun g7453 => sG (o_alloc Z27 ZL27) fun g7454 => vs rfl <| ds <| sr <| va (op_load 1 7 rfl rfl TI27 rfl (fun h => absurd h (by decide))) <| ?_
  replace h := bd h
  obtain ⟨t7468, hA7469, h⟩ := h
  refine sC (o_call0 FO12 (journal_Right.ok k l0_0 l0_1 a0_2 a0_3 a0_4 l0_5 l0_6 v0_0 v0_1 v0_5 v0_6 t7468 hA7469) rfl rfl (ltn rfl) (All_of (.cons (mG 0 rfl) (.cons (mG 1 rfl) (.cons (mG 2 rfl) (.cons (mG 3 rfl) .nil)))))) <| ?_
  rintro _ _ _ ⟨rfl, rfl, rfl⟩
  replace h := iC h
  rcases h with ⟨c7470, h⟩ | ⟨c7470, h⟩
  · obtain rfl := c7470
    refine va (op_not rfl rfl) <| dt <| cf <| sk <| sr <| va (op_fieldAddr FI27_4 rfl (add_at _ _ _)) <| va (op_load 1 1 rfl rfl TI22 rfl (by decide)) <| ?_
    replace h := bd h
    obtain ⟨r7471, hA7472, h⟩ := h
    refine sC (o_call0 FO43 (slices_Clip_string_string.ok l0_5 v0_5 r7471 hA7472) rfl rfl (ltn rfl) (All_of (.cons (mG 2 rfl) .nil))) <| ?_
    rintro _ _ _ ⟨A7473, rfl, rfl, rfl⟩
    refine vm rfl <| sG (o_buildSlice (vals := [(0, .string a1)]) (cells := #[.string a1]) (es := List.map enc_str ([a1] : List ByteArray)) Try.underlying22 TI9 Z9 rfl (by decide) (by decide) (by kernel_rfl) (by kernel_rfl) rfl (flat_map enc_str_ok _)) fun v7476 => ?_
    replace h := iN h
    obtain ⟨c7477, h⟩ := h
    refine sG (o_append_clip 0 appm Try.underlying22 EI9 rfl rfl rfl (.inr ⟨0, _, rfl⟩) (bndm c7477)) fun v7478 => vs rfl <| ds <| sr <| va (op_load 1 7 rfl rfl TI27 rfl (fun h => absurd h (by decide))) <| vm rfl <| ?_
    replace h := bd h
    obtain ⟨t7488, hA7489, h⟩ := h
    refine sC (o_call0 FO35 (journal_waits.ok k l0_0 l0_1 a0_2 a0_3 a0_4 l0_5 l0_6 (r7471 ++ ([a1] : List ByteArray)) v0_0 v0_1 v0_5 v0_6 v7478 t7488 hA7489) rfl rfl (ltn rfl) (All_of (.cons (mG 2 rfl) (.cons (mG 3 rfl) (.cons (mG 4 rfl) (.cons (mG 5 rfl) (.cons (mG 0 rfl) .nil))))))) <| ?_
    rintro _ _ _ ⟨rfl, rfl, rfl⟩
    refine vs rfl <| nx <| vm rfl <| VL.letter ((t7488 != 0)) fun b7490 hb7490 => va (op_cmp rfl rfl (congrArg some hb7490)) <| dt <| ?_
    replace h := iC h
    rcases h with ⟨c7491, h⟩ | ⟨c7491, h⟩
    · obtain rfl : b7490 = false := hb7490.symm.trans (bne_eq_false_iff_eq.2 c7491)
      refine cf <| sk <| sr <| vm rfl <| va (op_fieldAddr FI27_4 rfl (add_at _ _ _)) <| s1 (o_store 1 1 rfl rfl rfl TI22 (.f 0 rfl) rfl (len rfl)) <| nx <| va (op_load 1 7 rfl rfl TI27 rfl (fun h => absurd h (by decide))) <|
       s1 (o_store 0 7 rfl rfl rfl TI27 (.agg (.f 2 rfl (.f 3 rfl (.c rfl (.c rfl (.c rfl (.f 0 rfl (.f 5 rfl .nil)))))))) rfl (len rfl)) <| vs rfl <| dt <| VC.ret <| ?_
      simp only [Option.some.injEq, Prod.mk.injEq] at h
      obtain ⟨rfl, rfl, rfl, rfl, rfl, rfl, rfl, rfl⟩ := h
      exact VR.fn (rs := [.cell 4 27, .tmp 5]) [.row v0_0 1 (l0_0.map enc_str), .row v0_1 2 (l0_1.map enc55), .row v7478 1 ((r7471 ++ ([a1] : List ByteArray)).map enc_str), .row v0_6 1 (l0_6.map enc_str)] [] [] rfl (.cell 0 rfl rfl TI27 (fun h => absurd h (by decide)) (.tmp rfl .nil)) ⟨v0_0, v0_1, v7478, v0_6, rfl, rfl, rfl⟩ ⟨⟨2, rfl⟩, ⟨3, rfl⟩, ⟨0, rfl⟩, ⟨5, rfl⟩, trivial⟩ rfl (by decide)
    obtain rfl : b7490 = true := hb7490.symm.trans (bne_iff_ne.2 c7491)
    refine ct <| sr <| va (op_build (vals := []) (vcs := []) (cells := [.slice none 0 0, .slice none 0 0, .int .i64 0, .int .i64 0, .int .i64 0, .slice none 0 0, .slice none 0 0]) SI27 rfl .nil (by kernel_rfl)) <| vm rfl <| s1 (o_store 0 7 rfl rfl rfl TI27 (.agg (.of rfl)) rfl (len rfl)) <| vs rfl <|
     dt <| VC.ret <| VR.then <| ?_
    simp only [Option.some.injEq, Prod.mk.injEq] at h
    obtain ⟨rfl, rfl, rfl, rfl, rfl, rfl, rfl, rfl⟩ := h
    exact VR.nilFact' 1 <| VR.nilFact' 2 <| VR.nilFact' 1 <| VR.nilFact' 1 <|
     VR.fn (rs := [.cell 4 27, .tmp 5]) [.row (.slice none 0 0) 1 (([] : List ByteArray).map enc_str), .row (.slice none 0 0) 2 (([] : List S55).map enc55), .row (.slice none 0 0) 1 (([] : List ByteArray).map enc_str), .row (.slice none 0 0) 1 (([] : List ByteArray).map enc_str)] [] [] rfl (.cell 0 rfl rfl TI27 (fun h => absurd h (by decide)) (.tmp rfl .nil)) ⟨(.slice none 0 0), (.slice none 0 0), (.slice none 0 0), (.slice none 0 0), rfl, rfl, rfl⟩ ⟨⟨3, rfl⟩, ⟨2, rfl⟩, ⟨1, rfl⟩, ⟨0, rfl⟩, trivial⟩ rfl (by decide)
  obtain rfl := Bool.eq_false_iff.2 c7470
  refine va (op_not rfl rfl) <| dt <| ct <| sr <| va (op_build (vals := []) (vcs := []) (cells := [.slice none 0 0, .slice none 0 0, .int .i64 0, .int .i64 0, .int .i64 0, .slice none 0 0, .slice none 0 0]) SI27 rfl .nil (by kernel_rfl)) <|
   s1 (o_store 0 7 rfl rfl rfl TI27 (.agg (.of rfl)) rfl (len rfl)) <| vs rfl <| dt <| VC.ret <| VR.then <| ?_
  simp only [Option.some.injEq, Prod.mk.injEq] at h
  obtain ⟨rfl, rfl, rfl, rfl, rfl, rfl, rfl, rfl⟩ := h
  exact VR.nilFact' 1 <| VR.nilFact' 2 <| VR.nilFact' 1 <| VR.nilFact' 1 <|
   VR.fn (rs := [.cell 4 27, .tmp 5]) [.row (.slice none 0 0) 1 (([] : List ByteArray).map enc_str), .row (.slice none 0 0) 2 (([] : List S55).map enc55), .row (.slice none 0 0) 1 (([] : List ByteArray).map enc_str), .row (.slice none 0 0) 1 (([] : List ByteArray).map enc_str)] [] [] rfl (.cell 0 rfl rfl TI27 (fun h => absurd h (by decide)) (.tmp rfl .nil)) ⟨(.slice none 0 0), (.slice none 0 0), (.slice none 0 0), (.slice none 0 0), rfl, rfl, rfl⟩ ⟨⟨3, rfl⟩, ⟨2, rfl⟩, ⟨1, rfl⟩, ⟨0, rfl⟩, trivial⟩ rfl (by decide)

theorem journal_groups.ok (k : Nat) (l0_0 : List ByteArray) (l0_1 : List S55) (a0_2 : Int) (a0_3 : Int) (a0_4 : Int) (l0_5 : List ByteArray) (l0_6 : List ByteArray) (v0_0 : Value) (v0_1 : Value) (v0_5 : Value) (v0_6 : Value) (r1 : Int) (r2 : Int) (r3 : ByteArray) (h : journal_groups.f k l0_0 l0_1 a0_2 a0_3 a0_4 l0_5 l0_6 = some (r1, r2, r3)) :
    VCalls Try.prog 44 [.agg #[v0_0, v0_1, .int .i64 a0_2, .int .i64 a0_3, .int .i64 a0_4, v0_5, v0_6]] [.row v0_0 1 (l0_0.map enc_str), .row v0_1 2 (l0_1.map enc55), .row v0_5 1 (l0_5.map enc_str), .row v0_6 1 (l0_6.map enc_str)] (fun v G own => v = .agg #[.int .i64 r1, .int .i64 r2, .string r3] ∧ G = [] ∧ own = []) := by
  refine VCalls.intro Try.func44 rfl (len rfl) fun E hC hW hD hU => ?_
  unfold journal_groups.f at h
  refine sr <| sG (o_box rfl (.agg (.f 0 rfl (.f 1 rfl (.c rfl (.c rfl (.c rfl (.f 2 rfl (.f 3 rfl .nil))))))))) fun g7557 => sG (o_alloc Z81 ZL81) fun g7558 => dt <| ?_
  replace h := bd h
  obtain ⟨t7559, hA7560, h⟩ := h
  refine VC.join0 (⟨11, [(2, .pointer (some ⟨g7558, 0, none⟩))], [], [(g7558, 81, [.int .i64 a0_3, .int .i64 a0_4, .string t7559])], []⟩) (True) ?_ ?_
  · refine VC.draw ⟨0, [], [], [(g7557, 27, [v0_0, v0_1, .int .i64 a0_2, .int .i64 a0_3, .int .i64 a0_4, v0_5, v0_6])], []⟩ (by kernel_rfl) rfl (by kernel_rfl) (n := 9) (listed := LB 9 0) <| aw 0 1 rfl (op_fieldAddr FI27_2 rfl (add_at _ _ _)) ⟨trivial, ⟨⟨1, rfl⟩, trivial⟩, trivial⟩ <|
     aw 1 3 rfl (op_load 0 1 rfl rfl TI3 rfl (by decide)) ⟨trivial, ⟨⟨1, rfl⟩, trivial⟩, trivial⟩ <| aw 2 7 rfl (op_fieldAddr FI27_3 rfl (add_at _ _ _)) ⟨trivial, ⟨⟨1, rfl⟩, trivial⟩, trivial⟩ <| aw 3 15 rfl (op_load 0 1 rfl rfl TI3 rfl (by decide)) ⟨trivial, ⟨⟨1, rfl⟩, trivial⟩, trivial⟩ <|
     aw 4 31 rfl (op_fieldAddr FI27_4 rfl (add_at _ _ _)) ⟨trivial, ⟨⟨1, rfl⟩, trivial⟩, trivial⟩ <| aw 5 63 rfl (op_load 0 1 rfl rfl TI22 rfl (by decide)) ⟨trivial, ⟨⟨1, rfl⟩, trivial⟩, trivial⟩ <|
     VA.oneC (i := 6) (listed' := LB 9 127) (by kernel_rfl) rfl (o_call0 FO68 (journal_frames.ok k l0_5 v0_5 t7559 hA7560) rfl rfl (ltn rfl) (All_of (.cons (mG 2 rfl) .nil))) rfl (by kernel_rfl) <| ?_
    rintro _ _ _ ⟨rfl, rfl, rfl⟩
    refine ⟨⟨trivial, ⟨⟨1, rfl⟩, trivial⟩, trivial⟩, ?_⟩
    exact aw 7 255 rfl (op_build (vals := [(0, .int .i64 a0_3), (1, .int .i64 a0_4), (2, .string t7559)]) (vcs := [(0, [.int .i64 a0_3]), (1, [.int .i64 a0_4]), (2, [.string t7559])]) (cells := [.int .i64 a0_3, .int .i64 a0_4, .string t7559]) SI81 rfl (.cons ⟨rfl, (.c rfl)⟩ (.cons ⟨rfl, (.c rfl)⟩ (.cons ⟨rfl, (.c rfl)⟩ .nil))) (by kernel_rfl)) ⟨trivial, ⟨⟨1, rfl⟩, trivial⟩, trivial⟩ <|
     VA.one1 (i := 8) (listed' := LB 9 511) (by kernel_rfl) rfl (o_store 0 3 rfl rfl rfl TI81 (.agg (.of rfl)) rfl (len rfl)) rfl (by kernel_rfl) ⟨trivial, ⟨⟨1, rfl⟩, trivial⟩, trivial⟩ <| VA.done (by kernel_rfl) <| VN.meet0  [0] [] trivial ⟨rfl, ⟨rfl, trivial⟩, trivial, rfl, by decide, rfl, by decide⟩
  intro _
  refine VC.ret <| ?_
  simp only [Option.some.injEq, Prod.mk.injEq] at h
  obtain ⟨rfl, rfl, rfl⟩ := h
  exact VR.fn (rs := [.cell 2 81]) [] [] [] rfl (.cell 0 rfl rfl TI81 (fun h => absurd h (by decide)) .nil) ⟨rfl, rfl, rfl⟩ trivial rfl (by decide)

theorem slices_Backward_api_Write_api_Write.ok (l0 : List S55) (v0 : Value) (r1 : List S55) (h : slices_Backward_api_Write_api_Write.f l0 = some r1) :
    VCalls Try.prog 98 [v0] [.row v0 2 (l0.map enc55)] (fun v G own => ∃ w0 : Value, ∃ p0 : Nat, v = .func (.func 101) #[] #[.pointer (some ⟨p0, 0, none⟩)] ∧ G = [.row w0 2 (r1.map enc55), .at_ ⟨p0, 0, none⟩ [w0]] ∧ own = []) := by
  refine VCalls.intro Try.func98 rfl (len rfl) fun E hC hW hD hU => ?_
  unfold slices_Backward_api_Write_api_Write.f at h
  refine sr <| sG (o_box rfl (.f 0 rfl)) fun g7631 => vs rfl <| nx <| va (op_makeFunc (vals := [.pointer (some ⟨g7631, 0, none⟩)]) rfl) <| vs rfl <| dt <| VC.ret <| ?_
  obtain rfl := Option.some.inj h
  exact VR.freeze' 0 rfl <| VR.fn (rs := [.tmp 2]) [.row v0 2 (l0.map enc55), .at_ ⟨g7631, 0, none⟩ [v0]] [] [] rfl (.tmp rfl .nil) ⟨v0, g7631, rfl, rfl, rfl⟩ ⟨⟨1, rfl⟩, ⟨0, rfl⟩, trivial⟩ rfl (by decide)

theorem disk_Get.ok (k : Nat) (l0_0 : List ByteArray) (l0_1 : List S55) (a1 : Int) (v0_0 : Value) (v0_1 : Value) (r1 : ByteArray) (r2 : Int) (h : disk_Get.f k l0_0 l0_1 a1 = some (r1, r2)) :
    VCalls Try.prog 86 [.agg #[v0_0, v0_1], .int .i64 a1] [.row v0_0 1 (l0_0.map enc_str), .row v0_1 2 (l0_1.map enc55)] (fun v G own => v = .tuple #[.string r1, .int .i64 r2] ∧ G = [] ∧ own = []) := by
  refine VCalls.introM Try.func86 rfl (len rfl) fun E hC hW hD hU => ?_
  unfold disk_Get.f at h
  refine sr <| sG (o_box rfl (.agg (.f 0 rfl (.f 1 rfl .nil)))) fun g7598 => sG (o_box rfl (.c rfl)) fun g7599 => sG (o_alloc Z9 ZL9) fun g7600 => sG (o_alloc Z30 ZL30) fun g7601 => ds <| VC.block <| sr <| va (op_load 3 2 rfl rfl TI25 rfl (fun h => absurd h (by decide))) <| ?_
  replace h := bd h
  obtain ⟨t7618, hA7619, h⟩ := h
  refine sC (o_call0 FO23 (disk_Right.ok k l0_0 l0_1 v0_0 v0_1 t7618 hA7619) rfl rfl (ltn rfl) (All_of (.cons (mG 0 rfl) (.cons (mG 1 rfl) .nil)))) <| ?_
  rintro _ _ _ ⟨rfl, rfl, rfl⟩
  replace h := iC h
  rcases h with ⟨c7620, h⟩ | ⟨c7620, h⟩
  · obtain rfl := c7620
    refine va (op_not rfl rfl) <| vs rfl <| dt <| cf <| sr <| va (op_load 2 1 rfl rfl TI3 rfl (by decide)) <| VL.letter (decide (a1 < 0)) fun b7624 hb7624 => va (op_cmp rfl rfl (congrArg some hb7624)) <| vm rfl <| ?_
    replace h := iC h
    rcases h with ⟨c7625, h⟩ | ⟨c7625, h⟩
    · cases lT c7625 hb7624
      refine un rfl <| un rfl <| un rfl <| un rfl <| un rfl <| va (op_pick rfl rfl) <| vs rfl <| dt <| ct <| sr <| s1 (o_store 1 1 rfl rfl rfl TI9 (.c rfl) rfl (len rfl)) <| s1 (o_store 0 1 rfl rfl rfl TI30 (.c rfl) rfl (len rfl)) <| dt <| VC.ret <| VR.block <| VR.then <| ?_
      simp only [Option.some.injEq, Prod.mk.injEq] at h
      obtain ⟨rfl, rfl⟩ := h
      exact VR.m0 <| VR.fn (rs := [.cell 4 9, .cell 5 30]) [] [] [] rfl (.cell 1 rfl rfl TI9 (fun _ => rfl) (.cell 0 rfl rfl TI30 (fun _ => rfl) .nil)) ⟨rfl, rfl, rfl⟩ trivial rfl (by decide)
    cases lF c7625 hb7624
    refine va (op_load 2 1 rfl rfl TI3 rfl (by decide)) <| va (op_fieldAddr FI25_0 rfl (add_at _ _ _)) <| va (op_load 3 1 rfl rfl TI22 rfl (by decide)) <| va (op_len (m := l0_0.length) 0 lenm Try.underlying22 rfl rfl) <|
     VL.letter (decide (a1 ≥ (l0_0.length : Int))) fun b7626 hb7626 => va (op_cmp rfl rfl (congrArg some hb7626)) <| va (op_pick rfl rfl) <| vs rfl <| dt <| ?_
    replace h := iC h
    rcases h with ⟨c7627, h⟩ | ⟨c7627, h⟩
    · cases lT c7627 hb7626
      refine ct <| sr <| s1 (o_store 1 1 rfl rfl rfl TI9 (.c rfl) rfl (len rfl)) <| s1 (o_store 0 1 rfl rfl rfl TI30 (.c rfl) rfl (len rfl)) <| dt <| VC.ret <| VR.block <| VR.then <| ?_
      simp only [Option.some.injEq, Prod.mk.injEq] at h
      obtain ⟨rfl, rfl⟩ := h
      exact VR.m0 <| VR.fn (rs := [.cell 4 9, .cell 5 30]) [] [] [] rfl (.cell 1 rfl rfl TI9 (fun _ => rfl) (.cell 0 rfl rfl TI30 (fun _ => rfl) .nil)) ⟨rfl, rfl, rfl⟩ trivial rfl (by decide)
    cases lF c7627 hb7626
    refine cf <| VC.skip <| VN.block <| ts <| sr <| va (op_fieldAddr FI25_1 rfl (add_at _ _ _)) <| va (op_load 3 1 rfl rfl TI23 rfl (by decide)) <| ?_
    replace h := bd h
    obtain ⟨r7632, hA7633, h⟩ := h
    refine sC (o_call0 FO98 (slices_Backward_api_Write_api_Write.ok l0_1 v0_1 r7632 hA7633) rfl rfl (ltn rfl) (All_of (.cons (mG 1 rfl) .nil))) <| ?_
    rintro _ _ _ ⟨v7635, g7636, rfl, rfl, rfl⟩
    refine dt <| VC.block <| VC.rangeFunc (ps := [25, 26]) (caps := [.pointer (some ⟨g7636, 0, none⟩)]) Try.func101 FO101 rfl rfl (len rfl) fun D7637 l7638 L7639 hLl7638 hDD7637 => sr <|
     va (op_load_at (ad := ⟨g7636, 0, none⟩) 3 0 1 (by first | rfl | exact congrArg (fun a => some (Value.pointer (some a))) (add_at _ 0 _).symm) rfl TI23 rfl (by decide)) <| va (op_len (m := r7632.length) 2 lenm Try.underlying23 rfl rfl) <| va (op_ari64 rfl rfl rfl) <| vs rfl <| dt <| VC.block <|
     VC.loop1 (fun (i7672 : Int) => ⟨19, [(0, (.func (.yield l7638) #[] #[])), (1, .pointer (some ⟨g7636, 0, none⟩)), (3, .int .i64 i7672)], [.loop l7638 L7639 .ready none, .dfr D7637, .at_ ⟨g7636, 0, none⟩ [v7635], .row v0_0 1 (l0_0.map enc_str), .row v0_1 2 (l0_1.map enc55), .row v7635 2 (r7632.map enc55)], [(g7601, 30, [.int .i64 0]), (g7600, 9, [.string (⟨#[]⟩ : ByteArray)]), (g7599, 3, [.int .i64 a1]), (g7598, 25, [v0_0, v0_1])], []⟩) (fun (ml0 : Nat) (i7672 : Int) => disk_Get.l0 k a1 l0_0 r7632 ml0 i7672 = some (r1, r2)) k (wrap64 ((r7632.length : Int) - 1)) [0, 1, 2, 3] [] h ⟨rfl, ⟨rfl, rfl, rfl, trivial⟩, ⟨⟨0, rfl⟩, ⟨1, rfl⟩, ⟨3, rfl⟩, ⟨4, rfl⟩, ⟨5, rfl⟩, ⟨2, rfl⟩, trivial⟩, rfl, by decide, rfl, by decide⟩ (by intros; simp [disk_Get.l0]) <|
     ?_
    clear h
    intro ml0 ihl0 i7672 h
    simp only [disk_Get.l0] at h
    refine sq <| sr <| vm rfl <| VL.letter (decide (i7672 ≥ 0)) fun b7711 hb7711 => va (op_cmp rfl rfl (congrArg some hb7711)) <| dt <| ?_
    replace h := iC h
    rcases h with ⟨c7712, h⟩ | ⟨c7712, h⟩
    · cases lT c7712 hb7711
      refine ct <| sk <| sq <| VC.block <| sr <| vm rfl <| vm rfl <| va (op_load_at (ad := ⟨g7636, 0, none⟩) 2 0 1 (by first | rfl | exact congrArg (fun a => some (Value.pointer (some a))) (add_at _ 0 _).symm) rfl TI23 rfl (by decide)) <| vm rfl <| ?_
      replace h := iN h
      obtain ⟨c7734, h⟩ := h
      replace h := bd h
      obtain ⟨x7735, hx7735, h⟩ := h
      refine VL.open (m := r7632.length) 5 lenm rfl (pos_get hx7735) <| ?_
      rintro ad7736 n7737 rfl
      refine va (op_indexAddr Try.underlying23 TI56 rfl rfl c7734 (lt_get c7734 hx7735) rfl) <| va (op_load_row (sz := 2) (o := 0) 5 i7672.toNat 2 rfl rfl (get_map hx7735) TI56 rfl (fun h => absurd h (by decide))) <|
       VL.yield (vals := [.int .i64 i7672, .agg #[.int .i64 x7735.f0, .string x7735.f1]]) hLl7638 rfl rfl rfl rfl (ltn rfl) 0 rfl rfl <| rg <| sG (o_alloc Z56 ZL56) fun g7738 => s1 (o_store 0 2 rfl rfl rfl TI56 (.agg (.of rfl)) rfl (len rfl)) <| dn <| VN.begin 0 hLl7638.base rfl rfl rfl <| VC.block <|
       sr <| va (op_fieldAddr FI56_0 rfl (add_at _ _ _)) <| va (op_load 0 1 rfl rfl TI3 rfl (by decide)) <| va (op_load 3 1 rfl rfl TI3 rfl (by decide)) <| VL.letter ((x7735.f0 == a1)) fun b7739 hb7739 => va (op_cmp rfl rfl (congrArg some hb7739)) <| dt <| ?_
      replace h := iC h
      rcases h with ⟨c7740, h⟩ | ⟨c7740, h⟩
      · obtain rfl : b7739 = true := hb7739.symm.trans (beq_iff_eq.2 c7740)
        refine ct <| sr <| va (op_fieldAddr FI56_1 rfl (add_at _ _ _)) <| va (op_load 0 1 rfl rfl TI9 rfl (by decide)) <| s1 (o_store 2 1 rfl rfl rfl TI9 (.c rfl) rfl (len rfl)) <| s1 (o_store 1 1 rfl rfl rfl TI30 (.c rfl) rfl (len rfl)) <| dt <| VC.ret <| VR.block <|
         VR.endRound 0 hLl7638.base rfl rfl rfl <| va (op_not rfl rfl) <| dt <| ct <| VC.ret <| VR.block <| VR.then <| VR.then <| VR.block <| VR.endRFj 0 rfl rfl rfl rfl <| VC.ret <| VR.block <| VR.then <| ?_
        simp only [Option.some.injEq, Prod.mk.injEq] at h
        obtain ⟨rfl, rfl⟩ := h
        exact VR.mark 0 hDD7637 rfl rfl rfl <| VR.fn (rs := [.cell 4 9, .cell 5 30]) [] [] [] rfl (.cell 2 rfl rfl TI9 (fun _ => rfl) (.cell 1 rfl rfl TI30 (fun _ => rfl) .nil)) ⟨rfl, rfl, rfl⟩ trivial rfl (by decide)
      obtain rfl : b7739 = false := hb7739.symm.trans (beq_eq_false_iff_ne.2 c7740)
      refine cf <| VC.skip <| VN.block <| VN.endRound 0 hLl7638.base rfl rfl rfl <| va (op_not rfl rfl) <| dt <| cf <| VC.skip <| VN.block <| tr <| vm rfl <| va (op_ari64 rfl rfl rfl) <| vs rfl <| dn <|
       VN.again [1, 2, 3, 4] [] (ihl0 (wrap64 (i7672 - 1)) h) ⟨rfl, ⟨rfl, rfl, rfl, trivial⟩, ⟨⟨0, rfl⟩, ⟨1, rfl⟩, ⟨2, rfl⟩, ⟨3, rfl⟩, ⟨4, rfl⟩, ⟨5, rfl⟩, trivial⟩, rfl, by decide, rfl, by decide⟩
    cases lF c7712 hb7711
    refine cf <| VC.exit <| VX.then <| VX.then <| VX.hit <| VN.endRF 0 rfl rfl rfl rfl <| VN.block <| tx <| va (op_fieldAddr FI25_0 rfl (add_at _ _ _)) <| va (op_load 3 1 rfl rfl TI22 rfl (by decide)) <| va (op_load 2 1 rfl rfl TI3 rfl (by decide)) <| ?_
    replace h := iN h
    obtain ⟨c7741, h⟩ := h
    replace h := bd h
    obtain ⟨x7742, hx7742, h⟩ := h
    refine VL.open (m := l0_0.length) 2 lenm rfl (pos_get hx7742) <| ?_
    rintro ad7743 n7744 rfl
    refine va (op_indexAddr Try.underlying22 TI9 rfl rfl c7741 (lt_get c7741 hx7742) rfl) <| va (op_load_row (sz := 1) (o := 0) 2 a1.toNat 1 rfl rfl (get_map hx7742) TI9 rfl (by decide)) <| s1 (o_store 1 1 rfl rfl rfl TI9 (.c rfl) rfl (len rfl)) <|
     s1 (o_store 0 1 rfl rfl rfl TI30 (.c rfl) rfl (len rfl)) <| dt <| VC.ret <| ?_
    simp only [Option.some.injEq, Prod.mk.injEq] at h
    obtain ⟨rfl, rfl⟩ := h
    exact VR.mark 0 hDD7637 rfl rfl rfl <| VR.fn (rs := [.cell 4 9, .cell 5 30]) [] [] [] rfl (.cell 1 rfl rfl TI9 (fun _ => rfl) (.cell 0 rfl rfl TI30 (fun _ => rfl) .nil)) ⟨rfl, rfl, rfl⟩ trivial rfl (by decide)
  obtain rfl := Bool.eq_false_iff.2 c7620
  refine va (op_not rfl rfl) <| vs rfl <| dt <| ct <| sr <| s1 (o_store 1 1 rfl rfl rfl TI9 (.c rfl) rfl (len rfl)) <| s1 (o_store 0 1 rfl rfl rfl TI30 (.c rfl) rfl (len rfl)) <| dt <| VC.ret <| VR.block <| VR.then <| ?_
  simp only [Option.some.injEq, Prod.mk.injEq] at h
  obtain ⟨rfl, rfl⟩ := h
  exact VR.m0 <| VR.fn (rs := [.cell 4 9, .cell 5 30]) [] [] [] rfl (.cell 1 rfl rfl TI9 (fun _ => rfl) (.cell 0 rfl rfl TI30 (fun _ => rfl) .nil)) ⟨rfl, rfl, rfl⟩ trivial rfl (by decide)

end Go.Proofs.Ytipeglbeongfmaa.PJournalLives
