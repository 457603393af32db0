/- Written by a program of this repo: what the program's functions do, each as a Lean function, shown of the loaded code; or a statement's row over that; no condition of its own. -/
import Derived.Test.YtipeglbeongfmaaPJournalLivesx9
namespace Go.Proofs.Ytipeglbeongfmaa.PJournalLives
open Go Go.RowKit Go.Proofs.YtipeglbeongfmaaV
set_option linter.unusedVariables false
set_option linter.unusedSimpArgs false
set_option maxHeartbeats 4000000
set_option maxRecDepth 100000

theorem journal_Commit.ok (k : Nat) (l0_0 : List ByteArray) (l0_1 : List S55) (a0_2 : Int) (a0_3 : Int) (a0_4 : Int) (l0_5 : List ByteArray) (l0_6 : List ByteArray) (v0_0 : Value) (v0_1 : Value) (v0_5 : Value) (v0_6 : Value) (r1 : List ByteArray) (r2 : List S55) (r3 : Int) (r4 : Int) (r5 : Int) (r6 : List ByteArray) (r7 : List ByteArray) (r8 : Int) (h : journal_Commit.f k l0_0 l0_1 a0_2 a0_3 a0_4 l0_5 l0_6 = some (r1, r2, r3, r4, r5, r6, r7, r8)) :
    VCalls Try.prog 19 [.agg #[v0_0, v0_1, .int .i64 a0_2, .int .i64 a0_3, .int .i64 a0_4, v0_5, v0_6]] [.row v0_0 1 (l0_0.map enc_str), .row v0_1 2 (l0_1.map enc55), .row v0_5 1 (l0_5.map enc_str), .row v0_6 1 (l0_6.map enc_str)] (fun v G own => ∃ w0 w1 w5 w6 : Value, v = .tuple #[.agg #[w0, w1, .int .i64 r3, .int .i64 r4, .int .i64 r5, w5, w6], .int .i64 r8] ∧ G = [.row w0 1 (r1.map enc_str), .row w1 2 (r2.map enc55)] ∧ own = [(w5, 9, 1, r6.map enc_str), (w6, 9, 1, r7.map enc_str)]) := by
  refine VCalls.intro Try.func19 rfl (len rfl) fun E hC hW hD hU => ?_
  unfold journal_Commit.f at h
  refine sr <| sG (o_box rfl (.agg (.f 0 rfl (.f 1 rfl (.c rfl (.c rfl (.c rfl (.f 2 rfl (.f 3 rfl .nil))))))))) fun g8234 => sG (o_alloc Z27 ZL27) fun g8235 => vs rfl <| ds <| VC.block <| sr <| va (op_load 1 7 rfl rfl TI27 rfl (fun h => absurd h (by decide))) <| ?_
  replace h := bd h
  obtain ⟨t8255, hA8256, h⟩ := h
  refine sC (o_call0 FO12 (journal_Right.ok k l0_0 l0_1 a0_2 a0_3 a0_4 l0_5 l0_6 v0_0 v0_1 v0_5 v0_6 t8255 hA8256) rfl rfl (ltn rfl) (All_of (.cons (mG 0 rfl) (.cons (mG 1 rfl) (.cons (mG 2 rfl) (.cons (mG 3 rfl) .nil)))))) <| ?_
  rintro _ _ _ ⟨rfl, rfl, rfl⟩
  replace h := iC h
  rcases h with ⟨c8257, h⟩ | ⟨c8257, h⟩
  · obtain rfl := c8257
    refine va (op_not rfl rfl) <| vs rfl <| dt <| cf <| sr <| va (op_fieldAddr FI27_1 rfl (add_at _ _ _)) <| va (op_load 1 1 rfl rfl TI3 rfl (by decide)) <| VL.letter ((a0_2 == 1099511627776)) fun b8258 hb8258 => va (op_cmp rfl rfl (congrArg some hb8258)) <| vs rfl <| dt <| ?_
    replace h := iC h
    rcases h with ⟨c8259, h⟩ | ⟨c8259, h⟩
    · obtain rfl : b8258 = true := hb8258.symm.trans (beq_iff_eq.2 c8259)
      refine ct <| sr <| va (op_build (vals := []) (vcs := []) (cells := [.slice none 0 0, .slice none 0 0, .int .i64 0, .int .i64 0, .int .i64 0, .slice none 0 0, .slice none 0 0]) SI27 rfl .nil (by kernel_rfl)) <| s1 (o_store 0 7 rfl rfl rfl TI27 (.agg (.of rfl)) rfl (len rfl)) <| vs rfl <| dt <|
       VC.ret <| VR.block <| VR.then <| ?_
      simp only [Option.some.injEq, Prod.mk.injEq] at h
      obtain ⟨rfl, rfl, rfl, rfl, rfl, rfl, rfl, rfl⟩ := h
      exact VR.nilFact' 1 <| VR.nilFact' 2 <| VR.nilRow' 9 1 <| VR.nilRow' 9 1 <|
       VR.fn (rs := [.cell 2 27, .tmp 3]) [.row (.slice none 0 0) 1 (([] : List ByteArray).map enc_str), .row (.slice none 0 0) 2 (([] : List S55).map enc55)] [((.slice none 0 0), 9, 1, ([] : List ByteArray).map enc_str), ((.slice none 0 0), 9, 1, ([] : List ByteArray).map enc_str)] [1, 0] rfl (.cell 0 rfl rfl TI27 (fun h => absurd h (by decide)) (.tmp rfl .nil)) ⟨(.slice none 0 0), (.slice none 0 0), (.slice none 0 0), (.slice none 0 0), rfl, rfl, rfl⟩ ⟨⟨1, rfl⟩, ⟨0, rfl⟩, trivial⟩ rfl (by decide)
    obtain rfl : b8258 = false := hb8258.symm.trans (beq_eq_false_iff_ne.2 c8259)
    refine cf <| VC.skip <| VN.block <| th <| ?_
    replace h := bd h
    obtain ⟨⟨t8264, t8265, t8266⟩, hA8267, h⟩ := h
    dsimp only at h
    replace h := bd h
    obtain ⟨⟨r8268, r8269, t8270, t8271, t8272, r8273, r8274, t8275⟩, hA8276, h⟩ := h
    dsimp only at h
    refine VC.join4 (fun (v8278 : Value) (v8280 : Value) (v8282 : Value) (v8284 : Value) => ⟨20, [(2, .pointer (some ⟨g8235, 0, none⟩)), (3, .int .i64 t8275)], [.row v8278 1 (r8268.map enc_str), .row v8280 2 (r8269.map enc55)], [(g8235, 27, [v8278, v8280, .int .i64 t8270, .int .i64 t8271, .int .i64 t8272, v8282, v8284])], [(v8282, 9, 1, r8273.map enc_str), (v8284, 9, 1, r8274.map enc_str)]⟩) (fun (v8278 : Value) (v8280 : Value) (v8282 : Value) (v8284 : Value) => True) ?_ ?_
    · refine VC.draw ⟨0, [], [], [(g8234, 27, [v0_0, v0_1, .int .i64 a0_2, .int .i64 a0_3, .int .i64 a0_4, v0_5, v0_6])], []⟩ (by kernel_rfl) rfl (by kernel_rfl) (n := 8) (listed := LB 8 0) <|
       aw 0 1 rfl (op_load 0 7 rfl rfl TI27 rfl (fun h => absurd h (by decide))) ⟨trivial, ⟨⟨1, rfl⟩, trivial⟩, trivial⟩ <| aw 2 5 rfl (op_load 0 7 rfl rfl TI27 rfl (fun h => absurd h (by decide))) ⟨trivial, ⟨⟨1, rfl⟩, trivial⟩, trivial⟩ <|
       VA.oneC (i := 1) (listed' := LB 8 7) (by kernel_rfl) rfl (o_call0 FO44 (journal_groups.ok k l0_0 l0_1 a0_2 a0_3 a0_4 l0_5 l0_6 v0_0 v0_1 v0_5 v0_6 t8264 t8265 t8266 hA8267) rfl rfl (ltn rfl) (All_of (.cons (mG 0 rfl) (.cons (mG 1 rfl) (.cons (mG 2 rfl) (.cons (mG 3 rfl) .nil)))))) rfl (by kernel_rfl) <|
       ?_
      rintro _ _ _ ⟨rfl, rfl, rfl⟩
      refine ⟨⟨trivial, ⟨⟨1, rfl⟩, trivial⟩, trivial⟩, ?_⟩
      refine VA.oneC (i := 3) (listed' := LB 8 15) (by kernel_rfl) rfl (o_call0 FO45 (journal_plan_sealed.ok k t8264 t8265 t8266 l0_0 l0_1 a0_2 a0_3 a0_4 l0_5 l0_6 v0_0 v0_1 v0_5 v0_6 r8268 r8269 t8270 t8271 t8272 r8273 r8274 t8275 hA8276) rfl rfl (ltn rfl) (All_of (.cons (mG 0 rfl) (.cons (mG 1 rfl) (.cons (mG 2 rfl) (.cons (mG 3 rfl) .nil)))))) rfl (by kernel_rfl) <|
       ?_
      rintro _ _ _ ⟨v8278, v8280, v8282, v8284, rfl, rfl, rfl⟩
      refine ⟨⟨trivial, ⟨⟨1, rfl⟩, trivial⟩, trivial⟩, ?_⟩
      exact VA.more ⟨0, [], [.row v8278 1 (r8268.map enc_str), .row v8280 2 (r8269.map enc55)], [(g8234, 27, [v0_0, v0_1, .int .i64 a0_2, .int .i64 a0_3, .int .i64 a0_4, v0_5, v0_6])], [(v8282, 9, 1, r8273.map enc_str), (v8284, 9, 1, r8274.map enc_str)]⟩ ⟨trivial, ⟨⟨0, rfl⟩, trivial⟩, trivial⟩ <|
       aw 4 31 rfl (op_extract rfl rfl) ⟨⟨⟨0, rfl⟩, ⟨1, rfl⟩, trivial⟩, ⟨⟨1, rfl⟩, trivial⟩, ⟨⟨0, rfl⟩, ⟨1, rfl⟩, trivial⟩⟩ <| aw 5 63 rfl (op_extract rfl rfl) ⟨⟨⟨0, rfl⟩, ⟨1, rfl⟩, trivial⟩, ⟨⟨1, rfl⟩, trivial⟩, ⟨⟨0, rfl⟩, ⟨1, rfl⟩, trivial⟩⟩ <|
       VA.one1 (i := 6) (listed' := LB 8 127) (by kernel_rfl) rfl (o_store 0 7 rfl rfl rfl TI27 (.agg (.f 0 rfl (.f 1 rfl (.c rfl (.c rfl (.c rfl (.r 0 rfl (.r 1 rfl .nil)))))))) rfl (len rfl)) rfl (by kernel_rfl) ⟨⟨⟨0, rfl⟩, ⟨1, rfl⟩, trivial⟩, ⟨⟨1, rfl⟩, trivial⟩, ⟨⟨0, rfl⟩, ⟨1, rfl⟩, trivial⟩⟩ <|
       aw 7 255 rfl (ag rfl) ⟨⟨⟨0, rfl⟩, ⟨1, rfl⟩, trivial⟩, ⟨⟨1, rfl⟩, trivial⟩, ⟨⟨0, rfl⟩, ⟨1, rfl⟩, trivial⟩⟩ <| VA.done (by kernel_rfl) <| VN.meet4 v8278 v8280 v8282 v8284 [0] [0, 1] trivial ⟨rfl, ⟨rfl, rfl, trivial⟩, ⟨⟨0, rfl⟩, ⟨1, rfl⟩, trivial⟩, rfl, by decide, rfl, by decide⟩
    intro v8278 v8280 v8282 v8284 _
    refine VC.ret <| ?_
    simp only [Option.some.injEq, Prod.mk.injEq] at h
    obtain ⟨rfl, rfl, rfl, rfl, rfl, rfl, rfl, rfl⟩ := h
    exact VR.fn (rs := [.cell 2 27, .tmp 3]) [.row v8278 1 (r8268.map enc_str), .row v8280 2 (r8269.map enc55)] [(v8282, 9, 1, r8273.map enc_str), (v8284, 9, 1, r8274.map enc_str)] [0, 1] rfl (.cell 0 rfl rfl TI27 (fun h => absurd h (by decide)) (.tmp rfl .nil)) ⟨v8278, v8280, v8282, v8284, rfl, rfl, rfl⟩ ⟨⟨0, rfl⟩, ⟨1, rfl⟩, trivial⟩ rfl (by decide)
  obtain rfl := Bool.eq_false_iff.2 c8257
  refine va (op_not rfl rfl) <| vs rfl <| dt <| ct <| sr <| va (op_build (vals := []) (vcs := []) (cells := [.slice none 0 0, .slice none 0 0, .int .i64 0, .int .i64 0, .int .i64 0, .slice none 0 0, .slice none 0 0]) SI27 rfl .nil (by kernel_rfl)) <|
   s1 (o_store 0 7 rfl rfl rfl TI27 (.agg (.of rfl)) rfl (len rfl)) <| vs rfl <| dt <| VC.ret <| VR.block <| VR.then <| ?_
  simp only [Option.some.injEq, Prod.mk.injEq] at h
  obtain ⟨rfl, rfl, rfl, rfl, rfl, rfl, rfl, rfl⟩ := h
  exact VR.nilFact' 1 <| VR.nilFact' 2 <| VR.nilRow' 9 1 <| VR.nilRow' 9 1 <|
   VR.fn (rs := [.cell 2 27, .tmp 3]) [.row (.slice none 0 0) 1 (([] : List ByteArray).map enc_str), .row (.slice none 0 0) 2 (([] : List S55).map enc55)] [((.slice none 0 0), 9, 1, ([] : List ByteArray).map enc_str), ((.slice none 0 0), 9, 1, ([] : List ByteArray).map enc_str)] [1, 0] rfl (.cell 0 rfl rfl TI27 (fun h => absurd h (by decide)) (.tmp rfl .nil)) ⟨(.slice none 0 0), (.slice none 0 0), (.slice none 0 0), (.slice none 0 0), rfl, rfl, rfl⟩ ⟨⟨1, rfl⟩, ⟨0, rfl⟩, trivial⟩ rfl (by decide)

theorem journal_compacts.ok (k : Nat) (l0_0 : List ByteArray) (l0_1 : List S55) (a0_2 : Int) (a0_3 : Int) (a0_4 : Int) (l0_5 : List ByteArray) (l0_6 : List ByteArray) (a1 : ByteArray) (v0_0 : Value) (v0_1 : Value) (v0_5 : Value) (v0_6 : Value) (r1 : Int) (h : journal_compacts.f k l0_0 l0_1 a0_2 a0_3 a0_4 l0_5 l0_6 a1 = some r1) :
    VCalls Try.prog 46 [.agg #[v0_0, v0_1, .int .i64 a0_2, .int .i64 a0_3, .int .i64 a0_4, v0_5, v0_6], .string a1] [.row v0_0 1 (l0_0.map enc_str), .row v0_1 2 (l0_1.map enc55), .row v0_5 1 (l0_5.map enc_str), .row v0_6 1 (l0_6.map enc_str)] (fun v G own => v = .int .i64 r1 ∧ G = [] ∧ own = []) := by
  refine VCalls.intro Try.func46 rfl (len rfl) fun E hC hW hD hU => ?_
  unfold journal_compacts.f at h
  refine sr <| sG (o_box rfl (.agg (.f 0 rfl (.f 1 rfl (.c rfl (.c rfl (.c rfl (.f 2 rfl (.f 3 rfl .nil))))))))) fun g8318 => vs rfl <| ds <| VC.block <| sr <| va (op_load 0 7 rfl rfl TI27 rfl (fun h => absurd h (by decide))) <| ?_
  replace h := bd h
  obtain ⟨t8340, hA8341, h⟩ := h
  refine sC (o_call0 FO12 (journal_Right.ok k l0_0 l0_1 a0_2 a0_3 a0_4 l0_5 l0_6 v0_0 v0_1 v0_5 v0_6 t8340 hA8341) rfl rfl (ltn rfl) (All_of (.cons (mG 0 rfl) (.cons (mG 1 rfl) (.cons (mG 2 rfl) (.cons (mG 3 rfl) .nil)))))) <| ?_
  rintro _ _ _ ⟨rfl, rfl, rfl⟩
  replace h := iC h
  rcases h with ⟨c8342, h⟩ | ⟨c8342, h⟩
  · obtain rfl := c8342
    refine va (op_not rfl rfl) <| vs rfl <| dt <| cf <| sr <| vm rfl <| va (op_lens Try.underlying9 rfl) <| VL.letter (decide ((a1.size : Int) > 3000)) fun b8343 hb8343 => va (op_cmp rfl rfl (congrArg some hb8343)) <| vs rfl <| dt <| ?_
    replace h := iC h
    rcases h with ⟨c8344, h⟩ | ⟨c8344, h⟩
    · cases lT c8344 hb8343
      refine ct <| sr <| vs rfl <| dt <| VC.ret <| VR.block <| VR.then <| ?_
      obtain rfl := Option.some.inj h
      exact VR.fn (rs := [.tmp 4]) [] [] [] rfl (.tmp rfl .nil) ⟨rfl, rfl, rfl⟩ trivial rfl (by decide)
    cases lF c8344 hb8343
    refine cf <| ?_
    replace h := bd h
    obtain ⟨t8347, hA8348, h⟩ := h
    replace h := bd h
    obtain ⟨t8349, hA8350, h⟩ := h
    refine VC.letter (decide ((t8347.size : Int) > t8349)) fun b8351 hb8351 => ?_
    replace h := iC h
    rcases h with ⟨c8352, h⟩ | ⟨c8352, h⟩
    · cases lT c8352 hb8351
      refine VC.join0 (⟨29, [(4, .int .i64 0), (13, .bool true)], [], [], []⟩) (True) ?_ ?_
      · refine VC.draw ⟨0, [], [.row v0_0 1 (l0_0.map enc_str)], [(g8318, 27, [v0_0, v0_1, .int .i64 a0_2, .int .i64 a0_3, .int .i64 a0_4, v0_5, v0_6])], []⟩ (by kernel_rfl) rfl (by kernel_rfl) (n := 16) (listed := LB 16 0) <| aw 0 1 rfl (mv rfl) ⟨⟨⟨0, rfl⟩, trivial⟩, ⟨⟨0, rfl⟩, trivial⟩, trivial⟩ <|
         aw 4 17 rfl (op_fieldAddr FI27_0 rfl (add_at _ _ _)) ⟨⟨⟨0, rfl⟩, trivial⟩, ⟨⟨0, rfl⟩, trivial⟩, trivial⟩ <| aw 5 49 rfl (op_fieldAddr FI25_0 rfl (add_at _ _ _)) ⟨⟨⟨0, rfl⟩, trivial⟩, ⟨⟨0, rfl⟩, trivial⟩, trivial⟩ <|
         aw 6 113 rfl (op_load 0 1 rfl rfl TI22 rfl (by decide)) ⟨⟨⟨0, rfl⟩, trivial⟩, ⟨⟨0, rfl⟩, trivial⟩, trivial⟩ <| aw 7 241 rfl (op_len (m := l0_0.length) 0 lenm Try.underlying22 rfl rfl) ⟨⟨⟨0, rfl⟩, trivial⟩, ⟨⟨0, rfl⟩, trivial⟩, trivial⟩ <|
         VA.oneG (i := 1) (listed' := LB 16 243) (by kernel_rfl) rfl (o_buildSlice (vals := [(0, .string a1)]) (cells := #[.string a1]) (es := List.map enc_str ([a1] : List ByteArray)) Try.underlying22 TI9 Z9 rfl (by decide) (by decide) (by kernel_rfl) (by kernel_rfl) rfl (flat_map enc_str_ok _)) rfl (by kernel_rfl) (fun _ => ⟨⟨⟨0, rfl⟩, trivial⟩, ⟨⟨0, rfl⟩, trivial⟩, trivial⟩) fun v8346 => VA.oneC (i := 2) (listed' := LB 16 247) (by kernel_rfl) rfl (o_call_b0 FO68 (journal_frames.ok k ([a1] : List ByteArray) v8346 t8347 hA8348) rfl rfl (ltn rfl) (All_of (.cons (.inr (.inl ⟨_, mG 0 rfl, rfl⟩)) .nil)) (by rintro _ _ _ ⟨rfl, rfl, rfl⟩; rfl)) rfl (by kernel_rfl) <|
         ?_
        rintro _ _ _ ⟨rfl, rfl, rfl⟩
        refine ⟨⟨⟨⟨0, rfl⟩, trivial⟩, ⟨⟨0, rfl⟩, trivial⟩, trivial⟩, ?_⟩
        refine aw 3 255 rfl (op_lens Try.underlying9 rfl) ⟨⟨⟨0, rfl⟩, trivial⟩, ⟨⟨0, rfl⟩, trivial⟩, trivial⟩ <| VA.oneC (i := 8) (listed' := LB 16 511) (by kernel_rfl) rfl (o_call0 FO55 (journal_room.ok (l0_0.length : Int) t8349 hA8350) rfl rfl (ltn rfl) (All_of .nil)) rfl (by kernel_rfl) <| ?_
        rintro _ _ _ ⟨rfl, rfl, rfl⟩
        refine ⟨⟨⟨⟨0, rfl⟩, trivial⟩, ⟨⟨0, rfl⟩, trivial⟩, trivial⟩, ?_⟩
        exact aw 9 1023 rfl (op_cmp rfl rfl (congrArg some hb8351)) ⟨⟨⟨0, rfl⟩, trivial⟩, ⟨⟨0, rfl⟩, trivial⟩, trivial⟩ <| aw 10 2047 rfl (mv rfl) ⟨⟨⟨0, rfl⟩, trivial⟩, ⟨⟨0, rfl⟩, trivial⟩, trivial⟩ <| aU 11 4095 rfl rfl ⟨⟨⟨0, rfl⟩, trivial⟩, ⟨⟨0, rfl⟩, trivial⟩, trivial⟩ <|
         aU 12 8191 rfl rfl ⟨⟨⟨0, rfl⟩, trivial⟩, ⟨⟨0, rfl⟩, trivial⟩, trivial⟩ <| aU 13 16383 rfl rfl ⟨⟨⟨0, rfl⟩, trivial⟩, ⟨⟨0, rfl⟩, trivial⟩, trivial⟩ <| aw 14 32767 rfl (op_pick rfl rfl) ⟨⟨⟨0, rfl⟩, trivial⟩, ⟨⟨0, rfl⟩, trivial⟩, trivial⟩ <|
         aw 15 65535 rfl (ag rfl) ⟨⟨⟨0, rfl⟩, trivial⟩, ⟨⟨0, rfl⟩, trivial⟩, trivial⟩ <| VA.done (by kernel_rfl) <| VN.meet0  [] [] trivial ⟨rfl, ⟨rfl, rfl, trivial⟩, trivial, rfl, by decide, rfl, by decide⟩
      intro _
      refine ct <| sr <| vs rfl <| dt <| VC.ret <| VR.block <| VR.then <| ?_
      obtain rfl := Option.some.inj h
      exact VR.fn (rs := [.tmp 4]) [] [] [] rfl (.tmp rfl .nil) ⟨rfl, rfl, rfl⟩ trivial rfl (by decide)
    cases lF c8352 hb8351
    refine VC.letter ((a0_2 == 1099511627776)) fun b8353 hb8353 => VC.join0 (⟨29, [(4, .int .i64 0), (13, .bool b8353)], [], [], []⟩) (True) ?_ ?_
    · refine VC.draw ⟨0, [], [.row v0_0 1 (l0_0.map enc_str)], [(g8318, 27, [v0_0, v0_1, .int .i64 a0_2, .int .i64 a0_3, .int .i64 a0_4, v0_5, v0_6])], []⟩ (by kernel_rfl) rfl (by kernel_rfl) (n := 16) (listed := LB 16 0) <| aw 0 1 rfl (mv rfl) ⟨⟨⟨0, rfl⟩, trivial⟩, ⟨⟨0, rfl⟩, trivial⟩, trivial⟩ <|
       aw 4 17 rfl (op_fieldAddr FI27_0 rfl (add_at _ _ _)) ⟨⟨⟨0, rfl⟩, trivial⟩, ⟨⟨0, rfl⟩, trivial⟩, trivial⟩ <| aw 5 49 rfl (op_fieldAddr FI25_0 rfl (add_at _ _ _)) ⟨⟨⟨0, rfl⟩, trivial⟩, ⟨⟨0, rfl⟩, trivial⟩, trivial⟩ <|
       aw 6 113 rfl (op_load 0 1 rfl rfl TI22 rfl (by decide)) ⟨⟨⟨0, rfl⟩, trivial⟩, ⟨⟨0, rfl⟩, trivial⟩, trivial⟩ <| aw 7 241 rfl (op_len (m := l0_0.length) 0 lenm Try.underlying22 rfl rfl) ⟨⟨⟨0, rfl⟩, trivial⟩, ⟨⟨0, rfl⟩, trivial⟩, trivial⟩ <|
       VA.oneG (i := 1) (listed' := LB 16 243) (by kernel_rfl) rfl (o_buildSlice (vals := [(0, .string a1)]) (cells := #[.string a1]) (es := List.map enc_str ([a1] : List ByteArray)) Try.underlying22 TI9 Z9 rfl (by decide) (by decide) (by kernel_rfl) (by kernel_rfl) rfl (flat_map enc_str_ok _)) rfl (by kernel_rfl) (fun _ => ⟨⟨⟨0, rfl⟩, trivial⟩, ⟨⟨0, rfl⟩, trivial⟩, trivial⟩) fun v8346 => VA.oneC (i := 2) (listed' := LB 16 247) (by kernel_rfl) rfl (o_call_b0 FO68 (journal_frames.ok k ([a1] : List ByteArray) v8346 t8347 hA8348) rfl rfl (ltn rfl) (All_of (.cons (.inr (.inl ⟨_, mG 0 rfl, rfl⟩)) .nil)) (by rintro _ _ _ ⟨rfl, rfl, rfl⟩; rfl)) rfl (by kernel_rfl) <|
       ?_
      rintro _ _ _ ⟨rfl, rfl, rfl⟩
      refine ⟨⟨⟨⟨0, rfl⟩, trivial⟩, ⟨⟨0, rfl⟩, trivial⟩, trivial⟩, ?_⟩
      refine aw 3 255 rfl (op_lens Try.underlying9 rfl) ⟨⟨⟨0, rfl⟩, trivial⟩, ⟨⟨0, rfl⟩, trivial⟩, trivial⟩ <| VA.oneC (i := 8) (listed' := LB 16 511) (by kernel_rfl) rfl (o_call0 FO55 (journal_room.ok (l0_0.length : Int) t8349 hA8350) rfl rfl (ltn rfl) (All_of .nil)) rfl (by kernel_rfl) <| ?_
      rintro _ _ _ ⟨rfl, rfl, rfl⟩
      refine ⟨⟨⟨⟨0, rfl⟩, trivial⟩, ⟨⟨0, rfl⟩, trivial⟩, trivial⟩, ?_⟩
      exact aw 9 1023 rfl (op_cmp rfl rfl (congrArg some hb8351)) ⟨⟨⟨0, rfl⟩, trivial⟩, ⟨⟨0, rfl⟩, trivial⟩, trivial⟩ <| aw 10 2047 rfl (mv rfl) ⟨⟨⟨0, rfl⟩, trivial⟩, ⟨⟨0, rfl⟩, trivial⟩, trivial⟩ <|
       aw 11 4095 rfl (op_fieldAddr FI27_1 rfl (add_at _ _ _)) ⟨⟨⟨0, rfl⟩, trivial⟩, ⟨⟨0, rfl⟩, trivial⟩, trivial⟩ <| aw 12 8191 rfl (op_load 0 1 rfl rfl TI3 rfl (by decide)) ⟨⟨⟨0, rfl⟩, trivial⟩, ⟨⟨0, rfl⟩, trivial⟩, trivial⟩ <|
       aw 13 16383 rfl (op_cmp rfl rfl (congrArg some hb8353)) ⟨⟨⟨0, rfl⟩, trivial⟩, ⟨⟨0, rfl⟩, trivial⟩, trivial⟩ <| aw 14 32767 rfl (op_pick rfl rfl) ⟨⟨⟨0, rfl⟩, trivial⟩, ⟨⟨0, rfl⟩, trivial⟩, trivial⟩ <| aw 15 65535 rfl (ag rfl) ⟨⟨⟨0, rfl⟩, trivial⟩, ⟨⟨0, rfl⟩, trivial⟩, trivial⟩ <|
       VA.done (by kernel_rfl) <| VN.meet0  [] [] trivial ⟨rfl, ⟨rfl, rfl, trivial⟩, trivial, rfl, by decide, rfl, by decide⟩
    intro _
    replace h := iC h
    rcases h with ⟨c8354, h⟩ | ⟨c8354, h⟩
    · obtain rfl : b8353 = true := hb8353.symm.trans (beq_iff_eq.2 c8354)
      refine ct <| sr <| vs rfl <| dt <| VC.ret <| VR.block <| VR.then <| ?_
      obtain rfl := Option.some.inj h
      exact VR.fn (rs := [.tmp 4]) [] [] [] rfl (.tmp rfl .nil) ⟨rfl, rfl, rfl⟩ trivial rfl (by decide)
    obtain rfl : b8353 = false := hb8353.symm.trans (beq_eq_false_iff_ne.2 c8354)
    refine cf <| VC.skip <| VN.block <| tx <| vs rfl <| dt <| VC.ret <| ?_
    obtain rfl := Option.some.inj h
    exact VR.fn (rs := [.tmp 4]) [] [] [] rfl (.tmp rfl .nil) ⟨rfl, rfl, rfl⟩ trivial rfl (by decide)
  obtain rfl := Bool.eq_false_iff.2 c8342
  refine va (op_not rfl rfl) <| vs rfl <| dt <| ct <| sr <| vs rfl <| dt <| VC.ret <| VR.block <| VR.then <| ?_
  obtain rfl := Option.some.inj h
  exact VR.fn (rs := [.tmp 4]) [] [] [] rfl (.tmp rfl .nil) ⟨rfl, rfl, rfl⟩ trivial rfl (by decide)

theorem journal_other.ok (k : Nat) (l0_0 : List ByteArray) (l0_1 : List S55) (a0_2 : Int) (a0_3 : Int) (a0_4 : Int) (l0_5 : List ByteArray) (l0_6 : List ByteArray) (a1 : ByteArray) (v0_0 : Value) (v0_1 : Value) (v0_5 : Value) (v0_6 : Value) (r1 : Int) (r2 : Int) (r3 : ByteArray) (h : journal_other.f k l0_0 l0_1 a0_2 a0_3 a0_4 l0_5 l0_6 a1 = some (r1, r2, r3)) :
    VCalls Try.prog 47 [.agg #[v0_0, v0_1, .int .i64 a0_2, .int .i64 a0_3, .int .i64 a0_4, v0_5, v0_6], .string a1] [.row v0_0 1 (l0_0.map enc_str), .row v0_1 2 (l0_1.map enc55), .row v0_5 1 (l0_5.map enc_str), .row v0_6 1 (l0_6.map enc_str)] (fun v G own => v = .agg #[.int .i64 r1, .int .i64 r2, .string r3] ∧ G = [] ∧ own = []) := by
  refine VCalls.intro Try.func47 rfl (len rfl) fun E hC hW hD hU => ?_
  unfold journal_other.f at h
  refine sr <| sG (o_box rfl (.agg (.f 0 rfl (.f 1 rfl (.c rfl (.c rfl (.c rfl (.f 2 rfl (.f 3 rfl .nil))))))))) fun g8371 => sG (o_alloc Z81 ZL81) fun g8372 => dt <| ?_
  replace h := bd h
  obtain ⟨t8375, hA8376, h⟩ := h
  refine VC.join0 (⟨12, [(4, .pointer (some ⟨g8372, 0, none⟩))], [], [(g8372, 81, [.int .i64 (wrap64 (1 - a0_3)), .int .i64 0, .string t8375])], []⟩) (True) ?_ ?_
  · refine VC.draw ⟨0, [], [], [(g8371, 27, [v0_0, v0_1, .int .i64 a0_2, .int .i64 a0_3, .int .i64 a0_4, v0_5, v0_6])], []⟩ (by kernel_rfl) rfl (by kernel_rfl) (n := 8) (listed := LB 8 0) <| aw 0 1 rfl (op_fieldAddr FI27_2 rfl (add_at _ _ _)) ⟨trivial, ⟨⟨1, rfl⟩, trivial⟩, trivial⟩ <|
     aw 1 3 rfl (op_load 0 1 rfl rfl TI3 rfl (by decide)) ⟨trivial, ⟨⟨1, rfl⟩, trivial⟩, trivial⟩ <| aw 2 7 rfl (op_ari64 rfl rfl rfl) ⟨trivial, ⟨⟨1, rfl⟩, trivial⟩, trivial⟩ <| aw 3 15 rfl (mv rfl) ⟨trivial, ⟨⟨1, rfl⟩, trivial⟩, trivial⟩ <|
     VA.oneG (i := 4) (listed' := LB 8 31) (by kernel_rfl) rfl (o_buildSlice (vals := [(0, .string a1)]) (cells := #[.string a1]) (es := List.map enc_str ([a1] : List ByteArray)) Try.underlying22 TI9 Z9 rfl (by decide) (by decide) (by kernel_rfl) (by kernel_rfl) rfl (flat_map enc_str_ok _)) rfl (by kernel_rfl) (fun _ => ⟨trivial, ⟨⟨1, rfl⟩, trivial⟩, trivial⟩) fun v8374 => VA.oneC (i := 5) (listed' := LB 8 63) (by kernel_rfl) rfl (o_call_b0 FO68 (journal_frames.ok k ([a1] : List ByteArray) v8374 t8375 hA8376) rfl rfl (ltn rfl) (All_of (.cons (.inr (.inl ⟨_, mG 0 rfl, rfl⟩)) .nil)) (by rintro _ _ _ ⟨rfl, rfl, rfl⟩; rfl)) rfl (by kernel_rfl) <|
     ?_
    rintro _ _ _ ⟨rfl, rfl, rfl⟩
    refine ⟨⟨trivial, ⟨⟨1, rfl⟩, trivial⟩, trivial⟩, ?_⟩
    exact aw 6 127 rfl (op_build (vals := [(0, .int .i64 (wrap64 (1 - a0_3))), (1, .int .i64 0), (2, .string t8375)]) (vcs := [(0, [.int .i64 (wrap64 (1 - a0_3))]), (1, [.int .i64 0]), (2, [.string t8375])]) (cells := [.int .i64 (wrap64 (1 - a0_3)), .int .i64 0, .string t8375]) SI81 rfl (.cons ⟨rfl, (.c rfl)⟩ (.cons ⟨rfl, (.c rfl)⟩ (.cons ⟨rfl, (.c rfl)⟩ .nil))) (by kernel_rfl)) ⟨trivial, ⟨⟨1, rfl⟩, trivial⟩, trivial⟩ <|
     VA.one1 (i := 7) (listed' := LB 8 255) (by kernel_rfl) rfl (o_store 0 3 rfl rfl rfl TI81 (.agg (.of rfl)) rfl (len rfl)) rfl (by kernel_rfl) ⟨trivial, ⟨⟨1, rfl⟩, trivial⟩, trivial⟩ <| VA.done (by kernel_rfl) <| VN.meet0  [0] [] trivial ⟨rfl, ⟨rfl, trivial⟩, trivial, rfl, by decide, rfl, by decide⟩
  intro _
  refine VC.ret <| ?_
  simp only [Option.some.injEq, Prod.mk.injEq] at h
  obtain ⟨rfl, rfl, rfl⟩ := h
  exact VR.fn (rs := [.cell 4 81]) [] [] [] rfl (.cell 0 rfl rfl TI81 (fun h => absurd h (by decide)) .nil) ⟨rfl, rfl, rfl⟩ trivial rfl (by decide)

theorem journal_Compact.ok (k : Nat) (l0_0 : List ByteArray) (l0_1 : List S55) (a0_2 : Int) (a0_3 : Int) (a0_4 : Int) (l0_5 : List ByteArray) (l0_6 : List ByteArray) (a1 : ByteArray) (v0_0 : Value) (v0_1 : Value) (v0_5 : Value) (v0_6 : Value) (r1 : List ByteArray) (r2 : List S55) (r3 : Int) (r4 : Int) (r5 : Int) (r6 : List ByteArray) (r7 : List ByteArray) (r8 : Int) (h : journal_Compact.f k l0_0 l0_1 a0_2 a0_3 a0_4 l0_5 l0_6 a1 = some (r1, r2, r3, r4, r5, r6, r7, r8)) :
    VCalls Try.prog 21 [.agg #[v0_0, v0_1, .int .i64 a0_2, .int .i64 a0_3, .int .i64 a0_4, v0_5, v0_6], .string a1] [.row v0_0 1 (l0_0.map enc_str), .row v0_1 2 (l0_1.map enc55), .row v0_5 1 (l0_5.map enc_str), .row v0_6 1 (l0_6.map enc_str)] (fun v G own => ∃ w0 w1 w5 w6 : Value, v = .tuple #[.agg #[w0, w1, .int .i64 r3, .int .i64 r4, .int .i64 r5, w5, w6], .int .i64 r8] ∧ G = [.row w0 1 (r1.map enc_str), .row w1 2 (r2.map enc55)] ∧ own = [(w5, 9, 1, r6.map enc_str), (w6, 9, 1, r7.map enc_str)]) := by
  refine VCalls.intro Try.func21 rfl (len rfl) fun E hC hW hD hU => ?_
  unfold journal_Compact.f at h
  refine sr <| sG (o_box rfl (.agg (.f 0 rfl (.f 1 rfl (.c rfl (.c rfl (.c rfl (.f 2 rfl (.f 3 rfl .nil))))))))) fun g8402 => sG (o_alloc Z27 ZL27) fun g8403 => vs rfl <| ds <| sr <| va (op_load 1 7 rfl rfl TI27 rfl (fun h => absurd h (by decide))) <| vm rfl <| ?_
  replace h := bd h
  obtain ⟨t8412, hA8413, h⟩ := h
  refine sC (o_call0 FO46 (journal_compacts.ok k l0_0 l0_1 a0_2 a0_3 a0_4 l0_5 l0_6 a1 v0_0 v0_1 v0_5 v0_6 t8412 hA8413) rfl rfl (ltn rfl) (All_of (.cons (mG 0 rfl) (.cons (mG 1 rfl) (.cons (mG 2 rfl) (.cons (mG 3 rfl) .nil)))))) <| ?_
  rintro _ _ _ ⟨rfl, rfl, rfl⟩
  refine vs rfl <| nx <| vm rfl <| VL.letter ((t8412 != 0)) fun b8414 hb8414 => va (op_cmp rfl rfl (congrArg some hb8414)) <| dt <| ?_
  replace h := iC h
  rcases h with ⟨c8415, h⟩ | ⟨c8415, h⟩
  · obtain rfl : b8414 = false := hb8414.symm.trans (bne_eq_false_iff_eq.2 c8415)
    refine cf <| sk <| ?_
    replace h := bd h
    obtain ⟨⟨t8416, t8417, t8418⟩, hA8419, h⟩ := h
    dsimp only at h
    replace h := bd h
    obtain ⟨⟨r8420, r8421, t8422, t8423, t8424, r8425, r8426, t8427⟩, hA8428, h⟩ := h
    dsimp only at h
    refine VC.join4 (fun (v8430 : Value) (v8432 : Value) (v8434 : Value) (v8436 : Value) => ⟨21, [(4, .pointer (some ⟨g8403, 0, none⟩)), (5, .int .i64 t8427)], [.row v8430 1 (r8420.map enc_str), .row v8432 2 (r8421.map enc55)], [(g8403, 27, [v8430, v8432, .int .i64 t8422, .int .i64 t8423, .int .i64 t8424, v8434, v8436])], [(v8434, 9, 1, r8425.map enc_str), (v8436, 9, 1, r8426.map enc_str)]⟩) (fun (v8430 : Value) (v8432 : Value) (v8434 : Value) (v8436 : Value) => True) ?_ ?_
    · refine VC.draw ⟨0, [], [], [(g8402, 27, [v0_0, v0_1, .int .i64 a0_2, .int .i64 a0_3, .int .i64 a0_4, v0_5, v0_6])], []⟩ (by kernel_rfl) rfl (by kernel_rfl) (n := 9) (listed := LB 9 0) <|
       aw 0 1 rfl (op_load 0 7 rfl rfl TI27 rfl (fun h => absurd h (by decide))) ⟨trivial, ⟨⟨1, rfl⟩, trivial⟩, trivial⟩ <| aw 1 3 rfl (mv rfl) ⟨trivial, ⟨⟨1, rfl⟩, trivial⟩, trivial⟩ <| aw 3 11 rfl (op_load 0 7 rfl rfl TI27 rfl (fun h => absurd h (by decide))) ⟨trivial, ⟨⟨1, rfl⟩, trivial⟩, trivial⟩ <|
       VA.oneC (i := 2) (listed' := LB 9 15) (by kernel_rfl) rfl (o_call0 FO47 (journal_other.ok k l0_0 l0_1 a0_2 a0_3 a0_4 l0_5 l0_6 a1 v0_0 v0_1 v0_5 v0_6 t8416 t8417 t8418 hA8419) rfl rfl (ltn rfl) (All_of (.cons (mG 0 rfl) (.cons (mG 1 rfl) (.cons (mG 2 rfl) (.cons (mG 3 rfl) .nil)))))) rfl (by kernel_rfl) <|
       ?_
      rintro _ _ _ ⟨rfl, rfl, rfl⟩
      refine ⟨⟨trivial, ⟨⟨1, rfl⟩, trivial⟩, trivial⟩, ?_⟩
      refine VA.oneC (i := 4) (listed' := LB 9 31) (by kernel_rfl) rfl (o_call0 FO45 (journal_plan_sealed.ok k t8416 t8417 t8418 l0_0 l0_1 a0_2 a0_3 a0_4 l0_5 l0_6 v0_0 v0_1 v0_5 v0_6 r8420 r8421 t8422 t8423 t8424 r8425 r8426 t8427 hA8428) rfl rfl (ltn rfl) (All_of (.cons (mG 0 rfl) (.cons (mG 1 rfl) (.cons (mG 2 rfl) (.cons (mG 3 rfl) .nil)))))) rfl (by kernel_rfl) <|
       ?_
      rintro _ _ _ ⟨v8430, v8432, v8434, v8436, rfl, rfl, rfl⟩
      refine ⟨⟨trivial, ⟨⟨1, rfl⟩, trivial⟩, trivial⟩, ?_⟩
      exact VA.more ⟨0, [], [.row v8430 1 (r8420.map enc_str), .row v8432 2 (r8421.map enc55)], [(g8402, 27, [v0_0, v0_1, .int .i64 a0_2, .int .i64 a0_3, .int .i64 a0_4, v0_5, v0_6])], [(v8434, 9, 1, r8425.map enc_str), (v8436, 9, 1, r8426.map enc_str)]⟩ ⟨trivial, ⟨⟨0, rfl⟩, trivial⟩, trivial⟩ <|
       aw 5 63 rfl (op_extract rfl rfl) ⟨⟨⟨0, rfl⟩, ⟨1, rfl⟩, trivial⟩, ⟨⟨1, rfl⟩, trivial⟩, ⟨⟨0, rfl⟩, ⟨1, rfl⟩, trivial⟩⟩ <| aw 6 127 rfl (op_extract rfl rfl) ⟨⟨⟨0, rfl⟩, ⟨1, rfl⟩, trivial⟩, ⟨⟨1, rfl⟩, trivial⟩, ⟨⟨0, rfl⟩, ⟨1, rfl⟩, trivial⟩⟩ <|
       VA.one1 (i := 7) (listed' := LB 9 255) (by kernel_rfl) rfl (o_store 0 7 rfl rfl rfl TI27 (.agg (.f 0 rfl (.f 1 rfl (.c rfl (.c rfl (.c rfl (.r 0 rfl (.r 1 rfl .nil)))))))) rfl (len rfl)) rfl (by kernel_rfl) ⟨⟨⟨0, rfl⟩, ⟨1, rfl⟩, trivial⟩, ⟨⟨1, rfl⟩, trivial⟩, ⟨⟨0, rfl⟩, ⟨1, rfl⟩, trivial⟩⟩ <|
       aw 8 511 rfl (ag rfl) ⟨⟨⟨0, rfl⟩, ⟨1, rfl⟩, trivial⟩, ⟨⟨1, rfl⟩, trivial⟩, ⟨⟨0, rfl⟩, ⟨1, rfl⟩, trivial⟩⟩ <| VA.done (by kernel_rfl) <| VN.meet4 v8430 v8432 v8434 v8436 [0] [0, 1] trivial ⟨rfl, ⟨rfl, rfl, trivial⟩, ⟨⟨0, rfl⟩, ⟨1, rfl⟩, trivial⟩, rfl, by decide, rfl, by decide⟩
    intro v8430 v8432 v8434 v8436 _
    refine VC.ret <| ?_
    simp only [Option.some.injEq, Prod.mk.injEq] at h
    obtain ⟨rfl, rfl, rfl, rfl, rfl, rfl, rfl, rfl⟩ := h
    exact VR.fn (rs := [.cell 4 27, .tmp 5]) [.row v8430 1 (r8420.map enc_str), .row v8432 2 (r8421.map enc55)] [(v8434, 9, 1, r8425.map enc_str), (v8436, 9, 1, r8426.map enc_str)] [0, 1] rfl (.cell 0 rfl rfl TI27 (fun h => absurd h (by decide)) (.tmp rfl .nil)) ⟨v8430, v8432, v8434, v8436, rfl, rfl, rfl⟩ ⟨⟨0, rfl⟩, ⟨1, rfl⟩, trivial⟩ rfl (by decide)
  obtain rfl : b8414 = true := hb8414.symm.trans (bne_iff_ne.2 c8415)
  refine ct <| sr <| va (op_build (vals := []) (vcs := []) (cells := [.slice none 0 0, .slice none 0 0, .int .i64 0, .int .i64 0, .int .i64 0, .slice none 0 0, .slice none 0 0]) SI27 rfl .nil (by kernel_rfl)) <| vm rfl <| s1 (o_store 0 7 rfl rfl rfl TI27 (.agg (.of rfl)) rfl (len rfl)) <| vs rfl <|
   dt <| VC.ret <| VR.then <| ?_
  simp only [Option.some.injEq, Prod.mk.injEq] at h
  obtain ⟨rfl, rfl, rfl, rfl, rfl, rfl, rfl, rfl⟩ := h
  exact VR.nilFact' 1 <| VR.nilFact' 2 <| VR.nilRow' 9 1 <| VR.nilRow' 9 1 <|
   VR.fn (rs := [.cell 4 27, .tmp 5]) [.row (.slice none 0 0) 1 (([] : List ByteArray).map enc_str), .row (.slice none 0 0) 2 (([] : List S55).map enc55)] [((.slice none 0 0), 9, 1, ([] : List ByteArray).map enc_str), ((.slice none 0 0), 9, 1, ([] : List ByteArray).map enc_str)] [1, 0] rfl (.cell 0 rfl rfl TI27 (fun h => absurd h (by decide)) (.tmp rfl .nil)) ⟨(.slice none 0 0), (.slice none 0 0), (.slice none 0 0), (.slice none 0 0), rfl, rfl, rfl⟩ ⟨⟨1, rfl⟩, ⟨0, rfl⟩, trivial⟩ rfl (by decide)

end Go.Proofs.Ytipeglbeongfmaa.PJournalLives
