/- Written by a program of this repo: what the program's functions do, each as a Lean function, shown of the loaded code; or a statement's row over that; no condition of its own. -/
import Derived.Test.YtipeglbeongfmaaPJournalKeepsx11
namespace Go.Proofs.Ytipeglbeongfmaa.PJournalKeeps
open Go Go.RowKit Go.Proofs.YtipeglbeongfmaaV
set_option linter.unusedVariables false
set_option linter.unusedSimpArgs false
set_option maxHeartbeats 4000000
set_option maxRecDepth 100000

theorem journal_Append.ok (k : Nat) (l0_0 : List ByteArray) (l0_1 : List S55) (a0_2 : Int) (a0_3 : Int) (a0_4 : Int) (l0_5 : List ByteArray) (l0_6 : List ByteArray) (a1 : ByteArray) (v0_0 : Value) (v0_1 : Value) (v0_5 : Value) (v0_6 : Value) (r1 : List ByteArray) (r2 : List S55) (r3 : Int) (r4 : Int) (r5 : Int) (r6 : List ByteArray) (r7 : List ByteArray) (r8 : Int) (h : journal_Append.f k l0_0 l0_1 a0_2 a0_3 a0_4 l0_5 l0_6 a1 = some (r1, r2, r3, r4, r5, r6, r7, r8)) :
    VCalls Try.prog 18 [.agg #[v0_0, v0_1, .int .i64 a0_2, .int .i64 a0_3, .int .i64 a0_4, v0_5, v0_6], .string a1] [.row v0_0 1 (l0_0.map enc_str), .row v0_1 2 (l0_1.map enc55), .row v0_5 1 (l0_5.map enc_str), .row v0_6 1 (l0_6.map enc_str)] (fun v G own => ∃ w0 w1 w5 w6 : Value, v = .tuple #[.agg #[w0, w1, .int .i64 r3, .int .i64 r4, .int .i64 r5, w5, w6], .int .i64 r8] ∧ G = [.row w0 1 (r1.map enc_str), .row w1 2 (r2.map enc55), .row w5 1 (r6.map enc_str), .row w6 1 (r7.map enc_str)] ∧ own = []) := by
  refine VCalls.intro Try.func18 rfl (len rfl) fun E hC hW hD hU => ?_
  unfold journal_Append.f at h
  refine sr <| sG (o_box rfl (.agg (.f 0 rfl (.f 1 rfl (.c rfl (.c rfl (.c rfl (.f 2 rfl (.f 3 rfl .nil))))))))) fun g9087 => sG (o_alloc Z27 ZL27) fun g9088 => vs rfl <| ds <| sr <| va (op_load 1 7 rfl rfl TI27 rfl (fun h => absurd h (by decide))) <| ?_
  replace h := bd h
  obtain ⟨t9102, hA9103, h⟩ := h
  refine sC (o_call0 FO12 (journal_Right.ok k l0_0 l0_1 a0_2 a0_3 a0_4 l0_5 l0_6 v0_0 v0_1 v0_5 v0_6 t9102 hA9103) rfl rfl (ltn rfl) (All_of (.cons (mG 0 rfl) (.cons (mG 1 rfl) (.cons (mG 2 rfl) (.cons (mG 3 rfl) .nil)))))) <| ?_
  rintro _ _ _ ⟨rfl, rfl, rfl⟩
  replace h := iC h
  rcases h with ⟨c9104, h⟩ | ⟨c9104, h⟩
  · obtain rfl := c9104
    refine va (op_not rfl rfl) <| dt <| cf <| sk <| sr <| va (op_fieldAddr FI27_4 rfl (add_at _ _ _)) <| va (op_load 1 1 rfl rfl TI22 rfl (by decide)) <| ?_
    replace h := bd h
    obtain ⟨r9105, hA9106, h⟩ := h
    refine sC (o_call0 FO43 (slices_Clip_string_string.ok l0_5 v0_5 r9105 hA9106) rfl rfl (ltn rfl) (All_of (.cons (mG 2 rfl) .nil))) <| ?_
    rintro _ _ _ ⟨A9107, rfl, rfl, rfl⟩
    refine vm rfl <| sG (o_buildSlice (vals := [(0, .string a1)]) (cells := #[.string a1]) (es := List.map enc_str ([a1] : List ByteArray)) Try.underlying22 TI9 Z9 rfl (by decide) (by decide) (by kernel_rfl) (by kernel_rfl) rfl (flat_map enc_str_ok _)) fun v9110 => ?_
    replace h := iN h
    obtain ⟨c9111, h⟩ := h
    refine sG (o_append_clip 0 appm Try.underlying22 EI9 rfl rfl rfl (.inr ⟨0, _, rfl⟩) (bndm c9111)) fun v9112 => vs rfl <| ds <| sr <| va (op_load 1 7 rfl rfl TI27 rfl (fun h => absurd h (by decide))) <| vm rfl <| ?_
    replace h := bd h
    obtain ⟨t9122, hA9123, h⟩ := h
    refine sC (o_call0 FO35 (journal_waits.ok k l0_0 l0_1 a0_2 a0_3 a0_4 l0_5 l0_6 (r9105 ++ ([a1] : List ByteArray)) v0_0 v0_1 v0_5 v0_6 v9112 t9122 hA9123) rfl rfl (ltn rfl) (All_of (.cons (mG 2 rfl) (.cons (mG 3 rfl) (.cons (mG 4 rfl) (.cons (mG 5 rfl) (.cons (mG 0 rfl) .nil))))))) <| ?_
    rintro _ _ _ ⟨rfl, rfl, rfl⟩
    refine vs rfl <| nx <| vm rfl <| VL.letter ((t9122 != 0)) fun b9124 hb9124 => va (op_cmp rfl rfl (congrArg some hb9124)) <| dt <| ?_
    replace h := iC h
    rcases h with ⟨c9125, h⟩ | ⟨c9125, h⟩
    · obtain rfl : b9124 = false := hb9124.symm.trans (bne_eq_false_iff_eq.2 c9125)
      refine cf <| sk <| sr <| vm rfl <| va (op_fieldAddr FI27_4 rfl (add_at _ _ _)) <| s1 (o_store 1 1 rfl rfl rfl TI22 (.f 0 rfl) rfl (len rfl)) <| nx <| va (op_load 1 7 rfl rfl TI27 rfl (fun h => absurd h (by decide))) <|
       s1 (o_store 0 7 rfl rfl rfl TI27 (.agg (.f 2 rfl (.f 3 rfl (.c rfl (.c rfl (.c rfl (.f 0 rfl (.f 5 rfl .nil)))))))) rfl (len rfl)) <| vs rfl <| dt <| VC.ret <| ?_
      simp only [Option.some.injEq, Prod.mk.injEq] at h
      obtain ⟨rfl, rfl, rfl, rfl, rfl, rfl, rfl, rfl⟩ := h
      exact VR.fn (rs := [.cell 4 27, .tmp 5]) [.row v0_0 1 (l0_0.map enc_str), .row v0_1 2 (l0_1.map enc55), .row v9112 1 ((r9105 ++ ([a1] : List ByteArray)).map enc_str), .row v0_6 1 (l0_6.map enc_str)] [] [] rfl (.cell 0 rfl rfl TI27 (fun h => absurd h (by decide)) (.tmp rfl .nil)) ⟨v0_0, v0_1, v9112, v0_6, rfl, rfl, rfl⟩ ⟨⟨2, rfl⟩, ⟨3, rfl⟩, ⟨0, rfl⟩, ⟨5, rfl⟩, trivial⟩ rfl (by decide)
    obtain rfl : b9124 = true := hb9124.symm.trans (bne_iff_ne.2 c9125)
    refine ct <| sr <| va (op_build (vals := []) (vcs := []) (cells := [.slice none 0 0, .slice none 0 0, .int .i64 0, .int .i64 0, .int .i64 0, .slice none 0 0, .slice none 0 0]) SI27 rfl .nil (by kernel_rfl)) <| vm rfl <| s1 (o_store 0 7 rfl rfl rfl TI27 (.agg (.of rfl)) rfl (len rfl)) <| vs rfl <|
     dt <| VC.ret <| VR.then <| ?_
    simp only [Option.some.injEq, Prod.mk.injEq] at h
    obtain ⟨rfl, rfl, rfl, rfl, rfl, rfl, rfl, rfl⟩ := h
    exact VR.nilFact' 1 <| VR.nilFact' 2 <| VR.nilFact' 1 <| VR.nilFact' 1 <|
     VR.fn (rs := [.cell 4 27, .tmp 5]) [.row (.slice none 0 0) 1 (([] : List ByteArray).map enc_str), .row (.slice none 0 0) 2 (([] : List S55).map enc55), .row (.slice none 0 0) 1 (([] : List ByteArray).map enc_str), .row (.slice none 0 0) 1 (([] : List ByteArray).map enc_str)] [] [] rfl (.cell 0 rfl rfl TI27 (fun h => absurd h (by decide)) (.tmp rfl .nil)) ⟨(.slice none 0 0), (.slice none 0 0), (.slice none 0 0), (.slice none 0 0), rfl, rfl, rfl⟩ ⟨⟨3, rfl⟩, ⟨2, rfl⟩, ⟨1, rfl⟩, ⟨0, rfl⟩, trivial⟩ rfl (by decide)
  obtain rfl := Bool.eq_false_iff.2 c9104
  refine va (op_not rfl rfl) <| dt <| ct <| sr <| va (op_build (vals := []) (vcs := []) (cells := [.slice none 0 0, .slice none 0 0, .int .i64 0, .int .i64 0, .int .i64 0, .slice none 0 0, .slice none 0 0]) SI27 rfl .nil (by kernel_rfl)) <|
   s1 (o_store 0 7 rfl rfl rfl TI27 (.agg (.of rfl)) rfl (len rfl)) <| vs rfl <| dt <| VC.ret <| VR.then <| ?_
  simp only [Option.some.injEq, Prod.mk.injEq] at h
  obtain ⟨rfl, rfl, rfl, rfl, rfl, rfl, rfl, rfl⟩ := h
  exact VR.nilFact' 1 <| VR.nilFact' 2 <| VR.nilFact' 1 <| VR.nilFact' 1 <|
   VR.fn (rs := [.cell 4 27, .tmp 5]) [.row (.slice none 0 0) 1 (([] : List ByteArray).map enc_str), .row (.slice none 0 0) 2 (([] : List S55).map enc55), .row (.slice none 0 0) 1 (([] : List ByteArray).map enc_str), .row (.slice none 0 0) 1 (([] : List ByteArray).map enc_str)] [] [] rfl (.cell 0 rfl rfl TI27 (fun h => absurd h (by decide)) (.tmp rfl .nil)) ⟨(.slice none 0 0), (.slice none 0 0), (.slice none 0 0), (.slice none 0 0), rfl, rfl, rfl⟩ ⟨⟨3, rfl⟩, ⟨2, rfl⟩, ⟨1, rfl⟩, ⟨0, rfl⟩, trivial⟩ rfl (by decide)

theorem journal_plan_sealed.ok (k : Nat) (a0_0 : Int) (a0_1 : Int) (a0_2 : ByteArray) (l1_0 : List ByteArray) (l1_1 : List S55) (a1_2 : Int) (a1_3 : Int) (a1_4 : Int) (l1_5 : List ByteArray) (l1_6 : List ByteArray) (v1_0 : Value) (v1_1 : Value) (v1_5 : Value) (v1_6 : Value) (r1 : List ByteArray) (r2 : List S55) (r3 : Int) (r4 : Int) (r5 : Int) (r6 : List ByteArray) (r7 : List ByteArray) (r8 : Int) (h : journal_plan_sealed.f k a0_0 a0_1 a0_2 l1_0 l1_1 a1_2 a1_3 a1_4 l1_5 l1_6 = some (r1, r2, r3, r4, r5, r6, r7, r8)) :
    VCalls Try.prog 45 [.agg #[.int .i64 a0_0, .int .i64 a0_1, .string a0_2], .agg #[v1_0, v1_1, .int .i64 a1_2, .int .i64 a1_3, .int .i64 a1_4, v1_5, v1_6]] [.row v1_0 1 (l1_0.map enc_str), .row v1_1 2 (l1_1.map enc55), .row v1_5 1 (l1_5.map enc_str), .row v1_6 1 (l1_6.map enc_str)] (fun v G own => ∃ w0 w1 w5 w6 : Value, v = .tuple #[.agg #[w0, w1, .int .i64 r3, .int .i64 r4, .int .i64 r5, w5, w6], .int .i64 r8] ∧ G = [.row w0 1 (r1.map enc_str), .row w1 2 (r2.map enc55)] ∧ own = [(w5, 9, 1, r6.map enc_str), (w6, 9, 1, r7.map enc_str)]) := by
  refine VCalls.intro Try.func45 rfl (len rfl) fun E hC hW hD hU => ?_
  unfold journal_plan_sealed.f at h
  refine sr <| sG (o_box rfl (.agg (.of rfl))) fun g9233 => sG (o_box rfl (.agg (.f 0 rfl (.f 1 rfl (.c rfl (.c rfl (.c rfl (.f 2 rfl (.f 3 rfl .nil))))))))) fun g9234 => sG (o_alloc Z27 ZL27) fun g9235 => vs rfl <| nx <| va (op_load 2 3 rfl rfl TI81 rfl (fun h => absurd h (by decide))) <|
   va (op_load 1 7 rfl rfl TI27 rfl (fun h => absurd h (by decide))) <| ?_
  replace h := bd h
  obtain ⟨⟨r9236, r9237⟩, hA9238, h⟩ := h
  dsimp only at h
  refine sC (o_call0 FO49 (journal_plan_second.ok k a0_0 a0_1 a0_2 l1_0 l1_1 a1_2 a1_3 a1_4 l1_5 l1_6 v1_0 v1_1 v1_5 v1_6 r9236 r9237 hA9238) rfl rfl (ltn rfl) (All_of (.cons (mG 0 rfl) (.cons (mG 1 rfl) (.cons (mG 2 rfl) (.cons (mG 3 rfl) .nil)))))) <| ?_
  rintro _ _ _ ⟨v9240, v9242, rfl, rfl, rfl⟩
  replace h := bd h
  obtain ⟨⟨r9243, r9244, t9245⟩, hA9246, h⟩ := h
  dsimp only at h
  refine sC (o_call0 FO41 (disk_Flush.ok k r9236 r9237 v9240 v9242 r9243 r9244 t9245 hA9246) rfl rfl (ltn rfl) (All_of (.cons (mG 0 rfl) (.cons (mG 1 rfl) .nil)))) <| ?_
  rintro _ _ _ ⟨v9248, v9250, rfl, rfl, rfl⟩
  refine vm rfl <| va (op_extract rfl rfl) <| va (op_extract rfl rfl) <| sG (o_alloc Z25 ZL25) fun g9251 => s1 (o_store 0 2 rfl rfl rfl TI25 (.agg (.r 0 rfl (.r 1 rfl .nil))) rfl (len rfl)) <| vs rfl <| nx <| va (op_load 0 2 rfl rfl TI25 rfl (fun h => absurd h (by decide))) <| VL.freezeRow' 0 rfl <|
   VL.freezeRow' 0 rfl <| ?_
  replace h := bd h
  obtain ⟨⟨r9252, r9253, t9254, t9255, t9256, r9257, r9258, t9259⟩, hA9260, h⟩ := h
  dsimp only at h
  refine sC (o_call0 FO9 (journal_Open.ok k r9243 r9244 v9248 v9250 r9252 r9253 t9254 t9255 t9256 r9257 r9258 t9259 hA9260) rfl rfl (ltn rfl) (All_of (.cons (mG 1 rfl) (.cons (mG 0 rfl) .nil)))) <| ?_
  rintro _ _ _ ⟨v9262, v9264, v9266, v9268, rfl, rfl, rfl⟩
  refine va (op_extract rfl rfl) <| va (op_extract rfl rfl) <| s1 (o_store 1 7 rfl rfl rfl TI27 (.agg (.f 0 rfl (.f 1 rfl (.c rfl (.c rfl (.c rfl (.r 0 rfl (.r 1 rfl .nil)))))))) rfl (len rfl)) <| vs rfl <| dt <| VC.ret <| ?_
  simp only [Option.some.injEq, Prod.mk.injEq] at h
  obtain ⟨rfl, rfl, rfl, rfl, rfl, rfl, rfl, rfl⟩ := h
  exact VR.fn (rs := [.cell 4 27, .tmp 5]) [.row v9262 1 (r9252.map enc_str), .row v9264 2 (r9253.map enc55)] [(v9266, 9, 1, r9257.map enc_str), (v9268, 9, 1, r9258.map enc_str)] [0, 1] rfl (.cell 1 rfl rfl TI27 (fun h => absurd h (by decide)) (.tmp rfl .nil)) ⟨v9262, v9264, v9266, v9268, rfl, rfl, rfl⟩ ⟨⟨0, rfl⟩, ⟨1, rfl⟩, trivial⟩ rfl (by decide)

theorem journal_Commit.ok (k : Nat) (l0_0 : List ByteArray) (l0_1 : List S55) (a0_2 : Int) (a0_3 : Int) (a0_4 : Int) (l0_5 : List ByteArray) (l0_6 : List ByteArray) (v0_0 : Value) (v0_1 : Value) (v0_5 : Value) (v0_6 : Value) (r1 : List ByteArray) (r2 : List S55) (r3 : Int) (r4 : Int) (r5 : Int) (r6 : List ByteArray) (r7 : List ByteArray) (r8 : Int) (h : journal_Commit.f k l0_0 l0_1 a0_2 a0_3 a0_4 l0_5 l0_6 = some (r1, r2, r3, r4, r5, r6, r7, r8)) :
    VCalls Try.prog 19 [.agg #[v0_0, v0_1, .int .i64 a0_2, .int .i64 a0_3, .int .i64 a0_4, v0_5, v0_6]] [.row v0_0 1 (l0_0.map enc_str), .row v0_1 2 (l0_1.map enc55), .row v0_5 1 (l0_5.map enc_str), .row v0_6 1 (l0_6.map enc_str)] (fun v G own => ∃ w0 w1 w5 w6 : Value, v = .tuple #[.agg #[w0, w1, .int .i64 r3, .int .i64 r4, .int .i64 r5, w5, w6], .int .i64 r8] ∧ G = [.row w0 1 (r1.map enc_str), .row w1 2 (r2.map enc55)] ∧ own = [(w5, 9, 1, r6.map enc_str), (w6, 9, 1, r7.map enc_str)]) := by
  refine VCalls.intro Try.func19 rfl (len rfl) fun E hC hW hD hU => ?_
  unfold journal_Commit.f at h
  refine sr <| sG (o_box rfl (.agg (.f 0 rfl (.f 1 rfl (.c rfl (.c rfl (.c rfl (.f 2 rfl (.f 3 rfl .nil))))))))) fun g9290 => sG (o_alloc Z27 ZL27) fun g9291 => vs rfl <| ds <| VC.block <| sr <| va (op_load 1 7 rfl rfl TI27 rfl (fun h => absurd h (by decide))) <| ?_
  replace h := bd h
  obtain ⟨t9311, hA9312, h⟩ := h
  refine sC (o_call0 FO12 (journal_Right.ok k l0_0 l0_1 a0_2 a0_3 a0_4 l0_5 l0_6 v0_0 v0_1 v0_5 v0_6 t9311 hA9312) rfl rfl (ltn rfl) (All_of (.cons (mG 0 rfl) (.cons (mG 1 rfl) (.cons (mG 2 rfl) (.cons (mG 3 rfl) .nil)))))) <| ?_
  rintro _ _ _ ⟨rfl, rfl, rfl⟩
  replace h := iC h
  rcases h with ⟨c9313, h⟩ | ⟨c9313, h⟩
  · obtain rfl := c9313
    refine va (op_not rfl rfl) <| vs rfl <| dt <| cf <| sr <| va (op_fieldAddr FI27_1 rfl (add_at _ _ _)) <| va (op_load 1 1 rfl rfl TI3 rfl (by decide)) <| VL.letter ((a0_2 == 1099511627776)) fun b9314 hb9314 => va (op_cmp rfl rfl (congrArg some hb9314)) <| vs rfl <| dt <| ?_
    replace h := iC h
    rcases h with ⟨c9315, h⟩ | ⟨c9315, h⟩
    · obtain rfl : b9314 = true := hb9314.symm.trans (beq_iff_eq.2 c9315)
      refine ct <| sr <| va (op_build (vals := []) (vcs := []) (cells := [.slice none 0 0, .slice none 0 0, .int .i64 0, .int .i64 0, .int .i64 0, .slice none 0 0, .slice none 0 0]) SI27 rfl .nil (by kernel_rfl)) <| s1 (o_store 0 7 rfl rfl rfl TI27 (.agg (.of rfl)) rfl (len rfl)) <| vs rfl <| dt <|
       VC.ret <| VR.block <| VR.then <| ?_
      simp only [Option.some.injEq, Prod.mk.injEq] at h
      obtain ⟨rfl, rfl, rfl, rfl, rfl, rfl, rfl, rfl⟩ := h
      exact VR.nilFact' 1 <| VR.nilFact' 2 <| VR.nilRow' 9 1 <| VR.nilRow' 9 1 <|
       VR.fn (rs := [.cell 2 27, .tmp 3]) [.row (.slice none 0 0) 1 (([] : List ByteArray).map enc_str), .row (.slice none 0 0) 2 (([] : List S55).map enc55)] [((.slice none 0 0), 9, 1, ([] : List ByteArray).map enc_str), ((.slice none 0 0), 9, 1, ([] : List ByteArray).map enc_str)] [1, 0] rfl (.cell 0 rfl rfl TI27 (fun h => absurd h (by decide)) (.tmp rfl .nil)) ⟨(.slice none 0 0), (.slice none 0 0), (.slice none 0 0), (.slice none 0 0), rfl, rfl, rfl⟩ ⟨⟨1, rfl⟩, ⟨0, rfl⟩, trivial⟩ rfl (by decide)
    obtain rfl : b9314 = false := hb9314.symm.trans (beq_eq_false_iff_ne.2 c9315)
    refine cf <| VC.skip <| VN.block <| th <| ?_
    replace h := bd h
    obtain ⟨⟨t9320, t9321, t9322⟩, hA9323, h⟩ := h
    dsimp only at h
    replace h := bd h
    obtain ⟨⟨r9324, r9325, t9326, t9327, t9328, r9329, r9330, t9331⟩, hA9332, h⟩ := h
    dsimp only at h
    refine VC.join4 (fun (v9334 : Value) (v9336 : Value) (v9338 : Value) (v9340 : Value) => ⟨20, [(2, .pointer (some ⟨g9291, 0, none⟩)), (3, .int .i64 t9331)], [.row v9334 1 (r9324.map enc_str), .row v9336 2 (r9325.map enc55)], [(g9291, 27, [v9334, v9336, .int .i64 t9326, .int .i64 t9327, .int .i64 t9328, v9338, v9340])], [(v9338, 9, 1, r9329.map enc_str), (v9340, 9, 1, r9330.map enc_str)]⟩) (fun (v9334 : Value) (v9336 : Value) (v9338 : Value) (v9340 : Value) => True) ?_ ?_
    · refine VC.draw ⟨0, [], [], [(g9290, 27, [v0_0, v0_1, .int .i64 a0_2, .int .i64 a0_3, .int .i64 a0_4, v0_5, v0_6])], []⟩ (by kernel_rfl) rfl (by kernel_rfl) (n := 8) (listed := LB 8 0) <|
       aw 0 1 rfl (op_load 0 7 rfl rfl TI27 rfl (fun h => absurd h (by decide))) ⟨trivial, ⟨⟨1, rfl⟩, trivial⟩, trivial⟩ <| aw 2 5 rfl (op_load 0 7 rfl rfl TI27 rfl (fun h => absurd h (by decide))) ⟨trivial, ⟨⟨1, rfl⟩, trivial⟩, trivial⟩ <|
       VA.oneC (i := 1) (listed' := LB 8 7) (by kernel_rfl) rfl (o_call0 FO44 (journal_groups.ok k l0_0 l0_1 a0_2 a0_3 a0_4 l0_5 l0_6 v0_0 v0_1 v0_5 v0_6 t9320 t9321 t9322 hA9323) rfl rfl (ltn rfl) (All_of (.cons (mG 0 rfl) (.cons (mG 1 rfl) (.cons (mG 2 rfl) (.cons (mG 3 rfl) .nil)))))) rfl (by kernel_rfl) <|
       ?_
      rintro _ _ _ ⟨rfl, rfl, rfl⟩
      refine ⟨⟨trivial, ⟨⟨1, rfl⟩, trivial⟩, trivial⟩, ?_⟩
      refine VA.oneC (i := 3) (listed' := LB 8 15) (by kernel_rfl) rfl (o_call0 FO45 (journal_plan_sealed.ok k t9320 t9321 t9322 l0_0 l0_1 a0_2 a0_3 a0_4 l0_5 l0_6 v0_0 v0_1 v0_5 v0_6 r9324 r9325 t9326 t9327 t9328 r9329 r9330 t9331 hA9332) rfl rfl (ltn rfl) (All_of (.cons (mG 0 rfl) (.cons (mG 1 rfl) (.cons (mG 2 rfl) (.cons (mG 3 rfl) .nil)))))) rfl (by kernel_rfl) <|
       ?_
      rintro _ _ _ ⟨v9334, v9336, v9338, v9340, rfl, rfl, rfl⟩
      refine ⟨⟨trivial, ⟨⟨1, rfl⟩, trivial⟩, trivial⟩, ?_⟩
      exact VA.more ⟨0, [], [.row v9334 1 (r9324.map enc_str), .row v9336 2 (r9325.map enc55)], [(g9290, 27, [v0_0, v0_1, .int .i64 a0_2, .int .i64 a0_3, .int .i64 a0_4, v0_5, v0_6])], [(v9338, 9, 1, r9329.map enc_str), (v9340, 9, 1, r9330.map enc_str)]⟩ ⟨trivial, ⟨⟨0, rfl⟩, trivial⟩, trivial⟩ <|
       aw 4 31 rfl (op_extract rfl rfl) ⟨⟨⟨0, rfl⟩, ⟨1, rfl⟩, trivial⟩, ⟨⟨1, rfl⟩, trivial⟩, ⟨⟨0, rfl⟩, ⟨1, rfl⟩, trivial⟩⟩ <| aw 5 63 rfl (op_extract rfl rfl) ⟨⟨⟨0, rfl⟩, ⟨1, rfl⟩, trivial⟩, ⟨⟨1, rfl⟩, trivial⟩, ⟨⟨0, rfl⟩, ⟨1, rfl⟩, trivial⟩⟩ <|
       VA.one1 (i := 6) (listed' := LB 8 127) (by kernel_rfl) rfl (o_store 0 7 rfl rfl rfl TI27 (.agg (.f 0 rfl (.f 1 rfl (.c rfl (.c rfl (.c rfl (.r 0 rfl (.r 1 rfl .nil)))))))) rfl (len rfl)) rfl (by kernel_rfl) ⟨⟨⟨0, rfl⟩, ⟨1, rfl⟩, trivial⟩, ⟨⟨1, rfl⟩, trivial⟩, ⟨⟨0, rfl⟩, ⟨1, rfl⟩, trivial⟩⟩ <|
       aw 7 255 rfl (ag rfl) ⟨⟨⟨0, rfl⟩, ⟨1, rfl⟩, trivial⟩, ⟨⟨1, rfl⟩, trivial⟩, ⟨⟨0, rfl⟩, ⟨1, rfl⟩, trivial⟩⟩ <| VA.done (by kernel_rfl) <| VN.meet4 v9334 v9336 v9338 v9340 [0] [0, 1] trivial ⟨rfl, ⟨rfl, rfl, trivial⟩, ⟨⟨0, rfl⟩, ⟨1, rfl⟩, trivial⟩, rfl, by decide, rfl, by decide⟩
    intro v9334 v9336 v9338 v9340 _
    refine VC.ret <| ?_
    simp only [Option.some.injEq, Prod.mk.injEq] at h
    obtain ⟨rfl, rfl, rfl, rfl, rfl, rfl, rfl, rfl⟩ := h
    exact VR.fn (rs := [.cell 2 27, .tmp 3]) [.row v9334 1 (r9324.map enc_str), .row v9336 2 (r9325.map enc55)] [(v9338, 9, 1, r9329.map enc_str), (v9340, 9, 1, r9330.map enc_str)] [0, 1] rfl (.cell 0 rfl rfl TI27 (fun h => absurd h (by decide)) (.tmp rfl .nil)) ⟨v9334, v9336, v9338, v9340, rfl, rfl, rfl⟩ ⟨⟨0, rfl⟩, ⟨1, rfl⟩, trivial⟩ rfl (by decide)
  obtain rfl := Bool.eq_false_iff.2 c9313
  refine va (op_not rfl rfl) <| vs rfl <| dt <| ct <| sr <| va (op_build (vals := []) (vcs := []) (cells := [.slice none 0 0, .slice none 0 0, .int .i64 0, .int .i64 0, .int .i64 0, .slice none 0 0, .slice none 0 0]) SI27 rfl .nil (by kernel_rfl)) <|
   s1 (o_store 0 7 rfl rfl rfl TI27 (.agg (.of rfl)) rfl (len rfl)) <| vs rfl <| dt <| VC.ret <| VR.block <| VR.then <| ?_
  simp only [Option.some.injEq, Prod.mk.injEq] at h
  obtain ⟨rfl, rfl, rfl, rfl, rfl, rfl, rfl, rfl⟩ := h
  exact VR.nilFact' 1 <| VR.nilFact' 2 <| VR.nilRow' 9 1 <| VR.nilRow' 9 1 <|
   VR.fn (rs := [.cell 2 27, .tmp 3]) [.row (.slice none 0 0) 1 (([] : List ByteArray).map enc_str), .row (.slice none 0 0) 2 (([] : List S55).map enc55)] [((.slice none 0 0), 9, 1, ([] : List ByteArray).map enc_str), ((.slice none 0 0), 9, 1, ([] : List ByteArray).map enc_str)] [1, 0] rfl (.cell 0 rfl rfl TI27 (fun h => absurd h (by decide)) (.tmp rfl .nil)) ⟨(.slice none 0 0), (.slice none 0 0), (.slice none 0 0), (.slice none 0 0), rfl, rfl, rfl⟩ ⟨⟨1, rfl⟩, ⟨0, rfl⟩, trivial⟩ rfl (by decide)

theorem tarrylaw05_alive.ok (k : Nat)   (r1 : Bool) (h : tarrylaw05_alive.f k = some r1) :
    VCalls Try.prog 14 [] [] (fun v G own => v = .bool r1 ∧ G = [] ∧ own = []) := by
  refine VCalls.intro Try.func14 rfl (len rfl) fun E hC hW hD hU => ?_
  unfold tarrylaw05_alive.f at h
  refine sr <| vs rfl <| nx <| ?_
  replace h := bd h
  obtain ⟨⟨r9022, r9023, t9024, t9025, t9026, r9027, r9028, t9029⟩, hA9030, h⟩ := h
  dsimp only at h
  refine sC (o_call0 FO15 (journal_Format.ok k 8 r9022 r9023 t9024 t9025 t9026 r9027 r9028 t9029 hA9030) rfl rfl (ltn rfl) (All_of .nil)) <| ?_
  rintro _ _ _ ⟨v9032, v9034, v9036, v9038, rfl, rfl, rfl⟩
  refine vm rfl <| va (op_extract rfl rfl) <| va (op_extract rfl rfl) <| sG (o_alloc Z27 ZL27) fun g9039 => s1 (o_store 0 7 rfl rfl rfl TI27 (.agg (.f 0 rfl (.f 1 rfl (.c rfl (.c rfl (.c rfl (.r 0 rfl (.r 1 rfl .nil)))))))) rfl (len rfl)) <| vs rfl <| nx <|
   va (op_load 0 7 rfl rfl TI27 rfl (fun h => absurd h (by decide))) <| VL.freezeRow' 0 rfl <| VL.freezeRow' 0 rfl <| ?_
  replace h := bd h
  obtain ⟨⟨r9134, r9135, t9136, t9137, t9138, r9139, r9140, t9141⟩, hA9142, h⟩ := h
  dsimp only at h
  refine sC (o_call0 FO18 (journal_Append.ok k r9022 r9023 t9024 t9025 t9026 r9027 r9028 (⟨#[97]⟩ : ByteArray) v9032 v9034 v9036 v9038 r9134 r9135 t9136 t9137 t9138 r9139 r9140 t9141 hA9142) rfl rfl (ltn rfl) (All_of (.cons (mG 2 rfl) (.cons (mG 3 rfl) (.cons (mG 1 rfl) (.cons (mG 0 rfl) .nil)))))) <|
   ?_
  rintro _ _ _ ⟨v9144, v9146, v9148, v9150, rfl, rfl, rfl⟩
  refine vm rfl <| va (op_extract rfl rfl) <| va (op_extract rfl rfl) <| s1 (o_store 0 7 rfl rfl rfl TI27 (.agg (.f 0 rfl (.f 1 rfl (.c rfl (.c rfl (.c rfl (.f 2 rfl (.f 3 rfl .nil)))))))) rfl (len rfl)) <| vs rfl <| nx <| va (op_load 0 7 rfl rfl TI27 rfl (fun h => absurd h (by decide))) <| ?_
  replace h := bd h
  obtain ⟨⟨r9345, r9346, t9347, t9348, t9349, r9350, r9351, t9352⟩, hA9353, h⟩ := h
  dsimp only at h
  refine sC (o_call0 FO19 (journal_Commit.ok k r9134 r9135 t9136 t9137 t9138 r9139 r9140 v9144 v9146 v9148 v9150 r9345 r9346 t9347 t9348 t9349 r9350 r9351 t9352 hA9353) rfl rfl (ltn rfl) (All_of (.cons (mG 0 rfl) (.cons (mG 1 rfl) (.cons (mG 2 rfl) (.cons (mG 3 rfl) .nil)))))) <| ?_
  rintro _ _ _ ⟨v9355, v9357, v9359, v9361, rfl, rfl, rfl⟩
  refine vm rfl <| va (op_extract rfl rfl) <| va (op_extract rfl rfl) <| s1 (o_store 0 7 rfl rfl rfl TI27 (.agg (.f 0 rfl (.f 1 rfl (.c rfl (.c rfl (.c rfl (.r 0 rfl (.r 1 rfl .nil)))))))) rfl (len rfl)) <| vs rfl <| nx <| vm rfl <|
   VL.letter ((t9029 == 0)) fun b9376 hb9376 => va (op_cmp rfl rfl (congrArg some hb9376)) <| vm rfl <| ?_
  replace h := iC h
  rcases h with ⟨c9377, h⟩ | ⟨c9377, h⟩
  · obtain rfl : b9376 = true := hb9376.symm.trans (beq_iff_eq.2 c9377)
    refine vm rfl <| VL.letter ((t9141 == 0)) fun b9378 hb9378 => va (op_cmp rfl rfl (congrArg some hb9378)) <| va (op_pick rfl rfl) <| vm rfl <| ?_
    replace h := iC h
    rcases h with ⟨c9379, h⟩ | ⟨c9379, h⟩
    · obtain rfl : b9378 = true := hb9378.symm.trans (beq_iff_eq.2 c9379)
      refine vm rfl <| VL.letter ((t9352 == 0)) fun b9380 hb9380 => va (op_cmp rfl rfl (congrArg some hb9380)) <| va (op_pick rfl rfl) <| vm rfl <| ?_
      replace h := iC h
      rcases h with ⟨c9381, h⟩ | ⟨c9381, h⟩
      · obtain rfl : b9380 = true := hb9380.symm.trans (beq_iff_eq.2 c9381)
        refine va (op_fieldAddr FI27_5 rfl (add_at _ _ _)) <| va (op_load 0 1 rfl rfl TI22 rfl (by decide)) <| va (op_len_own (m := r9351.length) 1 lenm Try.underlying22 rfl rfl) <| VL.letter (((r9351.length : Int) == 1)) fun b9382 hb9382 => va (op_cmp rfl rfl (congrArg some hb9382)) <|
         va (op_pick rfl rfl) <| vm rfl <| ?_
        replace h := iC h
        rcases h with ⟨c9383, h⟩ | ⟨c9383, h⟩
        · obtain rfl : b9382 = true := hb9382.symm.trans (beq_iff_eq.2 c9383)
          refine va (op_fieldAddr FI27_5 rfl (add_at _ _ _)) <| va (op_load 0 1 rfl rfl TI22 rfl (by decide)) <| ?_
          replace h := bd h
          obtain ⟨x9384, hx9384, h⟩ := h
          refine VL.openR (m := r9351.length) 1 lenm rfl (pos_get hx9384) <| ?_
          rintro g9385 n9386 rfl
          refine va (op_indexAddr Try.underlying22 TI9 rfl rfl (by decide) (lt_get (by decide) hx9384) (add_zero_at _ _)) <| va (op_load_own (sz := 1) (o := 0) 1 0 1 rfl rfl (get_map hx9384) TI9 rfl (by decide)) <|
           VL.letter ((x9384 == (⟨#[97]⟩ : ByteArray))) fun b9387 hb9387 => va (op_cmps rfl rfl (congrArg some hb9387)) <| va (op_pick rfl rfl) <| vm rfl <| ?_
          replace h := iC h
          rcases h with ⟨c9388, h⟩ | ⟨c9388, h⟩
          · obtain rfl : b9387 = true := hb9387.symm.trans (c9388)
            refine va (op_fieldAddr FI27_1 rfl (add_at _ _ _)) <| va (op_load 0 1 rfl rfl TI3 rfl (by decide)) <| VL.letter ((t9347 == 2)) fun b9389 hb9389 => va (op_cmp rfl rfl (congrArg some hb9389)) <| va (op_pick rfl rfl) <| vs rfl <| dt <| VC.ret <| ?_
            obtain rfl := Option.some.inj h
            subst hb9389
            exact VR.fn (rs := [.tmp 0]) [] [] [] rfl (.tmp rfl .nil) ⟨rfl, rfl, rfl⟩ trivial rfl (by decide)
          obtain rfl : b9387 = false := hb9387.symm.trans (Bool.eq_false_iff.2 c9388)
          refine un rfl <| un rfl <| un rfl <| va (op_pick rfl rfl) <| vs rfl <| dt <| VC.ret <| ?_
          obtain rfl := Option.some.inj h
          exact VR.fn (rs := [.tmp 0]) [] [] [] rfl (.tmp rfl .nil) ⟨rfl, rfl, rfl⟩ trivial rfl (by decide)
        obtain rfl : b9382 = false := hb9382.symm.trans (beq_eq_false_iff_ne.2 c9383)
        refine un rfl <| un rfl <| un rfl <| un rfl <| un rfl <| va (op_pick rfl rfl) <| vm rfl <| un rfl <| un rfl <| un rfl <| va (op_pick rfl rfl) <| vs rfl <| dt <| VC.ret <| ?_
        obtain rfl := Option.some.inj h
        exact VR.fn (rs := [.tmp 0]) [] [] [] rfl (.tmp rfl .nil) ⟨rfl, rfl, rfl⟩ trivial rfl (by decide)
      obtain rfl : b9380 = false := hb9380.symm.trans (beq_eq_false_iff_ne.2 c9381)
      refine un rfl <| un rfl <| un rfl <| un rfl <| va (op_pick rfl rfl) <| vm rfl <| un rfl <| un rfl <| un rfl <| un rfl <| un rfl <| va (op_pick rfl rfl) <| vm rfl <| un rfl <| un rfl <| un rfl <| va (op_pick rfl rfl) <| vs rfl <| dt <| VC.ret <| ?_
      obtain rfl := Option.some.inj h
      exact VR.fn (rs := [.tmp 0]) [] [] [] rfl (.tmp rfl .nil) ⟨rfl, rfl, rfl⟩ trivial rfl (by decide)
    obtain rfl : b9378 = false := hb9378.symm.trans (beq_eq_false_iff_ne.2 c9379)
    refine un rfl <| un rfl <| va (op_pick rfl rfl) <| vm rfl <| un rfl <| un rfl <| un rfl <| un rfl <| va (op_pick rfl rfl) <| vm rfl <| un rfl <| un rfl <| un rfl <| un rfl <| un rfl <| va (op_pick rfl rfl) <| vm rfl <| un rfl <| un rfl <| un rfl <| va (op_pick rfl rfl) <| vs rfl <| dt <| VC.ret <|
     ?_
    obtain rfl := Option.some.inj h
    exact VR.fn (rs := [.tmp 0]) [] [] [] rfl (.tmp rfl .nil) ⟨rfl, rfl, rfl⟩ trivial rfl (by decide)
  obtain rfl : b9376 = false := hb9376.symm.trans (beq_eq_false_iff_ne.2 c9377)
  refine un rfl <| un rfl <| va (op_pick rfl rfl) <| vm rfl <| un rfl <| un rfl <| va (op_pick rfl rfl) <| vm rfl <| un rfl <| un rfl <| un rfl <| un rfl <| va (op_pick rfl rfl) <| vm rfl <| un rfl <| un rfl <| un rfl <| un rfl <| un rfl <| va (op_pick rfl rfl) <| vm rfl <| un rfl <| un rfl <|
   un rfl <| va (op_pick rfl rfl) <| vs rfl <| dt <| VC.ret <| ?_
  obtain rfl := Option.some.inj h
  exact VR.fn (rs := [.tmp 0]) [] [] [] rfl (.tmp rfl .nil) ⟨rfl, rfl, rfl⟩ trivial rfl (by decide)

theorem tarryref01_Same.ok (k : Nat) (l0 : List ByteArray) (l1 : List ByteArray) (v0 : Value) (v1 : Value) (r1 : Bool) (h : tarryref01_Same.f k l0 l1 = some r1) :
    VCalls Try.prog 17 [v0, v1] [.row v0 1 (l0.map enc_str), .row v1 1 (l1.map enc_str)] (fun v G own => v = .bool r1 ∧ G = [] ∧ own = []) := by
  refine VCalls.intro Try.func17 rfl (len rfl) fun E hC hW hD hU => ?_
  unfold tarryref01_Same.f at h
  refine sr <| vs rfl <| ds <| sr <| vm rfl <| va (op_len (m := l0.length) 0 lenm Try.underlying22 rfl rfl) <| vm rfl <| va (op_len (m := l1.length) 1 lenm Try.underlying22 rfl rfl) <|
   VL.letter (((l0.length : Int) != (l1.length : Int))) fun b9484 hb9484 => va (op_cmp rfl rfl (congrArg some hb9484)) <| dt <| ?_
  replace h := iC h
  rcases h with ⟨c9485, h⟩ | ⟨c9485, h⟩
  · obtain rfl : b9484 = false := hb9484.symm.trans (bne_eq_false_iff_eq.2 c9485)
    refine cf <| sk <| sq <| sr <| vm rfl <| va (op_len (m := l0.length) 0 lenm Try.underlying22 rfl rfl) <| vm rfl <| dt <| VC.block <|
     VC.loop1 (fun (i9539 : Int) => ⟨26, [(0, v0), (1, v1), (4, .bool false), (12, .int .i64 (l0.length : Int)), (13, .int .i64 i9539)], [.row v0 1 (l0.map enc_str), .row v1 1 (l1.map enc_str)], [], []⟩) (fun (ml1 : Nat) (i9539 : Int) => tarryref01_Same.l1 k l0 l1 ml1 i9539 = some r1) k 0 [] [] h ⟨rfl, ⟨rfl, rfl, rfl, rfl, rfl, trivial⟩, ⟨⟨0, rfl⟩, ⟨1, rfl⟩, trivial⟩, rfl, by decide, rfl, by decide⟩ (by intros; simp [tarryref01_Same.l1]) <|
     ?_
    clear h
    intro ml1 ihl1 i9539 h
    simp only [tarryref01_Same.l1] at h
    refine sr <| VL.letter (decide (i9539 < (l0.length : Int))) fun b9553 hb9553 => va (op_cmp rfl rfl (congrArg some hb9553)) <| ds <| ?_
    replace h := iC h
    rcases h with ⟨c9555, h⟩ | ⟨c9555, h⟩
    · cases lT c9555 hb9553
      refine ct <| sk <| sq <| VC.block <| sr <| vm rfl <| vs rfl <| dt <| ?_
      replace h := iN h
      obtain ⟨c9561, h⟩ := h
      replace h := bd h
      obtain ⟨x9562, hx9562, h⟩ := h
      replace h := bd h
      obtain ⟨x9563, hx9563, h⟩ := h
      refine VC.letter ((x9562 != x9563)) fun b9564 hb9564 => VC.open (m := l0.length) 0 lenm rfl (pos_get hx9562) <| ?_
      rintro ad9490 n9491 rfl
      refine VC.open (m := l1.length) 1 lenm rfl (pos_get hx9563) <| ?_
      rintro ad9493 n9494 rfl
      refine VC.join0 (⟨26, [(0, (.slice (some ad9490) l0.length n9491)), (1, (.slice (some ad9493) l1.length n9494)), (4, .bool false), (5, .int .i64 i9539), (12, .int .i64 (l0.length : Int)), (13, .int .i64 i9539), (14, .bool true), (15, .int .i64 i9539), (16, (.slice (some ad9490) l0.length n9491)), (17, .int .i64 i9539), (19, .string x9562), (20, (.slice (some ad9493) l1.length n9494)), (21, .int .i64 i9539), (23, .string x9563), (24, .bool b9564)], [.row (.slice (some ad9490) l0.length n9491) 1 (l0.map enc_str), .row (.slice (some ad9493) l1.length n9494) 1 (l1.map enc_str)], [], []⟩) (True) ?_ ?_
      · exact VC.draw ⟨0, [], [.row (.slice (some ad9490) l0.length n9491) 1 (l0.map enc_str), .row (.slice (some ad9493) l1.length n9494) 1 (l1.map enc_str)], [], []⟩ (by kernel_rfl) rfl (by kernel_rfl) (n := 9) (listed := LB 9 0) <| av 0 1 rfl (mv rfl) <| av 1 3 rfl (mv rfl) <|
         av 2 7 rfl (op_indexAddr Try.underlying22 TI9 rfl rfl c9561 (lt_get c9561 hx9562) rfl) <| av 3 15 rfl (op_load_row (sz := 1) (o := 0) 0 i9539.toNat 1 rfl rfl (get_map hx9562) TI9 rfl (by decide)) <| av 4 31 rfl (mv rfl) <| av 5 63 rfl (mv rfl) <|
         av 6 127 rfl (op_indexAddr Try.underlying22 TI9 rfl rfl c9561 (lt_get c9561 hx9563) rfl) <| av 7 255 rfl (op_load_row (sz := 1) (o := 0) 1 i9539.toNat 1 rfl rfl (get_map hx9563) TI9 rfl (by decide)) <| av 8 511 rfl (op_cmps rfl rfl (congrArg some hb9564)) <| VA.done (by kernel_rfl) <|
         VN.meet0  [] [] trivial ⟨rfl, ⟨rfl, rfl, rfl, rfl, rfl, rfl, rfl, rfl, rfl, rfl, rfl, rfl, rfl, rfl, rfl, trivial⟩, ⟨⟨0, rfl⟩, ⟨1, rfl⟩, trivial⟩, rfl, by decide, rfl, by decide⟩
      intro _
      replace h := iC h
      rcases h with ⟨c9565, h⟩ | ⟨c9565, h⟩
      · obtain rfl : b9564 = false := hb9564.symm.trans (bne_of_t c9565)
        refine cf <| VC.skip <| VN.block <| tr <| va (op_ari64 rfl rfl rfl) <| vm rfl <| dn <| VN.again [] [] (ihl1 (wrap64 (i9539 + 1)) h) ⟨rfl, ⟨rfl, rfl, rfl, rfl, rfl, trivial⟩, ⟨⟨0, rfl⟩, ⟨1, rfl⟩, trivial⟩, rfl, by decide, rfl, by decide⟩
      obtain rfl : b9564 = true := hb9564.symm.trans (bne_of_f c9565)
      refine ct <| sr <| vs rfl <| dt <| VC.ret <| VR.block <| VR.then <| VR.then <| VR.block <| VR.then <| ?_
      obtain rfl := Option.some.inj h
      exact VR.fn (rs := [.tmp 4]) [] [] [] rfl (.tmp rfl .nil) ⟨rfl, rfl, rfl⟩ trivial rfl (by decide)
    cases lF c9555 hb9553
    refine cf <| VC.exit <| VX.then <| VX.then <| VX.hit <| tx <| vs rfl <| dt <| VC.ret <| ?_
    obtain rfl := Option.some.inj h
    exact VR.fn (rs := [.tmp 4]) [] [] [] rfl (.tmp rfl .nil) ⟨rfl, rfl, rfl⟩ trivial rfl (by decide)
  obtain rfl : b9484 = true := hb9484.symm.trans (bne_iff_ne.2 c9485)
  refine ct <| sr <| vs rfl <| dt <| VC.ret <| VR.then <| ?_
  obtain rfl := Option.some.inj h
  exact VR.fn (rs := [.tmp 4]) [] [] [] rfl (.tmp rfl .nil) ⟨rfl, rfl, rfl⟩ trivial rfl (by decide)

end Go.Proofs.Ytipeglbeongfmaa.PJournalKeeps
