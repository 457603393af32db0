/- Written by a program of this repo: what the program's functions do, each as a Lean function, shown of the loaded code; or a statement's row over that; no condition of its own. -/
import Derived.Test.YtipeglbeongfmaaPJournalOpensx17
namespace Go.Proofs.Ytipeglbeongfmaa.PJournalOpens
open Go Go.RowKit Go.Proofs.YtipeglbeongfmaaV
set_option linter.unusedVariables false
set_option linter.unusedSimpArgs false
set_option maxHeartbeats 4000000
set_option maxRecDepth 100000

theorem journal_plan_second.ok (k : Nat) (a0_0 : Int) (a0_1 : Int) (a0_2 : ByteArray) (l1_0 : List ByteArray) (l1_1 : List S55) (a1_2 : Int) (a1_3 : Int) (a1_4 : Int) (l1_5 : List ByteArray) (l1_6 : List ByteArray) (v1_0 : Value) (v1_1 : Value) (v1_5 : Value) (v1_6 : Value) (r1 : List ByteArray) (r2 : List S55) (h : journal_plan_second.f k a0_0 a0_1 a0_2 l1_0 l1_1 a1_2 a1_3 a1_4 l1_5 l1_6 = some (r1, r2)) :
    VCalls Try.prog 49 [.agg #[iv a0_0, iv a0_1, .string a0_2], .agg #[v1_0, v1_1, iv a1_2, iv a1_3, iv a1_4, v1_5, v1_6]] [.row v1_0 1 (l1_0.map enc_str), .row v1_1 2 (l1_1.map enc55), .row v1_5 1 (l1_5.map enc_str), .row v1_6 1 (l1_6.map enc_str)] (fun v G own => ∃ w0 w1 : Value, v = .agg #[w0, w1] ∧ G = [.row w0 1 (r1.map enc_str), .row w1 2 (r2.map enc55)] ∧ own = []) := by
  refine VCalls.intro Try.func49 rfl (len rfl) fun E hC hW hD hU => ?_
  unfold journal_plan_second.f at h
  refine sr <| sG (o_box rfl (.agg (.of rfl))) fun g27389 => sG (o_box rfl (.agg (.f 0 rfl (.f 1 rfl (.c rfl (.c rfl (.c rfl (.f 2 rfl (.f 3 rfl .nil))))))))) fun g27390 => sG (o_alloc Z25 ZL25) fun g27391 => nx <| va (op_load 2 3 rfl rfl TI81 rfl (fun h => absurd h (by decide))) <|
   va (op_load 1 7 rfl rfl TI27 rfl (fun h => absurd h (by decide))) <| ?_
  replace h := bd h
  obtain ⟨⟨r27392, r27393⟩, hA27394, h⟩ := h
  dsimp only at h
  refine sC (o_call0 FO48 (journal_plan_first.ok k a0_0 a0_1 a0_2 l1_0 l1_1 a1_2 a1_3 a1_4 l1_5 l1_6 v1_0 v1_1 v1_5 v1_6 r27392 r27393 hA27394) rfl rfl (ltn rfl) (All_of (.cons (mG 0 rfl) (.cons (mG 1 rfl) (.cons (mG 2 rfl) (.cons (mG 3 rfl) .nil)))))) <| ?_
  rintro _ _ _ ⟨v27396, v27398, rfl, rfl, rfl⟩
  replace h := bd h
  obtain ⟨⟨r27399, r27400, t27401⟩, hA27402, h⟩ := h
  dsimp only at h
  refine sC (o_call0 FO41 (disk_Flush.ok k r27392 r27393 v27396 v27398 r27399 r27400 t27401 hA27402) rfl rfl (ltn rfl) (All_of (.cons (mG 0 rfl) (.cons (mG 1 rfl) .nil)))) <| ?_
  rintro _ _ _ ⟨v27404, v27406, rfl, rfl, rfl⟩
  refine vm rfl <| va (op_extract rfl rfl) <| va (op_extract rfl rfl) <| sG (o_alloc Z25 ZL25) fun g27407 => s1 (o_store 0 2 rfl rfl rfl TI25 (.agg (.r 0 rfl (.r 1 rfl .nil))) rfl (len rfl)) <| vs rfl <| nx <| va (op_fieldAddr FI27_1 rfl (add_at _ _ _)) <|
   va (op_load 2 1 rfl rfl TI3 rfl (by decide)) <| va (op_ari64 rfl rfl rfl) <| vs rfl <| dt <| ?_
  replace h := bd h
  obtain ⟨r27408, hA27409, h⟩ := h
  replace h := bd h
  obtain ⟨t27410, hA27411, h⟩ := h
  replace h := bd h
  obtain ⟨⟨r27412, r27413, t27414⟩, hA27415, h⟩ := h
  dsimp only at h
  refine VC.freezeRow' 0 rfl <| VC.freezeRow' 0 rfl <|
   VC.join2 (fun (v27417 : Value) (v27419 : Value) => ⟨37, [(4, pt g27391 0), (5, pt g27407 0)], [.row v27417 1 (r27412.map enc_str), .row v27419 2 (r27413.map enc55)], [(g27407, 25, [v27417, v27419]), (g27391, 25, [sn, sn])], []⟩) (fun (v27417 : Value) (v27419 : Value) => True) ?_ ?_
  · refine VC.drawB ⟨0, [], [], [(g27389, 81, [iv a0_0, iv a0_1, .string a0_2])], []⟩ [18] ⟨0, [], [], [(g27407, 25, [v27404, v27406])], []⟩ (by kernel_rfl) rfl (by kernel_rfl) (n := 19) (listed := LB 19 0) <|
     VB.vb (i := 0) (listed' := LB 19 1) rfl (op_load 0 2 rfl rfl TI25 rfl (fun h => absurd h (by decide))) rfl (by kernel_rfl) (by kernel_rfl) (by kernel_rfl) (by kernel_rfl) (by kernel_rfl) (by kernel_rfl) (PartP.on ⟨trivial, ⟨⟨3, rfl⟩, trivial⟩, trivial⟩ ⟨trivial, ⟨⟨0, rfl⟩, trivial⟩, trivial⟩) (fun _ _ _ h => h) <|
     bv 1 3 rfl (mv rfl) <| bv 2 7 rfl (op_rem rfl rfl (by decide) rfl) <| bv 3 15 rfl (mv rfl) <| bv 4 31 rfl (op_fieldAddr FI81_0 rfl (add_at _ _ _)) <| bv 5 63 rfl (op_load 0 1 rfl rfl TI3 rfl (by decide)) <| bv 6 127 rfl (op_fieldAddr FI81_1 rfl (add_at _ _ _)) <|
     bv 7 255 rfl (op_load 0 1 rfl rfl TI3 rfl (by decide)) <| bv 8 511 rfl (op_fieldAddr FI81_2 rfl (add_at _ _ _)) <| bv 9 1023 rfl (op_load 0 1 rfl rfl TI9 rfl (by decide)) <| bv 10 2047 rfl (op_lens Try.underlying9 rfl) <| bv 11 4095 rfl (op_ari64 rfl rfl rfl) <|
     VB.oneC (i := 12) (listed' := LB 19 8191) (by kernel_rfl) rfl (o_call0 FO39 (journal_headOf.ok k (wrap64 (a1_2 + 1)) a0_0 (wrap64 (a0_1 + (a0_2.size : Int))) r27408 hA27409) rfl rfl (ltn rfl) (All_of .nil)) rfl (by kernel_rfl) <| ?_
    rintro _ _ _ ⟨rfl, rfl, rfl⟩
    refine ⟨(PartP.on ⟨trivial, ⟨⟨3, rfl⟩, trivial⟩, trivial⟩ ⟨trivial, ⟨⟨0, rfl⟩, trivial⟩, trivial⟩), ?_⟩
    refine VB.oneC (i := 13) (listed' := LB 19 16383) (by kernel_rfl) rfl (o_call0 FO40 (journal_head_sector.ok r27408 t27410 hA27411) rfl rfl (ltn rfl) (All_of .nil)) rfl (by kernel_rfl) <| ?_
    rintro _ _ _ ⟨rfl, rfl, rfl⟩
    refine ⟨(PartP.on ⟨trivial, ⟨⟨3, rfl⟩, trivial⟩, trivial⟩ ⟨trivial, ⟨⟨0, rfl⟩, trivial⟩, trivial⟩), ?_⟩
    refine VB.oneC (i := 14) (listed' := LB 19 32767) (by kernel_rfl) rfl (o_call0 FO38 (disk_Put.ok k r27399 r27400 ((wrap64 (a1_2 + 1)).tmod 2) t27410 v27404 v27406 r27412 r27413 t27414 hA27415) rfl rfl (ltn rfl) (All_of (.cons (mG 1 rfl) (.cons (mG 0 rfl) .nil)))) rfl (by kernel_rfl) <| ?_
    rintro _ _ _ ⟨v27417, v27419, rfl, rfl, rfl⟩
    refine ⟨(PartP.on ⟨trivial, ⟨⟨3, rfl⟩, trivial⟩, trivial⟩ ⟨trivial, ⟨⟨0, rfl⟩, trivial⟩, trivial⟩), ?_⟩
    exact VB.more ⟨0, [], [.row v27417 1 (r27412.map enc_str), .row v27419 2 (r27413.map enc55)], [(g27389, 81, [iv a0_0, iv a0_1, .string a0_2])], []⟩ ⟨trivial, ⟨⟨0, rfl⟩, trivial⟩, trivial⟩ <| bv 15 65535 rfl (mv rfl) <| bv 16 131071 rfl (op_extract rfl rfl) <|
     bv 17 262143 rfl (op_extract rfl rfl) <| VB.one1 (i := 18) (listed' := LB 19 524287) (by kernel_rfl) rfl (o_store 0 2 rfl rfl rfl TI25 (.agg (.f 0 rfl (.f 1 rfl .nil))) rfl (len rfl)) rfl (by kernel_rfl) (PartP.off (by kernel_rfl) ⟨⟨⟨0, rfl⟩, ⟨1, rfl⟩, trivial⟩, ⟨⟨3, rfl⟩, trivial⟩, trivial⟩) <|
     VB.done (by kernel_rfl) <| VN.meet2 v27417 v27419 [0, 1] [] trivial
  intro v27417 v27419 _
  refine sr <| va (op_load 0 2 rfl rfl TI25 rfl (fun h => absurd h (by decide))) <| s1 (o_store 1 2 rfl rfl rfl TI25 (.agg (.f 0 rfl (.f 1 rfl .nil))) rfl (len rfl)) <| dt <| VC.ret <| ?_
  simp only [Option.some.injEq, Prod.mk.injEq] at h
  obtain ⟨rfl, rfl⟩ := h
  exact rf [.cell 4 25] [] (.cell 1 rfl rfl TI25 (fun h => absurd h (by decide)) .nil) ⟨v27417, v27419, rfl, rfl, rfl⟩

theorem journal_plan_sealed.ok (k : Nat) (a0_0 : Int) (a0_1 : Int) (a0_2 : ByteArray) (l1_0 : List ByteArray) (l1_1 : List S55) (a1_2 : Int) (a1_3 : Int) (a1_4 : Int) (l1_5 : List ByteArray) (l1_6 : List ByteArray) (v1_0 : Value) (v1_1 : Value) (v1_5 : Value) (v1_6 : Value) (r1 : List ByteArray) (r2 : List S55) (r3 : Int) (r4 : Int) (r5 : Int) (r6 : List ByteArray) (r7 : List ByteArray) (r8 : Int) (h : journal_plan_sealed.f k a0_0 a0_1 a0_2 l1_0 l1_1 a1_2 a1_3 a1_4 l1_5 l1_6 = some (r1, r2, r3, r4, r5, r6, r7, r8)) :
    VCalls Try.prog 45 [.agg #[iv a0_0, iv a0_1, .string a0_2], .agg #[v1_0, v1_1, iv a1_2, iv a1_3, iv a1_4, v1_5, v1_6]] [.row v1_0 1 (l1_0.map enc_str), .row v1_1 2 (l1_1.map enc55), .row v1_5 1 (l1_5.map enc_str), .row v1_6 1 (l1_6.map enc_str)] (fun v G own => ∃ w0 w1 w5 w6 : Value, v = .tuple #[.agg #[w0, w1, iv r3, iv r4, iv r5, w5, w6], iv r8] ∧ G = [.row w0 1 (r1.map enc_str), .row w1 2 (r2.map enc55)] ∧ own = [(w5, 9, 1, r6.map enc_str), (w6, 9, 1, r7.map enc_str)]) := by
  refine VCalls.intro Try.func45 rfl (len rfl) fun E hC hW hD hU => ?_
  unfold journal_plan_sealed.f at h
  refine sr <| sG (o_box rfl (.agg (.of rfl))) fun g27457 => sG (o_box rfl (.agg (.f 0 rfl (.f 1 rfl (.c rfl (.c rfl (.c rfl (.f 2 rfl (.f 3 rfl .nil))))))))) fun g27458 => sG (o_alloc Z27 ZL27) fun g27459 => vs rfl <| nx <| va (op_load 2 3 rfl rfl TI81 rfl (fun h => absurd h (by decide))) <|
   va (op_load 1 7 rfl rfl TI27 rfl (fun h => absurd h (by decide))) <| ?_
  replace h := bd h
  obtain ⟨⟨r27460, r27461⟩, hA27462, h⟩ := h
  dsimp only at h
  refine sC (o_call0 FO49 (journal_plan_second.ok k a0_0 a0_1 a0_2 l1_0 l1_1 a1_2 a1_3 a1_4 l1_5 l1_6 v1_0 v1_1 v1_5 v1_6 r27460 r27461 hA27462) rfl rfl (ltn rfl) (All_of (.cons (mG 0 rfl) (.cons (mG 1 rfl) (.cons (mG 2 rfl) (.cons (mG 3 rfl) .nil)))))) <| ?_
  rintro _ _ _ ⟨v27464, v27466, rfl, rfl, rfl⟩
  replace h := bd h
  obtain ⟨⟨r27467, r27468, t27469⟩, hA27470, h⟩ := h
  dsimp only at h
  refine sC (o_call0 FO41 (disk_Flush.ok k r27460 r27461 v27464 v27466 r27467 r27468 t27469 hA27470) rfl rfl (ltn rfl) (All_of (.cons (mG 0 rfl) (.cons (mG 1 rfl) .nil)))) <| ?_
  rintro _ _ _ ⟨v27472, v27474, rfl, rfl, rfl⟩
  refine vm rfl <| va (op_extract rfl rfl) <| va (op_extract rfl rfl) <| sG (o_alloc Z25 ZL25) fun g27475 => s1 (o_store 0 2 rfl rfl rfl TI25 (.agg (.r 0 rfl (.r 1 rfl .nil))) rfl (len rfl)) <| vs rfl <| nx <| va (op_load 0 2 rfl rfl TI25 rfl (fun h => absurd h (by decide))) <| VL.freezeRow' 0 rfl <|
   VL.freezeRow' 0 rfl <| ?_
  replace h := bd h
  obtain ⟨⟨r27476, r27477, t27478, t27479, t27480, r27481, r27482, t27483⟩, hA27484, h⟩ := h
  dsimp only at h
  refine sC (o_call0 FO9 (journal_Open.ok k r27467 r27468 v27472 v27474 r27476 r27477 t27478 t27479 t27480 r27481 r27482 t27483 hA27484) rfl rfl (ltn rfl) (All_of (.cons (mG 1 rfl) (.cons (mG 0 rfl) .nil)))) <| ?_
  rintro _ _ _ ⟨v27486, v27488, v27490, v27492, rfl, rfl, rfl⟩
  refine va (op_extract rfl rfl) <| va (op_extract rfl rfl) <| s1 (o_store 1 7 rfl rfl rfl TI27 (.agg (.f 0 rfl (.f 1 rfl (.c rfl (.c rfl (.c rfl (.r 0 rfl (.r 1 rfl .nil)))))))) rfl (len rfl)) <| vs rfl <| dt <| VC.ret <| ?_
  simp only [Option.some.injEq, Prod.mk.injEq] at h
  obtain ⟨rfl, rfl, rfl, rfl, rfl, rfl, rfl, rfl⟩ := h
  exact rf [.cell 4 27, .tmp 5] [0, 1] (.cell 1 rfl rfl TI27 (fun h => absurd h (by decide)) (.tmp rfl .nil)) ⟨v27486, v27488, v27490, v27492, rfl, rfl, rfl⟩

theorem journal_Commit.ok (k : Nat) (l0_0 : List ByteArray) (l0_1 : List S55) (a0_2 : Int) (a0_3 : Int) (a0_4 : Int) (l0_5 : List ByteArray) (l0_6 : List ByteArray) (v0_0 : Value) (v0_1 : Value) (v0_5 : Value) (v0_6 : Value) (r1 : List ByteArray) (r2 : List S55) (r3 : Int) (r4 : Int) (r5 : Int) (r6 : List ByteArray) (r7 : List ByteArray) (r8 : Int) (h : journal_Commit.f k l0_0 l0_1 a0_2 a0_3 a0_4 l0_5 l0_6 = some (r1, r2, r3, r4, r5, r6, r7, r8)) :
    VCalls Try.prog 19 [.agg #[v0_0, v0_1, iv a0_2, iv a0_3, iv a0_4, v0_5, v0_6]] [.row v0_0 1 (l0_0.map enc_str), .row v0_1 2 (l0_1.map enc55), .row v0_5 1 (l0_5.map enc_str), .row v0_6 1 (l0_6.map enc_str)] (fun v G own => ∃ w0 w1 w5 w6 : Value, v = .tuple #[.agg #[w0, w1, iv r3, iv r4, iv r5, w5, w6], iv r8] ∧ G = [.row w0 1 (r1.map enc_str), .row w1 2 (r2.map enc55)] ∧ own = [(w5, 9, 1, r6.map enc_str), (w6, 9, 1, r7.map enc_str)]) := by
  refine VCalls.intro Try.func19 rfl (len rfl) fun E hC hW hD hU => ?_
  unfold journal_Commit.f at h
  refine sr <| sG (o_box rfl (.agg (.f 0 rfl (.f 1 rfl (.c rfl (.c rfl (.c rfl (.f 2 rfl (.f 3 rfl .nil))))))))) fun g27514 => sG (o_alloc Z27 ZL27) fun g27515 => vs rfl <| ds <| VC.block <| sr <| va (op_load 1 7 rfl rfl TI27 rfl (fun h => absurd h (by decide))) <| ?_
  replace h := bd h
  obtain ⟨t27535, hA27536, h⟩ := h
  refine sC (o_call0 FO12 (journal_Right.ok k l0_0 l0_1 a0_2 a0_3 a0_4 l0_5 l0_6 v0_0 v0_1 v0_5 v0_6 t27535 hA27536) rfl rfl (ltn rfl) (All_of (.cons (mG 0 rfl) (.cons (mG 1 rfl) (.cons (mG 2 rfl) (.cons (mG 3 rfl) .nil)))))) <| ?_
  rintro _ _ _ ⟨rfl, rfl, rfl⟩
  replace h := iC h
  rcases h with ⟨c27537, h⟩ | ⟨c27537, h⟩
  · obtain rfl := c27537
    refine va (op_not rfl rfl) <| vs rfl <| dt <| cf <| sr <| va (op_fieldAddr FI27_1 rfl (add_at _ _ _)) <| va (op_load 1 1 rfl rfl TI3 rfl (by decide)) <| VL.letter ((a0_2 == 1099511627776)) fun b27538 hb27538 => va (op_cmp rfl rfl (congrArg some hb27538)) <| vs rfl <| dt <| ?_
    replace h := iC h
    rcases h with ⟨c27539, h⟩ | ⟨c27539, h⟩
    · obtain rfl : b27538 = true := hb27538.symm.trans (beq_iff_eq.2 c27539)
      refine ct <| sr <| va (op_build (vals := []) (vcs := []) (cells := [sn, sn, iv 0, iv 0, iv 0, sn, sn]) SI27 rfl .nil (by kernel_rfl)) <| s1 (o_store 0 7 rfl rfl rfl TI27 (.agg (.of rfl)) rfl (len rfl)) <| vs rfl <| dt <|
       VC.ret <| VR.block <| VR.then <| ?_
      simp only [Option.some.injEq, Prod.mk.injEq] at h
      obtain ⟨rfl, rfl, rfl, rfl, rfl, rfl, rfl, rfl⟩ := h
      exact VR.nilFact' 1 <| VR.nilFact' 2 <| VR.nilRow' 9 1 <| VR.nilRow' 9 1 <| rf [.cell 2 27, .tmp 3] [1, 0] (.cell 0 rfl rfl TI27 (fun h => absurd h (by decide)) (.tmp rfl .nil)) ⟨sn, sn, sn, sn, rfl, rfl, rfl⟩
    obtain rfl : b27538 = false := hb27538.symm.trans (beq_eq_false_iff_ne.2 c27539)
    refine cf <| VC.skip <| VN.block <| th <| ?_
    replace h := bd h
    obtain ⟨⟨t27544, t27545, t27546⟩, hA27547, h⟩ := h
    dsimp only at h
    replace h := bd h
    obtain ⟨⟨r27548, r27549, t27550, t27551, t27552, r27553, r27554, t27555⟩, hA27556, h⟩ := h
    dsimp only at h
    refine VC.join4 (fun (v27558 : Value) (v27560 : Value) (v27562 : Value) (v27564 : Value) => ⟨20, [(2, pt g27515 0), (3, iv t27555)], [.row v27558 1 (r27548.map enc_str), .row v27560 2 (r27549.map enc55)], [(g27515, 27, [v27558, v27560, iv t27550, iv t27551, iv t27552, v27562, v27564])], [(v27562, 9, 1, r27553.map enc_str), (v27564, 9, 1, r27554.map enc_str)]⟩) (fun (v27558 : Value) (v27560 : Value) (v27562 : Value) (v27564 : Value) => True) ?_ ?_
    · refine dw ⟨0, [], [], [(g27514, 27, [v0_0, v0_1, iv a0_2, iv a0_3, iv a0_4, v0_5, v0_6])], []⟩ 8 <| av 0 1 rfl (op_load 0 7 rfl rfl TI27 rfl (fun h => absurd h (by decide))) <| av 2 5 rfl (op_load 0 7 rfl rfl TI27 rfl (fun h => absurd h (by decide))) <|
       aC 1 7 rfl (o_call0 FO44 (journal_groups.ok k l0_0 l0_1 a0_2 a0_3 a0_4 l0_5 l0_6 v0_0 v0_1 v0_5 v0_6 t27544 t27545 t27546 hA27547) rfl rfl (ltn rfl) (All_of (.cons (mG 0 rfl) (.cons (mG 1 rfl) (.cons (mG 2 rfl) (.cons (mG 3 rfl) .nil)))))) <| ?_
      rintro _ _ _ ⟨rfl, rfl, rfl⟩
      refine ⟨⟨trivial, ⟨⟨1, rfl⟩, trivial⟩, trivial⟩, ?_⟩
      refine aC 3 15 rfl (o_call0 FO45 (journal_plan_sealed.ok k t27544 t27545 t27546 l0_0 l0_1 a0_2 a0_3 a0_4 l0_5 l0_6 v0_0 v0_1 v0_5 v0_6 r27548 r27549 t27550 t27551 t27552 r27553 r27554 t27555 hA27556) rfl rfl (ltn rfl) (All_of (.cons (mG 0 rfl) (.cons (mG 1 rfl) (.cons (mG 2 rfl) (.cons (mG 3 rfl) .nil)))))) <|
       ?_
      rintro _ _ _ ⟨v27558, v27560, v27562, v27564, rfl, rfl, rfl⟩
      refine ⟨⟨trivial, ⟨⟨1, rfl⟩, trivial⟩, trivial⟩, ?_⟩
      exact VA.more ⟨0, [], [.row v27558 1 (r27548.map enc_str), .row v27560 2 (r27549.map enc55)], [(g27514, 27, [v0_0, v0_1, iv a0_2, iv a0_3, iv a0_4, v0_5, v0_6])], [(v27562, 9, 1, r27553.map enc_str), (v27564, 9, 1, r27554.map enc_str)]⟩ ⟨trivial, ⟨⟨0, rfl⟩, trivial⟩, trivial⟩ <|
       av 4 31 rfl (op_extract rfl rfl) <| av 5 63 rfl (op_extract rfl rfl) <| aO 6 127 rfl (o_store 0 7 rfl rfl rfl TI27 (.agg (.f 0 rfl (.f 1 rfl (.c rfl (.c rfl (.c rfl (.r 0 rfl (.r 1 rfl .nil)))))))) rfl (len rfl)) <| av 7 255 rfl (ag rfl) <| ad <|
       VN.meet4 v27558 v27560 v27562 v27564 [0] [0, 1] trivial
    intro v27558 v27560 v27562 v27564 _
    refine VC.ret <| ?_
    simp only [Option.some.injEq, Prod.mk.injEq] at h
    obtain ⟨rfl, rfl, rfl, rfl, rfl, rfl, rfl, rfl⟩ := h
    exact rf [.cell 2 27, .tmp 3] [0, 1] (.cell 0 rfl rfl TI27 (fun h => absurd h (by decide)) (.tmp rfl .nil)) ⟨v27558, v27560, v27562, v27564, rfl, rfl, rfl⟩
  obtain rfl := Bool.eq_false_iff.2 c27537
  refine va (op_not rfl rfl) <| vs rfl <| dt <| ct <| sr <| va (op_build (vals := []) (vcs := []) (cells := [sn, sn, iv 0, iv 0, iv 0, sn, sn]) SI27 rfl .nil (by kernel_rfl)) <|
   s1 (o_store 0 7 rfl rfl rfl TI27 (.agg (.of rfl)) rfl (len rfl)) <| vs rfl <| dt <| VC.ret <| VR.block <| VR.then <| ?_
  simp only [Option.some.injEq, Prod.mk.injEq] at h
  obtain ⟨rfl, rfl, rfl, rfl, rfl, rfl, rfl, rfl⟩ := h
  exact VR.nilFact' 1 <| VR.nilFact' 2 <| VR.nilRow' 9 1 <| VR.nilRow' 9 1 <| rf [.cell 2 27, .tmp 3] [1, 0] (.cell 0 rfl rfl TI27 (fun h => absurd h (by decide)) (.tmp rfl .nil)) ⟨sn, sn, sn, sn, rfl, rfl, rfl⟩

theorem tarrylaw05_alive.ok (k : Nat)   (r1 : Bool) (h : tarrylaw05_alive.f k = some r1) :
    VCalls Try.prog 14 [] [] (fun v G own => v = .bool r1 ∧ G = [] ∧ own = []) := by
  refine VCalls.intro Try.func14 rfl (len rfl) fun E hC hW hD hU => ?_
  unfold tarrylaw05_alive.f at h
  refine sr <| vs rfl <| nx <| ?_
  replace h := bd h
  obtain ⟨⟨r26670, r26671, t26672, t26673, t26674, r26675, r26676, t26677⟩, hA26678, h⟩ := h
  dsimp only at h
  refine sC (o_call0 FO15 (journal_Format.ok k 8 r26670 r26671 t26672 t26673 t26674 r26675 r26676 t26677 hA26678) rfl rfl (ltn rfl) (All_of .nil)) <| ?_
  rintro _ _ _ ⟨v26680, v26682, v26684, v26686, rfl, rfl, rfl⟩
  refine vm rfl <| va (op_extract rfl rfl) <| va (op_extract rfl rfl) <| sG (o_alloc Z27 ZL27) fun g26687 => s1 (o_store 0 7 rfl rfl rfl TI27 (.agg (.f 0 rfl (.f 1 rfl (.c rfl (.c rfl (.c rfl (.r 0 rfl (.r 1 rfl .nil)))))))) rfl (len rfl)) <| vs rfl <| nx <|
   va (op_load 0 7 rfl rfl TI27 rfl (fun h => absurd h (by decide))) <| VL.freezeRow' 0 rfl <| VL.freezeRow' 0 rfl <| ?_
  replace h := bd h
  obtain ⟨⟨r26782, r26783, t26784, t26785, t26786, r26787, r26788, t26789⟩, hA26790, h⟩ := h
  dsimp only at h
  refine sC (o_call0 FO18 (journal_Append.ok k r26670 r26671 t26672 t26673 t26674 r26675 r26676 (⟨#[97]⟩ : ByteArray) v26680 v26682 v26684 v26686 r26782 r26783 t26784 t26785 t26786 r26787 r26788 t26789 hA26790) rfl rfl (ltn rfl) (All_of (.cons (mG 2 rfl) (.cons (mG 3 rfl) (.cons (mG 1 rfl) (.cons (mG 0 rfl) .nil)))))) <|
   ?_
  rintro _ _ _ ⟨v26792, v26794, v26796, v26798, rfl, rfl, rfl⟩
  refine vm rfl <| va (op_extract rfl rfl) <| va (op_extract rfl rfl) <| s1 (o_store 0 7 rfl rfl rfl TI27 (.agg (.f 0 rfl (.f 1 rfl (.c rfl (.c rfl (.c rfl (.f 2 rfl (.f 3 rfl .nil)))))))) rfl (len rfl)) <| vs rfl <| nx <| va (op_load 0 7 rfl rfl TI27 rfl (fun h => absurd h (by decide))) <| ?_
  replace h := bd h
  obtain ⟨⟨r27569, r27570, t27571, t27572, t27573, r27574, r27575, t27576⟩, hA27577, h⟩ := h
  dsimp only at h
  refine sC (o_call0 FO19 (journal_Commit.ok k r26782 r26783 t26784 t26785 t26786 r26787 r26788 v26792 v26794 v26796 v26798 r27569 r27570 t27571 t27572 t27573 r27574 r27575 t27576 hA27577) rfl rfl (ltn rfl) (All_of (.cons (mG 0 rfl) (.cons (mG 1 rfl) (.cons (mG 2 rfl) (.cons (mG 3 rfl) .nil)))))) <|
   ?_
  rintro _ _ _ ⟨v27579, v27581, v27583, v27585, rfl, rfl, rfl⟩
  refine vm rfl <| va (op_extract rfl rfl) <| va (op_extract rfl rfl) <| s1 (o_store 0 7 rfl rfl rfl TI27 (.agg (.f 0 rfl (.f 1 rfl (.c rfl (.c rfl (.c rfl (.r 0 rfl (.r 1 rfl .nil)))))))) rfl (len rfl)) <| vs rfl <| nx <| vm rfl <|
   VL.letter ((t26677 == 0)) fun b27600 hb27600 => va (op_cmp rfl rfl (congrArg some hb27600)) <| vm rfl <| ?_
  replace h := iC h
  rcases h with ⟨c27601, h⟩ | ⟨c27601, h⟩
  · obtain rfl : b27600 = true := hb27600.symm.trans (beq_iff_eq.2 c27601)
    refine vm rfl <| VL.letter ((t26789 == 0)) fun b27602 hb27602 => va (op_cmp rfl rfl (congrArg some hb27602)) <| va (op_pick rfl rfl) <| vm rfl <| ?_
    replace h := iC h
    rcases h with ⟨c27603, h⟩ | ⟨c27603, h⟩
    · obtain rfl : b27602 = true := hb27602.symm.trans (beq_iff_eq.2 c27603)
      refine vm rfl <| VL.letter ((t27576 == 0)) fun b27604 hb27604 => va (op_cmp rfl rfl (congrArg some hb27604)) <| va (op_pick rfl rfl) <| vm rfl <| ?_
      replace h := iC h
      rcases h with ⟨c27605, h⟩ | ⟨c27605, h⟩
      · obtain rfl : b27604 = true := hb27604.symm.trans (beq_iff_eq.2 c27605)
        refine va (op_fieldAddr FI27_5 rfl (add_at _ _ _)) <| va (op_load 0 1 rfl rfl TI22 rfl (by decide)) <| va (op_len_own (m := r27575.length) 1 lenm Try.underlying22 rfl rfl) <| VL.letter (((r27575.length : Int) == 1)) fun b27606 hb27606 => va (op_cmp rfl rfl (congrArg some hb27606)) <|
         va (op_pick rfl rfl) <| vm rfl <| ?_
        replace h := iC h
        rcases h with ⟨c27607, h⟩ | ⟨c27607, h⟩
        · obtain rfl : b27606 = true := hb27606.symm.trans (beq_iff_eq.2 c27607)
          refine va (op_fieldAddr FI27_5 rfl (add_at _ _ _)) <| va (op_load 0 1 rfl rfl TI22 rfl (by decide)) <| ?_
          replace h := bd h
          obtain ⟨x27608, hx27608, h⟩ := h
          refine VL.openR (m := r27575.length) 1 lenm rfl (pos_get hx27608) <| ?_
          rintro g27609 n27610 rfl
          refine va (op_indexAddr Try.underlying22 TI9 rfl rfl (by decide) (lt_get (by decide) hx27608) (add_zero_at _ _)) <| va (op_load_own (sz := 1) (o := 0) 1 0 1 rfl rfl (get_map hx27608) TI9 rfl (by decide)) <|
           VL.letter ((x27608 == (⟨#[97]⟩ : ByteArray))) fun b27611 hb27611 => va (op_cmps rfl rfl (congrArg some hb27611)) <| va (op_pick rfl rfl) <| vm rfl <| ?_
          replace h := iC h
          rcases h with ⟨c27612, h⟩ | ⟨c27612, h⟩
          · obtain rfl : b27611 = true := hb27611.symm.trans (c27612)
            refine va (op_fieldAddr FI27_1 rfl (add_at _ _ _)) <| va (op_load 0 1 rfl rfl TI3 rfl (by decide)) <| VL.letter ((t27571 == 2)) fun b27613 hb27613 => va (op_cmp rfl rfl (congrArg some hb27613)) <| va (op_pick rfl rfl) <| vs rfl <| dt <| VC.ret <| ?_
            obtain rfl := Option.some.inj h
            subst hb27613
            exact rq 0 rfl ⟨rfl, rfl, rfl⟩
          obtain rfl : b27611 = false := hb27611.symm.trans (Bool.eq_false_iff.2 c27612)
          refine un rfl <| un rfl <| un rfl <| va (op_pick rfl rfl) <| vs rfl <| dt <| VC.ret <| ?_
          obtain rfl := Option.some.inj h
          exact rq 0 rfl ⟨rfl, rfl, rfl⟩
        obtain rfl : b27606 = false := hb27606.symm.trans (beq_eq_false_iff_ne.2 c27607)
        refine un rfl <| un rfl <| un rfl <| un rfl <| un rfl <| va (op_pick rfl rfl) <| vm rfl <| un rfl <| un rfl <| un rfl <| va (op_pick rfl rfl) <| vs rfl <| dt <| VC.ret <| ?_
        obtain rfl := Option.some.inj h
        exact rq 0 rfl ⟨rfl, rfl, rfl⟩
      obtain rfl : b27604 = false := hb27604.symm.trans (beq_eq_false_iff_ne.2 c27605)
      refine un rfl <| un rfl <| un rfl <| un rfl <| va (op_pick rfl rfl) <| vm rfl <| un rfl <| un rfl <| un rfl <| un rfl <| un rfl <| va (op_pick rfl rfl) <| vm rfl <| un rfl <| un rfl <| un rfl <| va (op_pick rfl rfl) <| vs rfl <| dt <| VC.ret <| ?_
      obtain rfl := Option.some.inj h
      exact rq 0 rfl ⟨rfl, rfl, rfl⟩
    obtain rfl : b27602 = false := hb27602.symm.trans (beq_eq_false_iff_ne.2 c27603)
    refine un rfl <| un rfl <| va (op_pick rfl rfl) <| vm rfl <| un rfl <| un rfl <| un rfl <| un rfl <| va (op_pick rfl rfl) <| vm rfl <| un rfl <| un rfl <| un rfl <| un rfl <| un rfl <| va (op_pick rfl rfl) <| vm rfl <| un rfl <| un rfl <| un rfl <| va (op_pick rfl rfl) <| vs rfl <| dt <| VC.ret <|
     ?_
    obtain rfl := Option.some.inj h
    exact rq 0 rfl ⟨rfl, rfl, rfl⟩
  obtain rfl : b27600 = false := hb27600.symm.trans (beq_eq_false_iff_ne.2 c27601)
  refine un rfl <| un rfl <| va (op_pick rfl rfl) <| vm rfl <| un rfl <| un rfl <| va (op_pick rfl rfl) <| vm rfl <| un rfl <| un rfl <| un rfl <| un rfl <| va (op_pick rfl rfl) <| vm rfl <| un rfl <| un rfl <| un rfl <| un rfl <| un rfl <| va (op_pick rfl rfl) <| vm rfl <| un rfl <| un rfl <|
   un rfl <| va (op_pick rfl rfl) <| vs rfl <| dt <| VC.ret <| ?_
  obtain rfl := Option.some.inj h
  exact rq 0 rfl ⟨rfl, rfl, rfl⟩

end Go.Proofs.Ytipeglbeongfmaa.PJournalOpens
