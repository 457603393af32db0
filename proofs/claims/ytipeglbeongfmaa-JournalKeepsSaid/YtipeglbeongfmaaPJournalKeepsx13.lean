/- Written by a program of this repo: what the program's functions do, each as a Lean function, shown of the loaded code; or a statement's row over that; no condition of its own. -/
import Derived.Test.YtipeglbeongfmaaPJournalKeepsx12
namespace Go.Proofs.Ytipeglbeongfmaa.PJournalKeeps
open Go Go.RowKit Go.Proofs.YtipeglbeongfmaaV
set_option linter.unusedVariables false
set_option linter.unusedSimpArgs false
set_option maxHeartbeats 4000000
set_option maxRecDepth 100000

theorem tarrylaw05_JournalKeeps.ok (k : Nat) (l0_0 : List ByteArray) (l0_1 : List S55) (a0_2 : Int) (a0_3 : Int) (a0_4 : Int) (l0_5 : List ByteArray) (l0_6 : List ByteArray) (a1 : ByteArray) (a2 : Bool) (a3 : Int) (a4 : Int) (a5 : ByteArray) (v0_0 : Value) (v0_1 : Value) (v0_5 : Value) (v0_6 : Value) (r1 : Bool) (h : tarrylaw05_JournalKeeps.f k l0_0 l0_1 a0_2 a0_3 a0_4 l0_5 l0_6 a1 a2 a3 a4 a5 = some r1) :
    VCalls Try.prog 5 [.agg #[v0_0, v0_1, .int .i64 a0_2, .int .i64 a0_3, .int .i64 a0_4, v0_5, v0_6], .string a1, .bool a2, .int .u64 a3, .int .i64 a4, .string a5] [.row v0_0 1 (l0_0.map enc_str), .row v0_1 2 (l0_1.map enc55), .row v0_5 1 (l0_5.map enc_str), .row v0_6 1 (l0_6.map enc_str)] (fun v G own => v = .bool r1 ∧ G = [] ∧ own = []) := by
  refine VCalls.intro Try.func5 rfl (len rfl) fun E hC hW hD hU => ?_
  unfold tarrylaw05_JournalKeeps.f at h
  refine sr <| sG (o_box rfl (.agg (.f 0 rfl (.f 1 rfl (.c rfl (.c rfl (.c rfl (.f 2 rfl (.f 3 rfl .nil))))))))) fun g5 => vs rfl <| dt <| ?_
  replace h := bd h
  obtain ⟨⟨r453, r454, t455, t456, t457, r458, r459⟩, hA460, h⟩ := h
  dsimp only at h
  replace h := iN h
  obtain ⟨c469, h⟩ := h
  replace h := iN h
  obtain ⟨c470, h⟩ := h
  replace h := iN h
  obtain ⟨c471, h⟩ := h
  replace h := iN h
  obtain ⟨c472, h⟩ := h
  refine VC.join4 (fun (v462 : Value) (v464 : Value) (v466 : Value) (v468 : Value) => ⟨160, [(1, .string (a1.extract 0 ((mn (a1.size : Int) 3002).toNat))), (2, .bool a2), (3, .int .u64 a3), (4, .int .i64 a4), (5, .string (a5.extract 0 ((mn (a5.size : Int) 20).toNat))), (6, .pointer (some ⟨g5, 0, none⟩)), (12, .bool false)], [], [(g5, 27, [v462, v464, .int .i64 t455, .int .i64 t456, .int .i64 t457, v466, v468])], [(v462, 9, 1, r453.map enc_str), (v464, 56, 2, r454.map enc55), (v466, 9, 1, r458.map enc_str), (v468, 9, 1, r459.map enc_str)]⟩) (fun (v462 : Value) (v464 : Value) (v466 : Value) (v468 : Value) => True) ?_ ?_
  · refine VC.drawB ⟨0, [], [], [], []⟩ [12] ⟨0, [], [], [(g5, 27, [v0_0, v0_1, .int .i64 a0_2, .int .i64 a0_3, .int .i64 a0_4, v0_5, v0_6])], []⟩ (by kernel_rfl) rfl (by kernel_rfl) (n := 15) (listed := LB 15 0) <|
     VB.vb (i := 0) (listed' := LB 15 1) rfl (op_load 0 7 rfl rfl TI27 rfl (fun h => absurd h (by decide))) rfl (by kernel_rfl) (by kernel_rfl) (by kernel_rfl) (by kernel_rfl) (by kernel_rfl) (by kernel_rfl) (PartP.on ⟨trivial, trivial, trivial⟩ ⟨trivial, ⟨⟨0, rfl⟩, trivial⟩, trivial⟩) (fun _ _ _ h => h) <|
     VB.va (i := 2) (listed' := LB 15 5) rfl (mv rfl) rfl (by kernel_rfl) (by kernel_rfl) (by kernel_rfl) (by kernel_rfl) (by decide) (PartP.on ⟨trivial, trivial, trivial⟩ ⟨trivial, ⟨⟨0, rfl⟩, trivial⟩, trivial⟩) (fun _ _ _ h => h) <|
     VB.va (i := 3) (listed' := LB 15 13) rfl (mv rfl) rfl (by kernel_rfl) (by kernel_rfl) (by kernel_rfl) (by kernel_rfl) (by decide) (PartP.on ⟨trivial, trivial, trivial⟩ ⟨trivial, ⟨⟨0, rfl⟩, trivial⟩, trivial⟩) (fun _ _ _ h => h) <|
     VB.va (i := 4) (listed' := LB 15 29) rfl (op_lens Try.underlying9 rfl) rfl (by kernel_rfl) (by kernel_rfl) (by kernel_rfl) (by kernel_rfl) (by decide) (PartP.on ⟨trivial, trivial, trivial⟩ ⟨trivial, ⟨⟨0, rfl⟩, trivial⟩, trivial⟩) (fun _ _ _ h => h) <|
     VB.va (i := 5) (listed' := LB 15 61) rfl (op_min rfl rfl) rfl (by kernel_rfl) (by kernel_rfl) (by kernel_rfl) (by kernel_rfl) (by decide) (PartP.on ⟨trivial, trivial, trivial⟩ ⟨trivial, ⟨⟨0, rfl⟩, trivial⟩, trivial⟩) (fun _ _ _ h => h) <|
     VB.va (i := 6) (listed' := LB 15 125) rfl (op_sliceS 0 ((mn (a1.size : Int) 3002).toNat) Try.underlying9 rfl ⟨rfl, ⟨_, _, rfl, c469, rfl⟩, Nat.zero_le _, tN (a := (mn (a1.size : Int) 3002)) (b := (a1.size : Int)) rfl rfl c470⟩ rfl) rfl (by kernel_rfl) (by kernel_rfl) (by kernel_rfl) (by kernel_rfl) (by decide) (PartP.on ⟨trivial, trivial, trivial⟩ ⟨trivial, ⟨⟨0, rfl⟩, trivial⟩, trivial⟩) (fun _ _ _ h => h) <|
     VB.va (i := 7) (listed' := LB 15 253) rfl (mv rfl) rfl (by kernel_rfl) (by kernel_rfl) (by kernel_rfl) (by kernel_rfl) (by decide) (PartP.on ⟨trivial, trivial, trivial⟩ ⟨trivial, ⟨⟨0, rfl⟩, trivial⟩, trivial⟩) (fun _ _ _ h => h) <|
     VB.va (i := 8) (listed' := LB 15 509) rfl (mv rfl) rfl (by kernel_rfl) (by kernel_rfl) (by kernel_rfl) (by kernel_rfl) (by decide) (PartP.on ⟨trivial, trivial, trivial⟩ ⟨trivial, ⟨⟨0, rfl⟩, trivial⟩, trivial⟩) (fun _ _ _ h => h) <|
     VB.va (i := 9) (listed' := LB 15 1021) rfl (op_lens Try.underlying9 rfl) rfl (by kernel_rfl) (by kernel_rfl) (by kernel_rfl) (by kernel_rfl) (by decide) (PartP.on ⟨trivial, trivial, trivial⟩ ⟨trivial, ⟨⟨0, rfl⟩, trivial⟩, trivial⟩) (fun _ _ _ h => h) <|
     VB.va (i := 10) (listed' := LB 15 2045) rfl (op_min rfl rfl) rfl (by kernel_rfl) (by kernel_rfl) (by kernel_rfl) (by kernel_rfl) (by decide) (PartP.on ⟨trivial, trivial, trivial⟩ ⟨trivial, ⟨⟨0, rfl⟩, trivial⟩, trivial⟩) (fun _ _ _ h => h) <|
     VB.va (i := 11) (listed' := LB 15 4093) rfl (op_sliceS 0 ((mn (a5.size : Int) 20).toNat) Try.underlying9 rfl ⟨rfl, ⟨_, _, rfl, c471, rfl⟩, Nat.zero_le _, tN (a := (mn (a5.size : Int) 20)) (b := (a5.size : Int)) rfl rfl c472⟩ rfl) rfl (by kernel_rfl) (by kernel_rfl) (by kernel_rfl) (by kernel_rfl) (by decide) (PartP.on ⟨trivial, trivial, trivial⟩ ⟨trivial, ⟨⟨0, rfl⟩, trivial⟩, trivial⟩) (fun _ _ _ h => h) <|
     VB.oneC (i := 1) (listed' := LB 15 4095) (by kernel_rfl) rfl (o_call0 FO8 (tarrylaw05_few.ok k l0_0 l0_1 a0_2 a0_3 a0_4 l0_5 l0_6 v0_0 v0_1 v0_5 v0_6 r453 r454 t455 t456 t457 r458 r459 hA460) rfl rfl (ltn rfl) (All_of (.cons (mG 0 rfl) (.cons (mG 1 rfl) (.cons (mG 2 rfl) (.cons (mG 3 rfl) .nil)))))) rfl (by kernel_rfl) <|
     ?_
    rintro _ _ _ ⟨v462, v464, v466, v468, rfl, rfl, rfl⟩
    refine ⟨(PartP.on ⟨trivial, trivial, trivial⟩ ⟨trivial, ⟨⟨0, rfl⟩, trivial⟩, trivial⟩), ?_⟩
    exact VB.one1 (i := 12) (listed' := LB 15 8191) (by kernel_rfl) rfl (o_store 0 7 rfl rfl rfl TI27 (.agg (.r 0 rfl (.r 1 rfl (.c rfl (.c rfl (.c rfl (.r 2 rfl (.r 3 rfl .nil)))))))) rfl (len rfl)) rfl (by kernel_rfl) (PartP.off (by kernel_rfl) ⟨trivial, trivial, trivial⟩) <|
     VB.va (i := 13) (listed' := LB 15 16383) rfl (ag rfl) rfl (by kernel_rfl) (by kernel_rfl) (by kernel_rfl) (by kernel_rfl) (by decide) (PartP.off (by kernel_rfl) ⟨trivial, trivial, trivial⟩) (fun _ _ _ h => h) <|
     VB.va (i := 14) (listed' := LB 15 32767) rfl (ag rfl) rfl (by kernel_rfl) (by kernel_rfl) (by kernel_rfl) (by kernel_rfl) (by decide) (PartP.off (by kernel_rfl) ⟨trivial, trivial, trivial⟩) (fun _ _ _ h => h) <| VB.done (by kernel_rfl) <|
     VN.meet4 v462 v464 v466 v468 [0] [0, 1, 2, 3] trivial ⟨rfl, ⟨rfl, rfl, rfl, rfl, rfl, rfl, rfl, trivial⟩, trivial, rfl, by decide, rfl, by decide⟩
  intro v462 v464 v466 v468 _
  refine sr <| va (op_load 0 7 rfl rfl TI27 rfl (fun h => absurd h (by decide))) <| vm rfl <| vm rfl <| vm rfl <| vm rfl <| ?_
  replace h := bd h
  obtain ⟨⟨r8841, r8842, t8843⟩, hA8844, h⟩ := h
  dsimp only at h
  refine sC (o_call_b0 FO20 (journal_Crash.ok k r453 r454 t455 t456 t457 r458 r459 (a1.extract 0 ((mn (a1.size : Int) 3002).toNat)) a2 a3 a4 v462 v464 v466 v468 r8841 r8842 t8843 hA8844) rfl rfl (ltn rfl) (All_of (.cons (.inr (.inl ⟨_, mG 0 rfl, rfl⟩)) (.cons (.inr (.inl ⟨_, mG 1 rfl, rfl⟩)) (.cons (.inr (.inl ⟨_, mG 2 rfl, rfl⟩)) (.cons (.inr (.inl ⟨_, mG 3 rfl, rfl⟩)) .nil))))) (by rintro _ _ _ ⟨v8846, v8848, rfl, rfl, rfl⟩; rfl)) <|
   ?_
  rintro _ _ _ ⟨v8846, v8848, rfl, rfl, rfl⟩
  refine vm rfl <| va (op_extract rfl rfl) <| va (op_extract rfl rfl) <| sG (o_alloc Z25 ZL25) fun g8849 => s1 (o_store 0 2 rfl rfl rfl TI25 (.agg (.r 0 rfl (.r 1 rfl .nil))) rfl (len rfl)) <| vs rfl <| ds <| sr <| vm rfl <|
   VL.letter ((t8843 != 0)) fun b9406 hb9406 => va (op_cmp rfl rfl (congrArg some hb9406)) <| dt <| ?_
  replace h := iC h
  rcases h with ⟨c9407, h⟩ | ⟨c9407, h⟩
  · obtain rfl : b9406 = false := hb9406.symm.trans (bne_eq_false_iff_eq.2 c9407)
    refine cf <| sk <| sr <| va (op_load 0 2 rfl rfl TI25 rfl (fun h => absurd h (by decide))) <| VL.freezeRow' 0 rfl <| VL.freezeRow' 0 rfl <| ?_
    replace h := bd h
    obtain ⟨⟨r9408, r9409, t9410, t9411, t9412, r9413, r9414, t9415⟩, hA9416, h⟩ := h
    dsimp only at h
    refine sC (o_call0 FO9 (journal_Open.ok k r8841 r8842 v8846 v8848 r9408 r9409 t9410 t9411 t9412 r9413 r9414 t9415 hA9416) rfl rfl (ltn rfl) (All_of (.cons (mG 1 rfl) (.cons (mG 0 rfl) .nil)))) <| ?_
    rintro _ _ _ ⟨v9418, v9420, v9422, v9424, rfl, rfl, rfl⟩
    refine vm rfl <| va (op_extract rfl rfl) <| va (op_extract rfl rfl) <| sG (o_alloc Z27 ZL27) fun g9425 => s1 (o_store 0 7 rfl rfl rfl TI27 (.agg (.f 0 rfl (.f 1 rfl (.c rfl (.c rfl (.c rfl (.r 0 rfl (.r 1 rfl .nil)))))))) rfl (len rfl)) <| vs rfl <| ds <| sr <| vm rfl <|
     VL.letter ((t9415 != 0)) fun b9456 hb9456 => va (op_cmp rfl rfl (congrArg some hb9456)) <| vm rfl <| ?_
    replace h := iC h
    rcases h with ⟨c9457, h⟩ | ⟨c9457, h⟩
    · obtain rfl : b9456 = false := hb9456.symm.trans (bne_eq_false_iff_eq.2 c9457)
      refine va (op_load 0 7 rfl rfl TI27 rfl (fun h => absurd h (by decide))) <| ?_
      replace h := bd h
      obtain ⟨t9458, hA9459, h⟩ := h
      refine sC (o_call_b0 FO12 (journal_Right.ok k r9408 r9409 t9410 t9411 t9412 r9413 r9414 v9418 v9420 v9422 v9424 t9458 hA9459) rfl rfl (ltn rfl) (All_of (.cons (.inl (mG 0 rfl)) (.cons (.inl (mG 1 rfl)) (.cons (.inr (.inl ⟨_, mG 0 rfl, rfl⟩)) (.cons (.inr (.inl ⟨_, mG 1 rfl, rfl⟩)) .nil))))) (by rintro _ _ _ ⟨rfl, rfl, rfl⟩; rfl)) <|
       ?_
      rintro _ _ _ ⟨rfl, rfl, rfl⟩
      replace h := iC h
      rcases h with ⟨c9460, h⟩ | ⟨c9460, h⟩
      · obtain rfl := c9460
        refine va (op_not rfl rfl) <| va (op_pick rfl rfl) <| vm rfl <| va (op_fieldAddr FI27_4 rfl (add_at _ _ _)) <| va (op_load 0 1 rfl rfl TI22 rfl (by decide)) <| va (op_len_own (m := r9413.length) 0 lenm Try.underlying22 rfl rfl) <|
         VL.letter (((r9413.length : Int) != 0)) fun b9461 hb9461 => va (op_cmp rfl rfl (congrArg some hb9461)) <| va (op_pick rfl rfl) <| vm rfl <| ?_
        replace h := iC h
        rcases h with ⟨c9462, h⟩ | ⟨c9462, h⟩
        · obtain rfl : b9461 = false := hb9461.symm.trans (bne_eq_false_iff_eq.2 c9462)
          replace h := bd h
          obtain ⟨t9463, hA9464, h⟩ := h
          refine sC (o_call0 FO14 (tarrylaw05_alive.ok k t9463 hA9464) rfl rfl (ltn rfl) (All_of .nil)) <| ?_
          rintro _ _ _ ⟨rfl, rfl, rfl⟩
          replace h := iC h
          rcases h with ⟨c9465, h⟩ | ⟨c9465, h⟩
          · obtain rfl := c9465
            refine va (op_not rfl rfl) <| va (op_pick rfl rfl) <| dt <| cf <| sk <| ?_
            replace h := iN h
            obtain ⟨c9468, h⟩ := h
            replace h := iN h
            obtain ⟨c9471, h⟩ := h
            refine VC.join1 (fun (v9472 : Value) => ⟨160, [(1, .string (a1.extract 0 ((mn (a1.size : Int) 3002).toNat))), (2, .bool a2), (5, .string (a5.extract 0 ((mn (a5.size : Int) 20).toNat))), (6, .pointer (some ⟨g5, 0, none⟩)), (12, .bool false), (15, .pointer (some ⟨g9425, 0, none⟩)), (17, v9472)], [.row v9418 1 (r9408.map enc_str), .row v9420 2 (r9409.map enc55)], [(g9425, 27, [v9418, v9420, .int .i64 t9410, .int .i64 t9411, .int .i64 t9412, v9422, v9424]), (g5, 27, [v462, v464, .int .i64 t455, .int .i64 t456, .int .i64 t457, v466, v468])], [(v9472, 9, 1, ((([] : List ByteArray) ++ r459) ++ r458).map enc_str), (v9422, 9, 1, r9413.map enc_str), (v9424, 9, 1, r9414.map enc_str), (v462, 9, 1, r453.map enc_str), (v464, 56, 2, r454.map enc55), (v466, 9, 1, r458.map enc_str), (v468, 9, 1, r459.map enc_str)]⟩) (fun (v9472 : Value) => True) ?_ ?_
            · exact VC.draw ⟨0, [], [], [(g5, 27, [v462, v464, .int .i64 t455, .int .i64 t456, .int .i64 t457, v466, v468])], []⟩ (by kernel_rfl) rfl (by kernel_rfl) (n := 8) (listed := LB 8 0) <| aw 1 2 rfl (op_fieldAddr FI27_5 rfl (add_at _ _ _)) ⟨trivial, ⟨⟨2, rfl⟩, trivial⟩, trivial⟩ <|
               aw 2 6 rfl (op_load 0 1 rfl rfl TI22 rfl (by decide)) ⟨trivial, ⟨⟨2, rfl⟩, trivial⟩, trivial⟩ <| aw 4 22 rfl (op_fieldAddr FI27_4 rfl (add_at _ _ _)) ⟨trivial, ⟨⟨2, rfl⟩, trivial⟩, trivial⟩ <| aw 5 54 rfl (op_load 0 1 rfl rfl TI22 rfl (by decide)) ⟨trivial, ⟨⟨2, rfl⟩, trivial⟩, trivial⟩ <|
               VA.oneG (i := 0) (listed' := LB 8 55) (by kernel_rfl) rfl (o_buildSlice (vals := []) (cells := #[]) (es := List.map enc_str ([] : List ByteArray)) Try.underlying22 TI9 Z9 rfl (by decide) (by decide) (by kernel_rfl) (by kernel_rfl) rfl (flat_map enc_str_ok _)) rfl (by kernel_rfl) (fun _ => ⟨trivial, ⟨⟨2, rfl⟩, trivial⟩, trivial⟩) fun v9467 => VA.oneG (i := 3) (listed' := LB 8 63) (by kernel_rfl) rfl (o_append 0 appm Try.underlying22 EI9 rfl rfl rfl (.inr ⟨6, _, rfl⟩) (bndm c9468)) rfl (by kernel_rfl) (fun _ => ⟨trivial, ⟨⟨2, rfl⟩, trivial⟩, trivial⟩) fun v9469 => VA.oneG (i := 6) (listed' := LB 8 127) (by kernel_rfl) rfl (o_append 0 appm Try.underlying22 EI9 rfl rfl rfl (.inr ⟨5, _, rfl⟩) (bndm c9471)) rfl (by kernel_rfl) (fun _ => ⟨trivial, ⟨⟨2, rfl⟩, trivial⟩, trivial⟩) fun v9472 => VA.more ⟨0, [], [], [(g5, 27, [v462, v464, .int .i64 t455, .int .i64 t456, .int .i64 t457, v466, v468])], [(v9472, 9, 1, ((([] : List ByteArray) ++ r459) ++ r458).map enc_str)]⟩ ⟨trivial, ⟨⟨0, rfl⟩, trivial⟩, trivial⟩ <|
               aw 7 255 rfl (ag rfl) ⟨trivial, ⟨⟨2, rfl⟩, trivial⟩, ⟨⟨0, rfl⟩, trivial⟩⟩ <| VA.done (by kernel_rfl) <| VN.meet1 v9472 [0, 2] [0, 1, 2, 3, 4, 5, 6] trivial ⟨rfl, ⟨rfl, rfl, rfl, rfl, rfl, rfl, rfl, trivial⟩, ⟨⟨0, rfl⟩, ⟨1, rfl⟩, trivial⟩, rfl, by decide, rfl, by decide⟩
            intro v9472 _
            refine VC.join2 (fun (v10176 : Value) (l10177 : List ByteArray) => ⟨160, [(2, .bool a2), (5, .string (a5.extract 0 ((mn (a5.size : Int) 20).toNat))), (6, .pointer (some ⟨g5, 0, none⟩)), (12, .bool false), (15, .pointer (some ⟨g9425, 0, none⟩)), (17, v10176)], [.row v9418 1 (r9408.map enc_str), .row v9420 2 (r9409.map enc55)], [(g9425, 27, [v9418, v9420, .int .i64 t9410, .int .i64 t9411, .int .i64 t9412, v9422, v9424]), (g5, 27, [v462, v464, .int .i64 t455, .int .i64 t456, .int .i64 t457, v466, v468])], [(v10176, 9, 1, l10177.map enc_str), (v9422, 9, 1, r9413.map enc_str), (v9424, 9, 1, r9414.map enc_str), (v462, 9, 1, r453.map enc_str), (v464, 56, 2, r454.map enc55), (v466, 9, 1, r458.map enc_str), (v468, 9, 1, r459.map enc_str)]⟩) (fun (v10176 : Value) (l10177 : List ByteArray) => tarrylaw05_JournalKeeps.j4 k a2 a5 r459 r9408 r9409 r9413 r9414 t9410 t9411 t9412 l10177 = some r1) ?_ ?_
            · refine sr <| vm rfl <| VL.letter (((a1.extract 0 ((mn (a1.size : Int) 3002).toNat)) != (⟨#[]⟩ : ByteArray))) fun b10171 hb10171 => va (op_cmps rfl rfl (congrArg some hb10171)) <| dt <| ?_
              replace h := iC h
              rcases h with ⟨c10172, h⟩ | ⟨c10172, h⟩
              · obtain rfl : b10171 = false := hb10171.symm.trans (bne_of_t c10172)
                refine cf <| VC.skip <| VN.meet2 v9472 ((([] : List ByteArray) ++ r459) ++ r458) [0, 1] [0, 1, 2, 3, 4, 5, 6] h ⟨rfl, ⟨rfl, rfl, rfl, rfl, rfl, rfl, trivial⟩, ⟨⟨0, rfl⟩, ⟨1, rfl⟩, trivial⟩, rfl, by decide, rfl, by decide⟩
              obtain rfl : b10171 = true := hb10171.symm.trans (bne_of_f c10172)
              refine ct <| rg <| vm rfl <| sG (o_buildSlice (vals := [(0, .string (a1.extract 0 ((mn (a1.size : Int) 3002).toNat)))]) (cells := #[.string (a1.extract 0 ((mn (a1.size : Int) 3002).toNat))]) (es := List.map enc_str ([a1.extract 0 ((mn (a1.size : Int) 3002).toNat)] : List ByteArray)) Try.underlying22 TI9 Z9 rfl (by decide) (by decide) (by kernel_rfl) (by kernel_rfl) rfl (flat_map enc_str_ok _)) fun v10174 => vs rfl <|
               dn <| VN.meet2 v10174 ([a1.extract 0 ((mn (a1.size : Int) 3002).toNat)] : List ByteArray) [0, 1] [0, 2, 3, 4, 5, 6, 7] h ⟨rfl, ⟨rfl, rfl, rfl, rfl, rfl, rfl, trivial⟩, ⟨⟨0, rfl⟩, ⟨1, rfl⟩, trivial⟩, rfl, by decide, rfl, by decide⟩
            clear h
            intro v10176 l10177 h
            unfold tarrylaw05_JournalKeeps.j4 at h
            refine VC.join0 (⟨160, [(5, .string (a5.extract 0 ((mn (a5.size : Int) 20).toNat))), (12, .bool false), (15, .pointer (some ⟨g9425, 0, none⟩))], [.row v9418 1 (r9408.map enc_str), .row v9420 2 (r9409.map enc55)], [(g9425, 27, [v9418, v9420, .int .i64 t9410, .int .i64 t9411, .int .i64 t9412, v9422, v9424])], [(v9422, 9, 1, r9413.map enc_str), (v9424, 9, 1, r9414.map enc_str)]⟩) (tarrylaw05_JournalKeeps.j6 k a5 r9408 r9409 r9413 r9414 t9410 t9411 t9412 = some r1) ?_ ?_
            · refine sr <| va (op_fieldAddr FI27_5 rfl (add_at _ _ _)) <| va (op_load 0 1 rfl rfl TI22 rfl (by decide)) <| va (op_fieldAddr FI27_5 rfl (add_at _ _ _)) <| va (op_load 1 1 rfl rfl TI22 rfl (by decide)) <| ?_
              replace h := bd h
              obtain ⟨t10409, hA10410, h⟩ := h
              refine sC (o_call_b0 FO17 (tarryref01_Same.ok k r9414 r459 v9424 v468 t10409 hA10410) rfl rfl (ltn rfl) (All_of (.cons (.inr (.inl ⟨_, mG 2 rfl, rfl⟩)) (.cons (.inr (.inl ⟨_, mG 6 rfl, rfl⟩)) .nil))) (by rintro _ _ _ ⟨rfl, rfl, rfl⟩; rfl)) <| ?_
              rintro _ _ _ ⟨rfl, rfl, rfl⟩
              replace h := iC h
              rcases h with ⟨c10411, h⟩ | ⟨c10411, h⟩
              · obtain rfl := c10411
                refine va (op_not rfl rfl) <| vm rfl <| un rfl <| un rfl <| un rfl <| un rfl <| un rfl <| un rfl <| un rfl <| un rfl <| va (op_pick rfl rfl) <| dt <| cf <| VC.skip <| VN.meet0  [0] [1, 2] h ⟨rfl, ⟨rfl, rfl, rfl, trivial⟩, ⟨⟨0, rfl⟩, ⟨1, rfl⟩, trivial⟩, rfl, by decide, rfl, by decide⟩
              obtain rfl := Bool.eq_false_iff.2 c10411
              refine va (op_not rfl rfl) <| vm rfl <| vm rfl <| vm rfl <| ?_
              replace h := iC h
              rcases h with ⟨c10412, h⟩ | ⟨c10412, h⟩
              · obtain rfl := c10412
                refine va (op_fieldAddr FI27_5 rfl (add_at _ _ _)) <| va (op_load 0 1 rfl rfl TI22 rfl (by decide)) <| vm rfl <| ?_
                replace h := bd h
                obtain ⟨t10413, hA10414, h⟩ := h
                refine sC (o_call_b0 FO17 (tarryref01_Same.ok k r9414 l10177 v9424 v10176 t10413 hA10414) rfl rfl (ltn rfl) (All_of (.cons (.inr (.inl ⟨_, mG 2 rfl, rfl⟩)) (.cons (.inr (.inl ⟨_, mG 0 rfl, rfl⟩)) .nil))) (by rintro _ _ _ ⟨rfl, rfl, rfl⟩; rfl)) <| ?_
                rintro _ _ _ ⟨rfl, rfl, rfl⟩
                refine va (op_pick rfl rfl) <| ?_
                replace h := iC h
                rcases h with ⟨c10415, h⟩ | ⟨c10415, h⟩
                · obtain rfl := c10415
                  refine va (op_not rfl rfl) <| va (op_pick rfl rfl) <| dt <| cf <| VC.skip <| VN.meet0  [0] [1, 2] h ⟨rfl, ⟨rfl, rfl, rfl, trivial⟩, ⟨⟨0, rfl⟩, ⟨1, rfl⟩, trivial⟩, rfl, by decide, rfl, by decide⟩
                obtain rfl := Bool.eq_false_iff.2 c10415
                refine va (op_not rfl rfl) <| va (op_pick rfl rfl) <| dt <| ct <| sr <| vs rfl <| dt <| VC.ret <| VR.then <| ?_
                cases h
              obtain rfl := Bool.eq_false_iff.2 c10412
              refine un rfl <| un rfl <| un rfl <| un rfl <| va (op_pick rfl rfl) <| va (op_not rfl rfl) <| va (op_pick rfl rfl) <| dt <| ct <| sr <| vs rfl <| dt <| VC.ret <| VR.then <| ?_
              cases h
            clear h
            intro  h
            unfold tarrylaw05_JournalKeeps.j6 at h
            refine sr <| va (op_load 0 7 rfl rfl TI27 rfl (fun h => absurd h (by decide))) <| vm rfl <| VL.freezeRow' 0 rfl <| VL.freezeRow' 0 rfl <| ?_
            replace h := bd h
            obtain ⟨⟨r10416, r10417, t10418, t10419, t10420, r10421, r10422, t10423⟩, hA10424, h⟩ := h
            dsimp only at h
            refine sC (o_call0 FO18 (journal_Append.ok k r9408 r9409 t9410 t9411 t9412 r9413 r9414 (a5.extract 0 ((mn (a5.size : Int) 20).toNat)) v9418 v9420 v9422 v9424 r10416 r10417 t10418 t10419 t10420 r10421 r10422 t10423 hA10424) rfl rfl (ltn rfl) (All_of (.cons (mG 2 rfl) (.cons (mG 3 rfl) (.cons (mG 1 rfl) (.cons (mG 0 rfl) .nil)))))) <|
             ?_
            rintro _ _ _ ⟨v10426, v10428, v10430, v10432, rfl, rfl, rfl⟩
            refine vm rfl <| va (op_extract rfl rfl) <| va (op_extract rfl rfl) <| sG (o_alloc Z27 ZL27) fun g10433 => s1 (o_store 0 7 rfl rfl rfl TI27 (.agg (.f 0 rfl (.f 1 rfl (.c rfl (.c rfl (.c rfl (.f 2 rfl (.f 3 rfl .nil)))))))) rfl (len rfl)) <| vs rfl <| ds <| sr <| vm rfl <|
             VL.letter ((t10423 != 0)) fun b10437 hb10437 => va (op_cmp rfl rfl (congrArg some hb10437)) <| dt <| ?_
            replace h := iC h
            rcases h with ⟨c10438, h⟩ | ⟨c10438, h⟩
            · obtain rfl : b10437 = false := hb10437.symm.trans (bne_eq_false_iff_eq.2 c10438)
              refine cf <| sk <| sr <| va (op_load 0 7 rfl rfl TI27 rfl (fun h => absurd h (by decide))) <| ?_
              replace h := bd h
              obtain ⟨⟨r10439, r10440, t10441, t10442, t10443, r10444, r10445, t10446⟩, hA10447, h⟩ := h
              dsimp only at h
              refine sC (o_call0 FO19 (journal_Commit.ok k r10416 r10417 t10418 t10419 t10420 r10421 r10422 v10426 v10428 v10430 v10432 r10439 r10440 t10441 t10442 t10443 r10444 r10445 t10446 hA10447) rfl rfl (ltn rfl) (All_of (.cons (mG 0 rfl) (.cons (mG 1 rfl) (.cons (mG 2 rfl) (.cons (mG 3 rfl) .nil)))))) <|
               ?_
              rintro _ _ _ ⟨v10449, v10451, v10453, v10455, rfl, rfl, rfl⟩
              refine vm rfl <| va (op_extract rfl rfl) <| va (op_extract rfl rfl) <| sG (o_alloc Z27 ZL27) fun g10456 => s1 (o_store 0 7 rfl rfl rfl TI27 (.agg (.f 0 rfl (.f 1 rfl (.c rfl (.c rfl (.c rfl (.r 0 rfl (.r 1 rfl .nil)))))))) rfl (len rfl)) <| vs rfl <| dt <|
               VC.letter ((t10446 == 0)) fun b10457 hb10457 => ?_
              replace h := iC h
              rcases h with ⟨c10458, h⟩ | ⟨c10458, h⟩
              · obtain rfl : b10457 = true := hb10457.symm.trans (beq_iff_eq.2 c10458)
                refine VC.letter (((r10445.length : Int) == (wrap64 ((r9414.length : Int) + 1)))) fun b10459 hb10459 => ?_
                replace h := iC h
                rcases h with ⟨c10460, h⟩ | ⟨c10460, h⟩
                · obtain rfl : b10459 = true := hb10459.symm.trans (beq_iff_eq.2 c10460)
                  replace h := iN h
                  obtain ⟨c10461, h⟩ := h
                  replace h := iN h
                  obtain ⟨c10462, h⟩ := h
                  replace h := bd h
                  obtain ⟨t10465, hA10466, h⟩ := h
                  replace h := iC h
                  rcases h with ⟨c10467, h⟩ | ⟨c10467, h⟩
                  · obtain rfl := c10467
                    replace h := bd h
                    obtain ⟨x10468, hx10468, h⟩ := h
                    refine VC.letter ((x10468 == (a5.extract 0 ((mn (a5.size : Int) 20).toNat)))) fun b10471 hb10471 => ?_
                    replace h := iC h
                    rcases h with ⟨c10472, h⟩ | ⟨c10472, h⟩
                    · obtain rfl : b10471 = true := hb10471.symm.trans (c10472)
                      refine VC.freezeRow' 1 rfl <| VC.open (m := r10445.length) 0 lenm rfl (pos_get hx10468) <| ?_
                      rintro ad10469 n10470 rfl
                      refine VC.join0 (⟨160, [(12, .bool true)], [], [], []⟩) (True) ?_ ?_
                      · refine VC.draw ⟨0, [], [.row (.slice (some ad10469) r10445.length n10470) 1 (r10445.map enc_str), .row v9424 1 (r9414.map enc_str)], [(g10456, 27, [v10449, v10451, .int .i64 t10441, .int .i64 t10442, .int .i64 t10443, v10453, (.slice (some ad10469) r10445.length n10470)]), (g9425, 27, [v9418, v9420, .int .i64 t9410, .int .i64 t9411, .int .i64 t9412, v9422, v9424])], []⟩ (by kernel_rfl) rfl (by kernel_rfl) (n := 39) (listed := LB 39 0) <|
                         aw 0 1 rfl (mv rfl) ⟨⟨⟨0, rfl⟩, ⟨7, rfl⟩, trivial⟩, ⟨⟨0, rfl⟩, ⟨2, rfl⟩, trivial⟩, trivial⟩ <| aw 1 3 rfl (op_cmp rfl rfl (congrArg some hb10457)) ⟨⟨⟨0, rfl⟩, ⟨7, rfl⟩, trivial⟩, ⟨⟨0, rfl⟩, ⟨2, rfl⟩, trivial⟩, trivial⟩ <|
                         aw 2 7 rfl (mv rfl) ⟨⟨⟨0, rfl⟩, ⟨7, rfl⟩, trivial⟩, ⟨⟨0, rfl⟩, ⟨2, rfl⟩, trivial⟩, trivial⟩ <| aw 3 15 rfl (op_fieldAddr FI27_5 rfl (add_at _ _ _)) ⟨⟨⟨0, rfl⟩, ⟨7, rfl⟩, trivial⟩, ⟨⟨0, rfl⟩, ⟨2, rfl⟩, trivial⟩, trivial⟩ <|
                         aw 4 31 rfl (op_load 0 1 rfl rfl TI22 rfl (by decide)) ⟨⟨⟨0, rfl⟩, ⟨7, rfl⟩, trivial⟩, ⟨⟨0, rfl⟩, ⟨2, rfl⟩, trivial⟩, trivial⟩ <| aw 5 63 rfl (op_len (m := r10445.length) 0 lenm Try.underlying22 rfl rfl) ⟨⟨⟨0, rfl⟩, ⟨7, rfl⟩, trivial⟩, ⟨⟨0, rfl⟩, ⟨2, rfl⟩, trivial⟩, trivial⟩ <|
                         aw 6 127 rfl (op_fieldAddr FI27_5 rfl (add_at _ _ _)) ⟨⟨⟨0, rfl⟩, ⟨7, rfl⟩, trivial⟩, ⟨⟨0, rfl⟩, ⟨2, rfl⟩, trivial⟩, trivial⟩ <| aw 7 255 rfl (op_load 1 1 rfl rfl TI22 rfl (by decide)) ⟨⟨⟨0, rfl⟩, ⟨7, rfl⟩, trivial⟩, ⟨⟨0, rfl⟩, ⟨2, rfl⟩, trivial⟩, trivial⟩ <|
                         aw 8 511 rfl (op_len (m := r9414.length) 1 lenm Try.underlying22 rfl rfl) ⟨⟨⟨0, rfl⟩, ⟨7, rfl⟩, trivial⟩, ⟨⟨0, rfl⟩, ⟨2, rfl⟩, trivial⟩, trivial⟩ <| aw 9 1023 rfl (op_ari64 rfl rfl rfl) ⟨⟨⟨0, rfl⟩, ⟨7, rfl⟩, trivial⟩, ⟨⟨0, rfl⟩, ⟨2, rfl⟩, trivial⟩, trivial⟩ <|
                         aw 10 2047 rfl (op_cmp rfl rfl (congrArg some hb10459)) ⟨⟨⟨0, rfl⟩, ⟨7, rfl⟩, trivial⟩, ⟨⟨0, rfl⟩, ⟨2, rfl⟩, trivial⟩, trivial⟩ <| aw 11 4095 rfl (op_pick rfl rfl) ⟨⟨⟨0, rfl⟩, ⟨7, rfl⟩, trivial⟩, ⟨⟨0, rfl⟩, ⟨2, rfl⟩, trivial⟩, trivial⟩ <|
                         aw 12 8191 rfl (mv rfl) ⟨⟨⟨0, rfl⟩, ⟨7, rfl⟩, trivial⟩, ⟨⟨0, rfl⟩, ⟨2, rfl⟩, trivial⟩, trivial⟩ <| aw 13 16383 rfl (op_fieldAddr FI27_5 rfl (add_at _ _ _)) ⟨⟨⟨0, rfl⟩, ⟨7, rfl⟩, trivial⟩, ⟨⟨0, rfl⟩, ⟨2, rfl⟩, trivial⟩, trivial⟩ <|
                         aw 14 32767 rfl (op_load 0 1 rfl rfl TI22 rfl (by decide)) ⟨⟨⟨0, rfl⟩, ⟨7, rfl⟩, trivial⟩, ⟨⟨0, rfl⟩, ⟨2, rfl⟩, trivial⟩, trivial⟩ <| aw 15 65535 rfl (op_fieldAddr FI27_5 rfl (add_at _ _ _)) ⟨⟨⟨0, rfl⟩, ⟨7, rfl⟩, trivial⟩, ⟨⟨0, rfl⟩, ⟨2, rfl⟩, trivial⟩, trivial⟩ <|
                         aw 16 131071 rfl (op_load 1 1 rfl rfl TI22 rfl (by decide)) ⟨⟨⟨0, rfl⟩, ⟨7, rfl⟩, trivial⟩, ⟨⟨0, rfl⟩, ⟨2, rfl⟩, trivial⟩, trivial⟩ <| aw 17 262143 rfl (op_len (m := r9414.length) 1 lenm Try.underlying22 rfl rfl) ⟨⟨⟨0, rfl⟩, ⟨7, rfl⟩, trivial⟩, ⟨⟨0, rfl⟩, ⟨2, rfl⟩, trivial⟩, trivial⟩ <|
                         VA.cut (i := 18) (listed' := LB 39 524287) rfl (m := r10445.length) 0 0 ((r9414.length : Int).toNat) lenm cutm Try.underlying22 TI9 rfl rfl ⟨rfl, ⟨_, _, rfl, c10461, rfl⟩, Nat.zero_le _, tN (a := (r9414.length : Int)) (b := (r10445.length : Int)) rfl rfl c10462⟩ (ltn rfl) rfl (by kernel_rfl) (by kernel_rfl) (by kernel_rfl) (by kernel_rfl) ⟨⟨⟨0, rfl⟩, ⟨7, rfl⟩, trivial⟩, ⟨⟨0, rfl⟩, ⟨2, rfl⟩, trivial⟩, trivial⟩ (fun _ _ _ _ h => h) <|
                         ?_
                        intro v10464
                        refine aw 19 1048575 rfl (op_fieldAddr FI27_5 rfl (add_at _ _ _)) ⟨⟨⟨1, rfl⟩, ⟨8, rfl⟩, trivial⟩, ⟨⟨0, rfl⟩, ⟨2, rfl⟩, trivial⟩, trivial⟩ <| aw 20 2097151 rfl (op_load 1 1 rfl rfl TI22 rfl (by decide)) ⟨⟨⟨1, rfl⟩, ⟨8, rfl⟩, trivial⟩, ⟨⟨0, rfl⟩, ⟨2, rfl⟩, trivial⟩, trivial⟩ <|
                         VA.oneC (i := 21) (listed' := LB 39 4194303) (by kernel_rfl) rfl (o_call0 FO17 (tarryref01_Same.ok k ((r10445.take ((r9414.length : Int).toNat)).drop 0) r9414 v10464 v9424 true hA10466) rfl rfl (ltn rfl) (All_of (.cons (mG 0 rfl) (.cons (mG 8 rfl) .nil)))) rfl (by kernel_rfl) <| ?_
                        rintro _ _ _ ⟨rfl, rfl, rfl⟩
                        refine ⟨⟨⟨⟨1, rfl⟩, ⟨8, rfl⟩, trivial⟩, ⟨⟨0, rfl⟩, ⟨2, rfl⟩, trivial⟩, trivial⟩, ?_⟩
                        exact aw 22 8388607 rfl (op_pick rfl rfl) ⟨⟨⟨1, rfl⟩, ⟨8, rfl⟩, trivial⟩, ⟨⟨0, rfl⟩, ⟨2, rfl⟩, trivial⟩, trivial⟩ <| aw 23 16777215 rfl (mv rfl) ⟨⟨⟨1, rfl⟩, ⟨8, rfl⟩, trivial⟩, ⟨⟨0, rfl⟩, ⟨2, rfl⟩, trivial⟩, trivial⟩ <|
                         aw 24 33554431 rfl (op_fieldAddr FI27_5 rfl (add_at _ _ _)) ⟨⟨⟨1, rfl⟩, ⟨8, rfl⟩, trivial⟩, ⟨⟨0, rfl⟩, ⟨2, rfl⟩, trivial⟩, trivial⟩ <| aw 25 67108863 rfl (op_load 0 1 rfl rfl TI22 rfl (by decide)) ⟨⟨⟨1, rfl⟩, ⟨8, rfl⟩, trivial⟩, ⟨⟨0, rfl⟩, ⟨2, rfl⟩, trivial⟩, trivial⟩ <|
                         aw 26 134217727 rfl (op_fieldAddr FI27_5 rfl (add_at _ _ _)) ⟨⟨⟨1, rfl⟩, ⟨8, rfl⟩, trivial⟩, ⟨⟨0, rfl⟩, ⟨2, rfl⟩, trivial⟩, trivial⟩ <| aw 27 268435455 rfl (op_load 1 1 rfl rfl TI22 rfl (by decide)) ⟨⟨⟨1, rfl⟩, ⟨8, rfl⟩, trivial⟩, ⟨⟨0, rfl⟩, ⟨2, rfl⟩, trivial⟩, trivial⟩ <|
                         aw 28 536870911 rfl (op_len (m := r9414.length) 1 lenm Try.underlying22 rfl rfl) ⟨⟨⟨1, rfl⟩, ⟨8, rfl⟩, trivial⟩, ⟨⟨0, rfl⟩, ⟨2, rfl⟩, trivial⟩, trivial⟩ <|
                         aw 29 1073741823 rfl (op_indexAddr Try.underlying22 TI9 rfl rfl c10461 (lt_get c10461 hx10468) rfl) ⟨⟨⟨1, rfl⟩, ⟨8, rfl⟩, trivial⟩, ⟨⟨0, rfl⟩, ⟨2, rfl⟩, trivial⟩, trivial⟩ <|
                         aw 30 2147483647 rfl (op_load_row (sz := 1) (o := 0) 0 (r9414.length : Int).toNat 1 rfl rfl (get_map hx10468) TI9 rfl (by decide)) ⟨⟨⟨1, rfl⟩, ⟨8, rfl⟩, trivial⟩, ⟨⟨0, rfl⟩, ⟨2, rfl⟩, trivial⟩, trivial⟩ <|
                         aw 31 4294967295 rfl (mv rfl) ⟨⟨⟨1, rfl⟩, ⟨8, rfl⟩, trivial⟩, ⟨⟨0, rfl⟩, ⟨2, rfl⟩, trivial⟩, trivial⟩ <| aw 32 8589934591 rfl (op_cmps rfl rfl (congrArg some hb10471)) ⟨⟨⟨1, rfl⟩, ⟨8, rfl⟩, trivial⟩, ⟨⟨0, rfl⟩, ⟨2, rfl⟩, trivial⟩, trivial⟩ <|
                         aw 33 17179869183 rfl (op_pick rfl rfl) ⟨⟨⟨1, rfl⟩, ⟨8, rfl⟩, trivial⟩, ⟨⟨0, rfl⟩, ⟨2, rfl⟩, trivial⟩, trivial⟩ <| aw 34 34359738367 rfl (mv rfl) ⟨⟨⟨1, rfl⟩, ⟨8, rfl⟩, trivial⟩, ⟨⟨0, rfl⟩, ⟨2, rfl⟩, trivial⟩, trivial⟩ <|
                         aU 35 68719476735 rfl rfl ⟨⟨⟨1, rfl⟩, ⟨8, rfl⟩, trivial⟩, ⟨⟨0, rfl⟩, ⟨2, rfl⟩, trivial⟩, trivial⟩ <| aU 36 137438953471 rfl rfl ⟨⟨⟨1, rfl⟩, ⟨8, rfl⟩, trivial⟩, ⟨⟨0, rfl⟩, ⟨2, rfl⟩, trivial⟩, trivial⟩ <|
                         aw 37 274877906943 rfl (op_pick rfl rfl) ⟨⟨⟨1, rfl⟩, ⟨8, rfl⟩, trivial⟩, ⟨⟨0, rfl⟩, ⟨2, rfl⟩, trivial⟩, trivial⟩ <| aw 38 549755813887 rfl (ag rfl) ⟨⟨⟨1, rfl⟩, ⟨8, rfl⟩, trivial⟩, ⟨⟨0, rfl⟩, ⟨2, rfl⟩, trivial⟩, trivial⟩ <| VA.done (by kernel_rfl) <|
                         VN.meet0  [] [] trivial ⟨rfl, ⟨rfl, trivial⟩, trivial, rfl, by decide, rfl, by decide⟩
                      intro _
                      refine VC.ret <| ?_
                      obtain rfl := Option.some.inj h
                      exact VR.fn (rs := [.tmp 12]) [] [] [] rfl (.tmp rfl .nil) ⟨rfl, rfl, rfl⟩ trivial rfl (by decide)
                    obtain rfl : b10471 = false := hb10471.symm.trans (Bool.eq_false_iff.2 c10472)
                    refine VC.letter ((t10446 == 7)) fun b10473 hb10473 => VC.freezeRow' 1 rfl <| VC.open (m := r10445.length) 0 lenm rfl (pos_get hx10468) <| ?_
                    rintro ad10469 n10470 rfl
                    refine VC.join0 (⟨160, [(12, .bool b10473)], [], [], []⟩) (True) ?_ ?_
                    · refine VC.draw ⟨0, [], [.row (.slice (some ad10469) r10445.length n10470) 1 (r10445.map enc_str), .row v9424 1 (r9414.map enc_str)], [(g10456, 27, [v10449, v10451, .int .i64 t10441, .int .i64 t10442, .int .i64 t10443, v10453, (.slice (some ad10469) r10445.length n10470)]), (g9425, 27, [v9418, v9420, .int .i64 t9410, .int .i64 t9411, .int .i64 t9412, v9422, v9424])], []⟩ (by kernel_rfl) rfl (by kernel_rfl) (n := 39) (listed := LB 39 0) <|
                       aw 0 1 rfl (mv rfl) ⟨⟨⟨0, rfl⟩, ⟨7, rfl⟩, trivial⟩, ⟨⟨0, rfl⟩, ⟨2, rfl⟩, trivial⟩, trivial⟩ <| aw 1 3 rfl (op_cmp rfl rfl (congrArg some hb10457)) ⟨⟨⟨0, rfl⟩, ⟨7, rfl⟩, trivial⟩, ⟨⟨0, rfl⟩, ⟨2, rfl⟩, trivial⟩, trivial⟩ <|
                       aw 2 7 rfl (mv rfl) ⟨⟨⟨0, rfl⟩, ⟨7, rfl⟩, trivial⟩, ⟨⟨0, rfl⟩, ⟨2, rfl⟩, trivial⟩, trivial⟩ <| aw 3 15 rfl (op_fieldAddr FI27_5 rfl (add_at _ _ _)) ⟨⟨⟨0, rfl⟩, ⟨7, rfl⟩, trivial⟩, ⟨⟨0, rfl⟩, ⟨2, rfl⟩, trivial⟩, trivial⟩ <|
                       aw 4 31 rfl (op_load 0 1 rfl rfl TI22 rfl (by decide)) ⟨⟨⟨0, rfl⟩, ⟨7, rfl⟩, trivial⟩, ⟨⟨0, rfl⟩, ⟨2, rfl⟩, trivial⟩, trivial⟩ <| aw 5 63 rfl (op_len (m := r10445.length) 0 lenm Try.underlying22 rfl rfl) ⟨⟨⟨0, rfl⟩, ⟨7, rfl⟩, trivial⟩, ⟨⟨0, rfl⟩, ⟨2, rfl⟩, trivial⟩, trivial⟩ <|
                       aw 6 127 rfl (op_fieldAddr FI27_5 rfl (add_at _ _ _)) ⟨⟨⟨0, rfl⟩, ⟨7, rfl⟩, trivial⟩, ⟨⟨0, rfl⟩, ⟨2, rfl⟩, trivial⟩, trivial⟩ <| aw 7 255 rfl (op_load 1 1 rfl rfl TI22 rfl (by decide)) ⟨⟨⟨0, rfl⟩, ⟨7, rfl⟩, trivial⟩, ⟨⟨0, rfl⟩, ⟨2, rfl⟩, trivial⟩, trivial⟩ <|
                       aw 8 511 rfl (op_len (m := r9414.length) 1 lenm Try.underlying22 rfl rfl) ⟨⟨⟨0, rfl⟩, ⟨7, rfl⟩, trivial⟩, ⟨⟨0, rfl⟩, ⟨2, rfl⟩, trivial⟩, trivial⟩ <| aw 9 1023 rfl (op_ari64 rfl rfl rfl) ⟨⟨⟨0, rfl⟩, ⟨7, rfl⟩, trivial⟩, ⟨⟨0, rfl⟩, ⟨2, rfl⟩, trivial⟩, trivial⟩ <|
                       aw 10 2047 rfl (op_cmp rfl rfl (congrArg some hb10459)) ⟨⟨⟨0, rfl⟩, ⟨7, rfl⟩, trivial⟩, ⟨⟨0, rfl⟩, ⟨2, rfl⟩, trivial⟩, trivial⟩ <| aw 11 4095 rfl (op_pick rfl rfl) ⟨⟨⟨0, rfl⟩, ⟨7, rfl⟩, trivial⟩, ⟨⟨0, rfl⟩, ⟨2, rfl⟩, trivial⟩, trivial⟩ <|
                       aw 12 8191 rfl (mv rfl) ⟨⟨⟨0, rfl⟩, ⟨7, rfl⟩, trivial⟩, ⟨⟨0, rfl⟩, ⟨2, rfl⟩, trivial⟩, trivial⟩ <| aw 13 16383 rfl (op_fieldAddr FI27_5 rfl (add_at _ _ _)) ⟨⟨⟨0, rfl⟩, ⟨7, rfl⟩, trivial⟩, ⟨⟨0, rfl⟩, ⟨2, rfl⟩, trivial⟩, trivial⟩ <|
                       aw 14 32767 rfl (op_load 0 1 rfl rfl TI22 rfl (by decide)) ⟨⟨⟨0, rfl⟩, ⟨7, rfl⟩, trivial⟩, ⟨⟨0, rfl⟩, ⟨2, rfl⟩, trivial⟩, trivial⟩ <| aw 15 65535 rfl (op_fieldAddr FI27_5 rfl (add_at _ _ _)) ⟨⟨⟨0, rfl⟩, ⟨7, rfl⟩, trivial⟩, ⟨⟨0, rfl⟩, ⟨2, rfl⟩, trivial⟩, trivial⟩ <|
                       aw 16 131071 rfl (op_load 1 1 rfl rfl TI22 rfl (by decide)) ⟨⟨⟨0, rfl⟩, ⟨7, rfl⟩, trivial⟩, ⟨⟨0, rfl⟩, ⟨2, rfl⟩, trivial⟩, trivial⟩ <| aw 17 262143 rfl (op_len (m := r9414.length) 1 lenm Try.underlying22 rfl rfl) ⟨⟨⟨0, rfl⟩, ⟨7, rfl⟩, trivial⟩, ⟨⟨0, rfl⟩, ⟨2, rfl⟩, trivial⟩, trivial⟩ <|
                       VA.cut (i := 18) (listed' := LB 39 524287) rfl (m := r10445.length) 0 0 ((r9414.length : Int).toNat) lenm cutm Try.underlying22 TI9 rfl rfl ⟨rfl, ⟨_, _, rfl, c10461, rfl⟩, Nat.zero_le _, tN (a := (r9414.length : Int)) (b := (r10445.length : Int)) rfl rfl c10462⟩ (ltn rfl) rfl (by kernel_rfl) (by kernel_rfl) (by kernel_rfl) (by kernel_rfl) ⟨⟨⟨0, rfl⟩, ⟨7, rfl⟩, trivial⟩, ⟨⟨0, rfl⟩, ⟨2, rfl⟩, trivial⟩, trivial⟩ (fun _ _ _ _ h => h) <|
                       ?_
                      intro v10464
                      refine aw 19 1048575 rfl (op_fieldAddr FI27_5 rfl (add_at _ _ _)) ⟨⟨⟨1, rfl⟩, ⟨8, rfl⟩, trivial⟩, ⟨⟨0, rfl⟩, ⟨2, rfl⟩, trivial⟩, trivial⟩ <| aw 20 2097151 rfl (op_load 1 1 rfl rfl TI22 rfl (by decide)) ⟨⟨⟨1, rfl⟩, ⟨8, rfl⟩, trivial⟩, ⟨⟨0, rfl⟩, ⟨2, rfl⟩, trivial⟩, trivial⟩ <|
                       VA.oneC (i := 21) (listed' := LB 39 4194303) (by kernel_rfl) rfl (o_call0 FO17 (tarryref01_Same.ok k ((r10445.take ((r9414.length : Int).toNat)).drop 0) r9414 v10464 v9424 true hA10466) rfl rfl (ltn rfl) (All_of (.cons (mG 0 rfl) (.cons (mG 8 rfl) .nil)))) rfl (by kernel_rfl) <| ?_
                      rintro _ _ _ ⟨rfl, rfl, rfl⟩
                      refine ⟨⟨⟨⟨1, rfl⟩, ⟨8, rfl⟩, trivial⟩, ⟨⟨0, rfl⟩, ⟨2, rfl⟩, trivial⟩, trivial⟩, ?_⟩
                      exact aw 22 8388607 rfl (op_pick rfl rfl) ⟨⟨⟨1, rfl⟩, ⟨8, rfl⟩, trivial⟩, ⟨⟨0, rfl⟩, ⟨2, rfl⟩, trivial⟩, trivial⟩ <| aw 23 16777215 rfl (mv rfl) ⟨⟨⟨1, rfl⟩, ⟨8, rfl⟩, trivial⟩, ⟨⟨0, rfl⟩, ⟨2, rfl⟩, trivial⟩, trivial⟩ <|
                       aw 24 33554431 rfl (op_fieldAddr FI27_5 rfl (add_at _ _ _)) ⟨⟨⟨1, rfl⟩, ⟨8, rfl⟩, trivial⟩, ⟨⟨0, rfl⟩, ⟨2, rfl⟩, trivial⟩, trivial⟩ <| aw 25 67108863 rfl (op_load 0 1 rfl rfl TI22 rfl (by decide)) ⟨⟨⟨1, rfl⟩, ⟨8, rfl⟩, trivial⟩, ⟨⟨0, rfl⟩, ⟨2, rfl⟩, trivial⟩, trivial⟩ <|
                       aw 26 134217727 rfl (op_fieldAddr FI27_5 rfl (add_at _ _ _)) ⟨⟨⟨1, rfl⟩, ⟨8, rfl⟩, trivial⟩, ⟨⟨0, rfl⟩, ⟨2, rfl⟩, trivial⟩, trivial⟩ <| aw 27 268435455 rfl (op_load 1 1 rfl rfl TI22 rfl (by decide)) ⟨⟨⟨1, rfl⟩, ⟨8, rfl⟩, trivial⟩, ⟨⟨0, rfl⟩, ⟨2, rfl⟩, trivial⟩, trivial⟩ <|
                       aw 28 536870911 rfl (op_len (m := r9414.length) 1 lenm Try.underlying22 rfl rfl) ⟨⟨⟨1, rfl⟩, ⟨8, rfl⟩, trivial⟩, ⟨⟨0, rfl⟩, ⟨2, rfl⟩, trivial⟩, trivial⟩ <|
                       aw 29 1073741823 rfl (op_indexAddr Try.underlying22 TI9 rfl rfl c10461 (lt_get c10461 hx10468) rfl) ⟨⟨⟨1, rfl⟩, ⟨8, rfl⟩, trivial⟩, ⟨⟨0, rfl⟩, ⟨2, rfl⟩, trivial⟩, trivial⟩ <|
                       aw 30 2147483647 rfl (op_load_row (sz := 1) (o := 0) 0 (r9414.length : Int).toNat 1 rfl rfl (get_map hx10468) TI9 rfl (by decide)) ⟨⟨⟨1, rfl⟩, ⟨8, rfl⟩, trivial⟩, ⟨⟨0, rfl⟩, ⟨2, rfl⟩, trivial⟩, trivial⟩ <|
                       aw 31 4294967295 rfl (mv rfl) ⟨⟨⟨1, rfl⟩, ⟨8, rfl⟩, trivial⟩, ⟨⟨0, rfl⟩, ⟨2, rfl⟩, trivial⟩, trivial⟩ <| aw 32 8589934591 rfl (op_cmps rfl rfl (congrArg some hb10471)) ⟨⟨⟨1, rfl⟩, ⟨8, rfl⟩, trivial⟩, ⟨⟨0, rfl⟩, ⟨2, rfl⟩, trivial⟩, trivial⟩ <|
                       aw 33 17179869183 rfl (op_pick rfl rfl) ⟨⟨⟨1, rfl⟩, ⟨8, rfl⟩, trivial⟩, ⟨⟨0, rfl⟩, ⟨2, rfl⟩, trivial⟩, trivial⟩ <| aw 34 34359738367 rfl (mv rfl) ⟨⟨⟨1, rfl⟩, ⟨8, rfl⟩, trivial⟩, ⟨⟨0, rfl⟩, ⟨2, rfl⟩, trivial⟩, trivial⟩ <|
                       aw 35 68719476735 rfl (mv rfl) ⟨⟨⟨1, rfl⟩, ⟨8, rfl⟩, trivial⟩, ⟨⟨0, rfl⟩, ⟨2, rfl⟩, trivial⟩, trivial⟩ <| aw 36 137438953471 rfl (op_cmp rfl rfl (congrArg some hb10473)) ⟨⟨⟨1, rfl⟩, ⟨8, rfl⟩, trivial⟩, ⟨⟨0, rfl⟩, ⟨2, rfl⟩, trivial⟩, trivial⟩ <|
                       aw 37 274877906943 rfl (op_pick rfl rfl) ⟨⟨⟨1, rfl⟩, ⟨8, rfl⟩, trivial⟩, ⟨⟨0, rfl⟩, ⟨2, rfl⟩, trivial⟩, trivial⟩ <| aw 38 549755813887 rfl (ag rfl) ⟨⟨⟨1, rfl⟩, ⟨8, rfl⟩, trivial⟩, ⟨⟨0, rfl⟩, ⟨2, rfl⟩, trivial⟩, trivial⟩ <| VA.done (by kernel_rfl) <|
                       VN.meet0  [] [] trivial ⟨rfl, ⟨rfl, trivial⟩, trivial, rfl, by decide, rfl, by decide⟩
                    intro _
                    refine VC.ret <| ?_
                    obtain rfl := Option.some.inj h
                    subst hb10473
                    exact VR.fn (rs := [.tmp 12]) [] [] [] rfl (.tmp rfl .nil) ⟨rfl, rfl, rfl⟩ trivial rfl (by decide)
                  obtain rfl := Bool.eq_false_iff.2 c10467
                  refine VC.letter ((t10446 == 7)) fun b10474 hb10474 => VC.freezeRow' 1 rfl <| VC.join0 (⟨160, [(12, .bool b10474)], [], [], []⟩) (True) ?_ ?_
                  · refine VC.draw ⟨0, [], [.row v10455 1 (r10445.map enc_str), .row v9424 1 (r9414.map enc_str)], [(g10456, 27, [v10449, v10451, .int .i64 t10441, .int .i64 t10442, .int .i64 t10443, v10453, v10455]), (g9425, 27, [v9418, v9420, .int .i64 t9410, .int .i64 t9411, .int .i64 t9412, v9422, v9424])], []⟩ (by kernel_rfl) rfl (by kernel_rfl) (n := 39) (listed := LB 39 0) <|
                     aw 0 1 rfl (mv rfl) ⟨⟨⟨0, rfl⟩, ⟨7, rfl⟩, trivial⟩, ⟨⟨0, rfl⟩, ⟨2, rfl⟩, trivial⟩, trivial⟩ <| aw 1 3 rfl (op_cmp rfl rfl (congrArg some hb10457)) ⟨⟨⟨0, rfl⟩, ⟨7, rfl⟩, trivial⟩, ⟨⟨0, rfl⟩, ⟨2, rfl⟩, trivial⟩, trivial⟩ <|
                     aw 2 7 rfl (mv rfl) ⟨⟨⟨0, rfl⟩, ⟨7, rfl⟩, trivial⟩, ⟨⟨0, rfl⟩, ⟨2, rfl⟩, trivial⟩, trivial⟩ <| aw 3 15 rfl (op_fieldAddr FI27_5 rfl (add_at _ _ _)) ⟨⟨⟨0, rfl⟩, ⟨7, rfl⟩, trivial⟩, ⟨⟨0, rfl⟩, ⟨2, rfl⟩, trivial⟩, trivial⟩ <|
                     aw 4 31 rfl (op_load 0 1 rfl rfl TI22 rfl (by decide)) ⟨⟨⟨0, rfl⟩, ⟨7, rfl⟩, trivial⟩, ⟨⟨0, rfl⟩, ⟨2, rfl⟩, trivial⟩, trivial⟩ <| aw 5 63 rfl (op_len (m := r10445.length) 0 lenm Try.underlying22 rfl rfl) ⟨⟨⟨0, rfl⟩, ⟨7, rfl⟩, trivial⟩, ⟨⟨0, rfl⟩, ⟨2, rfl⟩, trivial⟩, trivial⟩ <|
                     aw 6 127 rfl (op_fieldAddr FI27_5 rfl (add_at _ _ _)) ⟨⟨⟨0, rfl⟩, ⟨7, rfl⟩, trivial⟩, ⟨⟨0, rfl⟩, ⟨2, rfl⟩, trivial⟩, trivial⟩ <| aw 7 255 rfl (op_load 1 1 rfl rfl TI22 rfl (by decide)) ⟨⟨⟨0, rfl⟩, ⟨7, rfl⟩, trivial⟩, ⟨⟨0, rfl⟩, ⟨2, rfl⟩, trivial⟩, trivial⟩ <|
                     aw 8 511 rfl (op_len (m := r9414.length) 1 lenm Try.underlying22 rfl rfl) ⟨⟨⟨0, rfl⟩, ⟨7, rfl⟩, trivial⟩, ⟨⟨0, rfl⟩, ⟨2, rfl⟩, trivial⟩, trivial⟩ <| aw 9 1023 rfl (op_ari64 rfl rfl rfl) ⟨⟨⟨0, rfl⟩, ⟨7, rfl⟩, trivial⟩, ⟨⟨0, rfl⟩, ⟨2, rfl⟩, trivial⟩, trivial⟩ <|
                     aw 10 2047 rfl (op_cmp rfl rfl (congrArg some hb10459)) ⟨⟨⟨0, rfl⟩, ⟨7, rfl⟩, trivial⟩, ⟨⟨0, rfl⟩, ⟨2, rfl⟩, trivial⟩, trivial⟩ <| aw 11 4095 rfl (op_pick rfl rfl) ⟨⟨⟨0, rfl⟩, ⟨7, rfl⟩, trivial⟩, ⟨⟨0, rfl⟩, ⟨2, rfl⟩, trivial⟩, trivial⟩ <|
                     aw 12 8191 rfl (mv rfl) ⟨⟨⟨0, rfl⟩, ⟨7, rfl⟩, trivial⟩, ⟨⟨0, rfl⟩, ⟨2, rfl⟩, trivial⟩, trivial⟩ <| aw 13 16383 rfl (op_fieldAddr FI27_5 rfl (add_at _ _ _)) ⟨⟨⟨0, rfl⟩, ⟨7, rfl⟩, trivial⟩, ⟨⟨0, rfl⟩, ⟨2, rfl⟩, trivial⟩, trivial⟩ <|
                     aw 14 32767 rfl (op_load 0 1 rfl rfl TI22 rfl (by decide)) ⟨⟨⟨0, rfl⟩, ⟨7, rfl⟩, trivial⟩, ⟨⟨0, rfl⟩, ⟨2, rfl⟩, trivial⟩, trivial⟩ <| aw 15 65535 rfl (op_fieldAddr FI27_5 rfl (add_at _ _ _)) ⟨⟨⟨0, rfl⟩, ⟨7, rfl⟩, trivial⟩, ⟨⟨0, rfl⟩, ⟨2, rfl⟩, trivial⟩, trivial⟩ <|
                     aw 16 131071 rfl (op_load 1 1 rfl rfl TI22 rfl (by decide)) ⟨⟨⟨0, rfl⟩, ⟨7, rfl⟩, trivial⟩, ⟨⟨0, rfl⟩, ⟨2, rfl⟩, trivial⟩, trivial⟩ <| aw 17 262143 rfl (op_len (m := r9414.length) 1 lenm Try.underlying22 rfl rfl) ⟨⟨⟨0, rfl⟩, ⟨7, rfl⟩, trivial⟩, ⟨⟨0, rfl⟩, ⟨2, rfl⟩, trivial⟩, trivial⟩ <|
                     VA.cut (i := 18) (listed' := LB 39 524287) rfl (m := r10445.length) 0 0 ((r9414.length : Int).toNat) lenm cutm Try.underlying22 TI9 rfl rfl ⟨rfl, ⟨_, _, rfl, c10461, rfl⟩, Nat.zero_le _, tN (a := (r9414.length : Int)) (b := (r10445.length : Int)) rfl rfl c10462⟩ (ltn rfl) rfl (by kernel_rfl) (by kernel_rfl) (by kernel_rfl) (by kernel_rfl) ⟨⟨⟨0, rfl⟩, ⟨7, rfl⟩, trivial⟩, ⟨⟨0, rfl⟩, ⟨2, rfl⟩, trivial⟩, trivial⟩ (fun _ _ _ _ h => h) <|
                     ?_
                    intro v10464
                    refine aw 19 1048575 rfl (op_fieldAddr FI27_5 rfl (add_at _ _ _)) ⟨⟨⟨1, rfl⟩, ⟨8, rfl⟩, trivial⟩, ⟨⟨0, rfl⟩, ⟨2, rfl⟩, trivial⟩, trivial⟩ <| aw 20 2097151 rfl (op_load 1 1 rfl rfl TI22 rfl (by decide)) ⟨⟨⟨1, rfl⟩, ⟨8, rfl⟩, trivial⟩, ⟨⟨0, rfl⟩, ⟨2, rfl⟩, trivial⟩, trivial⟩ <|
                     VA.oneC (i := 21) (listed' := LB 39 4194303) (by kernel_rfl) rfl (o_call0 FO17 (tarryref01_Same.ok k ((r10445.take ((r9414.length : Int).toNat)).drop 0) r9414 v10464 v9424 false hA10466) rfl rfl (ltn rfl) (All_of (.cons (mG 0 rfl) (.cons (mG 8 rfl) .nil)))) rfl (by kernel_rfl) <| ?_
                    rintro _ _ _ ⟨rfl, rfl, rfl⟩
                    refine ⟨⟨⟨⟨1, rfl⟩, ⟨8, rfl⟩, trivial⟩, ⟨⟨0, rfl⟩, ⟨2, rfl⟩, trivial⟩, trivial⟩, ?_⟩
                    exact aw 22 8388607 rfl (op_pick rfl rfl) ⟨⟨⟨1, rfl⟩, ⟨8, rfl⟩, trivial⟩, ⟨⟨0, rfl⟩, ⟨2, rfl⟩, trivial⟩, trivial⟩ <| aw 23 16777215 rfl (mv rfl) ⟨⟨⟨1, rfl⟩, ⟨8, rfl⟩, trivial⟩, ⟨⟨0, rfl⟩, ⟨2, rfl⟩, trivial⟩, trivial⟩ <|
                     aU 24 33554431 rfl rfl ⟨⟨⟨1, rfl⟩, ⟨8, rfl⟩, trivial⟩, ⟨⟨0, rfl⟩, ⟨2, rfl⟩, trivial⟩, trivial⟩ <| aU 25 67108863 rfl rfl ⟨⟨⟨1, rfl⟩, ⟨8, rfl⟩, trivial⟩, ⟨⟨0, rfl⟩, ⟨2, rfl⟩, trivial⟩, trivial⟩ <| aU 26 134217727 rfl rfl ⟨⟨⟨1, rfl⟩, ⟨8, rfl⟩, trivial⟩, ⟨⟨0, rfl⟩, ⟨2, rfl⟩, trivial⟩, trivial⟩ <|
                     aU 27 268435455 rfl rfl ⟨⟨⟨1, rfl⟩, ⟨8, rfl⟩, trivial⟩, ⟨⟨0, rfl⟩, ⟨2, rfl⟩, trivial⟩, trivial⟩ <| aU 28 536870911 rfl rfl ⟨⟨⟨1, rfl⟩, ⟨8, rfl⟩, trivial⟩, ⟨⟨0, rfl⟩, ⟨2, rfl⟩, trivial⟩, trivial⟩ <| aU 29 1073741823 rfl rfl ⟨⟨⟨1, rfl⟩, ⟨8, rfl⟩, trivial⟩, ⟨⟨0, rfl⟩, ⟨2, rfl⟩, trivial⟩, trivial⟩ <|
                     aU 30 2147483647 rfl rfl ⟨⟨⟨1, rfl⟩, ⟨8, rfl⟩, trivial⟩, ⟨⟨0, rfl⟩, ⟨2, rfl⟩, trivial⟩, trivial⟩ <| aU 31 4294967295 rfl rfl ⟨⟨⟨1, rfl⟩, ⟨8, rfl⟩, trivial⟩, ⟨⟨0, rfl⟩, ⟨2, rfl⟩, trivial⟩, trivial⟩ <| aU 32 8589934591 rfl rfl ⟨⟨⟨1, rfl⟩, ⟨8, rfl⟩, trivial⟩, ⟨⟨0, rfl⟩, ⟨2, rfl⟩, trivial⟩, trivial⟩ <|
                     aw 33 17179869183 rfl (op_pick rfl rfl) ⟨⟨⟨1, rfl⟩, ⟨8, rfl⟩, trivial⟩, ⟨⟨0, rfl⟩, ⟨2, rfl⟩, trivial⟩, trivial⟩ <| aw 34 34359738367 rfl (mv rfl) ⟨⟨⟨1, rfl⟩, ⟨8, rfl⟩, trivial⟩, ⟨⟨0, rfl⟩, ⟨2, rfl⟩, trivial⟩, trivial⟩ <|
                     aw 35 68719476735 rfl (mv rfl) ⟨⟨⟨1, rfl⟩, ⟨8, rfl⟩, trivial⟩, ⟨⟨0, rfl⟩, ⟨2, rfl⟩, trivial⟩, trivial⟩ <| aw 36 137438953471 rfl (op_cmp rfl rfl (congrArg some hb10474)) ⟨⟨⟨1, rfl⟩, ⟨8, rfl⟩, trivial⟩, ⟨⟨0, rfl⟩, ⟨2, rfl⟩, trivial⟩, trivial⟩ <|
                     aw 37 274877906943 rfl (op_pick rfl rfl) ⟨⟨⟨1, rfl⟩, ⟨8, rfl⟩, trivial⟩, ⟨⟨0, rfl⟩, ⟨2, rfl⟩, trivial⟩, trivial⟩ <| aw 38 549755813887 rfl (ag rfl) ⟨⟨⟨1, rfl⟩, ⟨8, rfl⟩, trivial⟩, ⟨⟨0, rfl⟩, ⟨2, rfl⟩, trivial⟩, trivial⟩ <| VA.done (by kernel_rfl) <|
                     VN.meet0  [] [] trivial ⟨rfl, ⟨rfl, trivial⟩, trivial, rfl, by decide, rfl, by decide⟩
                  intro _
                  refine VC.ret <| ?_
                  obtain rfl := Option.some.inj h
                  subst hb10474
                  exact VR.fn (rs := [.tmp 12]) [] [] [] rfl (.tmp rfl .nil) ⟨rfl, rfl, rfl⟩ trivial rfl (by decide)
                obtain rfl : b10459 = false := hb10459.symm.trans (beq_eq_false_iff_ne.2 c10460)
                refine VC.letter ((t10446 == 7)) fun b10475 hb10475 => VC.join0 (⟨160, [(12, .bool b10475)], [], [], []⟩) (True) ?_ ?_
                · exact VC.draw ⟨0, [], [.row v9424 1 (r9414.map enc_str)], [(g10456, 27, [v10449, v10451, .int .i64 t10441, .int .i64 t10442, .int .i64 t10443, v10453, v10455]), (g9425, 27, [v9418, v9420, .int .i64 t9410, .int .i64 t9411, .int .i64 t9412, v9422, v9424])], [(v10455, 9, 1, r10445.map enc_str)]⟩ (by kernel_rfl) rfl (by kernel_rfl) (n := 39) (listed := LB 39 0) <|
                   aw 0 1 rfl (mv rfl) ⟨⟨⟨6, rfl⟩, trivial⟩, ⟨⟨0, rfl⟩, ⟨2, rfl⟩, trivial⟩, ⟨⟨1, rfl⟩, trivial⟩⟩ <| aw 1 3 rfl (op_cmp rfl rfl (congrArg some hb10457)) ⟨⟨⟨6, rfl⟩, trivial⟩, ⟨⟨0, rfl⟩, ⟨2, rfl⟩, trivial⟩, ⟨⟨1, rfl⟩, trivial⟩⟩ <|
                   aw 2 7 rfl (mv rfl) ⟨⟨⟨6, rfl⟩, trivial⟩, ⟨⟨0, rfl⟩, ⟨2, rfl⟩, trivial⟩, ⟨⟨1, rfl⟩, trivial⟩⟩ <| aw 3 15 rfl (op_fieldAddr FI27_5 rfl (add_at _ _ _)) ⟨⟨⟨6, rfl⟩, trivial⟩, ⟨⟨0, rfl⟩, ⟨2, rfl⟩, trivial⟩, ⟨⟨1, rfl⟩, trivial⟩⟩ <|
                   aw 4 31 rfl (op_load 0 1 rfl rfl TI22 rfl (by decide)) ⟨⟨⟨6, rfl⟩, trivial⟩, ⟨⟨0, rfl⟩, ⟨2, rfl⟩, trivial⟩, ⟨⟨1, rfl⟩, trivial⟩⟩ <| aw 5 63 rfl (op_len_own (m := r10445.length) 0 lenm Try.underlying22 rfl rfl) ⟨⟨⟨6, rfl⟩, trivial⟩, ⟨⟨0, rfl⟩, ⟨2, rfl⟩, trivial⟩, ⟨⟨1, rfl⟩, trivial⟩⟩ <|
                   aw 6 127 rfl (op_fieldAddr FI27_5 rfl (add_at _ _ _)) ⟨⟨⟨6, rfl⟩, trivial⟩, ⟨⟨0, rfl⟩, ⟨2, rfl⟩, trivial⟩, ⟨⟨1, rfl⟩, trivial⟩⟩ <| aw 7 255 rfl (op_load 1 1 rfl rfl TI22 rfl (by decide)) ⟨⟨⟨6, rfl⟩, trivial⟩, ⟨⟨0, rfl⟩, ⟨2, rfl⟩, trivial⟩, ⟨⟨1, rfl⟩, trivial⟩⟩ <|
                   aw 8 511 rfl (op_len (m := r9414.length) 0 lenm Try.underlying22 rfl rfl) ⟨⟨⟨6, rfl⟩, trivial⟩, ⟨⟨0, rfl⟩, ⟨2, rfl⟩, trivial⟩, ⟨⟨1, rfl⟩, trivial⟩⟩ <| aw 9 1023 rfl (op_ari64 rfl rfl rfl) ⟨⟨⟨6, rfl⟩, trivial⟩, ⟨⟨0, rfl⟩, ⟨2, rfl⟩, trivial⟩, ⟨⟨1, rfl⟩, trivial⟩⟩ <|
                   aw 10 2047 rfl (op_cmp rfl rfl (congrArg some hb10459)) ⟨⟨⟨6, rfl⟩, trivial⟩, ⟨⟨0, rfl⟩, ⟨2, rfl⟩, trivial⟩, ⟨⟨1, rfl⟩, trivial⟩⟩ <| aw 11 4095 rfl (op_pick rfl rfl) ⟨⟨⟨6, rfl⟩, trivial⟩, ⟨⟨0, rfl⟩, ⟨2, rfl⟩, trivial⟩, ⟨⟨1, rfl⟩, trivial⟩⟩ <|
                   aw 12 8191 rfl (mv rfl) ⟨⟨⟨6, rfl⟩, trivial⟩, ⟨⟨0, rfl⟩, ⟨2, rfl⟩, trivial⟩, ⟨⟨1, rfl⟩, trivial⟩⟩ <| aU 13 16383 rfl rfl ⟨⟨⟨6, rfl⟩, trivial⟩, ⟨⟨0, rfl⟩, ⟨2, rfl⟩, trivial⟩, ⟨⟨1, rfl⟩, trivial⟩⟩ <| aU 14 32767 rfl rfl ⟨⟨⟨6, rfl⟩, trivial⟩, ⟨⟨0, rfl⟩, ⟨2, rfl⟩, trivial⟩, ⟨⟨1, rfl⟩, trivial⟩⟩ <|
                   aU 15 65535 rfl rfl ⟨⟨⟨6, rfl⟩, trivial⟩, ⟨⟨0, rfl⟩, ⟨2, rfl⟩, trivial⟩, ⟨⟨1, rfl⟩, trivial⟩⟩ <| aU 16 131071 rfl rfl ⟨⟨⟨6, rfl⟩, trivial⟩, ⟨⟨0, rfl⟩, ⟨2, rfl⟩, trivial⟩, ⟨⟨1, rfl⟩, trivial⟩⟩ <| aU 17 262143 rfl rfl ⟨⟨⟨6, rfl⟩, trivial⟩, ⟨⟨0, rfl⟩, ⟨2, rfl⟩, trivial⟩, ⟨⟨1, rfl⟩, trivial⟩⟩ <|
                   aU 18 524287 rfl rfl ⟨⟨⟨6, rfl⟩, trivial⟩, ⟨⟨0, rfl⟩, ⟨2, rfl⟩, trivial⟩, ⟨⟨1, rfl⟩, trivial⟩⟩ <| aU 19 1048575 rfl rfl ⟨⟨⟨6, rfl⟩, trivial⟩, ⟨⟨0, rfl⟩, ⟨2, rfl⟩, trivial⟩, ⟨⟨1, rfl⟩, trivial⟩⟩ <| aU 20 2097151 rfl rfl ⟨⟨⟨6, rfl⟩, trivial⟩, ⟨⟨0, rfl⟩, ⟨2, rfl⟩, trivial⟩, ⟨⟨1, rfl⟩, trivial⟩⟩ <|
                   aU 21 4194303 rfl rfl ⟨⟨⟨6, rfl⟩, trivial⟩, ⟨⟨0, rfl⟩, ⟨2, rfl⟩, trivial⟩, ⟨⟨1, rfl⟩, trivial⟩⟩ <| aw 22 8388607 rfl (op_pick rfl rfl) ⟨⟨⟨6, rfl⟩, trivial⟩, ⟨⟨0, rfl⟩, ⟨2, rfl⟩, trivial⟩, ⟨⟨1, rfl⟩, trivial⟩⟩ <|
                   aw 23 16777215 rfl (mv rfl) ⟨⟨⟨6, rfl⟩, trivial⟩, ⟨⟨0, rfl⟩, ⟨2, rfl⟩, trivial⟩, ⟨⟨1, rfl⟩, trivial⟩⟩ <| aU 24 33554431 rfl rfl ⟨⟨⟨6, rfl⟩, trivial⟩, ⟨⟨0, rfl⟩, ⟨2, rfl⟩, trivial⟩, ⟨⟨1, rfl⟩, trivial⟩⟩ <|
                   aU 25 67108863 rfl rfl ⟨⟨⟨6, rfl⟩, trivial⟩, ⟨⟨0, rfl⟩, ⟨2, rfl⟩, trivial⟩, ⟨⟨1, rfl⟩, trivial⟩⟩ <| aU 26 134217727 rfl rfl ⟨⟨⟨6, rfl⟩, trivial⟩, ⟨⟨0, rfl⟩, ⟨2, rfl⟩, trivial⟩, ⟨⟨1, rfl⟩, trivial⟩⟩ <|
                   aU 27 268435455 rfl rfl ⟨⟨⟨6, rfl⟩, trivial⟩, ⟨⟨0, rfl⟩, ⟨2, rfl⟩, trivial⟩, ⟨⟨1, rfl⟩, trivial⟩⟩ <| aU 28 536870911 rfl rfl ⟨⟨⟨6, rfl⟩, trivial⟩, ⟨⟨0, rfl⟩, ⟨2, rfl⟩, trivial⟩, ⟨⟨1, rfl⟩, trivial⟩⟩ <|
                   aU 29 1073741823 rfl rfl ⟨⟨⟨6, rfl⟩, trivial⟩, ⟨⟨0, rfl⟩, ⟨2, rfl⟩, trivial⟩, ⟨⟨1, rfl⟩, trivial⟩⟩ <| aU 30 2147483647 rfl rfl ⟨⟨⟨6, rfl⟩, trivial⟩, ⟨⟨0, rfl⟩, ⟨2, rfl⟩, trivial⟩, ⟨⟨1, rfl⟩, trivial⟩⟩ <|
                   aU 31 4294967295 rfl rfl ⟨⟨⟨6, rfl⟩, trivial⟩, ⟨⟨0, rfl⟩, ⟨2, rfl⟩, trivial⟩, ⟨⟨1, rfl⟩, trivial⟩⟩ <| aU 32 8589934591 rfl rfl ⟨⟨⟨6, rfl⟩, trivial⟩, ⟨⟨0, rfl⟩, ⟨2, rfl⟩, trivial⟩, ⟨⟨1, rfl⟩, trivial⟩⟩ <|
                   aw 33 17179869183 rfl (op_pick rfl rfl) ⟨⟨⟨6, rfl⟩, trivial⟩, ⟨⟨0, rfl⟩, ⟨2, rfl⟩, trivial⟩, ⟨⟨1, rfl⟩, trivial⟩⟩ <| aw 34 34359738367 rfl (mv rfl) ⟨⟨⟨6, rfl⟩, trivial⟩, ⟨⟨0, rfl⟩, ⟨2, rfl⟩, trivial⟩, ⟨⟨1, rfl⟩, trivial⟩⟩ <|
                   aw 35 68719476735 rfl (mv rfl) ⟨⟨⟨6, rfl⟩, trivial⟩, ⟨⟨0, rfl⟩, ⟨2, rfl⟩, trivial⟩, ⟨⟨1, rfl⟩, trivial⟩⟩ <| aw 36 137438953471 rfl (op_cmp rfl rfl (congrArg some hb10475)) ⟨⟨⟨6, rfl⟩, trivial⟩, ⟨⟨0, rfl⟩, ⟨2, rfl⟩, trivial⟩, ⟨⟨1, rfl⟩, trivial⟩⟩ <|
                   aw 37 274877906943 rfl (op_pick rfl rfl) ⟨⟨⟨6, rfl⟩, trivial⟩, ⟨⟨0, rfl⟩, ⟨2, rfl⟩, trivial⟩, ⟨⟨1, rfl⟩, trivial⟩⟩ <| aw 38 549755813887 rfl (ag rfl) ⟨⟨⟨6, rfl⟩, trivial⟩, ⟨⟨0, rfl⟩, ⟨2, rfl⟩, trivial⟩, ⟨⟨1, rfl⟩, trivial⟩⟩ <| VA.done (by kernel_rfl) <|
                   VN.meet0  [] [] trivial ⟨rfl, ⟨rfl, trivial⟩, trivial, rfl, by decide, rfl, by decide⟩
                intro _
                refine VC.ret <| ?_
                obtain rfl := Option.some.inj h
                subst hb10475
                exact VR.fn (rs := [.tmp 12]) [] [] [] rfl (.tmp rfl .nil) ⟨rfl, rfl, rfl⟩ trivial rfl (by decide)
              obtain rfl : b10457 = false := hb10457.symm.trans (beq_eq_false_iff_ne.2 c10458)
              refine VC.letter ((t10446 == 7)) fun b10476 hb10476 => VC.join0 (⟨160, [(12, .bool b10476)], [], [], []⟩) (True) ?_ ?_
              · exact VC.draw ⟨0, [], [], [], []⟩ (by kernel_rfl) rfl (by kernel_rfl) (n := 39) (listed := LB 39 0) <| av 0 1 rfl (mv rfl) <| av 1 3 rfl (op_cmp rfl rfl (congrArg some hb10457)) <| av 2 7 rfl (mv rfl) <| au 3 15 rfl rfl <| au 4 31 rfl rfl <| au 5 63 rfl rfl <| au 6 127 rfl rfl <|
                 au 7 255 rfl rfl <| au 8 511 rfl rfl <| au 9 1023 rfl rfl <| au 10 2047 rfl rfl <| av 11 4095 rfl (op_pick rfl rfl) <| av 12 8191 rfl (mv rfl) <| au 13 16383 rfl rfl <| au 14 32767 rfl rfl <| au 15 65535 rfl rfl <| au 16 131071 rfl rfl <| au 17 262143 rfl rfl <| au 18 524287 rfl rfl <|
                 au 19 1048575 rfl rfl <| au 20 2097151 rfl rfl <| au 21 4194303 rfl rfl <| av 22 8388607 rfl (op_pick rfl rfl) <| av 23 16777215 rfl (mv rfl) <| au 24 33554431 rfl rfl <| au 25 67108863 rfl rfl <| au 26 134217727 rfl rfl <| au 27 268435455 rfl rfl <| au 28 536870911 rfl rfl <|
                 au 29 1073741823 rfl rfl <| au 30 2147483647 rfl rfl <| au 31 4294967295 rfl rfl <| au 32 8589934591 rfl rfl <| av 33 17179869183 rfl (op_pick rfl rfl) <| av 34 34359738367 rfl (mv rfl) <| av 35 68719476735 rfl (mv rfl) <| av 36 137438953471 rfl (op_cmp rfl rfl (congrArg some hb10476)) <|
                 av 37 274877906943 rfl (op_pick rfl rfl) <| av 38 549755813887 rfl (ag rfl) <| VA.done (by kernel_rfl) <| VN.meet0  [] [] trivial ⟨rfl, ⟨rfl, trivial⟩, trivial, rfl, by decide, rfl, by decide⟩
              intro _
              refine VC.ret <| ?_
              obtain rfl := Option.some.inj h
              subst hb10476
              exact VR.fn (rs := [.tmp 12]) [] [] [] rfl (.tmp rfl .nil) ⟨rfl, rfl, rfl⟩ trivial rfl (by decide)
            obtain rfl : b10437 = true := hb10437.symm.trans (bne_iff_ne.2 c10438)
            refine ct <| sr <| vm rfl <| VL.letter ((t10423 == 7)) fun b10477 hb10477 => va (op_cmp rfl rfl (congrArg some hb10477)) <| vs rfl <| dt <| VC.ret <| VR.then <| ?_
            obtain rfl := Option.some.inj h
            subst hb10477
            exact VR.fn (rs := [.tmp 12]) [] [] [] rfl (.tmp rfl .nil) ⟨rfl, rfl, rfl⟩ trivial rfl (by decide)
          obtain rfl := Bool.eq_false_iff.2 c9465
          refine va (op_not rfl rfl) <| va (op_pick rfl rfl) <| dt <| ct <| sr <| vs rfl <| dt <| VC.ret <| VR.then <| ?_
          cases h
        obtain rfl : b9461 = true := hb9461.symm.trans (bne_iff_ne.2 c9462)
        refine un rfl <| un rfl <| va (op_pick rfl rfl) <| dt <| ct <| sr <| vs rfl <| dt <| VC.ret <| VR.then <| ?_
        cases h
      obtain rfl := Bool.eq_false_iff.2 c9460
      refine va (op_not rfl rfl) <| va (op_pick rfl rfl) <| vm rfl <| un rfl <| un rfl <| un rfl <| un rfl <| va (op_pick rfl rfl) <| vm rfl <| un rfl <| un rfl <| va (op_pick rfl rfl) <| dt <| ct <| sr <| vs rfl <| dt <| VC.ret <| VR.then <| ?_
      cases h
    obtain rfl : b9456 = true := hb9456.symm.trans (bne_iff_ne.2 c9457)
    refine un rfl <| un rfl <| un rfl <| va (op_pick rfl rfl) <| vm rfl <| un rfl <| un rfl <| un rfl <| un rfl <| va (op_pick rfl rfl) <| vm rfl <| un rfl <| un rfl <| va (op_pick rfl rfl) <| dt <| ct <| sr <| vs rfl <| dt <| VC.ret <| VR.then <| ?_
    cases h
  obtain rfl : b9406 = true := hb9406.symm.trans (bne_iff_ne.2 c9407)
  refine ct <| sr <| ?_
  replace h := bd h
  obtain ⟨t10486, hA10487, h⟩ := h
  refine sC (o_call0 FO14 (tarrylaw05_alive.ok k t10486 hA10487) rfl rfl (ltn rfl) (All_of .nil)) <| ?_
  rintro _ _ _ ⟨rfl, rfl, rfl⟩
  refine vm rfl <| ?_
  replace h := iC h
  rcases h with ⟨c10488, h⟩ | ⟨c10488, h⟩
  · obtain rfl := c10488
    refine vm rfl <| VL.letter ((t8843 == 1)) fun b10489 hb10489 => va (op_cmp rfl rfl (congrArg some hb10489)) <| vm rfl <| ?_
    replace h := iC h
    rcases h with ⟨c10490, h⟩ | ⟨c10490, h⟩
    · obtain rfl : b10489 = true := hb10489.symm.trans (beq_iff_eq.2 c10490)
      refine un rfl <| un rfl <| va (op_pick rfl rfl) <| vm rfl <| un rfl <| un rfl <| va (op_pick rfl rfl) <| va (op_pick rfl rfl) <| vs rfl <| dt <| VC.ret <| VR.then <| ?_
      obtain rfl := Option.some.inj h
      exact VR.fn (rs := [.tmp 12]) [] [] [] rfl (.tmp rfl .nil) ⟨rfl, rfl, rfl⟩ trivial rfl (by decide)
    obtain rfl : b10489 = false := hb10489.symm.trans (beq_eq_false_iff_ne.2 c10490)
    refine vm rfl <| VL.letter ((t8843 == 7)) fun b10491 hb10491 => va (op_cmp rfl rfl (congrArg some hb10491)) <| va (op_pick rfl rfl) <| vm rfl <| ?_
    replace h := iC h
    rcases h with ⟨c10492, h⟩ | ⟨c10492, h⟩
    · obtain rfl : b10491 = true := hb10491.symm.trans (beq_iff_eq.2 c10492)
      refine un rfl <| un rfl <| va (op_pick rfl rfl) <| va (op_pick rfl rfl) <| vs rfl <| dt <| VC.ret <| VR.then <| ?_
      obtain rfl := Option.some.inj h
      exact VR.fn (rs := [.tmp 12]) [] [] [] rfl (.tmp rfl .nil) ⟨rfl, rfl, rfl⟩ trivial rfl (by decide)
    obtain rfl : b10491 = false := hb10491.symm.trans (beq_eq_false_iff_ne.2 c10492)
    refine vm rfl <| VL.letter ((t8843 == 3)) fun b10493 hb10493 => va (op_cmp rfl rfl (congrArg some hb10493)) <| va (op_pick rfl rfl) <| va (op_pick rfl rfl) <| vs rfl <| dt <| VC.ret <| VR.then <| ?_
    obtain rfl := Option.some.inj h
    subst hb10493
    exact VR.fn (rs := [.tmp 12]) [] [] [] rfl (.tmp rfl .nil) ⟨rfl, rfl, rfl⟩ trivial rfl (by decide)
  obtain rfl := Bool.eq_false_iff.2 c10488
  refine un rfl <| un rfl <| un rfl <| un rfl <| un rfl <| un rfl <| un rfl <| un rfl <| un rfl <| un rfl <| va (op_pick rfl rfl) <| vs rfl <| dt <| VC.ret <| VR.then <| ?_
  cases h

end Go.Proofs.Ytipeglbeongfmaa.PJournalKeeps
