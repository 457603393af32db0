/- Written by a program of this repo: what the program's functions do, each as a Lean function, shown of the loaded code; or a statement's row over that; no condition of its own. -/
import Derived.Test.YtipeglbeongfmaaPJournalLivesx4
namespace Go.Proofs.Ytipeglbeongfmaa.PJournalLives
open Go Go.RowKit Go.Proofs.YtipeglbeongfmaaV
set_option linter.unusedVariables false
set_option linter.unusedSimpArgs false
set_option maxHeartbeats 4000000
set_option maxRecDepth 100000

theorem frame_Scan.ok (k : Nat) (a0 : ByteArray)  (r1 : List ByteArray) (r2 : Int) (h : frame_Scan.f k a0 = some (r1, r2)) :
    VCalls Try.prog 56 [.string a0] [] (fun v G own => ∃ w0 : Value, v = .tuple #[w0, .int .i64 r2] ∧ G = [] ∧ own = [(w0, 9, 1, r1.map enc_str)]) := by
  refine VCalls.introM Try.func56 rfl (len rfl) fun E hC hW hD hU => ?_
  unfold frame_Scan.f at h
  refine sr <| vs rfl <| vs rfl <| nx <| sG (o_alloc Z22 ZL22) fun g2476 => nx <| vm rfl <| va (op_lens Try.underlying9 rfl) <| sG (o_alloc Z3 ZL3) fun g2477 => s1 (o_store 0 1 rfl rfl rfl TI3 (.c rfl) rfl (len rfl)) <| ds <| sr <| vm rfl <|
   VL.inl (vals := [.string a0]) (caps := []) Try.func76 FO76 rfl rfl rfl (len rfl) (ltn rfl) rfl <| sr <| sG (o_box rfl (.c rfl)) fun g5062 => vs rfl <| nx <| va (op_makeFunc (vals := [.pointer (some ⟨g5062, 0, none⟩)]) rfl) <| vs rfl <| dt <| VC.ret <|
   VR.inl (rs := [.tmp 2]) ((.func (.func 87) #[] #[.pointer (some ⟨g5062, 0, none⟩)])) rfl (.tmp rfl .nil) rfl <| dt <| VC.block <| VC.rangeFunc (ps := [12, 13]) (caps := [.pointer (some ⟨g5062, 0, none⟩)]) Try.func87 FO87 rfl rfl (len rfl) fun D5063 l5064 L5065 hLl5064 hDD5063 => VC.block <|
   VC.nilRow' 9 1 <| VC.loop4 (fun (s5129 : ByteArray) (i5130 : Int) (v5132 : Value) (l5133 : List ByteArray) => ⟨55, [(0, (.func (.yield l5064) #[] #[])), (1, .pointer (some ⟨g5062, 0, none⟩))], [.loop l5064 L5065 .ready none, .dfr D5063], [(g5062, 9, [.string s5129]), (g2477, 3, [.int .i64 i5130]), (g2476, 22, [v5132])], [(v5132, 9, 1, l5133.map enc_str)]⟩) (fun (ml1 : Nat) (s5129 : ByteArray) (i5130 : Int) (v5132 : Value) (l5133 : List ByteArray) => frame_Scan.l1 k a0 ml1 s5129 i5130 l5133 = some (r1, r2)) k a0 (a0.size : Int) (.slice none 0 0) ([] : List ByteArray) [0, 1, 2] [0] h ⟨rfl, ⟨rfl, rfl, trivial⟩, ⟨⟨0, rfl⟩, ⟨1, rfl⟩, trivial⟩, rfl, by decide, rfl, by decide⟩ (by intros; simp [frame_Scan.l1]) <|
   ?_
  clear h
  intro ml1 ihl1 s5129 i5130 v5132 l5133 h
  simp only [frame_Scan.l1] at h
  refine VC.block <| sr <| va (op_load 0 1 rfl rfl TI9 rfl (by decide)) <| ?_
  replace h := bd h
  obtain ⟨⟨t5196, t5197, t5198⟩, hA5199, h⟩ := h
  dsimp only at h
  refine sC (o_call0 FO88 (pack_ReadNumber.ok k s5129 t5196 t5197 t5198 hA5199) rfl rfl (ltn rfl) (All_of .nil)) <| ?_
  rintro _ _ _ ⟨rfl, rfl, rfl⟩
  refine vm rfl <| va (op_extract rfl rfl) <| va (op_extract rfl rfl) <| va (op_extract rfl rfl) <| vs rfl <| vs rfl <| vs rfl <| ds <| sr <| vm rfl <| VL.letter ((t5198 != 0)) fun b5222 hb5222 => va (op_cmp rfl rfl (congrArg some hb5222)) <| vm rfl <| ?_
  replace h := iC h
  rcases h with ⟨c5223, h⟩ | ⟨c5223, h⟩
  · obtain rfl : b5222 = false := hb5222.symm.trans (bne_eq_false_iff_eq.2 c5223)
    refine vm rfl <| VL.letter (decide (t5196 < 0)) fun b5224 hb5224 => va (op_cmp rfl rfl (congrArg some hb5224)) <| va (op_pick rfl rfl) <| vm rfl <| ?_
    replace h := iC h
    rcases h with ⟨c5225, h⟩ | ⟨c5225, h⟩
    · cases lT c5225 hb5224
      refine un rfl <| un rfl <| va (op_pick rfl rfl) <| vm rfl <| un rfl <| un rfl <| un rfl <| un rfl <| un rfl <| va (op_pick rfl rfl) <| dt <| ct <| VC.ret <| VR.then <| VR.block <| VR.then <| VR.block <| VR.endRF 0 rfl rfl rfl rfl <| VN.block <| th <|
       VC.join0 (⟨25, [(2, v5132), (3, .int .i64 (wrap64 ((a0.size : Int) - i5130)))], [.dfr D5063], [], [(v5132, 9, 1, l5133.map enc_str)]⟩) (True) ?_ ?_
      · exact VC.draw ⟨0, [], [], [(g2477, 3, [.int .i64 i5130]), (g2476, 22, [v5132])], [(v5132, 9, 1, l5133.map enc_str)]⟩ (by kernel_rfl) rfl (by kernel_rfl) (n := 7) (listed := LB 7 0) <|
         aw 0 1 rfl (op_load 1 1 rfl rfl TI22 rfl (by decide)) ⟨trivial, ⟨⟨1, rfl⟩, ⟨2, rfl⟩, trivial⟩, ⟨⟨0, rfl⟩, trivial⟩⟩ <| aw 1 3 rfl (mv rfl) ⟨trivial, ⟨⟨1, rfl⟩, ⟨2, rfl⟩, trivial⟩, ⟨⟨0, rfl⟩, trivial⟩⟩ <|
         aw 2 7 rfl (op_lens Try.underlying9 rfl) ⟨trivial, ⟨⟨1, rfl⟩, ⟨2, rfl⟩, trivial⟩, ⟨⟨0, rfl⟩, trivial⟩⟩ <| aw 3 15 rfl (op_load 0 1 rfl rfl TI3 rfl (by decide)) ⟨trivial, ⟨⟨1, rfl⟩, ⟨2, rfl⟩, trivial⟩, ⟨⟨0, rfl⟩, trivial⟩⟩ <|
         aw 4 31 rfl (op_ari64 rfl rfl rfl) ⟨trivial, ⟨⟨1, rfl⟩, ⟨2, rfl⟩, trivial⟩, ⟨⟨0, rfl⟩, trivial⟩⟩ <| aw 5 63 rfl (ag rfl) ⟨trivial, ⟨⟨1, rfl⟩, ⟨2, rfl⟩, trivial⟩, ⟨⟨0, rfl⟩, trivial⟩⟩ <| aw 6 127 rfl (ag rfl) ⟨trivial, ⟨⟨1, rfl⟩, ⟨2, rfl⟩, trivial⟩, ⟨⟨0, rfl⟩, trivial⟩⟩ <| VA.done (by kernel_rfl) <|
         VN.meet0  [] [0] trivial ⟨rfl, ⟨rfl, rfl, trivial⟩, ⟨⟨0, rfl⟩, trivial⟩, rfl, by decide, rfl, by decide⟩
      intro _
      refine VC.ret <| ?_
      simp only [Option.some.injEq, Prod.mk.injEq] at h
      obtain ⟨rfl, rfl⟩ := h
      exact VR.mark 0 hDD5063 rfl rfl rfl <| VR.fn (rs := [.tmp 2, .tmp 3]) [] [(v5132, 9, 1, l5133.map enc_str)] [0] rfl (.tmp rfl (.tmp rfl .nil)) ⟨v5132, rfl, rfl, rfl⟩ trivial rfl (by decide)
    cases lF c5225 hb5224
    refine vm rfl <| VL.letter (decide (t5196 > 4096)) fun b5226 hb5226 => va (op_cmp rfl rfl (congrArg some hb5226)) <| va (op_pick rfl rfl) <| vm rfl <| ?_
    replace h := iC h
    rcases h with ⟨c5227, h⟩ | ⟨c5227, h⟩
    · cases lT c5227 hb5226
      refine un rfl <| un rfl <| un rfl <| un rfl <| un rfl <| va (op_pick rfl rfl) <| dt <| ct <| VC.ret <| VR.then <| VR.block <| VR.then <| VR.block <| VR.endRF 0 rfl rfl rfl rfl <| VN.block <| th <|
       VC.join0 (⟨25, [(2, v5132), (3, .int .i64 (wrap64 ((a0.size : Int) - i5130)))], [.dfr D5063], [], [(v5132, 9, 1, l5133.map enc_str)]⟩) (True) ?_ ?_
      · exact VC.draw ⟨0, [], [], [(g2477, 3, [.int .i64 i5130]), (g2476, 22, [v5132])], [(v5132, 9, 1, l5133.map enc_str)]⟩ (by kernel_rfl) rfl (by kernel_rfl) (n := 7) (listed := LB 7 0) <|
         aw 0 1 rfl (op_load 1 1 rfl rfl TI22 rfl (by decide)) ⟨trivial, ⟨⟨1, rfl⟩, ⟨2, rfl⟩, trivial⟩, ⟨⟨0, rfl⟩, trivial⟩⟩ <| aw 1 3 rfl (mv rfl) ⟨trivial, ⟨⟨1, rfl⟩, ⟨2, rfl⟩, trivial⟩, ⟨⟨0, rfl⟩, trivial⟩⟩ <|
         aw 2 7 rfl (op_lens Try.underlying9 rfl) ⟨trivial, ⟨⟨1, rfl⟩, ⟨2, rfl⟩, trivial⟩, ⟨⟨0, rfl⟩, trivial⟩⟩ <| aw 3 15 rfl (op_load 0 1 rfl rfl TI3 rfl (by decide)) ⟨trivial, ⟨⟨1, rfl⟩, ⟨2, rfl⟩, trivial⟩, ⟨⟨0, rfl⟩, trivial⟩⟩ <|
         aw 4 31 rfl (op_ari64 rfl rfl rfl) ⟨trivial, ⟨⟨1, rfl⟩, ⟨2, rfl⟩, trivial⟩, ⟨⟨0, rfl⟩, trivial⟩⟩ <| aw 5 63 rfl (ag rfl) ⟨trivial, ⟨⟨1, rfl⟩, ⟨2, rfl⟩, trivial⟩, ⟨⟨0, rfl⟩, trivial⟩⟩ <| aw 6 127 rfl (ag rfl) ⟨trivial, ⟨⟨1, rfl⟩, ⟨2, rfl⟩, trivial⟩, ⟨⟨0, rfl⟩, trivial⟩⟩ <| VA.done (by kernel_rfl) <|
         VN.meet0  [] [0] trivial ⟨rfl, ⟨rfl, rfl, trivial⟩, ⟨⟨0, rfl⟩, trivial⟩, rfl, by decide, rfl, by decide⟩
      intro _
      refine VC.ret <| ?_
      simp only [Option.some.injEq, Prod.mk.injEq] at h
      obtain ⟨rfl, rfl⟩ := h
      exact VR.mark 0 hDD5063 rfl rfl rfl <| VR.fn (rs := [.tmp 2, .tmp 3]) [] [(v5132, 9, 1, l5133.map enc_str)] [0] rfl (.tmp rfl (.tmp rfl .nil)) ⟨v5132, rfl, rfl, rfl⟩ trivial rfl (by decide)
    cases lF c5227 hb5226
    refine vm rfl <| va (op_ari64 rfl rfl rfl) <| vm rfl <| va (op_lens Try.underlying9 rfl) <| VL.letter (decide ((wrap64 (t5196 + 4)) > (t5197.size : Int))) fun b5228 hb5228 => va (op_cmp rfl rfl (congrArg some hb5228)) <| va (op_pick rfl rfl) <| dt <| ?_
    replace h := iC h
    rcases h with ⟨c5229, h⟩ | ⟨c5229, h⟩
    · cases lT c5229 hb5228
      refine ct <| VC.ret <| VR.then <| VR.block <| VR.then <| VR.block <| VR.endRF 0 rfl rfl rfl rfl <| VN.block <| th <| VC.join0 (⟨25, [(2, v5132), (3, .int .i64 (wrap64 ((a0.size : Int) - i5130)))], [.dfr D5063], [], [(v5132, 9, 1, l5133.map enc_str)]⟩) (True) ?_ ?_
      · exact VC.draw ⟨0, [], [], [(g2477, 3, [.int .i64 i5130]), (g2476, 22, [v5132])], [(v5132, 9, 1, l5133.map enc_str)]⟩ (by kernel_rfl) rfl (by kernel_rfl) (n := 7) (listed := LB 7 0) <|
         aw 0 1 rfl (op_load 1 1 rfl rfl TI22 rfl (by decide)) ⟨trivial, ⟨⟨1, rfl⟩, ⟨2, rfl⟩, trivial⟩, ⟨⟨0, rfl⟩, trivial⟩⟩ <| aw 1 3 rfl (mv rfl) ⟨trivial, ⟨⟨1, rfl⟩, ⟨2, rfl⟩, trivial⟩, ⟨⟨0, rfl⟩, trivial⟩⟩ <|
         aw 2 7 rfl (op_lens Try.underlying9 rfl) ⟨trivial, ⟨⟨1, rfl⟩, ⟨2, rfl⟩, trivial⟩, ⟨⟨0, rfl⟩, trivial⟩⟩ <| aw 3 15 rfl (op_load 0 1 rfl rfl TI3 rfl (by decide)) ⟨trivial, ⟨⟨1, rfl⟩, ⟨2, rfl⟩, trivial⟩, ⟨⟨0, rfl⟩, trivial⟩⟩ <|
         aw 4 31 rfl (op_ari64 rfl rfl rfl) ⟨trivial, ⟨⟨1, rfl⟩, ⟨2, rfl⟩, trivial⟩, ⟨⟨0, rfl⟩, trivial⟩⟩ <| aw 5 63 rfl (ag rfl) ⟨trivial, ⟨⟨1, rfl⟩, ⟨2, rfl⟩, trivial⟩, ⟨⟨0, rfl⟩, trivial⟩⟩ <| aw 6 127 rfl (ag rfl) ⟨trivial, ⟨⟨1, rfl⟩, ⟨2, rfl⟩, trivial⟩, ⟨⟨0, rfl⟩, trivial⟩⟩ <| VA.done (by kernel_rfl) <|
         VN.meet0  [] [0] trivial ⟨rfl, ⟨rfl, rfl, trivial⟩, ⟨⟨0, rfl⟩, trivial⟩, rfl, by decide, rfl, by decide⟩
      intro _
      refine VC.ret <| ?_
      simp only [Option.some.injEq, Prod.mk.injEq] at h
      obtain ⟨rfl, rfl⟩ := h
      exact VR.mark 0 hDD5063 rfl rfl rfl <| VR.fn (rs := [.tmp 2, .tmp 3]) [] [(v5132, 9, 1, l5133.map enc_str)] [0] rfl (.tmp rfl (.tmp rfl .nil)) ⟨v5132, rfl, rfl, rfl⟩ trivial rfl (by decide)
    cases lF c5229 hb5228
    refine cf <| sk <| ?_
    replace h := iN h
    obtain ⟨c5230, h⟩ := h
    replace h := iN h
    obtain ⟨c5231, h⟩ := h
    replace h := iN h
    obtain ⟨c5232, h⟩ := h
    replace h := iN h
    obtain ⟨c5233, h⟩ := h
    replace h := iN h
    obtain ⟨c5234, h⟩ := h
    refine VC.join0 (⟨55, [(0, (.func (.yield l5064) #[] #[])), (1, .pointer (some ⟨g5062, 0, none⟩)), (3, .int .i64 t5196), (4, .string t5197), (5, .int .i64 t5198), (6, .string (t5197.extract 0 t5196.toNat)), (7, .string (t5197.extract t5196.toNat ((wrap64 (t5196 + 4)).toNat))), (8, .tuple #[.int .i64 t5196, .string t5197, .int .i64 t5198]), (9, .string s5129), (10, .tuple #[.int .i64 t5196, .string t5197, .int .i64 t5198]), (11, .int .i64 t5196), (12, .string t5197), (13, .int .i64 t5198), (14, .int .i64 t5198), (15, .bool false), (16, .bool false), (17, .int .i64 t5196), (18, .bool false), (19, .bool false), (20, .bool false), (21, .int .i64 t5196), (22, .bool false), (23, .bool false), (24, .bool false), (25, .int .i64 t5196), (26, .int .i64 (wrap64 (t5196 + 4))), (27, .string t5197), (28, .int .i64 (t5197.size : Int)), (29, .bool false), (30, .bool false), (31, .string t5197), (32, .int .i64 t5196), (33, .string (t5197.extract 0 t5196.toNat)), (34, .string t5197), (35, .int .i64 t5196), (36, .int .i64 t5196), (37, .int .i64 (wrap64 (t5196 + 4))), (38, .string (t5197.extract t5196.toNat ((wrap64 (t5196 + 4)).toNat)))], [.loop l5064 L5065 .ready none, .dfr D5063], [(g5062, 9, [.string s5129]), (g2477, 3, [.int .i64 i5130]), (g2476, 22, [v5132])], [(v5132, 9, 1, l5133.map enc_str)]⟩) (True) ?_ ?_
    · exact VC.draw ⟨0, [], [], [], []⟩ (by kernel_rfl) rfl (by kernel_rfl) (n := 10) (listed := LB 10 0) <| av 0 1 rfl (mv rfl) <| av 1 3 rfl (mv rfl) <|
       av 2 7 rfl (op_sliceS 0 t5196.toNat Try.underlying9 rfl ⟨rfl, ⟨_, _, rfl, c5230, rfl⟩, Nat.zero_le _, tN (a := t5196) (b := (t5197.size : Int)) rfl rfl c5231⟩ rfl) <| av 3 15 rfl (mv rfl) <| av 4 31 rfl (mv rfl) <| av 5 63 rfl (mv rfl) <| av 6 127 rfl (op_ari64 rfl rfl rfl) <|
       av 7 255 rfl (op_sliceS t5196.toNat ((wrap64 (t5196 + 4)).toNat) Try.underlying9 rfl ⟨⟨_, _, rfl, c5230, rfl⟩, ⟨_, _, rfl, c5232, rfl⟩, tN (a := t5196) (b := (wrap64 (t5196 + 4))) rfl rfl c5234, tN (a := (wrap64 (t5196 + 4))) (b := (t5197.size : Int)) rfl rfl c5233⟩ rfl) <| av 8 511 rfl (ag rfl) <|
       av 9 1023 rfl (ag rfl) <| VA.done (by kernel_rfl) <|
       VN.meet0  [0, 1, 2] [0] trivial ⟨rfl, ⟨rfl, rfl, rfl, rfl, rfl, rfl, rfl, rfl, rfl, rfl, rfl, rfl, rfl, rfl, rfl, rfl, rfl, rfl, rfl, rfl, rfl, rfl, rfl, rfl, rfl, rfl, rfl, rfl, rfl, rfl, rfl, rfl, rfl, rfl, rfl, rfl, rfl, rfl, trivial⟩, ⟨⟨0, rfl⟩, ⟨1, rfl⟩, trivial⟩, rfl, by decide, rfl, by decide⟩
    intro _
    refine sr <| vm rfl <| vm rfl <| va (op_ari64 rfl rfl rfl) <| va (op_sliceS ((wrap64 (t5196 + 4)).toNat) t5197.size Try.underlying9 rfl ⟨⟨_, _, rfl, c5232, rfl⟩, rfl, tN (a := (wrap64 (t5196 + 4))) (b := (t5197.size : Int)) rfl rfl c5233, Nat.le_refl _⟩ rfl) <|
     s1 (o_store 0 1 rfl rfl rfl TI9 (.c rfl) rfl (len rfl)) <| nx <| vm rfl <| vm rfl <| ?_
    replace h := bd h
    obtain ⟨t5246, hA5247, h⟩ := h
    refine sC (o_call0 FO90 (check_Of.ok k (t5197.extract 0 t5196.toNat) t5246 hA5247) rfl rfl (ltn rfl) (All_of .nil)) <| ?_
    rintro _ _ _ ⟨rfl, rfl, rfl⟩
    replace h := bd h
    obtain ⟨t5248, hA5249, h⟩ := h
    refine sC (o_call0 FO89 (check_Bytes.ok k t5246 t5248 hA5249) rfl rfl (ltn rfl) (All_of .nil)) <| ?_
    rintro _ _ _ ⟨rfl, rfl, rfl⟩
    refine VL.letter (((t5197.extract t5196.toNat ((wrap64 (t5196 + 4)).toNat)) != t5248)) fun b5250 hb5250 => va (op_cmps rfl rfl (congrArg some hb5250)) <| vm rfl <| ?_
    replace h := iC h
    rcases h with ⟨c5251, h⟩ | ⟨c5251, h⟩
    · obtain rfl : b5250 = false := hb5250.symm.trans (bne_of_t c5251)
      refine vm rfl <| vm rfl <| va (op_load 0 1 rfl rfl TI9 rfl (by decide)) <| VL.yield (vals := [.string (t5197.extract 0 t5196.toNat), .string (t5197.extract ((wrap64 (t5196 + 4)).toNat) t5197.size)]) hLl5064 rfl rfl rfl rfl (ltn rfl) 0 rfl rfl <| sr <| vs rfl <| dr <| vs rfl <| dn <|
       VN.begin 0 hLl5064.base rfl rfl rfl <| VC.block <| rg <| va (op_load 2 1 rfl rfl TI22 rfl (by decide)) <| vm rfl <|
       sG (o_buildSlice (vals := [(0, .string (t5197.extract 0 t5196.toNat))]) (cells := #[.string (t5197.extract 0 t5196.toNat)]) (es := List.map enc_str ([t5197.extract 0 t5196.toNat] : List ByteArray)) Try.underlying22 TI9 Z9 rfl (by decide) (by decide) (by kernel_rfl) (by kernel_rfl) rfl (flat_map enc_str_ok _)) fun v5253 => ?_
      replace h := iN h
      obtain ⟨c5254, h⟩ := h
      refine sG (o_append 1 appm Try.underlying22 EI9 rfl rfl rfl (.inr ⟨0, _, rfl⟩) (bndm c5254)) fun v5255 => vm rfl <| va (op_lens Try.underlying9 rfl) <| s1 (o_store 2 1 rfl rfl rfl TI22 (.r 1 rfl) rfl (len rfl)) <| s1 (o_store 1 1 rfl rfl rfl TI3 (.c rfl) rfl (len rfl)) <| dn <| VN.block <|
       VN.endRound 0 hLl5064.base rfl rfl rfl <| va (op_not rfl rfl) <| va (op_pick rfl rfl) <| dt <| cf <| VC.skip <| VN.block <|
       VN.again [0, 1, 2] [1] (ihl1 (t5197.extract ((wrap64 (t5196 + 4)).toNat) t5197.size) ((t5197.extract ((wrap64 (t5196 + 4)).toNat) t5197.size).size : Int) v5255 (l5133 ++ ([t5197.extract 0 t5196.toNat] : List ByteArray)) h) ⟨rfl, ⟨rfl, rfl, trivial⟩, ⟨⟨0, rfl⟩, ⟨1, rfl⟩, trivial⟩, rfl, by decide, rfl, by decide⟩
    obtain rfl : b5250 = true := hb5250.symm.trans (bne_of_f c5251)
    refine un rfl <| un rfl <| un rfl <| un rfl <| un rfl <| va (op_pick rfl rfl) <| dt <| ct <| VC.ret <| VR.block <| VR.then <| VR.block <| VR.endRF 0 rfl rfl rfl rfl <| VN.block <| th <|
     VC.join0 (⟨25, [(2, v5132), (3, .int .i64 (wrap64 ((a0.size : Int) - i5130)))], [.dfr D5063], [], [(v5132, 9, 1, l5133.map enc_str)]⟩) (True) ?_ ?_
    · exact VC.draw ⟨0, [], [], [(g2477, 3, [.int .i64 i5130]), (g2476, 22, [v5132])], [(v5132, 9, 1, l5133.map enc_str)]⟩ (by kernel_rfl) rfl (by kernel_rfl) (n := 7) (listed := LB 7 0) <|
       aw 0 1 rfl (op_load 1 1 rfl rfl TI22 rfl (by decide)) ⟨trivial, ⟨⟨1, rfl⟩, ⟨2, rfl⟩, trivial⟩, ⟨⟨0, rfl⟩, trivial⟩⟩ <| aw 1 3 rfl (mv rfl) ⟨trivial, ⟨⟨1, rfl⟩, ⟨2, rfl⟩, trivial⟩, ⟨⟨0, rfl⟩, trivial⟩⟩ <|
       aw 2 7 rfl (op_lens Try.underlying9 rfl) ⟨trivial, ⟨⟨1, rfl⟩, ⟨2, rfl⟩, trivial⟩, ⟨⟨0, rfl⟩, trivial⟩⟩ <| aw 3 15 rfl (op_load 0 1 rfl rfl TI3 rfl (by decide)) ⟨trivial, ⟨⟨1, rfl⟩, ⟨2, rfl⟩, trivial⟩, ⟨⟨0, rfl⟩, trivial⟩⟩ <|
       aw 4 31 rfl (op_ari64 rfl rfl rfl) ⟨trivial, ⟨⟨1, rfl⟩, ⟨2, rfl⟩, trivial⟩, ⟨⟨0, rfl⟩, trivial⟩⟩ <| aw 5 63 rfl (ag rfl) ⟨trivial, ⟨⟨1, rfl⟩, ⟨2, rfl⟩, trivial⟩, ⟨⟨0, rfl⟩, trivial⟩⟩ <| aw 6 127 rfl (ag rfl) ⟨trivial, ⟨⟨1, rfl⟩, ⟨2, rfl⟩, trivial⟩, ⟨⟨0, rfl⟩, trivial⟩⟩ <| VA.done (by kernel_rfl) <|
       VN.meet0  [] [0] trivial ⟨rfl, ⟨rfl, rfl, trivial⟩, ⟨⟨0, rfl⟩, trivial⟩, rfl, by decide, rfl, by decide⟩
    intro _
    refine VC.ret <| ?_
    simp only [Option.some.injEq, Prod.mk.injEq] at h
    obtain ⟨rfl, rfl⟩ := h
    exact VR.mark 0 hDD5063 rfl rfl rfl <| VR.fn (rs := [.tmp 2, .tmp 3]) [] [(v5132, 9, 1, l5133.map enc_str)] [0] rfl (.tmp rfl (.tmp rfl .nil)) ⟨v5132, rfl, rfl, rfl⟩ trivial rfl (by decide)
  obtain rfl : b5222 = true := hb5222.symm.trans (bne_iff_ne.2 c5223)
  refine un rfl <| un rfl <| va (op_pick rfl rfl) <| vm rfl <| un rfl <| un rfl <| va (op_pick rfl rfl) <| vm rfl <| un rfl <| un rfl <| un rfl <| un rfl <| un rfl <| va (op_pick rfl rfl) <| dt <| ct <| VC.ret <| VR.then <| VR.block <| VR.then <| VR.block <| VR.endRF 0 rfl rfl rfl rfl <| VN.block <|
   th <| VC.join0 (⟨25, [(2, v5132), (3, .int .i64 (wrap64 ((a0.size : Int) - i5130)))], [.dfr D5063], [], [(v5132, 9, 1, l5133.map enc_str)]⟩) (True) ?_ ?_
  · exact VC.draw ⟨0, [], [], [(g2477, 3, [.int .i64 i5130]), (g2476, 22, [v5132])], [(v5132, 9, 1, l5133.map enc_str)]⟩ (by kernel_rfl) rfl (by kernel_rfl) (n := 7) (listed := LB 7 0) <|
     aw 0 1 rfl (op_load 1 1 rfl rfl TI22 rfl (by decide)) ⟨trivial, ⟨⟨1, rfl⟩, ⟨2, rfl⟩, trivial⟩, ⟨⟨0, rfl⟩, trivial⟩⟩ <| aw 1 3 rfl (mv rfl) ⟨trivial, ⟨⟨1, rfl⟩, ⟨2, rfl⟩, trivial⟩, ⟨⟨0, rfl⟩, trivial⟩⟩ <|
     aw 2 7 rfl (op_lens Try.underlying9 rfl) ⟨trivial, ⟨⟨1, rfl⟩, ⟨2, rfl⟩, trivial⟩, ⟨⟨0, rfl⟩, trivial⟩⟩ <| aw 3 15 rfl (op_load 0 1 rfl rfl TI3 rfl (by decide)) ⟨trivial, ⟨⟨1, rfl⟩, ⟨2, rfl⟩, trivial⟩, ⟨⟨0, rfl⟩, trivial⟩⟩ <|
     aw 4 31 rfl (op_ari64 rfl rfl rfl) ⟨trivial, ⟨⟨1, rfl⟩, ⟨2, rfl⟩, trivial⟩, ⟨⟨0, rfl⟩, trivial⟩⟩ <| aw 5 63 rfl (ag rfl) ⟨trivial, ⟨⟨1, rfl⟩, ⟨2, rfl⟩, trivial⟩, ⟨⟨0, rfl⟩, trivial⟩⟩ <| aw 6 127 rfl (ag rfl) ⟨trivial, ⟨⟨1, rfl⟩, ⟨2, rfl⟩, trivial⟩, ⟨⟨0, rfl⟩, trivial⟩⟩ <| VA.done (by kernel_rfl) <|
     VN.meet0  [] [0] trivial ⟨rfl, ⟨rfl, rfl, trivial⟩, ⟨⟨0, rfl⟩, trivial⟩, rfl, by decide, rfl, by decide⟩
  intro _
  refine VC.ret <| ?_
  simp only [Option.some.injEq, Prod.mk.injEq] at h
  obtain ⟨rfl, rfl⟩ := h
  exact VR.mark 0 hDD5063 rfl rfl rfl <| VR.fn (rs := [.tmp 2, .tmp 3]) [] [(v5132, 9, 1, l5133.map enc_str)] [0] rfl (.tmp rfl (.tmp rfl .nil)) ⟨v5132, rfl, rfl, rfl⟩ trivial rfl (by decide)

theorem frame_All.ok (k : Nat) (a0 : ByteArray)  (r1 : List ByteArray) (r2 : Int) (h : frame_All.f k a0 = some (r1, r2)) :
    VCalls Try.prog 26 [.string a0] [] (fun v G own => ∃ w0 : Value, v = .tuple #[w0, .int .i64 r2] ∧ G = [] ∧ own = [(w0, 9, 1, r1.map enc_str)]) := by
  refine VCalls.intro Try.func26 rfl (len rfl) fun E hC hW hD hU => ?_
  unfold frame_All.f at h
  refine sr <| vs rfl <| vs rfl <| nx <| vm rfl <| ?_
  replace h := bd h
  obtain ⟨⟨r5257, t5258⟩, hA5259, h⟩ := h
  dsimp only at h
  refine sC (o_call0 FO56 (frame_Scan.ok k a0 r5257 t5258 hA5259) rfl rfl (ltn rfl) (All_of .nil)) <| ?_
  rintro _ _ _ ⟨v5261, rfl, rfl, rfl⟩
  refine vm rfl <| va (op_extract rfl rfl) <| va (op_extract rfl rfl) <| vs rfl <| vs rfl <| ds <| sr <| vm rfl <| vm rfl <| va (op_lens Try.underlying9 rfl) <| VL.letter (decide (t5258 < (a0.size : Int))) fun b5265 hb5265 => va (op_cmp rfl rfl (congrArg some hb5265)) <| dt <| ?_
  replace h := iC h
  rcases h with ⟨c5266, h⟩ | ⟨c5266, h⟩
  · cases lT c5266 hb5265
    refine ct <| sr <| vs rfl <| vs rfl <| dt <| VC.ret <| VR.then <| ?_
    simp only [Option.some.injEq, Prod.mk.injEq] at h
    obtain ⟨rfl, rfl⟩ := h
    exact VR.nilRow' 9 1 <| VR.fn (rs := [.tmp 2, .tmp 3]) [] [((.slice none 0 0), 9, 1, ([] : List ByteArray).map enc_str)] [0] rfl (.tmp rfl (.tmp rfl .nil)) ⟨(.slice none 0 0), rfl, rfl, rfl⟩ trivial rfl (by decide)
  cases lF c5266 hb5265
  refine cf <| sk <| sr <| vm rfl <| vs rfl <| vs rfl <| dt <| VC.ret <| ?_
  simp only [Option.some.injEq, Prod.mk.injEq] at h
  obtain ⟨rfl, rfl⟩ := h
  exact VR.fn (rs := [.tmp 2, .tmp 3]) [] [(v5261, 9, 1, r5257.map enc_str)] [0] rfl (.tmp rfl (.tmp rfl .nil)) ⟨v5261, rfl, rfl, rfl⟩ trivial rfl (by decide)

end Go.Proofs.Ytipeglbeongfmaa.PJournalLives
