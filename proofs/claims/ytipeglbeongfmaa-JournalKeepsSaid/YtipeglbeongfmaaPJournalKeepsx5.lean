/- Written by a program of this repo: what the program's functions do, each as a Lean function, shown of the loaded code; or a statement's row over that; no condition of its own. -/
import Derived.Test.YtipeglbeongfmaaPJournalKeepsx4
namespace Go.Proofs.Ytipeglbeongfmaa.PJournalKeeps
open Go Go.RowKit Go.Proofs.YtipeglbeongfmaaV
set_option linter.unusedVariables false
set_option linter.unusedSimpArgs false
set_option maxHeartbeats 4000000
set_option maxRecDepth 100000

theorem frame_Scan.ok (k : Nat) (a0 : ByteArray)  (r1 : List ByteArray) (r2 : Int) (h : frame_Scan.f k a0 = some (r1, r2)) :
    VCalls Try.prog 56 [.string a0] [] (fun v G own => ∃ w0 : Value, v = .tuple #[w0, .int .i64 r2] ∧ G = [] ∧ own = [(w0, 9, 1, r1.map enc_str)]) := by
  refine VCalls.introM Try.func56 rfl (len rfl) fun E hC hW hD hU => ?_
  unfold frame_Scan.f at h
  refine sr <| vs rfl <| vs rfl <| nx <| sG (o_alloc Z22 ZL22) fun g2233 => nx <| vm rfl <| va (op_lens Try.underlying9 rfl) <| sG (o_alloc Z3 ZL3) fun g2234 => s1 (o_store 0 1 rfl rfl rfl TI3 (.c rfl) rfl (len rfl)) <| ds <| sr <| vm rfl <|
   VL.inl (vals := [.string a0]) (caps := []) Try.func76 FO76 rfl rfl rfl (len rfl) (ltn rfl) rfl <| sr <| sG (o_box rfl (.c rfl)) fun g4819 => vs rfl <| nx <| va (op_makeFunc (vals := [.pointer (some ⟨g4819, 0, none⟩)]) rfl) <| vs rfl <| dt <| VC.ret <|
   VR.inl (rs := [.tmp 2]) ((.func (.func 87) #[] #[.pointer (some ⟨g4819, 0, none⟩)])) rfl (.tmp rfl .nil) rfl <| dt <| VC.block <| VC.rangeFunc (ps := [12, 13]) (caps := [.pointer (some ⟨g4819, 0, none⟩)]) Try.func87 FO87 rfl rfl (len rfl) fun D4820 l4821 L4822 hLl4821 hDD4820 => VC.block <|
   VC.nilRow' 9 1 <| VC.loop4 (fun (s4886 : ByteArray) (i4887 : Int) (v4889 : Value) (l4890 : List ByteArray) => ⟨55, [(0, (.func (.yield l4821) #[] #[])), (1, .pointer (some ⟨g4819, 0, none⟩))], [.loop l4821 L4822 .ready none, .dfr D4820], [(g4819, 9, [.string s4886]), (g2234, 3, [.int .i64 i4887]), (g2233, 22, [v4889])], [(v4889, 9, 1, l4890.map enc_str)]⟩) (fun (ml1 : Nat) (s4886 : ByteArray) (i4887 : Int) (v4889 : Value) (l4890 : List ByteArray) => frame_Scan.l1 k a0 ml1 s4886 i4887 l4890 = some (r1, r2)) k a0 (a0.size : Int) (.slice none 0 0) ([] : List ByteArray) [0, 1, 2] [0] h ⟨rfl, ⟨rfl, rfl, trivial⟩, ⟨⟨0, rfl⟩, ⟨1, rfl⟩, trivial⟩, rfl, by decide, rfl, by decide⟩ (by intros; simp [frame_Scan.l1]) <|
   ?_
  clear h
  intro ml1 ihl1 s4886 i4887 v4889 l4890 h
  simp only [frame_Scan.l1] at h
  refine VC.block <| sr <| va (op_load 0 1 rfl rfl TI9 rfl (by decide)) <| ?_
  replace h := bd h
  obtain ⟨⟨t4953, t4954, t4955⟩, hA4956, h⟩ := h
  dsimp only at h
  refine sC (o_call0 FO88 (pack_ReadNumber.ok k s4886 t4953 t4954 t4955 hA4956) rfl rfl (ltn rfl) (All_of .nil)) <| ?_
  rintro _ _ _ ⟨rfl, rfl, rfl⟩
  refine vm rfl <| va (op_extract rfl rfl) <| va (op_extract rfl rfl) <| va (op_extract rfl rfl) <| vs rfl <| vs rfl <| vs rfl <| ds <| sr <| vm rfl <| VL.letter ((t4955 != 0)) fun b4979 hb4979 => va (op_cmp rfl rfl (congrArg some hb4979)) <| vm rfl <| ?_
  replace h := iC h
  rcases h with ⟨c4980, h⟩ | ⟨c4980, h⟩
  · obtain rfl : b4979 = false := hb4979.symm.trans (bne_eq_false_iff_eq.2 c4980)
    refine vm rfl <| VL.letter (decide (t4953 < 0)) fun b4981 hb4981 => va (op_cmp rfl rfl (congrArg some hb4981)) <| va (op_pick rfl rfl) <| vm rfl <| ?_
    replace h := iC h
    rcases h with ⟨c4982, h⟩ | ⟨c4982, h⟩
    · cases lT c4982 hb4981
      refine un rfl <| un rfl <| va (op_pick rfl rfl) <| vm rfl <| un rfl <| un rfl <| un rfl <| un rfl <| un rfl <| va (op_pick rfl rfl) <| dt <| ct <| VC.ret <| VR.then <| VR.block <| VR.then <| VR.block <| VR.endRF 0 rfl rfl rfl rfl <| VN.block <| th <|
       VC.join0 (⟨25, [(2, v4889), (3, .int .i64 (wrap64 ((a0.size : Int) - i4887)))], [.dfr D4820], [], [(v4889, 9, 1, l4890.map enc_str)]⟩) (True) ?_ ?_
      · exact VC.draw ⟨0, [], [], [(g2234, 3, [.int .i64 i4887]), (g2233, 22, [v4889])], [(v4889, 9, 1, l4890.map enc_str)]⟩ (by kernel_rfl) rfl (by kernel_rfl) (n := 7) (listed := LB 7 0) <|
         aw 0 1 rfl (op_load 1 1 rfl rfl TI22 rfl (by decide)) ⟨trivial, ⟨⟨1, rfl⟩, ⟨2, rfl⟩, trivial⟩, ⟨⟨0, rfl⟩, trivial⟩⟩ <| aw 1 3 rfl (mv rfl) ⟨trivial, ⟨⟨1, rfl⟩, ⟨2, rfl⟩, trivial⟩, ⟨⟨0, rfl⟩, trivial⟩⟩ <|
         aw 2 7 rfl (op_lens Try.underlying9 rfl) ⟨trivial, ⟨⟨1, rfl⟩, ⟨2, rfl⟩, trivial⟩, ⟨⟨0, rfl⟩, trivial⟩⟩ <| aw 3 15 rfl (op_load 0 1 rfl rfl TI3 rfl (by decide)) ⟨trivial, ⟨⟨1, rfl⟩, ⟨2, rfl⟩, trivial⟩, ⟨⟨0, rfl⟩, trivial⟩⟩ <|
         aw 4 31 rfl (op_ari64 rfl rfl rfl) ⟨trivial, ⟨⟨1, rfl⟩, ⟨2, rfl⟩, trivial⟩, ⟨⟨0, rfl⟩, trivial⟩⟩ <| aw 5 63 rfl (ag rfl) ⟨trivial, ⟨⟨1, rfl⟩, ⟨2, rfl⟩, trivial⟩, ⟨⟨0, rfl⟩, trivial⟩⟩ <| aw 6 127 rfl (ag rfl) ⟨trivial, ⟨⟨1, rfl⟩, ⟨2, rfl⟩, trivial⟩, ⟨⟨0, rfl⟩, trivial⟩⟩ <| VA.done (by kernel_rfl) <|
         VN.meet0  [] [0] trivial ⟨rfl, ⟨rfl, rfl, trivial⟩, ⟨⟨0, rfl⟩, trivial⟩, rfl, by decide, rfl, by decide⟩
      intro _
      refine VC.ret <| ?_
      simp only [Option.some.injEq, Prod.mk.injEq] at h
      obtain ⟨rfl, rfl⟩ := h
      exact VR.mark 0 hDD4820 rfl rfl rfl <| VR.fn (rs := [.tmp 2, .tmp 3]) [] [(v4889, 9, 1, l4890.map enc_str)] [0] rfl (.tmp rfl (.tmp rfl .nil)) ⟨v4889, rfl, rfl, rfl⟩ trivial rfl (by decide)
    cases lF c4982 hb4981
    refine vm rfl <| VL.letter (decide (t4953 > 4096)) fun b4983 hb4983 => va (op_cmp rfl rfl (congrArg some hb4983)) <| va (op_pick rfl rfl) <| vm rfl <| ?_
    replace h := iC h
    rcases h with ⟨c4984, h⟩ | ⟨c4984, h⟩
    · cases lT c4984 hb4983
      refine un rfl <| un rfl <| un rfl <| un rfl <| un rfl <| va (op_pick rfl rfl) <| dt <| ct <| VC.ret <| VR.then <| VR.block <| VR.then <| VR.block <| VR.endRF 0 rfl rfl rfl rfl <| VN.block <| th <|
       VC.join0 (⟨25, [(2, v4889), (3, .int .i64 (wrap64 ((a0.size : Int) - i4887)))], [.dfr D4820], [], [(v4889, 9, 1, l4890.map enc_str)]⟩) (True) ?_ ?_
      · exact VC.draw ⟨0, [], [], [(g2234, 3, [.int .i64 i4887]), (g2233, 22, [v4889])], [(v4889, 9, 1, l4890.map enc_str)]⟩ (by kernel_rfl) rfl (by kernel_rfl) (n := 7) (listed := LB 7 0) <|
         aw 0 1 rfl (op_load 1 1 rfl rfl TI22 rfl (by decide)) ⟨trivial, ⟨⟨1, rfl⟩, ⟨2, rfl⟩, trivial⟩, ⟨⟨0, rfl⟩, trivial⟩⟩ <| aw 1 3 rfl (mv rfl) ⟨trivial, ⟨⟨1, rfl⟩, ⟨2, rfl⟩, trivial⟩, ⟨⟨0, rfl⟩, trivial⟩⟩ <|
         aw 2 7 rfl (op_lens Try.underlying9 rfl) ⟨trivial, ⟨⟨1, rfl⟩, ⟨2, rfl⟩, trivial⟩, ⟨⟨0, rfl⟩, trivial⟩⟩ <| aw 3 15 rfl (op_load 0 1 rfl rfl TI3 rfl (by decide)) ⟨trivial, ⟨⟨1, rfl⟩, ⟨2, rfl⟩, trivial⟩, ⟨⟨0, rfl⟩, trivial⟩⟩ <|
         aw 4 31 rfl (op_ari64 rfl rfl rfl) ⟨trivial, ⟨⟨1, rfl⟩, ⟨2, rfl⟩, trivial⟩, ⟨⟨0, rfl⟩, trivial⟩⟩ <| aw 5 63 rfl (ag rfl) ⟨trivial, ⟨⟨1, rfl⟩, ⟨2, rfl⟩, trivial⟩, ⟨⟨0, rfl⟩, trivial⟩⟩ <| aw 6 127 rfl (ag rfl) ⟨trivial, ⟨⟨1, rfl⟩, ⟨2, rfl⟩, trivial⟩, ⟨⟨0, rfl⟩, trivial⟩⟩ <| VA.done (by kernel_rfl) <|
         VN.meet0  [] [0] trivial ⟨rfl, ⟨rfl, rfl, trivial⟩, ⟨⟨0, rfl⟩, trivial⟩, rfl, by decide, rfl, by decide⟩
      intro _
      refine VC.ret <| ?_
      simp only [Option.some.injEq, Prod.mk.injEq] at h
      obtain ⟨rfl, rfl⟩ := h
      exact VR.mark 0 hDD4820 rfl rfl rfl <| VR.fn (rs := [.tmp 2, .tmp 3]) [] [(v4889, 9, 1, l4890.map enc_str)] [0] rfl (.tmp rfl (.tmp rfl .nil)) ⟨v4889, rfl, rfl, rfl⟩ trivial rfl (by decide)
    cases lF c4984 hb4983
    refine vm rfl <| va (op_ari64 rfl rfl rfl) <| vm rfl <| va (op_lens Try.underlying9 rfl) <| VL.letter (decide ((wrap64 (t4953 + 4)) > (t4954.size : Int))) fun b4985 hb4985 => va (op_cmp rfl rfl (congrArg some hb4985)) <| va (op_pick rfl rfl) <| dt <| ?_
    replace h := iC h
    rcases h with ⟨c4986, h⟩ | ⟨c4986, h⟩
    · cases lT c4986 hb4985
      refine ct <| VC.ret <| VR.then <| VR.block <| VR.then <| VR.block <| VR.endRF 0 rfl rfl rfl rfl <| VN.block <| th <| VC.join0 (⟨25, [(2, v4889), (3, .int .i64 (wrap64 ((a0.size : Int) - i4887)))], [.dfr D4820], [], [(v4889, 9, 1, l4890.map enc_str)]⟩) (True) ?_ ?_
      · exact VC.draw ⟨0, [], [], [(g2234, 3, [.int .i64 i4887]), (g2233, 22, [v4889])], [(v4889, 9, 1, l4890.map enc_str)]⟩ (by kernel_rfl) rfl (by kernel_rfl) (n := 7) (listed := LB 7 0) <|
         aw 0 1 rfl (op_load 1 1 rfl rfl TI22 rfl (by decide)) ⟨trivial, ⟨⟨1, rfl⟩, ⟨2, rfl⟩, trivial⟩, ⟨⟨0, rfl⟩, trivial⟩⟩ <| aw 1 3 rfl (mv rfl) ⟨trivial, ⟨⟨1, rfl⟩, ⟨2, rfl⟩, trivial⟩, ⟨⟨0, rfl⟩, trivial⟩⟩ <|
         aw 2 7 rfl (op_lens Try.underlying9 rfl) ⟨trivial, ⟨⟨1, rfl⟩, ⟨2, rfl⟩, trivial⟩, ⟨⟨0, rfl⟩, trivial⟩⟩ <| aw 3 15 rfl (op_load 0 1 rfl rfl TI3 rfl (by decide)) ⟨trivial, ⟨⟨1, rfl⟩, ⟨2, rfl⟩, trivial⟩, ⟨⟨0, rfl⟩, trivial⟩⟩ <|
         aw 4 31 rfl (op_ari64 rfl rfl rfl) ⟨trivial, ⟨⟨1, rfl⟩, ⟨2, rfl⟩, trivial⟩, ⟨⟨0, rfl⟩, trivial⟩⟩ <| aw 5 63 rfl (ag rfl) ⟨trivial, ⟨⟨1, rfl⟩, ⟨2, rfl⟩, trivial⟩, ⟨⟨0, rfl⟩, trivial⟩⟩ <| aw 6 127 rfl (ag rfl) ⟨trivial, ⟨⟨1, rfl⟩, ⟨2, rfl⟩, trivial⟩, ⟨⟨0, rfl⟩, trivial⟩⟩ <| VA.done (by kernel_rfl) <|
         VN.meet0  [] [0] trivial ⟨rfl, ⟨rfl, rfl, trivial⟩, ⟨⟨0, rfl⟩, trivial⟩, rfl, by decide, rfl, by decide⟩
      intro _
      refine VC.ret <| ?_
      simp only [Option.some.injEq, Prod.mk.injEq] at h
      obtain ⟨rfl, rfl⟩ := h
      exact VR.mark 0 hDD4820 rfl rfl rfl <| VR.fn (rs := [.tmp 2, .tmp 3]) [] [(v4889, 9, 1, l4890.map enc_str)] [0] rfl (.tmp rfl (.tmp rfl .nil)) ⟨v4889, rfl, rfl, rfl⟩ trivial rfl (by decide)
    cases lF c4986 hb4985
    refine cf <| sk <| ?_
    replace h := iN h
    obtain ⟨c4987, h⟩ := h
    replace h := iN h
    obtain ⟨c4988, h⟩ := h
    replace h := iN h
    obtain ⟨c4989, h⟩ := h
    replace h := iN h
    obtain ⟨c4990, h⟩ := h
    replace h := iN h
    obtain ⟨c4991, h⟩ := h
    refine VC.join0 (⟨55, [(0, (.func (.yield l4821) #[] #[])), (1, .pointer (some ⟨g4819, 0, none⟩)), (3, .int .i64 t4953), (4, .string t4954), (5, .int .i64 t4955), (6, .string (t4954.extract 0 t4953.toNat)), (7, .string (t4954.extract t4953.toNat ((wrap64 (t4953 + 4)).toNat))), (8, .tuple #[.int .i64 t4953, .string t4954, .int .i64 t4955]), (9, .string s4886), (10, .tuple #[.int .i64 t4953, .string t4954, .int .i64 t4955]), (11, .int .i64 t4953), (12, .string t4954), (13, .int .i64 t4955), (14, .int .i64 t4955), (15, .bool false), (16, .bool false), (17, .int .i64 t4953), (18, .bool false), (19, .bool false), (20, .bool false), (21, .int .i64 t4953), (22, .bool false), (23, .bool false), (24, .bool false), (25, .int .i64 t4953), (26, .int .i64 (wrap64 (t4953 + 4))), (27, .string t4954), (28, .int .i64 (t4954.size : Int)), (29, .bool false), (30, .bool false), (31, .string t4954), (32, .int .i64 t4953), (33, .string (t4954.extract 0 t4953.toNat)), (34, .string t4954), (35, .int .i64 t4953), (36, .int .i64 t4953), (37, .int .i64 (wrap64 (t4953 + 4))), (38, .string (t4954.extract t4953.toNat ((wrap64 (t4953 + 4)).toNat)))], [.loop l4821 L4822 .ready none, .dfr D4820], [(g4819, 9, [.string s4886]), (g2234, 3, [.int .i64 i4887]), (g2233, 22, [v4889])], [(v4889, 9, 1, l4890.map enc_str)]⟩) (True) ?_ ?_
    · exact VC.draw ⟨0, [], [], [], []⟩ (by kernel_rfl) rfl (by kernel_rfl) (n := 10) (listed := LB 10 0) <| av 0 1 rfl (mv rfl) <| av 1 3 rfl (mv rfl) <|
       av 2 7 rfl (op_sliceS 0 t4953.toNat Try.underlying9 rfl ⟨rfl, ⟨_, _, rfl, c4987, rfl⟩, Nat.zero_le _, tN (a := t4953) (b := (t4954.size : Int)) rfl rfl c4988⟩ rfl) <| av 3 15 rfl (mv rfl) <| av 4 31 rfl (mv rfl) <| av 5 63 rfl (mv rfl) <| av 6 127 rfl (op_ari64 rfl rfl rfl) <|
       av 7 255 rfl (op_sliceS t4953.toNat ((wrap64 (t4953 + 4)).toNat) Try.underlying9 rfl ⟨⟨_, _, rfl, c4987, rfl⟩, ⟨_, _, rfl, c4989, rfl⟩, tN (a := t4953) (b := (wrap64 (t4953 + 4))) rfl rfl c4991, tN (a := (wrap64 (t4953 + 4))) (b := (t4954.size : Int)) rfl rfl c4990⟩ rfl) <| av 8 511 rfl (ag rfl) <|
       av 9 1023 rfl (ag rfl) <| VA.done (by kernel_rfl) <|
       VN.meet0  [0, 1, 2] [0] trivial ⟨rfl, ⟨rfl, rfl, rfl, rfl, rfl, rfl, rfl, rfl, rfl, rfl, rfl, rfl, rfl, rfl, rfl, rfl, rfl, rfl, rfl, rfl, rfl, rfl, rfl, rfl, rfl, rfl, rfl, rfl, rfl, rfl, rfl, rfl, rfl, rfl, rfl, rfl, rfl, rfl, trivial⟩, ⟨⟨0, rfl⟩, ⟨1, rfl⟩, trivial⟩, rfl, by decide, rfl, by decide⟩
    intro _
    refine sr <| vm rfl <| vm rfl <| va (op_ari64 rfl rfl rfl) <| va (op_sliceS ((wrap64 (t4953 + 4)).toNat) t4954.size Try.underlying9 rfl ⟨⟨_, _, rfl, c4989, rfl⟩, rfl, tN (a := (wrap64 (t4953 + 4))) (b := (t4954.size : Int)) rfl rfl c4990, Nat.le_refl _⟩ rfl) <|
     s1 (o_store 0 1 rfl rfl rfl TI9 (.c rfl) rfl (len rfl)) <| nx <| vm rfl <| vm rfl <| ?_
    replace h := bd h
    obtain ⟨t5003, hA5004, h⟩ := h
    refine sC (o_call0 FO90 (check_Of.ok k (t4954.extract 0 t4953.toNat) t5003 hA5004) rfl rfl (ltn rfl) (All_of .nil)) <| ?_
    rintro _ _ _ ⟨rfl, rfl, rfl⟩
    replace h := bd h
    obtain ⟨t5005, hA5006, h⟩ := h
    refine sC (o_call0 FO89 (check_Bytes.ok k t5003 t5005 hA5006) rfl rfl (ltn rfl) (All_of .nil)) <| ?_
    rintro _ _ _ ⟨rfl, rfl, rfl⟩
    refine VL.letter (((t4954.extract t4953.toNat ((wrap64 (t4953 + 4)).toNat)) != t5005)) fun b5007 hb5007 => va (op_cmps rfl rfl (congrArg some hb5007)) <| vm rfl <| ?_
    replace h := iC h
    rcases h with ⟨c5008, h⟩ | ⟨c5008, h⟩
    · obtain rfl : b5007 = false := hb5007.symm.trans (bne_of_t c5008)
      refine vm rfl <| vm rfl <| va (op_load 0 1 rfl rfl TI9 rfl (by decide)) <| VL.yield (vals := [.string (t4954.extract 0 t4953.toNat), .string (t4954.extract ((wrap64 (t4953 + 4)).toNat) t4954.size)]) hLl4821 rfl rfl rfl rfl (ltn rfl) 0 rfl rfl <| sr <| vs rfl <| dr <| vs rfl <| dn <|
       VN.begin 0 hLl4821.base rfl rfl rfl <| VC.block <| rg <| va (op_load 2 1 rfl rfl TI22 rfl (by decide)) <| vm rfl <|
       sG (o_buildSlice (vals := [(0, .string (t4954.extract 0 t4953.toNat))]) (cells := #[.string (t4954.extract 0 t4953.toNat)]) (es := List.map enc_str ([t4954.extract 0 t4953.toNat] : List ByteArray)) Try.underlying22 TI9 Z9 rfl (by decide) (by decide) (by kernel_rfl) (by kernel_rfl) rfl (flat_map enc_str_ok _)) fun v5010 => ?_
      replace h := iN h
      obtain ⟨c5011, h⟩ := h
      refine sG (o_append 1 appm Try.underlying22 EI9 rfl rfl rfl (.inr ⟨0, _, rfl⟩) (bndm c5011)) fun v5012 => vm rfl <| va (op_lens Try.underlying9 rfl) <| s1 (o_store 2 1 rfl rfl rfl TI22 (.r 1 rfl) rfl (len rfl)) <| s1 (o_store 1 1 rfl rfl rfl TI3 (.c rfl) rfl (len rfl)) <| dn <| VN.block <|
       VN.endRound 0 hLl4821.base rfl rfl rfl <| va (op_not rfl rfl) <| va (op_pick rfl rfl) <| dt <| cf <| VC.skip <| VN.block <|
       VN.again [0, 1, 2] [1] (ihl1 (t4954.extract ((wrap64 (t4953 + 4)).toNat) t4954.size) ((t4954.extract ((wrap64 (t4953 + 4)).toNat) t4954.size).size : Int) v5012 (l4890 ++ ([t4954.extract 0 t4953.toNat] : List ByteArray)) h) ⟨rfl, ⟨rfl, rfl, trivial⟩, ⟨⟨0, rfl⟩, ⟨1, rfl⟩, trivial⟩, rfl, by decide, rfl, by decide⟩
    obtain rfl : b5007 = true := hb5007.symm.trans (bne_of_f c5008)
    refine un rfl <| un rfl <| un rfl <| un rfl <| un rfl <| va (op_pick rfl rfl) <| dt <| ct <| VC.ret <| VR.block <| VR.then <| VR.block <| VR.endRF 0 rfl rfl rfl rfl <| VN.block <| th <|
     VC.join0 (⟨25, [(2, v4889), (3, .int .i64 (wrap64 ((a0.size : Int) - i4887)))], [.dfr D4820], [], [(v4889, 9, 1, l4890.map enc_str)]⟩) (True) ?_ ?_
    · exact VC.draw ⟨0, [], [], [(g2234, 3, [.int .i64 i4887]), (g2233, 22, [v4889])], [(v4889, 9, 1, l4890.map enc_str)]⟩ (by kernel_rfl) rfl (by kernel_rfl) (n := 7) (listed := LB 7 0) <|
       aw 0 1 rfl (op_load 1 1 rfl rfl TI22 rfl (by decide)) ⟨trivial, ⟨⟨1, rfl⟩, ⟨2, rfl⟩, trivial⟩, ⟨⟨0, rfl⟩, trivial⟩⟩ <| aw 1 3 rfl (mv rfl) ⟨trivial, ⟨⟨1, rfl⟩, ⟨2, rfl⟩, trivial⟩, ⟨⟨0, rfl⟩, trivial⟩⟩ <|
       aw 2 7 rfl (op_lens Try.underlying9 rfl) ⟨trivial, ⟨⟨1, rfl⟩, ⟨2, rfl⟩, trivial⟩, ⟨⟨0, rfl⟩, trivial⟩⟩ <| aw 3 15 rfl (op_load 0 1 rfl rfl TI3 rfl (by decide)) ⟨trivial, ⟨⟨1, rfl⟩, ⟨2, rfl⟩, trivial⟩, ⟨⟨0, rfl⟩, trivial⟩⟩ <|
       aw 4 31 rfl (op_ari64 rfl rfl rfl) ⟨trivial, ⟨⟨1, rfl⟩, ⟨2, rfl⟩, trivial⟩, ⟨⟨0, rfl⟩, trivial⟩⟩ <| aw 5 63 rfl (ag rfl) ⟨trivial, ⟨⟨1, rfl⟩, ⟨2, rfl⟩, trivial⟩, ⟨⟨0, rfl⟩, trivial⟩⟩ <| aw 6 127 rfl (ag rfl) ⟨trivial, ⟨⟨1, rfl⟩, ⟨2, rfl⟩, trivial⟩, ⟨⟨0, rfl⟩, trivial⟩⟩ <| VA.done (by kernel_rfl) <|
       VN.meet0  [] [0] trivial ⟨rfl, ⟨rfl, rfl, trivial⟩, ⟨⟨0, rfl⟩, trivial⟩, rfl, by decide, rfl, by decide⟩
    intro _
    refine VC.ret <| ?_
    simp only [Option.some.injEq, Prod.mk.injEq] at h
    obtain ⟨rfl, rfl⟩ := h
    exact VR.mark 0 hDD4820 rfl rfl rfl <| VR.fn (rs := [.tmp 2, .tmp 3]) [] [(v4889, 9, 1, l4890.map enc_str)] [0] rfl (.tmp rfl (.tmp rfl .nil)) ⟨v4889, rfl, rfl, rfl⟩ trivial rfl (by decide)
  obtain rfl : b4979 = true := hb4979.symm.trans (bne_iff_ne.2 c4980)
  refine un rfl <| un rfl <| va (op_pick rfl rfl) <| vm rfl <| un rfl <| un rfl <| va (op_pick rfl rfl) <| vm rfl <| un rfl <| un rfl <| un rfl <| un rfl <| un rfl <| va (op_pick rfl rfl) <| dt <| ct <| VC.ret <| VR.then <| VR.block <| VR.then <| VR.block <| VR.endRF 0 rfl rfl rfl rfl <| VN.block <|
   th <| VC.join0 (⟨25, [(2, v4889), (3, .int .i64 (wrap64 ((a0.size : Int) - i4887)))], [.dfr D4820], [], [(v4889, 9, 1, l4890.map enc_str)]⟩) (True) ?_ ?_
  · exact VC.draw ⟨0, [], [], [(g2234, 3, [.int .i64 i4887]), (g2233, 22, [v4889])], [(v4889, 9, 1, l4890.map enc_str)]⟩ (by kernel_rfl) rfl (by kernel_rfl) (n := 7) (listed := LB 7 0) <|
     aw 0 1 rfl (op_load 1 1 rfl rfl TI22 rfl (by decide)) ⟨trivial, ⟨⟨1, rfl⟩, ⟨2, rfl⟩, trivial⟩, ⟨⟨0, rfl⟩, trivial⟩⟩ <| aw 1 3 rfl (mv rfl) ⟨trivial, ⟨⟨1, rfl⟩, ⟨2, rfl⟩, trivial⟩, ⟨⟨0, rfl⟩, trivial⟩⟩ <|
     aw 2 7 rfl (op_lens Try.underlying9 rfl) ⟨trivial, ⟨⟨1, rfl⟩, ⟨2, rfl⟩, trivial⟩, ⟨⟨0, rfl⟩, trivial⟩⟩ <| aw 3 15 rfl (op_load 0 1 rfl rfl TI3 rfl (by decide)) ⟨trivial, ⟨⟨1, rfl⟩, ⟨2, rfl⟩, trivial⟩, ⟨⟨0, rfl⟩, trivial⟩⟩ <|
     aw 4 31 rfl (op_ari64 rfl rfl rfl) ⟨trivial, ⟨⟨1, rfl⟩, ⟨2, rfl⟩, trivial⟩, ⟨⟨0, rfl⟩, trivial⟩⟩ <| aw 5 63 rfl (ag rfl) ⟨trivial, ⟨⟨1, rfl⟩, ⟨2, rfl⟩, trivial⟩, ⟨⟨0, rfl⟩, trivial⟩⟩ <| aw 6 127 rfl (ag rfl) ⟨trivial, ⟨⟨1, rfl⟩, ⟨2, rfl⟩, trivial⟩, ⟨⟨0, rfl⟩, trivial⟩⟩ <| VA.done (by kernel_rfl) <|
     VN.meet0  [] [0] trivial ⟨rfl, ⟨rfl, rfl, trivial⟩, ⟨⟨0, rfl⟩, trivial⟩, rfl, by decide, rfl, by decide⟩
  intro _
  refine VC.ret <| ?_
  simp only [Option.some.injEq, Prod.mk.injEq] at h
  obtain ⟨rfl, rfl⟩ := h
  exact VR.mark 0 hDD4820 rfl rfl rfl <| VR.fn (rs := [.tmp 2, .tmp 3]) [] [(v4889, 9, 1, l4890.map enc_str)] [0] rfl (.tmp rfl (.tmp rfl .nil)) ⟨v4889, rfl, rfl, rfl⟩ trivial rfl (by decide)

theorem frame_All.ok (k : Nat) (a0 : ByteArray)  (r1 : List ByteArray) (r2 : Int) (h : frame_All.f k a0 = some (r1, r2)) :
    VCalls Try.prog 26 [.string a0] [] (fun v G own => ∃ w0 : Value, v = .tuple #[w0, .int .i64 r2] ∧ G = [] ∧ own = [(w0, 9, 1, r1.map enc_str)]) := by
  refine VCalls.intro Try.func26 rfl (len rfl) fun E hC hW hD hU => ?_
  unfold frame_All.f at h
  refine sr <| vs rfl <| vs rfl <| nx <| vm rfl <| ?_
  replace h := bd h
  obtain ⟨⟨r5014, t5015⟩, hA5016, h⟩ := h
  dsimp only at h
  refine sC (o_call0 FO56 (frame_Scan.ok k a0 r5014 t5015 hA5016) rfl rfl (ltn rfl) (All_of .nil)) <| ?_
  rintro _ _ _ ⟨v5018, rfl, rfl, rfl⟩
  refine vm rfl <| va (op_extract rfl rfl) <| va (op_extract rfl rfl) <| vs rfl <| vs rfl <| ds <| sr <| vm rfl <| vm rfl <| va (op_lens Try.underlying9 rfl) <| VL.letter (decide (t5015 < (a0.size : Int))) fun b5022 hb5022 => va (op_cmp rfl rfl (congrArg some hb5022)) <| dt <| ?_
  replace h := iC h
  rcases h with ⟨c5023, h⟩ | ⟨c5023, h⟩
  · cases lT c5023 hb5022
    refine ct <| sr <| vs rfl <| vs rfl <| dt <| VC.ret <| VR.then <| ?_
    simp only [Option.some.injEq, Prod.mk.injEq] at h
    obtain ⟨rfl, rfl⟩ := h
    exact VR.nilRow' 9 1 <| VR.fn (rs := [.tmp 2, .tmp 3]) [] [((.slice none 0 0), 9, 1, ([] : List ByteArray).map enc_str)] [0] rfl (.tmp rfl (.tmp rfl .nil)) ⟨(.slice none 0 0), rfl, rfl, rfl⟩ trivial rfl (by decide)
  cases lF c5023 hb5022
  refine cf <| sk <| sr <| vm rfl <| vs rfl <| vs rfl <| dt <| VC.ret <| ?_
  simp only [Option.some.injEq, Prod.mk.injEq] at h
  obtain ⟨rfl, rfl⟩ := h
  exact VR.fn (rs := [.tmp 2, .tmp 3]) [] [(v5018, 9, 1, r5014.map enc_str)] [0] rfl (.tmp rfl (.tmp rfl .nil)) ⟨v5018, rfl, rfl, rfl⟩ trivial rfl (by decide)

end Go.Proofs.Ytipeglbeongfmaa.PJournalKeeps
