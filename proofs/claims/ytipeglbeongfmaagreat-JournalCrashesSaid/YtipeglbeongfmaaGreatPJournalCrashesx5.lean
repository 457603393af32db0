/- Written by a program of this repo: what the program's functions do, each as a Lean function, shown of the loaded code; or a statement's row over that; no condition of its own. -/
import Derived.Test.YtipeglbeongfmaaGreatPJournalCrashesx4
namespace Go.Proofs.YtipeglbeongfmaaGreat.PJournalCrashes
open Go Go.RowKit Go.Proofs.YtipeglbeongfmaaGreatV
set_option linter.unusedVariables false
set_option linter.unusedSimpArgs false
set_option maxHeartbeats 4000000
set_option maxRecDepth 100000

theorem frame_Scan.ok (k : Nat) (a0 : ByteArray)  (r1 : List ByteArray) (r2 : Int) (h : frame_Scan.f k a0 = some (r1, r2)) :
    VCalls Tryz.prog 89 [.string a0] [] (fun v G own => ∃ w0 : Value, v = .tuple #[w0, iv r2] ∧ G = [] ∧ own = [(w0, 9, 1, r1.map enc_str)]) := by
  refine VCalls.introM Tryz.func89 rfl (len rfl) fun E hC hW hD hU => ?_
  unfold frame_Scan.f at h
  refine sr <| vs rfl <| vs rfl <| nx <| sG (o_alloc Z22 ZL22) fun g2231 => nx <| vm rfl <| va (op_lens Tryz.underlying9 rfl) <| sG (o_alloc Z3 ZL3) fun g2232 => s1 (o_store 0 1 rfl rfl rfl TI3 (.c rfl) rfl (len rfl)) <| ds <| sr <| vm rfl <|
   VL.inl (vals := [.string a0]) (caps := []) Tryz.func101 FO101 rfl rfl rfl (len rfl) (ltn rfl) rfl <| sr <| sG (o_box rfl (.c rfl)) fun g4817 => vs rfl <| nx <| va (op_makeFunc (vals := [pt g4817 0]) rfl) <| vs rfl <| dt <| VC.ret <|
   VR.inl (rs := [.tmp 2]) ((.func (.func 107) #[] #[pt g4817 0])) rfl (.tmp rfl .nil) rfl <| dt <| VC.block <| VC.rangeFunc (ps := [12, 13]) (caps := [pt g4817 0]) Tryz.func107 FO107 rfl rfl (len rfl) fun D4818 l4819 L4820 hLl4819 hDD4818 => VC.block <|
   VC.nilRow' 9 1 <| VC.loop4 (fun (s4884 : ByteArray) (i4885 : Int) (v4887 : Value) (l4888 : List ByteArray) => ⟨55, [(0, (.func (.yield l4819) #[] #[])), (1, pt g4817 0)], [.loop l4819 L4820 .ready none, .dfr D4818], [(g4817, 9, [.string s4884]), (g2232, 3, [iv i4885]), (g2231, 22, [v4887])], [(v4887, 9, 1, l4888.map enc_str)]⟩) (fun (ml1 : Nat) (s4884 : ByteArray) (i4885 : Int) (v4887 : Value) (l4888 : List ByteArray) => frame_Scan.l1 k a0 ml1 s4884 i4885 l4888 = some (r1, r2)) k a0 (a0.size : Int) sn ([] : List ByteArray) [0, 1, 2] [0] h ⟨rfl, ⟨rfl, rfl, trivial⟩, ⟨⟨0, rfl⟩, ⟨1, rfl⟩, trivial⟩, rfl, by decide, rfl, by decide⟩ (by intros; simp [frame_Scan.l1]) <|
   ?_
  clear h
  intro ml1 ihl1 s4884 i4885 v4887 l4888 h
  simp only [frame_Scan.l1] at h
  refine VC.block <| sr <| va (op_load 0 1 rfl rfl TI9 rfl (by decide)) <| ?_
  replace h := bd h
  obtain ⟨⟨t4951, t4952, t4953⟩, hA4954, h⟩ := h
  dsimp only at h
  refine sC (o_call0 FO108 (pack_ReadNumber.ok k s4884 t4951 t4952 t4953 hA4954) rfl rfl (ltn rfl) (All_of .nil)) <| ?_
  rintro _ _ _ ⟨rfl, rfl, rfl⟩
  refine vm rfl <| va (op_extract rfl rfl) <| va (op_extract rfl rfl) <| va (op_extract rfl rfl) <| vs rfl <| vs rfl <| vs rfl <| ds <| sr <| vm rfl <| VL.letter ((t4953 != 0)) fun b4977 hb4977 => va (op_cmp rfl rfl (congrArg some hb4977)) <| vm rfl <| ?_
  replace h := iC h
  rcases h with ⟨c4978, h⟩ | ⟨c4978, h⟩
  · obtain rfl : b4977 = false := hb4977.symm.trans (bne_eq_false_iff_eq.2 c4978)
    refine vm rfl <| VL.letter (decide (t4951 < 0)) fun b4979 hb4979 => va (op_cmp rfl rfl (congrArg some hb4979)) <| va (op_pick rfl rfl) <| vm rfl <| ?_
    replace h := iC h
    rcases h with ⟨c4980, h⟩ | ⟨c4980, h⟩
    · cases lT c4980 hb4979
      refine un rfl <| un rfl <| va (op_pick rfl rfl) <| vm rfl <| un rfl <| un rfl <| un rfl <| un rfl <| un rfl <| va (op_pick rfl rfl) <| dt <| ct <| VC.ret <| VR.then <| VR.block <| VR.then <| VR.block <| VR.endRF 0 rfl rfl rfl rfl <| VN.block <| th <|
       VC.join0 (⟨25, [(2, v4887), (3, iv (wrap64 ((a0.size : Int) - i4885)))], [.dfr D4818], [], [(v4887, 9, 1, l4888.map enc_str)]⟩) (True) ?_ ?_
      · exact dw ⟨0, [], [], [(g2232, 3, [iv i4885]), (g2231, 22, [v4887])], [(v4887, 9, 1, l4888.map enc_str)]⟩ 7 <| av 0 1 rfl (op_load 1 1 rfl rfl TI22 rfl (by decide)) <| av 1 3 rfl (mv rfl) <| av 2 7 rfl (op_lens Tryz.underlying9 rfl) <| av 3 15 rfl (op_load 0 1 rfl rfl TI3 rfl (by decide)) <|
         av 4 31 rfl (op_ari64 rfl rfl rfl) <| av 5 63 rfl (ag rfl) <| av 6 127 rfl (ag rfl) <| ad <| VN.meet0 [] [0] trivial
      intro _
      refine VC.ret <| ?_
      simp only [Option.some.injEq, Prod.mk.injEq] at h
      obtain ⟨rfl, rfl⟩ := h
      exact VR.mark 0 hDD4818 rfl rfl rfl <| rf [.tmp 2, .tmp 3] [0] (.tmp rfl (.tmp rfl .nil)) ⟨v4887, rfl, rfl, rfl⟩
    cases lF c4980 hb4979
    refine vm rfl <| VL.letter (decide (t4951 > 4096)) fun b4981 hb4981 => va (op_cmp rfl rfl (congrArg some hb4981)) <| va (op_pick rfl rfl) <| vm rfl <| ?_
    replace h := iC h
    rcases h with ⟨c4982, h⟩ | ⟨c4982, h⟩
    · cases lT c4982 hb4981
      refine un rfl <| un rfl <| un rfl <| un rfl <| un rfl <| va (op_pick rfl rfl) <| dt <| ct <| VC.ret <| VR.then <| VR.block <| VR.then <| VR.block <| VR.endRF 0 rfl rfl rfl rfl <| VN.block <| th <|
       VC.join0 (⟨25, [(2, v4887), (3, iv (wrap64 ((a0.size : Int) - i4885)))], [.dfr D4818], [], [(v4887, 9, 1, l4888.map enc_str)]⟩) (True) ?_ ?_
      · exact dw ⟨0, [], [], [(g2232, 3, [iv i4885]), (g2231, 22, [v4887])], [(v4887, 9, 1, l4888.map enc_str)]⟩ 7 <| av 0 1 rfl (op_load 1 1 rfl rfl TI22 rfl (by decide)) <| av 1 3 rfl (mv rfl) <| av 2 7 rfl (op_lens Tryz.underlying9 rfl) <| av 3 15 rfl (op_load 0 1 rfl rfl TI3 rfl (by decide)) <|
         av 4 31 rfl (op_ari64 rfl rfl rfl) <| av 5 63 rfl (ag rfl) <| av 6 127 rfl (ag rfl) <| ad <| VN.meet0 [] [0] trivial
      intro _
      refine VC.ret <| ?_
      simp only [Option.some.injEq, Prod.mk.injEq] at h
      obtain ⟨rfl, rfl⟩ := h
      exact VR.mark 0 hDD4818 rfl rfl rfl <| rf [.tmp 2, .tmp 3] [0] (.tmp rfl (.tmp rfl .nil)) ⟨v4887, rfl, rfl, rfl⟩
    cases lF c4982 hb4981
    refine vm rfl <| va (op_ari64 rfl rfl rfl) <| vm rfl <| va (op_lens Tryz.underlying9 rfl) <| VL.letter (decide ((wrap64 (t4951 + 4)) > (t4952.size : Int))) fun b4983 hb4983 => va (op_cmp rfl rfl (congrArg some hb4983)) <| va (op_pick rfl rfl) <| dt <| ?_
    replace h := iC h
    rcases h with ⟨c4984, h⟩ | ⟨c4984, h⟩
    · cases lT c4984 hb4983
      refine ct <| VC.ret <| VR.then <| VR.block <| VR.then <| VR.block <| VR.endRF 0 rfl rfl rfl rfl <| VN.block <| th <| VC.join0 (⟨25, [(2, v4887), (3, iv (wrap64 ((a0.size : Int) - i4885)))], [.dfr D4818], [], [(v4887, 9, 1, l4888.map enc_str)]⟩) (True) ?_ ?_
      · exact dw ⟨0, [], [], [(g2232, 3, [iv i4885]), (g2231, 22, [v4887])], [(v4887, 9, 1, l4888.map enc_str)]⟩ 7 <| av 0 1 rfl (op_load 1 1 rfl rfl TI22 rfl (by decide)) <| av 1 3 rfl (mv rfl) <| av 2 7 rfl (op_lens Tryz.underlying9 rfl) <| av 3 15 rfl (op_load 0 1 rfl rfl TI3 rfl (by decide)) <|
         av 4 31 rfl (op_ari64 rfl rfl rfl) <| av 5 63 rfl (ag rfl) <| av 6 127 rfl (ag rfl) <| ad <| VN.meet0 [] [0] trivial
      intro _
      refine VC.ret <| ?_
      simp only [Option.some.injEq, Prod.mk.injEq] at h
      obtain ⟨rfl, rfl⟩ := h
      exact VR.mark 0 hDD4818 rfl rfl rfl <| rf [.tmp 2, .tmp 3] [0] (.tmp rfl (.tmp rfl .nil)) ⟨v4887, rfl, rfl, rfl⟩
    cases lF c4984 hb4983
    refine cf <| sk <| ?_
    replace h := iN h
    obtain ⟨c4985, h⟩ := h
    replace h := iN h
    obtain ⟨c4986, h⟩ := h
    replace h := iN h
    obtain ⟨c4987, h⟩ := h
    replace h := iN h
    obtain ⟨c4988, h⟩ := h
    replace h := iN h
    obtain ⟨c4989, h⟩ := h
    refine VC.join0 (⟨55, [(0, (.func (.yield l4819) #[] #[])), (1, pt g4817 0), (3, iv t4951), (4, .string t4952), (5, iv t4953), (6, .string (t4952.extract 0 t4951.toNat)), (7, .string (t4952.extract t4951.toNat ((wrap64 (t4951 + 4)).toNat))), (8, .tuple #[iv t4951, .string t4952, iv t4953]), (9, .string s4884), (10, .tuple #[iv t4951, .string t4952, iv t4953]), (11, iv t4951), (12, .string t4952), (13, iv t4953), (14, iv t4953), (15, .bool false), (16, .bool false), (17, iv t4951), (18, .bool false), (19, .bool false), (20, .bool false), (21, iv t4951), (22, .bool false), (23, .bool false), (24, .bool false), (25, iv t4951), (26, iv (wrap64 (t4951 + 4))), (27, .string t4952), (28, iv (t4952.size : Int)), (29, .bool false), (30, .bool false), (31, .string t4952), (32, iv t4951), (33, .string (t4952.extract 0 t4951.toNat)), (34, .string t4952), (35, iv t4951), (36, iv t4951), (37, iv (wrap64 (t4951 + 4))), (38, .string (t4952.extract t4951.toNat ((wrap64 (t4951 + 4)).toNat)))], [.loop l4819 L4820 .ready none, .dfr D4818], [(g4817, 9, [.string s4884]), (g2232, 3, [iv i4885]), (g2231, 22, [v4887])], [(v4887, 9, 1, l4888.map enc_str)]⟩) (True) ?_ ?_
    · exact dw ⟨0, [], [], [], []⟩ 10 <| av 0 1 rfl (mv rfl) <| av 1 3 rfl (mv rfl) <| av 2 7 rfl (op_sliceS 0 t4951.toNat Tryz.underlying9 rfl ⟨rfl, ⟨_, _, rfl, c4985, rfl⟩, Nat.zero_le _, tN (a := t4951) (b := (t4952.size : Int)) rfl rfl c4986⟩ rfl) <| av 3 15 rfl (mv rfl) <| av 4 31 rfl (mv rfl) <|
       av 5 63 rfl (mv rfl) <| av 6 127 rfl (op_ari64 rfl rfl rfl) <|
       av 7 255 rfl (op_sliceS t4951.toNat ((wrap64 (t4951 + 4)).toNat) Tryz.underlying9 rfl ⟨⟨_, _, rfl, c4985, rfl⟩, ⟨_, _, rfl, c4987, rfl⟩, tN (a := t4951) (b := (wrap64 (t4951 + 4))) rfl rfl c4989, tN (a := (wrap64 (t4951 + 4))) (b := (t4952.size : Int)) rfl rfl c4988⟩ rfl) <|
       av 8 511 rfl (ag rfl) <| av 9 1023 rfl (ag rfl) <| ad <| VN.meet0 [0, 1, 2] [0] trivial
    intro _
    refine sr <| vm rfl <| vm rfl <| va (op_ari64 rfl rfl rfl) <| va (op_sliceS ((wrap64 (t4951 + 4)).toNat) t4952.size Tryz.underlying9 rfl ⟨⟨_, _, rfl, c4987, rfl⟩, rfl, tN (a := (wrap64 (t4951 + 4))) (b := (t4952.size : Int)) rfl rfl c4988, Nat.le_refl _⟩ rfl) <|
     s1 (o_store 0 1 rfl rfl rfl TI9 (.c rfl) rfl (len rfl)) <| nx <| vm rfl <| vm rfl <| ?_
    replace h := bd h
    obtain ⟨t5001, hA5002, h⟩ := h
    refine sC (o_call0 FO92 (check_Of.ok k (t4952.extract 0 t4951.toNat) t5001 hA5002) rfl rfl (ltn rfl) (All_of .nil)) <| ?_
    rintro _ _ _ ⟨rfl, rfl, rfl⟩
    replace h := bd h
    obtain ⟨t5003, hA5004, h⟩ := h
    refine sC (o_call0 FO91 (check_Bytes.ok k t5001 t5003 hA5004) rfl rfl (ltn rfl) (All_of .nil)) <| ?_
    rintro _ _ _ ⟨rfl, rfl, rfl⟩
    refine VL.letter (((t4952.extract t4951.toNat ((wrap64 (t4951 + 4)).toNat)) != t5003)) fun b5005 hb5005 => va (op_cmps rfl rfl (congrArg some hb5005)) <| vm rfl <| ?_
    replace h := iC h
    rcases h with ⟨c5006, h⟩ | ⟨c5006, h⟩
    · obtain rfl : b5005 = false := hb5005.symm.trans (bne_of_t c5006)
      refine vm rfl <| vm rfl <| va (op_load 0 1 rfl rfl TI9 rfl (by decide)) <| VL.yield (vals := [.string (t4952.extract 0 t4951.toNat), .string (t4952.extract ((wrap64 (t4951 + 4)).toNat) t4952.size)]) hLl4819 rfl rfl rfl rfl (ltn rfl) 0 rfl rfl <| sr <| vs rfl <| dr <| vs rfl <| dn <|
       VN.begin 0 hLl4819.base rfl rfl rfl <| VC.block <| rg <| va (op_load 2 1 rfl rfl TI22 rfl (by decide)) <| vm rfl <|
       sG (o_buildSlice (vals := [(0, .string (t4952.extract 0 t4951.toNat))]) (cells := #[.string (t4952.extract 0 t4951.toNat)]) (es := List.map enc_str ([t4952.extract 0 t4951.toNat] : List ByteArray)) Tryz.underlying22 TI9 Z9 rfl (by decide) (by decide) (by kernel_rfl) (by kernel_rfl) rfl (flat_map enc_str_ok _)) fun v5008 => ?_
      replace h := iN h
      obtain ⟨c5009, h⟩ := h
      refine sG (o_append 1 appm Tryz.underlying22 EI9 rfl rfl rfl (.inr ⟨0, _, rfl⟩) (bndm c5009)) fun v5010 => vm rfl <| va (op_lens Tryz.underlying9 rfl) <| s1 (o_store 2 1 rfl rfl rfl TI22 (.r 1 rfl) rfl (len rfl)) <| s1 (o_store 1 1 rfl rfl rfl TI3 (.c rfl) rfl (len rfl)) <| dn <| VN.block <|
       VN.endRound 0 hLl4819.base rfl rfl rfl <| va (op_not rfl rfl) <| va (op_pick rfl rfl) <| dt <| cf <| VC.skip <| VN.block <|
       VN.again [0, 1, 2] [1] (ihl1 (t4952.extract ((wrap64 (t4951 + 4)).toNat) t4952.size) ((t4952.extract ((wrap64 (t4951 + 4)).toNat) t4952.size).size : Int) v5010 (l4888 ++ ([t4952.extract 0 t4951.toNat] : List ByteArray)) h)
    obtain rfl : b5005 = true := hb5005.symm.trans (bne_of_f c5006)
    refine un rfl <| un rfl <| un rfl <| un rfl <| un rfl <| va (op_pick rfl rfl) <| dt <| ct <| VC.ret <| VR.block <| VR.then <| VR.block <| VR.endRF 0 rfl rfl rfl rfl <| VN.block <| th <|
     VC.join0 (⟨25, [(2, v4887), (3, iv (wrap64 ((a0.size : Int) - i4885)))], [.dfr D4818], [], [(v4887, 9, 1, l4888.map enc_str)]⟩) (True) ?_ ?_
    · exact dw ⟨0, [], [], [(g2232, 3, [iv i4885]), (g2231, 22, [v4887])], [(v4887, 9, 1, l4888.map enc_str)]⟩ 7 <| av 0 1 rfl (op_load 1 1 rfl rfl TI22 rfl (by decide)) <| av 1 3 rfl (mv rfl) <| av 2 7 rfl (op_lens Tryz.underlying9 rfl) <| av 3 15 rfl (op_load 0 1 rfl rfl TI3 rfl (by decide)) <|
       av 4 31 rfl (op_ari64 rfl rfl rfl) <| av 5 63 rfl (ag rfl) <| av 6 127 rfl (ag rfl) <| ad <| VN.meet0 [] [0] trivial
    intro _
    refine VC.ret <| ?_
    simp only [Option.some.injEq, Prod.mk.injEq] at h
    obtain ⟨rfl, rfl⟩ := h
    exact VR.mark 0 hDD4818 rfl rfl rfl <| rf [.tmp 2, .tmp 3] [0] (.tmp rfl (.tmp rfl .nil)) ⟨v4887, rfl, rfl, rfl⟩
  obtain rfl : b4977 = true := hb4977.symm.trans (bne_iff_ne.2 c4978)
  refine un rfl <| un rfl <| va (op_pick rfl rfl) <| vm rfl <| un rfl <| un rfl <| va (op_pick rfl rfl) <| vm rfl <| un rfl <| un rfl <| un rfl <| un rfl <| un rfl <| va (op_pick rfl rfl) <| dt <| ct <| VC.ret <| VR.then <| VR.block <| VR.then <| VR.block <| VR.endRF 0 rfl rfl rfl rfl <| VN.block <|
   th <| VC.join0 (⟨25, [(2, v4887), (3, iv (wrap64 ((a0.size : Int) - i4885)))], [.dfr D4818], [], [(v4887, 9, 1, l4888.map enc_str)]⟩) (True) ?_ ?_
  · exact dw ⟨0, [], [], [(g2232, 3, [iv i4885]), (g2231, 22, [v4887])], [(v4887, 9, 1, l4888.map enc_str)]⟩ 7 <| av 0 1 rfl (op_load 1 1 rfl rfl TI22 rfl (by decide)) <| av 1 3 rfl (mv rfl) <| av 2 7 rfl (op_lens Tryz.underlying9 rfl) <| av 3 15 rfl (op_load 0 1 rfl rfl TI3 rfl (by decide)) <|
     av 4 31 rfl (op_ari64 rfl rfl rfl) <| av 5 63 rfl (ag rfl) <| av 6 127 rfl (ag rfl) <| ad <| VN.meet0 [] [0] trivial
  intro _
  refine VC.ret <| ?_
  simp only [Option.some.injEq, Prod.mk.injEq] at h
  obtain ⟨rfl, rfl⟩ := h
  exact VR.mark 0 hDD4818 rfl rfl rfl <| rf [.tmp 2, .tmp 3] [0] (.tmp rfl (.tmp rfl .nil)) ⟨v4887, rfl, rfl, rfl⟩

theorem frame_All.ok (k : Nat) (a0 : ByteArray)  (r1 : List ByteArray) (r2 : Int) (h : frame_All.f k a0 = some (r1, r2)) :
    VCalls Tryz.prog 69 [.string a0] [] (fun v G own => ∃ w0 : Value, v = .tuple #[w0, iv r2] ∧ G = [] ∧ own = [(w0, 9, 1, r1.map enc_str)]) := by
  refine VCalls.intro Tryz.func69 rfl (len rfl) fun E hC hW hD hU => ?_
  unfold frame_All.f at h
  refine sr <| vs rfl <| vs rfl <| nx <| vm rfl <| ?_
  replace h := bd h
  obtain ⟨⟨r5012, t5013⟩, hA5014, h⟩ := h
  dsimp only at h
  refine sC (o_call0 FO89 (frame_Scan.ok k a0 r5012 t5013 hA5014) rfl rfl (ltn rfl) (All_of .nil)) <| ?_
  rintro _ _ _ ⟨v5016, rfl, rfl, rfl⟩
  refine vm rfl <| va (op_extract rfl rfl) <| va (op_extract rfl rfl) <| vs rfl <| vs rfl <| ds <| sr <| vm rfl <| vm rfl <| va (op_lens Tryz.underlying9 rfl) <| VL.letter (decide (t5013 < (a0.size : Int))) fun b5020 hb5020 => va (op_cmp rfl rfl (congrArg some hb5020)) <| dt <| ?_
  replace h := iC h
  rcases h with ⟨c5021, h⟩ | ⟨c5021, h⟩
  · cases lT c5021 hb5020
    refine ct <| sr <| vs rfl <| vs rfl <| dt <| VC.ret <| VR.then <| ?_
    simp only [Option.some.injEq, Prod.mk.injEq] at h
    obtain ⟨rfl, rfl⟩ := h
    exact VR.nilRow' 9 1 <| rf [.tmp 2, .tmp 3] [0] (.tmp rfl (.tmp rfl .nil)) ⟨sn, rfl, rfl, rfl⟩
  cases lF c5021 hb5020
  refine cf <| sk <| sr <| vm rfl <| vs rfl <| vs rfl <| dt <| VC.ret <| ?_
  simp only [Option.some.injEq, Prod.mk.injEq] at h
  obtain ⟨rfl, rfl⟩ := h
  exact rf [.tmp 2, .tmp 3] [0] (.tmp rfl (.tmp rfl .nil)) ⟨v5016, rfl, rfl, rfl⟩

end Go.Proofs.YtipeglbeongfmaaGreat.PJournalCrashes
