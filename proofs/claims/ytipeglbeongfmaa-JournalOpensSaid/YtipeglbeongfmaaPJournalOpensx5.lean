/- Written by a program of this repo: what the program's functions do, each as a Lean function, shown of the loaded code; or a statement's row over that; no condition of its own. -/
import Derived.Test.YtipeglbeongfmaaPJournalOpensx4
namespace Go.Proofs.Ytipeglbeongfmaa.PJournalOpens
open Go Go.RowKit Go.Proofs.YtipeglbeongfmaaV
set_option linter.unusedVariables false
set_option linter.unusedSimpArgs false
set_option maxHeartbeats 4000000
set_option maxRecDepth 100000

theorem frame_Scan.ok (k : Nat) (a0 : ByteArray)  (r1 : List ByteArray) (r2 : Int) (h : frame_Scan.f k a0 = some (r1, r2)) :
    VCalls Try.prog 56 [.string a0] [] (fun v G own => ∃ w0 : Value, v = .tuple #[w0, iv r2] ∧ G = [] ∧ own = [(w0, 9, 1, r1.map enc_str)]) := by
  refine VCalls.introM Try.func56 rfl (len rfl) fun E hC hW hD hU => ?_
  unfold frame_Scan.f at h
  refine sr <| vs rfl <| vs rfl <| nx <| sG (o_alloc Z22 ZL22) fun g2228 => nx <| vm rfl <| va (op_lens Try.underlying9 rfl) <| sG (o_alloc Z3 ZL3) fun g2229 => s1 (o_store 0 1 rfl rfl rfl TI3 (.c rfl) rfl (len rfl)) <| ds <| sr <| vm rfl <|
   VL.inl (vals := [.string a0]) (caps := []) Try.func76 FO76 rfl rfl rfl (len rfl) (ltn rfl) rfl <| sr <| sG (o_box rfl (.c rfl)) fun g4814 => vs rfl <| nx <| va (op_makeFunc (vals := [pt g4814 0]) rfl) <| vs rfl <| dt <| VC.ret <|
   VR.inl (rs := [.tmp 2]) ((.func (.func 87) #[] #[pt g4814 0])) rfl (.tmp rfl .nil) rfl <| dt <| VC.block <| VC.rangeFunc (ps := [12, 13]) (caps := [pt g4814 0]) Try.func87 FO87 rfl rfl (len rfl) fun D4815 l4816 L4817 hLl4816 hDD4815 => VC.block <|
   VC.nilRow' 9 1 <| VC.loop4 (fun (s4881 : ByteArray) (i4882 : Int) (v4884 : Value) (l4885 : List ByteArray) => ⟨55, [(0, (.func (.yield l4816) #[] #[])), (1, pt g4814 0)], [.loop l4816 L4817 .ready none, .dfr D4815], [(g4814, 9, [.string s4881]), (g2229, 3, [iv i4882]), (g2228, 22, [v4884])], [(v4884, 9, 1, l4885.map enc_str)]⟩) (fun (ml1 : Nat) (s4881 : ByteArray) (i4882 : Int) (v4884 : Value) (l4885 : List ByteArray) => frame_Scan.l1 k a0 ml1 s4881 i4882 l4885 = some (r1, r2)) k a0 (a0.size : Int) sn ([] : List ByteArray) [0, 1, 2] [0] h ⟨rfl, ⟨rfl, rfl, trivial⟩, ⟨⟨0, rfl⟩, ⟨1, rfl⟩, trivial⟩, rfl, by decide, rfl, by decide⟩ (by intros; simp [frame_Scan.l1]) <|
   ?_
  clear h
  intro ml1 ihl1 s4881 i4882 v4884 l4885 h
  simp only [frame_Scan.l1] at h
  refine VC.block <| sr <| va (op_load 0 1 rfl rfl TI9 rfl (by decide)) <| ?_
  replace h := bd h
  obtain ⟨⟨t4948, t4949, t4950⟩, hA4951, h⟩ := h
  dsimp only at h
  refine sC (o_call0 FO88 (pack_ReadNumber.ok k s4881 t4948 t4949 t4950 hA4951) rfl rfl (ltn rfl) (All_of .nil)) <| ?_
  rintro _ _ _ ⟨rfl, rfl, rfl⟩
  refine vm rfl <| va (op_extract rfl rfl) <| va (op_extract rfl rfl) <| va (op_extract rfl rfl) <| vs rfl <| vs rfl <| vs rfl <| ds <| sr <| vm rfl <| VL.letter ((t4950 != 0)) fun b4974 hb4974 => va (op_cmp rfl rfl (congrArg some hb4974)) <| vm rfl <| ?_
  replace h := iC h
  rcases h with ⟨c4975, h⟩ | ⟨c4975, h⟩
  · obtain rfl : b4974 = false := hb4974.symm.trans (bne_eq_false_iff_eq.2 c4975)
    refine vm rfl <| VL.letter (decide (t4948 < 0)) fun b4976 hb4976 => va (op_cmp rfl rfl (congrArg some hb4976)) <| va (op_pick rfl rfl) <| vm rfl <| ?_
    replace h := iC h
    rcases h with ⟨c4977, h⟩ | ⟨c4977, h⟩
    · cases lT c4977 hb4976
      refine un rfl <| un rfl <| va (op_pick rfl rfl) <| vm rfl <| un rfl <| un rfl <| un rfl <| un rfl <| un rfl <| va (op_pick rfl rfl) <| dt <| ct <| VC.ret <| VR.then <| VR.block <| VR.then <| VR.block <| VR.endRF 0 rfl rfl rfl rfl <| VN.block <| th <|
       VC.join0 (⟨25, [(2, v4884), (3, iv (wrap64 ((a0.size : Int) - i4882)))], [.dfr D4815], [], [(v4884, 9, 1, l4885.map enc_str)]⟩) (True) ?_ ?_
      · exact dw ⟨0, [], [], [(g2229, 3, [iv i4882]), (g2228, 22, [v4884])], [(v4884, 9, 1, l4885.map enc_str)]⟩ 7 <| av 0 1 rfl (op_load 1 1 rfl rfl TI22 rfl (by decide)) <| av 1 3 rfl (mv rfl) <| av 2 7 rfl (op_lens Try.underlying9 rfl) <| av 3 15 rfl (op_load 0 1 rfl rfl TI3 rfl (by decide)) <|
         av 4 31 rfl (op_ari64 rfl rfl rfl) <| av 5 63 rfl (ag rfl) <| av 6 127 rfl (ag rfl) <| ad <| VN.meet0 [] [0] trivial
      intro _
      refine VC.ret <| ?_
      simp only [Option.some.injEq, Prod.mk.injEq] at h
      obtain ⟨rfl, rfl⟩ := h
      exact VR.mark 0 hDD4815 rfl rfl rfl <| rf [.tmp 2, .tmp 3] [0] (.tmp rfl (.tmp rfl .nil)) ⟨v4884, rfl, rfl, rfl⟩
    cases lF c4977 hb4976
    refine vm rfl <| VL.letter (decide (t4948 > 4096)) fun b4978 hb4978 => va (op_cmp rfl rfl (congrArg some hb4978)) <| va (op_pick rfl rfl) <| vm rfl <| ?_
    replace h := iC h
    rcases h with ⟨c4979, h⟩ | ⟨c4979, h⟩
    · cases lT c4979 hb4978
      refine un rfl <| un rfl <| un rfl <| un rfl <| un rfl <| va (op_pick rfl rfl) <| dt <| ct <| VC.ret <| VR.then <| VR.block <| VR.then <| VR.block <| VR.endRF 0 rfl rfl rfl rfl <| VN.block <| th <|
       VC.join0 (⟨25, [(2, v4884), (3, iv (wrap64 ((a0.size : Int) - i4882)))], [.dfr D4815], [], [(v4884, 9, 1, l4885.map enc_str)]⟩) (True) ?_ ?_
      · exact dw ⟨0, [], [], [(g2229, 3, [iv i4882]), (g2228, 22, [v4884])], [(v4884, 9, 1, l4885.map enc_str)]⟩ 7 <| av 0 1 rfl (op_load 1 1 rfl rfl TI22 rfl (by decide)) <| av 1 3 rfl (mv rfl) <| av 2 7 rfl (op_lens Try.underlying9 rfl) <| av 3 15 rfl (op_load 0 1 rfl rfl TI3 rfl (by decide)) <|
         av 4 31 rfl (op_ari64 rfl rfl rfl) <| av 5 63 rfl (ag rfl) <| av 6 127 rfl (ag rfl) <| ad <| VN.meet0 [] [0] trivial
      intro _
      refine VC.ret <| ?_
      simp only [Option.some.injEq, Prod.mk.injEq] at h
      obtain ⟨rfl, rfl⟩ := h
      exact VR.mark 0 hDD4815 rfl rfl rfl <| rf [.tmp 2, .tmp 3] [0] (.tmp rfl (.tmp rfl .nil)) ⟨v4884, rfl, rfl, rfl⟩
    cases lF c4979 hb4978
    refine vm rfl <| va (op_ari64 rfl rfl rfl) <| vm rfl <| va (op_lens Try.underlying9 rfl) <| VL.letter (decide ((wrap64 (t4948 + 4)) > (t4949.size : Int))) fun b4980 hb4980 => va (op_cmp rfl rfl (congrArg some hb4980)) <| va (op_pick rfl rfl) <| dt <| ?_
    replace h := iC h
    rcases h with ⟨c4981, h⟩ | ⟨c4981, h⟩
    · cases lT c4981 hb4980
      refine ct <| VC.ret <| VR.then <| VR.block <| VR.then <| VR.block <| VR.endRF 0 rfl rfl rfl rfl <| VN.block <| th <| VC.join0 (⟨25, [(2, v4884), (3, iv (wrap64 ((a0.size : Int) - i4882)))], [.dfr D4815], [], [(v4884, 9, 1, l4885.map enc_str)]⟩) (True) ?_ ?_
      · exact dw ⟨0, [], [], [(g2229, 3, [iv i4882]), (g2228, 22, [v4884])], [(v4884, 9, 1, l4885.map enc_str)]⟩ 7 <| av 0 1 rfl (op_load 1 1 rfl rfl TI22 rfl (by decide)) <| av 1 3 rfl (mv rfl) <| av 2 7 rfl (op_lens Try.underlying9 rfl) <| av 3 15 rfl (op_load 0 1 rfl rfl TI3 rfl (by decide)) <|
         av 4 31 rfl (op_ari64 rfl rfl rfl) <| av 5 63 rfl (ag rfl) <| av 6 127 rfl (ag rfl) <| ad <| VN.meet0 [] [0] trivial
      intro _
      refine VC.ret <| ?_
      simp only [Option.some.injEq, Prod.mk.injEq] at h
      obtain ⟨rfl, rfl⟩ := h
      exact VR.mark 0 hDD4815 rfl rfl rfl <| rf [.tmp 2, .tmp 3] [0] (.tmp rfl (.tmp rfl .nil)) ⟨v4884, rfl, rfl, rfl⟩
    cases lF c4981 hb4980
    refine cf <| sk <| ?_
    replace h := iN h
    obtain ⟨c4982, h⟩ := h
    replace h := iN h
    obtain ⟨c4983, h⟩ := h
    replace h := iN h
    obtain ⟨c4984, h⟩ := h
    replace h := iN h
    obtain ⟨c4985, h⟩ := h
    replace h := iN h
    obtain ⟨c4986, h⟩ := h
    refine VC.join0 (⟨55, [(0, (.func (.yield l4816) #[] #[])), (1, pt g4814 0), (3, iv t4948), (4, .string t4949), (5, iv t4950), (6, .string (t4949.extract 0 t4948.toNat)), (7, .string (t4949.extract t4948.toNat ((wrap64 (t4948 + 4)).toNat))), (8, .tuple #[iv t4948, .string t4949, iv t4950]), (9, .string s4881), (10, .tuple #[iv t4948, .string t4949, iv t4950]), (11, iv t4948), (12, .string t4949), (13, iv t4950), (14, iv t4950), (15, .bool false), (16, .bool false), (17, iv t4948), (18, .bool false), (19, .bool false), (20, .bool false), (21, iv t4948), (22, .bool false), (23, .bool false), (24, .bool false), (25, iv t4948), (26, iv (wrap64 (t4948 + 4))), (27, .string t4949), (28, iv (t4949.size : Int)), (29, .bool false), (30, .bool false), (31, .string t4949), (32, iv t4948), (33, .string (t4949.extract 0 t4948.toNat)), (34, .string t4949), (35, iv t4948), (36, iv t4948), (37, iv (wrap64 (t4948 + 4))), (38, .string (t4949.extract t4948.toNat ((wrap64 (t4948 + 4)).toNat)))], [.loop l4816 L4817 .ready none, .dfr D4815], [(g4814, 9, [.string s4881]), (g2229, 3, [iv i4882]), (g2228, 22, [v4884])], [(v4884, 9, 1, l4885.map enc_str)]⟩) (True) ?_ ?_
    · exact dw ⟨0, [], [], [], []⟩ 10 <| av 0 1 rfl (mv rfl) <| av 1 3 rfl (mv rfl) <| av 2 7 rfl (op_sliceS 0 t4948.toNat Try.underlying9 rfl ⟨rfl, ⟨_, _, rfl, c4982, rfl⟩, Nat.zero_le _, tN (a := t4948) (b := (t4949.size : Int)) rfl rfl c4983⟩ rfl) <| av 3 15 rfl (mv rfl) <| av 4 31 rfl (mv rfl) <|
       av 5 63 rfl (mv rfl) <| av 6 127 rfl (op_ari64 rfl rfl rfl) <|
       av 7 255 rfl (op_sliceS t4948.toNat ((wrap64 (t4948 + 4)).toNat) Try.underlying9 rfl ⟨⟨_, _, rfl, c4982, rfl⟩, ⟨_, _, rfl, c4984, rfl⟩, tN (a := t4948) (b := (wrap64 (t4948 + 4))) rfl rfl c4986, tN (a := (wrap64 (t4948 + 4))) (b := (t4949.size : Int)) rfl rfl c4985⟩ rfl) <| av 8 511 rfl (ag rfl) <|
       av 9 1023 rfl (ag rfl) <| ad <| VN.meet0 [0, 1, 2] [0] trivial
    intro _
    refine sr <| vm rfl <| vm rfl <| va (op_ari64 rfl rfl rfl) <| va (op_sliceS ((wrap64 (t4948 + 4)).toNat) t4949.size Try.underlying9 rfl ⟨⟨_, _, rfl, c4984, rfl⟩, rfl, tN (a := (wrap64 (t4948 + 4))) (b := (t4949.size : Int)) rfl rfl c4985, Nat.le_refl _⟩ rfl) <|
     s1 (o_store 0 1 rfl rfl rfl TI9 (.c rfl) rfl (len rfl)) <| nx <| vm rfl <| vm rfl <| ?_
    replace h := bd h
    obtain ⟨t4998, hA4999, h⟩ := h
    refine sC (o_call0 FO90 (check_Of.ok k (t4949.extract 0 t4948.toNat) t4998 hA4999) rfl rfl (ltn rfl) (All_of .nil)) <| ?_
    rintro _ _ _ ⟨rfl, rfl, rfl⟩
    replace h := bd h
    obtain ⟨t5000, hA5001, h⟩ := h
    refine sC (o_call0 FO89 (check_Bytes.ok k t4998 t5000 hA5001) rfl rfl (ltn rfl) (All_of .nil)) <| ?_
    rintro _ _ _ ⟨rfl, rfl, rfl⟩
    refine VL.letter (((t4949.extract t4948.toNat ((wrap64 (t4948 + 4)).toNat)) != t5000)) fun b5002 hb5002 => va (op_cmps rfl rfl (congrArg some hb5002)) <| vm rfl <| ?_
    replace h := iC h
    rcases h with ⟨c5003, h⟩ | ⟨c5003, h⟩
    · obtain rfl : b5002 = false := hb5002.symm.trans (bne_of_t c5003)
      refine vm rfl <| vm rfl <| va (op_load 0 1 rfl rfl TI9 rfl (by decide)) <| VL.yield (vals := [.string (t4949.extract 0 t4948.toNat), .string (t4949.extract ((wrap64 (t4948 + 4)).toNat) t4949.size)]) hLl4816 rfl rfl rfl rfl (ltn rfl) 0 rfl rfl <| sr <| vs rfl <| dr <| vs rfl <| dn <|
       VN.begin 0 hLl4816.base rfl rfl rfl <| VC.block <| rg <| va (op_load 2 1 rfl rfl TI22 rfl (by decide)) <| vm rfl <|
       sG (o_buildSlice (vals := [(0, .string (t4949.extract 0 t4948.toNat))]) (cells := #[.string (t4949.extract 0 t4948.toNat)]) (es := List.map enc_str ([t4949.extract 0 t4948.toNat] : List ByteArray)) Try.underlying22 TI9 Z9 rfl (by decide) (by decide) (by kernel_rfl) (by kernel_rfl) rfl (flat_map enc_str_ok _)) fun v5005 => ?_
      replace h := iN h
      obtain ⟨c5006, h⟩ := h
      refine sG (o_append 1 appm Try.underlying22 EI9 rfl rfl rfl (.inr ⟨0, _, rfl⟩) (bndm c5006)) fun v5007 => vm rfl <| va (op_lens Try.underlying9 rfl) <| s1 (o_store 2 1 rfl rfl rfl TI22 (.r 1 rfl) rfl (len rfl)) <| s1 (o_store 1 1 rfl rfl rfl TI3 (.c rfl) rfl (len rfl)) <| dn <| VN.block <|
       VN.endRound 0 hLl4816.base rfl rfl rfl <| va (op_not rfl rfl) <| va (op_pick rfl rfl) <| dt <| cf <| VC.skip <| VN.block <|
       VN.again [0, 1, 2] [1] (ihl1 (t4949.extract ((wrap64 (t4948 + 4)).toNat) t4949.size) ((t4949.extract ((wrap64 (t4948 + 4)).toNat) t4949.size).size : Int) v5007 (l4885 ++ ([t4949.extract 0 t4948.toNat] : List ByteArray)) h)
    obtain rfl : b5002 = true := hb5002.symm.trans (bne_of_f c5003)
    refine un rfl <| un rfl <| un rfl <| un rfl <| un rfl <| va (op_pick rfl rfl) <| dt <| ct <| VC.ret <| VR.block <| VR.then <| VR.block <| VR.endRF 0 rfl rfl rfl rfl <| VN.block <| th <|
     VC.join0 (⟨25, [(2, v4884), (3, iv (wrap64 ((a0.size : Int) - i4882)))], [.dfr D4815], [], [(v4884, 9, 1, l4885.map enc_str)]⟩) (True) ?_ ?_
    · exact dw ⟨0, [], [], [(g2229, 3, [iv i4882]), (g2228, 22, [v4884])], [(v4884, 9, 1, l4885.map enc_str)]⟩ 7 <| av 0 1 rfl (op_load 1 1 rfl rfl TI22 rfl (by decide)) <| av 1 3 rfl (mv rfl) <| av 2 7 rfl (op_lens Try.underlying9 rfl) <| av 3 15 rfl (op_load 0 1 rfl rfl TI3 rfl (by decide)) <|
       av 4 31 rfl (op_ari64 rfl rfl rfl) <| av 5 63 rfl (ag rfl) <| av 6 127 rfl (ag rfl) <| ad <| VN.meet0 [] [0] trivial
    intro _
    refine VC.ret <| ?_
    simp only [Option.some.injEq, Prod.mk.injEq] at h
    obtain ⟨rfl, rfl⟩ := h
    exact VR.mark 0 hDD4815 rfl rfl rfl <| rf [.tmp 2, .tmp 3] [0] (.tmp rfl (.tmp rfl .nil)) ⟨v4884, rfl, rfl, rfl⟩
  obtain rfl : b4974 = true := hb4974.symm.trans (bne_iff_ne.2 c4975)
  refine un rfl <| un rfl <| va (op_pick rfl rfl) <| vm rfl <| un rfl <| un rfl <| va (op_pick rfl rfl) <| vm rfl <| un rfl <| un rfl <| un rfl <| un rfl <| un rfl <| va (op_pick rfl rfl) <| dt <| ct <| VC.ret <| VR.then <| VR.block <| VR.then <| VR.block <| VR.endRF 0 rfl rfl rfl rfl <| VN.block <|
   th <| VC.join0 (⟨25, [(2, v4884), (3, iv (wrap64 ((a0.size : Int) - i4882)))], [.dfr D4815], [], [(v4884, 9, 1, l4885.map enc_str)]⟩) (True) ?_ ?_
  · exact dw ⟨0, [], [], [(g2229, 3, [iv i4882]), (g2228, 22, [v4884])], [(v4884, 9, 1, l4885.map enc_str)]⟩ 7 <| av 0 1 rfl (op_load 1 1 rfl rfl TI22 rfl (by decide)) <| av 1 3 rfl (mv rfl) <| av 2 7 rfl (op_lens Try.underlying9 rfl) <| av 3 15 rfl (op_load 0 1 rfl rfl TI3 rfl (by decide)) <|
     av 4 31 rfl (op_ari64 rfl rfl rfl) <| av 5 63 rfl (ag rfl) <| av 6 127 rfl (ag rfl) <| ad <| VN.meet0 [] [0] trivial
  intro _
  refine VC.ret <| ?_
  simp only [Option.some.injEq, Prod.mk.injEq] at h
  obtain ⟨rfl, rfl⟩ := h
  exact VR.mark 0 hDD4815 rfl rfl rfl <| rf [.tmp 2, .tmp 3] [0] (.tmp rfl (.tmp rfl .nil)) ⟨v4884, rfl, rfl, rfl⟩

theorem frame_All.ok (k : Nat) (a0 : ByteArray)  (r1 : List ByteArray) (r2 : Int) (h : frame_All.f k a0 = some (r1, r2)) :
    VCalls Try.prog 26 [.string a0] [] (fun v G own => ∃ w0 : Value, v = .tuple #[w0, iv r2] ∧ G = [] ∧ own = [(w0, 9, 1, r1.map enc_str)]) := by
  refine VCalls.intro Try.func26 rfl (len rfl) fun E hC hW hD hU => ?_
  unfold frame_All.f at h
  refine sr <| vs rfl <| vs rfl <| nx <| vm rfl <| ?_
  replace h := bd h
  obtain ⟨⟨r5009, t5010⟩, hA5011, h⟩ := h
  dsimp only at h
  refine sC (o_call0 FO56 (frame_Scan.ok k a0 r5009 t5010 hA5011) rfl rfl (ltn rfl) (All_of .nil)) <| ?_
  rintro _ _ _ ⟨v5013, rfl, rfl, rfl⟩
  refine vm rfl <| va (op_extract rfl rfl) <| va (op_extract rfl rfl) <| vs rfl <| vs rfl <| ds <| sr <| vm rfl <| vm rfl <| va (op_lens Try.underlying9 rfl) <| VL.letter (decide (t5010 < (a0.size : Int))) fun b5017 hb5017 => va (op_cmp rfl rfl (congrArg some hb5017)) <| dt <| ?_
  replace h := iC h
  rcases h with ⟨c5018, h⟩ | ⟨c5018, h⟩
  · cases lT c5018 hb5017
    refine ct <| sr <| vs rfl <| vs rfl <| dt <| VC.ret <| VR.then <| ?_
    simp only [Option.some.injEq, Prod.mk.injEq] at h
    obtain ⟨rfl, rfl⟩ := h
    exact VR.nilRow' 9 1 <| rf [.tmp 2, .tmp 3] [0] (.tmp rfl (.tmp rfl .nil)) ⟨sn, rfl, rfl, rfl⟩
  cases lF c5018 hb5017
  refine cf <| sk <| sr <| vm rfl <| vs rfl <| vs rfl <| dt <| VC.ret <| ?_
  simp only [Option.some.injEq, Prod.mk.injEq] at h
  obtain ⟨rfl, rfl⟩ := h
  exact rf [.tmp 2, .tmp 3] [0] (.tmp rfl (.tmp rfl .nil)) ⟨v5013, rfl, rfl, rfl⟩

end Go.Proofs.Ytipeglbeongfmaa.PJournalOpens
