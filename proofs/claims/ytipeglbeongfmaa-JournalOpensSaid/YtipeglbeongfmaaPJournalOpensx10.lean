/- Written by a program of this repo: what the program's functions do, each as a Lean function, shown of the loaded code; or a statement's row over that; no condition of its own. -/
import Derived.Test.YtipeglbeongfmaaPJournalOpensx9
namespace Go.Proofs.Ytipeglbeongfmaa.PJournalOpens
open Go Go.RowKit Go.Proofs.YtipeglbeongfmaaV
set_option linter.unusedVariables false
set_option linter.unusedSimpArgs false
set_option maxHeartbeats 4000000
set_option maxRecDepth 100000

theorem tarryref04_Scan.ok (k : Nat) (a0 : ByteArray)  (r1 : List ByteArray) (h : tarryref04_Scan.f k a0 = some r1) :
    VCalls Try.prog 31 [.string a0] [] (fun v G own => ∃ w0 : Value, v = w0 ∧ G = [] ∧ own = [(w0, 9, 1, r1.map enc_str)]) := by
  refine VCalls.intro Try.func31 rfl (len rfl) fun E hC hW hD hU => ?_
  unfold tarryref04_Scan.f at h
  refine sr <| vs rfl <| nx <| sG (o_buildSlice (vals := []) (cells := #[]) (es := List.map enc_str ([] : List ByteArray)) Try.underlying22 TI9 Z9 rfl (by decide) (by decide) (by kernel_rfl) (by kernel_rfl) rfl (flat_map enc_str_ok _)) fun v7689 => vs rfl <| ds <| VC.block <|
   VC.loop3 (fun (s24268 : ByteArray) (v24270 : Value) (l24271 : List ByteArray) => ⟨64, [(0, .string s24268), (2, sn), (3, v24270)], [], [], [(v24270, 9, 1, l24271.map enc_str)]⟩) (fun (ml1 : Nat) (s24268 : ByteArray) (v24270 : Value) (l24271 : List ByteArray) => tarryref04_Scan.l1 k ml1 s24268 l24271 = some r1) k a0 v7689 ([] : List ByteArray) [] [0] h ⟨rfl, ⟨rfl, rfl, rfl, trivial⟩, trivial, rfl, by decide, rfl, by decide⟩ (by intros; simp [tarryref04_Scan.l1]) <|
   ?_
  clear h
  intro ml1 ihl1 s24268 v24270 l24271 h
  simp only [tarryref04_Scan.l1] at h
  refine sq <| sr <| vm rfl <| va (op_lens Try.underlying9 rfl) <| VL.letter (decide ((s24268.size : Int) > 0)) fun b24338 hb24338 => va (op_cmp rfl rfl (congrArg some hb24338)) <| dt <| ?_
  replace h := iC h
  rcases h with ⟨c24339, h⟩ | ⟨c24339, h⟩
  · cases lT c24339 hb24338
    refine ct <| sk <| VC.block <| sr <| vm rfl <| ?_
    replace h := bd h
    obtain ⟨⟨t24340, t24341, t24342⟩, hA24343, h⟩ := h
    dsimp only at h
    refine sC (o_call0 FO63 (tarryref01_ReadNumber.ok k s24268 t24340 t24341 t24342 hA24343) rfl rfl (ltn rfl) (All_of .nil)) <| ?_
    rintro _ _ _ ⟨rfl, rfl, rfl⟩
    refine sG (o_alloc Z105 ZL105) fun g24344 => s1 (o_store 0 3 rfl rfl rfl TI105 (.agg (.of rfl)) rfl (len rfl)) <| ds <| sr <| va (op_fieldAddr FI105_2 rfl (add_at _ _ _)) <| va (op_load 0 1 rfl rfl TI30 rfl (by decide)) <|
     VL.letter ((t24342 != 0)) fun b24367 hb24367 => va (op_cmp rfl rfl (congrArg some hb24367)) <| vm rfl <| ?_
    replace h := iC h
    rcases h with ⟨c24368, h⟩ | ⟨c24368, h⟩
    · obtain rfl : b24367 = false := hb24367.symm.trans (bne_eq_false_iff_eq.2 c24368)
      refine va (op_fieldAddr FI105_0 rfl (add_at _ _ _)) <| va (op_load 0 1 rfl rfl TI3 rfl (by decide)) <| VL.letter (decide (t24340 < 0)) fun b24369 hb24369 => va (op_cmp rfl rfl (congrArg some hb24369)) <| va (op_pick rfl rfl) <| vm rfl <| ?_
      replace h := iC h
      rcases h with ⟨c24370, h⟩ | ⟨c24370, h⟩
      · cases lT c24370 hb24369
        refine un rfl <| un rfl <| un rfl <| va (op_pick rfl rfl) <| vm rfl <| un rfl <| un rfl <| un rfl <| un rfl <| un rfl <| un rfl <| un rfl <| va (op_pick rfl rfl) <| dt <| ct <| sr <| vm rfl <| vs rfl <| dt <| VC.ret <| VR.then <| VR.block <| VR.then <| VR.block <| VR.then <| ?_
        obtain rfl := Option.some.inj h
        exact rf [.tmp 2] [0] (.tmp rfl .nil) ⟨v24270, rfl, rfl, rfl⟩
      cases lF c24370 hb24369
      refine va (op_fieldAddr FI105_0 rfl (add_at _ _ _)) <| va (op_load 0 1 rfl rfl TI3 rfl (by decide)) <| VL.letter (decide (t24340 > 4096)) fun b24371 hb24371 => va (op_cmp rfl rfl (congrArg some hb24371)) <| va (op_pick rfl rfl) <| vm rfl <| ?_
      replace h := iC h
      rcases h with ⟨c24372, h⟩ | ⟨c24372, h⟩
      · cases lT c24372 hb24371
        refine un rfl <| un rfl <| un rfl <| un rfl <| un rfl <| un rfl <| un rfl <| va (op_pick rfl rfl) <| dt <| ct <| sr <| vm rfl <| vs rfl <| dt <| VC.ret <| VR.then <| VR.block <| VR.then <| VR.block <| VR.then <| ?_
        obtain rfl := Option.some.inj h
        exact rf [.tmp 2] [0] (.tmp rfl .nil) ⟨v24270, rfl, rfl, rfl⟩
      cases lF c24372 hb24371
      refine va (op_fieldAddr FI105_0 rfl (add_at _ _ _)) <| va (op_load 0 1 rfl rfl TI3 rfl (by decide)) <| va (op_ari64 rfl rfl rfl) <| va (op_fieldAddr FI105_1 rfl (add_at _ _ _)) <| va (op_load 0 1 rfl rfl TI9 rfl (by decide)) <| va (op_lens Try.underlying9 rfl) <|
       VL.letter (decide ((wrap64 (t24340 + 4)) > (t24341.size : Int))) fun b24373 hb24373 => va (op_cmp rfl rfl (congrArg some hb24373)) <| va (op_pick rfl rfl) <| dt <| ?_
      replace h := iC h
      rcases h with ⟨c24374, h⟩ | ⟨c24374, h⟩
      · cases lT c24374 hb24373
        refine ct <| sr <| vm rfl <| vs rfl <| dt <| VC.ret <| VR.then <| VR.block <| VR.then <| VR.block <| VR.then <| ?_
        obtain rfl := Option.some.inj h
        exact rf [.tmp 2] [0] (.tmp rfl .nil) ⟨v24270, rfl, rfl, rfl⟩
      cases lF c24374 hb24373
      refine cf <| sk <| sr <| va (op_fieldAddr FI105_1 rfl (add_at _ _ _)) <| va (op_load 0 1 rfl rfl TI9 rfl (by decide)) <| va (op_fieldAddr FI105_0 rfl (add_at _ _ _)) <| va (op_load 0 1 rfl rfl TI3 rfl (by decide)) <| ?_
      replace h := iN h
      obtain ⟨c24375, h⟩ := h
      replace h := iN h
      obtain ⟨c24376, h⟩ := h
      refine va (op_sliceS 0 t24340.toNat Try.underlying9 rfl ⟨rfl, ⟨_, _, rfl, c24375, rfl⟩, Nat.zero_le _, tN (a := t24340) (b := (t24341.size : Int)) rfl rfl c24376⟩ rfl) <| vs rfl <| ds <| ?_
      replace h := iN h
      obtain ⟨c24386, h⟩ := h
      replace h := iN h
      obtain ⟨c24387, h⟩ := h
      replace h := iN h
      obtain ⟨c24388, h⟩ := h
      replace h := bd h
      obtain ⟨t24389, hA24390, h⟩ := h
      replace h := bd h
      obtain ⟨t24391, hA24392, h⟩ := h
      refine VC.letter (((t24341.extract t24340.toNat ((wrap64 (t24340 + 4)).toNat)) != t24391)) fun b24393 hb24393 => VC.join0 (⟨64, [(0, .string s24268), (2, sn), (3, v24270), (4, pt g24344 0), (5, .string (t24341.extract 0 t24340.toNat)), (7, .string s24268), (8, iv (s24268.size : Int)), (9, .bool true), (10, .string s24268), (11, .agg #[iv t24340, .string t24341, iv t24342]), (12, pt g24344 2), (13, iv t24342), (14, .bool false), (15, .bool false), (16, pt g24344 0), (17, iv t24340), (18, .bool false), (19, .bool false), (20, .bool false), (21, pt g24344 0), (22, iv t24340), (23, .bool false), (24, .bool false), (25, .bool false), (26, pt g24344 0), (27, iv t24340), (28, iv (wrap64 (t24340 + 4))), (29, pt g24344 1), (30, .string t24341), (31, iv (t24341.size : Int)), (32, .bool false), (33, .bool false), (35, pt g24344 1), (36, .string t24341), (37, pt g24344 0), (38, iv t24340), (39, .string (t24341.extract 0 t24340.toNat)), (40, pt g24344 1), (41, .string t24341), (42, pt g24344 0), (43, iv t24340), (44, pt g24344 0), (45, iv t24340), (46, iv (wrap64 (t24340 + 4))), (47, .string (t24341.extract t24340.toNat ((wrap64 (t24340 + 4)).toNat))), (48, .string (t24341.extract 0 t24340.toNat)), (49, .int .u32 t24389), (50, .string t24391), (51, .bool b24393)], [], [(g24344, 105, [iv t24340, .string t24341, iv t24342])], [(v24270, 9, 1, l24271.map enc_str)]⟩) (True) ?_ ?_
      · refine dw ⟨0, [], [], [(g24344, 105, [iv t24340, .string t24341, iv t24342])], []⟩ 12 <| av 0 1 rfl (op_fieldAddr FI105_1 rfl (add_at _ _ _)) <| av 1 3 rfl (op_load 0 1 rfl rfl TI9 rfl (by decide)) <| av 2 7 rfl (op_fieldAddr FI105_0 rfl (add_at _ _ _)) <|
         av 3 15 rfl (op_load 0 1 rfl rfl TI3 rfl (by decide)) <| av 4 31 rfl (op_fieldAddr FI105_0 rfl (add_at _ _ _)) <| av 5 63 rfl (op_load 0 1 rfl rfl TI3 rfl (by decide)) <| av 6 127 rfl (op_ari64 rfl rfl rfl) <|
         av 7 255 rfl (op_sliceS t24340.toNat ((wrap64 (t24340 + 4)).toNat) Try.underlying9 rfl ⟨⟨_, _, rfl, c24375, rfl⟩, ⟨_, _, rfl, c24386, rfl⟩, tN (a := t24340) (b := (wrap64 (t24340 + 4))) rfl rfl c24388, tN (a := (wrap64 (t24340 + 4))) (b := (t24341.size : Int)) rfl rfl c24387⟩ rfl) <|
         av 8 511 rfl (mv rfl) <| aC 9 1023 rfl (o_call0 FO65 (tarryref02_Of.ok k (t24341.extract 0 t24340.toNat) t24389 hA24390) rfl rfl (ltn rfl) (All_of .nil)) <| ?_
        rintro _ _ _ ⟨rfl, rfl, rfl⟩
        refine ⟨⟨trivial, ⟨⟨0, rfl⟩, trivial⟩, trivial⟩, ?_⟩
        refine aC 10 2047 rfl (o_call0 FO64 (tarryref02_Bytes.ok k t24389 t24391 hA24392) rfl rfl (ltn rfl) (All_of .nil)) <| ?_
        rintro _ _ _ ⟨rfl, rfl, rfl⟩
        refine ⟨⟨trivial, ⟨⟨0, rfl⟩, trivial⟩, trivial⟩, ?_⟩
        exact av 11 4095 rfl (op_cmps rfl rfl (congrArg some hb24393)) <| ad <| VN.meet0 [0] [0] trivial
      intro _
      replace h := iC h
      rcases h with ⟨c24394, h⟩ | ⟨c24394, h⟩
      · obtain rfl : b24393 = false := hb24393.symm.trans (bne_of_t c24394)
        refine cf <| sk <| sr <| vm rfl <| vm rfl <|
         sG (o_buildSlice (vals := [(0, .string (t24341.extract 0 t24340.toNat))]) (cells := #[.string (t24341.extract 0 t24340.toNat)]) (es := List.map enc_str ([t24341.extract 0 t24340.toNat] : List ByteArray)) Try.underlying22 TI9 Z9 rfl (by decide) (by decide) (by kernel_rfl) (by kernel_rfl) rfl (flat_map enc_str_ok _)) fun v24396 => ?_
        replace h := iN h
        obtain ⟨c24397, h⟩ := h
        refine sG (o_append 1 appm Try.underlying22 EI9 rfl rfl rfl (.inr ⟨0, _, rfl⟩) (bndm c24397)) fun v24398 => vs rfl <| dr <| va (op_fieldAddr FI105_1 rfl (add_at _ _ _)) <| va (op_load 0 1 rfl rfl TI9 rfl (by decide)) <| va (op_fieldAddr FI105_0 rfl (add_at _ _ _)) <|
         va (op_load 0 1 rfl rfl TI3 rfl (by decide)) <| va (op_ari64 rfl rfl rfl) <| va (op_sliceS ((wrap64 (t24340 + 4)).toNat) t24341.size Try.underlying9 rfl ⟨⟨_, _, rfl, c24386, rfl⟩, rfl, tN (a := (wrap64 (t24340 + 4))) (b := (t24341.size : Int)) rfl rfl c24387, Nat.le_refl _⟩ rfl) <| vs rfl <| dn <|
         VN.block <| VN.again [] [1] (ihl1 (t24341.extract ((wrap64 (t24340 + 4)).toNat) t24341.size) v24398 (l24271 ++ ([t24341.extract 0 t24340.toNat] : List ByteArray)) h)
      obtain rfl : b24393 = true := hb24393.symm.trans (bne_of_f c24394)
      refine ct <| sr <| vm rfl <| vs rfl <| dt <| VC.ret <| VR.then <| VR.block <| VR.then <| VR.block <| VR.then <| ?_
      obtain rfl := Option.some.inj h
      exact rf [.tmp 2] [0] (.tmp rfl .nil) ⟨v24270, rfl, rfl, rfl⟩
    obtain rfl : b24367 = true := hb24367.symm.trans (bne_iff_ne.2 c24368)
    refine un rfl <| un rfl <| un rfl <| va (op_pick rfl rfl) <| vm rfl <| un rfl <| un rfl <| un rfl <| va (op_pick rfl rfl) <| vm rfl <| un rfl <| un rfl <| un rfl <| un rfl <| un rfl <| un rfl <| un rfl <| va (op_pick rfl rfl) <| dt <| ct <| sr <| vm rfl <| vs rfl <| dt <| VC.ret <| VR.then <|
     VR.block <| VR.then <| VR.block <| VR.then <| ?_
    obtain rfl := Option.some.inj h
    exact rf [.tmp 2] [0] (.tmp rfl .nil) ⟨v24270, rfl, rfl, rfl⟩
  cases lF c24339 hb24338
  refine cf <| VC.exit <| VX.then <| VX.then <| VX.hit <| tx <| vm rfl <| vs rfl <| dt <| VC.ret <| ?_
  obtain rfl := Option.some.inj h
  exact rf [.tmp 2] [0] (.tmp rfl .nil) ⟨v24270, rfl, rfl, rfl⟩

theorem tarryref01_Number.ok (k : Nat) (a0 : Int)  (r1 : ByteArray) (h : tarryref01_Number.f k a0 = some r1) :
    VCalls Try.prog 81 [iv a0] [] (fun v G own => v = .string r1 ∧ G = [] ∧ own = []) := by
  refine VCalls.intro Try.func81 rfl (len rfl) fun E hC hW hD hU => ?_
  unfold tarryref01_Number.f at h
  refine sr <| vs rfl <| nx <| vs rfl <| ds <| sr <| vm rfl <| VL.letter (decide (a0 ≥ 0)) fun b24413 hb24413 => va (op_cmp rfl rfl (congrArg some hb24413)) <| dt <| ?_
  replace h := iC h
  rcases h with ⟨c24414, h⟩ | ⟨c24414, h⟩
  · cases lT c24414 hb24413
    refine ct <| rg <| vm rfl <| va (op_ari64 rfl rfl rfl) <| vs rfl <| nx <|
     sG (o_buildSlice (vals := []) (cells := #[]) (es := List.map enc_intu8 ([] : List Int)) Try.underlying41 TI5 Z5 rfl (by decide) (by decide) (by kernel_rfl) (by kernel_rfl) rfl (flat_map enc_intu8_ok _)) fun v24416 => vs rfl <| ds <| VC.block <|
     VC.loop3 (fun (i24457 : Int) (v24459 : Value) (l24460 : List Int) => ⟨32, [(2, .string (⟨#[]⟩ : ByteArray)), (3, iv i24457), (4, v24459)], [], [], [(v24459, 5, 1, l24460.map enc_intu8)]⟩) (fun (ml1 : Nat) (i24457 : Int) (v24459 : Value) (l24460 : List Int) => tarryref01_Number.l1 k ml1 i24457 l24460 = some r1) k (wrap64 (2 * a0)) v24416 ([] : List Int) [] [0] h ⟨rfl, ⟨rfl, rfl, rfl, trivial⟩, trivial, rfl, by decide, rfl, by decide⟩ (by intros; simp [tarryref01_Number.l1]) <|
     ?_
    clear h
    intro ml1 ihl1 i24457 v24459 l24460 h
    simp only [tarryref01_Number.l1] at h
    refine sq <| sr <| vm rfl <| VL.letter (decide (i24457 > 127)) fun b24477 hb24477 => va (op_cmp rfl rfl (congrArg some hb24477)) <| dt <| ?_
    replace h := iC h
    rcases h with ⟨c24478, h⟩ | ⟨c24478, h⟩
    · cases lT c24478 hb24477
      refine ct <| sk <| VC.block <| sr <| vm rfl <| vm rfl <| va (op_rem rfl rfl (by decide) rfl) <| va (op_ari64 rfl rfl rfl) <| va (op_conv Try.underlying3 Try.underlying5 rfl rfl) <|
       sG (o_buildSlice (vals := [(0, .int .u8 (IntKind.u8.wrap (wrap64 (128 + (i24457.tmod 128)))))]) (cells := #[.int .u8 (IntKind.u8.wrap (wrap64 (128 + (i24457.tmod 128))))]) (es := List.map enc_intu8 ([IntKind.u8.wrap (wrap64 (128 + (i24457.tmod 128)))] : List Int)) Try.underlying41 TI5 Z5 rfl (by decide) (by decide) (by kernel_rfl) (by kernel_rfl) rfl (flat_map enc_intu8_ok _)) fun v24480 => ?_
      replace h := iN h
      obtain ⟨c24481, h⟩ := h
      refine sG (o_append 1 appm Try.underlying41 EI5 rfl rfl rfl (.inr ⟨0, _, rfl⟩) (bndm c24481)) fun v24482 => vs rfl <| dr <| vm rfl <| va (op_quo rfl rfl (by decide) rfl) <| vs rfl <| dn <| VN.block <|
       VN.again [] [1] (ihl1 (IntKind.i64.wrap (i24457.tdiv 128)) v24482 (l24460 ++ ([IntKind.u8.wrap (wrap64 (128 + (i24457.tmod 128)))] : List Int)) h)
    cases lF c24478 hb24477
    refine cf <| VC.exit <| VX.then <| VX.then <| VX.hit <| tx <| vm rfl <| vm rfl <| va (op_conv Try.underlying3 Try.underlying5 rfl rfl) <|
     sG (o_buildSlice (vals := [(0, .int .u8 (IntKind.u8.wrap i24457))]) (cells := #[.int .u8 (IntKind.u8.wrap i24457)]) (es := List.map enc_intu8 ([IntKind.u8.wrap i24457] : List Int)) Try.underlying41 TI5 Z5 rfl (by decide) (by decide) (by kernel_rfl) (by kernel_rfl) rfl (flat_map enc_intu8_ok _)) fun v24485 => ?_
    replace h := iN h
    obtain ⟨c24486, h⟩ := h
    refine sG (o_append 1 appm Try.underlying41 EI5 rfl rfl rfl (.inr ⟨0, _, rfl⟩) (bndm c24486)) fun v24487 => vs rfl <| nx <| vm rfl <| va (op_bytesStr_own (xs := (l24460 ++ ([IntKind.u8.wrap i24457] : List Int))) 1 rfl rfl Try.underlying41 Try.underlying9 Try.underlying5 rfl rfl) <| vs rfl <| dt <|
     VC.ret <| ?_
    obtain rfl := Option.some.inj h
    exact rq 2 rfl ⟨rfl, rfl, rfl⟩
  cases lF c24414 hb24413
  refine cf <| rg <| vm rfl <| va (op_ari64 rfl rfl rfl) <| va (op_ari64 rfl rfl rfl) <| va (op_ari64 rfl rfl rfl) <| vs rfl <| nx <|
   sG (o_buildSlice (vals := []) (cells := #[]) (es := List.map enc_intu8 ([] : List Int)) Try.underlying41 TI5 Z5 rfl (by decide) (by decide) (by kernel_rfl) (by kernel_rfl) rfl (flat_map enc_intu8_ok _)) fun v24490 => vs rfl <| ds <| VC.block <|
   VC.loop3 (fun (i24531 : Int) (v24533 : Value) (l24534 : List Int) => ⟨32, [(2, .string (⟨#[]⟩ : ByteArray)), (3, iv i24531), (4, v24533)], [], [], [(v24533, 5, 1, l24534.map enc_intu8)]⟩) (fun (ml3 : Nat) (i24531 : Int) (v24533 : Value) (l24534 : List Int) => tarryref01_Number.l3 k ml3 i24531 l24534 = some r1) k (wrap64 ((wrap64 (2 * (wrap64 (0 - a0)))) - 1)) v24490 ([] : List Int) [] [0] h ⟨rfl, ⟨rfl, rfl, rfl, trivial⟩, trivial, rfl, by decide, rfl, by decide⟩ (by intros; simp [tarryref01_Number.l3]) <|
   ?_
  clear h
  intro ml3 ihl3 i24531 v24533 l24534 h
  simp only [tarryref01_Number.l3] at h
  refine sq <| sr <| vm rfl <| VL.letter (decide (i24531 > 127)) fun b24551 hb24551 => va (op_cmp rfl rfl (congrArg some hb24551)) <| dt <| ?_
  replace h := iC h
  rcases h with ⟨c24552, h⟩ | ⟨c24552, h⟩
  · cases lT c24552 hb24551
    refine ct <| sk <| VC.block <| sr <| vm rfl <| vm rfl <| va (op_rem rfl rfl (by decide) rfl) <| va (op_ari64 rfl rfl rfl) <| va (op_conv Try.underlying3 Try.underlying5 rfl rfl) <|
     sG (o_buildSlice (vals := [(0, .int .u8 (IntKind.u8.wrap (wrap64 (128 + (i24531.tmod 128)))))]) (cells := #[.int .u8 (IntKind.u8.wrap (wrap64 (128 + (i24531.tmod 128))))]) (es := List.map enc_intu8 ([IntKind.u8.wrap (wrap64 (128 + (i24531.tmod 128)))] : List Int)) Try.underlying41 TI5 Z5 rfl (by decide) (by decide) (by kernel_rfl) (by kernel_rfl) rfl (flat_map enc_intu8_ok _)) fun v24554 => ?_
    replace h := iN h
    obtain ⟨c24555, h⟩ := h
    refine sG (o_append 1 appm Try.underlying41 EI5 rfl rfl rfl (.inr ⟨0, _, rfl⟩) (bndm c24555)) fun v24556 => vs rfl <| dr <| vm rfl <| va (op_quo rfl rfl (by decide) rfl) <| vs rfl <| dn <| VN.block <|
     VN.again [] [1] (ihl3 (IntKind.i64.wrap (i24531.tdiv 128)) v24556 (l24534 ++ ([IntKind.u8.wrap (wrap64 (128 + (i24531.tmod 128)))] : List Int)) h)
  cases lF c24552 hb24551
  refine cf <| VC.exit <| VX.then <| VX.then <| VX.hit <| tx <| vm rfl <| vm rfl <| va (op_conv Try.underlying3 Try.underlying5 rfl rfl) <|
   sG (o_buildSlice (vals := [(0, .int .u8 (IntKind.u8.wrap i24531))]) (cells := #[.int .u8 (IntKind.u8.wrap i24531)]) (es := List.map enc_intu8 ([IntKind.u8.wrap i24531] : List Int)) Try.underlying41 TI5 Z5 rfl (by decide) (by decide) (by kernel_rfl) (by kernel_rfl) rfl (flat_map enc_intu8_ok _)) fun v24559 => ?_
  replace h := iN h
  obtain ⟨c24560, h⟩ := h
  refine sG (o_append 1 appm Try.underlying41 EI5 rfl rfl rfl (.inr ⟨0, _, rfl⟩) (bndm c24560)) fun v24561 => vs rfl <| nx <| vm rfl <| va (op_bytesStr_own (xs := (l24534 ++ ([IntKind.u8.wrap i24531] : List Int))) 1 rfl rfl Try.underlying41 Try.underlying9 Try.underlying5 rfl rfl) <| vs rfl <| dt <|
   VC.ret <| ?_
  obtain rfl := Option.some.inj h
  exact rq 2 rfl ⟨rfl, rfl, rfl⟩

theorem tarryref04_Frame.ok (k : Nat) (a0 : ByteArray)  (r1 : ByteArray) (h : tarryref04_Frame.f k a0 = some r1) :
    VCalls Try.prog 66 [.string a0] [] (fun v G own => v = .string r1 ∧ G = [] ∧ own = []) := by
  refine VCalls.intro Try.func66 rfl (len rfl) fun E hC hW hD hU => ?_
  unfold tarryref04_Frame.f at h
  refine sr <| vs rfl <| nx <| vm rfl <| va (op_lens Try.underlying9 rfl) <| ?_
  replace h := bd h
  obtain ⟨t24563, hA24564, h⟩ := h
  refine sC (o_call0 FO81 (tarryref01_Number.ok k (a0.size : Int) t24563 hA24564) rfl rfl (ltn rfl) (All_of .nil)) <| ?_
  rintro _ _ _ ⟨rfl, rfl, rfl⟩
  refine vm rfl <| ?_
  replace h := iN h
  obtain ⟨c24565, h⟩ := h
  refine va (op_adds rfl rfl rfl c24565) <| vm rfl <| ?_
  replace h := bd h
  obtain ⟨t24566, hA24567, h⟩ := h
  refine sC (o_call0 FO65 (tarryref02_Of.ok k a0 t24566 hA24567) rfl rfl (ltn rfl) (All_of .nil)) <| ?_
  rintro _ _ _ ⟨rfl, rfl, rfl⟩
  replace h := bd h
  obtain ⟨t24568, hA24569, h⟩ := h
  refine sC (o_call0 FO64 (tarryref02_Bytes.ok k t24566 t24568 hA24569) rfl rfl (ltn rfl) (All_of .nil)) <| ?_
  rintro _ _ _ ⟨rfl, rfl, rfl⟩
  replace h := iN h
  obtain ⟨c24570, h⟩ := h
  refine va (op_adds rfl rfl rfl c24570) <| vs rfl <| dt <| VC.ret <| ?_
  obtain rfl := Option.some.inj h
  exact rq 2 rfl ⟨rfl, rfl, rfl⟩

theorem tarryref04_Whole.ok (k : Nat) (l0 : List ByteArray) (v0 : Value) (r1 : ByteArray) (h : tarryref04_Whole.f k l0 = some r1) :
    VCalls Try.prog 32 [v0] [.row v0 1 (l0.map enc_str)] (fun v G own => v = .string r1 ∧ G = [] ∧ own = []) := by
  refine VCalls.intro Try.func32 rfl (len rfl) fun E hC hW hD hU => ?_
  unfold tarryref04_Whole.f at h
  refine sr <| vs rfl <| nx <| vs rfl <| ds <| sr <| vm rfl <| va (op_len (m := l0.length) 0 lenm Try.underlying22 rfl rfl) <| vm rfl <| dt <| VC.block <|
   VC.loop2 (fun (s24605 : ByteArray) (i24606 : Int) => ⟨18, [(2, .string (⟨#[]⟩ : ByteArray)), (3, .string s24605), (6, v0), (7, iv (l0.length : Int)), (8, iv i24606)], [.row v0 1 (l0.map enc_str)], [], []⟩) (fun (ml1 : Nat) (s24605 : ByteArray) (i24606 : Int) => tarryref04_Whole.l1 k l0 ml1 s24605 i24606 = some r1) k (⟨#[]⟩ : ByteArray) 0 [] [] h ⟨rfl, ⟨rfl, rfl, rfl, rfl, rfl, trivial⟩, ⟨⟨0, rfl⟩, trivial⟩, rfl, by decide, rfl, by decide⟩ (by intros; simp [tarryref04_Whole.l1]) <|
   ?_
  clear h
  intro ml1 ihl1 s24605 i24606 h
  simp only [tarryref04_Whole.l1] at h
  refine sr <| VL.letter (decide (i24606 < (l0.length : Int))) fun b24617 hb24617 => va (op_cmp rfl rfl (congrArg some hb24617)) <| ds <| ?_
  replace h := iC h
  rcases h with ⟨c24619, h⟩ | ⟨c24619, h⟩
  · cases lT c24619 hb24617
    refine ct <| sk <| sq <| VC.block <| sr <| ?_
    replace h := iN h
    obtain ⟨c24620, h⟩ := h
    replace h := bd h
    obtain ⟨x24621, hx24621, h⟩ := h
    refine VL.open (m := l0.length) 0 lenm rfl (pos_get hx24621) <| ?_
    rintro ad24622 n24623 rfl
    refine va (op_indexAddr Try.underlying22 TI9 rfl rfl c24620 (lt_get c24620 hx24621) rfl) <| va (op_load_row (sz := 1) (o := 0) 0 i24606.toNat 1 rfl rfl (get_map hx24621) TI9 rfl (by decide)) <| vs rfl <| dr <| vm rfl <| vm rfl <| ?_
    replace h := bd h
    obtain ⟨t24624, hA24625, h⟩ := h
    refine sC (o_call0 FO66 (tarryref04_Frame.ok k x24621 t24624 hA24625) rfl rfl (ltn rfl) (All_of .nil)) <| ?_
    rintro _ _ _ ⟨rfl, rfl, rfl⟩
    replace h := iN h
    obtain ⟨c24626, h⟩ := h
    refine va (op_adds rfl rfl rfl c24626) <| vs rfl <| dn <| VN.block <| tr <| va (op_ari64 rfl rfl rfl) <| vm rfl <| dn <| VN.again [] [] (ihl1 (s24605 ++ t24624) (wrap64 (i24606 + 1)) h)
  cases lF c24619 hb24617
  refine cf <| VC.exit <| VX.then <| VX.then <| VX.hit <| tx <| vm rfl <| vs rfl <| dt <| VC.ret <| ?_
  obtain rfl := Option.some.inj h
  exact rq 2 rfl ⟨rfl, rfl, rfl⟩

end Go.Proofs.Ytipeglbeongfmaa.PJournalOpens
