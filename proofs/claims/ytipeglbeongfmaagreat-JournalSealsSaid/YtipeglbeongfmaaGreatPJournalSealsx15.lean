/- Written by a program of this repo: what the program's functions do, each as a Lean function, shown of the loaded code; or a statement's row over that; no condition of its own. -/
import Derived.Test.YtipeglbeongfmaaGreatPJournalSealsx14
namespace Go.Proofs.YtipeglbeongfmaaGreat.PJournalSeals
open Go Go.RowKit Go.Proofs.YtipeglbeongfmaaGreatV
set_option linter.unusedVariables false
set_option linter.unusedSimpArgs false
set_option maxHeartbeats 4000000
set_option maxRecDepth 100000

theorem tarryref04_Scan.ok (k : Nat) (a0 : ByteArray)  (r1 : List ByteArray) (h : tarryref04_Scan.f k a0 = some r1) :
    VCalls Tryz.prog 60 [.string a0] [] (fun v G own => ∃ w0 : Value, v = w0 ∧ G = [] ∧ own = [(w0, 9, 1, r1.map enc_str)]) := by
  refine VCalls.intro Tryz.func60 rfl (len rfl) fun E hC hW hD hU => ?_
  unfold tarryref04_Scan.f at h
  refine sr <| vs rfl <| nx <| sG (o_buildSlice (vals := []) (cells := #[]) (es := List.map enc_str ([] : List ByteArray)) Tryz.underlying22 TI9 Z9 rfl (by decide) (by decide) (by kernel_rfl) (by kernel_rfl) rfl (flat_map enc_str_ok _)) fun v10093 => vs rfl <| ds <| VC.block <|
   VC.loop3 (fun (s26672 : ByteArray) (v26674 : Value) (l26675 : List ByteArray) => ⟨64, [(0, .string s26672), (2, sn), (3, v26674)], [], [], [(v26674, 9, 1, l26675.map enc_str)]⟩) (fun (ml1 : Nat) (s26672 : ByteArray) (v26674 : Value) (l26675 : List ByteArray) => tarryref04_Scan.l1 k ml1 s26672 l26675 = some r1) k a0 v10093 ([] : List ByteArray) [] [0] h ⟨rfl, ⟨rfl, rfl, rfl, trivial⟩, trivial, rfl, by decide, rfl, by decide⟩ (by intros; simp [tarryref04_Scan.l1]) <|
   ?_
  clear h
  intro ml1 ihl1 s26672 v26674 l26675 h
  simp only [tarryref04_Scan.l1] at h
  refine sq <| sr <| vm rfl <| va (op_lens Tryz.underlying9 rfl) <| VL.letter (decide ((s26672.size : Int) > 0)) fun b26742 hb26742 => va (op_cmp rfl rfl (congrArg some hb26742)) <| dt <| ?_
  replace h := iC h
  rcases h with ⟨c26743, h⟩ | ⟨c26743, h⟩
  · cases lT c26743 hb26742
    refine ct <| sk <| VC.block <| sr <| vm rfl <| ?_
    replace h := bd h
    obtain ⟨⟨t26744, t26745, t26746⟩, hA26747, h⟩ := h
    dsimp only at h
    refine sC (o_call0 FO79 (tarryref01_ReadNumber.ok k s26672 t26744 t26745 t26746 hA26747) rfl rfl (ltn rfl) (All_of .nil)) <| ?_
    rintro _ _ _ ⟨rfl, rfl, rfl⟩
    refine sG (o_alloc Z113 ZL113) fun g26748 => s1 (o_store 0 3 rfl rfl rfl TI113 (.agg (.of rfl)) rfl (len rfl)) <| ds <| sr <| va (op_fieldAddr FI113_2 rfl (add_at _ _ _)) <| va (op_load 0 1 rfl rfl TI29 rfl (by decide)) <|
     VL.letter ((t26746 != 0)) fun b26771 hb26771 => va (op_cmp rfl rfl (congrArg some hb26771)) <| vm rfl <| ?_
    replace h := iC h
    rcases h with ⟨c26772, h⟩ | ⟨c26772, h⟩
    · obtain rfl : b26771 = false := hb26771.symm.trans (bne_eq_false_iff_eq.2 c26772)
      refine va (op_fieldAddr FI113_0 rfl (add_at _ _ _)) <| va (op_load 0 1 rfl rfl TI3 rfl (by decide)) <| VL.letter (decide (t26744 < 0)) fun b26773 hb26773 => va (op_cmp rfl rfl (congrArg some hb26773)) <| va (op_pick rfl rfl) <| vm rfl <| ?_
      replace h := iC h
      rcases h with ⟨c26774, h⟩ | ⟨c26774, h⟩
      · cases lT c26774 hb26773
        refine un rfl <| un rfl <| un rfl <| va (op_pick rfl rfl) <| vm rfl <| un rfl <| un rfl <| un rfl <| un rfl <| un rfl <| un rfl <| un rfl <| va (op_pick rfl rfl) <| dt <| ct <| sr <| vm rfl <| vs rfl <| dt <| VC.ret <| VR.then <| VR.block <| VR.then <| VR.block <| VR.then <| ?_
        obtain rfl := Option.some.inj h
        exact rf [.tmp 2] [0] (.tmp rfl .nil) ⟨v26674, rfl, rfl, rfl⟩
      cases lF c26774 hb26773
      refine va (op_fieldAddr FI113_0 rfl (add_at _ _ _)) <| va (op_load 0 1 rfl rfl TI3 rfl (by decide)) <| VL.letter (decide (t26744 > 4096)) fun b26775 hb26775 => va (op_cmp rfl rfl (congrArg some hb26775)) <| va (op_pick rfl rfl) <| vm rfl <| ?_
      replace h := iC h
      rcases h with ⟨c26776, h⟩ | ⟨c26776, h⟩
      · cases lT c26776 hb26775
        refine un rfl <| un rfl <| un rfl <| un rfl <| un rfl <| un rfl <| un rfl <| va (op_pick rfl rfl) <| dt <| ct <| sr <| vm rfl <| vs rfl <| dt <| VC.ret <| VR.then <| VR.block <| VR.then <| VR.block <| VR.then <| ?_
        obtain rfl := Option.some.inj h
        exact rf [.tmp 2] [0] (.tmp rfl .nil) ⟨v26674, rfl, rfl, rfl⟩
      cases lF c26776 hb26775
      refine va (op_fieldAddr FI113_0 rfl (add_at _ _ _)) <| va (op_load 0 1 rfl rfl TI3 rfl (by decide)) <| va (op_ari64 rfl rfl rfl) <| va (op_fieldAddr FI113_1 rfl (add_at _ _ _)) <| va (op_load 0 1 rfl rfl TI9 rfl (by decide)) <| va (op_lens Tryz.underlying9 rfl) <|
       VL.letter (decide ((wrap64 (t26744 + 4)) > (t26745.size : Int))) fun b26777 hb26777 => va (op_cmp rfl rfl (congrArg some hb26777)) <| va (op_pick rfl rfl) <| dt <| ?_
      replace h := iC h
      rcases h with ⟨c26778, h⟩ | ⟨c26778, h⟩
      · cases lT c26778 hb26777
        refine ct <| sr <| vm rfl <| vs rfl <| dt <| VC.ret <| VR.then <| VR.block <| VR.then <| VR.block <| VR.then <| ?_
        obtain rfl := Option.some.inj h
        exact rf [.tmp 2] [0] (.tmp rfl .nil) ⟨v26674, rfl, rfl, rfl⟩
      cases lF c26778 hb26777
      refine cf <| sk <| sr <| va (op_fieldAddr FI113_1 rfl (add_at _ _ _)) <| va (op_load 0 1 rfl rfl TI9 rfl (by decide)) <| va (op_fieldAddr FI113_0 rfl (add_at _ _ _)) <| va (op_load 0 1 rfl rfl TI3 rfl (by decide)) <| ?_
      replace h := iN h
      obtain ⟨c26779, h⟩ := h
      replace h := iN h
      obtain ⟨c26780, h⟩ := h
      refine va (op_sliceS 0 t26744.toNat Tryz.underlying9 rfl ⟨rfl, ⟨_, _, rfl, c26779, rfl⟩, Nat.zero_le _, tN (a := t26744) (b := (t26745.size : Int)) rfl rfl c26780⟩ rfl) <| vs rfl <| ds <| ?_
      replace h := iN h
      obtain ⟨c26790, h⟩ := h
      replace h := iN h
      obtain ⟨c26791, h⟩ := h
      replace h := iN h
      obtain ⟨c26792, h⟩ := h
      replace h := bd h
      obtain ⟨t26793, hA26794, h⟩ := h
      replace h := bd h
      obtain ⟨t26795, hA26796, h⟩ := h
      refine VC.letter (((t26745.extract t26744.toNat ((wrap64 (t26744 + 4)).toNat)) != t26795)) fun b26797 hb26797 => VC.join0 (⟨64, [(0, .string s26672), (2, sn), (3, v26674), (4, pt g26748 0), (5, .string (t26745.extract 0 t26744.toNat)), (7, .string s26672), (8, iv (s26672.size : Int)), (9, .bool true), (10, .string s26672), (11, .agg #[iv t26744, .string t26745, iv t26746]), (12, pt g26748 2), (13, iv t26746), (14, .bool false), (15, .bool false), (16, pt g26748 0), (17, iv t26744), (18, .bool false), (19, .bool false), (20, .bool false), (21, pt g26748 0), (22, iv t26744), (23, .bool false), (24, .bool false), (25, .bool false), (26, pt g26748 0), (27, iv t26744), (28, iv (wrap64 (t26744 + 4))), (29, pt g26748 1), (30, .string t26745), (31, iv (t26745.size : Int)), (32, .bool false), (33, .bool false), (35, pt g26748 1), (36, .string t26745), (37, pt g26748 0), (38, iv t26744), (39, .string (t26745.extract 0 t26744.toNat)), (40, pt g26748 1), (41, .string t26745), (42, pt g26748 0), (43, iv t26744), (44, pt g26748 0), (45, iv t26744), (46, iv (wrap64 (t26744 + 4))), (47, .string (t26745.extract t26744.toNat ((wrap64 (t26744 + 4)).toNat))), (48, .string (t26745.extract 0 t26744.toNat)), (49, .int .u32 t26793), (50, .string t26795), (51, .bool b26797)], [], [(g26748, 113, [iv t26744, .string t26745, iv t26746])], [(v26674, 9, 1, l26675.map enc_str)]⟩) (True) ?_ ?_
      · refine dw ⟨0, [], [], [(g26748, 113, [iv t26744, .string t26745, iv t26746])], []⟩ 12 <| av 0 1 rfl (op_fieldAddr FI113_1 rfl (add_at _ _ _)) <| av 1 3 rfl (op_load 0 1 rfl rfl TI9 rfl (by decide)) <| av 2 7 rfl (op_fieldAddr FI113_0 rfl (add_at _ _ _)) <|
         av 3 15 rfl (op_load 0 1 rfl rfl TI3 rfl (by decide)) <| av 4 31 rfl (op_fieldAddr FI113_0 rfl (add_at _ _ _)) <| av 5 63 rfl (op_load 0 1 rfl rfl TI3 rfl (by decide)) <| av 6 127 rfl (op_ari64 rfl rfl rfl) <|
         av 7 255 rfl (op_sliceS t26744.toNat ((wrap64 (t26744 + 4)).toNat) Tryz.underlying9 rfl ⟨⟨_, _, rfl, c26779, rfl⟩, ⟨_, _, rfl, c26790, rfl⟩, tN (a := t26744) (b := (wrap64 (t26744 + 4))) rfl rfl c26792, tN (a := (wrap64 (t26744 + 4))) (b := (t26745.size : Int)) rfl rfl c26791⟩ rfl) <|
         av 8 511 rfl (mv rfl) <| aC 9 1023 rfl (o_call0 FO37 (tarryref02_Of.ok k (t26745.extract 0 t26744.toNat) t26793 hA26794) rfl rfl (ltn rfl) (All_of .nil)) <| ?_
        rintro _ _ _ ⟨rfl, rfl, rfl⟩
        refine ⟨⟨trivial, ⟨⟨0, rfl⟩, trivial⟩, trivial⟩, ?_⟩
        refine aC 10 2047 rfl (o_call0 FO36 (tarryref02_Bytes.ok k t26793 t26795 hA26796) rfl rfl (ltn rfl) (All_of .nil)) <| ?_
        rintro _ _ _ ⟨rfl, rfl, rfl⟩
        refine ⟨⟨trivial, ⟨⟨0, rfl⟩, trivial⟩, trivial⟩, ?_⟩
        exact av 11 4095 rfl (op_cmps rfl rfl (congrArg some hb26797)) <| ad <| VN.meet0 [0] [0] trivial
      intro _
      replace h := iC h
      rcases h with ⟨c26798, h⟩ | ⟨c26798, h⟩
      · obtain rfl : b26797 = false := hb26797.symm.trans (bne_of_t c26798)
        refine cf <| sk <| sr <| vm rfl <| vm rfl <|
         sG (o_buildSlice (vals := [(0, .string (t26745.extract 0 t26744.toNat))]) (cells := #[.string (t26745.extract 0 t26744.toNat)]) (es := List.map enc_str ([t26745.extract 0 t26744.toNat] : List ByteArray)) Tryz.underlying22 TI9 Z9 rfl (by decide) (by decide) (by kernel_rfl) (by kernel_rfl) rfl (flat_map enc_str_ok _)) fun v26800 => ?_
        replace h := iN h
        obtain ⟨c26801, h⟩ := h
        refine sG (o_append 1 appm Tryz.underlying22 EI9 rfl rfl rfl (.inr ⟨0, _, rfl⟩) (bndm c26801)) fun v26802 => vs rfl <| dr <| va (op_fieldAddr FI113_1 rfl (add_at _ _ _)) <| va (op_load 0 1 rfl rfl TI9 rfl (by decide)) <| va (op_fieldAddr FI113_0 rfl (add_at _ _ _)) <|
         va (op_load 0 1 rfl rfl TI3 rfl (by decide)) <| va (op_ari64 rfl rfl rfl) <| va (op_sliceS ((wrap64 (t26744 + 4)).toNat) t26745.size Tryz.underlying9 rfl ⟨⟨_, _, rfl, c26790, rfl⟩, rfl, tN (a := (wrap64 (t26744 + 4))) (b := (t26745.size : Int)) rfl rfl c26791, Nat.le_refl _⟩ rfl) <| vs rfl <| dn <|
         VN.block <| VN.again [] [1] (ihl1 (t26745.extract ((wrap64 (t26744 + 4)).toNat) t26745.size) v26802 (l26675 ++ ([t26745.extract 0 t26744.toNat] : List ByteArray)) h)
      obtain rfl : b26797 = true := hb26797.symm.trans (bne_of_f c26798)
      refine ct <| sr <| vm rfl <| vs rfl <| dt <| VC.ret <| VR.then <| VR.block <| VR.then <| VR.block <| VR.then <| ?_
      obtain rfl := Option.some.inj h
      exact rf [.tmp 2] [0] (.tmp rfl .nil) ⟨v26674, rfl, rfl, rfl⟩
    obtain rfl : b26771 = true := hb26771.symm.trans (bne_iff_ne.2 c26772)
    refine un rfl <| un rfl <| un rfl <| va (op_pick rfl rfl) <| vm rfl <| un rfl <| un rfl <| un rfl <| va (op_pick rfl rfl) <| vm rfl <| un rfl <| un rfl <| un rfl <| un rfl <| un rfl <| un rfl <| un rfl <| va (op_pick rfl rfl) <| dt <| ct <| sr <| vm rfl <| vs rfl <| dt <| VC.ret <| VR.then <|
     VR.block <| VR.then <| VR.block <| VR.then <| ?_
    obtain rfl := Option.some.inj h
    exact rf [.tmp 2] [0] (.tmp rfl .nil) ⟨v26674, rfl, rfl, rfl⟩
  cases lF c26743 hb26742
  refine cf <| VC.exit <| VX.then <| VX.then <| VX.hit <| tx <| vm rfl <| vs rfl <| dt <| VC.ret <| ?_
  obtain rfl := Option.some.inj h
  exact rf [.tmp 2] [0] (.tmp rfl .nil) ⟨v26674, rfl, rfl, rfl⟩

theorem tarryref01_Number.ok (k : Nat) (a0 : Int)  (r1 : ByteArray) (h : tarryref01_Number.f k a0 = some r1) :
    VCalls Tryz.prog 35 [iv a0] [] (fun v G own => v = .string r1 ∧ G = [] ∧ own = []) := by
  refine VCalls.intro Tryz.func35 rfl (len rfl) fun E hC hW hD hU => ?_
  unfold tarryref01_Number.f at h
  refine sr <| vs rfl <| nx <| vs rfl <| ds <| sr <| vm rfl <| VL.letter (decide (a0 ≥ 0)) fun b26817 hb26817 => va (op_cmp rfl rfl (congrArg some hb26817)) <| dt <| ?_
  replace h := iC h
  rcases h with ⟨c26818, h⟩ | ⟨c26818, h⟩
  · cases lT c26818 hb26817
    refine ct <| rg <| vm rfl <| va (op_ari64 rfl rfl rfl) <| vs rfl <| nx <|
     sG (o_buildSlice (vals := []) (cells := #[]) (es := List.map enc_intu8 ([] : List Int)) Tryz.underlying68 TI5 Z5 rfl (by decide) (by decide) (by kernel_rfl) (by kernel_rfl) rfl (flat_map enc_intu8_ok _)) fun v26820 => vs rfl <| ds <| VC.block <|
     VC.loop3 (fun (i26861 : Int) (v26863 : Value) (l26864 : List Int) => ⟨32, [(2, .string (⟨#[]⟩ : ByteArray)), (3, iv i26861), (4, v26863)], [], [], [(v26863, 5, 1, l26864.map enc_intu8)]⟩) (fun (ml1 : Nat) (i26861 : Int) (v26863 : Value) (l26864 : List Int) => tarryref01_Number.l1 k ml1 i26861 l26864 = some r1) k (wrap64 (2 * a0)) v26820 ([] : List Int) [] [0] h ⟨rfl, ⟨rfl, rfl, rfl, trivial⟩, trivial, rfl, by decide, rfl, by decide⟩ (by intros; simp [tarryref01_Number.l1]) <|
     ?_
    clear h
    intro ml1 ihl1 i26861 v26863 l26864 h
    simp only [tarryref01_Number.l1] at h
    refine sq <| sr <| vm rfl <| VL.letter (decide (i26861 > 127)) fun b26881 hb26881 => va (op_cmp rfl rfl (congrArg some hb26881)) <| dt <| ?_
    replace h := iC h
    rcases h with ⟨c26882, h⟩ | ⟨c26882, h⟩
    · cases lT c26882 hb26881
      refine ct <| sk <| VC.block <| sr <| vm rfl <| vm rfl <| va (op_rem rfl rfl (by decide) rfl) <| va (op_ari64 rfl rfl rfl) <| va (op_conv Tryz.underlying3 Tryz.underlying5 rfl rfl) <|
       sG (o_buildSlice (vals := [(0, .int .u8 (IntKind.u8.wrap (wrap64 (128 + (i26861.tmod 128)))))]) (cells := #[.int .u8 (IntKind.u8.wrap (wrap64 (128 + (i26861.tmod 128))))]) (es := List.map enc_intu8 ([IntKind.u8.wrap (wrap64 (128 + (i26861.tmod 128)))] : List Int)) Tryz.underlying68 TI5 Z5 rfl (by decide) (by decide) (by kernel_rfl) (by kernel_rfl) rfl (flat_map enc_intu8_ok _)) fun v26884 => ?_
      replace h := iN h
      obtain ⟨c26885, h⟩ := h
      refine sG (o_append 1 appm Tryz.underlying68 EI5 rfl rfl rfl (.inr ⟨0, _, rfl⟩) (bndm c26885)) fun v26886 => vs rfl <| dr <| vm rfl <| va (op_quo rfl rfl (by decide) rfl) <| vs rfl <| dn <| VN.block <|
       VN.again [] [1] (ihl1 (IntKind.i64.wrap (i26861.tdiv 128)) v26886 (l26864 ++ ([IntKind.u8.wrap (wrap64 (128 + (i26861.tmod 128)))] : List Int)) h)
    cases lF c26882 hb26881
    refine cf <| VC.exit <| VX.then <| VX.then <| VX.hit <| tx <| vm rfl <| vm rfl <| va (op_conv Tryz.underlying3 Tryz.underlying5 rfl rfl) <|
     sG (o_buildSlice (vals := [(0, .int .u8 (IntKind.u8.wrap i26861))]) (cells := #[.int .u8 (IntKind.u8.wrap i26861)]) (es := List.map enc_intu8 ([IntKind.u8.wrap i26861] : List Int)) Tryz.underlying68 TI5 Z5 rfl (by decide) (by decide) (by kernel_rfl) (by kernel_rfl) rfl (flat_map enc_intu8_ok _)) fun v26889 => ?_
    replace h := iN h
    obtain ⟨c26890, h⟩ := h
    refine sG (o_append 1 appm Tryz.underlying68 EI5 rfl rfl rfl (.inr ⟨0, _, rfl⟩) (bndm c26890)) fun v26891 => vs rfl <| nx <| vm rfl <| va (op_bytesStr_own (xs := (l26864 ++ ([IntKind.u8.wrap i26861] : List Int))) 1 rfl rfl Tryz.underlying68 Tryz.underlying9 Tryz.underlying5 rfl rfl) <| vs rfl <|
     dt <| VC.ret <| ?_
    obtain rfl := Option.some.inj h
    exact rq 2 rfl ⟨rfl, rfl, rfl⟩
  cases lF c26818 hb26817
  refine cf <| rg <| vm rfl <| va (op_ari64 rfl rfl rfl) <| va (op_ari64 rfl rfl rfl) <| va (op_ari64 rfl rfl rfl) <| vs rfl <| nx <|
   sG (o_buildSlice (vals := []) (cells := #[]) (es := List.map enc_intu8 ([] : List Int)) Tryz.underlying68 TI5 Z5 rfl (by decide) (by decide) (by kernel_rfl) (by kernel_rfl) rfl (flat_map enc_intu8_ok _)) fun v26894 => vs rfl <| ds <| VC.block <|
   VC.loop3 (fun (i26935 : Int) (v26937 : Value) (l26938 : List Int) => ⟨32, [(2, .string (⟨#[]⟩ : ByteArray)), (3, iv i26935), (4, v26937)], [], [], [(v26937, 5, 1, l26938.map enc_intu8)]⟩) (fun (ml3 : Nat) (i26935 : Int) (v26937 : Value) (l26938 : List Int) => tarryref01_Number.l3 k ml3 i26935 l26938 = some r1) k (wrap64 ((wrap64 (2 * (wrap64 (0 - a0)))) - 1)) v26894 ([] : List Int) [] [0] h ⟨rfl, ⟨rfl, rfl, rfl, trivial⟩, trivial, rfl, by decide, rfl, by decide⟩ (by intros; simp [tarryref01_Number.l3]) <|
   ?_
  clear h
  intro ml3 ihl3 i26935 v26937 l26938 h
  simp only [tarryref01_Number.l3] at h
  refine sq <| sr <| vm rfl <| VL.letter (decide (i26935 > 127)) fun b26955 hb26955 => va (op_cmp rfl rfl (congrArg some hb26955)) <| dt <| ?_
  replace h := iC h
  rcases h with ⟨c26956, h⟩ | ⟨c26956, h⟩
  · cases lT c26956 hb26955
    refine ct <| sk <| VC.block <| sr <| vm rfl <| vm rfl <| va (op_rem rfl rfl (by decide) rfl) <| va (op_ari64 rfl rfl rfl) <| va (op_conv Tryz.underlying3 Tryz.underlying5 rfl rfl) <|
     sG (o_buildSlice (vals := [(0, .int .u8 (IntKind.u8.wrap (wrap64 (128 + (i26935.tmod 128)))))]) (cells := #[.int .u8 (IntKind.u8.wrap (wrap64 (128 + (i26935.tmod 128))))]) (es := List.map enc_intu8 ([IntKind.u8.wrap (wrap64 (128 + (i26935.tmod 128)))] : List Int)) Tryz.underlying68 TI5 Z5 rfl (by decide) (by decide) (by kernel_rfl) (by kernel_rfl) rfl (flat_map enc_intu8_ok _)) fun v26958 => ?_
    replace h := iN h
    obtain ⟨c26959, h⟩ := h
    refine sG (o_append 1 appm Tryz.underlying68 EI5 rfl rfl rfl (.inr ⟨0, _, rfl⟩) (bndm c26959)) fun v26960 => vs rfl <| dr <| vm rfl <| va (op_quo rfl rfl (by decide) rfl) <| vs rfl <| dn <| VN.block <|
     VN.again [] [1] (ihl3 (IntKind.i64.wrap (i26935.tdiv 128)) v26960 (l26938 ++ ([IntKind.u8.wrap (wrap64 (128 + (i26935.tmod 128)))] : List Int)) h)
  cases lF c26956 hb26955
  refine cf <| VC.exit <| VX.then <| VX.then <| VX.hit <| tx <| vm rfl <| vm rfl <| va (op_conv Tryz.underlying3 Tryz.underlying5 rfl rfl) <|
   sG (o_buildSlice (vals := [(0, .int .u8 (IntKind.u8.wrap i26935))]) (cells := #[.int .u8 (IntKind.u8.wrap i26935)]) (es := List.map enc_intu8 ([IntKind.u8.wrap i26935] : List Int)) Tryz.underlying68 TI5 Z5 rfl (by decide) (by decide) (by kernel_rfl) (by kernel_rfl) rfl (flat_map enc_intu8_ok _)) fun v26963 => ?_
  replace h := iN h
  obtain ⟨c26964, h⟩ := h
  refine sG (o_append 1 appm Tryz.underlying68 EI5 rfl rfl rfl (.inr ⟨0, _, rfl⟩) (bndm c26964)) fun v26965 => vs rfl <| nx <| vm rfl <| va (op_bytesStr_own (xs := (l26938 ++ ([IntKind.u8.wrap i26935] : List Int))) 1 rfl rfl Tryz.underlying68 Tryz.underlying9 Tryz.underlying5 rfl rfl) <| vs rfl <|
   dt <| VC.ret <| ?_
  obtain rfl := Option.some.inj h
  exact rq 2 rfl ⟨rfl, rfl, rfl⟩

theorem tarryref04_Frame.ok (k : Nat) (a0 : ByteArray)  (r1 : ByteArray) (h : tarryref04_Frame.f k a0 = some r1) :
    VCalls Tryz.prog 15 [.string a0] [] (fun v G own => v = .string r1 ∧ G = [] ∧ own = []) := by
  refine VCalls.intro Tryz.func15 rfl (len rfl) fun E hC hW hD hU => ?_
  unfold tarryref04_Frame.f at h
  refine sr <| vs rfl <| nx <| vm rfl <| va (op_lens Tryz.underlying9 rfl) <| ?_
  replace h := bd h
  obtain ⟨t26967, hA26968, h⟩ := h
  refine sC (o_call0 FO35 (tarryref01_Number.ok k (a0.size : Int) t26967 hA26968) rfl rfl (ltn rfl) (All_of .nil)) <| ?_
  rintro _ _ _ ⟨rfl, rfl, rfl⟩
  refine vm rfl <| ?_
  replace h := iN h
  obtain ⟨c26969, h⟩ := h
  refine va (op_adds rfl rfl rfl c26969) <| vm rfl <| ?_
  replace h := bd h
  obtain ⟨t26970, hA26971, h⟩ := h
  refine sC (o_call0 FO37 (tarryref02_Of.ok k a0 t26970 hA26971) rfl rfl (ltn rfl) (All_of .nil)) <| ?_
  rintro _ _ _ ⟨rfl, rfl, rfl⟩
  replace h := bd h
  obtain ⟨t26972, hA26973, h⟩ := h
  refine sC (o_call0 FO36 (tarryref02_Bytes.ok k t26970 t26972 hA26973) rfl rfl (ltn rfl) (All_of .nil)) <| ?_
  rintro _ _ _ ⟨rfl, rfl, rfl⟩
  replace h := iN h
  obtain ⟨c26974, h⟩ := h
  refine va (op_adds rfl rfl rfl c26974) <| vs rfl <| dt <| VC.ret <| ?_
  obtain rfl := Option.some.inj h
  exact rq 2 rfl ⟨rfl, rfl, rfl⟩

theorem tarryref04_Whole.ok (k : Nat) (l0 : List ByteArray) (v0 : Value) (r1 : ByteArray) (h : tarryref04_Whole.f k l0 = some r1) :
    VCalls Tryz.prog 14 [v0] [.row v0 1 (l0.map enc_str)] (fun v G own => v = .string r1 ∧ G = [] ∧ own = []) := by
  refine VCalls.intro Tryz.func14 rfl (len rfl) fun E hC hW hD hU => ?_
  unfold tarryref04_Whole.f at h
  refine sr <| vs rfl <| nx <| vs rfl <| ds <| sr <| vm rfl <| va (op_len (m := l0.length) 0 lenm Tryz.underlying22 rfl rfl) <| vm rfl <| dt <| VC.block <|
   VC.loop2 (fun (s27009 : ByteArray) (i27010 : Int) => ⟨18, [(2, .string (⟨#[]⟩ : ByteArray)), (3, .string s27009), (6, v0), (7, iv (l0.length : Int)), (8, iv i27010)], [.row v0 1 (l0.map enc_str)], [], []⟩) (fun (ml1 : Nat) (s27009 : ByteArray) (i27010 : Int) => tarryref04_Whole.l1 k l0 ml1 s27009 i27010 = some r1) k (⟨#[]⟩ : ByteArray) 0 [] [] h ⟨rfl, ⟨rfl, rfl, rfl, rfl, rfl, trivial⟩, ⟨⟨0, rfl⟩, trivial⟩, rfl, by decide, rfl, by decide⟩ (by intros; simp [tarryref04_Whole.l1]) <|
   ?_
  clear h
  intro ml1 ihl1 s27009 i27010 h
  simp only [tarryref04_Whole.l1] at h
  refine sr <| VL.letter (decide (i27010 < (l0.length : Int))) fun b27021 hb27021 => va (op_cmp rfl rfl (congrArg some hb27021)) <| ds <| ?_
  replace h := iC h
  rcases h with ⟨c27023, h⟩ | ⟨c27023, h⟩
  · cases lT c27023 hb27021
    refine ct <| sk <| sq <| VC.block <| sr <| ?_
    replace h := iN h
    obtain ⟨c27024, h⟩ := h
    replace h := bd h
    obtain ⟨x27025, hx27025, h⟩ := h
    refine VL.open (m := l0.length) 0 lenm rfl (pos_get hx27025) <| ?_
    rintro ad27026 n27027 rfl
    refine va (op_indexAddr Tryz.underlying22 TI9 rfl rfl c27024 (lt_get c27024 hx27025) rfl) <| va (op_load_row (sz := 1) (o := 0) 0 i27010.toNat 1 rfl rfl (get_map hx27025) TI9 rfl (by decide)) <| vs rfl <| dr <| vm rfl <| vm rfl <| ?_
    replace h := bd h
    obtain ⟨t27028, hA27029, h⟩ := h
    refine sC (o_call0 FO15 (tarryref04_Frame.ok k x27025 t27028 hA27029) rfl rfl (ltn rfl) (All_of .nil)) <| ?_
    rintro _ _ _ ⟨rfl, rfl, rfl⟩
    replace h := iN h
    obtain ⟨c27030, h⟩ := h
    refine va (op_adds rfl rfl rfl c27030) <| vs rfl <| dn <| VN.block <| tr <| va (op_ari64 rfl rfl rfl) <| vm rfl <| dn <| VN.again [] [] (ihl1 (s27009 ++ t27028) (wrap64 (i27010 + 1)) h)
  cases lF c27023 hb27021
  refine cf <| VC.exit <| VX.then <| VX.then <| VX.hit <| tx <| vm rfl <| vs rfl <| dt <| VC.ret <| ?_
  obtain rfl := Option.some.inj h
  exact rq 2 rfl ⟨rfl, rfl, rfl⟩

end Go.Proofs.YtipeglbeongfmaaGreat.PJournalSeals
