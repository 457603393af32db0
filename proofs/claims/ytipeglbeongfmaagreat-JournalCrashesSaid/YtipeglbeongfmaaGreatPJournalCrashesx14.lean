/- Written by a program of this repo: what the program's functions do, each as a Lean function, shown of the loaded code; or a statement's row over that; no condition of its own. -/
import Derived.Test.YtipeglbeongfmaaGreatPJournalCrashesx13
namespace Go.Proofs.YtipeglbeongfmaaGreat.PJournalCrashes
open Go Go.RowKit Go.Proofs.YtipeglbeongfmaaGreatV
set_option linter.unusedVariables false
set_option linter.unusedSimpArgs false
set_option maxHeartbeats 4000000
set_option maxRecDepth 100000

theorem tarryref04_Scan.ok (k : Nat) (a0 : ByteArray)  (r1 : List ByteArray) (h : tarryref04_Scan.f k a0 = some r1) :
    VCalls Tryz.prog 60 [.string a0] [] (fun v G own => ∃ w0 : Value, v = w0 ∧ G = [] ∧ own = [(w0, 9, 1, r1.map enc_str)]) := by
  refine VCalls.intro Tryz.func60 rfl (len rfl) fun E hC hW hD hU => ?_
  unfold tarryref04_Scan.f at h
  refine sr <| vs rfl <| nx <| sG (o_buildSlice (vals := []) (cells := #[]) (es := List.map enc_str ([] : List ByteArray)) Tryz.underlying22 TI9 Z9 rfl (by decide) (by decide) (by kernel_rfl) (by kernel_rfl) rfl (flat_map enc_str_ok _)) fun v9964 => vs rfl <| ds <| VC.block <|
   VC.loop3 (fun (s26543 : ByteArray) (v26545 : Value) (l26546 : List ByteArray) => ⟨64, [(0, .string s26543), (2, sn), (3, v26545)], [], [], [(v26545, 9, 1, l26546.map enc_str)]⟩) (fun (ml1 : Nat) (s26543 : ByteArray) (v26545 : Value) (l26546 : List ByteArray) => tarryref04_Scan.l1 k ml1 s26543 l26546 = some r1) k a0 v9964 ([] : List ByteArray) [] [0] h ⟨rfl, ⟨rfl, rfl, rfl, trivial⟩, trivial, rfl, by decide, rfl, by decide⟩ (by intros; simp [tarryref04_Scan.l1]) <|
   ?_
  clear h
  intro ml1 ihl1 s26543 v26545 l26546 h
  simp only [tarryref04_Scan.l1] at h
  refine sq <| sr <| vm rfl <| va (op_lens Tryz.underlying9 rfl) <| VL.letter (decide ((s26543.size : Int) > 0)) fun b26613 hb26613 => va (op_cmp rfl rfl (congrArg some hb26613)) <| dt <| ?_
  replace h := iC h
  rcases h with ⟨c26614, h⟩ | ⟨c26614, h⟩
  · cases lT c26614 hb26613
    refine ct <| sk <| VC.block <| sr <| vm rfl <| ?_
    replace h := bd h
    obtain ⟨⟨t26615, t26616, t26617⟩, hA26618, h⟩ := h
    dsimp only at h
    refine sC (o_call0 FO79 (tarryref01_ReadNumber.ok k s26543 t26615 t26616 t26617 hA26618) rfl rfl (ltn rfl) (All_of .nil)) <| ?_
    rintro _ _ _ ⟨rfl, rfl, rfl⟩
    refine sG (o_alloc Z113 ZL113) fun g26619 => s1 (o_store 0 3 rfl rfl rfl TI113 (.agg (.of rfl)) rfl (len rfl)) <| ds <| sr <| va (op_fieldAddr FI113_2 rfl (add_at _ _ _)) <| va (op_load 0 1 rfl rfl TI29 rfl (by decide)) <|
     VL.letter ((t26617 != 0)) fun b26642 hb26642 => va (op_cmp rfl rfl (congrArg some hb26642)) <| vm rfl <| ?_
    replace h := iC h
    rcases h with ⟨c26643, h⟩ | ⟨c26643, h⟩
    · obtain rfl : b26642 = false := hb26642.symm.trans (bne_eq_false_iff_eq.2 c26643)
      refine va (op_fieldAddr FI113_0 rfl (add_at _ _ _)) <| va (op_load 0 1 rfl rfl TI3 rfl (by decide)) <| VL.letter (decide (t26615 < 0)) fun b26644 hb26644 => va (op_cmp rfl rfl (congrArg some hb26644)) <| va (op_pick rfl rfl) <| vm rfl <| ?_
      replace h := iC h
      rcases h with ⟨c26645, h⟩ | ⟨c26645, h⟩
      · cases lT c26645 hb26644
        refine un rfl <| un rfl <| un rfl <| va (op_pick rfl rfl) <| vm rfl <| un rfl <| un rfl <| un rfl <| un rfl <| un rfl <| un rfl <| un rfl <| va (op_pick rfl rfl) <| dt <| ct <| sr <| vm rfl <| vs rfl <| dt <| VC.ret <| VR.then <| VR.block <| VR.then <| VR.block <| VR.then <| ?_
        obtain rfl := Option.some.inj h
        exact rf [.tmp 2] [0] (.tmp rfl .nil) ⟨v26545, rfl, rfl, rfl⟩
      cases lF c26645 hb26644
      refine va (op_fieldAddr FI113_0 rfl (add_at _ _ _)) <| va (op_load 0 1 rfl rfl TI3 rfl (by decide)) <| VL.letter (decide (t26615 > 4096)) fun b26646 hb26646 => va (op_cmp rfl rfl (congrArg some hb26646)) <| va (op_pick rfl rfl) <| vm rfl <| ?_
      replace h := iC h
      rcases h with ⟨c26647, h⟩ | ⟨c26647, h⟩
      · cases lT c26647 hb26646
        refine un rfl <| un rfl <| un rfl <| un rfl <| un rfl <| un rfl <| un rfl <| va (op_pick rfl rfl) <| dt <| ct <| sr <| vm rfl <| vs rfl <| dt <| VC.ret <| VR.then <| VR.block <| VR.then <| VR.block <| VR.then <| ?_
        obtain rfl := Option.some.inj h
        exact rf [.tmp 2] [0] (.tmp rfl .nil) ⟨v26545, rfl, rfl, rfl⟩
      cases lF c26647 hb26646
      refine va (op_fieldAddr FI113_0 rfl (add_at _ _ _)) <| va (op_load 0 1 rfl rfl TI3 rfl (by decide)) <| va (op_ari64 rfl rfl rfl) <| va (op_fieldAddr FI113_1 rfl (add_at _ _ _)) <| va (op_load 0 1 rfl rfl TI9 rfl (by decide)) <| va (op_lens Tryz.underlying9 rfl) <|
       VL.letter (decide ((wrap64 (t26615 + 4)) > (t26616.size : Int))) fun b26648 hb26648 => va (op_cmp rfl rfl (congrArg some hb26648)) <| va (op_pick rfl rfl) <| dt <| ?_
      replace h := iC h
      rcases h with ⟨c26649, h⟩ | ⟨c26649, h⟩
      · cases lT c26649 hb26648
        refine ct <| sr <| vm rfl <| vs rfl <| dt <| VC.ret <| VR.then <| VR.block <| VR.then <| VR.block <| VR.then <| ?_
        obtain rfl := Option.some.inj h
        exact rf [.tmp 2] [0] (.tmp rfl .nil) ⟨v26545, rfl, rfl, rfl⟩
      cases lF c26649 hb26648
      refine cf <| sk <| sr <| va (op_fieldAddr FI113_1 rfl (add_at _ _ _)) <| va (op_load 0 1 rfl rfl TI9 rfl (by decide)) <| va (op_fieldAddr FI113_0 rfl (add_at _ _ _)) <| va (op_load 0 1 rfl rfl TI3 rfl (by decide)) <| ?_
      replace h := iN h
      obtain ⟨c26650, h⟩ := h
      replace h := iN h
      obtain ⟨c26651, h⟩ := h
      refine va (op_sliceS 0 t26615.toNat Tryz.underlying9 rfl ⟨rfl, ⟨_, _, rfl, c26650, rfl⟩, Nat.zero_le _, tN (a := t26615) (b := (t26616.size : Int)) rfl rfl c26651⟩ rfl) <| vs rfl <| ds <| ?_
      replace h := iN h
      obtain ⟨c26661, h⟩ := h
      replace h := iN h
      obtain ⟨c26662, h⟩ := h
      replace h := iN h
      obtain ⟨c26663, h⟩ := h
      replace h := bd h
      obtain ⟨t26664, hA26665, h⟩ := h
      replace h := bd h
      obtain ⟨t26666, hA26667, h⟩ := h
      refine VC.letter (((t26616.extract t26615.toNat ((wrap64 (t26615 + 4)).toNat)) != t26666)) fun b26668 hb26668 => VC.join0 (⟨64, [(0, .string s26543), (2, sn), (3, v26545), (4, pt g26619 0), (5, .string (t26616.extract 0 t26615.toNat)), (7, .string s26543), (8, iv (s26543.size : Int)), (9, .bool true), (10, .string s26543), (11, .agg #[iv t26615, .string t26616, iv t26617]), (12, pt g26619 2), (13, iv t26617), (14, .bool false), (15, .bool false), (16, pt g26619 0), (17, iv t26615), (18, .bool false), (19, .bool false), (20, .bool false), (21, pt g26619 0), (22, iv t26615), (23, .bool false), (24, .bool false), (25, .bool false), (26, pt g26619 0), (27, iv t26615), (28, iv (wrap64 (t26615 + 4))), (29, pt g26619 1), (30, .string t26616), (31, iv (t26616.size : Int)), (32, .bool false), (33, .bool false), (35, pt g26619 1), (36, .string t26616), (37, pt g26619 0), (38, iv t26615), (39, .string (t26616.extract 0 t26615.toNat)), (40, pt g26619 1), (41, .string t26616), (42, pt g26619 0), (43, iv t26615), (44, pt g26619 0), (45, iv t26615), (46, iv (wrap64 (t26615 + 4))), (47, .string (t26616.extract t26615.toNat ((wrap64 (t26615 + 4)).toNat))), (48, .string (t26616.extract 0 t26615.toNat)), (49, .int .u32 t26664), (50, .string t26666), (51, .bool b26668)], [], [(g26619, 113, [iv t26615, .string t26616, iv t26617])], [(v26545, 9, 1, l26546.map enc_str)]⟩) (True) ?_ ?_
      · refine dw ⟨0, [], [], [(g26619, 113, [iv t26615, .string t26616, iv t26617])], []⟩ 12 <| av 0 1 rfl (op_fieldAddr FI113_1 rfl (add_at _ _ _)) <| av 1 3 rfl (op_load 0 1 rfl rfl TI9 rfl (by decide)) <| av 2 7 rfl (op_fieldAddr FI113_0 rfl (add_at _ _ _)) <|
         av 3 15 rfl (op_load 0 1 rfl rfl TI3 rfl (by decide)) <| av 4 31 rfl (op_fieldAddr FI113_0 rfl (add_at _ _ _)) <| av 5 63 rfl (op_load 0 1 rfl rfl TI3 rfl (by decide)) <| av 6 127 rfl (op_ari64 rfl rfl rfl) <|
         av 7 255 rfl (op_sliceS t26615.toNat ((wrap64 (t26615 + 4)).toNat) Tryz.underlying9 rfl ⟨⟨_, _, rfl, c26650, rfl⟩, ⟨_, _, rfl, c26661, rfl⟩, tN (a := t26615) (b := (wrap64 (t26615 + 4))) rfl rfl c26663, tN (a := (wrap64 (t26615 + 4))) (b := (t26616.size : Int)) rfl rfl c26662⟩ rfl) <|
         av 8 511 rfl (mv rfl) <| aC 9 1023 rfl (o_call0 FO37 (tarryref02_Of.ok k (t26616.extract 0 t26615.toNat) t26664 hA26665) rfl rfl (ltn rfl) (All_of .nil)) <| ?_
        rintro _ _ _ ⟨rfl, rfl, rfl⟩
        refine ⟨⟨trivial, ⟨⟨0, rfl⟩, trivial⟩, trivial⟩, ?_⟩
        refine aC 10 2047 rfl (o_call0 FO36 (tarryref02_Bytes.ok k t26664 t26666 hA26667) rfl rfl (ltn rfl) (All_of .nil)) <| ?_
        rintro _ _ _ ⟨rfl, rfl, rfl⟩
        refine ⟨⟨trivial, ⟨⟨0, rfl⟩, trivial⟩, trivial⟩, ?_⟩
        exact av 11 4095 rfl (op_cmps rfl rfl (congrArg some hb26668)) <| ad <| VN.meet0 [0] [0] trivial
      intro _
      replace h := iC h
      rcases h with ⟨c26669, h⟩ | ⟨c26669, h⟩
      · obtain rfl : b26668 = false := hb26668.symm.trans (bne_of_t c26669)
        refine cf <| sk <| sr <| vm rfl <| vm rfl <|
         sG (o_buildSlice (vals := [(0, .string (t26616.extract 0 t26615.toNat))]) (cells := #[.string (t26616.extract 0 t26615.toNat)]) (es := List.map enc_str ([t26616.extract 0 t26615.toNat] : List ByteArray)) Tryz.underlying22 TI9 Z9 rfl (by decide) (by decide) (by kernel_rfl) (by kernel_rfl) rfl (flat_map enc_str_ok _)) fun v26671 => ?_
        replace h := iN h
        obtain ⟨c26672, h⟩ := h
        refine sG (o_append 1 appm Tryz.underlying22 EI9 rfl rfl rfl (.inr ⟨0, _, rfl⟩) (bndm c26672)) fun v26673 => vs rfl <| dr <| va (op_fieldAddr FI113_1 rfl (add_at _ _ _)) <| va (op_load 0 1 rfl rfl TI9 rfl (by decide)) <| va (op_fieldAddr FI113_0 rfl (add_at _ _ _)) <|
         va (op_load 0 1 rfl rfl TI3 rfl (by decide)) <| va (op_ari64 rfl rfl rfl) <| va (op_sliceS ((wrap64 (t26615 + 4)).toNat) t26616.size Tryz.underlying9 rfl ⟨⟨_, _, rfl, c26661, rfl⟩, rfl, tN (a := (wrap64 (t26615 + 4))) (b := (t26616.size : Int)) rfl rfl c26662, Nat.le_refl _⟩ rfl) <| vs rfl <| dn <|
         VN.block <| VN.again [] [1] (ihl1 (t26616.extract ((wrap64 (t26615 + 4)).toNat) t26616.size) v26673 (l26546 ++ ([t26616.extract 0 t26615.toNat] : List ByteArray)) h)
      obtain rfl : b26668 = true := hb26668.symm.trans (bne_of_f c26669)
      refine ct <| sr <| vm rfl <| vs rfl <| dt <| VC.ret <| VR.then <| VR.block <| VR.then <| VR.block <| VR.then <| ?_
      obtain rfl := Option.some.inj h
      exact rf [.tmp 2] [0] (.tmp rfl .nil) ⟨v26545, rfl, rfl, rfl⟩
    obtain rfl : b26642 = true := hb26642.symm.trans (bne_iff_ne.2 c26643)
    refine un rfl <| un rfl <| un rfl <| va (op_pick rfl rfl) <| vm rfl <| un rfl <| un rfl <| un rfl <| va (op_pick rfl rfl) <| vm rfl <| un rfl <| un rfl <| un rfl <| un rfl <| un rfl <| un rfl <| un rfl <| va (op_pick rfl rfl) <| dt <| ct <| sr <| vm rfl <| vs rfl <| dt <| VC.ret <| VR.then <|
     VR.block <| VR.then <| VR.block <| VR.then <| ?_
    obtain rfl := Option.some.inj h
    exact rf [.tmp 2] [0] (.tmp rfl .nil) ⟨v26545, rfl, rfl, rfl⟩
  cases lF c26614 hb26613
  refine cf <| VC.exit <| VX.then <| VX.then <| VX.hit <| tx <| vm rfl <| vs rfl <| dt <| VC.ret <| ?_
  obtain rfl := Option.some.inj h
  exact rf [.tmp 2] [0] (.tmp rfl .nil) ⟨v26545, rfl, rfl, rfl⟩

theorem tarryref01_Number.ok (k : Nat) (a0 : Int)  (r1 : ByteArray) (h : tarryref01_Number.f k a0 = some r1) :
    VCalls Tryz.prog 35 [iv a0] [] (fun v G own => v = .string r1 ∧ G = [] ∧ own = []) := by
  refine VCalls.intro Tryz.func35 rfl (len rfl) fun E hC hW hD hU => ?_
  unfold tarryref01_Number.f at h
  refine sr <| vs rfl <| nx <| vs rfl <| ds <| sr <| vm rfl <| VL.letter (decide (a0 ≥ 0)) fun b26688 hb26688 => va (op_cmp rfl rfl (congrArg some hb26688)) <| dt <| ?_
  replace h := iC h
  rcases h with ⟨c26689, h⟩ | ⟨c26689, h⟩
  · cases lT c26689 hb26688
    refine ct <| rg <| vm rfl <| va (op_ari64 rfl rfl rfl) <| vs rfl <| nx <|
     sG (o_buildSlice (vals := []) (cells := #[]) (es := List.map enc_intu8 ([] : List Int)) Tryz.underlying68 TI5 Z5 rfl (by decide) (by decide) (by kernel_rfl) (by kernel_rfl) rfl (flat_map enc_intu8_ok _)) fun v26691 => vs rfl <| ds <| VC.block <|
     VC.loop3 (fun (i26732 : Int) (v26734 : Value) (l26735 : List Int) => ⟨32, [(2, .string (⟨#[]⟩ : ByteArray)), (3, iv i26732), (4, v26734)], [], [], [(v26734, 5, 1, l26735.map enc_intu8)]⟩) (fun (ml1 : Nat) (i26732 : Int) (v26734 : Value) (l26735 : List Int) => tarryref01_Number.l1 k ml1 i26732 l26735 = some r1) k (wrap64 (2 * a0)) v26691 ([] : List Int) [] [0] h ⟨rfl, ⟨rfl, rfl, rfl, trivial⟩, trivial, rfl, by decide, rfl, by decide⟩ (by intros; simp [tarryref01_Number.l1]) <|
     ?_
    clear h
    intro ml1 ihl1 i26732 v26734 l26735 h
    simp only [tarryref01_Number.l1] at h
    refine sq <| sr <| vm rfl <| VL.letter (decide (i26732 > 127)) fun b26752 hb26752 => va (op_cmp rfl rfl (congrArg some hb26752)) <| dt <| ?_
    replace h := iC h
    rcases h with ⟨c26753, h⟩ | ⟨c26753, h⟩
    · cases lT c26753 hb26752
      refine ct <| sk <| VC.block <| sr <| vm rfl <| vm rfl <| va (op_rem rfl rfl (by decide) rfl) <| va (op_ari64 rfl rfl rfl) <| va (op_conv Tryz.underlying3 Tryz.underlying5 rfl rfl) <|
       sG (o_buildSlice (vals := [(0, .int .u8 (IntKind.u8.wrap (wrap64 (128 + (i26732.tmod 128)))))]) (cells := #[.int .u8 (IntKind.u8.wrap (wrap64 (128 + (i26732.tmod 128))))]) (es := List.map enc_intu8 ([IntKind.u8.wrap (wrap64 (128 + (i26732.tmod 128)))] : List Int)) Tryz.underlying68 TI5 Z5 rfl (by decide) (by decide) (by kernel_rfl) (by kernel_rfl) rfl (flat_map enc_intu8_ok _)) fun v26755 => ?_
      replace h := iN h
      obtain ⟨c26756, h⟩ := h
      refine sG (o_append 1 appm Tryz.underlying68 EI5 rfl rfl rfl (.inr ⟨0, _, rfl⟩) (bndm c26756)) fun v26757 => vs rfl <| dr <| vm rfl <| va (op_quo rfl rfl (by decide) rfl) <| vs rfl <| dn <| VN.block <|
       VN.again [] [1] (ihl1 (IntKind.i64.wrap (i26732.tdiv 128)) v26757 (l26735 ++ ([IntKind.u8.wrap (wrap64 (128 + (i26732.tmod 128)))] : List Int)) h)
    cases lF c26753 hb26752
    refine cf <| VC.exit <| VX.then <| VX.then <| VX.hit <| tx <| vm rfl <| vm rfl <| va (op_conv Tryz.underlying3 Tryz.underlying5 rfl rfl) <|
     sG (o_buildSlice (vals := [(0, .int .u8 (IntKind.u8.wrap i26732))]) (cells := #[.int .u8 (IntKind.u8.wrap i26732)]) (es := List.map enc_intu8 ([IntKind.u8.wrap i26732] : List Int)) Tryz.underlying68 TI5 Z5 rfl (by decide) (by decide) (by kernel_rfl) (by kernel_rfl) rfl (flat_map enc_intu8_ok _)) fun v26760 => ?_
    replace h := iN h
    obtain ⟨c26761, h⟩ := h
    refine sG (o_append 1 appm Tryz.underlying68 EI5 rfl rfl rfl (.inr ⟨0, _, rfl⟩) (bndm c26761)) fun v26762 => vs rfl <| nx <| vm rfl <| va (op_bytesStr_own (xs := (l26735 ++ ([IntKind.u8.wrap i26732] : List Int))) 1 rfl rfl Tryz.underlying68 Tryz.underlying9 Tryz.underlying5 rfl rfl) <| vs rfl <|
     dt <| VC.ret <| ?_
    obtain rfl := Option.some.inj h
    exact rq 2 rfl ⟨rfl, rfl, rfl⟩
  cases lF c26689 hb26688
  refine cf <| rg <| vm rfl <| va (op_ari64 rfl rfl rfl) <| va (op_ari64 rfl rfl rfl) <| va (op_ari64 rfl rfl rfl) <| vs rfl <| nx <|
   sG (o_buildSlice (vals := []) (cells := #[]) (es := List.map enc_intu8 ([] : List Int)) Tryz.underlying68 TI5 Z5 rfl (by decide) (by decide) (by kernel_rfl) (by kernel_rfl) rfl (flat_map enc_intu8_ok _)) fun v26765 => vs rfl <| ds <| VC.block <|
   VC.loop3 (fun (i26806 : Int) (v26808 : Value) (l26809 : List Int) => ⟨32, [(2, .string (⟨#[]⟩ : ByteArray)), (3, iv i26806), (4, v26808)], [], [], [(v26808, 5, 1, l26809.map enc_intu8)]⟩) (fun (ml3 : Nat) (i26806 : Int) (v26808 : Value) (l26809 : List Int) => tarryref01_Number.l3 k ml3 i26806 l26809 = some r1) k (wrap64 ((wrap64 (2 * (wrap64 (0 - a0)))) - 1)) v26765 ([] : List Int) [] [0] h ⟨rfl, ⟨rfl, rfl, rfl, trivial⟩, trivial, rfl, by decide, rfl, by decide⟩ (by intros; simp [tarryref01_Number.l3]) <|
   ?_
  clear h
  intro ml3 ihl3 i26806 v26808 l26809 h
  simp only [tarryref01_Number.l3] at h
  refine sq <| sr <| vm rfl <| VL.letter (decide (i26806 > 127)) fun b26826 hb26826 => va (op_cmp rfl rfl (congrArg some hb26826)) <| dt <| ?_
  replace h := iC h
  rcases h with ⟨c26827, h⟩ | ⟨c26827, h⟩
  · cases lT c26827 hb26826
    refine ct <| sk <| VC.block <| sr <| vm rfl <| vm rfl <| va (op_rem rfl rfl (by decide) rfl) <| va (op_ari64 rfl rfl rfl) <| va (op_conv Tryz.underlying3 Tryz.underlying5 rfl rfl) <|
     sG (o_buildSlice (vals := [(0, .int .u8 (IntKind.u8.wrap (wrap64 (128 + (i26806.tmod 128)))))]) (cells := #[.int .u8 (IntKind.u8.wrap (wrap64 (128 + (i26806.tmod 128))))]) (es := List.map enc_intu8 ([IntKind.u8.wrap (wrap64 (128 + (i26806.tmod 128)))] : List Int)) Tryz.underlying68 TI5 Z5 rfl (by decide) (by decide) (by kernel_rfl) (by kernel_rfl) rfl (flat_map enc_intu8_ok _)) fun v26829 => ?_
    replace h := iN h
    obtain ⟨c26830, h⟩ := h
    refine sG (o_append 1 appm Tryz.underlying68 EI5 rfl rfl rfl (.inr ⟨0, _, rfl⟩) (bndm c26830)) fun v26831 => vs rfl <| dr <| vm rfl <| va (op_quo rfl rfl (by decide) rfl) <| vs rfl <| dn <| VN.block <|
     VN.again [] [1] (ihl3 (IntKind.i64.wrap (i26806.tdiv 128)) v26831 (l26809 ++ ([IntKind.u8.wrap (wrap64 (128 + (i26806.tmod 128)))] : List Int)) h)
  cases lF c26827 hb26826
  refine cf <| VC.exit <| VX.then <| VX.then <| VX.hit <| tx <| vm rfl <| vm rfl <| va (op_conv Tryz.underlying3 Tryz.underlying5 rfl rfl) <|
   sG (o_buildSlice (vals := [(0, .int .u8 (IntKind.u8.wrap i26806))]) (cells := #[.int .u8 (IntKind.u8.wrap i26806)]) (es := List.map enc_intu8 ([IntKind.u8.wrap i26806] : List Int)) Tryz.underlying68 TI5 Z5 rfl (by decide) (by decide) (by kernel_rfl) (by kernel_rfl) rfl (flat_map enc_intu8_ok _)) fun v26834 => ?_
  replace h := iN h
  obtain ⟨c26835, h⟩ := h
  refine sG (o_append 1 appm Tryz.underlying68 EI5 rfl rfl rfl (.inr ⟨0, _, rfl⟩) (bndm c26835)) fun v26836 => vs rfl <| nx <| vm rfl <| va (op_bytesStr_own (xs := (l26809 ++ ([IntKind.u8.wrap i26806] : List Int))) 1 rfl rfl Tryz.underlying68 Tryz.underlying9 Tryz.underlying5 rfl rfl) <| vs rfl <|
   dt <| VC.ret <| ?_
  obtain rfl := Option.some.inj h
  exact rq 2 rfl ⟨rfl, rfl, rfl⟩

theorem tarryref04_Frame.ok (k : Nat) (a0 : ByteArray)  (r1 : ByteArray) (h : tarryref04_Frame.f k a0 = some r1) :
    VCalls Tryz.prog 15 [.string a0] [] (fun v G own => v = .string r1 ∧ G = [] ∧ own = []) := by
  refine VCalls.intro Tryz.func15 rfl (len rfl) fun E hC hW hD hU => ?_
  unfold tarryref04_Frame.f at h
  refine sr <| vs rfl <| nx <| vm rfl <| va (op_lens Tryz.underlying9 rfl) <| ?_
  replace h := bd h
  obtain ⟨t26838, hA26839, h⟩ := h
  refine sC (o_call0 FO35 (tarryref01_Number.ok k (a0.size : Int) t26838 hA26839) rfl rfl (ltn rfl) (All_of .nil)) <| ?_
  rintro _ _ _ ⟨rfl, rfl, rfl⟩
  refine vm rfl <| ?_
  replace h := iN h
  obtain ⟨c26840, h⟩ := h
  refine va (op_adds rfl rfl rfl c26840) <| vm rfl <| ?_
  replace h := bd h
  obtain ⟨t26841, hA26842, h⟩ := h
  refine sC (o_call0 FO37 (tarryref02_Of.ok k a0 t26841 hA26842) rfl rfl (ltn rfl) (All_of .nil)) <| ?_
  rintro _ _ _ ⟨rfl, rfl, rfl⟩
  replace h := bd h
  obtain ⟨t26843, hA26844, h⟩ := h
  refine sC (o_call0 FO36 (tarryref02_Bytes.ok k t26841 t26843 hA26844) rfl rfl (ltn rfl) (All_of .nil)) <| ?_
  rintro _ _ _ ⟨rfl, rfl, rfl⟩
  replace h := iN h
  obtain ⟨c26845, h⟩ := h
  refine va (op_adds rfl rfl rfl c26845) <| vs rfl <| dt <| VC.ret <| ?_
  obtain rfl := Option.some.inj h
  exact rq 2 rfl ⟨rfl, rfl, rfl⟩

theorem tarryref04_Whole.ok (k : Nat) (l0 : List ByteArray) (v0 : Value) (r1 : ByteArray) (h : tarryref04_Whole.f k l0 = some r1) :
    VCalls Tryz.prog 14 [v0] [.row v0 1 (l0.map enc_str)] (fun v G own => v = .string r1 ∧ G = [] ∧ own = []) := by
  refine VCalls.intro Tryz.func14 rfl (len rfl) fun E hC hW hD hU => ?_
  unfold tarryref04_Whole.f at h
  refine sr <| vs rfl <| nx <| vs rfl <| ds <| sr <| vm rfl <| va (op_len (m := l0.length) 0 lenm Tryz.underlying22 rfl rfl) <| vm rfl <| dt <| VC.block <|
   VC.loop2 (fun (s26880 : ByteArray) (i26881 : Int) => ⟨18, [(2, .string (⟨#[]⟩ : ByteArray)), (3, .string s26880), (6, v0), (7, iv (l0.length : Int)), (8, iv i26881)], [.row v0 1 (l0.map enc_str)], [], []⟩) (fun (ml1 : Nat) (s26880 : ByteArray) (i26881 : Int) => tarryref04_Whole.l1 k l0 ml1 s26880 i26881 = some r1) k (⟨#[]⟩ : ByteArray) 0 [] [] h ⟨rfl, ⟨rfl, rfl, rfl, rfl, rfl, trivial⟩, ⟨⟨0, rfl⟩, trivial⟩, rfl, by decide, rfl, by decide⟩ (by intros; simp [tarryref04_Whole.l1]) <|
   ?_
  clear h
  intro ml1 ihl1 s26880 i26881 h
  simp only [tarryref04_Whole.l1] at h
  refine sr <| VL.letter (decide (i26881 < (l0.length : Int))) fun b26892 hb26892 => va (op_cmp rfl rfl (congrArg some hb26892)) <| ds <| ?_
  replace h := iC h
  rcases h with ⟨c26894, h⟩ | ⟨c26894, h⟩
  · cases lT c26894 hb26892
    refine ct <| sk <| sq <| VC.block <| sr <| ?_
    replace h := iN h
    obtain ⟨c26895, h⟩ := h
    replace h := bd h
    obtain ⟨x26896, hx26896, h⟩ := h
    refine VL.open (m := l0.length) 0 lenm rfl (pos_get hx26896) <| ?_
    rintro ad26897 n26898 rfl
    refine va (op_indexAddr Tryz.underlying22 TI9 rfl rfl c26895 (lt_get c26895 hx26896) rfl) <| va (op_load_row (sz := 1) (o := 0) 0 i26881.toNat 1 rfl rfl (get_map hx26896) TI9 rfl (by decide)) <| vs rfl <| dr <| vm rfl <| vm rfl <| ?_
    replace h := bd h
    obtain ⟨t26899, hA26900, h⟩ := h
    refine sC (o_call0 FO15 (tarryref04_Frame.ok k x26896 t26899 hA26900) rfl rfl (ltn rfl) (All_of .nil)) <| ?_
    rintro _ _ _ ⟨rfl, rfl, rfl⟩
    replace h := iN h
    obtain ⟨c26901, h⟩ := h
    refine va (op_adds rfl rfl rfl c26901) <| vs rfl <| dn <| VN.block <| tr <| va (op_ari64 rfl rfl rfl) <| vm rfl <| dn <| VN.again [] [] (ihl1 (s26880 ++ t26899) (wrap64 (i26881 + 1)) h)
  cases lF c26894 hb26892
  refine cf <| VC.exit <| VX.then <| VX.then <| VX.hit <| tx <| vm rfl <| vs rfl <| dt <| VC.ret <| ?_
  obtain rfl := Option.some.inj h
  exact rq 2 rfl ⟨rfl, rfl, rfl⟩

end Go.Proofs.YtipeglbeongfmaaGreat.PJournalCrashes
