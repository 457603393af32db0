/- Written by a program of this repo: what the program's functions do, each as a Lean function, shown of the loaded code; or a statement's row over that; no condition of its own. -/
import Derived.Test.YtipeglbeongfmaaGreatPJournalCrashesx11
namespace Go.Proofs.YtipeglbeongfmaaGreat.PJournalCrashes
open Go Go.RowKit Go.Proofs.YtipeglbeongfmaaGreatV
set_option linter.unusedVariables false
set_option linter.unusedSimpArgs false
set_option maxHeartbeats 4000000
set_option maxRecDepth 100000

theorem tarryref05_read.ok (k : Nat) (l0_0 : List ByteArray) (l0_1 : List S71) (a1 : Int) (v0_0 : Value) (v0_1 : Value) (r1 : List ByteArray) (r2 : List S71) (r3 : Int) (r4 : Int) (r5 : Int) (r6 : List ByteArray) (r7 : List ByteArray) (h : tarryref05_read.f k l0_0 l0_1 a1 = some (r1, r2, r3, r4, r5, r6, r7)) :
    VCalls Tryz.prog 58 [.agg #[v0_0, v0_1], iv a1] [.row v0_0 1 (l0_0.map enc_str), .row v0_1 2 (l0_1.map enc71)] (fun v G own => ∃ w0 w1 w5 w6 : Value, v = .agg #[w0, w1, iv r3, iv r4, iv r5, w5, w6] ∧ G = [] ∧ own = [(w0, 9, 1, r1.map enc_str), (w1, 72, 2, r2.map enc71), (w5, 9, 1, r6.map enc_str), (w6, 9, 1, r7.map enc_str)]) := by
  refine VCalls.intro Tryz.func58 rfl (len rfl) fun E hC hW hD hU => ?_
  unfold tarryref05_read.f at h
  refine sr <| sG (o_box rfl (.agg (.f 0 rfl (.f 1 rfl .nil)))) fun g9452 => sG (o_alloc Z27 ZL27) fun g9453 => nx <| va (op_fieldAddr FI25_0 rfl (add_at _ _ _)) <| va (op_load 1 1 rfl rfl TI22 rfl (by decide)) <| vm rfl <| ?_
  replace h := iN h
  obtain ⟨c9454, h⟩ := h
  replace h := bd h
  obtain ⟨x9455, hx9455, h⟩ := h
  refine VL.open (m := l0_0.length) 0 lenm rfl (pos_get hx9455) <| ?_
  rintro ad9456 n9457 rfl
  refine va (op_indexAddr Tryz.underlying22 TI9 rfl rfl c9454 (lt_get c9454 hx9455) rfl) <| va (op_load_row (sz := 1) (o := 0) 0 a1.toNat 1 rfl rfl (get_map hx9455) TI9 rfl (by decide)) <| vs rfl <| dt <| ?_
  replace h := iN h
  obtain ⟨c9458, h⟩ := h
  replace h := iN h
  obtain ⟨c9459, h⟩ := h
  replace h := bd h
  obtain ⟨t9536, hA9537, h⟩ := h
  replace h := iN h
  obtain ⟨c9538, h⟩ := h
  replace h := iN h
  obtain ⟨c9539, h⟩ := h
  replace h := iN h
  obtain ⟨c9540, h⟩ := h
  replace h := bd h
  obtain ⟨t9541, hA9542, h⟩ := h
  refine VC.join1 (fun (g9543 : Nat) => ⟨69, [(1, iv a1), (2, pt g9452 0), (4, pt g9453 0), (5, .string x9455), (6, pt g9543 0)], [.row (.slice (some ad9456) l0_0.length n9457) 1 (l0_0.map enc_str), .row v0_1 2 (l0_1.map enc71)], [(g9543, 27, [sn, sn, iv t9536, iv (wrap64 (bt x9455 5)), iv t9541, sn, sn]), (g9453, 27, [sn, sn, iv 0, iv 0, iv 0, sn, sn]), (g9452, 25, [(.slice (some ad9456) l0_0.length n9457), v0_1])], []⟩) (fun (g9543 : Nat) => True) ?_ ?_
  · refine dw ⟨0, [], [], [], []⟩ 12 <| av 0 1 rfl (mv rfl) <| av 1 3 rfl (op_sliceS 6 14 Tryz.underlying9 rfl ⟨⟨_, _, rfl, (by decide), rfl⟩, ⟨_, _, rfl, (by decide), rfl⟩, by decide, tN (a := (14 : Int)) (b := (x9455.size : Int)) rfl rfl c9458⟩ rfl) <| av 3 11 rfl (mv rfl) <|
     av 4 27 rfl (op_indexS Tryz.underlying9 rfl rfl (by decide) c9538 rfl) <| av 5 59 rfl (op_conv Tryz.underlying5 Tryz.underlying3 rfl (i64w _)) <| av 6 123 rfl (mv rfl) <|
     av 7 251 rfl (op_sliceS 14 18 Tryz.underlying9 rfl ⟨⟨_, _, rfl, (by decide), rfl⟩, ⟨_, _, rfl, (by decide), rfl⟩, by decide, tN (a := (18 : Int)) (b := (x9455.size : Int)) rfl rfl c9539⟩ rfl) <| VA.all [2, 10] (by kernel_rfl) (by simp) <|
     VAll.consC (listed' := LB 12 255) rfl (o_call0 FO77 (tarryref05_number.ok k (x9455.extract 6 14) t9536 hA9537) rfl rfl (ltn rfl) (All_of .nil)) rfl (by kernel_rfl) ?_ ?_
    · rintro _ _ _ ⟨rfl, rfl, rfl⟩
      refine ⟨⟨trivial, trivial, trivial⟩, ?_⟩
      refine VA.all [8, 10] (by kernel_rfl) (by simp) <| VAll.consC (listed' := LB 12 511) rfl (o_call0 FO77 (tarryref05_number.ok k (x9455.extract 14 18) t9541 hA9542) rfl rfl (ltn rfl) (All_of .nil)) rfl (by kernel_rfl) ?_ ?_
      · rintro _ _ _ ⟨rfl, rfl, rfl⟩
        refine ⟨⟨trivial, trivial, trivial⟩, ?_⟩
        exact av 9 1023 rfl (op_build (vals := [(1, iv t9536), (2, iv (wrap64 (bt x9455 5))), (3, iv t9541)]) (vcs := [(1, [iv t9536]), (2, [iv (wrap64 (bt x9455 5))]), (3, [iv t9541])]) (cells := [sn, sn, iv t9536, iv (wrap64 (bt x9455 5)), iv t9541, sn, sn]) SI27 rfl (.cons ⟨rfl, (.c rfl)⟩ (.cons ⟨rfl, (.c rfl)⟩ (.cons ⟨rfl, (.c rfl)⟩ .nil))) (by kernel_rfl)) <|
         aG 10 2047 rfl (o_alloc Z27 ZL27) fun g9543 => aO 11 4095 rfl (o_store 0 7 rfl rfl rfl TI27 (.agg (.of rfl)) rfl (len rfl)) <| ad <| VN.meet1 g9543 [0, 1, 2] [] trivial
      refine VAll.consG (listed' := LB 12 1279) rfl (o_alloc Z27 ZL27) rfl (by kernel_rfl) (fun _ => ⟨trivial, trivial, trivial⟩) ?_ VAll.nil
      intro g9543
      refine aC 8 1535 rfl (o_call0 FO77 (tarryref05_number.ok k (x9455.extract 14 18) t9541 hA9542) rfl rfl (ltn rfl) (All_of .nil)) <| ?_
      rintro _ _ _ ⟨rfl, rfl, rfl⟩
      refine ⟨⟨trivial, trivial, trivial⟩, ?_⟩
      exact av 9 2047 rfl (op_build (vals := [(1, iv t9536), (2, iv (wrap64 (bt x9455 5))), (3, iv t9541)]) (vcs := [(1, [iv t9536]), (2, [iv (wrap64 (bt x9455 5))]), (3, [iv t9541])]) (cells := [sn, sn, iv t9536, iv (wrap64 (bt x9455 5)), iv t9541, sn, sn]) SI27 rfl (.cons ⟨rfl, (.c rfl)⟩ (.cons ⟨rfl, (.c rfl)⟩ (.cons ⟨rfl, (.c rfl)⟩ .nil))) (by kernel_rfl)) <|
       aO 11 4095 rfl (o_store 0 7 rfl rfl rfl TI27 (.agg (.of rfl)) rfl (len rfl)) <| ad <| VN.meet1 g9543 [0, 1, 2] [] trivial
    refine VAll.consG (listed' := LB 12 1275) rfl (o_alloc Z27 ZL27) rfl (by kernel_rfl) (fun _ => ⟨trivial, trivial, trivial⟩) ?_ VAll.nil
    intro g9543
    refine aC 2 1279 rfl (o_call0 FO77 (tarryref05_number.ok k (x9455.extract 6 14) t9536 hA9537) rfl rfl (ltn rfl) (All_of .nil)) <| ?_
    rintro _ _ _ ⟨rfl, rfl, rfl⟩
    refine ⟨⟨trivial, trivial, trivial⟩, ?_⟩
    refine aC 8 1535 rfl (o_call0 FO77 (tarryref05_number.ok k (x9455.extract 14 18) t9541 hA9542) rfl rfl (ltn rfl) (All_of .nil)) <| ?_
    rintro _ _ _ ⟨rfl, rfl, rfl⟩
    refine ⟨⟨trivial, trivial, trivial⟩, ?_⟩
    exact av 9 2047 rfl (op_build (vals := [(1, iv t9536), (2, iv (wrap64 (bt x9455 5))), (3, iv t9541)]) (vcs := [(1, [iv t9536]), (2, [iv (wrap64 (bt x9455 5))]), (3, [iv t9541])]) (cells := [sn, sn, iv t9536, iv (wrap64 (bt x9455 5)), iv t9541, sn, sn]) SI27 rfl (.cons ⟨rfl, (.c rfl)⟩ (.cons ⟨rfl, (.c rfl)⟩ (.cons ⟨rfl, (.c rfl)⟩ .nil))) (by kernel_rfl)) <|
     aO 11 4095 rfl (o_store 0 7 rfl rfl rfl TI27 (.agg (.of rfl)) rfl (len rfl)) <| ad <| VN.meet1 g9543 [0, 1, 2] [] trivial
  intro g9543 _
  refine sq <| VC.letter (decide (t9536 < 1)) fun b9699 hb9699 => ?_
  replace h := iC h
  rcases h with ⟨c9700, h⟩ | ⟨c9700, h⟩
  · cases lT c9700 hb9699
    refine VC.join0 (⟨69, [(4, pt g9453 0), (6, pt g9543 0), (66, .bool true)], [], [(g9543, 27, [sn, sn, iv t9536, iv (wrap64 (bt x9455 5)), iv t9541, sn, sn]), (g9453, 27, [sn, sn, iv 0, iv 0, iv 0, sn, sn])], []⟩) (True) ?_ ?_
    · exact dw ⟨0, [], [], [(g9543, 27, [sn, sn, iv t9536, iv (wrap64 (bt x9455 5)), iv t9541, sn, sn])], []⟩ 45 <| av 0 1 rfl (op_fieldAddr FI27_1 rfl (add_at _ _ _)) <| av 1 3 rfl (op_load 0 1 rfl rfl TI3 rfl (by decide)) <|
       av 2 7 rfl (op_cmp rfl rfl (congrArg some hb9699)) <| av 3 15 rfl (mv rfl) <| au 4 31 rfl rfl <| au 5 63 rfl rfl <| au 6 127 rfl rfl <| av 7 255 rfl (op_pick rfl rfl) <| av 8 511 rfl (mv rfl) <| au 9 1023 rfl rfl <| au 10 2047 rfl rfl <| au 11 4095 rfl rfl <| au 12 8191 rfl rfl <|
       au 13 16383 rfl rfl <| av 14 32767 rfl (op_pick rfl rfl) <| av 15 65535 rfl (mv rfl) <| au 16 131071 rfl rfl <| au 17 262143 rfl rfl <| au 18 524287 rfl rfl <| av 19 1048575 rfl (op_pick rfl rfl) <| av 20 2097151 rfl (mv rfl) <| au 21 4194303 rfl rfl <| au 22 8388607 rfl rfl <|
       au 23 16777215 rfl rfl <| av 24 33554431 rfl (op_pick rfl rfl) <| av 25 67108863 rfl (mv rfl) <| au 26 134217727 rfl rfl <| au 27 268435455 rfl rfl <| au 28 536870911 rfl rfl <| au 29 1073741823 rfl rfl <| au 30 2147483647 rfl rfl <| au 31 4294967295 rfl rfl <| au 32 8589934591 rfl rfl <|
       av 33 17179869183 rfl (op_pick rfl rfl) <| av 34 34359738367 rfl (mv rfl) <| au 35 68719476735 rfl rfl <| au 36 137438953471 rfl rfl <| au 37 274877906943 rfl rfl <| au 38 549755813887 rfl rfl <| au 39 1099511627775 rfl rfl <| au 40 2199023255551 rfl rfl <| au 41 4398046511103 rfl rfl <|
       au 42 8796093022207 rfl rfl <| au 43 17592186044415 rfl rfl <| av 44 35184372088831 rfl (op_pick rfl rfl) <| ad <| VN.meet0 [0, 1] [] trivial
    intro _
    refine ct <| sr <| va (op_build (vals := []) (vcs := []) (cells := [sn, sn, iv 0, iv 0, iv 0, sn, sn]) SI27 rfl .nil (by kernel_rfl)) <| s1 (o_store 1 7 rfl rfl rfl TI27 (.agg (.of rfl)) rfl (len rfl)) <| dt <| VC.ret <|
     VR.then <| ?_
    simp only [Option.some.injEq, Prod.mk.injEq] at h
    obtain ⟨rfl, rfl, rfl, rfl, rfl, rfl, rfl⟩ := h
    exact VR.nilRow' 9 1 <| VR.nilRow' 72 2 <| VR.nilRow' 9 1 <| VR.nilRow' 9 1 <| rf [.cell 4 27] [3, 2, 1, 0] (.cell 1 rfl rfl TI27 (fun h => absurd h (by decide)) .nil) ⟨sn, sn, sn, sn, rfl, rfl, rfl⟩
  cases lF c9700 hb9699
  refine VC.letter (decide (t9536 > 1099511627776)) fun b9705 hb9705 => ?_
  replace h := iC h
  rcases h with ⟨c9706, h⟩ | ⟨c9706, h⟩
  · cases lT c9706 hb9705
    refine VC.join0 (⟨69, [(4, pt g9453 0), (6, pt g9543 0), (66, .bool true)], [], [(g9543, 27, [sn, sn, iv t9536, iv (wrap64 (bt x9455 5)), iv t9541, sn, sn]), (g9453, 27, [sn, sn, iv 0, iv 0, iv 0, sn, sn])], []⟩) (True) ?_ ?_
    · exact dw ⟨0, [], [], [(g9543, 27, [sn, sn, iv t9536, iv (wrap64 (bt x9455 5)), iv t9541, sn, sn])], []⟩ 45 <| av 0 1 rfl (op_fieldAddr FI27_1 rfl (add_at _ _ _)) <| av 1 3 rfl (op_load 0 1 rfl rfl TI3 rfl (by decide)) <|
       av 2 7 rfl (op_cmp rfl rfl (congrArg some hb9699)) <| av 3 15 rfl (mv rfl) <| av 4 31 rfl (op_fieldAddr FI27_1 rfl (add_at _ _ _)) <| av 5 63 rfl (op_load 0 1 rfl rfl TI3 rfl (by decide)) <| av 6 127 rfl (op_cmp rfl rfl (congrArg some hb9705)) <| av 7 255 rfl (op_pick rfl rfl) <|
       av 8 511 rfl (mv rfl) <| au 9 1023 rfl rfl <| au 10 2047 rfl rfl <| au 11 4095 rfl rfl <| au 12 8191 rfl rfl <| au 13 16383 rfl rfl <| av 14 32767 rfl (op_pick rfl rfl) <| av 15 65535 rfl (mv rfl) <| au 16 131071 rfl rfl <| au 17 262143 rfl rfl <| au 18 524287 rfl rfl <|
       av 19 1048575 rfl (op_pick rfl rfl) <| av 20 2097151 rfl (mv rfl) <| au 21 4194303 rfl rfl <| au 22 8388607 rfl rfl <| au 23 16777215 rfl rfl <| av 24 33554431 rfl (op_pick rfl rfl) <| av 25 67108863 rfl (mv rfl) <| au 26 134217727 rfl rfl <| au 27 268435455 rfl rfl <| au 28 536870911 rfl rfl <|
       au 29 1073741823 rfl rfl <| au 30 2147483647 rfl rfl <| au 31 4294967295 rfl rfl <| au 32 8589934591 rfl rfl <| av 33 17179869183 rfl (op_pick rfl rfl) <| av 34 34359738367 rfl (mv rfl) <| au 35 68719476735 rfl rfl <| au 36 137438953471 rfl rfl <| au 37 274877906943 rfl rfl <|
       au 38 549755813887 rfl rfl <| au 39 1099511627775 rfl rfl <| au 40 2199023255551 rfl rfl <| au 41 4398046511103 rfl rfl <| au 42 8796093022207 rfl rfl <| au 43 17592186044415 rfl rfl <| av 44 35184372088831 rfl (op_pick rfl rfl) <| ad <| VN.meet0 [0, 1] [] trivial
    intro _
    refine ct <| sr <| va (op_build (vals := []) (vcs := []) (cells := [sn, sn, iv 0, iv 0, iv 0, sn, sn]) SI27 rfl .nil (by kernel_rfl)) <| s1 (o_store 1 7 rfl rfl rfl TI27 (.agg (.of rfl)) rfl (len rfl)) <| dt <| VC.ret <|
     VR.then <| ?_
    simp only [Option.some.injEq, Prod.mk.injEq] at h
    obtain ⟨rfl, rfl, rfl, rfl, rfl, rfl, rfl⟩ := h
    exact VR.nilRow' 9 1 <| VR.nilRow' 72 2 <| VR.nilRow' 9 1 <| VR.nilRow' 9 1 <| rf [.cell 4 27] [3, 2, 1, 0] (.cell 1 rfl rfl TI27 (fun h => absurd h (by decide)) .nil) ⟨sn, sn, sn, sn, rfl, rfl, rfl⟩
  cases lF c9706 hb9705
  refine VC.letter (((t9536.tmod 2) != a1)) fun b9711 hb9711 => ?_
  replace h := iC h
  rcases h with ⟨c9712, h⟩ | ⟨c9712, h⟩
  · obtain rfl : b9711 = false := hb9711.symm.trans (bne_eq_false_iff_eq.2 c9712)
    refine VC.letter (decide ((wrap64 (bt x9455 5)) > 1)) fun b9713 hb9713 => ?_
    replace h := iC h
    rcases h with ⟨c9714, h⟩ | ⟨c9714, h⟩
    · cases lT c9714 hb9713
      refine VC.join0 (⟨69, [(4, pt g9453 0), (6, pt g9543 0), (66, .bool true)], [], [(g9543, 27, [sn, sn, iv t9536, iv (wrap64 (bt x9455 5)), iv t9541, sn, sn]), (g9453, 27, [sn, sn, iv 0, iv 0, iv 0, sn, sn])], []⟩) (True) ?_ ?_
      · exact dw ⟨0, [], [], [(g9543, 27, [sn, sn, iv t9536, iv (wrap64 (bt x9455 5)), iv t9541, sn, sn])], []⟩ 45 <| av 0 1 rfl (op_fieldAddr FI27_1 rfl (add_at _ _ _)) <| av 1 3 rfl (op_load 0 1 rfl rfl TI3 rfl (by decide)) <|
         av 2 7 rfl (op_cmp rfl rfl (congrArg some hb9699)) <| av 3 15 rfl (mv rfl) <| av 4 31 rfl (op_fieldAddr FI27_1 rfl (add_at _ _ _)) <| av 5 63 rfl (op_load 0 1 rfl rfl TI3 rfl (by decide)) <| av 6 127 rfl (op_cmp rfl rfl (congrArg some hb9705)) <| av 7 255 rfl (op_pick rfl rfl) <|
         av 8 511 rfl (mv rfl) <| av 9 1023 rfl (op_fieldAddr FI27_1 rfl (add_at _ _ _)) <| av 10 2047 rfl (op_load 0 1 rfl rfl TI3 rfl (by decide)) <| av 11 4095 rfl (op_rem rfl rfl (by decide) rfl) <| av 12 8191 rfl (mv rfl) <| av 13 16383 rfl (op_cmp rfl rfl (congrArg some hb9711)) <|
         av 14 32767 rfl (op_pick rfl rfl) <| av 15 65535 rfl (mv rfl) <| av 16 131071 rfl (op_fieldAddr FI27_2 rfl (add_at _ _ _)) <| av 17 262143 rfl (op_load 0 1 rfl rfl TI3 rfl (by decide)) <| av 18 524287 rfl (op_cmp rfl rfl (congrArg some hb9713)) <| av 19 1048575 rfl (op_pick rfl rfl) <|
         av 20 2097151 rfl (mv rfl) <| au 21 4194303 rfl rfl <| au 22 8388607 rfl rfl <| au 23 16777215 rfl rfl <| av 24 33554431 rfl (op_pick rfl rfl) <| av 25 67108863 rfl (mv rfl) <| au 26 134217727 rfl rfl <| au 27 268435455 rfl rfl <| au 28 536870911 rfl rfl <| au 29 1073741823 rfl rfl <|
         au 30 2147483647 rfl rfl <| au 31 4294967295 rfl rfl <| au 32 8589934591 rfl rfl <| av 33 17179869183 rfl (op_pick rfl rfl) <| av 34 34359738367 rfl (mv rfl) <| au 35 68719476735 rfl rfl <| au 36 137438953471 rfl rfl <| au 37 274877906943 rfl rfl <| au 38 549755813887 rfl rfl <|
         au 39 1099511627775 rfl rfl <| au 40 2199023255551 rfl rfl <| au 41 4398046511103 rfl rfl <| au 42 8796093022207 rfl rfl <| au 43 17592186044415 rfl rfl <| av 44 35184372088831 rfl (op_pick rfl rfl) <| ad <| VN.meet0 [0, 1] [] trivial
      intro _
      refine ct <| sr <| va (op_build (vals := []) (vcs := []) (cells := [sn, sn, iv 0, iv 0, iv 0, sn, sn]) SI27 rfl .nil (by kernel_rfl)) <| s1 (o_store 1 7 rfl rfl rfl TI27 (.agg (.of rfl)) rfl (len rfl)) <| dt <| VC.ret <|
       VR.then <| ?_
      simp only [Option.some.injEq, Prod.mk.injEq] at h
      obtain ⟨rfl, rfl, rfl, rfl, rfl, rfl, rfl⟩ := h
      exact VR.nilRow' 9 1 <| VR.nilRow' 72 2 <| VR.nilRow' 9 1 <| VR.nilRow' 9 1 <| rf [.cell 4 27] [3, 2, 1, 0] (.cell 1 rfl rfl TI27 (fun h => absurd h (by decide)) .nil) ⟨sn, sn, sn, sn, rfl, rfl, rfl⟩
    cases lF c9714 hb9713
    refine VC.letter (decide (t9541 < 0)) fun b9719 hb9719 => ?_
    replace h := iC h
    rcases h with ⟨c9720, h⟩ | ⟨c9720, h⟩
    · cases lT c9720 hb9719
      refine VC.join0 (⟨69, [(4, pt g9453 0), (6, pt g9543 0), (66, .bool true)], [], [(g9543, 27, [sn, sn, iv t9536, iv (wrap64 (bt x9455 5)), iv t9541, sn, sn]), (g9453, 27, [sn, sn, iv 0, iv 0, iv 0, sn, sn])], []⟩) (True) ?_ ?_
      · exact dw ⟨0, [], [], [(g9543, 27, [sn, sn, iv t9536, iv (wrap64 (bt x9455 5)), iv t9541, sn, sn])], []⟩ 45 <| av 0 1 rfl (op_fieldAddr FI27_1 rfl (add_at _ _ _)) <| av 1 3 rfl (op_load 0 1 rfl rfl TI3 rfl (by decide)) <|
         av 2 7 rfl (op_cmp rfl rfl (congrArg some hb9699)) <| av 3 15 rfl (mv rfl) <| av 4 31 rfl (op_fieldAddr FI27_1 rfl (add_at _ _ _)) <| av 5 63 rfl (op_load 0 1 rfl rfl TI3 rfl (by decide)) <| av 6 127 rfl (op_cmp rfl rfl (congrArg some hb9705)) <| av 7 255 rfl (op_pick rfl rfl) <|
         av 8 511 rfl (mv rfl) <| av 9 1023 rfl (op_fieldAddr FI27_1 rfl (add_at _ _ _)) <| av 10 2047 rfl (op_load 0 1 rfl rfl TI3 rfl (by decide)) <| av 11 4095 rfl (op_rem rfl rfl (by decide) rfl) <| av 12 8191 rfl (mv rfl) <| av 13 16383 rfl (op_cmp rfl rfl (congrArg some hb9711)) <|
         av 14 32767 rfl (op_pick rfl rfl) <| av 15 65535 rfl (mv rfl) <| av 16 131071 rfl (op_fieldAddr FI27_2 rfl (add_at _ _ _)) <| av 17 262143 rfl (op_load 0 1 rfl rfl TI3 rfl (by decide)) <| av 18 524287 rfl (op_cmp rfl rfl (congrArg some hb9713)) <| av 19 1048575 rfl (op_pick rfl rfl) <|
         av 20 2097151 rfl (mv rfl) <| av 21 4194303 rfl (op_fieldAddr FI27_3 rfl (add_at _ _ _)) <| av 22 8388607 rfl (op_load 0 1 rfl rfl TI3 rfl (by decide)) <| av 23 16777215 rfl (op_cmp rfl rfl (congrArg some hb9719)) <| av 24 33554431 rfl (op_pick rfl rfl) <| av 25 67108863 rfl (mv rfl) <|
         au 26 134217727 rfl rfl <| au 27 268435455 rfl rfl <| au 28 536870911 rfl rfl <| au 29 1073741823 rfl rfl <| au 30 2147483647 rfl rfl <| au 31 4294967295 rfl rfl <| au 32 8589934591 rfl rfl <| av 33 17179869183 rfl (op_pick rfl rfl) <| av 34 34359738367 rfl (mv rfl) <| au 35 68719476735 rfl rfl <|
         au 36 137438953471 rfl rfl <| au 37 274877906943 rfl rfl <| au 38 549755813887 rfl rfl <| au 39 1099511627775 rfl rfl <| au 40 2199023255551 rfl rfl <| au 41 4398046511103 rfl rfl <| au 42 8796093022207 rfl rfl <| au 43 17592186044415 rfl rfl <| av 44 35184372088831 rfl (op_pick rfl rfl) <| ad <|
         VN.meet0 [0, 1] [] trivial
      intro _
      refine ct <| sr <| va (op_build (vals := []) (vcs := []) (cells := [sn, sn, iv 0, iv 0, iv 0, sn, sn]) SI27 rfl .nil (by kernel_rfl)) <| s1 (o_store 1 7 rfl rfl rfl TI27 (.agg (.of rfl)) rfl (len rfl)) <| dt <| VC.ret <|
       VR.then <| ?_
      simp only [Option.some.injEq, Prod.mk.injEq] at h
      obtain ⟨rfl, rfl, rfl, rfl, rfl, rfl, rfl⟩ := h
      exact VR.nilRow' 9 1 <| VR.nilRow' 72 2 <| VR.nilRow' 9 1 <| VR.nilRow' 9 1 <| rf [.cell 4 27] [3, 2, 1, 0] (.cell 1 rfl rfl TI27 (fun h => absurd h (by decide)) .nil) ⟨sn, sn, sn, sn, rfl, rfl, rfl⟩
    cases lF c9720 hb9719
    replace h := bd h
    obtain ⟨t9725, hA9726, h⟩ := h
    refine VC.letter (decide (t9541 > t9725)) fun b9727 hb9727 => ?_
    replace h := iC h
    rcases h with ⟨c9728, h⟩ | ⟨c9728, h⟩
    · cases lT c9728 hb9727
      refine VC.join0 (⟨69, [(4, pt g9453 0), (6, pt g9543 0), (66, .bool true)], [], [(g9543, 27, [sn, sn, iv t9536, iv (wrap64 (bt x9455 5)), iv t9541, sn, sn]), (g9453, 27, [sn, sn, iv 0, iv 0, iv 0, sn, sn])], []⟩) (True) ?_ ?_
      · refine dw ⟨0, [], [.row (.slice (some ad9456) l0_0.length n9457) 1 (l0_0.map enc_str)], [(g9543, 27, [sn, sn, iv t9536, iv (wrap64 (bt x9455 5)), iv t9541, sn, sn]), (g9452, 25, [(.slice (some ad9456) l0_0.length n9457), v0_1])], []⟩ 45 <|
         av 0 1 rfl (op_fieldAddr FI27_1 rfl (add_at _ _ _)) <| av 1 3 rfl (op_load 0 1 rfl rfl TI3 rfl (by decide)) <| av 2 7 rfl (op_cmp rfl rfl (congrArg some hb9699)) <| av 3 15 rfl (mv rfl) <| av 4 31 rfl (op_fieldAddr FI27_1 rfl (add_at _ _ _)) <|
         av 5 63 rfl (op_load 0 1 rfl rfl TI3 rfl (by decide)) <| av 6 127 rfl (op_cmp rfl rfl (congrArg some hb9705)) <| av 7 255 rfl (op_pick rfl rfl) <| av 8 511 rfl (mv rfl) <| av 9 1023 rfl (op_fieldAddr FI27_1 rfl (add_at _ _ _)) <| av 10 2047 rfl (op_load 0 1 rfl rfl TI3 rfl (by decide)) <|
         av 11 4095 rfl (op_rem rfl rfl (by decide) rfl) <| av 12 8191 rfl (mv rfl) <| av 13 16383 rfl (op_cmp rfl rfl (congrArg some hb9711)) <| av 14 32767 rfl (op_pick rfl rfl) <| av 15 65535 rfl (mv rfl) <| av 16 131071 rfl (op_fieldAddr FI27_2 rfl (add_at _ _ _)) <|
         av 17 262143 rfl (op_load 0 1 rfl rfl TI3 rfl (by decide)) <| av 18 524287 rfl (op_cmp rfl rfl (congrArg some hb9713)) <| av 19 1048575 rfl (op_pick rfl rfl) <| av 20 2097151 rfl (mv rfl) <| av 21 4194303 rfl (op_fieldAddr FI27_3 rfl (add_at _ _ _)) <|
         av 22 8388607 rfl (op_load 0 1 rfl rfl TI3 rfl (by decide)) <| av 23 16777215 rfl (op_cmp rfl rfl (congrArg some hb9719)) <| av 24 33554431 rfl (op_pick rfl rfl) <| av 25 67108863 rfl (mv rfl) <| av 26 134217727 rfl (op_fieldAddr FI27_3 rfl (add_at _ _ _)) <|
         av 27 268435455 rfl (op_load 0 1 rfl rfl TI3 rfl (by decide)) <| av 28 536870911 rfl (op_fieldAddr FI25_0 rfl (add_at _ _ _)) <| av 29 1073741823 rfl (op_load 1 1 rfl rfl TI22 rfl (by decide)) <| av 30 2147483647 rfl (op_len (m := l0_0.length) 0 lenm Tryz.underlying22 rfl rfl) <|
         aC 31 4294967295 rfl (o_call0 FO16 (tarryref05_Room.ok (l0_0.length : Int) t9725 hA9726) rfl rfl (ltn rfl) (All_of .nil)) <| ?_
        rintro _ _ _ ⟨rfl, rfl, rfl⟩
        refine ⟨⟨⟨⟨0, rfl⟩, trivial⟩, ⟨⟨0, rfl⟩, ⟨2, rfl⟩, trivial⟩, trivial⟩, ?_⟩
        exact av 32 8589934591 rfl (op_cmp rfl rfl (congrArg some hb9727)) <| av 33 17179869183 rfl (op_pick rfl rfl) <| av 34 34359738367 rfl (mv rfl) <| au 35 68719476735 rfl rfl <| au 36 137438953471 rfl rfl <| au 37 274877906943 rfl rfl <| au 38 549755813887 rfl rfl <| au 39 1099511627775 rfl rfl <|
         au 40 2199023255551 rfl rfl <| au 41 4398046511103 rfl rfl <| au 42 8796093022207 rfl rfl <| au 43 17592186044415 rfl rfl <| av 44 35184372088831 rfl (op_pick rfl rfl) <| ad <| VN.meet0 [0, 1] [] trivial
      intro _
      refine ct <| sr <| va (op_build (vals := []) (vcs := []) (cells := [sn, sn, iv 0, iv 0, iv 0, sn, sn]) SI27 rfl .nil (by kernel_rfl)) <| s1 (o_store 1 7 rfl rfl rfl TI27 (.agg (.of rfl)) rfl (len rfl)) <| dt <| VC.ret <|
       VR.then <| ?_
      simp only [Option.some.injEq, Prod.mk.injEq] at h
      obtain ⟨rfl, rfl, rfl, rfl, rfl, rfl, rfl⟩ := h
      exact VR.nilRow' 9 1 <| VR.nilRow' 72 2 <| VR.nilRow' 9 1 <| VR.nilRow' 9 1 <| rf [.cell 4 27] [3, 2, 1, 0] (.cell 1 rfl rfl TI27 (fun h => absurd h (by decide)) .nil) ⟨sn, sn, sn, sn, rfl, rfl, rfl⟩
    cases lF c9728 hb9727
    replace h := bd h
    obtain ⟨t9733, hA9734, h⟩ := h
    refine VC.letter ((x9455 != t9733)) fun b9735 hb9735 => VC.join0 (⟨69, [(4, pt g9453 0), (6, pt g9543 0), (66, .bool b9735)], [], [(g9543, 27, [sn, sn, iv t9536, iv (wrap64 (bt x9455 5)), iv t9541, sn, sn]), (g9453, 27, [sn, sn, iv 0, iv 0, iv 0, sn, sn])], []⟩) (True) ?_ ?_
    · refine dw ⟨0, [], [.row (.slice (some ad9456) l0_0.length n9457) 1 (l0_0.map enc_str)], [(g9543, 27, [sn, sn, iv t9536, iv (wrap64 (bt x9455 5)), iv t9541, sn, sn]), (g9452, 25, [(.slice (some ad9456) l0_0.length n9457), v0_1])], []⟩ 45 <|
       av 0 1 rfl (op_fieldAddr FI27_1 rfl (add_at _ _ _)) <| av 1 3 rfl (op_load 0 1 rfl rfl TI3 rfl (by decide)) <| av 2 7 rfl (op_cmp rfl rfl (congrArg some hb9699)) <| av 3 15 rfl (mv rfl) <| av 4 31 rfl (op_fieldAddr FI27_1 rfl (add_at _ _ _)) <|
       av 5 63 rfl (op_load 0 1 rfl rfl TI3 rfl (by decide)) <| av 6 127 rfl (op_cmp rfl rfl (congrArg some hb9705)) <| av 7 255 rfl (op_pick rfl rfl) <| av 8 511 rfl (mv rfl) <| av 9 1023 rfl (op_fieldAddr FI27_1 rfl (add_at _ _ _)) <| av 10 2047 rfl (op_load 0 1 rfl rfl TI3 rfl (by decide)) <|
       av 11 4095 rfl (op_rem rfl rfl (by decide) rfl) <| av 12 8191 rfl (mv rfl) <| av 13 16383 rfl (op_cmp rfl rfl (congrArg some hb9711)) <| av 14 32767 rfl (op_pick rfl rfl) <| av 15 65535 rfl (mv rfl) <| av 16 131071 rfl (op_fieldAddr FI27_2 rfl (add_at _ _ _)) <|
       av 17 262143 rfl (op_load 0 1 rfl rfl TI3 rfl (by decide)) <| av 18 524287 rfl (op_cmp rfl rfl (congrArg some hb9713)) <| av 19 1048575 rfl (op_pick rfl rfl) <| av 20 2097151 rfl (mv rfl) <| av 21 4194303 rfl (op_fieldAddr FI27_3 rfl (add_at _ _ _)) <|
       av 22 8388607 rfl (op_load 0 1 rfl rfl TI3 rfl (by decide)) <| av 23 16777215 rfl (op_cmp rfl rfl (congrArg some hb9719)) <| av 24 33554431 rfl (op_pick rfl rfl) <| av 25 67108863 rfl (mv rfl) <| av 26 134217727 rfl (op_fieldAddr FI27_3 rfl (add_at _ _ _)) <|
       av 27 268435455 rfl (op_load 0 1 rfl rfl TI3 rfl (by decide)) <| av 28 536870911 rfl (op_fieldAddr FI25_0 rfl (add_at _ _ _)) <| av 29 1073741823 rfl (op_load 1 1 rfl rfl TI22 rfl (by decide)) <| av 30 2147483647 rfl (op_len (m := l0_0.length) 0 lenm Tryz.underlying22 rfl rfl) <|
       aC 31 4294967295 rfl (o_call0 FO16 (tarryref05_Room.ok (l0_0.length : Int) t9725 hA9726) rfl rfl (ltn rfl) (All_of .nil)) <| ?_
      rintro _ _ _ ⟨rfl, rfl, rfl⟩
      refine ⟨⟨⟨⟨0, rfl⟩, trivial⟩, ⟨⟨0, rfl⟩, ⟨2, rfl⟩, trivial⟩, trivial⟩, ?_⟩
      refine av 32 8589934591 rfl (op_cmp rfl rfl (congrArg some hb9727)) <| av 33 17179869183 rfl (op_pick rfl rfl) <| av 34 34359738367 rfl (mv rfl) <| av 35 68719476735 rfl (mv rfl) <| av 36 137438953471 rfl (op_fieldAddr FI27_1 rfl (add_at _ _ _)) <|
       av 37 274877906943 rfl (op_load 0 1 rfl rfl TI3 rfl (by decide)) <| av 38 549755813887 rfl (op_fieldAddr FI27_2 rfl (add_at _ _ _)) <| av 39 1099511627775 rfl (op_load 0 1 rfl rfl TI3 rfl (by decide)) <| av 40 2199023255551 rfl (op_fieldAddr FI27_3 rfl (add_at _ _ _)) <|
       av 41 4398046511103 rfl (op_load 0 1 rfl rfl TI3 rfl (by decide)) <| aC 42 8796093022207 rfl (o_call0 FO43 (tarryref05_Head.ok k t9536 (wrap64 (bt x9455 5)) t9541 t9733 hA9734) rfl rfl (ltn rfl) (All_of .nil)) <| ?_
      rintro _ _ _ ⟨rfl, rfl, rfl⟩
      refine ⟨⟨⟨⟨0, rfl⟩, trivial⟩, ⟨⟨0, rfl⟩, ⟨2, rfl⟩, trivial⟩, trivial⟩, ?_⟩
      exact av 43 17592186044415 rfl (op_cmps rfl rfl (congrArg some hb9735)) <| av 44 35184372088831 rfl (op_pick rfl rfl) <| ad <| VN.meet0 [0, 1] [] trivial
    intro _
    replace h := iC h
    rcases h with ⟨c9736, h⟩ | ⟨c9736, h⟩
    · obtain rfl : b9735 = false := hb9735.symm.trans (bne_of_t c9736)
      refine cf <| sk <| sr <| va (op_load 0 7 rfl rfl TI27 rfl (fun h => absurd h (by decide))) <| s1 (o_store 1 7 rfl rfl rfl TI27 (.agg (.of rfl)) rfl (len rfl)) <| dt <| VC.ret <| ?_
      simp only [Option.some.injEq, Prod.mk.injEq] at h
      obtain ⟨rfl, rfl, rfl, rfl, rfl, rfl, rfl⟩ := h
      exact VR.nilRow' 9 1 <| VR.nilRow' 72 2 <| VR.nilRow' 9 1 <| VR.nilRow' 9 1 <| rf [.cell 4 27] [3, 2, 1, 0] (.cell 1 rfl rfl TI27 (fun h => absurd h (by decide)) .nil) ⟨sn, sn, sn, sn, rfl, rfl, rfl⟩
    obtain rfl : b9735 = true := hb9735.symm.trans (bne_of_f c9736)
    refine ct <| sr <| va (op_build (vals := []) (vcs := []) (cells := [sn, sn, iv 0, iv 0, iv 0, sn, sn]) SI27 rfl .nil (by kernel_rfl)) <| s1 (o_store 1 7 rfl rfl rfl TI27 (.agg (.of rfl)) rfl (len rfl)) <| dt <| VC.ret <|
     VR.then <| ?_
    simp only [Option.some.injEq, Prod.mk.injEq] at h
    obtain ⟨rfl, rfl, rfl, rfl, rfl, rfl, rfl⟩ := h
    exact VR.nilRow' 9 1 <| VR.nilRow' 72 2 <| VR.nilRow' 9 1 <| VR.nilRow' 9 1 <| rf [.cell 4 27] [3, 2, 1, 0] (.cell 1 rfl rfl TI27 (fun h => absurd h (by decide)) .nil) ⟨sn, sn, sn, sn, rfl, rfl, rfl⟩
  obtain rfl : b9711 = true := hb9711.symm.trans (bne_iff_ne.2 c9712)
  refine VC.join0 (⟨69, [(4, pt g9453 0), (6, pt g9543 0), (66, .bool true)], [], [(g9543, 27, [sn, sn, iv t9536, iv (wrap64 (bt x9455 5)), iv t9541, sn, sn]), (g9453, 27, [sn, sn, iv 0, iv 0, iv 0, sn, sn])], []⟩) (True) ?_ ?_
  · exact dw ⟨0, [], [], [(g9543, 27, [sn, sn, iv t9536, iv (wrap64 (bt x9455 5)), iv t9541, sn, sn])], []⟩ 45 <| av 0 1 rfl (op_fieldAddr FI27_1 rfl (add_at _ _ _)) <| av 1 3 rfl (op_load 0 1 rfl rfl TI3 rfl (by decide)) <|
     av 2 7 rfl (op_cmp rfl rfl (congrArg some hb9699)) <| av 3 15 rfl (mv rfl) <| av 4 31 rfl (op_fieldAddr FI27_1 rfl (add_at _ _ _)) <| av 5 63 rfl (op_load 0 1 rfl rfl TI3 rfl (by decide)) <| av 6 127 rfl (op_cmp rfl rfl (congrArg some hb9705)) <| av 7 255 rfl (op_pick rfl rfl) <|
     av 8 511 rfl (mv rfl) <| av 9 1023 rfl (op_fieldAddr FI27_1 rfl (add_at _ _ _)) <| av 10 2047 rfl (op_load 0 1 rfl rfl TI3 rfl (by decide)) <| av 11 4095 rfl (op_rem rfl rfl (by decide) rfl) <| av 12 8191 rfl (mv rfl) <| av 13 16383 rfl (op_cmp rfl rfl (congrArg some hb9711)) <|
     av 14 32767 rfl (op_pick rfl rfl) <| av 15 65535 rfl (mv rfl) <| au 16 131071 rfl rfl <| au 17 262143 rfl rfl <| au 18 524287 rfl rfl <| av 19 1048575 rfl (op_pick rfl rfl) <| av 20 2097151 rfl (mv rfl) <| au 21 4194303 rfl rfl <| au 22 8388607 rfl rfl <| au 23 16777215 rfl rfl <|
     av 24 33554431 rfl (op_pick rfl rfl) <| av 25 67108863 rfl (mv rfl) <| au 26 134217727 rfl rfl <| au 27 268435455 rfl rfl <| au 28 536870911 rfl rfl <| au 29 1073741823 rfl rfl <| au 30 2147483647 rfl rfl <| au 31 4294967295 rfl rfl <| au 32 8589934591 rfl rfl <|
     av 33 17179869183 rfl (op_pick rfl rfl) <| av 34 34359738367 rfl (mv rfl) <| au 35 68719476735 rfl rfl <| au 36 137438953471 rfl rfl <| au 37 274877906943 rfl rfl <| au 38 549755813887 rfl rfl <| au 39 1099511627775 rfl rfl <| au 40 2199023255551 rfl rfl <| au 41 4398046511103 rfl rfl <|
     au 42 8796093022207 rfl rfl <| au 43 17592186044415 rfl rfl <| av 44 35184372088831 rfl (op_pick rfl rfl) <| ad <| VN.meet0 [0, 1] [] trivial
  intro _
  refine ct <| sr <| va (op_build (vals := []) (vcs := []) (cells := [sn, sn, iv 0, iv 0, iv 0, sn, sn]) SI27 rfl .nil (by kernel_rfl)) <| s1 (o_store 1 7 rfl rfl rfl TI27 (.agg (.of rfl)) rfl (len rfl)) <| dt <| VC.ret <|
   VR.then <| ?_
  simp only [Option.some.injEq, Prod.mk.injEq] at h
  obtain ⟨rfl, rfl, rfl, rfl, rfl, rfl, rfl⟩ := h
  exact VR.nilRow' 9 1 <| VR.nilRow' 72 2 <| VR.nilRow' 9 1 <| VR.nilRow' 9 1 <| rf [.cell 4 27] [3, 2, 1, 0] (.cell 1 rfl rfl TI27 (fun h => absurd h (by decide)) .nil) ⟨sn, sn, sn, sn, rfl, rfl, rfl⟩

end Go.Proofs.YtipeglbeongfmaaGreat.PJournalCrashes
