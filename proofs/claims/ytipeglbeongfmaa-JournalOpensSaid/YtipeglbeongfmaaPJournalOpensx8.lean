/- Written by a program of this repo: what the program's functions do, each as a Lean function, shown of the loaded code; or a statement's row over that; no condition of its own. -/
import Derived.Test.YtipeglbeongfmaaPJournalOpensx7
namespace Go.Proofs.Ytipeglbeongfmaa.PJournalOpens
open Go Go.RowKit Go.Proofs.YtipeglbeongfmaaV
set_option linter.unusedVariables false
set_option linter.unusedSimpArgs false
set_option maxHeartbeats 4000000
set_option maxRecDepth 100000

theorem tarryref05_read.ok (k : Nat) (l0_0 : List ByteArray) (l0_1 : List S55) (a1 : Int) (v0_0 : Value) (v0_1 : Value) (r1 : List ByteArray) (r2 : List S55) (r3 : Int) (r4 : Int) (r5 : Int) (r6 : List ByteArray) (r7 : List ByteArray) (h : tarryref05_read.f k l0_0 l0_1 a1 = some (r1, r2, r3, r4, r5, r6, r7)) :
    VCalls Try.prog 29 [.agg #[v0_0, v0_1], iv a1] [.row v0_0 1 (l0_0.map enc_str), .row v0_1 2 (l0_1.map enc55)] (fun v G own => ∃ w0 w1 w5 w6 : Value, v = .agg #[w0, w1, iv r3, iv r4, iv r5, w5, w6] ∧ G = [] ∧ own = [(w0, 9, 1, r1.map enc_str), (w1, 56, 2, r2.map enc55), (w5, 9, 1, r6.map enc_str), (w6, 9, 1, r7.map enc_str)]) := by
  refine VCalls.intro Try.func29 rfl (len rfl) fun E hC hW hD hU => ?_
  unfold tarryref05_read.f at h
  refine sr <| sG (o_box rfl (.agg (.f 0 rfl (.f 1 rfl .nil)))) fun g7177 => sG (o_alloc Z27 ZL27) fun g7178 => nx <| va (op_fieldAddr FI25_0 rfl (add_at _ _ _)) <| va (op_load 1 1 rfl rfl TI22 rfl (by decide)) <| vm rfl <| ?_
  replace h := iN h
  obtain ⟨c7179, h⟩ := h
  replace h := bd h
  obtain ⟨x7180, hx7180, h⟩ := h
  refine VL.open (m := l0_0.length) 0 lenm rfl (pos_get hx7180) <| ?_
  rintro ad7181 n7182 rfl
  refine va (op_indexAddr Try.underlying22 TI9 rfl rfl c7179 (lt_get c7179 hx7180) rfl) <| va (op_load_row (sz := 1) (o := 0) 0 a1.toNat 1 rfl rfl (get_map hx7180) TI9 rfl (by decide)) <| vs rfl <| dt <| ?_
  replace h := iN h
  obtain ⟨c7183, h⟩ := h
  replace h := iN h
  obtain ⟨c7184, h⟩ := h
  replace h := bd h
  obtain ⟨t7261, hA7262, h⟩ := h
  replace h := iN h
  obtain ⟨c7263, h⟩ := h
  replace h := iN h
  obtain ⟨c7264, h⟩ := h
  replace h := iN h
  obtain ⟨c7265, h⟩ := h
  replace h := bd h
  obtain ⟨t7266, hA7267, h⟩ := h
  refine VC.join1 (fun (g7268 : Nat) => ⟨69, [(1, iv a1), (2, pt g7177 0), (4, pt g7178 0), (5, .string x7180), (6, pt g7268 0)], [.row (.slice (some ad7181) l0_0.length n7182) 1 (l0_0.map enc_str), .row v0_1 2 (l0_1.map enc55)], [(g7268, 27, [sn, sn, iv t7261, iv (wrap64 (bt x7180 5)), iv t7266, sn, sn]), (g7178, 27, [sn, sn, iv 0, iv 0, iv 0, sn, sn]), (g7177, 25, [(.slice (some ad7181) l0_0.length n7182), v0_1])], []⟩) (fun (g7268 : Nat) => True) ?_ ?_
  · refine dw ⟨0, [], [], [], []⟩ 12 <| av 0 1 rfl (mv rfl) <| av 1 3 rfl (op_sliceS 6 14 Try.underlying9 rfl ⟨⟨_, _, rfl, (by decide), rfl⟩, ⟨_, _, rfl, (by decide), rfl⟩, by decide, tN (a := (14 : Int)) (b := (x7180.size : Int)) rfl rfl c7183⟩ rfl) <| av 3 11 rfl (mv rfl) <|
     av 4 27 rfl (op_indexS Try.underlying9 rfl rfl (by decide) c7263 rfl) <| av 5 59 rfl (op_conv Try.underlying5 Try.underlying3 rfl (i64w _)) <| av 6 123 rfl (mv rfl) <|
     av 7 251 rfl (op_sliceS 14 18 Try.underlying9 rfl ⟨⟨_, _, rfl, (by decide), rfl⟩, ⟨_, _, rfl, (by decide), rfl⟩, by decide, tN (a := (18 : Int)) (b := (x7180.size : Int)) rfl rfl c7264⟩ rfl) <| VA.all [2, 10] (by kernel_rfl) (by simp) <|
     VAll.consC (listed' := LB 12 255) rfl (o_call0 FO60 (tarryref05_number.ok k (x7180.extract 6 14) t7261 hA7262) rfl rfl (ltn rfl) (All_of .nil)) rfl (by kernel_rfl) ?_ ?_
    · rintro _ _ _ ⟨rfl, rfl, rfl⟩
      refine ⟨⟨trivial, trivial, trivial⟩, ?_⟩
      refine VA.all [8, 10] (by kernel_rfl) (by simp) <| VAll.consC (listed' := LB 12 511) rfl (o_call0 FO60 (tarryref05_number.ok k (x7180.extract 14 18) t7266 hA7267) rfl rfl (ltn rfl) (All_of .nil)) rfl (by kernel_rfl) ?_ ?_
      · rintro _ _ _ ⟨rfl, rfl, rfl⟩
        refine ⟨⟨trivial, trivial, trivial⟩, ?_⟩
        exact av 9 1023 rfl (op_build (vals := [(1, iv t7261), (2, iv (wrap64 (bt x7180 5))), (3, iv t7266)]) (vcs := [(1, [iv t7261]), (2, [iv (wrap64 (bt x7180 5))]), (3, [iv t7266])]) (cells := [sn, sn, iv t7261, iv (wrap64 (bt x7180 5)), iv t7266, sn, sn]) SI27 rfl (.cons ⟨rfl, (.c rfl)⟩ (.cons ⟨rfl, (.c rfl)⟩ (.cons ⟨rfl, (.c rfl)⟩ .nil))) (by kernel_rfl)) <|
         aG 10 2047 rfl (o_alloc Z27 ZL27) fun g7268 => aO 11 4095 rfl (o_store 0 7 rfl rfl rfl TI27 (.agg (.of rfl)) rfl (len rfl)) <| ad <| VN.meet1 g7268 [0, 1, 2] [] trivial
      refine VAll.consG (listed' := LB 12 1279) rfl (o_alloc Z27 ZL27) rfl (by kernel_rfl) (fun _ => ⟨trivial, trivial, trivial⟩) ?_ VAll.nil
      intro g7268
      refine aC 8 1535 rfl (o_call0 FO60 (tarryref05_number.ok k (x7180.extract 14 18) t7266 hA7267) rfl rfl (ltn rfl) (All_of .nil)) <| ?_
      rintro _ _ _ ⟨rfl, rfl, rfl⟩
      refine ⟨⟨trivial, trivial, trivial⟩, ?_⟩
      exact av 9 2047 rfl (op_build (vals := [(1, iv t7261), (2, iv (wrap64 (bt x7180 5))), (3, iv t7266)]) (vcs := [(1, [iv t7261]), (2, [iv (wrap64 (bt x7180 5))]), (3, [iv t7266])]) (cells := [sn, sn, iv t7261, iv (wrap64 (bt x7180 5)), iv t7266, sn, sn]) SI27 rfl (.cons ⟨rfl, (.c rfl)⟩ (.cons ⟨rfl, (.c rfl)⟩ (.cons ⟨rfl, (.c rfl)⟩ .nil))) (by kernel_rfl)) <|
       aO 11 4095 rfl (o_store 0 7 rfl rfl rfl TI27 (.agg (.of rfl)) rfl (len rfl)) <| ad <| VN.meet1 g7268 [0, 1, 2] [] trivial
    refine VAll.consG (listed' := LB 12 1275) rfl (o_alloc Z27 ZL27) rfl (by kernel_rfl) (fun _ => ⟨trivial, trivial, trivial⟩) ?_ VAll.nil
    intro g7268
    refine aC 2 1279 rfl (o_call0 FO60 (tarryref05_number.ok k (x7180.extract 6 14) t7261 hA7262) rfl rfl (ltn rfl) (All_of .nil)) <| ?_
    rintro _ _ _ ⟨rfl, rfl, rfl⟩
    refine ⟨⟨trivial, trivial, trivial⟩, ?_⟩
    refine aC 8 1535 rfl (o_call0 FO60 (tarryref05_number.ok k (x7180.extract 14 18) t7266 hA7267) rfl rfl (ltn rfl) (All_of .nil)) <| ?_
    rintro _ _ _ ⟨rfl, rfl, rfl⟩
    refine ⟨⟨trivial, trivial, trivial⟩, ?_⟩
    exact av 9 2047 rfl (op_build (vals := [(1, iv t7261), (2, iv (wrap64 (bt x7180 5))), (3, iv t7266)]) (vcs := [(1, [iv t7261]), (2, [iv (wrap64 (bt x7180 5))]), (3, [iv t7266])]) (cells := [sn, sn, iv t7261, iv (wrap64 (bt x7180 5)), iv t7266, sn, sn]) SI27 rfl (.cons ⟨rfl, (.c rfl)⟩ (.cons ⟨rfl, (.c rfl)⟩ (.cons ⟨rfl, (.c rfl)⟩ .nil))) (by kernel_rfl)) <|
     aO 11 4095 rfl (o_store 0 7 rfl rfl rfl TI27 (.agg (.of rfl)) rfl (len rfl)) <| ad <| VN.meet1 g7268 [0, 1, 2] [] trivial
  intro g7268 _
  refine sq <| VC.letter (decide (t7261 < 1)) fun b7424 hb7424 => ?_
  replace h := iC h
  rcases h with ⟨c7425, h⟩ | ⟨c7425, h⟩
  · cases lT c7425 hb7424
    refine VC.join0 (⟨69, [(4, pt g7178 0), (6, pt g7268 0), (66, .bool true)], [], [(g7268, 27, [sn, sn, iv t7261, iv (wrap64 (bt x7180 5)), iv t7266, sn, sn]), (g7178, 27, [sn, sn, iv 0, iv 0, iv 0, sn, sn])], []⟩) (True) ?_ ?_
    · exact dw ⟨0, [], [], [(g7268, 27, [sn, sn, iv t7261, iv (wrap64 (bt x7180 5)), iv t7266, sn, sn])], []⟩ 45 <| av 0 1 rfl (op_fieldAddr FI27_1 rfl (add_at _ _ _)) <| av 1 3 rfl (op_load 0 1 rfl rfl TI3 rfl (by decide)) <|
       av 2 7 rfl (op_cmp rfl rfl (congrArg some hb7424)) <| av 3 15 rfl (mv rfl) <| au 4 31 rfl rfl <| au 5 63 rfl rfl <| au 6 127 rfl rfl <| av 7 255 rfl (op_pick rfl rfl) <| av 8 511 rfl (mv rfl) <| au 9 1023 rfl rfl <| au 10 2047 rfl rfl <| au 11 4095 rfl rfl <| au 12 8191 rfl rfl <|
       au 13 16383 rfl rfl <| av 14 32767 rfl (op_pick rfl rfl) <| av 15 65535 rfl (mv rfl) <| au 16 131071 rfl rfl <| au 17 262143 rfl rfl <| au 18 524287 rfl rfl <| av 19 1048575 rfl (op_pick rfl rfl) <| av 20 2097151 rfl (mv rfl) <| au 21 4194303 rfl rfl <| au 22 8388607 rfl rfl <|
       au 23 16777215 rfl rfl <| av 24 33554431 rfl (op_pick rfl rfl) <| av 25 67108863 rfl (mv rfl) <| au 26 134217727 rfl rfl <| au 27 268435455 rfl rfl <| au 28 536870911 rfl rfl <| au 29 1073741823 rfl rfl <| au 30 2147483647 rfl rfl <| au 31 4294967295 rfl rfl <| au 32 8589934591 rfl rfl <|
       av 33 17179869183 rfl (op_pick rfl rfl) <| av 34 34359738367 rfl (mv rfl) <| au 35 68719476735 rfl rfl <| au 36 137438953471 rfl rfl <| au 37 274877906943 rfl rfl <| au 38 549755813887 rfl rfl <| au 39 1099511627775 rfl rfl <| au 40 2199023255551 rfl rfl <| au 41 4398046511103 rfl rfl <|
       au 42 8796093022207 rfl rfl <| au 43 17592186044415 rfl rfl <| av 44 35184372088831 rfl (op_pick rfl rfl) <| ad <| VN.meet0 [0, 1] [] trivial
    intro _
    refine ct <| sr <| va (op_build (vals := []) (vcs := []) (cells := [sn, sn, iv 0, iv 0, iv 0, sn, sn]) SI27 rfl .nil (by kernel_rfl)) <| s1 (o_store 1 7 rfl rfl rfl TI27 (.agg (.of rfl)) rfl (len rfl)) <| dt <| VC.ret <|
     VR.then <| ?_
    simp only [Option.some.injEq, Prod.mk.injEq] at h
    obtain ⟨rfl, rfl, rfl, rfl, rfl, rfl, rfl⟩ := h
    exact VR.nilRow' 9 1 <| VR.nilRow' 56 2 <| VR.nilRow' 9 1 <| VR.nilRow' 9 1 <| rf [.cell 4 27] [3, 2, 1, 0] (.cell 1 rfl rfl TI27 (fun h => absurd h (by decide)) .nil) ⟨sn, sn, sn, sn, rfl, rfl, rfl⟩
  cases lF c7425 hb7424
  refine VC.letter (decide (t7261 > 1099511627776)) fun b7430 hb7430 => ?_
  replace h := iC h
  rcases h with ⟨c7431, h⟩ | ⟨c7431, h⟩
  · cases lT c7431 hb7430
    refine VC.join0 (⟨69, [(4, pt g7178 0), (6, pt g7268 0), (66, .bool true)], [], [(g7268, 27, [sn, sn, iv t7261, iv (wrap64 (bt x7180 5)), iv t7266, sn, sn]), (g7178, 27, [sn, sn, iv 0, iv 0, iv 0, sn, sn])], []⟩) (True) ?_ ?_
    · exact dw ⟨0, [], [], [(g7268, 27, [sn, sn, iv t7261, iv (wrap64 (bt x7180 5)), iv t7266, sn, sn])], []⟩ 45 <| av 0 1 rfl (op_fieldAddr FI27_1 rfl (add_at _ _ _)) <| av 1 3 rfl (op_load 0 1 rfl rfl TI3 rfl (by decide)) <|
       av 2 7 rfl (op_cmp rfl rfl (congrArg some hb7424)) <| av 3 15 rfl (mv rfl) <| av 4 31 rfl (op_fieldAddr FI27_1 rfl (add_at _ _ _)) <| av 5 63 rfl (op_load 0 1 rfl rfl TI3 rfl (by decide)) <| av 6 127 rfl (op_cmp rfl rfl (congrArg some hb7430)) <| av 7 255 rfl (op_pick rfl rfl) <|
       av 8 511 rfl (mv rfl) <| au 9 1023 rfl rfl <| au 10 2047 rfl rfl <| au 11 4095 rfl rfl <| au 12 8191 rfl rfl <| au 13 16383 rfl rfl <| av 14 32767 rfl (op_pick rfl rfl) <| av 15 65535 rfl (mv rfl) <| au 16 131071 rfl rfl <| au 17 262143 rfl rfl <| au 18 524287 rfl rfl <|
       av 19 1048575 rfl (op_pick rfl rfl) <| av 20 2097151 rfl (mv rfl) <| au 21 4194303 rfl rfl <| au 22 8388607 rfl rfl <| au 23 16777215 rfl rfl <| av 24 33554431 rfl (op_pick rfl rfl) <| av 25 67108863 rfl (mv rfl) <| au 26 134217727 rfl rfl <| au 27 268435455 rfl rfl <| au 28 536870911 rfl rfl <|
       au 29 1073741823 rfl rfl <| au 30 2147483647 rfl rfl <| au 31 4294967295 rfl rfl <| au 32 8589934591 rfl rfl <| av 33 17179869183 rfl (op_pick rfl rfl) <| av 34 34359738367 rfl (mv rfl) <| au 35 68719476735 rfl rfl <| au 36 137438953471 rfl rfl <| au 37 274877906943 rfl rfl <|
       au 38 549755813887 rfl rfl <| au 39 1099511627775 rfl rfl <| au 40 2199023255551 rfl rfl <| au 41 4398046511103 rfl rfl <| au 42 8796093022207 rfl rfl <| au 43 17592186044415 rfl rfl <| av 44 35184372088831 rfl (op_pick rfl rfl) <| ad <| VN.meet0 [0, 1] [] trivial
    intro _
    refine ct <| sr <| va (op_build (vals := []) (vcs := []) (cells := [sn, sn, iv 0, iv 0, iv 0, sn, sn]) SI27 rfl .nil (by kernel_rfl)) <| s1 (o_store 1 7 rfl rfl rfl TI27 (.agg (.of rfl)) rfl (len rfl)) <| dt <| VC.ret <|
     VR.then <| ?_
    simp only [Option.some.injEq, Prod.mk.injEq] at h
    obtain ⟨rfl, rfl, rfl, rfl, rfl, rfl, rfl⟩ := h
    exact VR.nilRow' 9 1 <| VR.nilRow' 56 2 <| VR.nilRow' 9 1 <| VR.nilRow' 9 1 <| rf [.cell 4 27] [3, 2, 1, 0] (.cell 1 rfl rfl TI27 (fun h => absurd h (by decide)) .nil) ⟨sn, sn, sn, sn, rfl, rfl, rfl⟩
  cases lF c7431 hb7430
  refine VC.letter (((t7261.tmod 2) != a1)) fun b7436 hb7436 => ?_
  replace h := iC h
  rcases h with ⟨c7437, h⟩ | ⟨c7437, h⟩
  · obtain rfl : b7436 = false := hb7436.symm.trans (bne_eq_false_iff_eq.2 c7437)
    refine VC.letter (decide ((wrap64 (bt x7180 5)) > 1)) fun b7438 hb7438 => ?_
    replace h := iC h
    rcases h with ⟨c7439, h⟩ | ⟨c7439, h⟩
    · cases lT c7439 hb7438
      refine VC.join0 (⟨69, [(4, pt g7178 0), (6, pt g7268 0), (66, .bool true)], [], [(g7268, 27, [sn, sn, iv t7261, iv (wrap64 (bt x7180 5)), iv t7266, sn, sn]), (g7178, 27, [sn, sn, iv 0, iv 0, iv 0, sn, sn])], []⟩) (True) ?_ ?_
      · exact dw ⟨0, [], [], [(g7268, 27, [sn, sn, iv t7261, iv (wrap64 (bt x7180 5)), iv t7266, sn, sn])], []⟩ 45 <| av 0 1 rfl (op_fieldAddr FI27_1 rfl (add_at _ _ _)) <| av 1 3 rfl (op_load 0 1 rfl rfl TI3 rfl (by decide)) <|
         av 2 7 rfl (op_cmp rfl rfl (congrArg some hb7424)) <| av 3 15 rfl (mv rfl) <| av 4 31 rfl (op_fieldAddr FI27_1 rfl (add_at _ _ _)) <| av 5 63 rfl (op_load 0 1 rfl rfl TI3 rfl (by decide)) <| av 6 127 rfl (op_cmp rfl rfl (congrArg some hb7430)) <| av 7 255 rfl (op_pick rfl rfl) <|
         av 8 511 rfl (mv rfl) <| av 9 1023 rfl (op_fieldAddr FI27_1 rfl (add_at _ _ _)) <| av 10 2047 rfl (op_load 0 1 rfl rfl TI3 rfl (by decide)) <| av 11 4095 rfl (op_rem rfl rfl (by decide) rfl) <| av 12 8191 rfl (mv rfl) <| av 13 16383 rfl (op_cmp rfl rfl (congrArg some hb7436)) <|
         av 14 32767 rfl (op_pick rfl rfl) <| av 15 65535 rfl (mv rfl) <| av 16 131071 rfl (op_fieldAddr FI27_2 rfl (add_at _ _ _)) <| av 17 262143 rfl (op_load 0 1 rfl rfl TI3 rfl (by decide)) <| av 18 524287 rfl (op_cmp rfl rfl (congrArg some hb7438)) <| av 19 1048575 rfl (op_pick rfl rfl) <|
         av 20 2097151 rfl (mv rfl) <| au 21 4194303 rfl rfl <| au 22 8388607 rfl rfl <| au 23 16777215 rfl rfl <| av 24 33554431 rfl (op_pick rfl rfl) <| av 25 67108863 rfl (mv rfl) <| au 26 134217727 rfl rfl <| au 27 268435455 rfl rfl <| au 28 536870911 rfl rfl <| au 29 1073741823 rfl rfl <|
         au 30 2147483647 rfl rfl <| au 31 4294967295 rfl rfl <| au 32 8589934591 rfl rfl <| av 33 17179869183 rfl (op_pick rfl rfl) <| av 34 34359738367 rfl (mv rfl) <| au 35 68719476735 rfl rfl <| au 36 137438953471 rfl rfl <| au 37 274877906943 rfl rfl <| au 38 549755813887 rfl rfl <|
         au 39 1099511627775 rfl rfl <| au 40 2199023255551 rfl rfl <| au 41 4398046511103 rfl rfl <| au 42 8796093022207 rfl rfl <| au 43 17592186044415 rfl rfl <| av 44 35184372088831 rfl (op_pick rfl rfl) <| ad <| VN.meet0 [0, 1] [] trivial
      intro _
      refine ct <| sr <| va (op_build (vals := []) (vcs := []) (cells := [sn, sn, iv 0, iv 0, iv 0, sn, sn]) SI27 rfl .nil (by kernel_rfl)) <| s1 (o_store 1 7 rfl rfl rfl TI27 (.agg (.of rfl)) rfl (len rfl)) <| dt <| VC.ret <|
       VR.then <| ?_
      simp only [Option.some.injEq, Prod.mk.injEq] at h
      obtain ⟨rfl, rfl, rfl, rfl, rfl, rfl, rfl⟩ := h
      exact VR.nilRow' 9 1 <| VR.nilRow' 56 2 <| VR.nilRow' 9 1 <| VR.nilRow' 9 1 <| rf [.cell 4 27] [3, 2, 1, 0] (.cell 1 rfl rfl TI27 (fun h => absurd h (by decide)) .nil) ⟨sn, sn, sn, sn, rfl, rfl, rfl⟩
    cases lF c7439 hb7438
    refine VC.letter (decide (t7266 < 0)) fun b7444 hb7444 => ?_
    replace h := iC h
    rcases h with ⟨c7445, h⟩ | ⟨c7445, h⟩
    · cases lT c7445 hb7444
      refine VC.join0 (⟨69, [(4, pt g7178 0), (6, pt g7268 0), (66, .bool true)], [], [(g7268, 27, [sn, sn, iv t7261, iv (wrap64 (bt x7180 5)), iv t7266, sn, sn]), (g7178, 27, [sn, sn, iv 0, iv 0, iv 0, sn, sn])], []⟩) (True) ?_ ?_
      · exact dw ⟨0, [], [], [(g7268, 27, [sn, sn, iv t7261, iv (wrap64 (bt x7180 5)), iv t7266, sn, sn])], []⟩ 45 <| av 0 1 rfl (op_fieldAddr FI27_1 rfl (add_at _ _ _)) <| av 1 3 rfl (op_load 0 1 rfl rfl TI3 rfl (by decide)) <|
         av 2 7 rfl (op_cmp rfl rfl (congrArg some hb7424)) <| av 3 15 rfl (mv rfl) <| av 4 31 rfl (op_fieldAddr FI27_1 rfl (add_at _ _ _)) <| av 5 63 rfl (op_load 0 1 rfl rfl TI3 rfl (by decide)) <| av 6 127 rfl (op_cmp rfl rfl (congrArg some hb7430)) <| av 7 255 rfl (op_pick rfl rfl) <|
         av 8 511 rfl (mv rfl) <| av 9 1023 rfl (op_fieldAddr FI27_1 rfl (add_at _ _ _)) <| av 10 2047 rfl (op_load 0 1 rfl rfl TI3 rfl (by decide)) <| av 11 4095 rfl (op_rem rfl rfl (by decide) rfl) <| av 12 8191 rfl (mv rfl) <| av 13 16383 rfl (op_cmp rfl rfl (congrArg some hb7436)) <|
         av 14 32767 rfl (op_pick rfl rfl) <| av 15 65535 rfl (mv rfl) <| av 16 131071 rfl (op_fieldAddr FI27_2 rfl (add_at _ _ _)) <| av 17 262143 rfl (op_load 0 1 rfl rfl TI3 rfl (by decide)) <| av 18 524287 rfl (op_cmp rfl rfl (congrArg some hb7438)) <| av 19 1048575 rfl (op_pick rfl rfl) <|
         av 20 2097151 rfl (mv rfl) <| av 21 4194303 rfl (op_fieldAddr FI27_3 rfl (add_at _ _ _)) <| av 22 8388607 rfl (op_load 0 1 rfl rfl TI3 rfl (by decide)) <| av 23 16777215 rfl (op_cmp rfl rfl (congrArg some hb7444)) <| av 24 33554431 rfl (op_pick rfl rfl) <| av 25 67108863 rfl (mv rfl) <|
         au 26 134217727 rfl rfl <| au 27 268435455 rfl rfl <| au 28 536870911 rfl rfl <| au 29 1073741823 rfl rfl <| au 30 2147483647 rfl rfl <| au 31 4294967295 rfl rfl <| au 32 8589934591 rfl rfl <| av 33 17179869183 rfl (op_pick rfl rfl) <| av 34 34359738367 rfl (mv rfl) <| au 35 68719476735 rfl rfl <|
         au 36 137438953471 rfl rfl <| au 37 274877906943 rfl rfl <| au 38 549755813887 rfl rfl <| au 39 1099511627775 rfl rfl <| au 40 2199023255551 rfl rfl <| au 41 4398046511103 rfl rfl <| au 42 8796093022207 rfl rfl <| au 43 17592186044415 rfl rfl <| av 44 35184372088831 rfl (op_pick rfl rfl) <| ad <|
         VN.meet0 [0, 1] [] trivial
      intro _
      refine ct <| sr <| va (op_build (vals := []) (vcs := []) (cells := [sn, sn, iv 0, iv 0, iv 0, sn, sn]) SI27 rfl .nil (by kernel_rfl)) <| s1 (o_store 1 7 rfl rfl rfl TI27 (.agg (.of rfl)) rfl (len rfl)) <| dt <| VC.ret <|
       VR.then <| ?_
      simp only [Option.some.injEq, Prod.mk.injEq] at h
      obtain ⟨rfl, rfl, rfl, rfl, rfl, rfl, rfl⟩ := h
      exact VR.nilRow' 9 1 <| VR.nilRow' 56 2 <| VR.nilRow' 9 1 <| VR.nilRow' 9 1 <| rf [.cell 4 27] [3, 2, 1, 0] (.cell 1 rfl rfl TI27 (fun h => absurd h (by decide)) .nil) ⟨sn, sn, sn, sn, rfl, rfl, rfl⟩
    cases lF c7445 hb7444
    replace h := bd h
    obtain ⟨t7450, hA7451, h⟩ := h
    refine VC.letter (decide (t7266 > t7450)) fun b7452 hb7452 => ?_
    replace h := iC h
    rcases h with ⟨c7453, h⟩ | ⟨c7453, h⟩
    · cases lT c7453 hb7452
      refine VC.join0 (⟨69, [(4, pt g7178 0), (6, pt g7268 0), (66, .bool true)], [], [(g7268, 27, [sn, sn, iv t7261, iv (wrap64 (bt x7180 5)), iv t7266, sn, sn]), (g7178, 27, [sn, sn, iv 0, iv 0, iv 0, sn, sn])], []⟩) (True) ?_ ?_
      · refine dw ⟨0, [], [.row (.slice (some ad7181) l0_0.length n7182) 1 (l0_0.map enc_str)], [(g7268, 27, [sn, sn, iv t7261, iv (wrap64 (bt x7180 5)), iv t7266, sn, sn]), (g7177, 25, [(.slice (some ad7181) l0_0.length n7182), v0_1])], []⟩ 45 <|
         av 0 1 rfl (op_fieldAddr FI27_1 rfl (add_at _ _ _)) <| av 1 3 rfl (op_load 0 1 rfl rfl TI3 rfl (by decide)) <| av 2 7 rfl (op_cmp rfl rfl (congrArg some hb7424)) <| av 3 15 rfl (mv rfl) <| av 4 31 rfl (op_fieldAddr FI27_1 rfl (add_at _ _ _)) <|
         av 5 63 rfl (op_load 0 1 rfl rfl TI3 rfl (by decide)) <| av 6 127 rfl (op_cmp rfl rfl (congrArg some hb7430)) <| av 7 255 rfl (op_pick rfl rfl) <| av 8 511 rfl (mv rfl) <| av 9 1023 rfl (op_fieldAddr FI27_1 rfl (add_at _ _ _)) <| av 10 2047 rfl (op_load 0 1 rfl rfl TI3 rfl (by decide)) <|
         av 11 4095 rfl (op_rem rfl rfl (by decide) rfl) <| av 12 8191 rfl (mv rfl) <| av 13 16383 rfl (op_cmp rfl rfl (congrArg some hb7436)) <| av 14 32767 rfl (op_pick rfl rfl) <| av 15 65535 rfl (mv rfl) <| av 16 131071 rfl (op_fieldAddr FI27_2 rfl (add_at _ _ _)) <|
         av 17 262143 rfl (op_load 0 1 rfl rfl TI3 rfl (by decide)) <| av 18 524287 rfl (op_cmp rfl rfl (congrArg some hb7438)) <| av 19 1048575 rfl (op_pick rfl rfl) <| av 20 2097151 rfl (mv rfl) <| av 21 4194303 rfl (op_fieldAddr FI27_3 rfl (add_at _ _ _)) <|
         av 22 8388607 rfl (op_load 0 1 rfl rfl TI3 rfl (by decide)) <| av 23 16777215 rfl (op_cmp rfl rfl (congrArg some hb7444)) <| av 24 33554431 rfl (op_pick rfl rfl) <| av 25 67108863 rfl (mv rfl) <| av 26 134217727 rfl (op_fieldAddr FI27_3 rfl (add_at _ _ _)) <|
         av 27 268435455 rfl (op_load 0 1 rfl rfl TI3 rfl (by decide)) <| av 28 536870911 rfl (op_fieldAddr FI25_0 rfl (add_at _ _ _)) <| av 29 1073741823 rfl (op_load 1 1 rfl rfl TI22 rfl (by decide)) <| av 30 2147483647 rfl (op_len (m := l0_0.length) 0 lenm Try.underlying22 rfl rfl) <|
         aC 31 4294967295 rfl (o_call0 FO61 (tarryref05_Room.ok (l0_0.length : Int) t7450 hA7451) rfl rfl (ltn rfl) (All_of .nil)) <| ?_
        rintro _ _ _ ⟨rfl, rfl, rfl⟩
        refine ⟨⟨⟨⟨0, rfl⟩, trivial⟩, ⟨⟨0, rfl⟩, ⟨2, rfl⟩, trivial⟩, trivial⟩, ?_⟩
        exact av 32 8589934591 rfl (op_cmp rfl rfl (congrArg some hb7452)) <| av 33 17179869183 rfl (op_pick rfl rfl) <| av 34 34359738367 rfl (mv rfl) <| au 35 68719476735 rfl rfl <| au 36 137438953471 rfl rfl <| au 37 274877906943 rfl rfl <| au 38 549755813887 rfl rfl <| au 39 1099511627775 rfl rfl <|
         au 40 2199023255551 rfl rfl <| au 41 4398046511103 rfl rfl <| au 42 8796093022207 rfl rfl <| au 43 17592186044415 rfl rfl <| av 44 35184372088831 rfl (op_pick rfl rfl) <| ad <| VN.meet0 [0, 1] [] trivial
      intro _
      refine ct <| sr <| va (op_build (vals := []) (vcs := []) (cells := [sn, sn, iv 0, iv 0, iv 0, sn, sn]) SI27 rfl .nil (by kernel_rfl)) <| s1 (o_store 1 7 rfl rfl rfl TI27 (.agg (.of rfl)) rfl (len rfl)) <| dt <| VC.ret <|
       VR.then <| ?_
      simp only [Option.some.injEq, Prod.mk.injEq] at h
      obtain ⟨rfl, rfl, rfl, rfl, rfl, rfl, rfl⟩ := h
      exact VR.nilRow' 9 1 <| VR.nilRow' 56 2 <| VR.nilRow' 9 1 <| VR.nilRow' 9 1 <| rf [.cell 4 27] [3, 2, 1, 0] (.cell 1 rfl rfl TI27 (fun h => absurd h (by decide)) .nil) ⟨sn, sn, sn, sn, rfl, rfl, rfl⟩
    cases lF c7453 hb7452
    replace h := bd h
    obtain ⟨t7458, hA7459, h⟩ := h
    refine VC.letter ((x7180 != t7458)) fun b7460 hb7460 => VC.join0 (⟨69, [(4, pt g7178 0), (6, pt g7268 0), (66, .bool b7460)], [], [(g7268, 27, [sn, sn, iv t7261, iv (wrap64 (bt x7180 5)), iv t7266, sn, sn]), (g7178, 27, [sn, sn, iv 0, iv 0, iv 0, sn, sn])], []⟩) (True) ?_ ?_
    · refine dw ⟨0, [], [.row (.slice (some ad7181) l0_0.length n7182) 1 (l0_0.map enc_str)], [(g7268, 27, [sn, sn, iv t7261, iv (wrap64 (bt x7180 5)), iv t7266, sn, sn]), (g7177, 25, [(.slice (some ad7181) l0_0.length n7182), v0_1])], []⟩ 45 <|
       av 0 1 rfl (op_fieldAddr FI27_1 rfl (add_at _ _ _)) <| av 1 3 rfl (op_load 0 1 rfl rfl TI3 rfl (by decide)) <| av 2 7 rfl (op_cmp rfl rfl (congrArg some hb7424)) <| av 3 15 rfl (mv rfl) <| av 4 31 rfl (op_fieldAddr FI27_1 rfl (add_at _ _ _)) <|
       av 5 63 rfl (op_load 0 1 rfl rfl TI3 rfl (by decide)) <| av 6 127 rfl (op_cmp rfl rfl (congrArg some hb7430)) <| av 7 255 rfl (op_pick rfl rfl) <| av 8 511 rfl (mv rfl) <| av 9 1023 rfl (op_fieldAddr FI27_1 rfl (add_at _ _ _)) <| av 10 2047 rfl (op_load 0 1 rfl rfl TI3 rfl (by decide)) <|
       av 11 4095 rfl (op_rem rfl rfl (by decide) rfl) <| av 12 8191 rfl (mv rfl) <| av 13 16383 rfl (op_cmp rfl rfl (congrArg some hb7436)) <| av 14 32767 rfl (op_pick rfl rfl) <| av 15 65535 rfl (mv rfl) <| av 16 131071 rfl (op_fieldAddr FI27_2 rfl (add_at _ _ _)) <|
       av 17 262143 rfl (op_load 0 1 rfl rfl TI3 rfl (by decide)) <| av 18 524287 rfl (op_cmp rfl rfl (congrArg some hb7438)) <| av 19 1048575 rfl (op_pick rfl rfl) <| av 20 2097151 rfl (mv rfl) <| av 21 4194303 rfl (op_fieldAddr FI27_3 rfl (add_at _ _ _)) <|
       av 22 8388607 rfl (op_load 0 1 rfl rfl TI3 rfl (by decide)) <| av 23 16777215 rfl (op_cmp rfl rfl (congrArg some hb7444)) <| av 24 33554431 rfl (op_pick rfl rfl) <| av 25 67108863 rfl (mv rfl) <| av 26 134217727 rfl (op_fieldAddr FI27_3 rfl (add_at _ _ _)) <|
       av 27 268435455 rfl (op_load 0 1 rfl rfl TI3 rfl (by decide)) <| av 28 536870911 rfl (op_fieldAddr FI25_0 rfl (add_at _ _ _)) <| av 29 1073741823 rfl (op_load 1 1 rfl rfl TI22 rfl (by decide)) <| av 30 2147483647 rfl (op_len (m := l0_0.length) 0 lenm Try.underlying22 rfl rfl) <|
       aC 31 4294967295 rfl (o_call0 FO61 (tarryref05_Room.ok (l0_0.length : Int) t7450 hA7451) rfl rfl (ltn rfl) (All_of .nil)) <| ?_
      rintro _ _ _ ⟨rfl, rfl, rfl⟩
      refine ⟨⟨⟨⟨0, rfl⟩, trivial⟩, ⟨⟨0, rfl⟩, ⟨2, rfl⟩, trivial⟩, trivial⟩, ?_⟩
      refine av 32 8589934591 rfl (op_cmp rfl rfl (congrArg some hb7452)) <| av 33 17179869183 rfl (op_pick rfl rfl) <| av 34 34359738367 rfl (mv rfl) <| av 35 68719476735 rfl (mv rfl) <| av 36 137438953471 rfl (op_fieldAddr FI27_1 rfl (add_at _ _ _)) <|
       av 37 274877906943 rfl (op_load 0 1 rfl rfl TI3 rfl (by decide)) <| av 38 549755813887 rfl (op_fieldAddr FI27_2 rfl (add_at _ _ _)) <| av 39 1099511627775 rfl (op_load 0 1 rfl rfl TI3 rfl (by decide)) <| av 40 2199023255551 rfl (op_fieldAddr FI27_3 rfl (add_at _ _ _)) <|
       av 41 4398046511103 rfl (op_load 0 1 rfl rfl TI3 rfl (by decide)) <| aC 42 8796093022207 rfl (o_call0 FO16 (tarryref05_Head.ok k t7261 (wrap64 (bt x7180 5)) t7266 t7458 hA7459) rfl rfl (ltn rfl) (All_of .nil)) <| ?_
      rintro _ _ _ ⟨rfl, rfl, rfl⟩
      refine ⟨⟨⟨⟨0, rfl⟩, trivial⟩, ⟨⟨0, rfl⟩, ⟨2, rfl⟩, trivial⟩, trivial⟩, ?_⟩
      exact av 43 17592186044415 rfl (op_cmps rfl rfl (congrArg some hb7460)) <| av 44 35184372088831 rfl (op_pick rfl rfl) <| ad <| VN.meet0 [0, 1] [] trivial
    intro _
    replace h := iC h
    rcases h with ⟨c7461, h⟩ | ⟨c7461, h⟩
    · obtain rfl : b7460 = false := hb7460.symm.trans (bne_of_t c7461)
      refine cf <| sk <| sr <| va (op_load 0 7 rfl rfl TI27 rfl (fun h => absurd h (by decide))) <| s1 (o_store 1 7 rfl rfl rfl TI27 (.agg (.of rfl)) rfl (len rfl)) <| dt <| VC.ret <| ?_
      simp only [Option.some.injEq, Prod.mk.injEq] at h
      obtain ⟨rfl, rfl, rfl, rfl, rfl, rfl, rfl⟩ := h
      exact VR.nilRow' 9 1 <| VR.nilRow' 56 2 <| VR.nilRow' 9 1 <| VR.nilRow' 9 1 <| rf [.cell 4 27] [3, 2, 1, 0] (.cell 1 rfl rfl TI27 (fun h => absurd h (by decide)) .nil) ⟨sn, sn, sn, sn, rfl, rfl, rfl⟩
    obtain rfl : b7460 = true := hb7460.symm.trans (bne_of_f c7461)
    refine ct <| sr <| va (op_build (vals := []) (vcs := []) (cells := [sn, sn, iv 0, iv 0, iv 0, sn, sn]) SI27 rfl .nil (by kernel_rfl)) <| s1 (o_store 1 7 rfl rfl rfl TI27 (.agg (.of rfl)) rfl (len rfl)) <| dt <| VC.ret <|
     VR.then <| ?_
    simp only [Option.some.injEq, Prod.mk.injEq] at h
    obtain ⟨rfl, rfl, rfl, rfl, rfl, rfl, rfl⟩ := h
    exact VR.nilRow' 9 1 <| VR.nilRow' 56 2 <| VR.nilRow' 9 1 <| VR.nilRow' 9 1 <| rf [.cell 4 27] [3, 2, 1, 0] (.cell 1 rfl rfl TI27 (fun h => absurd h (by decide)) .nil) ⟨sn, sn, sn, sn, rfl, rfl, rfl⟩
  obtain rfl : b7436 = true := hb7436.symm.trans (bne_iff_ne.2 c7437)
  refine VC.join0 (⟨69, [(4, pt g7178 0), (6, pt g7268 0), (66, .bool true)], [], [(g7268, 27, [sn, sn, iv t7261, iv (wrap64 (bt x7180 5)), iv t7266, sn, sn]), (g7178, 27, [sn, sn, iv 0, iv 0, iv 0, sn, sn])], []⟩) (True) ?_ ?_
  · exact dw ⟨0, [], [], [(g7268, 27, [sn, sn, iv t7261, iv (wrap64 (bt x7180 5)), iv t7266, sn, sn])], []⟩ 45 <| av 0 1 rfl (op_fieldAddr FI27_1 rfl (add_at _ _ _)) <| av 1 3 rfl (op_load 0 1 rfl rfl TI3 rfl (by decide)) <|
     av 2 7 rfl (op_cmp rfl rfl (congrArg some hb7424)) <| av 3 15 rfl (mv rfl) <| av 4 31 rfl (op_fieldAddr FI27_1 rfl (add_at _ _ _)) <| av 5 63 rfl (op_load 0 1 rfl rfl TI3 rfl (by decide)) <| av 6 127 rfl (op_cmp rfl rfl (congrArg some hb7430)) <| av 7 255 rfl (op_pick rfl rfl) <|
     av 8 511 rfl (mv rfl) <| av 9 1023 rfl (op_fieldAddr FI27_1 rfl (add_at _ _ _)) <| av 10 2047 rfl (op_load 0 1 rfl rfl TI3 rfl (by decide)) <| av 11 4095 rfl (op_rem rfl rfl (by decide) rfl) <| av 12 8191 rfl (mv rfl) <| av 13 16383 rfl (op_cmp rfl rfl (congrArg some hb7436)) <|
     av 14 32767 rfl (op_pick rfl rfl) <| av 15 65535 rfl (mv rfl) <| au 16 131071 rfl rfl <| au 17 262143 rfl rfl <| au 18 524287 rfl rfl <| av 19 1048575 rfl (op_pick rfl rfl) <| av 20 2097151 rfl (mv rfl) <| au 21 4194303 rfl rfl <| au 22 8388607 rfl rfl <| au 23 16777215 rfl rfl <|
     av 24 33554431 rfl (op_pick rfl rfl) <| av 25 67108863 rfl (mv rfl) <| au 26 134217727 rfl rfl <| au 27 268435455 rfl rfl <| au 28 536870911 rfl rfl <| au 29 1073741823 rfl rfl <| au 30 2147483647 rfl rfl <| au 31 4294967295 rfl rfl <| au 32 8589934591 rfl rfl <|
     av 33 17179869183 rfl (op_pick rfl rfl) <| av 34 34359738367 rfl (mv rfl) <| au 35 68719476735 rfl rfl <| au 36 137438953471 rfl rfl <| au 37 274877906943 rfl rfl <| au 38 549755813887 rfl rfl <| au 39 1099511627775 rfl rfl <| au 40 2199023255551 rfl rfl <| au 41 4398046511103 rfl rfl <|
     au 42 8796093022207 rfl rfl <| au 43 17592186044415 rfl rfl <| av 44 35184372088831 rfl (op_pick rfl rfl) <| ad <| VN.meet0 [0, 1] [] trivial
  intro _
  refine ct <| sr <| va (op_build (vals := []) (vcs := []) (cells := [sn, sn, iv 0, iv 0, iv 0, sn, sn]) SI27 rfl .nil (by kernel_rfl)) <| s1 (o_store 1 7 rfl rfl rfl TI27 (.agg (.of rfl)) rfl (len rfl)) <| dt <| VC.ret <|
   VR.then <| ?_
  simp only [Option.some.injEq, Prod.mk.injEq] at h
  obtain ⟨rfl, rfl, rfl, rfl, rfl, rfl, rfl⟩ := h
  exact VR.nilRow' 9 1 <| VR.nilRow' 56 2 <| VR.nilRow' 9 1 <| VR.nilRow' 9 1 <| rf [.cell 4 27] [3, 2, 1, 0] (.cell 1 rfl rfl TI27 (fun h => absurd h (by decide)) .nil) ⟨sn, sn, sn, sn, rfl, rfl, rfl⟩

end Go.Proofs.Ytipeglbeongfmaa.PJournalOpens
