/- Written by a program of this repo: what the program's functions do, each as a Lean function, shown of the loaded code; or a statement's row over that; no condition of its own. -/
import Derived.Test.YtlfkendmepdbkaaPDiskReadsx4
namespace Go.Proofs.Ytlfkendmepdbkaa.PDiskReads
open Go Go.RowKit Go.Proofs.YtlfkendmepdbkaaV
set_option linter.unusedVariables false
set_option linter.unusedSimpArgs false

set_option maxHeartbeats 4000000 in
set_option maxRecDepth 100000 in
theorem tarrylaw03_DiskReads.ok (k : Nat) (l0_0 : List ByteArray) (l0_1 : List S32) (a1 : Int) (a2 : Int) (a3 : ByteArray) (a4 : Int) (a5 : Int) (v0_0 : Value) (v0_1 : Value) (r1 : Bool) (h : tarrylaw03_DiskReads.f k l0_0 l0_1 a1 a2 a3 a4 a5 = some r1) :
    VCalls Try.prog 5 [.agg #[v0_0, v0_1], .int .i64 a1, .int .i64 a2, .string a3, .int .u64 a4, .int .i64 a5] [.row v0_0 1 (l0_0.map enc_str), .row v0_1 2 (l0_1.map enc32)] (fun v G own => v = .bool r1 ∧ G = [] ∧ own = []) := by
  refine VCalls.intro Try.func5 rfl (len rfl) fun E hC hW hD hU => ?_
  unfold tarrylaw03_DiskReads.f at h
  refine VC.seq ?_
  refine VC.region ?_
  refine VL.sG (o_box rfl (.agg (.f 0 rfl (.f 1 rfl .nil))) (ltn rfl)) rfl ?_
  intro g3
  refine VL.va (op_assign rfl (ltn rfl)) rfl ?_
  refine VL.done ?_
  refine VN.then ?_
  replace h := Option.bind_eq_some_iff.1 h
  obtain ⟨⟨r327, r328⟩, hA329, h⟩ := h
  dsimp only at h
  by_cases c334 : 0 ≤ mn (a3.size : Int) 64
  · rw [if_pos c334] at h
    by_cases c335 : (mn (a3.size : Int) 64) ≤ (a3.size : Int)
    · rw [if_pos c335] at h
      refine VC.join2 (fun (v331 : Value) (v333 : Value) => ⟨139, [(1, .int .i64 a1), (2, .int .i64 a2), (3, .string (a3.extract 0 ((mn (a3.size : Int) 64).toNat))), (4, .int .u64 a4), (5, .int .i64 a5), (6, .pointer (some ⟨g3, 0, none⟩)), (12, .bool false)], [], [(g3, 25, [v331, v333])], [(v331, 9, 1, r327.map enc_str), (v333, 33, 2, r328.map enc32)]⟩) (fun (v331 : Value) (v333 : Value) => True) ?_ ?_
      · refine VC.drawB ⟨0, [], [], [], []⟩ [7] ⟨0, [], [], [(g3, 25, [v0_0, v0_1])], []⟩ (by kernel_rfl) rfl (by kernel_rfl) (n := 9) (listed := LB 9 0) ?_
        refine VB.vb (i := 0) (listed' := LB 9 1) rfl (op_load 0 2 rfl rfl TI25 rfl (fun h => absurd h (by decide)) (ltn rfl)) rfl (by kernel_rfl) (by kernel_rfl) (by kernel_rfl) (by kernel_rfl) (by kernel_rfl) (by kernel_rfl) (PartP.on ⟨trivial, trivial, trivial⟩ ⟨trivial, ⟨⟨0, rfl⟩, trivial⟩, trivial⟩) (fun _ _ _ h => h) ?_
        refine VB.va (i := 2) (listed' := LB 9 5) rfl (op_move rfl (ltn rfl)) rfl (by kernel_rfl) (by kernel_rfl) (by kernel_rfl) (by kernel_rfl) (by decide) (PartP.on ⟨trivial, trivial, trivial⟩ ⟨trivial, ⟨⟨0, rfl⟩, trivial⟩, trivial⟩) (fun _ _ _ h => h) ?_
        refine VB.va (i := 3) (listed' := LB 9 13) rfl (op_move rfl (ltn rfl)) rfl (by kernel_rfl) (by kernel_rfl) (by kernel_rfl) (by kernel_rfl) (by decide) (PartP.on ⟨trivial, trivial, trivial⟩ ⟨trivial, ⟨⟨0, rfl⟩, trivial⟩, trivial⟩) (fun _ _ _ h => h) ?_
        refine VB.va (i := 4) (listed' := LB 9 29) rfl (op_lens Try.underlying9 rfl (ltn rfl)) rfl (by kernel_rfl) (by kernel_rfl) (by kernel_rfl) (by kernel_rfl) (by decide) (PartP.on ⟨trivial, trivial, trivial⟩ ⟨trivial, ⟨⟨0, rfl⟩, trivial⟩, trivial⟩) (fun _ _ _ h => h) ?_
        refine VB.va (i := 5) (listed' := LB 9 61) rfl (op_min rfl rfl (ltn rfl)) rfl (by kernel_rfl) (by kernel_rfl) (by kernel_rfl) (by kernel_rfl) (by decide) (PartP.on ⟨trivial, trivial, trivial⟩ ⟨trivial, ⟨⟨0, rfl⟩, trivial⟩, trivial⟩) (fun _ _ _ h => h) ?_
        refine VB.va (i := 6) (listed' := LB 9 125) rfl (op_sliceS 0 ((mn (a3.size : Int) 64).toNat) Try.underlying9 rfl ⟨rfl, ⟨_, _, rfl, c334, rfl⟩, by omega, by omega⟩ rfl (ltn rfl)) rfl (by kernel_rfl) (by kernel_rfl) (by kernel_rfl) (by kernel_rfl) (by decide) (PartP.on ⟨trivial, trivial, trivial⟩ ⟨trivial, ⟨⟨0, rfl⟩, trivial⟩, trivial⟩) (fun _ _ _ h => h) ?_
        refine VB.oneC (i := 1) (listed' := LB 9 127) (by kernel_rfl) rfl (o_call0 FO6 (tarrylaw03_few.ok k l0_0 l0_1 v0_0 v0_1 r327 r328 hA329) rfl rfl (ltn rfl) (All_of (.cons (List.mem_of_getElem? (i := 0) rfl) (.cons (List.mem_of_getElem? (i := 1) rfl) .nil)))) rfl (by kernel_rfl) ?_
        rintro _ _ _ ⟨v331, v333, rfl, rfl, rfl⟩
        refine ⟨(PartP.on ⟨trivial, trivial, trivial⟩ ⟨trivial, ⟨⟨0, rfl⟩, trivial⟩, trivial⟩), ?_⟩
        refine VB.one1 (i := 7) (listed' := LB 9 255) (by kernel_rfl) rfl (o_store 0 2 rfl rfl rfl TI25 (.agg (.r 0 rfl (.r 1 rfl .nil))) rfl (len rfl)) rfl (by kernel_rfl) (PartP.off (by kernel_rfl) ⟨trivial, trivial, trivial⟩) ?_
        refine VB.va (i := 8) (listed' := LB 9 511) rfl (op_assign rfl (ltn rfl)) rfl (by kernel_rfl) (by kernel_rfl) (by kernel_rfl) (by kernel_rfl) (by decide) (PartP.off (by kernel_rfl) ⟨trivial, trivial, trivial⟩) (fun _ _ _ h => h) ?_
        refine VB.done (by kernel_rfl) ?_
        exact VN.meet2 v331 v333 [0] [0, 1] trivial ⟨rfl, ⟨rfl, rfl, rfl, rfl, rfl, rfl, rfl, trivial⟩, trivial, rfl, by decide, rfl, by decide⟩
      intro v331 v333 _
      refine VC.seq ?_
      refine VC.region ?_
      refine VL.va (op_load 0 2 rfl rfl TI25 rfl (fun h => absurd h (by decide)) (ltn rfl)) rfl ?_
      refine VL.va (op_move rfl (ltn rfl)) rfl ?_
      refine VL.va (op_move rfl (ltn rfl)) rfl ?_
      refine VL.freezeRow' 0 rfl ?_
      refine VL.freezeRow' 0 rfl ?_
      replace h := Option.bind_eq_some_iff.1 h
      obtain ⟨⟨r719, r720, t721⟩, hA722, h⟩ := h
      dsimp only at h
      refine VL.sC (o_call0 FO10 (disk_Put.ok k r327 r328 a1 (a3.extract 0 ((mn (a3.size : Int) 64).toNat)) v331 v333 r719 r720 t721 hA722) rfl rfl (ltn rfl) (All_of (.cons (List.mem_of_getElem? (i := 1) rfl) (.cons (List.mem_of_getElem? (i := 0) rfl) .nil)))) rfl ?_
      rintro _ _ _ ⟨v724, v726, rfl, rfl, rfl⟩
      refine VL.va (op_move rfl (ltn rfl)) rfl ?_
      refine VL.va (op_extract rfl rfl (ltn rfl)) rfl ?_
      refine VL.va (op_extract rfl rfl (ltn rfl)) rfl ?_
      refine VL.sG (o_alloc Z25 ZL25 (ltn rfl)) rfl ?_
      intro g727
      refine VL.step1 (o_store 0 2 rfl rfl rfl TI25 (.agg (.f 0 rfl (.f 1 rfl .nil))) rfl (len rfl)) rfl ?_
      refine VL.va (op_assign rfl (ltn rfl)) rfl ?_
      refine VL.done ?_
      refine VN.then ?_
      refine VC.seq ?_
      refine VC.seq ?_
      refine VC.region ?_
      refine VL.va (op_move rfl (ltn rfl)) rfl ?_
      refine VL.letter ((t721 != 0)) fun b1461 hb1461 => ?_
      refine VL.va (op_cmp rfl rfl (congrArg some hb1461) (ltn rfl)) rfl ?_
      refine VL.done ?_
      refine VN.then ?_
      by_cases c1462 : t721 = 0
      · rw [if_pos c1462] at h
        obtain rfl : b1461 = false := hb1461.symm.trans (bne_eq_false_iff_eq.2 c1462)
        refine VC.cond_f rfl ?_
        refine VC.skip ?_
        refine VN.then ?_
        refine VC.seq ?_
        refine VC.region ?_
        refine VL.va (op_load 0 2 rfl rfl TI25 rfl (fun h => absurd h (by decide)) (ltn rfl)) rfl ?_
        refine VL.va (op_move rfl (ltn rfl)) rfl ?_
        replace h := Option.bind_eq_some_iff.1 h
        obtain ⟨⟨t1463, t1464⟩, hA1465, h⟩ := h
        dsimp only at h
        refine VL.sC (o_call0 FO11 (disk_Get.ok k r719 r720 a1 v724 v726 t1463 t1464 hA1465) rfl rfl (ltn rfl) (All_of (.cons (List.mem_of_getElem? (i := 0) rfl) (.cons (List.mem_of_getElem? (i := 1) rfl) .nil)))) rfl ?_
        rintro _ _ _ ⟨rfl, rfl, rfl⟩
        refine VL.va (op_move rfl (ltn rfl)) rfl ?_
        refine VL.va (op_extract rfl rfl (ltn rfl)) rfl ?_
        refine VL.va (op_extract rfl rfl (ltn rfl)) rfl ?_
        refine VL.va (op_assign rfl (ltn rfl)) rfl ?_
        refine VL.va (op_assign rfl (ltn rfl)) rfl ?_
        refine VL.done ?_
        refine VN.then ?_
        refine VC.seq ?_
        refine VC.region ?_
        refine VL.va (op_load 0 2 rfl rfl TI25 rfl (fun h => absurd h (by decide)) (ltn rfl)) rfl ?_
        replace h := Option.bind_eq_some_iff.1 h
        obtain ⟨⟨r1478, r1479, t1480⟩, hA1481, h⟩ := h
        dsimp only at h
        refine VL.sC (o_call0 FO12 (disk_Flush.ok k r719 r720 v724 v726 r1478 r1479 t1480 hA1481) rfl rfl (ltn rfl) (All_of (.cons (List.mem_of_getElem? (i := 0) rfl) (.cons (List.mem_of_getElem? (i := 1) rfl) .nil)))) rfl ?_
        rintro _ _ _ ⟨v1483, v1485, rfl, rfl, rfl⟩
        refine VL.va (op_move rfl (ltn rfl)) rfl ?_
        refine VL.va (op_extract rfl rfl (ltn rfl)) rfl ?_
        refine VL.va (op_extract rfl rfl (ltn rfl)) rfl ?_
        refine VL.sG (o_alloc Z25 ZL25 (ltn rfl)) rfl ?_
        intro g1486
        refine VL.step1 (o_store 0 2 rfl rfl rfl TI25 (.agg (.r 0 rfl (.r 1 rfl .nil))) rfl (len rfl)) rfl ?_
        refine VL.va (op_assign rfl (ltn rfl)) rfl ?_
        refine VL.done ?_
        refine VN.then ?_
        refine VC.seq ?_
        refine VC.region ?_
        refine VL.va (op_load 0 2 rfl rfl TI25 rfl (fun h => absurd h (by decide)) (ltn rfl)) rfl ?_
        refine VL.va (op_move rfl (ltn rfl)) rfl ?_
        refine VL.va (op_move rfl (ltn rfl)) rfl ?_
        replace h := Option.bind_eq_some_iff.1 h
        obtain ⟨⟨r1487, r1488, t1489⟩, hA1490, h⟩ := h
        dsimp only at h
        refine VL.sC (o_call_b0 FO7 (disk_Crash.ok k r1478 r1479 a4 a5 v1483 v1485 r1487 r1488 t1489 hA1490) rfl rfl (ltn rfl) (All_of (.cons (.inr (.inl ⟨_, List.mem_of_getElem? (i := 0) rfl, rfl⟩)) (.cons (.inr (.inl ⟨_, List.mem_of_getElem? (i := 1) rfl, rfl⟩)) .nil))) (by rintro _ _ _ ⟨v1492, v1494, rfl, rfl, rfl⟩; rfl)) rfl ?_
        rintro _ _ _ ⟨v1492, v1494, rfl, rfl, rfl⟩
        refine VL.va (op_move rfl (ltn rfl)) rfl ?_
        refine VL.va (op_extract rfl rfl (ltn rfl)) rfl ?_
        refine VL.va (op_extract rfl rfl (ltn rfl)) rfl ?_
        refine VL.sG (o_alloc Z25 ZL25 (ltn rfl)) rfl ?_
        intro g1495
        refine VL.step1 (o_store 0 2 rfl rfl rfl TI25 (.agg (.r 0 rfl (.r 1 rfl .nil))) rfl (len rfl)) rfl ?_
        refine VL.va (op_assign rfl (ltn rfl)) rfl ?_
        refine VL.done ?_
        refine VN.then ?_
        refine VC.seq ?_
        refine VC.seq ?_
        refine VC.region ?_
        refine VL.va (op_move rfl (ltn rfl)) rfl ?_
        refine VL.letter ((t1464 != 0)) fun b1794 hb1794 => ?_
        refine VL.va (op_cmp rfl rfl (congrArg some hb1794) (ltn rfl)) rfl ?_
        refine VL.va (op_move rfl (ltn rfl)) rfl ?_
        by_cases c1795 : t1464 = 0
        · rw [if_pos c1795] at h
          obtain rfl : b1794 = false := hb1794.symm.trans (bne_eq_false_iff_eq.2 c1795)
          refine VL.va (op_move rfl (ltn rfl)) rfl ?_
          refine VL.va (op_move rfl (ltn rfl)) rfl ?_
          refine VL.letter ((t1463 != (a3.extract 0 ((mn (a3.size : Int) 64).toNat)))) fun b1796 hb1796 => ?_
          refine VL.va (op_cmps rfl rfl (congrArg some hb1796) (ltn rfl)) rfl ?_
          refine VL.va (op_pick rfl rfl (ltn rfl)) rfl ?_
          refine VL.va (op_move rfl (ltn rfl)) rfl ?_
          by_cases c1797 : (t1463 == (a3.extract 0 ((mn (a3.size : Int) 64).toNat))) = true
          · rw [if_pos c1797] at h
            obtain rfl : b1796 = false := hb1796.symm.trans (bne_of_t c1797)
            refine VL.va (op_move rfl (ltn rfl)) rfl ?_
            refine VL.letter ((t1480 != 0)) fun b1798 hb1798 => ?_
            refine VL.va (op_cmp rfl rfl (congrArg some hb1798) (ltn rfl)) rfl ?_
            refine VL.va (op_pick rfl rfl (ltn rfl)) rfl ?_
            refine VL.va (op_move rfl (ltn rfl)) rfl ?_
            by_cases c1799 : t1480 = 0
            · rw [if_pos c1799] at h
              obtain rfl : b1798 = false := hb1798.symm.trans (bne_eq_false_iff_eq.2 c1799)
              refine VL.va (op_move rfl (ltn rfl)) rfl ?_
              refine VL.letter ((t1489 != 0)) fun b1800 hb1800 => ?_
              refine VL.va (op_cmp rfl rfl (congrArg some hb1800) (ltn rfl)) rfl ?_
              refine VL.va (op_pick rfl rfl (ltn rfl)) rfl ?_
              refine VL.va (op_move rfl (ltn rfl)) rfl ?_
              by_cases c1801 : t1489 = 0
              · rw [if_pos c1801] at h
                obtain rfl : b1800 = false := hb1800.symm.trans (bne_eq_false_iff_eq.2 c1801)
                refine VL.va (op_load 1 2 rfl rfl TI25 rfl (fun h => absurd h (by decide)) (ltn rfl)) rfl ?_
                refine VL.va (op_load 0 2 rfl rfl TI25 rfl (fun h => absurd h (by decide)) (ltn rfl)) rfl ?_
                replace h := Option.bind_eq_some_iff.1 h
                obtain ⟨t1802, hA1803, h⟩ := h
                refine VL.sC (o_call_b0 FO13 (tarryref03_Like.ok k r1478 r1479 r1487 r1488 v1483 v1485 v1492 v1494 t1802 hA1803) rfl rfl (ltn rfl) (All_of (.cons (.inr (.inl ⟨_, List.mem_of_getElem? (i := 2) rfl, rfl⟩)) (.cons (.inr (.inl ⟨_, List.mem_of_getElem? (i := 3) rfl, rfl⟩)) (.cons (.inr (.inl ⟨_, List.mem_of_getElem? (i := 0) rfl, rfl⟩)) (.cons (.inr (.inl ⟨_, List.mem_of_getElem? (i := 1) rfl, rfl⟩)) .nil))))) (by rintro _ _ _ ⟨rfl, rfl, rfl⟩; rfl)) rfl ?_
                rintro _ _ _ ⟨rfl, rfl, rfl⟩
                by_cases c1804 : t1802 = true
                · rw [if_pos c1804] at h
                  obtain rfl := c1804
                  refine VL.va (op_not rfl rfl (ltn rfl)) rfl ?_
                  refine VL.va (op_pick rfl rfl (ltn rfl)) rfl ?_
                  refine VL.va (op_move rfl (ltn rfl)) rfl ?_
                  replace h := Option.bind_eq_some_iff.1 h
                  obtain ⟨t1805, hA1806, h⟩ := h
                  refine VL.sC (o_call0 FO8 (tarrylaw03_alive.ok k t1805 hA1806) rfl rfl (ltn rfl) (All_of .nil)) rfl ?_
                  rintro _ _ _ ⟨rfl, rfl, rfl⟩
                  by_cases c1807 : t1805 = true
                  · rw [if_pos c1807] at h
                    obtain rfl := c1807
                    refine VL.va (op_not rfl rfl (ltn rfl)) rfl ?_
                    refine VL.va (op_pick rfl rfl (ltn rfl)) rfl ?_
                    refine VL.done ?_
                    refine VN.then ?_
                    refine VC.cond_f rfl ?_
                    refine VC.skip ?_
                    refine VN.then ?_
                    refine VC.seq ?_
                    refine VC.seq ?_
                    refine VC.region ?_
                    refine VL.va (op_move rfl (ltn rfl)) rfl ?_
                    refine VL.va (op_move rfl (ltn rfl)) rfl ?_
                    refine VL.sG (o_buildSlice (vals := [(0, .int .i64 a1), (1, .int .i64 a2)]) (cells := #[.int .i64 a1, .int .i64 a2]) (es := List.map enc_inti64 ([a1, a2] : List Int)) Try.underlying46 TI3 Z3 rfl (by decide) (by decide) (by kernel_rfl) (by kernel_rfl) rfl (flat_map enc_inti64_ok _) (ltn rfl)) rfl ?_
                    intro v2011
                    refine VL.va (op_len_own (m := ([a1, a2] : List Int).length) 0 lenm Try.underlying46 rfl rfl (ltn rfl)) rfl ?_
                    refine VL.va (op_move rfl (ltn rfl)) rfl ?_
                    refine VL.done ?_
                    refine VN.then ?_
                    refine VC.block ?_
                    refine VC.loop1 (fun (i2077 : Int) => ⟨139, [(1, .int .i64 a1), (6, .pointer (some ⟨g3, 0, none⟩)), (12, .bool false), (13, .pointer (some ⟨g727, 0, none⟩)), (17, .pointer (some ⟨g1486, 0, none⟩)), (91, v2011), (92, .int .i64 (([a1, a2] : List Int).length : Int)), (93, .int .i64 i2077)], [.row v724 1 (r719.map enc_str), .row v726 2 (r720.map enc32), .row v331 1 (r327.map enc_str), .row v333 2 (r328.map enc32)], [(g1486, 25, [v1483, v1485]), (g727, 25, [v724, v726]), (g3, 25, [v331, v333])], [(v2011, 3, 1, ([a1, a2] : List Int).map enc_inti64), (v1483, 9, 1, r1478.map enc_str), (v1485, 33, 2, r1479.map enc32)]⟩) (fun (ml1 : Nat) (i2077 : Int) => tarrylaw03_DiskReads.l1 k a1 a2 r1478 r1479 r327 r328 r719 r720 ml1 i2077 = some r1) k 0 [1, 2, 3] [0, 3, 4] h ⟨rfl, ⟨rfl, rfl, rfl, rfl, rfl, rfl, rfl, rfl, trivial⟩, ⟨⟨0, rfl⟩, ⟨1, rfl⟩, ⟨3, rfl⟩, ⟨2, rfl⟩, trivial⟩, rfl, by decide, rfl, by decide⟩ (by intros; simp [tarrylaw03_DiskReads.l1]) ?_
                    clear h
                    intro ml1 ihl1 i2077 h
                    simp only [tarrylaw03_DiskReads.l1] at h
                    refine VC.seq ?_
                    refine VC.region ?_
                    refine VL.letter (decide (i2077 < (([a1, a2] : List Int).length : Int))) fun b2145 hb2145 => ?_
                    refine VL.va (op_cmp rfl rfl (congrArg some hb2145) (ltn rfl)) rfl ?_
                    refine VL.done ?_
                    refine VN.then ?_
                    refine VC.seq ?_
                    by_cases c2147 : i2077 < (([a1, a2] : List Int).length : Int)
                    · rw [if_pos c2147] at h
                      obtain rfl : b2145 = true := hb2145.symm.trans (decide_eq_true c2147)
                      refine VC.cond_t rfl ?_
                      refine VC.skip ?_
                      refine VN.then ?_
                      refine VC.seq ?_
                      refine VC.block ?_
                      refine VC.seq ?_
                      refine VC.region ?_
                      by_cases c2180 : 0 ≤ i2077
                      · rw [if_pos c2180] at h
                        replace h := Option.bind_eq_some_iff.1 h
                        obtain ⟨x2181, hx2181, h⟩ := h
                        refine VL.openR (m := ([a1, a2] : List Int).length) 0 lenm rfl (pos_get hx2181) ?_
                        rintro g2182 n2183 rfl
                        refine VL.va (op_indexAddr Try.underlying46 TI3 rfl rfl c2180 (lt_get c2180 hx2181) (add_zero_at _ _) (ltn rfl)) rfl ?_
                        refine VL.va (op_load_own (sz := 1) (o := 0) 0 i2077.toNat 1 rfl rfl (get_map hx2181) TI3 rfl (by decide) (ltn rfl)) rfl ?_
                        refine VL.va (op_assign rfl (ltn rfl)) rfl ?_
                        refine VL.done ?_
                        refine VN.then ?_
                        refine VC.seq ?_
                        refine VC.region ?_
                        refine VL.va (op_load 1 2 rfl rfl TI25 rfl (fun h => absurd h (by decide)) (ltn rfl)) rfl ?_
                        refine VL.va (op_move rfl (ltn rfl)) rfl ?_
                        replace h := Option.bind_eq_some_iff.1 h
                        obtain ⟨⟨t2184, t2185⟩, hA2186, h⟩ := h
                        dsimp only at h
                        refine VL.sC (o_call0 FO11 (disk_Get.ok k r719 r720 x2181 v724 v726 t2184 t2185 hA2186) rfl rfl (ltn rfl) (All_of (.cons (List.mem_of_getElem? (i := 0) rfl) (.cons (List.mem_of_getElem? (i := 1) rfl) .nil)))) rfl ?_
                        rintro _ _ _ ⟨rfl, rfl, rfl⟩
                        refine VL.va (op_move rfl (ltn rfl)) rfl ?_
                        refine VL.va (op_extract rfl rfl (ltn rfl)) rfl ?_
                        refine VL.va (op_extract rfl rfl (ltn rfl)) rfl ?_
                        refine VL.va (op_assign rfl (ltn rfl)) rfl ?_
                        refine VL.va (op_assign rfl (ltn rfl)) rfl ?_
                        refine VL.done ?_
                        refine VN.then ?_
                        refine VC.seq ?_
                        refine VC.region ?_
                        refine VL.va (op_load 0 2 rfl rfl TI25 rfl (fun h => absurd h (by decide)) (ltn rfl)) rfl ?_
                        refine VL.va (op_move rfl (ltn rfl)) rfl ?_
                        replace h := Option.bind_eq_some_iff.1 h
                        obtain ⟨⟨t2187, t2188⟩, hA2189, h⟩ := h
                        dsimp only at h
                        refine VL.sC (o_call_b0 FO11 (disk_Get.ok k r1478 r1479 x2181 v1483 v1485 t2187 t2188 hA2189) rfl rfl (ltn rfl) (All_of (.cons (.inr (.inl ⟨_, List.mem_of_getElem? (i := 1) rfl, rfl⟩)) (.cons (.inr (.inl ⟨_, List.mem_of_getElem? (i := 2) rfl, rfl⟩)) .nil))) (by rintro _ _ _ ⟨rfl, rfl, rfl⟩; rfl)) rfl ?_
                        rintro _ _ _ ⟨rfl, rfl, rfl⟩
                        refine VL.va (op_move rfl (ltn rfl)) rfl ?_
                        refine VL.va (op_extract rfl rfl (ltn rfl)) rfl ?_
                        refine VL.va (op_extract rfl rfl (ltn rfl)) rfl ?_
                        refine VL.va (op_assign rfl (ltn rfl)) rfl ?_
                        refine VL.va (op_assign rfl (ltn rfl)) rfl ?_
                        refine VL.done ?_
                        refine VN.then ?_
                        refine VC.seq ?_
                        refine VC.region ?_
                        refine VL.va (op_load 2 2 rfl rfl TI25 rfl (fun h => absurd h (by decide)) (ltn rfl)) rfl ?_
                        refine VL.va (op_move rfl (ltn rfl)) rfl ?_
                        replace h := Option.bind_eq_some_iff.1 h
                        obtain ⟨⟨t2190, t2191⟩, hA2192, h⟩ := h
                        dsimp only at h
                        refine VL.sC (o_call0 FO11 (disk_Get.ok k r327 r328 x2181 v331 v333 t2190 t2191 hA2192) rfl rfl (ltn rfl) (All_of (.cons (List.mem_of_getElem? (i := 2) rfl) (.cons (List.mem_of_getElem? (i := 3) rfl) .nil)))) rfl ?_
                        rintro _ _ _ ⟨rfl, rfl, rfl⟩
                        refine VL.va (op_move rfl (ltn rfl)) rfl ?_
                        refine VL.va (op_extract rfl rfl (ltn rfl)) rfl ?_
                        refine VL.va (op_extract rfl rfl (ltn rfl)) rfl ?_
                        refine VL.va (op_assign rfl (ltn rfl)) rfl ?_
                        refine VL.va (op_assign rfl (ltn rfl)) rfl ?_
                        refine VL.done ?_
                        refine VN.then ?_
                        refine VC.seq ?_
                        refine VC.region ?_
                        refine VL.va (op_move rfl (ltn rfl)) rfl ?_
                        refine VL.va (op_move rfl (ltn rfl)) rfl ?_
                        refine VL.letter ((t2184 != t2187)) fun b2202 hb2202 => ?_
                        refine VL.va (op_cmps rfl rfl (congrArg some hb2202) (ltn rfl)) rfl ?_
                        refine VL.va (op_move rfl (ltn rfl)) rfl ?_
                        by_cases c2203 : (t2184 == t2187) = true
                        · rw [if_pos c2203] at h
                          obtain rfl : b2202 = false := hb2202.symm.trans (bne_of_t c2203)
                          refine VL.va (op_move rfl (ltn rfl)) rfl ?_
                          refine VL.va (op_move rfl (ltn rfl)) rfl ?_
                          refine VL.letter ((t2185 != t2188)) fun b2204 hb2204 => ?_
                          refine VL.va (op_cmp rfl rfl (congrArg some hb2204) (ltn rfl)) rfl ?_
                          refine VL.va (op_pick rfl rfl (ltn rfl)) rfl ?_
                          refine VL.va (op_move rfl (ltn rfl)) rfl ?_
                          by_cases c2205 : t2185 = t2188
                          · rw [if_pos c2205] at h
                            obtain rfl : b2204 = false := hb2204.symm.trans (bne_eq_false_iff_eq.2 c2205)
                            refine VL.va (op_move rfl (ltn rfl)) rfl ?_
                            refine VL.va (op_move rfl (ltn rfl)) rfl ?_
                            refine VL.letter ((x2181 != a1)) fun b2206 hb2206 => ?_
                            refine VL.va (op_cmp rfl rfl (congrArg some hb2206) (ltn rfl)) rfl ?_
                            refine VL.va (op_move rfl (ltn rfl)) rfl ?_
                            by_cases c2207 : x2181 = a1
                            · rw [if_pos c2207] at h
                              obtain rfl : b2206 = false := hb2206.symm.trans (bne_eq_false_iff_eq.2 c2207)
                              refine VL.un rfl rfl (ltn rfl) ?_
                              refine VL.un rfl rfl (ltn rfl) ?_
                              refine VL.un rfl rfl (ltn rfl) ?_
                              refine VL.un rfl rfl (ltn rfl) ?_
                              refine VL.un rfl rfl (ltn rfl) ?_
                              refine VL.un rfl rfl (ltn rfl) ?_
                              refine VL.un rfl rfl (ltn rfl) ?_
                              refine VL.un rfl rfl (ltn rfl) ?_
                              refine VL.va (op_pick rfl rfl (ltn rfl)) rfl ?_
                              refine VL.va (op_pick rfl rfl (ltn rfl)) rfl ?_
                              refine VL.done ?_
                              refine VN.then ?_
                              refine VC.cond_f rfl ?_
                              refine VC.skip ?_
                              refine VN.block ?_
                              refine VN.then ?_
                              refine VC.region ?_
                              refine VL.va (op_ari64 rfl rfl rfl (ltn rfl)) rfl ?_
                              refine VL.va (op_move rfl (ltn rfl)) rfl ?_
                              refine VL.done ?_
                              refine VN.again [0, 1, 2] [0, 1, 2] (ihl1 (wrap64 (i2077 + 1)) h) ⟨rfl, ⟨rfl, rfl, rfl, rfl, rfl, rfl, rfl, rfl, trivial⟩, ⟨⟨0, rfl⟩, ⟨1, rfl⟩, ⟨2, rfl⟩, ⟨3, rfl⟩, trivial⟩, rfl, by decide, rfl, by decide⟩
                            · rw [if_neg c2207] at h
                              obtain rfl : b2206 = true := hb2206.symm.trans (bne_iff_ne.2 c2207)
                              refine VL.va (op_move rfl (ltn rfl)) rfl ?_
                              refine VL.va (op_move rfl (ltn rfl)) rfl ?_
                              refine VL.letter ((t2184 != t2190)) fun b2208 hb2208 => ?_
                              refine VL.va (op_cmps rfl rfl (congrArg some hb2208) (ltn rfl)) rfl ?_
                              refine VL.va (op_move rfl (ltn rfl)) rfl ?_
                              by_cases c2209 : (t2184 == t2190) = true
                              · rw [if_pos c2209] at h
                                obtain rfl : b2208 = false := hb2208.symm.trans (bne_of_t c2209)
                                refine VL.va (op_move rfl (ltn rfl)) rfl ?_
                                refine VL.va (op_move rfl (ltn rfl)) rfl ?_
                                refine VL.letter ((t2185 != t2191)) fun b2210 hb2210 => ?_
                                refine VL.va (op_cmp rfl rfl (congrArg some hb2210) (ltn rfl)) rfl ?_
                                refine VL.va (op_pick rfl rfl (ltn rfl)) rfl ?_
                                refine VL.va (op_pick rfl rfl (ltn rfl)) rfl ?_
                                refine VL.va (op_pick rfl rfl (ltn rfl)) rfl ?_
                                refine VL.done ?_
                                refine VN.then ?_
                                by_cases c2211 : t2185 = t2191
                                · rw [if_pos c2211] at h
                                  obtain rfl : b2210 = false := hb2210.symm.trans (bne_eq_false_iff_eq.2 c2211)
                                  refine VC.cond_f rfl ?_
                                  refine VC.skip ?_
                                  refine VN.block ?_
                                  refine VN.then ?_
                                  refine VC.region ?_
                                  refine VL.va (op_ari64 rfl rfl rfl (ltn rfl)) rfl ?_
                                  refine VL.va (op_move rfl (ltn rfl)) rfl ?_
                                  refine VL.done ?_
                                  refine VN.again [0, 1, 2] [0, 1, 2] (ihl1 (wrap64 (i2077 + 1)) h) ⟨rfl, ⟨rfl, rfl, rfl, rfl, rfl, rfl, rfl, rfl, trivial⟩, ⟨⟨0, rfl⟩, ⟨1, rfl⟩, ⟨2, rfl⟩, ⟨3, rfl⟩, trivial⟩, rfl, by decide, rfl, by decide⟩
                                · rw [if_neg c2211] at h
                                  obtain rfl : b2210 = true := hb2210.symm.trans (bne_iff_ne.2 c2211)
                                  refine VC.cond_t rfl ?_
                                  refine VC.seq ?_
                                  refine VC.region ?_
                                  refine VL.va (op_assign rfl (ltn rfl)) rfl ?_
                                  refine VL.done ?_
                                  refine VN.then ?_
                                  refine VC.ret ?_
                                  refine VR.block ?_
                                  refine VR.then ?_
                                  refine VR.then ?_
                                  refine VR.block ?_
                                  refine VR.then ?_
                                  cases h
                              · rw [if_neg c2209] at h
                                obtain rfl : b2208 = true := hb2208.symm.trans (bne_of_f c2209)
                                refine VL.un rfl rfl (ltn rfl) ?_
                                refine VL.un rfl rfl (ltn rfl) ?_
                                refine VL.un rfl rfl (ltn rfl) ?_
                                refine VL.va (op_pick rfl rfl (ltn rfl)) rfl ?_
                                refine VL.va (op_pick rfl rfl (ltn rfl)) rfl ?_
                                refine VL.va (op_pick rfl rfl (ltn rfl)) rfl ?_
                                refine VL.done ?_
                                refine VN.then ?_
                                refine VC.cond_t rfl ?_
                                refine VC.seq ?_
                                refine VC.region ?_
                                refine VL.va (op_assign rfl (ltn rfl)) rfl ?_
                                refine VL.done ?_
                                refine VN.then ?_
                                refine VC.ret ?_
                                refine VR.block ?_
                                refine VR.then ?_
                                refine VR.then ?_
                                refine VR.block ?_
                                refine VR.then ?_
                                cases h
                          · rw [if_neg c2205] at h
                            obtain rfl : b2204 = true := hb2204.symm.trans (bne_iff_ne.2 c2205)
                            refine VL.un rfl rfl (ltn rfl) ?_
                            refine VL.un rfl rfl (ltn rfl) ?_
                            refine VL.un rfl rfl (ltn rfl) ?_
                            refine VL.un rfl rfl (ltn rfl) ?_
                            refine VL.un rfl rfl (ltn rfl) ?_
                            refine VL.un rfl rfl (ltn rfl) ?_
                            refine VL.un rfl rfl (ltn rfl) ?_
                            refine VL.un rfl rfl (ltn rfl) ?_
                            refine VL.un rfl rfl (ltn rfl) ?_
                            refine VL.un rfl rfl (ltn rfl) ?_
                            refine VL.un rfl rfl (ltn rfl) ?_
                            refine VL.un rfl rfl (ltn rfl) ?_
                            refine VL.un rfl rfl (ltn rfl) ?_
                            refine VL.va (op_pick rfl rfl (ltn rfl)) rfl ?_
                            refine VL.done ?_
                            refine VN.then ?_
                            refine VC.cond_t rfl ?_
                            refine VC.seq ?_
                            refine VC.region ?_
                            refine VL.va (op_assign rfl (ltn rfl)) rfl ?_
                            refine VL.done ?_
                            refine VN.then ?_
                            refine VC.ret ?_
                            refine VR.block ?_
                            refine VR.then ?_
                            refine VR.then ?_
                            refine VR.block ?_
                            refine VR.then ?_
                            cases h
                        · rw [if_neg c2203] at h
                          obtain rfl : b2202 = true := hb2202.symm.trans (bne_of_f c2203)
                          refine VL.un rfl rfl (ltn rfl) ?_
                          refine VL.un rfl rfl (ltn rfl) ?_
                          refine VL.un rfl rfl (ltn rfl) ?_
                          refine VL.va (op_pick rfl rfl (ltn rfl)) rfl ?_
                          refine VL.va (op_move rfl (ltn rfl)) rfl ?_
                          refine VL.un rfl rfl (ltn rfl) ?_
                          refine VL.un rfl rfl (ltn rfl) ?_
                          refine VL.un rfl rfl (ltn rfl) ?_
                          refine VL.un rfl rfl (ltn rfl) ?_
                          refine VL.un rfl rfl (ltn rfl) ?_
                          refine VL.un rfl rfl (ltn rfl) ?_
                          refine VL.un rfl rfl (ltn rfl) ?_
                          refine VL.un rfl rfl (ltn rfl) ?_
                          refine VL.un rfl rfl (ltn rfl) ?_
                          refine VL.un rfl rfl (ltn rfl) ?_
                          refine VL.un rfl rfl (ltn rfl) ?_
                          refine VL.un rfl rfl (ltn rfl) ?_
                          refine VL.un rfl rfl (ltn rfl) ?_
                          refine VL.va (op_pick rfl rfl (ltn rfl)) rfl ?_
                          refine VL.done ?_
                          refine VN.then ?_
                          refine VC.cond_t rfl ?_
                          refine VC.seq ?_
                          refine VC.region ?_
                          refine VL.va (op_assign rfl (ltn rfl)) rfl ?_
                          refine VL.done ?_
                          refine VN.then ?_
                          refine VC.ret ?_
                          refine VR.block ?_
                          refine VR.then ?_
                          refine VR.then ?_
                          refine VR.block ?_
                          refine VR.then ?_
                          cases h
                      · rw [if_neg c2180] at h; cases h
                    · rw [if_neg c2147] at h
                      obtain rfl : b2145 = false := hb2145.symm.trans (decide_eq_false c2147)
                      refine VC.cond_f rfl ?_
                      refine VC.exit ?_
                      refine VX.then ?_
                      refine VX.then ?_
                      refine VX.hit ?_
                      refine VN.then ?_
                      refine VC.seq ?_
                      refine VC.region ?_
                      refine VL.va (op_assign rfl (ltn rfl)) rfl ?_
                      refine VL.done ?_
                      refine VN.then ?_
                      refine VC.ret ?_
                      obtain rfl := Option.some.inj h
                      exact VR.fn (rs := [.tmp 12]) [] [] [] rfl (.tmp rfl .nil) ⟨rfl, rfl, rfl⟩ trivial rfl (by decide)
                  · rw [if_neg c1807] at h
                    obtain rfl := Bool.eq_false_iff.2 c1807
                    refine VL.va (op_not rfl rfl (ltn rfl)) rfl ?_
                    refine VL.va (op_pick rfl rfl (ltn rfl)) rfl ?_
                    refine VL.done ?_
                    refine VN.then ?_
                    refine VC.cond_t rfl ?_
                    refine VC.seq ?_
                    refine VC.region ?_
                    refine VL.va (op_assign rfl (ltn rfl)) rfl ?_
                    refine VL.done ?_
                    refine VN.then ?_
                    refine VC.ret ?_
                    refine VR.then ?_
                    cases h
                · rw [if_neg c1804] at h
                  obtain rfl := Bool.eq_false_iff.2 c1804
                  refine VL.va (op_not rfl rfl (ltn rfl)) rfl ?_
                  refine VL.va (op_pick rfl rfl (ltn rfl)) rfl ?_
                  refine VL.va (op_move rfl (ltn rfl)) rfl ?_
                  refine VL.un rfl rfl (ltn rfl) ?_
                  refine VL.un rfl rfl (ltn rfl) ?_
                  refine VL.va (op_pick rfl rfl (ltn rfl)) rfl ?_
                  refine VL.done ?_
                  refine VN.then ?_
                  refine VC.cond_t rfl ?_
                  refine VC.seq ?_
                  refine VC.region ?_
                  refine VL.va (op_assign rfl (ltn rfl)) rfl ?_
                  refine VL.done ?_
                  refine VN.then ?_
                  refine VC.ret ?_
                  refine VR.then ?_
                  cases h
              · rw [if_neg c1801] at h
                obtain rfl : b1800 = true := hb1800.symm.trans (bne_iff_ne.2 c1801)
                refine VL.un rfl rfl (ltn rfl) ?_
                refine VL.un rfl rfl (ltn rfl) ?_
                refine VL.un rfl rfl (ltn rfl) ?_
                refine VL.un rfl rfl (ltn rfl) ?_
                refine VL.va (op_pick rfl rfl (ltn rfl)) rfl ?_
                refine VL.va (op_move rfl (ltn rfl)) rfl ?_
                refine VL.un rfl rfl (ltn rfl) ?_
                refine VL.un rfl rfl (ltn rfl) ?_
                refine VL.va (op_pick rfl rfl (ltn rfl)) rfl ?_
                refine VL.done ?_
                refine VN.then ?_
                refine VC.cond_t rfl ?_
                refine VC.seq ?_
                refine VC.region ?_
                refine VL.va (op_assign rfl (ltn rfl)) rfl ?_
                refine VL.done ?_
                refine VN.then ?_
                refine VC.ret ?_
                refine VR.then ?_
                cases h
            · rw [if_neg c1799] at h
              obtain rfl : b1798 = true := hb1798.symm.trans (bne_iff_ne.2 c1799)
              refine VL.un rfl rfl (ltn rfl) ?_
              refine VL.un rfl rfl (ltn rfl) ?_
              refine VL.va (op_pick rfl rfl (ltn rfl)) rfl ?_
              refine VL.va (op_move rfl (ltn rfl)) rfl ?_
              refine VL.un rfl rfl (ltn rfl) ?_
              refine VL.un rfl rfl (ltn rfl) ?_
              refine VL.un rfl rfl (ltn rfl) ?_
              refine VL.un rfl rfl (ltn rfl) ?_
              refine VL.va (op_pick rfl rfl (ltn rfl)) rfl ?_
              refine VL.va (op_move rfl (ltn rfl)) rfl ?_
              refine VL.un rfl rfl (ltn rfl) ?_
              refine VL.un rfl rfl (ltn rfl) ?_
              refine VL.va (op_pick rfl rfl (ltn rfl)) rfl ?_
              refine VL.done ?_
              refine VN.then ?_
              refine VC.cond_t rfl ?_
              refine VC.seq ?_
              refine VC.region ?_
              refine VL.va (op_assign rfl (ltn rfl)) rfl ?_
              refine VL.done ?_
              refine VN.then ?_
              refine VC.ret ?_
              refine VR.then ?_
              cases h
          · rw [if_neg c1797] at h
            obtain rfl : b1796 = true := hb1796.symm.trans (bne_of_f c1797)
            refine VL.un rfl rfl (ltn rfl) ?_
            refine VL.un rfl rfl (ltn rfl) ?_
            refine VL.va (op_pick rfl rfl (ltn rfl)) rfl ?_
            refine VL.va (op_move rfl (ltn rfl)) rfl ?_
            refine VL.un rfl rfl (ltn rfl) ?_
            refine VL.un rfl rfl (ltn rfl) ?_
            refine VL.va (op_pick rfl rfl (ltn rfl)) rfl ?_
            refine VL.va (op_move rfl (ltn rfl)) rfl ?_
            refine VL.un rfl rfl (ltn rfl) ?_
            refine VL.un rfl rfl (ltn rfl) ?_
            refine VL.un rfl rfl (ltn rfl) ?_
            refine VL.un rfl rfl (ltn rfl) ?_
            refine VL.va (op_pick rfl rfl (ltn rfl)) rfl ?_
            refine VL.va (op_move rfl (ltn rfl)) rfl ?_
            refine VL.un rfl rfl (ltn rfl) ?_
            refine VL.un rfl rfl (ltn rfl) ?_
            refine VL.va (op_pick rfl rfl (ltn rfl)) rfl ?_
            refine VL.done ?_
            refine VN.then ?_
            refine VC.cond_t rfl ?_
            refine VC.seq ?_
            refine VC.region ?_
            refine VL.va (op_assign rfl (ltn rfl)) rfl ?_
            refine VL.done ?_
            refine VN.then ?_
            refine VC.ret ?_
            refine VR.then ?_
            cases h
        · rw [if_neg c1795] at h
          obtain rfl : b1794 = true := hb1794.symm.trans (bne_iff_ne.2 c1795)
          refine VL.un rfl rfl (ltn rfl) ?_
          refine VL.un rfl rfl (ltn rfl) ?_
          refine VL.un rfl rfl (ltn rfl) ?_
          refine VL.va (op_pick rfl rfl (ltn rfl)) rfl ?_
          refine VL.va (op_move rfl (ltn rfl)) rfl ?_
          refine VL.un rfl rfl (ltn rfl) ?_
          refine VL.un rfl rfl (ltn rfl) ?_
          refine VL.va (op_pick rfl rfl (ltn rfl)) rfl ?_
          refine VL.va (op_move rfl (ltn rfl)) rfl ?_
          refine VL.un rfl rfl (ltn rfl) ?_
          refine VL.un rfl rfl (ltn rfl) ?_
          refine VL.va (op_pick rfl rfl (ltn rfl)) rfl ?_
          refine VL.va (op_move rfl (ltn rfl)) rfl ?_
          refine VL.un rfl rfl (ltn rfl) ?_
          refine VL.un rfl rfl (ltn rfl) ?_
          refine VL.un rfl rfl (ltn rfl) ?_
          refine VL.un rfl rfl (ltn rfl) ?_
          refine VL.va (op_pick rfl rfl (ltn rfl)) rfl ?_
          refine VL.va (op_move rfl (ltn rfl)) rfl ?_
          refine VL.un rfl rfl (ltn rfl) ?_
          refine VL.un rfl rfl (ltn rfl) ?_
          refine VL.va (op_pick rfl rfl (ltn rfl)) rfl ?_
          refine VL.done ?_
          refine VN.then ?_
          refine VC.cond_t rfl ?_
          refine VC.seq ?_
          refine VC.region ?_
          refine VL.va (op_assign rfl (ltn rfl)) rfl ?_
          refine VL.done ?_
          refine VN.then ?_
          refine VC.ret ?_
          refine VR.then ?_
          cases h
      · rw [if_neg c1462] at h
        obtain rfl : b1461 = true := hb1461.symm.trans (bne_iff_ne.2 c1462)
        refine VC.cond_t rfl ?_
        refine VC.seq ?_
        refine VC.region ?_
        replace h := Option.bind_eq_some_iff.1 h
        obtain ⟨t2212, hA2213, h⟩ := h
        refine VL.sC (o_call0 FO8 (tarrylaw03_alive.ok k t2212 hA2213) rfl rfl (ltn rfl) (All_of .nil)) rfl ?_
        rintro _ _ _ ⟨rfl, rfl, rfl⟩
        refine VL.va (op_assign rfl (ltn rfl)) rfl ?_
        refine VL.done ?_
        refine VN.then ?_
        refine VC.ret ?_
        refine VR.then ?_
        obtain rfl := Option.some.inj h
        exact VR.fn (rs := [.tmp 12]) [] [] [] rfl (.tmp rfl .nil) ⟨rfl, rfl, rfl⟩ trivial rfl (by decide)
    · rw [if_neg c335] at h; cases h
  · rw [if_neg c334] at h; cases h

end Go.Proofs.Ytlfkendmepdbkaa.PDiskReads
