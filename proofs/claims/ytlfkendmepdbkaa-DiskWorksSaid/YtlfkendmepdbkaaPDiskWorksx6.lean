/- Written by a program of this repo: what the program's functions do, each as a Lean function, shown of the loaded code; or a statement's row over that; no condition of its own. -/
import Derived.Test.YtlfkendmepdbkaaPDiskWorksx5
namespace Go.Proofs.Ytlfkendmepdbkaa.PDiskWorks
open Go Go.RowKit Go.Proofs.YtlfkendmepdbkaaV
set_option linter.unusedVariables false
set_option linter.unusedSimpArgs false

set_option maxHeartbeats 4000000 in
set_option maxRecDepth 100000 in
theorem tarrylaw03_DiskWorks.ok (k : Nat) (l0_0 : List ByteArray) (l0_1 : List S32) (a1 : Int) (a2 : Int) (a3 : ByteArray) (a4 : Int) (a5 : Int) (v0_0 : Value) (v0_1 : Value) (r1 : Bool) (h : tarrylaw03_DiskWorks.f k l0_0 l0_1 a1 a2 a3 a4 a5 = some r1) :
    VCalls Try.prog 4 [.agg #[v0_0, v0_1], .int .i64 a1, .int .i64 a2, .string a3, .int .u64 a4, .int .i64 a5] [.row v0_0 1 (l0_0.map enc_str), .row v0_1 2 (l0_1.map enc32)] (fun v G own => v = .bool r1 ∧ G = [] ∧ own = []) := by
  refine VCalls.intro Try.func4 rfl (len rfl) fun E hC hW hD hU => ?_
  unfold tarrylaw03_DiskWorks.f at h
  refine VC.seq ?_
  refine VC.region ?_
  refine VL.sG (o_box rfl (.agg (.f 0 rfl (.f 1 rfl .nil))) (ltn rfl)) rfl ?_
  intro g3
  refine VL.va (op_assign rfl (ltn rfl)) rfl ?_
  refine VL.done ?_
  refine VN.then ?_
  replace h := Option.bind_eq_some_iff.1 h
  obtain ⟨⟨r327, r328⟩, hA329, h⟩ := h
  dsimp only at h
  by_cases c334 : 0 ≤ mn (a3.size : Int) 66
  · rw [if_pos c334] at h
    by_cases c335 : (mn (a3.size : Int) 66) ≤ (a3.size : Int)
    · rw [if_pos c335] at h
      refine VC.join2 (fun (v331 : Value) (v333 : Value) => ⟨246, [(1, .int .i64 a1), (2, .int .i64 a2), (3, .string (a3.extract 0 ((mn (a3.size : Int) 66).toNat))), (4, .int .u64 a4), (5, .int .i64 a5), (6, .pointer (some ⟨g3, 0, none⟩)), (12, .bool false)], [], [(g3, 25, [v331, v333])], [(v331, 9, 1, r327.map enc_str), (v333, 33, 2, r328.map enc32)]⟩) (fun (v331 : Value) (v333 : Value) => True) ?_ ?_
      · refine VC.drawB ⟨0, [], [], [], []⟩ [7] ⟨0, [], [], [(g3, 25, [v0_0, v0_1])], []⟩ (by kernel_rfl) rfl (by kernel_rfl) (n := 9) (listed := LB 9 0) ?_
        refine VB.vb (i := 0) (listed' := LB 9 1) rfl (op_load 0 2 rfl rfl TI25 rfl (fun h => absurd h (by decide)) (ltn rfl)) rfl (by kernel_rfl) (by kernel_rfl) (by kernel_rfl) (by kernel_rfl) (by kernel_rfl) (by kernel_rfl) (PartP.on ⟨trivial, trivial, trivial⟩ ⟨trivial, ⟨⟨0, rfl⟩, trivial⟩, trivial⟩) (fun _ _ _ h => h) ?_
        refine VB.va (i := 2) (listed' := LB 9 5) rfl (op_move rfl (ltn rfl)) rfl (by kernel_rfl) (by kernel_rfl) (by kernel_rfl) (by kernel_rfl) (by decide) (PartP.on ⟨trivial, trivial, trivial⟩ ⟨trivial, ⟨⟨0, rfl⟩, trivial⟩, trivial⟩) (fun _ _ _ h => h) ?_
        refine VB.va (i := 3) (listed' := LB 9 13) rfl (op_move rfl (ltn rfl)) rfl (by kernel_rfl) (by kernel_rfl) (by kernel_rfl) (by kernel_rfl) (by decide) (PartP.on ⟨trivial, trivial, trivial⟩ ⟨trivial, ⟨⟨0, rfl⟩, trivial⟩, trivial⟩) (fun _ _ _ h => h) ?_
        refine VB.va (i := 4) (listed' := LB 9 29) rfl (op_lens Try.underlying9 rfl (ltn rfl)) rfl (by kernel_rfl) (by kernel_rfl) (by kernel_rfl) (by kernel_rfl) (by decide) (PartP.on ⟨trivial, trivial, trivial⟩ ⟨trivial, ⟨⟨0, rfl⟩, trivial⟩, trivial⟩) (fun _ _ _ h => h) ?_
        refine VB.va (i := 5) (listed' := LB 9 61) rfl (op_min rfl rfl (ltn rfl)) rfl (by kernel_rfl) (by kernel_rfl) (by kernel_rfl) (by kernel_rfl) (by decide) (PartP.on ⟨trivial, trivial, trivial⟩ ⟨trivial, ⟨⟨0, rfl⟩, trivial⟩, trivial⟩) (fun _ _ _ h => h) ?_
        refine VB.va (i := 6) (listed' := LB 9 125) rfl (op_sliceS 0 ((mn (a3.size : Int) 66).toNat) Try.underlying9 rfl ⟨rfl, ⟨_, _, rfl, c334, rfl⟩, by omega, by omega⟩ rfl (ltn rfl)) rfl (by kernel_rfl) (by kernel_rfl) (by kernel_rfl) (by kernel_rfl) (by decide) (PartP.on ⟨trivial, trivial, trivial⟩ ⟨trivial, ⟨⟨0, rfl⟩, trivial⟩, trivial⟩) (fun _ _ _ h => h) ?_
        refine VB.oneC (i := 1) (listed' := LB 9 127) (by kernel_rfl) rfl (o_call0 FO6 (tarrylaw03_few.ok k l0_0 l0_1 v0_0 v0_1 r327 r328 hA329) rfl rfl (ltn rfl) (All_of (.cons (List.mem_of_getElem? (i := 0) rfl) (.cons (List.mem_of_getElem? (i := 1) rfl) .nil)))) rfl (by kernel_rfl) ?_
        rintro _ _ _ ⟨v331, v333, rfl, rfl, rfl⟩
        refine ⟨(PartP.on ⟨trivial, trivial, trivial⟩ ⟨trivial, ⟨⟨0, rfl⟩, trivial⟩, trivial⟩), ?_⟩
        refine VB.one1 (i := 7) (listed' := LB 9 255) (by kernel_rfl) rfl (o_store 0 2 rfl rfl rfl TI25 (.agg (.r 0 rfl (.r 1 rfl .nil))) rfl (len rfl)) rfl (by kernel_rfl) (PartP.off (by kernel_rfl) ⟨trivial, trivial, trivial⟩) ?_
        refine VB.va (i := 8) (listed' := LB 9 511) rfl (op_assign rfl (ltn rfl)) rfl (by kernel_rfl) (by kernel_rfl) (by kernel_rfl) (by kernel_rfl) (by decide) (PartP.off (by kernel_rfl) ⟨trivial, trivial, trivial⟩) (fun _ _ _ h => h) ?_
        refine VB.done (by kernel_rfl) ?_
        exact VN.meet2 v331 v333 [0] [0, 1] trivial ⟨rfl, ⟨rfl, rfl, rfl, rfl, rfl, rfl, rfl, trivial⟩, trivial, rfl, by decide, rfl, by decide⟩
      intro v331 v333 _
      refine VC.seq ?_
      refine VC.region ?_
      refine VL.va (op_move rfl (ltn rfl)) rfl ?_
      replace h := Option.bind_eq_some_iff.1 h
      obtain ⟨⟨r368, r369, t370⟩, hA371, h⟩ := h
      dsimp only at h
      refine VL.sC (o_call0 FO9 (disk_New.ok a1 r368 r369 t370 hA371) rfl rfl (ltn rfl) (All_of .nil)) rfl ?_
      rintro _ _ _ ⟨v373, v375, rfl, rfl, rfl⟩
      refine VL.va (op_move rfl (ltn rfl)) rfl ?_
      refine VL.va (op_extract rfl rfl (ltn rfl)) rfl ?_
      refine VL.va (op_extract rfl rfl (ltn rfl)) rfl ?_
      refine VL.sG (o_alloc Z25 ZL25 (ltn rfl)) rfl ?_
      intro g376
      refine VL.step1 (o_store 0 2 rfl rfl rfl TI25 (.agg (.r 0 rfl (.r 1 rfl .nil))) rfl (len rfl)) rfl ?_
      refine VL.va (op_assign rfl (ltn rfl)) rfl ?_
      refine VL.done ?_
      refine VN.then ?_
      refine VC.seq ?_
      refine VC.region ?_
      refine VL.va (op_load 1 2 rfl rfl TI25 rfl (fun h => absurd h (by decide)) (ltn rfl)) rfl ?_
      refine VL.va (op_move rfl (ltn rfl)) rfl ?_
      refine VL.va (op_move rfl (ltn rfl)) rfl ?_
      refine VL.freezeRow' 2 rfl ?_
      refine VL.freezeRow' 2 rfl ?_
      replace h := Option.bind_eq_some_iff.1 h
      obtain ⟨⟨r760, r761, t762⟩, hA763, h⟩ := h
      dsimp only at h
      refine VL.sC (o_call0 FO10 (disk_Put.ok k r327 r328 a2 (a3.extract 0 ((mn (a3.size : Int) 66).toNat)) v331 v333 r760 r761 t762 hA763) rfl rfl (ltn rfl) (All_of (.cons (List.mem_of_getElem? (i := 1) rfl) (.cons (List.mem_of_getElem? (i := 0) rfl) .nil)))) rfl ?_
      rintro _ _ _ ⟨v765, v767, rfl, rfl, rfl⟩
      refine VL.va (op_move rfl (ltn rfl)) rfl ?_
      refine VL.va (op_extract rfl rfl (ltn rfl)) rfl ?_
      refine VL.va (op_extract rfl rfl (ltn rfl)) rfl ?_
      refine VL.sG (o_alloc Z25 ZL25 (ltn rfl)) rfl ?_
      intro g768
      refine VL.step1 (o_store 0 2 rfl rfl rfl TI25 (.agg (.f 0 rfl (.f 1 rfl .nil))) rfl (len rfl)) rfl ?_
      refine VL.va (op_assign rfl (ltn rfl)) rfl ?_
      refine VL.done ?_
      refine VN.then ?_
      refine VC.seq ?_
      refine VC.region ?_
      refine VL.va (op_load 2 2 rfl rfl TI25 rfl (fun h => absurd h (by decide)) (ltn rfl)) rfl ?_
      refine VL.va (op_move rfl (ltn rfl)) rfl ?_
      replace h := Option.bind_eq_some_iff.1 h
      obtain ⟨⟨t918, t919⟩, hA920, h⟩ := h
      dsimp only at h
      refine VL.sC (o_call0 FO11 (disk_Get.ok k r327 r328 a2 v331 v333 t918 t919 hA920) rfl rfl (ltn rfl) (All_of (.cons (List.mem_of_getElem? (i := 3) rfl) (.cons (List.mem_of_getElem? (i := 2) rfl) .nil)))) rfl ?_
      rintro _ _ _ ⟨rfl, rfl, rfl⟩
      refine VL.va (op_move rfl (ltn rfl)) rfl ?_
      refine VL.va (op_extract rfl rfl (ltn rfl)) rfl ?_
      refine VL.va (op_extract rfl rfl (ltn rfl)) rfl ?_
      refine VL.va (op_assign rfl (ltn rfl)) rfl ?_
      refine VL.va (op_assign rfl (ltn rfl)) rfl ?_
      refine VL.done ?_
      refine VN.then ?_
      refine VC.seq ?_
      refine VC.region ?_
      refine VL.va (op_load 2 2 rfl rfl TI25 rfl (fun h => absurd h (by decide)) (ltn rfl)) rfl ?_
      replace h := Option.bind_eq_some_iff.1 h
      obtain ⟨⟨r1427, r1428, t1429⟩, hA1430, h⟩ := h
      dsimp only at h
      refine VL.sC (o_call0 FO12 (disk_Flush.ok k r327 r328 v331 v333 r1427 r1428 t1429 hA1430) rfl rfl (ltn rfl) (All_of (.cons (List.mem_of_getElem? (i := 3) rfl) (.cons (List.mem_of_getElem? (i := 2) rfl) .nil)))) rfl ?_
      rintro _ _ _ ⟨v1432, v1434, rfl, rfl, rfl⟩
      refine VL.va (op_move rfl (ltn rfl)) rfl ?_
      refine VL.va (op_extract rfl rfl (ltn rfl)) rfl ?_
      refine VL.va (op_extract rfl rfl (ltn rfl)) rfl ?_
      refine VL.sG (o_alloc Z25 ZL25 (ltn rfl)) rfl ?_
      intro g1435
      refine VL.step1 (o_store 0 2 rfl rfl rfl TI25 (.agg (.r 0 rfl (.r 1 rfl .nil))) rfl (len rfl)) rfl ?_
      refine VL.va (op_assign rfl (ltn rfl)) rfl ?_
      refine VL.done ?_
      refine VN.then ?_
      refine VC.seq ?_
      refine VC.region ?_
      refine VL.va (op_load 3 2 rfl rfl TI25 rfl (fun h => absurd h (by decide)) (ltn rfl)) rfl ?_
      refine VL.va (op_move rfl (ltn rfl)) rfl ?_
      refine VL.va (op_move rfl (ltn rfl)) rfl ?_
      replace h := Option.bind_eq_some_iff.1 h
      obtain ⟨⟨r1436, r1437, t1438⟩, hA1439, h⟩ := h
      dsimp only at h
      refine VL.sC (o_call0 FO7 (disk_Crash.ok k r327 r328 a4 a5 v331 v333 r1436 r1437 t1438 hA1439) rfl rfl (ltn rfl) (All_of (.cons (List.mem_of_getElem? (i := 3) rfl) (.cons (List.mem_of_getElem? (i := 2) rfl) .nil)))) rfl ?_
      rintro _ _ _ ⟨v1441, v1443, rfl, rfl, rfl⟩
      refine VL.va (op_move rfl (ltn rfl)) rfl ?_
      refine VL.va (op_extract rfl rfl (ltn rfl)) rfl ?_
      refine VL.va (op_extract rfl rfl (ltn rfl)) rfl ?_
      refine VL.sG (o_alloc Z25 ZL25 (ltn rfl)) rfl ?_
      intro g1444
      refine VL.step1 (o_store 0 2 rfl rfl rfl TI25 (.agg (.r 0 rfl (.r 1 rfl .nil))) rfl (len rfl)) rfl ?_
      refine VL.va (op_assign rfl (ltn rfl)) rfl ?_
      refine VL.done ?_
      refine VN.then ?_
      refine VC.seq ?_
      refine VC.region ?_
      refine VL.va (op_build (vals := []) (vcs := []) (cells := [.slice none 0 0, .slice none 0 0]) SI25 rfl .nil (by kernel_rfl) (ltn rfl)) rfl ?_
      refine VL.sG (o_alloc Z25 ZL25 (ltn rfl)) rfl ?_
      intro g1445
      refine VL.step1 (o_store 0 2 rfl rfl rfl TI25 (.agg (.of rfl)) rfl (len rfl)) rfl ?_
      refine VL.done ?_
      refine VN.then ?_
      refine VC.join0 (⟨246, [(2, .int .i64 a2), (3, .string (a3.extract 0 ((mn (a3.size : Int) 66).toNat))), (4, .int .u64 a4), (5, .int .i64 a5), (6, .pointer (some ⟨g3, 0, none⟩)), (12, .bool false), (15, .pointer (some ⟨g768, 0, none⟩)), (16, .int .i64 t762), (17, .string t918), (18, .int .i64 t919), (19, .pointer (some ⟨g1435, 0, none⟩)), (20, .int .i64 t1429), (21, .pointer (some ⟨g1444, 0, none⟩)), (22, .int .i64 t1438), (23, .pointer (some ⟨g1445, 0, none⟩))], [.row v765 1 (r760.map enc_str), .row v767 2 (r761.map enc32), .row v331 1 (r327.map enc_str), .row v333 2 (r328.map enc32)], [(g1445, 25, [.slice none 0 0, .slice none 0 0]), (g1444, 25, [v1441, v1443]), (g1435, 25, [v1432, v1434]), (g768, 25, [v765, v767]), (g3, 25, [v331, v333])], [(v1441, 9, 1, r1436.map enc_str), (v1443, 33, 2, r1437.map enc32), (v1432, 9, 1, r1427.map enc_str), (v1434, 33, 2, r1428.map enc32)]⟩) (tarrylaw03_DiskWorks.j7 k a2 a3 a4 a5 r1427 r1428 r1436 r1437 r327 r328 r760 r761 t1429 t1438 t762 t918 t919 = some r1) ?_ ?_
      · refine VC.join1 (fun (q6618 : Bool) => ⟨246, [(1, .int .i64 a1), (2, .int .i64 a2), (3, .string (a3.extract 0 ((mn (a3.size : Int) 66).toNat))), (4, .int .u64 a4), (5, .int .i64 a5), (6, .pointer (some ⟨g3, 0, none⟩)), (12, .bool false), (13, .pointer (some ⟨g376, 0, none⟩)), (14, .int .i64 t370), (15, .pointer (some ⟨g768, 0, none⟩)), (16, .int .i64 t762), (17, .string t918), (18, .int .i64 t919), (19, .pointer (some ⟨g1435, 0, none⟩)), (20, .int .i64 t1429), (21, .pointer (some ⟨g1444, 0, none⟩)), (22, .int .i64 t1438), (23, .pointer (some ⟨g1445, 0, none⟩)), (68, .bool q6618)], [.row v765 1 (r760.map enc_str), .row v767 2 (r761.map enc32), .row v331 1 (r327.map enc_str), .row v333 2 (r328.map enc32)], [(g1445, 25, [.slice none 0 0, .slice none 0 0]), (g1444, 25, [v1441, v1443]), (g1435, 25, [v1432, v1434]), (g768, 25, [v765, v767]), (g376, 25, [v373, v375]), (g3, 25, [v331, v333])], [(v1441, 9, 1, r1436.map enc_str), (v1443, 33, 2, r1437.map enc32), (v1432, 9, 1, r1427.map enc_str), (v1434, 33, 2, r1428.map enc32), (v373, 9, 1, r368.map enc_str), (v375, 33, 2, r369.map enc32)]⟩) (fun (q6618 : Bool) => tarrylaw03_DiskWorks.j8 k a1 a2 a3 a4 a5 r1427 r1428 r1436 r1437 r327 r328 r368 r369 r760 r761 t1429 t1438 t370 t762 t918 t919 q6618 = some r1) ?_ ?_
        · refine VC.region ?_
          refine VL.va (op_move rfl (ltn rfl)) rfl ?_
          refine VL.letter (decide (a1 < 1)) fun b6615 hb6615 => ?_
          refine VL.va (op_cmp rfl rfl (congrArg some hb6615) (ltn rfl)) rfl ?_
          refine VL.va (op_move rfl (ltn rfl)) rfl ?_
          by_cases c6616 : a1 < 1
          · rw [if_pos c6616] at h
            obtain rfl : b6615 = true := hb6615.symm.trans (decide_eq_true c6616)
            refine VL.un rfl rfl (ltn rfl) ?_
            refine VL.un rfl rfl (ltn rfl) ?_
            refine VL.va (op_pick rfl rfl (ltn rfl)) rfl ?_
            refine VL.done ?_
            refine VN.meet1 true [0, 1, 2, 3, 4, 5] [0, 1, 2, 3, 4, 5] h ⟨rfl, ⟨rfl, rfl, rfl, rfl, rfl, rfl, rfl, rfl, rfl, rfl, rfl, rfl, rfl, rfl, rfl, rfl, rfl, rfl, rfl, trivial⟩, ⟨⟨0, rfl⟩, ⟨1, rfl⟩, ⟨3, rfl⟩, ⟨2, rfl⟩, trivial⟩, rfl, by decide, rfl, by decide⟩
          · rw [if_neg c6616] at h
            obtain rfl : b6615 = false := hb6615.symm.trans (decide_eq_false c6616)
            refine VL.va (op_move rfl (ltn rfl)) rfl ?_
            refine VL.letter (decide (a1 > 512)) fun b6617 hb6617 => ?_
            refine VL.va (op_cmp rfl rfl (congrArg some hb6617) (ltn rfl)) rfl ?_
            refine VL.va (op_pick rfl rfl (ltn rfl)) rfl ?_
            refine VL.done ?_
            subst hb6617
            refine VN.meet1 (decide (a1 > 512)) [0, 1, 2, 3, 4, 5] [0, 1, 2, 3, 4, 5] h ⟨rfl, ⟨rfl, rfl, rfl, rfl, rfl, rfl, rfl, rfl, rfl, rfl, rfl, rfl, rfl, rfl, rfl, rfl, rfl, rfl, rfl, trivial⟩, ⟨⟨0, rfl⟩, ⟨1, rfl⟩, ⟨3, rfl⟩, ⟨2, rfl⟩, trivial⟩, rfl, by decide, rfl, by decide⟩
        clear h
        intro q6618 h
        unfold tarrylaw03_DiskWorks.j8 at h
        by_cases c6619 : q6618 = true
        · rw [if_pos c6619] at h
          obtain rfl := c6619
          refine VC.cond_t rfl ?_
          refine VC.seq ?_
          refine VC.region ?_
          refine VL.va (op_move rfl (ltn rfl)) rfl ?_
          refine VL.letter ((t370 != 1)) fun b6627 hb6627 => ?_
          refine VL.va (op_cmp rfl rfl (congrArg some hb6627) (ltn rfl)) rfl ?_
          refine VL.va (op_move rfl (ltn rfl)) rfl ?_
          by_cases c6628 : t370 = 1
          · rw [if_pos c6628] at h
            obtain rfl : b6627 = false := hb6627.symm.trans (bne_eq_false_iff_eq.2 c6628)
            refine VL.va (op_load 4 2 rfl rfl TI25 rfl (fun h => absurd h (by decide)) (ltn rfl)) rfl ?_
            refine VL.va (op_load 0 2 rfl rfl TI25 rfl (fun h => absurd h (by decide)) (ltn rfl)) rfl ?_
            refine VL.nilFact' 1 ?_
            refine VL.nilFact' 2 ?_
            replace h := Option.bind_eq_some_iff.1 h
            obtain ⟨t6631, hA6632, h⟩ := h
            refine VL.sC (o_call_b0 FO13 (tarryref03_Like.ok k r368 r369 [] [] v373 v375 (.slice none 0 0) (.slice none 0 0) t6631 hA6632) rfl rfl (ltn rfl) (All_of (.cons (.inr (.inl ⟨_, List.mem_of_getElem? (i := 4) rfl, rfl⟩)) (.cons (.inr (.inl ⟨_, List.mem_of_getElem? (i := 5) rfl, rfl⟩)) (.cons (.inl (List.mem_of_getElem? (i := 1) rfl)) (.cons (.inl (List.mem_of_getElem? (i := 0) rfl)) .nil))))) (by rintro _ _ _ ⟨rfl, rfl, rfl⟩; rfl)) rfl ?_
            rintro _ _ _ ⟨rfl, rfl, rfl⟩
            by_cases c6633 : t6631 = true
            · rw [if_pos c6633] at h
              obtain rfl := c6633
              refine VL.va (op_not rfl rfl (ltn rfl)) rfl ?_
              refine VL.va (op_pick rfl rfl (ltn rfl)) rfl ?_
              refine VL.done ?_
              refine VN.then ?_
              refine VC.cond_f rfl ?_
              refine VC.skip ?_
              refine VN.meet0  [0, 1, 2, 3, 5] [0, 1, 2, 3] h ⟨rfl, ⟨rfl, rfl, rfl, rfl, rfl, rfl, rfl, rfl, rfl, rfl, rfl, rfl, rfl, rfl, rfl, trivial⟩, ⟨⟨2, rfl⟩, ⟨3, rfl⟩, ⟨4, rfl⟩, ⟨5, rfl⟩, trivial⟩, rfl, by decide, rfl, by decide⟩
            · rw [if_neg c6633] at h
              obtain rfl := Bool.eq_false_iff.2 c6633
              refine VL.va (op_not rfl rfl (ltn rfl)) rfl ?_
              refine VL.va (op_pick rfl rfl (ltn rfl)) rfl ?_
              refine VL.done ?_
              refine VN.then ?_
              refine VC.cond_t rfl ?_
              refine VC.seq ?_
              refine VC.region ?_
              refine VL.va (op_assign rfl (ltn rfl)) rfl ?_
              refine VL.done ?_
              refine VN.then ?_
              refine VC.ret ?_
              refine VR.then ?_
              cases h
          · rw [if_neg c6628] at h
            obtain rfl : b6627 = true := hb6627.symm.trans (bne_iff_ne.2 c6628)
            refine VL.un rfl rfl (ltn rfl) ?_
            refine VL.un rfl rfl (ltn rfl) ?_
            refine VL.un rfl rfl (ltn rfl) ?_
            refine VL.un rfl rfl (ltn rfl) ?_
            refine VL.va (op_pick rfl rfl (ltn rfl)) rfl ?_
            refine VL.done ?_
            refine VN.then ?_
            refine VC.cond_t rfl ?_
            refine VC.seq ?_
            refine VC.region ?_
            refine VL.va (op_assign rfl (ltn rfl)) rfl ?_
            refine VL.done ?_
            refine VN.then ?_
            refine VC.ret ?_
            refine VR.then ?_
            cases h
        · rw [if_neg c6619] at h
          obtain rfl := Bool.eq_false_iff.2 c6619
          refine VC.cond_f rfl ?_
          refine VC.letter ((t370 != 0)) fun b6634 hb6634 => ?_
          by_cases c6635 : t370 = 0
          · rw [if_pos c6635] at h
            obtain rfl : b6634 = false := hb6634.symm.trans (bne_eq_false_iff_eq.2 c6635)
            refine VC.letter (((r368.length : Int) != a1)) fun b6636 hb6636 => ?_
            by_cases c6637 : (r368.length : Int) = a1
            · rw [if_pos c6637] at h
              obtain rfl : b6636 = false := hb6636.symm.trans (bne_eq_false_iff_eq.2 c6637)
              by_cases c6638 : 0 ≤ wrap64 (a1 - 1)
              · rw [if_pos c6638] at h
                replace h := Option.bind_eq_some_iff.1 h
                obtain ⟨x6639, hx6639, h⟩ := h
                replace h := Option.bind_eq_some_iff.1 h
                obtain ⟨r6640, hA6641, h⟩ := h
                refine VC.letter ((x6639 != r6640)) fun b6642 hb6642 => ?_
                by_cases c6643 : (x6639 == r6640) = true
                · rw [if_pos c6643] at h
                  obtain rfl : b6642 = false := hb6642.symm.trans (bne_of_t c6643)
                  refine VC.letter (((r369.length : Int) != 0)) fun b6644 hb6644 => ?_
                  by_cases c6645 : (r369.length : Int) = 0
                  · rw [if_pos c6645] at h
                    obtain rfl : b6644 = false := hb6644.symm.trans (bne_eq_false_iff_eq.2 c6645)
                    replace h := Option.bind_eq_some_iff.1 h
                    obtain ⟨t6646, hA6647, h⟩ := h
                    by_cases c6648 : t6646 = true
                    · rw [if_pos c6648] at h
                      obtain rfl := c6648
                      refine VC.openR (m := r368.length) 4 lenm rfl (pos_get hx6639) ?_
                      rintro g1743 n1744 rfl
                      refine VC.join0 (⟨246, [(2, .int .i64 a2), (3, .string (a3.extract 0 ((mn (a3.size : Int) 66).toNat))), (4, .int .u64 a4), (5, .int .i64 a5), (6, .pointer (some ⟨g3, 0, none⟩)), (12, .bool false), (15, .pointer (some ⟨g768, 0, none⟩)), (16, .int .i64 t762), (17, .string t918), (18, .int .i64 t919), (19, .pointer (some ⟨g1435, 0, none⟩)), (20, .int .i64 t1429), (21, .pointer (some ⟨g1444, 0, none⟩)), (22, .int .i64 t1438), (23, .pointer (some ⟨g1445, 0, none⟩)), (106, .bool false)], [.row v765 1 (r760.map enc_str), .row v767 2 (r761.map enc32), .row v331 1 (r327.map enc_str), .row v333 2 (r328.map enc32)], [(g1445, 25, [.slice none 0 0, .slice none 0 0]), (g1444, 25, [v1441, v1443]), (g1435, 25, [v1432, v1434]), (g768, 25, [v765, v767]), (g3, 25, [v331, v333])], [(v1441, 9, 1, r1436.map enc_str), (v1443, 33, 2, r1437.map enc32), (v1432, 9, 1, r1427.map enc_str), (v1434, 33, 2, r1428.map enc32)]⟩) (True) ?_ ?_
                      · refine VC.draw ⟨0, [], [], [(g376, 25, [(.slice (some ⟨g1743, 0, none⟩) r368.length n1744), v375])], [((.slice (some ⟨g1743, 0, none⟩) r368.length n1744), 9, 1, r368.map enc_str), (v375, 33, 2, r369.map enc32)]⟩ (by kernel_rfl) rfl (by kernel_rfl) (n := 30) (listed := LB 30 0) ?_
                        refine VA.va (i := 0) (listed' := LB 30 1) rfl (op_move rfl (ltn rfl)) rfl (by kernel_rfl) (by kernel_rfl) (by kernel_rfl) (by kernel_rfl) ⟨trivial, ⟨⟨4, rfl⟩, trivial⟩, ⟨⟨4, rfl⟩, ⟨5, rfl⟩, trivial⟩⟩ (fun _ _ _ h => h) ?_
                        refine VA.va (i := 1) (listed' := LB 30 3) rfl (op_cmp rfl rfl (congrArg some hb6634) (ltn rfl)) rfl (by kernel_rfl) (by kernel_rfl) (by kernel_rfl) (by kernel_rfl) ⟨trivial, ⟨⟨4, rfl⟩, trivial⟩, ⟨⟨4, rfl⟩, ⟨5, rfl⟩, trivial⟩⟩ (fun _ _ _ h => h) ?_
                        refine VA.va (i := 2) (listed' := LB 30 7) rfl (op_move rfl (ltn rfl)) rfl (by kernel_rfl) (by kernel_rfl) (by kernel_rfl) (by kernel_rfl) ⟨trivial, ⟨⟨4, rfl⟩, trivial⟩, ⟨⟨4, rfl⟩, ⟨5, rfl⟩, trivial⟩⟩ (fun _ _ _ h => h) ?_
                        refine VA.va (i := 3) (listed' := LB 30 15) rfl (op_fieldAddr FI25_0 rfl (add_at _ _ _) (ltn rfl)) rfl (by kernel_rfl) (by kernel_rfl) (by kernel_rfl) (by kernel_rfl) ⟨trivial, ⟨⟨4, rfl⟩, trivial⟩, ⟨⟨4, rfl⟩, ⟨5, rfl⟩, trivial⟩⟩ (fun _ _ _ h => h) ?_
                        refine VA.va (i := 4) (listed' := LB 30 31) rfl (op_load 0 1 rfl rfl TI22 rfl (by decide) (ltn rfl)) rfl (by kernel_rfl) (by kernel_rfl) (by kernel_rfl) (by kernel_rfl) ⟨trivial, ⟨⟨4, rfl⟩, trivial⟩, ⟨⟨4, rfl⟩, ⟨5, rfl⟩, trivial⟩⟩ (fun _ _ _ h => h) ?_
                        refine VA.va (i := 5) (listed' := LB 30 63) rfl (op_len_own (m := r368.length) 0 lenm Try.underlying22 rfl rfl (ltn rfl)) rfl (by kernel_rfl) (by kernel_rfl) (by kernel_rfl) (by kernel_rfl) ⟨trivial, ⟨⟨4, rfl⟩, trivial⟩, ⟨⟨4, rfl⟩, ⟨5, rfl⟩, trivial⟩⟩ (fun _ _ _ h => h) ?_
                        refine VA.va (i := 6) (listed' := LB 30 127) rfl (op_move rfl (ltn rfl)) rfl (by kernel_rfl) (by kernel_rfl) (by kernel_rfl) (by kernel_rfl) ⟨trivial, ⟨⟨4, rfl⟩, trivial⟩, ⟨⟨4, rfl⟩, ⟨5, rfl⟩, trivial⟩⟩ (fun _ _ _ h => h) ?_
                        refine VA.va (i := 7) (listed' := LB 30 255) rfl (op_cmp rfl rfl (congrArg some hb6636) (ltn rfl)) rfl (by kernel_rfl) (by kernel_rfl) (by kernel_rfl) (by kernel_rfl) ⟨trivial, ⟨⟨4, rfl⟩, trivial⟩, ⟨⟨4, rfl⟩, ⟨5, rfl⟩, trivial⟩⟩ (fun _ _ _ h => h) ?_
                        refine VA.va (i := 8) (listed' := LB 30 511) rfl (op_pick rfl rfl (ltn rfl)) rfl (by kernel_rfl) (by kernel_rfl) (by kernel_rfl) (by kernel_rfl) ⟨trivial, ⟨⟨4, rfl⟩, trivial⟩, ⟨⟨4, rfl⟩, ⟨5, rfl⟩, trivial⟩⟩ (fun _ _ _ h => h) ?_
                        refine VA.va (i := 9) (listed' := LB 30 1023) rfl (op_move rfl (ltn rfl)) rfl (by kernel_rfl) (by kernel_rfl) (by kernel_rfl) (by kernel_rfl) ⟨trivial, ⟨⟨4, rfl⟩, trivial⟩, ⟨⟨4, rfl⟩, ⟨5, rfl⟩, trivial⟩⟩ (fun _ _ _ h => h) ?_
                        refine VA.va (i := 10) (listed' := LB 30 2047) rfl (op_fieldAddr FI25_0 rfl (add_at _ _ _) (ltn rfl)) rfl (by kernel_rfl) (by kernel_rfl) (by kernel_rfl) (by kernel_rfl) ⟨trivial, ⟨⟨4, rfl⟩, trivial⟩, ⟨⟨4, rfl⟩, ⟨5, rfl⟩, trivial⟩⟩ (fun _ _ _ h => h) ?_
                        refine VA.va (i := 11) (listed' := LB 30 4095) rfl (op_load 0 1 rfl rfl TI22 rfl (by decide) (ltn rfl)) rfl (by kernel_rfl) (by kernel_rfl) (by kernel_rfl) (by kernel_rfl) ⟨trivial, ⟨⟨4, rfl⟩, trivial⟩, ⟨⟨4, rfl⟩, ⟨5, rfl⟩, trivial⟩⟩ (fun _ _ _ h => h) ?_
                        refine VA.va (i := 12) (listed' := LB 30 8191) rfl (op_move rfl (ltn rfl)) rfl (by kernel_rfl) (by kernel_rfl) (by kernel_rfl) (by kernel_rfl) ⟨trivial, ⟨⟨4, rfl⟩, trivial⟩, ⟨⟨4, rfl⟩, ⟨5, rfl⟩, trivial⟩⟩ (fun _ _ _ h => h) ?_
                        refine VA.va (i := 13) (listed' := LB 30 16383) rfl (op_ari64 rfl rfl rfl (ltn rfl)) rfl (by kernel_rfl) (by kernel_rfl) (by kernel_rfl) (by kernel_rfl) ⟨trivial, ⟨⟨4, rfl⟩, trivial⟩, ⟨⟨4, rfl⟩, ⟨5, rfl⟩, trivial⟩⟩ (fun _ _ _ h => h) ?_
                        refine VA.va (i := 14) (listed' := LB 30 32767) rfl (op_indexAddr Try.underlying22 TI9 rfl rfl c6638 (lt_get c6638 hx6639) (add_zero_at _ _) (ltn rfl)) rfl (by kernel_rfl) (by kernel_rfl) (by kernel_rfl) (by kernel_rfl) ⟨trivial, ⟨⟨4, rfl⟩, trivial⟩, ⟨⟨4, rfl⟩, ⟨5, rfl⟩, trivial⟩⟩ (fun _ _ _ h => h) ?_
                        refine VA.va (i := 15) (listed' := LB 30 65535) rfl (op_load_own (sz := 1) (o := 0) 0 (wrap64 (a1 - 1)).toNat 1 rfl rfl (get_map hx6639) TI9 rfl (by decide) (ltn rfl)) rfl (by kernel_rfl) (by kernel_rfl) (by kernel_rfl) (by kernel_rfl) ⟨trivial, ⟨⟨4, rfl⟩, trivial⟩, ⟨⟨4, rfl⟩, ⟨5, rfl⟩, trivial⟩⟩ (fun _ _ _ h => h) ?_
                        refine VA.oneC (i := 16) (listed' := LB 30 131071) (by kernel_rfl) rfl (o_call0 FO14 (strings_Repeat.ok (⟨#[0]⟩ : ByteArray) 64 r6640 hA6641) rfl rfl (ltn rfl) (All_of .nil)) rfl (by kernel_rfl) ?_
                        rintro _ _ _ ⟨rfl, rfl, rfl⟩
                        refine ⟨⟨trivial, ⟨⟨4, rfl⟩, trivial⟩, ⟨⟨4, rfl⟩, ⟨5, rfl⟩, trivial⟩⟩, ?_⟩
                        refine VA.va (i := 17) (listed' := LB 30 262143) rfl (op_cmps rfl rfl (congrArg some hb6642) (ltn rfl)) rfl (by kernel_rfl) (by kernel_rfl) (by kernel_rfl) (by kernel_rfl) ⟨trivial, ⟨⟨4, rfl⟩, trivial⟩, ⟨⟨4, rfl⟩, ⟨5, rfl⟩, trivial⟩⟩ (fun _ _ _ h => h) ?_
                        refine VA.va (i := 18) (listed' := LB 30 524287) rfl (op_pick rfl rfl (ltn rfl)) rfl (by kernel_rfl) (by kernel_rfl) (by kernel_rfl) (by kernel_rfl) ⟨trivial, ⟨⟨4, rfl⟩, trivial⟩, ⟨⟨4, rfl⟩, ⟨5, rfl⟩, trivial⟩⟩ (fun _ _ _ h => h) ?_
                        refine VA.va (i := 19) (listed' := LB 30 1048575) rfl (op_move rfl (ltn rfl)) rfl (by kernel_rfl) (by kernel_rfl) (by kernel_rfl) (by kernel_rfl) ⟨trivial, ⟨⟨4, rfl⟩, trivial⟩, ⟨⟨4, rfl⟩, ⟨5, rfl⟩, trivial⟩⟩ (fun _ _ _ h => h) ?_
                        refine VA.va (i := 20) (listed' := LB 30 2097151) rfl (op_fieldAddr FI25_1 rfl (add_at _ _ _) (ltn rfl)) rfl (by kernel_rfl) (by kernel_rfl) (by kernel_rfl) (by kernel_rfl) ⟨trivial, ⟨⟨4, rfl⟩, trivial⟩, ⟨⟨4, rfl⟩, ⟨5, rfl⟩, trivial⟩⟩ (fun _ _ _ h => h) ?_
                        refine VA.va (i := 21) (listed' := LB 30 4194303) rfl (op_load 0 1 rfl rfl TI23 rfl (by decide) (ltn rfl)) rfl (by kernel_rfl) (by kernel_rfl) (by kernel_rfl) (by kernel_rfl) ⟨trivial, ⟨⟨4, rfl⟩, trivial⟩, ⟨⟨4, rfl⟩, ⟨5, rfl⟩, trivial⟩⟩ (fun _ _ _ h => h) ?_
                        refine VA.va (i := 22) (listed' := LB 30 8388607) rfl (op_len_own (m := r369.length) 1 lenm Try.underlying23 rfl rfl (ltn rfl)) rfl (by kernel_rfl) (by kernel_rfl) (by kernel_rfl) (by kernel_rfl) ⟨trivial, ⟨⟨4, rfl⟩, trivial⟩, ⟨⟨4, rfl⟩, ⟨5, rfl⟩, trivial⟩⟩ (fun _ _ _ h => h) ?_
                        refine VA.va (i := 23) (listed' := LB 30 16777215) rfl (op_cmp rfl rfl (congrArg some hb6644) (ltn rfl)) rfl (by kernel_rfl) (by kernel_rfl) (by kernel_rfl) (by kernel_rfl) ⟨trivial, ⟨⟨4, rfl⟩, trivial⟩, ⟨⟨4, rfl⟩, ⟨5, rfl⟩, trivial⟩⟩ (fun _ _ _ h => h) ?_
                        refine VA.va (i := 24) (listed' := LB 30 33554431) rfl (op_pick rfl rfl (ltn rfl)) rfl (by kernel_rfl) (by kernel_rfl) (by kernel_rfl) (by kernel_rfl) ⟨trivial, ⟨⟨4, rfl⟩, trivial⟩, ⟨⟨4, rfl⟩, ⟨5, rfl⟩, trivial⟩⟩ (fun _ _ _ h => h) ?_
                        refine VA.va (i := 25) (listed' := LB 30 67108863) rfl (op_move rfl (ltn rfl)) rfl (by kernel_rfl) (by kernel_rfl) (by kernel_rfl) (by kernel_rfl) ⟨trivial, ⟨⟨4, rfl⟩, trivial⟩, ⟨⟨4, rfl⟩, ⟨5, rfl⟩, trivial⟩⟩ (fun _ _ _ h => h) ?_
                        refine VA.va (i := 26) (listed' := LB 30 134217727) rfl (op_load 0 2 rfl rfl TI25 rfl (fun h => absurd h (by decide)) (ltn rfl)) rfl (by kernel_rfl) (by kernel_rfl) (by kernel_rfl) (by kernel_rfl) ⟨trivial, ⟨⟨4, rfl⟩, trivial⟩, ⟨⟨4, rfl⟩, ⟨5, rfl⟩, trivial⟩⟩ (fun _ _ _ h => h) ?_
                        refine VA.oneC (i := 27) (listed' := LB 30 268435455) (by kernel_rfl) rfl (o_call_b0 FO15 (tarryref03_Right.ok k r368 r369 (.slice (some ⟨g1743, 0, none⟩) r368.length n1744) v375 true hA6647) rfl rfl (ltn rfl) (All_of (.cons (.inr (.inl ⟨_, List.mem_of_getElem? (i := 4) rfl, rfl⟩)) (.cons (.inr (.inl ⟨_, List.mem_of_getElem? (i := 5) rfl, rfl⟩)) .nil))) (by rintro _ _ _ ⟨rfl, rfl, rfl⟩; rfl)) rfl (by kernel_rfl) ?_
                        rintro _ _ _ ⟨rfl, rfl, rfl⟩
                        refine ⟨⟨trivial, ⟨⟨4, rfl⟩, trivial⟩, ⟨⟨4, rfl⟩, ⟨5, rfl⟩, trivial⟩⟩, ?_⟩
                        refine VA.va (i := 28) (listed' := LB 30 536870911) rfl (op_not rfl rfl (ltn rfl)) rfl (by kernel_rfl) (by kernel_rfl) (by kernel_rfl) (by kernel_rfl) ⟨trivial, ⟨⟨4, rfl⟩, trivial⟩, ⟨⟨4, rfl⟩, ⟨5, rfl⟩, trivial⟩⟩ (fun _ _ _ h => h) ?_
                        refine VA.va (i := 29) (listed' := LB 30 1073741823) rfl (op_pick rfl rfl (ltn rfl)) rfl (by kernel_rfl) (by kernel_rfl) (by kernel_rfl) (by kernel_rfl) ⟨trivial, ⟨⟨4, rfl⟩, trivial⟩, ⟨⟨4, rfl⟩, ⟨5, rfl⟩, trivial⟩⟩ (fun _ _ _ h => h) ?_
                        refine VA.done (by kernel_rfl) ?_
                        exact VN.meet0  [0, 1, 2, 3, 5] [0, 1, 2, 3] trivial ⟨rfl, ⟨rfl, rfl, rfl, rfl, rfl, rfl, rfl, rfl, rfl, rfl, rfl, rfl, rfl, rfl, rfl, rfl, trivial⟩, ⟨⟨0, rfl⟩, ⟨1, rfl⟩, ⟨2, rfl⟩, ⟨3, rfl⟩, trivial⟩, rfl, by decide, rfl, by decide⟩
                      intro _
                      refine VC.cond_f rfl ?_
                      refine VC.skip ?_
                      refine VN.meet0  [0, 1, 2, 3, 4] [0, 1, 2, 3] h ⟨rfl, ⟨rfl, rfl, rfl, rfl, rfl, rfl, rfl, rfl, rfl, rfl, rfl, rfl, rfl, rfl, rfl, trivial⟩, ⟨⟨0, rfl⟩, ⟨1, rfl⟩, ⟨2, rfl⟩, ⟨3, rfl⟩, trivial⟩, rfl, by decide, rfl, by decide⟩
                    · rw [if_neg c6648] at h
                      obtain rfl := Bool.eq_false_iff.2 c6648
                      refine VC.openR (m := r368.length) 4 lenm rfl (pos_get hx6639) ?_
                      rintro g1743 n1744 rfl
                      refine VC.join0 (⟨246, [(2, .int .i64 a2), (3, .string (a3.extract 0 ((mn (a3.size : Int) 66).toNat))), (4, .int .u64 a4), (5, .int .i64 a5), (6, .pointer (some ⟨g3, 0, none⟩)), (12, .bool false), (15, .pointer (some ⟨g768, 0, none⟩)), (16, .int .i64 t762), (17, .string t918), (18, .int .i64 t919), (19, .pointer (some ⟨g1435, 0, none⟩)), (20, .int .i64 t1429), (21, .pointer (some ⟨g1444, 0, none⟩)), (22, .int .i64 t1438), (23, .pointer (some ⟨g1445, 0, none⟩)), (106, .bool true)], [.row v765 1 (r760.map enc_str), .row v767 2 (r761.map enc32), .row v331 1 (r327.map enc_str), .row v333 2 (r328.map enc32)], [(g1445, 25, [.slice none 0 0, .slice none 0 0]), (g1444, 25, [v1441, v1443]), (g1435, 25, [v1432, v1434]), (g768, 25, [v765, v767]), (g3, 25, [v331, v333])], [(v1441, 9, 1, r1436.map enc_str), (v1443, 33, 2, r1437.map enc32), (v1432, 9, 1, r1427.map enc_str), (v1434, 33, 2, r1428.map enc32)]⟩) (True) ?_ ?_
                      · refine VC.draw ⟨0, [], [], [(g376, 25, [(.slice (some ⟨g1743, 0, none⟩) r368.length n1744), v375])], [((.slice (some ⟨g1743, 0, none⟩) r368.length n1744), 9, 1, r368.map enc_str), (v375, 33, 2, r369.map enc32)]⟩ (by kernel_rfl) rfl (by kernel_rfl) (n := 30) (listed := LB 30 0) ?_
                        refine VA.va (i := 0) (listed' := LB 30 1) rfl (op_move rfl (ltn rfl)) rfl (by kernel_rfl) (by kernel_rfl) (by kernel_rfl) (by kernel_rfl) ⟨trivial, ⟨⟨4, rfl⟩, trivial⟩, ⟨⟨4, rfl⟩, ⟨5, rfl⟩, trivial⟩⟩ (fun _ _ _ h => h) ?_
                        refine VA.va (i := 1) (listed' := LB 30 3) rfl (op_cmp rfl rfl (congrArg some hb6634) (ltn rfl)) rfl (by kernel_rfl) (by kernel_rfl) (by kernel_rfl) (by kernel_rfl) ⟨trivial, ⟨⟨4, rfl⟩, trivial⟩, ⟨⟨4, rfl⟩, ⟨5, rfl⟩, trivial⟩⟩ (fun _ _ _ h => h) ?_
                        refine VA.va (i := 2) (listed' := LB 30 7) rfl (op_move rfl (ltn rfl)) rfl (by kernel_rfl) (by kernel_rfl) (by kernel_rfl) (by kernel_rfl) ⟨trivial, ⟨⟨4, rfl⟩, trivial⟩, ⟨⟨4, rfl⟩, ⟨5, rfl⟩, trivial⟩⟩ (fun _ _ _ h => h) ?_
                        refine VA.va (i := 3) (listed' := LB 30 15) rfl (op_fieldAddr FI25_0 rfl (add_at _ _ _) (ltn rfl)) rfl (by kernel_rfl) (by kernel_rfl) (by kernel_rfl) (by kernel_rfl) ⟨trivial, ⟨⟨4, rfl⟩, trivial⟩, ⟨⟨4, rfl⟩, ⟨5, rfl⟩, trivial⟩⟩ (fun _ _ _ h => h) ?_
                        refine VA.va (i := 4) (listed' := LB 30 31) rfl (op_load 0 1 rfl rfl TI22 rfl (by decide) (ltn rfl)) rfl (by kernel_rfl) (by kernel_rfl) (by kernel_rfl) (by kernel_rfl) ⟨trivial, ⟨⟨4, rfl⟩, trivial⟩, ⟨⟨4, rfl⟩, ⟨5, rfl⟩, trivial⟩⟩ (fun _ _ _ h => h) ?_
                        refine VA.va (i := 5) (listed' := LB 30 63) rfl (op_len_own (m := r368.length) 0 lenm Try.underlying22 rfl rfl (ltn rfl)) rfl (by kernel_rfl) (by kernel_rfl) (by kernel_rfl) (by kernel_rfl) ⟨trivial, ⟨⟨4, rfl⟩, trivial⟩, ⟨⟨4, rfl⟩, ⟨5, rfl⟩, trivial⟩⟩ (fun _ _ _ h => h) ?_
                        refine VA.va (i := 6) (listed' := LB 30 127) rfl (op_move rfl (ltn rfl)) rfl (by kernel_rfl) (by kernel_rfl) (by kernel_rfl) (by kernel_rfl) ⟨trivial, ⟨⟨4, rfl⟩, trivial⟩, ⟨⟨4, rfl⟩, ⟨5, rfl⟩, trivial⟩⟩ (fun _ _ _ h => h) ?_
                        refine VA.va (i := 7) (listed' := LB 30 255) rfl (op_cmp rfl rfl (congrArg some hb6636) (ltn rfl)) rfl (by kernel_rfl) (by kernel_rfl) (by kernel_rfl) (by kernel_rfl) ⟨trivial, ⟨⟨4, rfl⟩, trivial⟩, ⟨⟨4, rfl⟩, ⟨5, rfl⟩, trivial⟩⟩ (fun _ _ _ h => h) ?_
                        refine VA.va (i := 8) (listed' := LB 30 511) rfl (op_pick rfl rfl (ltn rfl)) rfl (by kernel_rfl) (by kernel_rfl) (by kernel_rfl) (by kernel_rfl) ⟨trivial, ⟨⟨4, rfl⟩, trivial⟩, ⟨⟨4, rfl⟩, ⟨5, rfl⟩, trivial⟩⟩ (fun _ _ _ h => h) ?_
                        refine VA.va (i := 9) (listed' := LB 30 1023) rfl (op_move rfl (ltn rfl)) rfl (by kernel_rfl) (by kernel_rfl) (by kernel_rfl) (by kernel_rfl) ⟨trivial, ⟨⟨4, rfl⟩, trivial⟩, ⟨⟨4, rfl⟩, ⟨5, rfl⟩, trivial⟩⟩ (fun _ _ _ h => h) ?_
                        refine VA.va (i := 10) (listed' := LB 30 2047) rfl (op_fieldAddr FI25_0 rfl (add_at _ _ _) (ltn rfl)) rfl (by kernel_rfl) (by kernel_rfl) (by kernel_rfl) (by kernel_rfl) ⟨trivial, ⟨⟨4, rfl⟩, trivial⟩, ⟨⟨4, rfl⟩, ⟨5, rfl⟩, trivial⟩⟩ (fun _ _ _ h => h) ?_
                        refine VA.va (i := 11) (listed' := LB 30 4095) rfl (op_load 0 1 rfl rfl TI22 rfl (by decide) (ltn rfl)) rfl (by kernel_rfl) (by kernel_rfl) (by kernel_rfl) (by kernel_rfl) ⟨trivial, ⟨⟨4, rfl⟩, trivial⟩, ⟨⟨4, rfl⟩, ⟨5, rfl⟩, trivial⟩⟩ (fun _ _ _ h => h) ?_
                        refine VA.va (i := 12) (listed' := LB 30 8191) rfl (op_move rfl (ltn rfl)) rfl (by kernel_rfl) (by kernel_rfl) (by kernel_rfl) (by kernel_rfl) ⟨trivial, ⟨⟨4, rfl⟩, trivial⟩, ⟨⟨4, rfl⟩, ⟨5, rfl⟩, trivial⟩⟩ (fun _ _ _ h => h) ?_
                        refine VA.va (i := 13) (listed' := LB 30 16383) rfl (op_ari64 rfl rfl rfl (ltn rfl)) rfl (by kernel_rfl) (by kernel_rfl) (by kernel_rfl) (by kernel_rfl) ⟨trivial, ⟨⟨4, rfl⟩, trivial⟩, ⟨⟨4, rfl⟩, ⟨5, rfl⟩, trivial⟩⟩ (fun _ _ _ h => h) ?_
                        refine VA.va (i := 14) (listed' := LB 30 32767) rfl (op_indexAddr Try.underlying22 TI9 rfl rfl c6638 (lt_get c6638 hx6639) (add_zero_at _ _) (ltn rfl)) rfl (by kernel_rfl) (by kernel_rfl) (by kernel_rfl) (by kernel_rfl) ⟨trivial, ⟨⟨4, rfl⟩, trivial⟩, ⟨⟨4, rfl⟩, ⟨5, rfl⟩, trivial⟩⟩ (fun _ _ _ h => h) ?_
                        refine VA.va (i := 15) (listed' := LB 30 65535) rfl (op_load_own (sz := 1) (o := 0) 0 (wrap64 (a1 - 1)).toNat 1 rfl rfl (get_map hx6639) TI9 rfl (by decide) (ltn rfl)) rfl (by kernel_rfl) (by kernel_rfl) (by kernel_rfl) (by kernel_rfl) ⟨trivial, ⟨⟨4, rfl⟩, trivial⟩, ⟨⟨4, rfl⟩, ⟨5, rfl⟩, trivial⟩⟩ (fun _ _ _ h => h) ?_
                        refine VA.oneC (i := 16) (listed' := LB 30 131071) (by kernel_rfl) rfl (o_call0 FO14 (strings_Repeat.ok (⟨#[0]⟩ : ByteArray) 64 r6640 hA6641) rfl rfl (ltn rfl) (All_of .nil)) rfl (by kernel_rfl) ?_
                        rintro _ _ _ ⟨rfl, rfl, rfl⟩
                        refine ⟨⟨trivial, ⟨⟨4, rfl⟩, trivial⟩, ⟨⟨4, rfl⟩, ⟨5, rfl⟩, trivial⟩⟩, ?_⟩
                        refine VA.va (i := 17) (listed' := LB 30 262143) rfl (op_cmps rfl rfl (congrArg some hb6642) (ltn rfl)) rfl (by kernel_rfl) (by kernel_rfl) (by kernel_rfl) (by kernel_rfl) ⟨trivial, ⟨⟨4, rfl⟩, trivial⟩, ⟨⟨4, rfl⟩, ⟨5, rfl⟩, trivial⟩⟩ (fun _ _ _ h => h) ?_
                        refine VA.va (i := 18) (listed' := LB 30 524287) rfl (op_pick rfl rfl (ltn rfl)) rfl (by kernel_rfl) (by kernel_rfl) (by kernel_rfl) (by kernel_rfl) ⟨trivial, ⟨⟨4, rfl⟩, trivial⟩, ⟨⟨4, rfl⟩, ⟨5, rfl⟩, trivial⟩⟩ (fun _ _ _ h => h) ?_
                        refine VA.va (i := 19) (listed' := LB 30 1048575) rfl (op_move rfl (ltn rfl)) rfl (by kernel_rfl) (by kernel_rfl) (by kernel_rfl) (by kernel_rfl) ⟨trivial, ⟨⟨4, rfl⟩, trivial⟩, ⟨⟨4, rfl⟩, ⟨5, rfl⟩, trivial⟩⟩ (fun _ _ _ h => h) ?_
                        refine VA.va (i := 20) (listed' := LB 30 2097151) rfl (op_fieldAddr FI25_1 rfl (add_at _ _ _) (ltn rfl)) rfl (by kernel_rfl) (by kernel_rfl) (by kernel_rfl) (by kernel_rfl) ⟨trivial, ⟨⟨4, rfl⟩, trivial⟩, ⟨⟨4, rfl⟩, ⟨5, rfl⟩, trivial⟩⟩ (fun _ _ _ h => h) ?_
                        refine VA.va (i := 21) (listed' := LB 30 4194303) rfl (op_load 0 1 rfl rfl TI23 rfl (by decide) (ltn rfl)) rfl (by kernel_rfl) (by kernel_rfl) (by kernel_rfl) (by kernel_rfl) ⟨trivial, ⟨⟨4, rfl⟩, trivial⟩, ⟨⟨4, rfl⟩, ⟨5, rfl⟩, trivial⟩⟩ (fun _ _ _ h => h) ?_
                        refine VA.va (i := 22) (listed' := LB 30 8388607) rfl (op_len_own (m := r369.length) 1 lenm Try.underlying23 rfl rfl (ltn rfl)) rfl (by kernel_rfl) (by kernel_rfl) (by kernel_rfl) (by kernel_rfl) ⟨trivial, ⟨⟨4, rfl⟩, trivial⟩, ⟨⟨4, rfl⟩, ⟨5, rfl⟩, trivial⟩⟩ (fun _ _ _ h => h) ?_
                        refine VA.va (i := 23) (listed' := LB 30 16777215) rfl (op_cmp rfl rfl (congrArg some hb6644) (ltn rfl)) rfl (by kernel_rfl) (by kernel_rfl) (by kernel_rfl) (by kernel_rfl) ⟨trivial, ⟨⟨4, rfl⟩, trivial⟩, ⟨⟨4, rfl⟩, ⟨5, rfl⟩, trivial⟩⟩ (fun _ _ _ h => h) ?_
                        refine VA.va (i := 24) (listed' := LB 30 33554431) rfl (op_pick rfl rfl (ltn rfl)) rfl (by kernel_rfl) (by kernel_rfl) (by kernel_rfl) (by kernel_rfl) ⟨trivial, ⟨⟨4, rfl⟩, trivial⟩, ⟨⟨4, rfl⟩, ⟨5, rfl⟩, trivial⟩⟩ (fun _ _ _ h => h) ?_
                        refine VA.va (i := 25) (listed' := LB 30 67108863) rfl (op_move rfl (ltn rfl)) rfl (by kernel_rfl) (by kernel_rfl) (by kernel_rfl) (by kernel_rfl) ⟨trivial, ⟨⟨4, rfl⟩, trivial⟩, ⟨⟨4, rfl⟩, ⟨5, rfl⟩, trivial⟩⟩ (fun _ _ _ h => h) ?_
                        refine VA.va (i := 26) (listed' := LB 30 134217727) rfl (op_load 0 2 rfl rfl TI25 rfl (fun h => absurd h (by decide)) (ltn rfl)) rfl (by kernel_rfl) (by kernel_rfl) (by kernel_rfl) (by kernel_rfl) ⟨trivial, ⟨⟨4, rfl⟩, trivial⟩, ⟨⟨4, rfl⟩, ⟨5, rfl⟩, trivial⟩⟩ (fun _ _ _ h => h) ?_
                        refine VA.oneC (i := 27) (listed' := LB 30 268435455) (by kernel_rfl) rfl (o_call_b0 FO15 (tarryref03_Right.ok k r368 r369 (.slice (some ⟨g1743, 0, none⟩) r368.length n1744) v375 false hA6647) rfl rfl (ltn rfl) (All_of (.cons (.inr (.inl ⟨_, List.mem_of_getElem? (i := 4) rfl, rfl⟩)) (.cons (.inr (.inl ⟨_, List.mem_of_getElem? (i := 5) rfl, rfl⟩)) .nil))) (by rintro _ _ _ ⟨rfl, rfl, rfl⟩; rfl)) rfl (by kernel_rfl) ?_
                        rintro _ _ _ ⟨rfl, rfl, rfl⟩
                        refine ⟨⟨trivial, ⟨⟨4, rfl⟩, trivial⟩, ⟨⟨4, rfl⟩, ⟨5, rfl⟩, trivial⟩⟩, ?_⟩
                        refine VA.va (i := 28) (listed' := LB 30 536870911) rfl (op_not rfl rfl (ltn rfl)) rfl (by kernel_rfl) (by kernel_rfl) (by kernel_rfl) (by kernel_rfl) ⟨trivial, ⟨⟨4, rfl⟩, trivial⟩, ⟨⟨4, rfl⟩, ⟨5, rfl⟩, trivial⟩⟩ (fun _ _ _ h => h) ?_
                        refine VA.va (i := 29) (listed' := LB 30 1073741823) rfl (op_pick rfl rfl (ltn rfl)) rfl (by kernel_rfl) (by kernel_rfl) (by kernel_rfl) (by kernel_rfl) ⟨trivial, ⟨⟨4, rfl⟩, trivial⟩, ⟨⟨4, rfl⟩, ⟨5, rfl⟩, trivial⟩⟩ (fun _ _ _ h => h) ?_
                        refine VA.done (by kernel_rfl) ?_
                        exact VN.meet0  [0, 1, 2, 3, 5] [0, 1, 2, 3] trivial ⟨rfl, ⟨rfl, rfl, rfl, rfl, rfl, rfl, rfl, rfl, rfl, rfl, rfl, rfl, rfl, rfl, rfl, rfl, trivial⟩, ⟨⟨0, rfl⟩, ⟨1, rfl⟩, ⟨2, rfl⟩, ⟨3, rfl⟩, trivial⟩, rfl, by decide, rfl, by decide⟩
                      intro _
                      refine VC.cond_t rfl ?_
                      refine VC.seq ?_
                      refine VC.region ?_
                      refine VL.va (op_assign rfl (ltn rfl)) rfl ?_
                      refine VL.done ?_
                      refine VN.then ?_
                      refine VC.ret ?_
                      refine VR.then ?_
                      cases h
                  · rw [if_neg c6645] at h
                    obtain rfl : b6644 = true := hb6644.symm.trans (bne_iff_ne.2 c6645)
                    refine VC.openR (m := r368.length) 4 lenm rfl (pos_get hx6639) ?_
                    rintro g1743 n1744 rfl
                    refine VC.join0 (⟨246, [(2, .int .i64 a2), (3, .string (a3.extract 0 ((mn (a3.size : Int) 66).toNat))), (4, .int .u64 a4), (5, .int .i64 a5), (6, .pointer (some ⟨g3, 0, none⟩)), (12, .bool false), (15, .pointer (some ⟨g768, 0, none⟩)), (16, .int .i64 t762), (17, .string t918), (18, .int .i64 t919), (19, .pointer (some ⟨g1435, 0, none⟩)), (20, .int .i64 t1429), (21, .pointer (some ⟨g1444, 0, none⟩)), (22, .int .i64 t1438), (23, .pointer (some ⟨g1445, 0, none⟩)), (106, .bool true)], [.row v765 1 (r760.map enc_str), .row v767 2 (r761.map enc32), .row v331 1 (r327.map enc_str), .row v333 2 (r328.map enc32)], [(g1445, 25, [.slice none 0 0, .slice none 0 0]), (g1444, 25, [v1441, v1443]), (g1435, 25, [v1432, v1434]), (g768, 25, [v765, v767]), (g3, 25, [v331, v333])], [(v1441, 9, 1, r1436.map enc_str), (v1443, 33, 2, r1437.map enc32), (v1432, 9, 1, r1427.map enc_str), (v1434, 33, 2, r1428.map enc32)]⟩) (True) ?_ ?_
                    · refine VC.draw ⟨0, [], [], [(g376, 25, [(.slice (some ⟨g1743, 0, none⟩) r368.length n1744), v375])], [((.slice (some ⟨g1743, 0, none⟩) r368.length n1744), 9, 1, r368.map enc_str), (v375, 33, 2, r369.map enc32)]⟩ (by kernel_rfl) rfl (by kernel_rfl) (n := 30) (listed := LB 30 0) ?_
                      refine VA.va (i := 0) (listed' := LB 30 1) rfl (op_move rfl (ltn rfl)) rfl (by kernel_rfl) (by kernel_rfl) (by kernel_rfl) (by kernel_rfl) ⟨trivial, ⟨⟨4, rfl⟩, trivial⟩, ⟨⟨4, rfl⟩, ⟨5, rfl⟩, trivial⟩⟩ (fun _ _ _ h => h) ?_
                      refine VA.va (i := 1) (listed' := LB 30 3) rfl (op_cmp rfl rfl (congrArg some hb6634) (ltn rfl)) rfl (by kernel_rfl) (by kernel_rfl) (by kernel_rfl) (by kernel_rfl) ⟨trivial, ⟨⟨4, rfl⟩, trivial⟩, ⟨⟨4, rfl⟩, ⟨5, rfl⟩, trivial⟩⟩ (fun _ _ _ h => h) ?_
                      refine VA.va (i := 2) (listed' := LB 30 7) rfl (op_move rfl (ltn rfl)) rfl (by kernel_rfl) (by kernel_rfl) (by kernel_rfl) (by kernel_rfl) ⟨trivial, ⟨⟨4, rfl⟩, trivial⟩, ⟨⟨4, rfl⟩, ⟨5, rfl⟩, trivial⟩⟩ (fun _ _ _ h => h) ?_
                      refine VA.va (i := 3) (listed' := LB 30 15) rfl (op_fieldAddr FI25_0 rfl (add_at _ _ _) (ltn rfl)) rfl (by kernel_rfl) (by kernel_rfl) (by kernel_rfl) (by kernel_rfl) ⟨trivial, ⟨⟨4, rfl⟩, trivial⟩, ⟨⟨4, rfl⟩, ⟨5, rfl⟩, trivial⟩⟩ (fun _ _ _ h => h) ?_
                      refine VA.va (i := 4) (listed' := LB 30 31) rfl (op_load 0 1 rfl rfl TI22 rfl (by decide) (ltn rfl)) rfl (by kernel_rfl) (by kernel_rfl) (by kernel_rfl) (by kernel_rfl) ⟨trivial, ⟨⟨4, rfl⟩, trivial⟩, ⟨⟨4, rfl⟩, ⟨5, rfl⟩, trivial⟩⟩ (fun _ _ _ h => h) ?_
                      refine VA.va (i := 5) (listed' := LB 30 63) rfl (op_len_own (m := r368.length) 0 lenm Try.underlying22 rfl rfl (ltn rfl)) rfl (by kernel_rfl) (by kernel_rfl) (by kernel_rfl) (by kernel_rfl) ⟨trivial, ⟨⟨4, rfl⟩, trivial⟩, ⟨⟨4, rfl⟩, ⟨5, rfl⟩, trivial⟩⟩ (fun _ _ _ h => h) ?_
                      refine VA.va (i := 6) (listed' := LB 30 127) rfl (op_move rfl (ltn rfl)) rfl (by kernel_rfl) (by kernel_rfl) (by kernel_rfl) (by kernel_rfl) ⟨trivial, ⟨⟨4, rfl⟩, trivial⟩, ⟨⟨4, rfl⟩, ⟨5, rfl⟩, trivial⟩⟩ (fun _ _ _ h => h) ?_
                      refine VA.va (i := 7) (listed' := LB 30 255) rfl (op_cmp rfl rfl (congrArg some hb6636) (ltn rfl)) rfl (by kernel_rfl) (by kernel_rfl) (by kernel_rfl) (by kernel_rfl) ⟨trivial, ⟨⟨4, rfl⟩, trivial⟩, ⟨⟨4, rfl⟩, ⟨5, rfl⟩, trivial⟩⟩ (fun _ _ _ h => h) ?_
                      refine VA.va (i := 8) (listed' := LB 30 511) rfl (op_pick rfl rfl (ltn rfl)) rfl (by kernel_rfl) (by kernel_rfl) (by kernel_rfl) (by kernel_rfl) ⟨trivial, ⟨⟨4, rfl⟩, trivial⟩, ⟨⟨4, rfl⟩, ⟨5, rfl⟩, trivial⟩⟩ (fun _ _ _ h => h) ?_
                      refine VA.va (i := 9) (listed' := LB 30 1023) rfl (op_move rfl (ltn rfl)) rfl (by kernel_rfl) (by kernel_rfl) (by kernel_rfl) (by kernel_rfl) ⟨trivial, ⟨⟨4, rfl⟩, trivial⟩, ⟨⟨4, rfl⟩, ⟨5, rfl⟩, trivial⟩⟩ (fun _ _ _ h => h) ?_
                      refine VA.va (i := 10) (listed' := LB 30 2047) rfl (op_fieldAddr FI25_0 rfl (add_at _ _ _) (ltn rfl)) rfl (by kernel_rfl) (by kernel_rfl) (by kernel_rfl) (by kernel_rfl) ⟨trivial, ⟨⟨4, rfl⟩, trivial⟩, ⟨⟨4, rfl⟩, ⟨5, rfl⟩, trivial⟩⟩ (fun _ _ _ h => h) ?_
                      refine VA.va (i := 11) (listed' := LB 30 4095) rfl (op_load 0 1 rfl rfl TI22 rfl (by decide) (ltn rfl)) rfl (by kernel_rfl) (by kernel_rfl) (by kernel_rfl) (by kernel_rfl) ⟨trivial, ⟨⟨4, rfl⟩, trivial⟩, ⟨⟨4, rfl⟩, ⟨5, rfl⟩, trivial⟩⟩ (fun _ _ _ h => h) ?_
                      refine VA.va (i := 12) (listed' := LB 30 8191) rfl (op_move rfl (ltn rfl)) rfl (by kernel_rfl) (by kernel_rfl) (by kernel_rfl) (by kernel_rfl) ⟨trivial, ⟨⟨4, rfl⟩, trivial⟩, ⟨⟨4, rfl⟩, ⟨5, rfl⟩, trivial⟩⟩ (fun _ _ _ h => h) ?_
                      refine VA.va (i := 13) (listed' := LB 30 16383) rfl (op_ari64 rfl rfl rfl (ltn rfl)) rfl (by kernel_rfl) (by kernel_rfl) (by kernel_rfl) (by kernel_rfl) ⟨trivial, ⟨⟨4, rfl⟩, trivial⟩, ⟨⟨4, rfl⟩, ⟨5, rfl⟩, trivial⟩⟩ (fun _ _ _ h => h) ?_
                      refine VA.va (i := 14) (listed' := LB 30 32767) rfl (op_indexAddr Try.underlying22 TI9 rfl rfl c6638 (lt_get c6638 hx6639) (add_zero_at _ _) (ltn rfl)) rfl (by kernel_rfl) (by kernel_rfl) (by kernel_rfl) (by kernel_rfl) ⟨trivial, ⟨⟨4, rfl⟩, trivial⟩, ⟨⟨4, rfl⟩, ⟨5, rfl⟩, trivial⟩⟩ (fun _ _ _ h => h) ?_
                      refine VA.va (i := 15) (listed' := LB 30 65535) rfl (op_load_own (sz := 1) (o := 0) 0 (wrap64 (a1 - 1)).toNat 1 rfl rfl (get_map hx6639) TI9 rfl (by decide) (ltn rfl)) rfl (by kernel_rfl) (by kernel_rfl) (by kernel_rfl) (by kernel_rfl) ⟨trivial, ⟨⟨4, rfl⟩, trivial⟩, ⟨⟨4, rfl⟩, ⟨5, rfl⟩, trivial⟩⟩ (fun _ _ _ h => h) ?_
                      refine VA.oneC (i := 16) (listed' := LB 30 131071) (by kernel_rfl) rfl (o_call0 FO14 (strings_Repeat.ok (⟨#[0]⟩ : ByteArray) 64 r6640 hA6641) rfl rfl (ltn rfl) (All_of .nil)) rfl (by kernel_rfl) ?_
                      rintro _ _ _ ⟨rfl, rfl, rfl⟩
                      refine ⟨⟨trivial, ⟨⟨4, rfl⟩, trivial⟩, ⟨⟨4, rfl⟩, ⟨5, rfl⟩, trivial⟩⟩, ?_⟩
                      refine VA.va (i := 17) (listed' := LB 30 262143) rfl (op_cmps rfl rfl (congrArg some hb6642) (ltn rfl)) rfl (by kernel_rfl) (by kernel_rfl) (by kernel_rfl) (by kernel_rfl) ⟨trivial, ⟨⟨4, rfl⟩, trivial⟩, ⟨⟨4, rfl⟩, ⟨5, rfl⟩, trivial⟩⟩ (fun _ _ _ h => h) ?_
                      refine VA.va (i := 18) (listed' := LB 30 524287) rfl (op_pick rfl rfl (ltn rfl)) rfl (by kernel_rfl) (by kernel_rfl) (by kernel_rfl) (by kernel_rfl) ⟨trivial, ⟨⟨4, rfl⟩, trivial⟩, ⟨⟨4, rfl⟩, ⟨5, rfl⟩, trivial⟩⟩ (fun _ _ _ h => h) ?_
                      refine VA.va (i := 19) (listed' := LB 30 1048575) rfl (op_move rfl (ltn rfl)) rfl (by kernel_rfl) (by kernel_rfl) (by kernel_rfl) (by kernel_rfl) ⟨trivial, ⟨⟨4, rfl⟩, trivial⟩, ⟨⟨4, rfl⟩, ⟨5, rfl⟩, trivial⟩⟩ (fun _ _ _ h => h) ?_
                      refine VA.va (i := 20) (listed' := LB 30 2097151) rfl (op_fieldAddr FI25_1 rfl (add_at _ _ _) (ltn rfl)) rfl (by kernel_rfl) (by kernel_rfl) (by kernel_rfl) (by kernel_rfl) ⟨trivial, ⟨⟨4, rfl⟩, trivial⟩, ⟨⟨4, rfl⟩, ⟨5, rfl⟩, trivial⟩⟩ (fun _ _ _ h => h) ?_
                      refine VA.va (i := 21) (listed' := LB 30 4194303) rfl (op_load 0 1 rfl rfl TI23 rfl (by decide) (ltn rfl)) rfl (by kernel_rfl) (by kernel_rfl) (by kernel_rfl) (by kernel_rfl) ⟨trivial, ⟨⟨4, rfl⟩, trivial⟩, ⟨⟨4, rfl⟩, ⟨5, rfl⟩, trivial⟩⟩ (fun _ _ _ h => h) ?_
                      refine VA.va (i := 22) (listed' := LB 30 8388607) rfl (op_len_own (m := r369.length) 1 lenm Try.underlying23 rfl rfl (ltn rfl)) rfl (by kernel_rfl) (by kernel_rfl) (by kernel_rfl) (by kernel_rfl) ⟨trivial, ⟨⟨4, rfl⟩, trivial⟩, ⟨⟨4, rfl⟩, ⟨5, rfl⟩, trivial⟩⟩ (fun _ _ _ h => h) ?_
                      refine VA.va (i := 23) (listed' := LB 30 16777215) rfl (op_cmp rfl rfl (congrArg some hb6644) (ltn rfl)) rfl (by kernel_rfl) (by kernel_rfl) (by kernel_rfl) (by kernel_rfl) ⟨trivial, ⟨⟨4, rfl⟩, trivial⟩, ⟨⟨4, rfl⟩, ⟨5, rfl⟩, trivial⟩⟩ (fun _ _ _ h => h) ?_
                      refine VA.va (i := 24) (listed' := LB 30 33554431) rfl (op_pick rfl rfl (ltn rfl)) rfl (by kernel_rfl) (by kernel_rfl) (by kernel_rfl) (by kernel_rfl) ⟨trivial, ⟨⟨4, rfl⟩, trivial⟩, ⟨⟨4, rfl⟩, ⟨5, rfl⟩, trivial⟩⟩ (fun _ _ _ h => h) ?_
                      refine VA.va (i := 25) (listed' := LB 30 67108863) rfl (op_move rfl (ltn rfl)) rfl (by kernel_rfl) (by kernel_rfl) (by kernel_rfl) (by kernel_rfl) ⟨trivial, ⟨⟨4, rfl⟩, trivial⟩, ⟨⟨4, rfl⟩, ⟨5, rfl⟩, trivial⟩⟩ (fun _ _ _ h => h) ?_
                      refine VA.un (i := 26) (listed' := LB 30 134217727) rfl rfl rfl (ltn rfl) (by kernel_rfl) (by kernel_rfl) (by kernel_rfl) (by kernel_rfl) ⟨trivial, ⟨⟨4, rfl⟩, trivial⟩, ⟨⟨4, rfl⟩, ⟨5, rfl⟩, trivial⟩⟩ (fun _ _ _ h => h) ?_
                      refine VA.un (i := 27) (listed' := LB 30 268435455) rfl rfl rfl (ltn rfl) (by kernel_rfl) (by kernel_rfl) (by kernel_rfl) (by kernel_rfl) ⟨trivial, ⟨⟨4, rfl⟩, trivial⟩, ⟨⟨4, rfl⟩, ⟨5, rfl⟩, trivial⟩⟩ (fun _ _ _ h => h) ?_
                      refine VA.un (i := 28) (listed' := LB 30 536870911) rfl rfl rfl (ltn rfl) (by kernel_rfl) (by kernel_rfl) (by kernel_rfl) (by kernel_rfl) ⟨trivial, ⟨⟨4, rfl⟩, trivial⟩, ⟨⟨4, rfl⟩, ⟨5, rfl⟩, trivial⟩⟩ (fun _ _ _ h => h) ?_
                      refine VA.va (i := 29) (listed' := LB 30 1073741823) rfl (op_pick rfl rfl (ltn rfl)) rfl (by kernel_rfl) (by kernel_rfl) (by kernel_rfl) (by kernel_rfl) ⟨trivial, ⟨⟨4, rfl⟩, trivial⟩, ⟨⟨4, rfl⟩, ⟨5, rfl⟩, trivial⟩⟩ (fun _ _ _ h => h) ?_
                      refine VA.done (by kernel_rfl) ?_
                      exact VN.meet0  [0, 1, 2, 3, 5] [0, 1, 2, 3] trivial ⟨rfl, ⟨rfl, rfl, rfl, rfl, rfl, rfl, rfl, rfl, rfl, rfl, rfl, rfl, rfl, rfl, rfl, rfl, trivial⟩, ⟨⟨0, rfl⟩, ⟨1, rfl⟩, ⟨2, rfl⟩, ⟨3, rfl⟩, trivial⟩, rfl, by decide, rfl, by decide⟩
                    intro _
                    refine VC.cond_t rfl ?_
                    refine VC.seq ?_
                    refine VC.region ?_
                    refine VL.va (op_assign rfl (ltn rfl)) rfl ?_
                    refine VL.done ?_
                    refine VN.then ?_
                    refine VC.ret ?_
                    refine VR.then ?_
                    cases h
                · rw [if_neg c6643] at h
                  obtain rfl : b6642 = true := hb6642.symm.trans (bne_of_f c6643)
                  refine VC.openR (m := r368.length) 4 lenm rfl (pos_get hx6639) ?_
                  rintro g1743 n1744 rfl
                  refine VC.join0 (⟨246, [(2, .int .i64 a2), (3, .string (a3.extract 0 ((mn (a3.size : Int) 66).toNat))), (4, .int .u64 a4), (5, .int .i64 a5), (6, .pointer (some ⟨g3, 0, none⟩)), (12, .bool false), (15, .pointer (some ⟨g768, 0, none⟩)), (16, .int .i64 t762), (17, .string t918), (18, .int .i64 t919), (19, .pointer (some ⟨g1435, 0, none⟩)), (20, .int .i64 t1429), (21, .pointer (some ⟨g1444, 0, none⟩)), (22, .int .i64 t1438), (23, .pointer (some ⟨g1445, 0, none⟩)), (106, .bool true)], [.row v765 1 (r760.map enc_str), .row v767 2 (r761.map enc32), .row v331 1 (r327.map enc_str), .row v333 2 (r328.map enc32)], [(g1445, 25, [.slice none 0 0, .slice none 0 0]), (g1444, 25, [v1441, v1443]), (g1435, 25, [v1432, v1434]), (g768, 25, [v765, v767]), (g3, 25, [v331, v333])], [(v1441, 9, 1, r1436.map enc_str), (v1443, 33, 2, r1437.map enc32), (v1432, 9, 1, r1427.map enc_str), (v1434, 33, 2, r1428.map enc32)]⟩) (True) ?_ ?_
                  · refine VC.draw ⟨0, [], [], [(g376, 25, [(.slice (some ⟨g1743, 0, none⟩) r368.length n1744), v375])], [((.slice (some ⟨g1743, 0, none⟩) r368.length n1744), 9, 1, r368.map enc_str)]⟩ (by kernel_rfl) rfl (by kernel_rfl) (n := 30) (listed := LB 30 0) ?_
                    refine VA.va (i := 0) (listed' := LB 30 1) rfl (op_move rfl (ltn rfl)) rfl (by kernel_rfl) (by kernel_rfl) (by kernel_rfl) (by kernel_rfl) ⟨trivial, ⟨⟨4, rfl⟩, trivial⟩, ⟨⟨4, rfl⟩, trivial⟩⟩ (fun _ _ _ h => h) ?_
                    refine VA.va (i := 1) (listed' := LB 30 3) rfl (op_cmp rfl rfl (congrArg some hb6634) (ltn rfl)) rfl (by kernel_rfl) (by kernel_rfl) (by kernel_rfl) (by kernel_rfl) ⟨trivial, ⟨⟨4, rfl⟩, trivial⟩, ⟨⟨4, rfl⟩, trivial⟩⟩ (fun _ _ _ h => h) ?_
                    refine VA.va (i := 2) (listed' := LB 30 7) rfl (op_move rfl (ltn rfl)) rfl (by kernel_rfl) (by kernel_rfl) (by kernel_rfl) (by kernel_rfl) ⟨trivial, ⟨⟨4, rfl⟩, trivial⟩, ⟨⟨4, rfl⟩, trivial⟩⟩ (fun _ _ _ h => h) ?_
                    refine VA.va (i := 3) (listed' := LB 30 15) rfl (op_fieldAddr FI25_0 rfl (add_at _ _ _) (ltn rfl)) rfl (by kernel_rfl) (by kernel_rfl) (by kernel_rfl) (by kernel_rfl) ⟨trivial, ⟨⟨4, rfl⟩, trivial⟩, ⟨⟨4, rfl⟩, trivial⟩⟩ (fun _ _ _ h => h) ?_
                    refine VA.va (i := 4) (listed' := LB 30 31) rfl (op_load 0 1 rfl rfl TI22 rfl (by decide) (ltn rfl)) rfl (by kernel_rfl) (by kernel_rfl) (by kernel_rfl) (by kernel_rfl) ⟨trivial, ⟨⟨4, rfl⟩, trivial⟩, ⟨⟨4, rfl⟩, trivial⟩⟩ (fun _ _ _ h => h) ?_
                    refine VA.va (i := 5) (listed' := LB 30 63) rfl (op_len_own (m := r368.length) 0 lenm Try.underlying22 rfl rfl (ltn rfl)) rfl (by kernel_rfl) (by kernel_rfl) (by kernel_rfl) (by kernel_rfl) ⟨trivial, ⟨⟨4, rfl⟩, trivial⟩, ⟨⟨4, rfl⟩, trivial⟩⟩ (fun _ _ _ h => h) ?_
                    refine VA.va (i := 6) (listed' := LB 30 127) rfl (op_move rfl (ltn rfl)) rfl (by kernel_rfl) (by kernel_rfl) (by kernel_rfl) (by kernel_rfl) ⟨trivial, ⟨⟨4, rfl⟩, trivial⟩, ⟨⟨4, rfl⟩, trivial⟩⟩ (fun _ _ _ h => h) ?_
                    refine VA.va (i := 7) (listed' := LB 30 255) rfl (op_cmp rfl rfl (congrArg some hb6636) (ltn rfl)) rfl (by kernel_rfl) (by kernel_rfl) (by kernel_rfl) (by kernel_rfl) ⟨trivial, ⟨⟨4, rfl⟩, trivial⟩, ⟨⟨4, rfl⟩, trivial⟩⟩ (fun _ _ _ h => h) ?_
                    refine VA.va (i := 8) (listed' := LB 30 511) rfl (op_pick rfl rfl (ltn rfl)) rfl (by kernel_rfl) (by kernel_rfl) (by kernel_rfl) (by kernel_rfl) ⟨trivial, ⟨⟨4, rfl⟩, trivial⟩, ⟨⟨4, rfl⟩, trivial⟩⟩ (fun _ _ _ h => h) ?_
                    refine VA.va (i := 9) (listed' := LB 30 1023) rfl (op_move rfl (ltn rfl)) rfl (by kernel_rfl) (by kernel_rfl) (by kernel_rfl) (by kernel_rfl) ⟨trivial, ⟨⟨4, rfl⟩, trivial⟩, ⟨⟨4, rfl⟩, trivial⟩⟩ (fun _ _ _ h => h) ?_
                    refine VA.va (i := 10) (listed' := LB 30 2047) rfl (op_fieldAddr FI25_0 rfl (add_at _ _ _) (ltn rfl)) rfl (by kernel_rfl) (by kernel_rfl) (by kernel_rfl) (by kernel_rfl) ⟨trivial, ⟨⟨4, rfl⟩, trivial⟩, ⟨⟨4, rfl⟩, trivial⟩⟩ (fun _ _ _ h => h) ?_
                    refine VA.va (i := 11) (listed' := LB 30 4095) rfl (op_load 0 1 rfl rfl TI22 rfl (by decide) (ltn rfl)) rfl (by kernel_rfl) (by kernel_rfl) (by kernel_rfl) (by kernel_rfl) ⟨trivial, ⟨⟨4, rfl⟩, trivial⟩, ⟨⟨4, rfl⟩, trivial⟩⟩ (fun _ _ _ h => h) ?_
                    refine VA.va (i := 12) (listed' := LB 30 8191) rfl (op_move rfl (ltn rfl)) rfl (by kernel_rfl) (by kernel_rfl) (by kernel_rfl) (by kernel_rfl) ⟨trivial, ⟨⟨4, rfl⟩, trivial⟩, ⟨⟨4, rfl⟩, trivial⟩⟩ (fun _ _ _ h => h) ?_
                    refine VA.va (i := 13) (listed' := LB 30 16383) rfl (op_ari64 rfl rfl rfl (ltn rfl)) rfl (by kernel_rfl) (by kernel_rfl) (by kernel_rfl) (by kernel_rfl) ⟨trivial, ⟨⟨4, rfl⟩, trivial⟩, ⟨⟨4, rfl⟩, trivial⟩⟩ (fun _ _ _ h => h) ?_
                    refine VA.va (i := 14) (listed' := LB 30 32767) rfl (op_indexAddr Try.underlying22 TI9 rfl rfl c6638 (lt_get c6638 hx6639) (add_zero_at _ _) (ltn rfl)) rfl (by kernel_rfl) (by kernel_rfl) (by kernel_rfl) (by kernel_rfl) ⟨trivial, ⟨⟨4, rfl⟩, trivial⟩, ⟨⟨4, rfl⟩, trivial⟩⟩ (fun _ _ _ h => h) ?_
                    refine VA.va (i := 15) (listed' := LB 30 65535) rfl (op_load_own (sz := 1) (o := 0) 0 (wrap64 (a1 - 1)).toNat 1 rfl rfl (get_map hx6639) TI9 rfl (by decide) (ltn rfl)) rfl (by kernel_rfl) (by kernel_rfl) (by kernel_rfl) (by kernel_rfl) ⟨trivial, ⟨⟨4, rfl⟩, trivial⟩, ⟨⟨4, rfl⟩, trivial⟩⟩ (fun _ _ _ h => h) ?_
                    refine VA.oneC (i := 16) (listed' := LB 30 131071) (by kernel_rfl) rfl (o_call0 FO14 (strings_Repeat.ok (⟨#[0]⟩ : ByteArray) 64 r6640 hA6641) rfl rfl (ltn rfl) (All_of .nil)) rfl (by kernel_rfl) ?_
                    rintro _ _ _ ⟨rfl, rfl, rfl⟩
                    refine ⟨⟨trivial, ⟨⟨4, rfl⟩, trivial⟩, ⟨⟨4, rfl⟩, trivial⟩⟩, ?_⟩
                    refine VA.va (i := 17) (listed' := LB 30 262143) rfl (op_cmps rfl rfl (congrArg some hb6642) (ltn rfl)) rfl (by kernel_rfl) (by kernel_rfl) (by kernel_rfl) (by kernel_rfl) ⟨trivial, ⟨⟨4, rfl⟩, trivial⟩, ⟨⟨4, rfl⟩, trivial⟩⟩ (fun _ _ _ h => h) ?_
                    refine VA.va (i := 18) (listed' := LB 30 524287) rfl (op_pick rfl rfl (ltn rfl)) rfl (by kernel_rfl) (by kernel_rfl) (by kernel_rfl) (by kernel_rfl) ⟨trivial, ⟨⟨4, rfl⟩, trivial⟩, ⟨⟨4, rfl⟩, trivial⟩⟩ (fun _ _ _ h => h) ?_
                    refine VA.va (i := 19) (listed' := LB 30 1048575) rfl (op_move rfl (ltn rfl)) rfl (by kernel_rfl) (by kernel_rfl) (by kernel_rfl) (by kernel_rfl) ⟨trivial, ⟨⟨4, rfl⟩, trivial⟩, ⟨⟨4, rfl⟩, trivial⟩⟩ (fun _ _ _ h => h) ?_
                    refine VA.un (i := 20) (listed' := LB 30 2097151) rfl rfl rfl (ltn rfl) (by kernel_rfl) (by kernel_rfl) (by kernel_rfl) (by kernel_rfl) ⟨trivial, ⟨⟨4, rfl⟩, trivial⟩, ⟨⟨4, rfl⟩, trivial⟩⟩ (fun _ _ _ h => h) ?_
                    refine VA.un (i := 21) (listed' := LB 30 4194303) rfl rfl rfl (ltn rfl) (by kernel_rfl) (by kernel_rfl) (by kernel_rfl) (by kernel_rfl) ⟨trivial, ⟨⟨4, rfl⟩, trivial⟩, ⟨⟨4, rfl⟩, trivial⟩⟩ (fun _ _ _ h => h) ?_
                    refine VA.un (i := 22) (listed' := LB 30 8388607) rfl rfl rfl (ltn rfl) (by kernel_rfl) (by kernel_rfl) (by kernel_rfl) (by kernel_rfl) ⟨trivial, ⟨⟨4, rfl⟩, trivial⟩, ⟨⟨4, rfl⟩, trivial⟩⟩ (fun _ _ _ h => h) ?_
                    refine VA.un (i := 23) (listed' := LB 30 16777215) rfl rfl rfl (ltn rfl) (by kernel_rfl) (by kernel_rfl) (by kernel_rfl) (by kernel_rfl) ⟨trivial, ⟨⟨4, rfl⟩, trivial⟩, ⟨⟨4, rfl⟩, trivial⟩⟩ (fun _ _ _ h => h) ?_
                    refine VA.va (i := 24) (listed' := LB 30 33554431) rfl (op_pick rfl rfl (ltn rfl)) rfl (by kernel_rfl) (by kernel_rfl) (by kernel_rfl) (by kernel_rfl) ⟨trivial, ⟨⟨4, rfl⟩, trivial⟩, ⟨⟨4, rfl⟩, trivial⟩⟩ (fun _ _ _ h => h) ?_
                    refine VA.va (i := 25) (listed' := LB 30 67108863) rfl (op_move rfl (ltn rfl)) rfl (by kernel_rfl) (by kernel_rfl) (by kernel_rfl) (by kernel_rfl) ⟨trivial, ⟨⟨4, rfl⟩, trivial⟩, ⟨⟨4, rfl⟩, trivial⟩⟩ (fun _ _ _ h => h) ?_
                    refine VA.un (i := 26) (listed' := LB 30 134217727) rfl rfl rfl (ltn rfl) (by kernel_rfl) (by kernel_rfl) (by kernel_rfl) (by kernel_rfl) ⟨trivial, ⟨⟨4, rfl⟩, trivial⟩, ⟨⟨4, rfl⟩, trivial⟩⟩ (fun _ _ _ h => h) ?_
                    refine VA.un (i := 27) (listed' := LB 30 268435455) rfl rfl rfl (ltn rfl) (by kernel_rfl) (by kernel_rfl) (by kernel_rfl) (by kernel_rfl) ⟨trivial, ⟨⟨4, rfl⟩, trivial⟩, ⟨⟨4, rfl⟩, trivial⟩⟩ (fun _ _ _ h => h) ?_
                    refine VA.un (i := 28) (listed' := LB 30 536870911) rfl rfl rfl (ltn rfl) (by kernel_rfl) (by kernel_rfl) (by kernel_rfl) (by kernel_rfl) ⟨trivial, ⟨⟨4, rfl⟩, trivial⟩, ⟨⟨4, rfl⟩, trivial⟩⟩ (fun _ _ _ h => h) ?_
                    refine VA.va (i := 29) (listed' := LB 30 1073741823) rfl (op_pick rfl rfl (ltn rfl)) rfl (by kernel_rfl) (by kernel_rfl) (by kernel_rfl) (by kernel_rfl) ⟨trivial, ⟨⟨4, rfl⟩, trivial⟩, ⟨⟨4, rfl⟩, trivial⟩⟩ (fun _ _ _ h => h) ?_
                    refine VA.done (by kernel_rfl) ?_
                    exact VN.meet0  [0, 1, 2, 3, 5] [0, 1, 2, 3] trivial ⟨rfl, ⟨rfl, rfl, rfl, rfl, rfl, rfl, rfl, rfl, rfl, rfl, rfl, rfl, rfl, rfl, rfl, rfl, trivial⟩, ⟨⟨0, rfl⟩, ⟨1, rfl⟩, ⟨2, rfl⟩, ⟨3, rfl⟩, trivial⟩, rfl, by decide, rfl, by decide⟩
                  intro _
                  refine VC.cond_t rfl ?_
                  refine VC.seq ?_
                  refine VC.region ?_
                  refine VL.va (op_assign rfl (ltn rfl)) rfl ?_
                  refine VL.done ?_
                  refine VN.then ?_
                  refine VC.ret ?_
                  refine VR.then ?_
                  cases h
              · rw [if_neg c6638] at h; cases h
            · rw [if_neg c6637] at h
              obtain rfl : b6636 = true := hb6636.symm.trans (bne_iff_ne.2 c6637)
              refine VC.join0 (⟨246, [(2, .int .i64 a2), (3, .string (a3.extract 0 ((mn (a3.size : Int) 66).toNat))), (4, .int .u64 a4), (5, .int .i64 a5), (6, .pointer (some ⟨g3, 0, none⟩)), (12, .bool false), (15, .pointer (some ⟨g768, 0, none⟩)), (16, .int .i64 t762), (17, .string t918), (18, .int .i64 t919), (19, .pointer (some ⟨g1435, 0, none⟩)), (20, .int .i64 t1429), (21, .pointer (some ⟨g1444, 0, none⟩)), (22, .int .i64 t1438), (23, .pointer (some ⟨g1445, 0, none⟩)), (106, .bool true)], [.row v765 1 (r760.map enc_str), .row v767 2 (r761.map enc32), .row v331 1 (r327.map enc_str), .row v333 2 (r328.map enc32)], [(g1445, 25, [.slice none 0 0, .slice none 0 0]), (g1444, 25, [v1441, v1443]), (g1435, 25, [v1432, v1434]), (g768, 25, [v765, v767]), (g3, 25, [v331, v333])], [(v1441, 9, 1, r1436.map enc_str), (v1443, 33, 2, r1437.map enc32), (v1432, 9, 1, r1427.map enc_str), (v1434, 33, 2, r1428.map enc32)]⟩) (True) ?_ ?_
              · refine VC.draw ⟨0, [], [], [(g376, 25, [v373, v375])], [(v373, 9, 1, r368.map enc_str)]⟩ (by kernel_rfl) rfl (by kernel_rfl) (n := 30) (listed := LB 30 0) ?_
                refine VA.va (i := 0) (listed' := LB 30 1) rfl (op_move rfl (ltn rfl)) rfl (by kernel_rfl) (by kernel_rfl) (by kernel_rfl) (by kernel_rfl) ⟨trivial, ⟨⟨4, rfl⟩, trivial⟩, ⟨⟨4, rfl⟩, trivial⟩⟩ (fun _ _ _ h => h) ?_
                refine VA.va (i := 1) (listed' := LB 30 3) rfl (op_cmp rfl rfl (congrArg some hb6634) (ltn rfl)) rfl (by kernel_rfl) (by kernel_rfl) (by kernel_rfl) (by kernel_rfl) ⟨trivial, ⟨⟨4, rfl⟩, trivial⟩, ⟨⟨4, rfl⟩, trivial⟩⟩ (fun _ _ _ h => h) ?_
                refine VA.va (i := 2) (listed' := LB 30 7) rfl (op_move rfl (ltn rfl)) rfl (by kernel_rfl) (by kernel_rfl) (by kernel_rfl) (by kernel_rfl) ⟨trivial, ⟨⟨4, rfl⟩, trivial⟩, ⟨⟨4, rfl⟩, trivial⟩⟩ (fun _ _ _ h => h) ?_
                refine VA.va (i := 3) (listed' := LB 30 15) rfl (op_fieldAddr FI25_0 rfl (add_at _ _ _) (ltn rfl)) rfl (by kernel_rfl) (by kernel_rfl) (by kernel_rfl) (by kernel_rfl) ⟨trivial, ⟨⟨4, rfl⟩, trivial⟩, ⟨⟨4, rfl⟩, trivial⟩⟩ (fun _ _ _ h => h) ?_
                refine VA.va (i := 4) (listed' := LB 30 31) rfl (op_load 0 1 rfl rfl TI22 rfl (by decide) (ltn rfl)) rfl (by kernel_rfl) (by kernel_rfl) (by kernel_rfl) (by kernel_rfl) ⟨trivial, ⟨⟨4, rfl⟩, trivial⟩, ⟨⟨4, rfl⟩, trivial⟩⟩ (fun _ _ _ h => h) ?_
                refine VA.va (i := 5) (listed' := LB 30 63) rfl (op_len_own (m := r368.length) 0 lenm Try.underlying22 rfl rfl (ltn rfl)) rfl (by kernel_rfl) (by kernel_rfl) (by kernel_rfl) (by kernel_rfl) ⟨trivial, ⟨⟨4, rfl⟩, trivial⟩, ⟨⟨4, rfl⟩, trivial⟩⟩ (fun _ _ _ h => h) ?_
                refine VA.va (i := 6) (listed' := LB 30 127) rfl (op_move rfl (ltn rfl)) rfl (by kernel_rfl) (by kernel_rfl) (by kernel_rfl) (by kernel_rfl) ⟨trivial, ⟨⟨4, rfl⟩, trivial⟩, ⟨⟨4, rfl⟩, trivial⟩⟩ (fun _ _ _ h => h) ?_
                refine VA.va (i := 7) (listed' := LB 30 255) rfl (op_cmp rfl rfl (congrArg some hb6636) (ltn rfl)) rfl (by kernel_rfl) (by kernel_rfl) (by kernel_rfl) (by kernel_rfl) ⟨trivial, ⟨⟨4, rfl⟩, trivial⟩, ⟨⟨4, rfl⟩, trivial⟩⟩ (fun _ _ _ h => h) ?_
                refine VA.va (i := 8) (listed' := LB 30 511) rfl (op_pick rfl rfl (ltn rfl)) rfl (by kernel_rfl) (by kernel_rfl) (by kernel_rfl) (by kernel_rfl) ⟨trivial, ⟨⟨4, rfl⟩, trivial⟩, ⟨⟨4, rfl⟩, trivial⟩⟩ (fun _ _ _ h => h) ?_
                refine VA.va (i := 9) (listed' := LB 30 1023) rfl (op_move rfl (ltn rfl)) rfl (by kernel_rfl) (by kernel_rfl) (by kernel_rfl) (by kernel_rfl) ⟨trivial, ⟨⟨4, rfl⟩, trivial⟩, ⟨⟨4, rfl⟩, trivial⟩⟩ (fun _ _ _ h => h) ?_
                refine VA.un (i := 10) (listed' := LB 30 2047) rfl rfl rfl (ltn rfl) (by kernel_rfl) (by kernel_rfl) (by kernel_rfl) (by kernel_rfl) ⟨trivial, ⟨⟨4, rfl⟩, trivial⟩, ⟨⟨4, rfl⟩, trivial⟩⟩ (fun _ _ _ h => h) ?_
                refine VA.un (i := 11) (listed' := LB 30 4095) rfl rfl rfl (ltn rfl) (by kernel_rfl) (by kernel_rfl) (by kernel_rfl) (by kernel_rfl) ⟨trivial, ⟨⟨4, rfl⟩, trivial⟩, ⟨⟨4, rfl⟩, trivial⟩⟩ (fun _ _ _ h => h) ?_
                refine VA.un (i := 12) (listed' := LB 30 8191) rfl rfl rfl (ltn rfl) (by kernel_rfl) (by kernel_rfl) (by kernel_rfl) (by kernel_rfl) ⟨trivial, ⟨⟨4, rfl⟩, trivial⟩, ⟨⟨4, rfl⟩, trivial⟩⟩ (fun _ _ _ h => h) ?_
                refine VA.un (i := 13) (listed' := LB 30 16383) rfl rfl rfl (ltn rfl) (by kernel_rfl) (by kernel_rfl) (by kernel_rfl) (by kernel_rfl) ⟨trivial, ⟨⟨4, rfl⟩, trivial⟩, ⟨⟨4, rfl⟩, trivial⟩⟩ (fun _ _ _ h => h) ?_
                refine VA.un (i := 14) (listed' := LB 30 32767) rfl rfl rfl (ltn rfl) (by kernel_rfl) (by kernel_rfl) (by kernel_rfl) (by kernel_rfl) ⟨trivial, ⟨⟨4, rfl⟩, trivial⟩, ⟨⟨4, rfl⟩, trivial⟩⟩ (fun _ _ _ h => h) ?_
                refine VA.un (i := 15) (listed' := LB 30 65535) rfl rfl rfl (ltn rfl) (by kernel_rfl) (by kernel_rfl) (by kernel_rfl) (by kernel_rfl) ⟨trivial, ⟨⟨4, rfl⟩, trivial⟩, ⟨⟨4, rfl⟩, trivial⟩⟩ (fun _ _ _ h => h) ?_
                refine VA.un (i := 16) (listed' := LB 30 131071) rfl rfl rfl (ltn rfl) (by kernel_rfl) (by kernel_rfl) (by kernel_rfl) (by kernel_rfl) ⟨trivial, ⟨⟨4, rfl⟩, trivial⟩, ⟨⟨4, rfl⟩, trivial⟩⟩ (fun _ _ _ h => h) ?_
                refine VA.un (i := 17) (listed' := LB 30 262143) rfl rfl rfl (ltn rfl) (by kernel_rfl) (by kernel_rfl) (by kernel_rfl) (by kernel_rfl) ⟨trivial, ⟨⟨4, rfl⟩, trivial⟩, ⟨⟨4, rfl⟩, trivial⟩⟩ (fun _ _ _ h => h) ?_
                refine VA.va (i := 18) (listed' := LB 30 524287) rfl (op_pick rfl rfl (ltn rfl)) rfl (by kernel_rfl) (by kernel_rfl) (by kernel_rfl) (by kernel_rfl) ⟨trivial, ⟨⟨4, rfl⟩, trivial⟩, ⟨⟨4, rfl⟩, trivial⟩⟩ (fun _ _ _ h => h) ?_
                refine VA.va (i := 19) (listed' := LB 30 1048575) rfl (op_move rfl (ltn rfl)) rfl (by kernel_rfl) (by kernel_rfl) (by kernel_rfl) (by kernel_rfl) ⟨trivial, ⟨⟨4, rfl⟩, trivial⟩, ⟨⟨4, rfl⟩, trivial⟩⟩ (fun _ _ _ h => h) ?_
                refine VA.un (i := 20) (listed' := LB 30 2097151) rfl rfl rfl (ltn rfl) (by kernel_rfl) (by kernel_rfl) (by kernel_rfl) (by kernel_rfl) ⟨trivial, ⟨⟨4, rfl⟩, trivial⟩, ⟨⟨4, rfl⟩, trivial⟩⟩ (fun _ _ _ h => h) ?_
                refine VA.un (i := 21) (listed' := LB 30 4194303) rfl rfl rfl (ltn rfl) (by kernel_rfl) (by kernel_rfl) (by kernel_rfl) (by kernel_rfl) ⟨trivial, ⟨⟨4, rfl⟩, trivial⟩, ⟨⟨4, rfl⟩, trivial⟩⟩ (fun _ _ _ h => h) ?_
                refine VA.un (i := 22) (listed' := LB 30 8388607) rfl rfl rfl (ltn rfl) (by kernel_rfl) (by kernel_rfl) (by kernel_rfl) (by kernel_rfl) ⟨trivial, ⟨⟨4, rfl⟩, trivial⟩, ⟨⟨4, rfl⟩, trivial⟩⟩ (fun _ _ _ h => h) ?_
                refine VA.un (i := 23) (listed' := LB 30 16777215) rfl rfl rfl (ltn rfl) (by kernel_rfl) (by kernel_rfl) (by kernel_rfl) (by kernel_rfl) ⟨trivial, ⟨⟨4, rfl⟩, trivial⟩, ⟨⟨4, rfl⟩, trivial⟩⟩ (fun _ _ _ h => h) ?_
                refine VA.va (i := 24) (listed' := LB 30 33554431) rfl (op_pick rfl rfl (ltn rfl)) rfl (by kernel_rfl) (by kernel_rfl) (by kernel_rfl) (by kernel_rfl) ⟨trivial, ⟨⟨4, rfl⟩, trivial⟩, ⟨⟨4, rfl⟩, trivial⟩⟩ (fun _ _ _ h => h) ?_
                refine VA.va (i := 25) (listed' := LB 30 67108863) rfl (op_move rfl (ltn rfl)) rfl (by kernel_rfl) (by kernel_rfl) (by kernel_rfl) (by kernel_rfl) ⟨trivial, ⟨⟨4, rfl⟩, trivial⟩, ⟨⟨4, rfl⟩, trivial⟩⟩ (fun _ _ _ h => h) ?_
                refine VA.un (i := 26) (listed' := LB 30 134217727) rfl rfl rfl (ltn rfl) (by kernel_rfl) (by kernel_rfl) (by kernel_rfl) (by kernel_rfl) ⟨trivial, ⟨⟨4, rfl⟩, trivial⟩, ⟨⟨4, rfl⟩, trivial⟩⟩ (fun _ _ _ h => h) ?_
                refine VA.un (i := 27) (listed' := LB 30 268435455) rfl rfl rfl (ltn rfl) (by kernel_rfl) (by kernel_rfl) (by kernel_rfl) (by kernel_rfl) ⟨trivial, ⟨⟨4, rfl⟩, trivial⟩, ⟨⟨4, rfl⟩, trivial⟩⟩ (fun _ _ _ h => h) ?_
                refine VA.un (i := 28) (listed' := LB 30 536870911) rfl rfl rfl (ltn rfl) (by kernel_rfl) (by kernel_rfl) (by kernel_rfl) (by kernel_rfl) ⟨trivial, ⟨⟨4, rfl⟩, trivial⟩, ⟨⟨4, rfl⟩, trivial⟩⟩ (fun _ _ _ h => h) ?_
                refine VA.va (i := 29) (listed' := LB 30 1073741823) rfl (op_pick rfl rfl (ltn rfl)) rfl (by kernel_rfl) (by kernel_rfl) (by kernel_rfl) (by kernel_rfl) ⟨trivial, ⟨⟨4, rfl⟩, trivial⟩, ⟨⟨4, rfl⟩, trivial⟩⟩ (fun _ _ _ h => h) ?_
                refine VA.done (by kernel_rfl) ?_
                exact VN.meet0  [0, 1, 2, 3, 5] [0, 1, 2, 3] trivial ⟨rfl, ⟨rfl, rfl, rfl, rfl, rfl, rfl, rfl, rfl, rfl, rfl, rfl, rfl, rfl, rfl, rfl, rfl, trivial⟩, ⟨⟨0, rfl⟩, ⟨1, rfl⟩, ⟨2, rfl⟩, ⟨3, rfl⟩, trivial⟩, rfl, by decide, rfl, by decide⟩
              intro _
              refine VC.cond_t rfl ?_
              refine VC.seq ?_
              refine VC.region ?_
              refine VL.va (op_assign rfl (ltn rfl)) rfl ?_
              refine VL.done ?_
              refine VN.then ?_
              refine VC.ret ?_
              refine VR.then ?_
              cases h
          · rw [if_neg c6635] at h
            obtain rfl : b6634 = true := hb6634.symm.trans (bne_iff_ne.2 c6635)
            refine VC.join0 (⟨246, [(2, .int .i64 a2), (3, .string (a3.extract 0 ((mn (a3.size : Int) 66).toNat))), (4, .int .u64 a4), (5, .int .i64 a5), (6, .pointer (some ⟨g3, 0, none⟩)), (12, .bool false), (15, .pointer (some ⟨g768, 0, none⟩)), (16, .int .i64 t762), (17, .string t918), (18, .int .i64 t919), (19, .pointer (some ⟨g1435, 0, none⟩)), (20, .int .i64 t1429), (21, .pointer (some ⟨g1444, 0, none⟩)), (22, .int .i64 t1438), (23, .pointer (some ⟨g1445, 0, none⟩)), (106, .bool true)], [.row v765 1 (r760.map enc_str), .row v767 2 (r761.map enc32), .row v331 1 (r327.map enc_str), .row v333 2 (r328.map enc32)], [(g1445, 25, [.slice none 0 0, .slice none 0 0]), (g1444, 25, [v1441, v1443]), (g1435, 25, [v1432, v1434]), (g768, 25, [v765, v767]), (g3, 25, [v331, v333])], [(v1441, 9, 1, r1436.map enc_str), (v1443, 33, 2, r1437.map enc32), (v1432, 9, 1, r1427.map enc_str), (v1434, 33, 2, r1428.map enc32)]⟩) (True) ?_ ?_
            · refine VC.draw ⟨0, [], [], [], []⟩ (by kernel_rfl) rfl (by kernel_rfl) (n := 30) (listed := LB 30 0) ?_
              refine VA.va (i := 0) (listed' := LB 30 1) rfl (op_move rfl (ltn rfl)) rfl (by kernel_rfl) (by kernel_rfl) (by kernel_rfl) (by kernel_rfl) ⟨trivial, trivial, trivial⟩ (fun _ _ _ h => h) ?_
              refine VA.va (i := 1) (listed' := LB 30 3) rfl (op_cmp rfl rfl (congrArg some hb6634) (ltn rfl)) rfl (by kernel_rfl) (by kernel_rfl) (by kernel_rfl) (by kernel_rfl) ⟨trivial, trivial, trivial⟩ (fun _ _ _ h => h) ?_
              refine VA.va (i := 2) (listed' := LB 30 7) rfl (op_move rfl (ltn rfl)) rfl (by kernel_rfl) (by kernel_rfl) (by kernel_rfl) (by kernel_rfl) ⟨trivial, trivial, trivial⟩ (fun _ _ _ h => h) ?_
              refine VA.un (i := 3) (listed' := LB 30 15) rfl rfl rfl (ltn rfl) (by kernel_rfl) (by kernel_rfl) (by kernel_rfl) (by kernel_rfl) ⟨trivial, trivial, trivial⟩ (fun _ _ _ h => h) ?_
              refine VA.un (i := 4) (listed' := LB 30 31) rfl rfl rfl (ltn rfl) (by kernel_rfl) (by kernel_rfl) (by kernel_rfl) (by kernel_rfl) ⟨trivial, trivial, trivial⟩ (fun _ _ _ h => h) ?_
              refine VA.un (i := 5) (listed' := LB 30 63) rfl rfl rfl (ltn rfl) (by kernel_rfl) (by kernel_rfl) (by kernel_rfl) (by kernel_rfl) ⟨trivial, trivial, trivial⟩ (fun _ _ _ h => h) ?_
              refine VA.un (i := 6) (listed' := LB 30 127) rfl rfl rfl (ltn rfl) (by kernel_rfl) (by kernel_rfl) (by kernel_rfl) (by kernel_rfl) ⟨trivial, trivial, trivial⟩ (fun _ _ _ h => h) ?_
              refine VA.un (i := 7) (listed' := LB 30 255) rfl rfl rfl (ltn rfl) (by kernel_rfl) (by kernel_rfl) (by kernel_rfl) (by kernel_rfl) ⟨trivial, trivial, trivial⟩ (fun _ _ _ h => h) ?_
              refine VA.va (i := 8) (listed' := LB 30 511) rfl (op_pick rfl rfl (ltn rfl)) rfl (by kernel_rfl) (by kernel_rfl) (by kernel_rfl) (by kernel_rfl) ⟨trivial, trivial, trivial⟩ (fun _ _ _ h => h) ?_
              refine VA.va (i := 9) (listed' := LB 30 1023) rfl (op_move rfl (ltn rfl)) rfl (by kernel_rfl) (by kernel_rfl) (by kernel_rfl) (by kernel_rfl) ⟨trivial, trivial, trivial⟩ (fun _ _ _ h => h) ?_
              refine VA.un (i := 10) (listed' := LB 30 2047) rfl rfl rfl (ltn rfl) (by kernel_rfl) (by kernel_rfl) (by kernel_rfl) (by kernel_rfl) ⟨trivial, trivial, trivial⟩ (fun _ _ _ h => h) ?_
              refine VA.un (i := 11) (listed' := LB 30 4095) rfl rfl rfl (ltn rfl) (by kernel_rfl) (by kernel_rfl) (by kernel_rfl) (by kernel_rfl) ⟨trivial, trivial, trivial⟩ (fun _ _ _ h => h) ?_
              refine VA.un (i := 12) (listed' := LB 30 8191) rfl rfl rfl (ltn rfl) (by kernel_rfl) (by kernel_rfl) (by kernel_rfl) (by kernel_rfl) ⟨trivial, trivial, trivial⟩ (fun _ _ _ h => h) ?_
              refine VA.un (i := 13) (listed' := LB 30 16383) rfl rfl rfl (ltn rfl) (by kernel_rfl) (by kernel_rfl) (by kernel_rfl) (by kernel_rfl) ⟨trivial, trivial, trivial⟩ (fun _ _ _ h => h) ?_
              refine VA.un (i := 14) (listed' := LB 30 32767) rfl rfl rfl (ltn rfl) (by kernel_rfl) (by kernel_rfl) (by kernel_rfl) (by kernel_rfl) ⟨trivial, trivial, trivial⟩ (fun _ _ _ h => h) ?_
              refine VA.un (i := 15) (listed' := LB 30 65535) rfl rfl rfl (ltn rfl) (by kernel_rfl) (by kernel_rfl) (by kernel_rfl) (by kernel_rfl) ⟨trivial, trivial, trivial⟩ (fun _ _ _ h => h) ?_
              refine VA.un (i := 16) (listed' := LB 30 131071) rfl rfl rfl (ltn rfl) (by kernel_rfl) (by kernel_rfl) (by kernel_rfl) (by kernel_rfl) ⟨trivial, trivial, trivial⟩ (fun _ _ _ h => h) ?_
              refine VA.un (i := 17) (listed' := LB 30 262143) rfl rfl rfl (ltn rfl) (by kernel_rfl) (by kernel_rfl) (by kernel_rfl) (by kernel_rfl) ⟨trivial, trivial, trivial⟩ (fun _ _ _ h => h) ?_
              refine VA.va (i := 18) (listed' := LB 30 524287) rfl (op_pick rfl rfl (ltn rfl)) rfl (by kernel_rfl) (by kernel_rfl) (by kernel_rfl) (by kernel_rfl) ⟨trivial, trivial, trivial⟩ (fun _ _ _ h => h) ?_
              refine VA.va (i := 19) (listed' := LB 30 1048575) rfl (op_move rfl (ltn rfl)) rfl (by kernel_rfl) (by kernel_rfl) (by kernel_rfl) (by kernel_rfl) ⟨trivial, trivial, trivial⟩ (fun _ _ _ h => h) ?_
              refine VA.un (i := 20) (listed' := LB 30 2097151) rfl rfl rfl (ltn rfl) (by kernel_rfl) (by kernel_rfl) (by kernel_rfl) (by kernel_rfl) ⟨trivial, trivial, trivial⟩ (fun _ _ _ h => h) ?_
              refine VA.un (i := 21) (listed' := LB 30 4194303) rfl rfl rfl (ltn rfl) (by kernel_rfl) (by kernel_rfl) (by kernel_rfl) (by kernel_rfl) ⟨trivial, trivial, trivial⟩ (fun _ _ _ h => h) ?_
              refine VA.un (i := 22) (listed' := LB 30 8388607) rfl rfl rfl (ltn rfl) (by kernel_rfl) (by kernel_rfl) (by kernel_rfl) (by kernel_rfl) ⟨trivial, trivial, trivial⟩ (fun _ _ _ h => h) ?_
              refine VA.un (i := 23) (listed' := LB 30 16777215) rfl rfl rfl (ltn rfl) (by kernel_rfl) (by kernel_rfl) (by kernel_rfl) (by kernel_rfl) ⟨trivial, trivial, trivial⟩ (fun _ _ _ h => h) ?_
              refine VA.va (i := 24) (listed' := LB 30 33554431) rfl (op_pick rfl rfl (ltn rfl)) rfl (by kernel_rfl) (by kernel_rfl) (by kernel_rfl) (by kernel_rfl) ⟨trivial, trivial, trivial⟩ (fun _ _ _ h => h) ?_
              refine VA.va (i := 25) (listed' := LB 30 67108863) rfl (op_move rfl (ltn rfl)) rfl (by kernel_rfl) (by kernel_rfl) (by kernel_rfl) (by kernel_rfl) ⟨trivial, trivial, trivial⟩ (fun _ _ _ h => h) ?_
              refine VA.un (i := 26) (listed' := LB 30 134217727) rfl rfl rfl (ltn rfl) (by kernel_rfl) (by kernel_rfl) (by kernel_rfl) (by kernel_rfl) ⟨trivial, trivial, trivial⟩ (fun _ _ _ h => h) ?_
              refine VA.un (i := 27) (listed' := LB 30 268435455) rfl rfl rfl (ltn rfl) (by kernel_rfl) (by kernel_rfl) (by kernel_rfl) (by kernel_rfl) ⟨trivial, trivial, trivial⟩ (fun _ _ _ h => h) ?_
              refine VA.un (i := 28) (listed' := LB 30 536870911) rfl rfl rfl (ltn rfl) (by kernel_rfl) (by kernel_rfl) (by kernel_rfl) (by kernel_rfl) ⟨trivial, trivial, trivial⟩ (fun _ _ _ h => h) ?_
              refine VA.va (i := 29) (listed' := LB 30 1073741823) rfl (op_pick rfl rfl (ltn rfl)) rfl (by kernel_rfl) (by kernel_rfl) (by kernel_rfl) (by kernel_rfl) ⟨trivial, trivial, trivial⟩ (fun _ _ _ h => h) ?_
              refine VA.done (by kernel_rfl) ?_
              exact VN.meet0  [0, 1, 2, 3, 5] [0, 1, 2, 3] trivial ⟨rfl, ⟨rfl, rfl, rfl, rfl, rfl, rfl, rfl, rfl, rfl, rfl, rfl, rfl, rfl, rfl, rfl, rfl, trivial⟩, ⟨⟨0, rfl⟩, ⟨1, rfl⟩, ⟨2, rfl⟩, ⟨3, rfl⟩, trivial⟩, rfl, by decide, rfl, by decide⟩
            intro _
            refine VC.cond_t rfl ?_
            refine VC.seq ?_
            refine VC.region ?_
            refine VL.va (op_assign rfl (ltn rfl)) rfl ?_
            refine VL.done ?_
            refine VN.then ?_
            refine VC.ret ?_
            refine VR.then ?_
            cases h
      clear h
      intro  h
      unfold tarrylaw03_DiskWorks.j7 at h
      refine VC.seq ?_
      replace h := Option.bind_eq_some_iff.1 h
      obtain ⟨t6658, hA6659, h⟩ := h
      replace h := Option.bind_eq_some_iff.1 h
      obtain ⟨t6660, hA6661, h⟩ := h
      refine VC.letter ((!(t6658 == t6660))) fun b6662 hb6662 => ?_
      by_cases c6663 : t6658 = t6660
      · rw [if_pos c6663] at h
        obtain rfl : b6662 = false := hb6662.symm.trans (by rw [c6663]; simp)
        replace h := Option.bind_eq_some_iff.1 h
        obtain ⟨t6664, hA6665, h⟩ := h
        by_cases c6666 : t6664 = true
        · rw [if_pos c6666] at h
          obtain rfl := c6666
          refine VC.join0 (⟨246, [(2, .int .i64 a2), (3, .string (a3.extract 0 ((mn (a3.size : Int) 66).toNat))), (4, .int .u64 a4), (5, .int .i64 a5), (6, .pointer (some ⟨g3, 0, none⟩)), (12, .bool false), (15, .pointer (some ⟨g768, 0, none⟩)), (16, .int .i64 t762), (17, .string t918), (18, .int .i64 t919), (19, .pointer (some ⟨g1435, 0, none⟩)), (20, .int .i64 t1429), (21, .pointer (some ⟨g1444, 0, none⟩)), (22, .int .i64 t1438), (23, .pointer (some ⟨g1445, 0, none⟩)), (115, .bool false)], [.row v765 1 (r760.map enc_str), .row v767 2 (r761.map enc32), .row v331 1 (r327.map enc_str), .row v333 2 (r328.map enc32)], [(g1445, 25, [.slice none 0 0, .slice none 0 0]), (g1444, 25, [v1441, v1443]), (g1435, 25, [v1432, v1434]), (g768, 25, [v765, v767]), (g3, 25, [v331, v333])], [(v1441, 9, 1, r1436.map enc_str), (v1443, 33, 2, r1437.map enc32), (v1432, 9, 1, r1427.map enc_str), (v1434, 33, 2, r1428.map enc32)]⟩) (True) ?_ ?_
          · refine VC.draw ⟨0, [], [], [(g3, 25, [v331, v333])], []⟩ (by kernel_rfl) rfl (by kernel_rfl) (n := 9) (listed := LB 9 0) ?_
            refine VA.va (i := 0) (listed' := LB 9 1) rfl (op_load 0 2 rfl rfl TI25 rfl (fun h => absurd h (by decide)) (ltn rfl)) rfl (by kernel_rfl) (by kernel_rfl) (by kernel_rfl) (by kernel_rfl) ⟨trivial, ⟨⟨4, rfl⟩, trivial⟩, trivial⟩ (fun _ _ _ h => h) ?_
            refine VA.va (i := 2) (listed' := LB 9 5) rfl (op_load 0 2 rfl rfl TI25 rfl (fun h => absurd h (by decide)) (ltn rfl)) rfl (by kernel_rfl) (by kernel_rfl) (by kernel_rfl) (by kernel_rfl) ⟨trivial, ⟨⟨4, rfl⟩, trivial⟩, trivial⟩ (fun _ _ _ h => h) ?_
            refine VA.oneC (i := 1) (listed' := LB 9 7) (by kernel_rfl) rfl (o_call0 FO16 (disk_Right.ok k r327 r328 v331 v333 t6658 hA6659) rfl rfl (ltn rfl) (All_of (.cons (List.mem_of_getElem? (i := 2) rfl) (.cons (List.mem_of_getElem? (i := 3) rfl) .nil)))) rfl (by kernel_rfl) ?_
            rintro _ _ _ ⟨rfl, rfl, rfl⟩
            refine ⟨⟨trivial, ⟨⟨4, rfl⟩, trivial⟩, trivial⟩, ?_⟩
            refine VA.oneC (i := 3) (listed' := LB 9 15) (by kernel_rfl) rfl (o_call0 FO15 (tarryref03_Right.ok k r327 r328 v331 v333 t6660 hA6661) rfl rfl (ltn rfl) (All_of (.cons (List.mem_of_getElem? (i := 2) rfl) (.cons (List.mem_of_getElem? (i := 3) rfl) .nil)))) rfl (by kernel_rfl) ?_
            rintro _ _ _ ⟨rfl, rfl, rfl⟩
            refine ⟨⟨trivial, ⟨⟨4, rfl⟩, trivial⟩, trivial⟩, ?_⟩
            refine VA.va (i := 4) (listed' := LB 9 31) rfl (op_eqb Try.underlying4 rfl rfl (congrArg some hb6662) (ltn rfl)) rfl (by kernel_rfl) (by kernel_rfl) (by kernel_rfl) (by kernel_rfl) ⟨trivial, ⟨⟨4, rfl⟩, trivial⟩, trivial⟩ (fun _ _ _ h => h) ?_
            refine VA.va (i := 5) (listed' := LB 9 63) rfl (op_move rfl (ltn rfl)) rfl (by kernel_rfl) (by kernel_rfl) (by kernel_rfl) (by kernel_rfl) ⟨trivial, ⟨⟨4, rfl⟩, trivial⟩, trivial⟩ (fun _ _ _ h => h) ?_
            refine VA.oneC (i := 6) (listed' := LB 9 127) (by kernel_rfl) rfl (o_call0 FO8 (tarrylaw03_alive.ok k true hA6665) rfl rfl (ltn rfl) (All_of .nil)) rfl (by kernel_rfl) ?_
            rintro _ _ _ ⟨rfl, rfl, rfl⟩
            refine ⟨⟨trivial, ⟨⟨4, rfl⟩, trivial⟩, trivial⟩, ?_⟩
            refine VA.va (i := 7) (listed' := LB 9 255) rfl (op_not rfl rfl (ltn rfl)) rfl (by kernel_rfl) (by kernel_rfl) (by kernel_rfl) (by kernel_rfl) ⟨trivial, ⟨⟨4, rfl⟩, trivial⟩, trivial⟩ (fun _ _ _ h => h) ?_
            refine VA.va (i := 8) (listed' := LB 9 511) rfl (op_pick rfl rfl (ltn rfl)) rfl (by kernel_rfl) (by kernel_rfl) (by kernel_rfl) (by kernel_rfl) ⟨trivial, ⟨⟨4, rfl⟩, trivial⟩, trivial⟩ (fun _ _ _ h => h) ?_
            refine VA.done (by kernel_rfl) ?_
            exact VN.meet0  [0, 1, 2, 3, 4] [0, 1, 2, 3] trivial ⟨rfl, ⟨rfl, rfl, rfl, rfl, rfl, rfl, rfl, rfl, rfl, rfl, rfl, rfl, rfl, rfl, rfl, rfl, trivial⟩, ⟨⟨0, rfl⟩, ⟨1, rfl⟩, ⟨2, rfl⟩, ⟨3, rfl⟩, trivial⟩, rfl, by decide, rfl, by decide⟩
          intro _
          refine VC.cond_f rfl ?_
          refine VC.skip ?_
          refine VN.then ?_
          refine VC.seq ?_
          refine VC.join1 (fun (q7018 : Bool) => ⟨246, [(2, .int .i64 a2), (3, .string (a3.extract 0 ((mn (a3.size : Int) 66).toNat))), (4, .int .u64 a4), (5, .int .i64 a5), (6, .pointer (some ⟨g3, 0, none⟩)), (12, .bool false), (15, .pointer (some ⟨g768, 0, none⟩)), (16, .int .i64 t762), (17, .string t918), (18, .int .i64 t919), (19, .pointer (some ⟨g1435, 0, none⟩)), (20, .int .i64 t1429), (21, .pointer (some ⟨g1444, 0, none⟩)), (22, .int .i64 t1438), (23, .pointer (some ⟨g1445, 0, none⟩)), (118, .bool q7018)], [.row v765 1 (r760.map enc_str), .row v767 2 (r761.map enc32), .row v331 1 (r327.map enc_str), .row v333 2 (r328.map enc32)], [(g1445, 25, [.slice none 0 0, .slice none 0 0]), (g1444, 25, [v1441, v1443]), (g1435, 25, [v1432, v1434]), (g768, 25, [v765, v767]), (g3, 25, [v331, v333])], [(v1441, 9, 1, r1436.map enc_str), (v1443, 33, 2, r1437.map enc32), (v1432, 9, 1, r1427.map enc_str), (v1434, 33, 2, r1428.map enc32)]⟩) (fun (q7018 : Bool) => tarrylaw03_DiskWorks.j9 k a2 a3 a4 a5 r1427 r1428 r1436 r1437 r327 r328 r760 r761 t1429 t1438 t762 t918 t919 q7018 = some r1) ?_ ?_
          · refine VC.region ?_
            refine VL.va (op_load 4 2 rfl rfl TI25 rfl (fun h => absurd h (by decide)) (ltn rfl)) rfl ?_
            replace h := Option.bind_eq_some_iff.1 h
            obtain ⟨t7015, hA7016, h⟩ := h
            refine VL.sC (o_call0 FO15 (tarryref03_Right.ok k r327 r328 v331 v333 t7015 hA7016) rfl rfl (ltn rfl) (All_of (.cons (List.mem_of_getElem? (i := 2) rfl) (.cons (List.mem_of_getElem? (i := 3) rfl) .nil)))) rfl ?_
            rintro _ _ _ ⟨rfl, rfl, rfl⟩
            by_cases c7017 : t7015 = true
            · rw [if_pos c7017] at h
              obtain rfl := c7017
              refine VL.va (op_not rfl rfl (ltn rfl)) rfl ?_
              refine VL.done ?_
              refine VN.meet1 false [0, 1, 2, 3, 4] [0, 1, 2, 3] h ⟨rfl, ⟨rfl, rfl, rfl, rfl, rfl, rfl, rfl, rfl, rfl, rfl, rfl, rfl, rfl, rfl, rfl, rfl, trivial⟩, ⟨⟨0, rfl⟩, ⟨1, rfl⟩, ⟨2, rfl⟩, ⟨3, rfl⟩, trivial⟩, rfl, by decide, rfl, by decide⟩
            · rw [if_neg c7017] at h
              obtain rfl := Bool.eq_false_iff.2 c7017
              refine VL.va (op_not rfl rfl (ltn rfl)) rfl ?_
              refine VL.done ?_
              refine VN.meet1 true [0, 1, 2, 3, 4] [0, 1, 2, 3] h ⟨rfl, ⟨rfl, rfl, rfl, rfl, rfl, rfl, rfl, rfl, rfl, rfl, rfl, rfl, rfl, rfl, rfl, rfl, trivial⟩, ⟨⟨0, rfl⟩, ⟨1, rfl⟩, ⟨2, rfl⟩, ⟨3, rfl⟩, trivial⟩, rfl, by decide, rfl, by decide⟩
          clear h
          intro q7018 h
          unfold tarrylaw03_DiskWorks.j9 at h
          by_cases c7019 : q7018 = true
          · rw [if_pos c7019] at h
            obtain rfl := c7019
            refine VC.cond_t rfl ?_
            refine VC.seq ?_
            refine VC.region ?_
            refine VL.va (op_move rfl (ltn rfl)) rfl ?_
            refine VL.letter ((t762 == 1)) fun b7044 hb7044 => ?_
            refine VL.va (op_cmp rfl rfl (congrArg some hb7044) (ltn rfl)) rfl ?_
            refine VL.va (op_move rfl (ltn rfl)) rfl ?_
            by_cases c7045 : t762 = 1
            · rw [if_pos c7045] at h
              obtain rfl : b7044 = true := hb7044.symm.trans (beq_iff_eq.2 c7045)
              refine VL.va (op_move rfl (ltn rfl)) rfl ?_
              refine VL.letter ((t919 == 1)) fun b7046 hb7046 => ?_
              refine VL.va (op_cmp rfl rfl (congrArg some hb7046) (ltn rfl)) rfl ?_
              refine VL.va (op_pick rfl rfl (ltn rfl)) rfl ?_
              refine VL.va (op_move rfl (ltn rfl)) rfl ?_
              by_cases c7047 : t919 = 1
              · rw [if_pos c7047] at h
                obtain rfl : b7046 = true := hb7046.symm.trans (beq_iff_eq.2 c7047)
                refine VL.va (op_move rfl (ltn rfl)) rfl ?_
                refine VL.letter ((t1429 == 1)) fun b7048 hb7048 => ?_
                refine VL.va (op_cmp rfl rfl (congrArg some hb7048) (ltn rfl)) rfl ?_
                refine VL.va (op_pick rfl rfl (ltn rfl)) rfl ?_
                refine VL.va (op_move rfl (ltn rfl)) rfl ?_
                by_cases c7049 : t1429 = 1
                · rw [if_pos c7049] at h
                  obtain rfl : b7048 = true := hb7048.symm.trans (beq_iff_eq.2 c7049)
                  refine VL.va (op_move rfl (ltn rfl)) rfl ?_
                  refine VL.letter ((t1438 == 1)) fun b7050 hb7050 => ?_
                  refine VL.va (op_cmp rfl rfl (congrArg some hb7050) (ltn rfl)) rfl ?_
                  refine VL.va (op_pick rfl rfl (ltn rfl)) rfl ?_
                  refine VL.va (op_move rfl (ltn rfl)) rfl ?_
                  by_cases c7051 : t1438 = 1
                  · rw [if_pos c7051] at h
                    obtain rfl : b7050 = true := hb7050.symm.trans (beq_iff_eq.2 c7051)
                    refine VL.va (op_move rfl (ltn rfl)) rfl ?_
                    refine VL.letter ((t918 == (⟨#[]⟩ : ByteArray))) fun b7052 hb7052 => ?_
                    refine VL.va (op_cmps rfl rfl (congrArg some hb7052) (ltn rfl)) rfl ?_
                    refine VL.va (op_pick rfl rfl (ltn rfl)) rfl ?_
                    refine VL.va (op_move rfl (ltn rfl)) rfl ?_
                    by_cases c7053 : (t918 == (⟨#[]⟩ : ByteArray)) = true
                    · rw [if_pos c7053] at h
                      obtain rfl : b7052 = true := hb7052.symm.trans (c7053)
                      refine VL.va (op_load 3 2 rfl rfl TI25 rfl (fun h => absurd h (by decide)) (ltn rfl)) rfl ?_
                      refine VL.va (op_load 0 2 rfl rfl TI25 rfl (fun h => absurd h (by decide)) (ltn rfl)) rfl ?_
                      refine VL.nilFact' 1 ?_
                      refine VL.nilFact' 2 ?_
                      replace h := Option.bind_eq_some_iff.1 h
                      obtain ⟨t7056, hA7057, h⟩ := h
                      refine VL.sC (o_call0 FO13 (tarryref03_Like.ok k r760 r761 [] [] v765 v767 (.slice none 0 0) (.slice none 0 0) t7056 hA7057) rfl rfl (ltn rfl) (All_of (.cons (List.mem_of_getElem? (i := 2) rfl) (.cons (List.mem_of_getElem? (i := 3) rfl) (.cons (List.mem_of_getElem? (i := 1) rfl) (.cons (List.mem_of_getElem? (i := 0) rfl) .nil)))))) rfl ?_
                      rintro _ _ _ ⟨rfl, rfl, rfl⟩
                      refine VL.va (op_pick rfl rfl (ltn rfl)) rfl ?_
                      refine VL.va (op_move rfl (ltn rfl)) rfl ?_
                      by_cases c7058 : t7056 = true
                      · rw [if_pos c7058] at h
                        obtain rfl := c7058
                        refine VL.va (op_load 2 2 rfl rfl TI25 rfl (fun h => absurd h (by decide)) (ltn rfl)) rfl ?_
                        refine VL.va (op_load 0 2 rfl rfl TI25 rfl (fun h => absurd h (by decide)) (ltn rfl)) rfl ?_
                        refine VL.nilFact' 1 ?_
                        refine VL.nilFact' 2 ?_
                        replace h := Option.bind_eq_some_iff.1 h
                        obtain ⟨t7061, hA7062, h⟩ := h
                        refine VL.sC (o_call_b0 FO13 (tarryref03_Like.ok k r1427 r1428 [] [] v1432 v1434 (.slice none 0 0) (.slice none 0 0) t7061 hA7062) rfl rfl (ltn rfl) (All_of (.cons (.inr (.inl ⟨_, List.mem_of_getElem? (i := 2) rfl, rfl⟩)) (.cons (.inr (.inl ⟨_, List.mem_of_getElem? (i := 3) rfl, rfl⟩)) (.cons (.inl (List.mem_of_getElem? (i := 1) rfl)) (.cons (.inl (List.mem_of_getElem? (i := 0) rfl)) .nil))))) (by rintro _ _ _ ⟨rfl, rfl, rfl⟩; rfl)) rfl ?_
                        rintro _ _ _ ⟨rfl, rfl, rfl⟩
                        refine VL.va (op_pick rfl rfl (ltn rfl)) rfl ?_
                        refine VL.va (op_move rfl (ltn rfl)) rfl ?_
                        by_cases c7063 : t7061 = true
                        · rw [if_pos c7063] at h
                          obtain rfl := c7063
                          refine VL.va (op_load 1 2 rfl rfl TI25 rfl (fun h => absurd h (by decide)) (ltn rfl)) rfl ?_
                          refine VL.va (op_load 0 2 rfl rfl TI25 rfl (fun h => absurd h (by decide)) (ltn rfl)) rfl ?_
                          refine VL.nilFact' 1 ?_
                          refine VL.nilFact' 2 ?_
                          replace h := Option.bind_eq_some_iff.1 h
                          obtain ⟨t7066, hA7067, h⟩ := h
                          refine VL.sC (o_call_b0 FO13 (tarryref03_Like.ok k r1436 r1437 [] [] v1441 v1443 (.slice none 0 0) (.slice none 0 0) t7066 hA7067) rfl rfl (ltn rfl) (All_of (.cons (.inr (.inl ⟨_, List.mem_of_getElem? (i := 0) rfl, rfl⟩)) (.cons (.inr (.inl ⟨_, List.mem_of_getElem? (i := 1) rfl, rfl⟩)) (.cons (.inl (List.mem_of_getElem? (i := 1) rfl)) (.cons (.inl (List.mem_of_getElem? (i := 0) rfl)) .nil))))) (by rintro _ _ _ ⟨rfl, rfl, rfl⟩; rfl)) rfl ?_
                          rintro _ _ _ ⟨rfl, rfl, rfl⟩
                          refine VL.va (op_pick rfl rfl (ltn rfl)) rfl ?_
                          refine VL.va (op_assign rfl (ltn rfl)) rfl ?_
                          refine VL.done ?_
                          refine VN.then ?_
                          refine VC.ret ?_
                          refine VR.then ?_
                          obtain rfl := Option.some.inj h
                          exact VR.fn (rs := [.tmp 12]) [] [] [] rfl (.tmp rfl .nil) ⟨rfl, rfl, rfl⟩ trivial rfl (by decide)
                        · rw [if_neg c7063] at h
                          obtain rfl := Bool.eq_false_iff.2 c7063
                          refine VL.un rfl rfl (ltn rfl) ?_
                          refine VL.un rfl rfl (ltn rfl) ?_
                          refine VL.un rfl rfl (ltn rfl) ?_
                          refine VL.va (op_pick rfl rfl (ltn rfl)) rfl ?_
                          refine VL.va (op_assign rfl (ltn rfl)) rfl ?_
                          refine VL.done ?_
                          refine VN.then ?_
                          refine VC.ret ?_
                          refine VR.then ?_
                          cases h
                      · rw [if_neg c7058] at h
                        obtain rfl := Bool.eq_false_iff.2 c7058
                        refine VL.un rfl rfl (ltn rfl) ?_
                        refine VL.un rfl rfl (ltn rfl) ?_
                        refine VL.un rfl rfl (ltn rfl) ?_
                        refine VL.va (op_pick rfl rfl (ltn rfl)) rfl ?_
                        refine VL.va (op_move rfl (ltn rfl)) rfl ?_
                        refine VL.un rfl rfl (ltn rfl) ?_
                        refine VL.un rfl rfl (ltn rfl) ?_
                        refine VL.un rfl rfl (ltn rfl) ?_
                        refine VL.va (op_pick rfl rfl (ltn rfl)) rfl ?_
                        refine VL.va (op_assign rfl (ltn rfl)) rfl ?_
                        refine VL.done ?_
                        refine VN.then ?_
                        refine VC.ret ?_
                        refine VR.then ?_
                        cases h
                    · rw [if_neg c7053] at h
                      obtain rfl : b7052 = false := hb7052.symm.trans (Bool.eq_false_iff.2 c7053)
                      refine VL.un rfl rfl (ltn rfl) ?_
                      refine VL.un rfl rfl (ltn rfl) ?_
                      refine VL.un rfl rfl (ltn rfl) ?_
                      refine VL.va (op_pick rfl rfl (ltn rfl)) rfl ?_
                      refine VL.va (op_move rfl (ltn rfl)) rfl ?_
                      refine VL.un rfl rfl (ltn rfl) ?_
                      refine VL.un rfl rfl (ltn rfl) ?_
                      refine VL.un rfl rfl (ltn rfl) ?_
                      refine VL.va (op_pick rfl rfl (ltn rfl)) rfl ?_
                      refine VL.va (op_move rfl (ltn rfl)) rfl ?_
                      refine VL.un rfl rfl (ltn rfl) ?_
                      refine VL.un rfl rfl (ltn rfl) ?_
                      refine VL.un rfl rfl (ltn rfl) ?_
                      refine VL.va (op_pick rfl rfl (ltn rfl)) rfl ?_
                      refine VL.va (op_assign rfl (ltn rfl)) rfl ?_
                      refine VL.done ?_
                      refine VN.then ?_
                      refine VC.ret ?_
                      refine VR.then ?_
                      cases h
                  · rw [if_neg c7051] at h
                    obtain rfl : b7050 = false := hb7050.symm.trans (beq_eq_false_iff_ne.2 c7051)
                    refine VL.un rfl rfl (ltn rfl) ?_
                    refine VL.un rfl rfl (ltn rfl) ?_
                    refine VL.va (op_pick rfl rfl (ltn rfl)) rfl ?_
                    refine VL.va (op_move rfl (ltn rfl)) rfl ?_
                    refine VL.un rfl rfl (ltn rfl) ?_
                    refine VL.un rfl rfl (ltn rfl) ?_
                    refine VL.un rfl rfl (ltn rfl) ?_
                    refine VL.va (op_pick rfl rfl (ltn rfl)) rfl ?_
                    refine VL.va (op_move rfl (ltn rfl)) rfl ?_
                    refine VL.un rfl rfl (ltn rfl) ?_
                    refine VL.un rfl rfl (ltn rfl) ?_
                    refine VL.un rfl rfl (ltn rfl) ?_
                    refine VL.va (op_pick rfl rfl (ltn rfl)) rfl ?_
                    refine VL.va (op_move rfl (ltn rfl)) rfl ?_
                    refine VL.un rfl rfl (ltn rfl) ?_
                    refine VL.un rfl rfl (ltn rfl) ?_
                    refine VL.un rfl rfl (ltn rfl) ?_
                    refine VL.va (op_pick rfl rfl (ltn rfl)) rfl ?_
                    refine VL.va (op_assign rfl (ltn rfl)) rfl ?_
                    refine VL.done ?_
                    refine VN.then ?_
                    refine VC.ret ?_
                    refine VR.then ?_
                    cases h
                · rw [if_neg c7049] at h
                  obtain rfl : b7048 = false := hb7048.symm.trans (beq_eq_false_iff_ne.2 c7049)
                  refine VL.un rfl rfl (ltn rfl) ?_
                  refine VL.un rfl rfl (ltn rfl) ?_
                  refine VL.va (op_pick rfl rfl (ltn rfl)) rfl ?_
                  refine VL.va (op_move rfl (ltn rfl)) rfl ?_
                  refine VL.un rfl rfl (ltn rfl) ?_
                  refine VL.un rfl rfl (ltn rfl) ?_
                  refine VL.va (op_pick rfl rfl (ltn rfl)) rfl ?_
                  refine VL.va (op_move rfl (ltn rfl)) rfl ?_
                  refine VL.un rfl rfl (ltn rfl) ?_
                  refine VL.un rfl rfl (ltn rfl) ?_
                  refine VL.un rfl rfl (ltn rfl) ?_
                  refine VL.va (op_pick rfl rfl (ltn rfl)) rfl ?_
                  refine VL.va (op_move rfl (ltn rfl)) rfl ?_
                  refine VL.un rfl rfl (ltn rfl) ?_
                  refine VL.un rfl rfl (ltn rfl) ?_
                  refine VL.un rfl rfl (ltn rfl) ?_
                  refine VL.va (op_pick rfl rfl (ltn rfl)) rfl ?_
                  refine VL.va (op_move rfl (ltn rfl)) rfl ?_
                  refine VL.un rfl rfl (ltn rfl) ?_
                  refine VL.un rfl rfl (ltn rfl) ?_
                  refine VL.un rfl rfl (ltn rfl) ?_
                  refine VL.va (op_pick rfl rfl (ltn rfl)) rfl ?_
                  refine VL.va (op_assign rfl (ltn rfl)) rfl ?_
                  refine VL.done ?_
                  refine VN.then ?_
                  refine VC.ret ?_
                  refine VR.then ?_
                  cases h
              · rw [if_neg c7047] at h
                obtain rfl : b7046 = false := hb7046.symm.trans (beq_eq_false_iff_ne.2 c7047)
                refine VL.un rfl rfl (ltn rfl) ?_
                refine VL.un rfl rfl (ltn rfl) ?_
                refine VL.va (op_pick rfl rfl (ltn rfl)) rfl ?_
                refine VL.va (op_move rfl (ltn rfl)) rfl ?_
                refine VL.un rfl rfl (ltn rfl) ?_
                refine VL.un rfl rfl (ltn rfl) ?_
                refine VL.va (op_pick rfl rfl (ltn rfl)) rfl ?_
                refine VL.va (op_move rfl (ltn rfl)) rfl ?_
                refine VL.un rfl rfl (ltn rfl) ?_
                refine VL.un rfl rfl (ltn rfl) ?_
                refine VL.va (op_pick rfl rfl (ltn rfl)) rfl ?_
                refine VL.va (op_move rfl (ltn rfl)) rfl ?_
                refine VL.un rfl rfl (ltn rfl) ?_
                refine VL.un rfl rfl (ltn rfl) ?_
                refine VL.un rfl rfl (ltn rfl) ?_
                refine VL.va (op_pick rfl rfl (ltn rfl)) rfl ?_
                refine VL.va (op_move rfl (ltn rfl)) rfl ?_
                refine VL.un rfl rfl (ltn rfl) ?_
                refine VL.un rfl rfl (ltn rfl) ?_
                refine VL.un rfl rfl (ltn rfl) ?_
                refine VL.va (op_pick rfl rfl (ltn rfl)) rfl ?_
                refine VL.va (op_move rfl (ltn rfl)) rfl ?_
                refine VL.un rfl rfl (ltn rfl) ?_
                refine VL.un rfl rfl (ltn rfl) ?_
                refine VL.un rfl rfl (ltn rfl) ?_
                refine VL.va (op_pick rfl rfl (ltn rfl)) rfl ?_
                refine VL.va (op_assign rfl (ltn rfl)) rfl ?_
                refine VL.done ?_
                refine VN.then ?_
                refine VC.ret ?_
                refine VR.then ?_
                cases h
            · rw [if_neg c7045] at h
              obtain rfl : b7044 = false := hb7044.symm.trans (beq_eq_false_iff_ne.2 c7045)
              refine VL.un rfl rfl (ltn rfl) ?_
              refine VL.un rfl rfl (ltn rfl) ?_
              refine VL.va (op_pick rfl rfl (ltn rfl)) rfl ?_
              refine VL.va (op_move rfl (ltn rfl)) rfl ?_
              refine VL.un rfl rfl (ltn rfl) ?_
              refine VL.un rfl rfl (ltn rfl) ?_
              refine VL.va (op_pick rfl rfl (ltn rfl)) rfl ?_
              refine VL.va (op_move rfl (ltn rfl)) rfl ?_
              refine VL.un rfl rfl (ltn rfl) ?_
              refine VL.un rfl rfl (ltn rfl) ?_
              refine VL.va (op_pick rfl rfl (ltn rfl)) rfl ?_
              refine VL.va (op_move rfl (ltn rfl)) rfl ?_
              refine VL.un rfl rfl (ltn rfl) ?_
              refine VL.un rfl rfl (ltn rfl) ?_
              refine VL.va (op_pick rfl rfl (ltn rfl)) rfl ?_
              refine VL.va (op_move rfl (ltn rfl)) rfl ?_
              refine VL.un rfl rfl (ltn rfl) ?_
              refine VL.un rfl rfl (ltn rfl) ?_
              refine VL.un rfl rfl (ltn rfl) ?_
              refine VL.va (op_pick rfl rfl (ltn rfl)) rfl ?_
              refine VL.va (op_move rfl (ltn rfl)) rfl ?_
              refine VL.un rfl rfl (ltn rfl) ?_
              refine VL.un rfl rfl (ltn rfl) ?_
              refine VL.un rfl rfl (ltn rfl) ?_
              refine VL.va (op_pick rfl rfl (ltn rfl)) rfl ?_
              refine VL.va (op_move rfl (ltn rfl)) rfl ?_
              refine VL.un rfl rfl (ltn rfl) ?_
              refine VL.un rfl rfl (ltn rfl) ?_
              refine VL.un rfl rfl (ltn rfl) ?_
              refine VL.va (op_pick rfl rfl (ltn rfl)) rfl ?_
              refine VL.va (op_assign rfl (ltn rfl)) rfl ?_
              refine VL.done ?_
              refine VN.then ?_
              refine VC.ret ?_
              refine VR.then ?_
              cases h
          · rw [if_neg c7019] at h
            obtain rfl := Bool.eq_false_iff.2 c7019
            refine VC.cond_f rfl ?_
            refine VC.skip ?_
            refine VN.then ?_
            refine VC.seq ?_
            refine VC.letter ((t1429 != 0)) fun b7092 hb7092 => ?_
            by_cases c7093 : t1429 = 0
            · rw [if_pos c7093] at h
              obtain rfl : b7092 = false := hb7092.symm.trans (bne_eq_false_iff_eq.2 c7093)
              replace h := Option.bind_eq_some_iff.1 h
              obtain ⟨⟨r7094, r7095⟩, hA7096, h⟩ := h
              dsimp only at h
              replace h := Option.bind_eq_some_iff.1 h
              obtain ⟨t7101, hA7102, h⟩ := h
              by_cases c7103 : t7101 = true
              · rw [if_pos c7103] at h
                obtain rfl := c7103
                refine VC.letter ((t1438 != 0)) fun b7104 hb7104 => ?_
                by_cases c7105 : t1438 = 0
                · rw [if_pos c7105] at h
                  obtain rfl : b7104 = false := hb7104.symm.trans (bne_eq_false_iff_eq.2 c7105)
                  replace h := Option.bind_eq_some_iff.1 h
                  obtain ⟨⟨r7106, r7107⟩, hA7108, h⟩ := h
                  dsimp only at h
                  replace h := Option.bind_eq_some_iff.1 h
                  obtain ⟨t7113, hA7114, h⟩ := h
                  by_cases c7115 : t7113 = true
                  · rw [if_pos c7115] at h
                    obtain rfl := c7115
                    refine VC.join0 (⟨246, [(2, .int .i64 a2), (3, .string (a3.extract 0 ((mn (a3.size : Int) 66).toNat))), (6, .pointer (some ⟨g3, 0, none⟩)), (12, .bool false), (15, .pointer (some ⟨g768, 0, none⟩)), (16, .int .i64 t762), (17, .string t918), (18, .int .i64 t919), (23, .pointer (some ⟨g1445, 0, none⟩)), (173, .bool false)], [.row v765 1 (r760.map enc_str), .row v767 2 (r761.map enc32), .row v331 1 (r327.map enc_str), .row v333 2 (r328.map enc32)], [(g1445, 25, [.slice none 0 0, .slice none 0 0]), (g768, 25, [v765, v767]), (g3, 25, [v331, v333])], []⟩) (True) ?_ ?_
                    · refine VC.draw ⟨0, [], [], [(g1444, 25, [v1441, v1443]), (g1435, 25, [v1432, v1434]), (g3, 25, [v331, v333])], []⟩ (by kernel_rfl) rfl (by kernel_rfl) (n := 22) (listed := LB 22 0) ?_
                      refine VA.va (i := 0) (listed' := LB 22 1) rfl (op_move rfl (ltn rfl)) rfl (by kernel_rfl) (by kernel_rfl) (by kernel_rfl) (by kernel_rfl) ⟨trivial, ⟨⟨1, rfl⟩, ⟨2, rfl⟩, ⟨4, rfl⟩, trivial⟩, trivial⟩ (fun _ _ _ h => h) ?_
                      refine VA.va (i := 1) (listed' := LB 22 3) rfl (op_cmp rfl rfl (congrArg some hb7092) (ltn rfl)) rfl (by kernel_rfl) (by kernel_rfl) (by kernel_rfl) (by kernel_rfl) ⟨trivial, ⟨⟨1, rfl⟩, ⟨2, rfl⟩, ⟨4, rfl⟩, trivial⟩, trivial⟩ (fun _ _ _ h => h) ?_
                      refine VA.va (i := 2) (listed' := LB 22 7) rfl (op_move rfl (ltn rfl)) rfl (by kernel_rfl) (by kernel_rfl) (by kernel_rfl) (by kernel_rfl) ⟨trivial, ⟨⟨1, rfl⟩, ⟨2, rfl⟩, ⟨4, rfl⟩, trivial⟩, trivial⟩ (fun _ _ _ h => h) ?_
                      refine VA.va (i := 3) (listed' := LB 22 15) rfl (op_load 1 2 rfl rfl TI25 rfl (fun h => absurd h (by decide)) (ltn rfl)) rfl (by kernel_rfl) (by kernel_rfl) (by kernel_rfl) (by kernel_rfl) ⟨trivial, ⟨⟨1, rfl⟩, ⟨2, rfl⟩, ⟨4, rfl⟩, trivial⟩, trivial⟩ (fun _ _ _ h => h) ?_
                      refine VA.va (i := 4) (listed' := LB 22 31) rfl (op_load 2 2 rfl rfl TI25 rfl (fun h => absurd h (by decide)) (ltn rfl)) rfl (by kernel_rfl) (by kernel_rfl) (by kernel_rfl) (by kernel_rfl) ⟨trivial, ⟨⟨1, rfl⟩, ⟨2, rfl⟩, ⟨4, rfl⟩, trivial⟩, trivial⟩ (fun _ _ _ h => h) ?_
                      refine VA.oneC (i := 5) (listed' := LB 22 63) (by kernel_rfl) rfl (o_call0 FO17 (tarryref03_Crash.ok k r327 r328 18446744073709551615 0 v331 v333 r7094 r7095 hA7096) rfl rfl (ltn rfl) (All_of (.cons (List.mem_of_getElem? (i := 2) rfl) (.cons (List.mem_of_getElem? (i := 3) rfl) .nil)))) rfl (by kernel_rfl) ?_
                      rintro _ _ _ ⟨v7098, v7100, rfl, rfl, rfl⟩
                      refine ⟨⟨trivial, ⟨⟨1, rfl⟩, ⟨2, rfl⟩, ⟨4, rfl⟩, trivial⟩, trivial⟩, ?_⟩
                      refine VA.oneC (i := 6) (listed' := LB 22 127) (by kernel_rfl) rfl (o_call_b0 FO13 (tarryref03_Like.ok k r1427 r1428 r7094 r7095 v1432 v1434 v7098 v7100 true hA7102) rfl rfl (ltn rfl) (All_of (.cons (.inr (.inl ⟨_, List.mem_of_getElem? (i := 3) rfl, rfl⟩)) (.cons (.inr (.inl ⟨_, List.mem_of_getElem? (i := 4) rfl, rfl⟩)) (.cons (.inl (List.mem_of_getElem? (i := 0) rfl)) (.cons (.inr (.inl ⟨_, List.mem_of_getElem? (i := 0) rfl, rfl⟩)) .nil))))) (by rintro _ _ _ ⟨rfl, rfl, rfl⟩; rfl)) rfl (by kernel_rfl) ?_
                      rintro _ _ _ ⟨rfl, rfl, rfl⟩
                      refine ⟨⟨trivial, ⟨⟨1, rfl⟩, ⟨2, rfl⟩, ⟨4, rfl⟩, trivial⟩, trivial⟩, ?_⟩
                      refine VA.va (i := 7) (listed' := LB 22 255) rfl (op_not rfl rfl (ltn rfl)) rfl (by kernel_rfl) (by kernel_rfl) (by kernel_rfl) (by kernel_rfl) ⟨trivial, ⟨⟨1, rfl⟩, ⟨2, rfl⟩, ⟨4, rfl⟩, trivial⟩, trivial⟩ (fun _ _ _ h => h) ?_
                      refine VA.va (i := 8) (listed' := LB 22 511) rfl (op_pick rfl rfl (ltn rfl)) rfl (by kernel_rfl) (by kernel_rfl) (by kernel_rfl) (by kernel_rfl) ⟨trivial, ⟨⟨1, rfl⟩, ⟨2, rfl⟩, ⟨4, rfl⟩, trivial⟩, trivial⟩ (fun _ _ _ h => h) ?_
                      refine VA.va (i := 9) (listed' := LB 22 1023) rfl (op_move rfl (ltn rfl)) rfl (by kernel_rfl) (by kernel_rfl) (by kernel_rfl) (by kernel_rfl) ⟨trivial, ⟨⟨1, rfl⟩, ⟨2, rfl⟩, ⟨4, rfl⟩, trivial⟩, trivial⟩ (fun _ _ _ h => h) ?_
                      refine VA.va (i := 10) (listed' := LB 22 2047) rfl (op_move rfl (ltn rfl)) rfl (by kernel_rfl) (by kernel_rfl) (by kernel_rfl) (by kernel_rfl) ⟨trivial, ⟨⟨1, rfl⟩, ⟨2, rfl⟩, ⟨4, rfl⟩, trivial⟩, trivial⟩ (fun _ _ _ h => h) ?_
                      refine VA.va (i := 11) (listed' := LB 22 4095) rfl (op_cmp rfl rfl (congrArg some hb7104) (ltn rfl)) rfl (by kernel_rfl) (by kernel_rfl) (by kernel_rfl) (by kernel_rfl) ⟨trivial, ⟨⟨1, rfl⟩, ⟨2, rfl⟩, ⟨4, rfl⟩, trivial⟩, trivial⟩ (fun _ _ _ h => h) ?_
                      refine VA.va (i := 12) (listed' := LB 22 8191) rfl (op_pick rfl rfl (ltn rfl)) rfl (by kernel_rfl) (by kernel_rfl) (by kernel_rfl) (by kernel_rfl) ⟨trivial, ⟨⟨1, rfl⟩, ⟨2, rfl⟩, ⟨4, rfl⟩, trivial⟩, trivial⟩ (fun _ _ _ h => h) ?_
                      refine VA.va (i := 13) (listed' := LB 22 16383) rfl (op_move rfl (ltn rfl)) rfl (by kernel_rfl) (by kernel_rfl) (by kernel_rfl) (by kernel_rfl) ⟨trivial, ⟨⟨1, rfl⟩, ⟨2, rfl⟩, ⟨4, rfl⟩, trivial⟩, trivial⟩ (fun _ _ _ h => h) ?_
                      refine VA.va (i := 14) (listed' := LB 22 32767) rfl (op_load 0 2 rfl rfl TI25 rfl (fun h => absurd h (by decide)) (ltn rfl)) rfl (by kernel_rfl) (by kernel_rfl) (by kernel_rfl) (by kernel_rfl) ⟨trivial, ⟨⟨1, rfl⟩, ⟨2, rfl⟩, ⟨4, rfl⟩, trivial⟩, trivial⟩ (fun _ _ _ h => h) ?_
                      refine VA.va (i := 15) (listed' := LB 22 65535) rfl (op_load 2 2 rfl rfl TI25 rfl (fun h => absurd h (by decide)) (ltn rfl)) rfl (by kernel_rfl) (by kernel_rfl) (by kernel_rfl) (by kernel_rfl) ⟨trivial, ⟨⟨1, rfl⟩, ⟨2, rfl⟩, ⟨4, rfl⟩, trivial⟩, trivial⟩ (fun _ _ _ h => h) ?_
                      refine VA.va (i := 16) (listed' := LB 22 131071) rfl (op_move rfl (ltn rfl)) rfl (by kernel_rfl) (by kernel_rfl) (by kernel_rfl) (by kernel_rfl) ⟨trivial, ⟨⟨1, rfl⟩, ⟨2, rfl⟩, ⟨4, rfl⟩, trivial⟩, trivial⟩ (fun _ _ _ h => h) ?_
                      refine VA.va (i := 17) (listed' := LB 22 262143) rfl (op_move rfl (ltn rfl)) rfl (by kernel_rfl) (by kernel_rfl) (by kernel_rfl) (by kernel_rfl) ⟨trivial, ⟨⟨1, rfl⟩, ⟨2, rfl⟩, ⟨4, rfl⟩, trivial⟩, trivial⟩ (fun _ _ _ h => h) ?_
                      refine VA.oneC (i := 18) (listed' := LB 22 524287) (by kernel_rfl) rfl (o_call0 FO17 (tarryref03_Crash.ok k r327 r328 a4 a5 v331 v333 r7106 r7107 hA7108) rfl rfl (ltn rfl) (All_of (.cons (List.mem_of_getElem? (i := 3) rfl) (.cons (List.mem_of_getElem? (i := 4) rfl) .nil)))) rfl (by kernel_rfl) ?_
                      rintro _ _ _ ⟨v7110, v7112, rfl, rfl, rfl⟩
                      refine ⟨⟨trivial, ⟨⟨1, rfl⟩, ⟨2, rfl⟩, ⟨4, rfl⟩, trivial⟩, trivial⟩, ?_⟩
                      refine VA.oneC (i := 19) (listed' := LB 22 1048575) (by kernel_rfl) rfl (o_call_b0 FO13 (tarryref03_Like.ok k r1436 r1437 r7106 r7107 v1441 v1443 v7110 v7112 true hA7114) rfl rfl (ltn rfl) (All_of (.cons (.inr (.inl ⟨_, List.mem_of_getElem? (i := 2) rfl, rfl⟩)) (.cons (.inr (.inl ⟨_, List.mem_of_getElem? (i := 3) rfl, rfl⟩)) (.cons (.inl (List.mem_of_getElem? (i := 0) rfl)) (.cons (.inr (.inl ⟨_, List.mem_of_getElem? (i := 0) rfl, rfl⟩)) .nil))))) (by rintro _ _ _ ⟨rfl, rfl, rfl⟩; rfl)) rfl (by kernel_rfl) ?_
                      rintro _ _ _ ⟨rfl, rfl, rfl⟩
                      refine ⟨⟨trivial, ⟨⟨1, rfl⟩, ⟨2, rfl⟩, ⟨4, rfl⟩, trivial⟩, trivial⟩, ?_⟩
                      refine VA.va (i := 20) (listed' := LB 22 2097151) rfl (op_not rfl rfl (ltn rfl)) rfl (by kernel_rfl) (by kernel_rfl) (by kernel_rfl) (by kernel_rfl) ⟨trivial, ⟨⟨1, rfl⟩, ⟨2, rfl⟩, ⟨4, rfl⟩, trivial⟩, trivial⟩ (fun _ _ _ h => h) ?_
                      refine VA.va (i := 21) (listed' := LB 22 4194303) rfl (op_pick rfl rfl (ltn rfl)) rfl (by kernel_rfl) (by kernel_rfl) (by kernel_rfl) (by kernel_rfl) ⟨trivial, ⟨⟨1, rfl⟩, ⟨2, rfl⟩, ⟨4, rfl⟩, trivial⟩, trivial⟩ (fun _ _ _ h => h) ?_
                      refine VA.done (by kernel_rfl) ?_
                      exact VN.meet0  [0, 3, 4] [] trivial ⟨rfl, ⟨rfl, rfl, rfl, rfl, rfl, rfl, rfl, rfl, rfl, rfl, trivial⟩, ⟨⟨2, rfl⟩, ⟨3, rfl⟩, ⟨4, rfl⟩, ⟨5, rfl⟩, trivial⟩, rfl, by decide, rfl, by decide⟩
                    intro _
                    refine VC.cond_f rfl ?_
                    refine VC.skip ?_
                    refine VN.then ?_
                    refine VC.seq ?_
                    refine VC.seq ?_
                    refine VC.region ?_
                    refine VL.va (op_move rfl (ltn rfl)) rfl ?_
                    refine VL.letter (decide (a2 < 0)) fun b7166 hb7166 => ?_
                    refine VL.va (op_cmp rfl rfl (congrArg some hb7166) (ltn rfl)) rfl ?_
                    refine VL.va (op_move rfl (ltn rfl)) rfl ?_
                    by_cases c7167 : a2 < 0
                    · rw [if_pos c7167] at h
                      obtain rfl : b7166 = true := hb7166.symm.trans (decide_eq_true c7167)
                      refine VL.un rfl rfl (ltn rfl) ?_
                      refine VL.un rfl rfl (ltn rfl) ?_
                      refine VL.un rfl rfl (ltn rfl) ?_
                      refine VL.un rfl rfl (ltn rfl) ?_
                      refine VL.un rfl rfl (ltn rfl) ?_
                      refine VL.va (op_pick rfl rfl (ltn rfl)) rfl ?_
                      refine VL.done ?_
                      refine VN.then ?_
                      refine VC.cond_t rfl ?_
                      refine VC.seq ?_
                      refine VC.region ?_
                      refine VL.va (op_move rfl (ltn rfl)) rfl ?_
                      refine VL.letter ((t762 == 8)) fun b7178 hb7178 => ?_
                      refine VL.va (op_cmp rfl rfl (congrArg some hb7178) (ltn rfl)) rfl ?_
                      refine VL.va (op_move rfl (ltn rfl)) rfl ?_
                      by_cases c7179 : t762 = 8
                      · rw [if_pos c7179] at h
                        obtain rfl : b7178 = true := hb7178.symm.trans (beq_iff_eq.2 c7179)
                        refine VL.va (op_move rfl (ltn rfl)) rfl ?_
                        refine VL.letter ((t919 == 8)) fun b7180 hb7180 => ?_
                        refine VL.va (op_cmp rfl rfl (congrArg some hb7180) (ltn rfl)) rfl ?_
                        refine VL.va (op_pick rfl rfl (ltn rfl)) rfl ?_
                        refine VL.va (op_move rfl (ltn rfl)) rfl ?_
                        by_cases c7181 : t919 = 8
                        · rw [if_pos c7181] at h
                          obtain rfl : b7180 = true := hb7180.symm.trans (beq_iff_eq.2 c7181)
                          refine VL.va (op_move rfl (ltn rfl)) rfl ?_
                          refine VL.letter ((t918 == (⟨#[]⟩ : ByteArray))) fun b7182 hb7182 => ?_
                          refine VL.va (op_cmps rfl rfl (congrArg some hb7182) (ltn rfl)) rfl ?_
                          refine VL.va (op_pick rfl rfl (ltn rfl)) rfl ?_
                          refine VL.va (op_move rfl (ltn rfl)) rfl ?_
                          by_cases c7183 : (t918 == (⟨#[]⟩ : ByteArray)) = true
                          · rw [if_pos c7183] at h
                            obtain rfl : b7182 = true := hb7182.symm.trans (c7183)
                            refine VL.va (op_load 1 2 rfl rfl TI25 rfl (fun h => absurd h (by decide)) (ltn rfl)) rfl ?_
                            refine VL.va (op_load 0 2 rfl rfl TI25 rfl (fun h => absurd h (by decide)) (ltn rfl)) rfl ?_
                            refine VL.nilFact' 1 ?_
                            refine VL.nilFact' 2 ?_
                            replace h := Option.bind_eq_some_iff.1 h
                            obtain ⟨t7186, hA7187, h⟩ := h
                            refine VL.sC (o_call0 FO13 (tarryref03_Like.ok k r760 r761 [] [] v765 v767 (.slice none 0 0) (.slice none 0 0) t7186 hA7187) rfl rfl (ltn rfl) (All_of (.cons (List.mem_of_getElem? (i := 2) rfl) (.cons (List.mem_of_getElem? (i := 3) rfl) (.cons (List.mem_of_getElem? (i := 1) rfl) (.cons (List.mem_of_getElem? (i := 0) rfl) .nil)))))) rfl ?_
                            rintro _ _ _ ⟨rfl, rfl, rfl⟩
                            refine VL.va (op_pick rfl rfl (ltn rfl)) rfl ?_
                            refine VL.va (op_assign rfl (ltn rfl)) rfl ?_
                            refine VL.done ?_
                            refine VN.then ?_
                            refine VC.ret ?_
                            refine VR.then ?_
                            obtain rfl := Option.some.inj h
                            exact VR.fn (rs := [.tmp 12]) [] [] [] rfl (.tmp rfl .nil) ⟨rfl, rfl, rfl⟩ trivial rfl (by decide)
                          · rw [if_neg c7183] at h
                            obtain rfl : b7182 = false := hb7182.symm.trans (Bool.eq_false_iff.2 c7183)
                            refine VL.un rfl rfl (ltn rfl) ?_
                            refine VL.un rfl rfl (ltn rfl) ?_
                            refine VL.un rfl rfl (ltn rfl) ?_
                            refine VL.va (op_pick rfl rfl (ltn rfl)) rfl ?_
                            refine VL.va (op_assign rfl (ltn rfl)) rfl ?_
                            refine VL.done ?_
                            refine VN.then ?_
                            refine VC.ret ?_
                            refine VR.then ?_
                            cases h
                        · rw [if_neg c7181] at h
                          obtain rfl : b7180 = false := hb7180.symm.trans (beq_eq_false_iff_ne.2 c7181)
                          refine VL.un rfl rfl (ltn rfl) ?_
                          refine VL.un rfl rfl (ltn rfl) ?_
                          refine VL.va (op_pick rfl rfl (ltn rfl)) rfl ?_
                          refine VL.va (op_move rfl (ltn rfl)) rfl ?_
                          refine VL.un rfl rfl (ltn rfl) ?_
                          refine VL.un rfl rfl (ltn rfl) ?_
                          refine VL.un rfl rfl (ltn rfl) ?_
                          refine VL.va (op_pick rfl rfl (ltn rfl)) rfl ?_
                          refine VL.va (op_assign rfl (ltn rfl)) rfl ?_
                          refine VL.done ?_
                          refine VN.then ?_
                          refine VC.ret ?_
                          refine VR.then ?_
                          cases h
                      · rw [if_neg c7179] at h
                        obtain rfl : b7178 = false := hb7178.symm.trans (beq_eq_false_iff_ne.2 c7179)
                        refine VL.un rfl rfl (ltn rfl) ?_
                        refine VL.un rfl rfl (ltn rfl) ?_
                        refine VL.va (op_pick rfl rfl (ltn rfl)) rfl ?_
                        refine VL.va (op_move rfl (ltn rfl)) rfl ?_
                        refine VL.un rfl rfl (ltn rfl) ?_
                        refine VL.un rfl rfl (ltn rfl) ?_
                        refine VL.va (op_pick rfl rfl (ltn rfl)) rfl ?_
                        refine VL.va (op_move rfl (ltn rfl)) rfl ?_
                        refine VL.un rfl rfl (ltn rfl) ?_
                        refine VL.un rfl rfl (ltn rfl) ?_
                        refine VL.un rfl rfl (ltn rfl) ?_
                        refine VL.va (op_pick rfl rfl (ltn rfl)) rfl ?_
                        refine VL.va (op_assign rfl (ltn rfl)) rfl ?_
                        refine VL.done ?_
                        refine VN.then ?_
                        refine VC.ret ?_
                        refine VR.then ?_
                        cases h
                    · rw [if_neg c7167] at h
                      obtain rfl : b7166 = false := hb7166.symm.trans (decide_eq_false c7167)
                      refine VL.va (op_move rfl (ltn rfl)) rfl ?_
                      refine VL.va (op_fieldAddr FI25_0 rfl (add_at _ _ _) (ltn rfl)) rfl ?_
                      refine VL.va (op_load 2 1 rfl rfl TI22 rfl (by decide) (ltn rfl)) rfl ?_
                      refine VL.va (op_len (m := r327.length) 2 lenm Try.underlying22 rfl rfl (ltn rfl)) rfl ?_
                      refine VL.letter (decide (a2 ≥ (r327.length : Int))) fun b7188 hb7188 => ?_
                      refine VL.va (op_cmp rfl rfl (congrArg some hb7188) (ltn rfl)) rfl ?_
                      refine VL.va (op_pick rfl rfl (ltn rfl)) rfl ?_
                      refine VL.done ?_
                      refine VN.then ?_
                      by_cases c7189 : a2 ≥ (r327.length : Int)
                      · rw [if_pos c7189] at h
                        obtain rfl : b7188 = true := hb7188.symm.trans (decide_eq_true c7189)
                        refine VC.cond_t rfl ?_
                        refine VC.seq ?_
                        refine VC.region ?_
                        refine VL.va (op_move rfl (ltn rfl)) rfl ?_
                        refine VL.letter ((t762 == 8)) fun b7200 hb7200 => ?_
                        refine VL.va (op_cmp rfl rfl (congrArg some hb7200) (ltn rfl)) rfl ?_
                        refine VL.va (op_move rfl (ltn rfl)) rfl ?_
                        by_cases c7201 : t762 = 8
                        · rw [if_pos c7201] at h
                          obtain rfl : b7200 = true := hb7200.symm.trans (beq_iff_eq.2 c7201)
                          refine VL.va (op_move rfl (ltn rfl)) rfl ?_
                          refine VL.letter ((t919 == 8)) fun b7202 hb7202 => ?_
                          refine VL.va (op_cmp rfl rfl (congrArg some hb7202) (ltn rfl)) rfl ?_
                          refine VL.va (op_pick rfl rfl (ltn rfl)) rfl ?_
                          refine VL.va (op_move rfl (ltn rfl)) rfl ?_
                          by_cases c7203 : t919 = 8
                          · rw [if_pos c7203] at h
                            obtain rfl : b7202 = true := hb7202.symm.trans (beq_iff_eq.2 c7203)
                            refine VL.va (op_move rfl (ltn rfl)) rfl ?_
                            refine VL.letter ((t918 == (⟨#[]⟩ : ByteArray))) fun b7204 hb7204 => ?_
                            refine VL.va (op_cmps rfl rfl (congrArg some hb7204) (ltn rfl)) rfl ?_
                            refine VL.va (op_pick rfl rfl (ltn rfl)) rfl ?_
                            refine VL.va (op_move rfl (ltn rfl)) rfl ?_
                            by_cases c7205 : (t918 == (⟨#[]⟩ : ByteArray)) = true
                            · rw [if_pos c7205] at h
                              obtain rfl : b7204 = true := hb7204.symm.trans (c7205)
                              refine VL.va (op_load 1 2 rfl rfl TI25 rfl (fun h => absurd h (by decide)) (ltn rfl)) rfl ?_
                              refine VL.va (op_load 0 2 rfl rfl TI25 rfl (fun h => absurd h (by decide)) (ltn rfl)) rfl ?_
                              refine VL.nilFact' 1 ?_
                              refine VL.nilFact' 2 ?_
                              replace h := Option.bind_eq_some_iff.1 h
                              obtain ⟨t7208, hA7209, h⟩ := h
                              refine VL.sC (o_call0 FO13 (tarryref03_Like.ok k r760 r761 [] [] v765 v767 (.slice none 0 0) (.slice none 0 0) t7208 hA7209) rfl rfl (ltn rfl) (All_of (.cons (List.mem_of_getElem? (i := 2) rfl) (.cons (List.mem_of_getElem? (i := 3) rfl) (.cons (List.mem_of_getElem? (i := 1) rfl) (.cons (List.mem_of_getElem? (i := 0) rfl) .nil)))))) rfl ?_
                              rintro _ _ _ ⟨rfl, rfl, rfl⟩
                              refine VL.va (op_pick rfl rfl (ltn rfl)) rfl ?_
                              refine VL.va (op_assign rfl (ltn rfl)) rfl ?_
                              refine VL.done ?_
                              refine VN.then ?_
                              refine VC.ret ?_
                              refine VR.then ?_
                              obtain rfl := Option.some.inj h
                              exact VR.fn (rs := [.tmp 12]) [] [] [] rfl (.tmp rfl .nil) ⟨rfl, rfl, rfl⟩ trivial rfl (by decide)
                            · rw [if_neg c7205] at h
                              obtain rfl : b7204 = false := hb7204.symm.trans (Bool.eq_false_iff.2 c7205)
                              refine VL.un rfl rfl (ltn rfl) ?_
                              refine VL.un rfl rfl (ltn rfl) ?_
                              refine VL.un rfl rfl (ltn rfl) ?_
                              refine VL.va (op_pick rfl rfl (ltn rfl)) rfl ?_
                              refine VL.va (op_assign rfl (ltn rfl)) rfl ?_
                              refine VL.done ?_
                              refine VN.then ?_
                              refine VC.ret ?_
                              refine VR.then ?_
                              cases h
                          · rw [if_neg c7203] at h
                            obtain rfl : b7202 = false := hb7202.symm.trans (beq_eq_false_iff_ne.2 c7203)
                            refine VL.un rfl rfl (ltn rfl) ?_
                            refine VL.un rfl rfl (ltn rfl) ?_
                            refine VL.va (op_pick rfl rfl (ltn rfl)) rfl ?_
                            refine VL.va (op_move rfl (ltn rfl)) rfl ?_
                            refine VL.un rfl rfl (ltn rfl) ?_
                            refine VL.un rfl rfl (ltn rfl) ?_
                            refine VL.un rfl rfl (ltn rfl) ?_
                            refine VL.va (op_pick rfl rfl (ltn rfl)) rfl ?_
                            refine VL.va (op_assign rfl (ltn rfl)) rfl ?_
                            refine VL.done ?_
                            refine VN.then ?_
                            refine VC.ret ?_
                            refine VR.then ?_
                            cases h
                        · rw [if_neg c7201] at h
                          obtain rfl : b7200 = false := hb7200.symm.trans (beq_eq_false_iff_ne.2 c7201)
                          refine VL.un rfl rfl (ltn rfl) ?_
                          refine VL.un rfl rfl (ltn rfl) ?_
                          refine VL.va (op_pick rfl rfl (ltn rfl)) rfl ?_
                          refine VL.va (op_move rfl (ltn rfl)) rfl ?_
                          refine VL.un rfl rfl (ltn rfl) ?_
                          refine VL.un rfl rfl (ltn rfl) ?_
                          refine VL.va (op_pick rfl rfl (ltn rfl)) rfl ?_
                          refine VL.va (op_move rfl (ltn rfl)) rfl ?_
                          refine VL.un rfl rfl (ltn rfl) ?_
                          refine VL.un rfl rfl (ltn rfl) ?_
                          refine VL.un rfl rfl (ltn rfl) ?_
                          refine VL.va (op_pick rfl rfl (ltn rfl)) rfl ?_
                          refine VL.va (op_assign rfl (ltn rfl)) rfl ?_
                          refine VL.done ?_
                          refine VN.then ?_
                          refine VC.ret ?_
                          refine VR.then ?_
                          cases h
                      · rw [if_neg c7189] at h
                        obtain rfl : b7188 = false := hb7188.symm.trans (decide_eq_false c7189)
                        refine VC.cond_f rfl ?_
                        refine VC.skip ?_
                        refine VN.then ?_
                        refine VC.seq ?_
                        refine VC.seq ?_
                        refine VC.region ?_
                        refine VL.va (op_move rfl (ltn rfl)) rfl ?_
                        refine VL.letter ((t919 != 0)) fun b7226 hb7226 => ?_
                        refine VL.va (op_cmp rfl rfl (congrArg some hb7226) (ltn rfl)) rfl ?_
                        refine VL.va (op_move rfl (ltn rfl)) rfl ?_
                        by_cases c7227 : t919 = 0
                        · rw [if_pos c7227] at h
                          obtain rfl : b7226 = false := hb7226.symm.trans (bne_eq_false_iff_eq.2 c7227)
                          refine VL.va (op_move rfl (ltn rfl)) rfl ?_
                          refine VL.va (op_load 2 2 rfl rfl TI25 rfl (fun h => absurd h (by decide)) (ltn rfl)) rfl ?_
                          refine VL.va (op_move rfl (ltn rfl)) rfl ?_
                          replace h := Option.bind_eq_some_iff.1 h
                          obtain ⟨t7228, hA7229, h⟩ := h
                          refine VL.sC (o_call0 FO18 (tarryref03_Get.ok k r327 r328 a2 v331 v333 t7228 hA7229) rfl rfl (ltn rfl) (All_of (.cons (List.mem_of_getElem? (i := 2) rfl) (.cons (List.mem_of_getElem? (i := 3) rfl) .nil)))) rfl ?_
                          rintro _ _ _ ⟨rfl, rfl, rfl⟩
                          refine VL.letter ((t918 != t7228)) fun b7230 hb7230 => ?_
                          refine VL.va (op_cmps rfl rfl (congrArg some hb7230) (ltn rfl)) rfl ?_
                          refine VL.va (op_pick rfl rfl (ltn rfl)) rfl ?_
                          refine VL.done ?_
                          refine VN.then ?_
                          by_cases c7231 : (t918 == t7228) = true
                          · rw [if_pos c7231] at h
                            obtain rfl : b7230 = false := hb7230.symm.trans (bne_of_t c7231)
                            refine VC.cond_f rfl ?_
                            refine VC.skip ?_
                            refine VN.then ?_
                            refine VC.seq ?_
                            refine VC.seq ?_
                            refine VC.region ?_
                            refine VL.va (op_move rfl (ltn rfl)) rfl ?_
                            refine VL.va (op_lens Try.underlying9 rfl (ltn rfl)) rfl ?_
                            refine VL.letter ((((a3.extract 0 ((mn (a3.size : Int) 66).toNat)).size : Int) != 64)) fun b7246 hb7246 => ?_
                            refine VL.va (op_cmp rfl rfl (congrArg some hb7246) (ltn rfl)) rfl ?_
                            refine VL.done ?_
                            refine VN.then ?_
                            by_cases c7247 : ((a3.extract 0 ((mn (a3.size : Int) 66).toNat)).size : Int) = 64
                            · rw [if_pos c7247] at h
                              obtain rfl : b7246 = false := hb7246.symm.trans (bne_eq_false_iff_eq.2 c7247)
                              refine VC.cond_f rfl ?_
                              refine VC.skip ?_
                              refine VN.then ?_
                              refine VC.seq ?_
                              refine VC.seq ?_
                              refine VC.region ?_
                              refine VL.va (op_fieldAddr FI25_1 rfl (add_at _ _ _) (ltn rfl)) rfl ?_
                              refine VL.va (op_load 2 1 rfl rfl TI23 rfl (by decide) (ltn rfl)) rfl ?_
                              refine VL.va (op_len (m := r328.length) 3 lenm Try.underlying23 rfl rfl (ltn rfl)) rfl ?_
                              refine VL.letter (((r328.length : Int) == 64)) fun b7262 hb7262 => ?_
                              refine VL.va (op_cmp rfl rfl (congrArg some hb7262) (ltn rfl)) rfl ?_
                              refine VL.done ?_
                              refine VN.then ?_
                              by_cases c7263 : (r328.length : Int) = 64
                              · rw [if_pos c7263] at h
                                obtain rfl : b7262 = true := hb7262.symm.trans (beq_iff_eq.2 c7263)
                                refine VC.cond_t rfl ?_
                                refine VC.seq ?_
                                refine VC.region ?_
                                refine VL.va (op_move rfl (ltn rfl)) rfl ?_
                                refine VL.letter ((t762 == 7)) fun b7270 hb7270 => ?_
                                refine VL.va (op_cmp rfl rfl (congrArg some hb7270) (ltn rfl)) rfl ?_
                                refine VL.va (op_move rfl (ltn rfl)) rfl ?_
                                by_cases c7271 : t762 = 7
                                · rw [if_pos c7271] at h
                                  obtain rfl : b7270 = true := hb7270.symm.trans (beq_iff_eq.2 c7271)
                                  refine VL.va (op_load 1 2 rfl rfl TI25 rfl (fun h => absurd h (by decide)) (ltn rfl)) rfl ?_
                                  refine VL.va (op_load 0 2 rfl rfl TI25 rfl (fun h => absurd h (by decide)) (ltn rfl)) rfl ?_
                                  refine VL.nilFact' 1 ?_
                                  refine VL.nilFact' 2 ?_
                                  replace h := Option.bind_eq_some_iff.1 h
                                  obtain ⟨t7274, hA7275, h⟩ := h
                                  refine VL.sC (o_call0 FO13 (tarryref03_Like.ok k r760 r761 [] [] v765 v767 (.slice none 0 0) (.slice none 0 0) t7274 hA7275) rfl rfl (ltn rfl) (All_of (.cons (List.mem_of_getElem? (i := 2) rfl) (.cons (List.mem_of_getElem? (i := 3) rfl) (.cons (List.mem_of_getElem? (i := 1) rfl) (.cons (List.mem_of_getElem? (i := 0) rfl) .nil)))))) rfl ?_
                                  rintro _ _ _ ⟨rfl, rfl, rfl⟩
                                  refine VL.va (op_pick rfl rfl (ltn rfl)) rfl ?_
                                  refine VL.va (op_assign rfl (ltn rfl)) rfl ?_
                                  refine VL.done ?_
                                  refine VN.then ?_
                                  refine VC.ret ?_
                                  refine VR.then ?_
                                  obtain rfl := Option.some.inj h
                                  exact VR.fn (rs := [.tmp 12]) [] [] [] rfl (.tmp rfl .nil) ⟨rfl, rfl, rfl⟩ trivial rfl (by decide)
                                · rw [if_neg c7271] at h
                                  obtain rfl : b7270 = false := hb7270.symm.trans (beq_eq_false_iff_ne.2 c7271)
                                  refine VL.un rfl rfl (ltn rfl) ?_
                                  refine VL.un rfl rfl (ltn rfl) ?_
                                  refine VL.un rfl rfl (ltn rfl) ?_
                                  refine VL.va (op_pick rfl rfl (ltn rfl)) rfl ?_
                                  refine VL.va (op_assign rfl (ltn rfl)) rfl ?_
                                  refine VL.done ?_
                                  refine VN.then ?_
                                  refine VC.ret ?_
                                  refine VR.then ?_
                                  cases h
                              · rw [if_neg c7263] at h
                                obtain rfl : b7262 = false := hb7262.symm.trans (beq_eq_false_iff_ne.2 c7263)
                                refine VC.cond_f rfl ?_
                                refine VC.skip ?_
                                refine VN.then ?_
                                refine VC.seq ?_
                                refine VC.region ?_
                                refine VL.va (op_load 2 2 rfl rfl TI25 rfl (fun h => absurd h (by decide)) (ltn rfl)) rfl ?_
                                refine VL.sG (o_alloc Z25 ZL25 (ltn rfl)) rfl ?_
                                intro g7276
                                refine VL.step1 (o_store 0 2 rfl rfl rfl TI25 (.agg (.f 2 rfl (.f 3 rfl .nil))) rfl (len rfl)) rfl ?_
                                refine VL.done ?_
                                refine VN.then ?_
                                refine VC.seq ?_
                                refine VC.region ?_
                                refine VL.sG (o_buildSlice (vals := []) (cells := #[]) (es := List.map enc32 ([] : List S32)) Try.underlying23 TI33 Z33 rfl (by decide) (by decide) (by kernel_rfl) (by kernel_rfl) rfl (flat_map enc32_ok _) (ltn rfl)) rfl ?_
                                intro v7278
                                refine VL.va (op_fieldAddr FI25_1 rfl (add_at _ _ _) (ltn rfl)) rfl ?_
                                refine VL.va (op_load 3 1 rfl rfl TI23 rfl (by decide) (ltn rfl)) rfl ?_
                                by_cases c7279 : (([] : List S32).length + r328.length) * 24 ≤ 140737488355328
                                · rw [if_pos c7279] at h
                                  refine VL.sG (o_append 0 appm Try.underlying23 EI33 rfl rfl rfl (.inl ⟨3, rfl⟩) (bndm c7279) (ltn rfl)) rfl ?_
                                  intro v7280
                                  refine VL.va (op_move rfl (ltn rfl)) rfl ?_
                                  refine VL.va (op_move rfl (ltn rfl)) rfl ?_
                                  refine VL.va (op_build (vals := [(0, .int .i64 a2), (1, .string (a3.extract 0 ((mn (a3.size : Int) 66).toNat)))]) (vcs := [(0, [.int .i64 a2]), (1, [.string (a3.extract 0 ((mn (a3.size : Int) 66).toNat))])]) (cells := [.int .i64 a2, .string (a3.extract 0 ((mn (a3.size : Int) 66).toNat))]) SI33 rfl (.cons ⟨rfl, (.c rfl)⟩ (.cons ⟨rfl, (.c rfl)⟩ .nil)) (by kernel_rfl) (ltn rfl)) rfl ?_
                                  refine VL.sG (o_buildSlice (vals := [(0, .agg #[.int .i64 a2, .string (a3.extract 0 ((mn (a3.size : Int) 66).toNat))])]) (cells := #[.int .i64 a2, .string (a3.extract 0 ((mn (a3.size : Int) 66).toNat))]) (es := List.map enc32 ([(⟨a2, a3.extract 0 ((mn (a3.size : Int) 66).toNat)⟩ : S32)] : List S32)) Try.underlying23 TI33 Z33 rfl (by decide) (by decide) (by kernel_rfl) (by kernel_rfl) rfl (flat_map enc32_ok _) (ltn rfl)) rfl ?_
                                  intro v7283
                                  by_cases c7284 : ((([] : List S32) ++ r328).length + ([(⟨a2, a3.extract 0 ((mn (a3.size : Int) 66).toNat)⟩ : S32)] : List S32).length) * 24 ≤ 140737488355328
                                  · rw [if_pos c7284] at h
                                    refine VL.sG (o_append 1 appm Try.underlying23 EI33 rfl rfl rfl (.inr ⟨0, _, rfl⟩) (bndm c7284) (ltn rfl)) rfl ?_
                                    intro v7285
                                    refine VL.va (op_fieldAddr FI25_1 rfl (add_at _ _ _) (ltn rfl)) rfl ?_
                                    refine VL.step1 (o_store 0 1 rfl rfl rfl TI23 (.r 1 rfl) rfl (len rfl)) rfl ?_
                                    refine VL.done ?_
                                    refine VN.then ?_
                                    refine VC.seq ?_
                                    refine VC.region ?_
                                    refine VL.va (op_move rfl (ltn rfl)) rfl ?_
                                    refine VL.letter ((t762 == 0)) fun b7291 hb7291 => ?_
                                    refine VL.va (op_cmp rfl rfl (congrArg some hb7291) (ltn rfl)) rfl ?_
                                    refine VL.va (op_move rfl (ltn rfl)) rfl ?_
                                    by_cases c7292 : t762 = 0
                                    · rw [if_pos c7292] at h
                                      obtain rfl : b7291 = true := hb7291.symm.trans (beq_iff_eq.2 c7292)
                                      refine VL.va (op_load 2 2 rfl rfl TI25 rfl (fun h => absurd h (by decide)) (ltn rfl)) rfl ?_
                                      refine VL.va (op_load 0 2 rfl rfl TI25 rfl (fun h => absurd h (by decide)) (ltn rfl)) rfl ?_
                                      replace h := Option.bind_eq_some_iff.1 h
                                      obtain ⟨t7293, hA7294, h⟩ := h
                                      refine VL.sC (o_call_b0 FO13 (tarryref03_Like.ok k r760 r761 r327 ((([] : List S32) ++ r328) ++ ([(⟨a2, a3.extract 0 ((mn (a3.size : Int) 66).toNat)⟩ : S32)] : List S32)) v765 v767 v331 v7285 t7293 hA7294) rfl rfl (ltn rfl) (All_of (.cons (.inl (List.mem_of_getElem? (i := 0) rfl)) (.cons (.inl (List.mem_of_getElem? (i := 1) rfl)) (.cons (.inl (List.mem_of_getElem? (i := 2) rfl)) (.cons (.inr (.inl ⟨_, List.mem_of_getElem? (i := 1) rfl, rfl⟩)) .nil))))) (by rintro _ _ _ ⟨rfl, rfl, rfl⟩; rfl)) rfl ?_
                                      rintro _ _ _ ⟨rfl, rfl, rfl⟩
                                      refine VL.va (op_pick rfl rfl (ltn rfl)) rfl ?_
                                      refine VL.va (op_assign rfl (ltn rfl)) rfl ?_
                                      refine VL.done ?_
                                      refine VN.then ?_
                                      refine VC.ret ?_
                                      obtain rfl := Option.some.inj h
                                      exact VR.fn (rs := [.tmp 12]) [] [] [] rfl (.tmp rfl .nil) ⟨rfl, rfl, rfl⟩ trivial rfl (by decide)
                                    · rw [if_neg c7292] at h
                                      obtain rfl : b7291 = false := hb7291.symm.trans (beq_eq_false_iff_ne.2 c7292)
                                      refine VL.un rfl rfl (ltn rfl) ?_
                                      refine VL.un rfl rfl (ltn rfl) ?_
                                      refine VL.un rfl rfl (ltn rfl) ?_
                                      refine VL.va (op_pick rfl rfl (ltn rfl)) rfl ?_
                                      refine VL.va (op_assign rfl (ltn rfl)) rfl ?_
                                      refine VL.done ?_
                                      refine VN.then ?_
                                      refine VC.ret ?_
                                      cases h
                                  · rw [if_neg c7284] at h; cases h
                                · rw [if_neg c7279] at h; cases h
                            · rw [if_neg c7247] at h
                              obtain rfl : b7246 = true := hb7246.symm.trans (bne_iff_ne.2 c7247)
                              refine VC.cond_t rfl ?_
                              refine VC.seq ?_
                              refine VC.region ?_
                              refine VL.va (op_move rfl (ltn rfl)) rfl ?_
                              refine VL.letter ((t762 == 1)) fun b7301 hb7301 => ?_
                              refine VL.va (op_cmp rfl rfl (congrArg some hb7301) (ltn rfl)) rfl ?_
                              refine VL.va (op_move rfl (ltn rfl)) rfl ?_
                              by_cases c7302 : t762 = 1
                              · rw [if_pos c7302] at h
                                obtain rfl : b7301 = true := hb7301.symm.trans (beq_iff_eq.2 c7302)
                                refine VL.va (op_load 1 2 rfl rfl TI25 rfl (fun h => absurd h (by decide)) (ltn rfl)) rfl ?_
                                refine VL.va (op_load 0 2 rfl rfl TI25 rfl (fun h => absurd h (by decide)) (ltn rfl)) rfl ?_
                                refine VL.nilFact' 1 ?_
                                refine VL.nilFact' 2 ?_
                                replace h := Option.bind_eq_some_iff.1 h
                                obtain ⟨t7305, hA7306, h⟩ := h
                                refine VL.sC (o_call0 FO13 (tarryref03_Like.ok k r760 r761 [] [] v765 v767 (.slice none 0 0) (.slice none 0 0) t7305 hA7306) rfl rfl (ltn rfl) (All_of (.cons (List.mem_of_getElem? (i := 2) rfl) (.cons (List.mem_of_getElem? (i := 3) rfl) (.cons (List.mem_of_getElem? (i := 1) rfl) (.cons (List.mem_of_getElem? (i := 0) rfl) .nil)))))) rfl ?_
                                rintro _ _ _ ⟨rfl, rfl, rfl⟩
                                refine VL.va (op_pick rfl rfl (ltn rfl)) rfl ?_
                                refine VL.va (op_assign rfl (ltn rfl)) rfl ?_
                                refine VL.done ?_
                                refine VN.then ?_
                                refine VC.ret ?_
                                refine VR.then ?_
                                obtain rfl := Option.some.inj h
                                exact VR.fn (rs := [.tmp 12]) [] [] [] rfl (.tmp rfl .nil) ⟨rfl, rfl, rfl⟩ trivial rfl (by decide)
                              · rw [if_neg c7302] at h
                                obtain rfl : b7301 = false := hb7301.symm.trans (beq_eq_false_iff_ne.2 c7302)
                                refine VL.un rfl rfl (ltn rfl) ?_
                                refine VL.un rfl rfl (ltn rfl) ?_
                                refine VL.un rfl rfl (ltn rfl) ?_
                                refine VL.va (op_pick rfl rfl (ltn rfl)) rfl ?_
                                refine VL.va (op_assign rfl (ltn rfl)) rfl ?_
                                refine VL.done ?_
                                refine VN.then ?_
                                refine VC.ret ?_
                                refine VR.then ?_
                                cases h
                          · rw [if_neg c7231] at h
                            obtain rfl : b7230 = true := hb7230.symm.trans (bne_of_f c7231)
                            refine VC.cond_t rfl ?_
                            refine VC.seq ?_
                            refine VC.region ?_
                            refine VL.va (op_assign rfl (ltn rfl)) rfl ?_
                            refine VL.done ?_
                            refine VN.then ?_
                            refine VC.ret ?_
                            refine VR.then ?_
                            cases h
                        · rw [if_neg c7227] at h
                          obtain rfl : b7226 = true := hb7226.symm.trans (bne_iff_ne.2 c7227)
                          refine VL.un rfl rfl (ltn rfl) ?_
                          refine VL.un rfl rfl (ltn rfl) ?_
                          refine VL.un rfl rfl (ltn rfl) ?_
                          refine VL.un rfl rfl (ltn rfl) ?_
                          refine VL.un rfl rfl (ltn rfl) ?_
                          refine VL.va (op_pick rfl rfl (ltn rfl)) rfl ?_
                          refine VL.done ?_
                          refine VN.then ?_
                          refine VC.cond_t rfl ?_
                          refine VC.seq ?_
                          refine VC.region ?_
                          refine VL.va (op_assign rfl (ltn rfl)) rfl ?_
                          refine VL.done ?_
                          refine VN.then ?_
                          refine VC.ret ?_
                          refine VR.then ?_
                          cases h
                  · rw [if_neg c7115] at h
                    obtain rfl := Bool.eq_false_iff.2 c7115
                    refine VC.join0 (⟨246, [(2, .int .i64 a2), (3, .string (a3.extract 0 ((mn (a3.size : Int) 66).toNat))), (6, .pointer (some ⟨g3, 0, none⟩)), (12, .bool false), (15, .pointer (some ⟨g768, 0, none⟩)), (16, .int .i64 t762), (17, .string t918), (18, .int .i64 t919), (23, .pointer (some ⟨g1445, 0, none⟩)), (173, .bool true)], [.row v765 1 (r760.map enc_str), .row v767 2 (r761.map enc32), .row v331 1 (r327.map enc_str), .row v333 2 (r328.map enc32)], [(g1445, 25, [.slice none 0 0, .slice none 0 0]), (g768, 25, [v765, v767]), (g3, 25, [v331, v333])], []⟩) (True) ?_ ?_
                    · refine VC.draw ⟨0, [], [], [(g1444, 25, [v1441, v1443]), (g1435, 25, [v1432, v1434]), (g3, 25, [v331, v333])], []⟩ (by kernel_rfl) rfl (by kernel_rfl) (n := 22) (listed := LB 22 0) ?_
                      refine VA.va (i := 0) (listed' := LB 22 1) rfl (op_move rfl (ltn rfl)) rfl (by kernel_rfl) (by kernel_rfl) (by kernel_rfl) (by kernel_rfl) ⟨trivial, ⟨⟨1, rfl⟩, ⟨2, rfl⟩, ⟨4, rfl⟩, trivial⟩, trivial⟩ (fun _ _ _ h => h) ?_
                      refine VA.va (i := 1) (listed' := LB 22 3) rfl (op_cmp rfl rfl (congrArg some hb7092) (ltn rfl)) rfl (by kernel_rfl) (by kernel_rfl) (by kernel_rfl) (by kernel_rfl) ⟨trivial, ⟨⟨1, rfl⟩, ⟨2, rfl⟩, ⟨4, rfl⟩, trivial⟩, trivial⟩ (fun _ _ _ h => h) ?_
                      refine VA.va (i := 2) (listed' := LB 22 7) rfl (op_move rfl (ltn rfl)) rfl (by kernel_rfl) (by kernel_rfl) (by kernel_rfl) (by kernel_rfl) ⟨trivial, ⟨⟨1, rfl⟩, ⟨2, rfl⟩, ⟨4, rfl⟩, trivial⟩, trivial⟩ (fun _ _ _ h => h) ?_
                      refine VA.va (i := 3) (listed' := LB 22 15) rfl (op_load 1 2 rfl rfl TI25 rfl (fun h => absurd h (by decide)) (ltn rfl)) rfl (by kernel_rfl) (by kernel_rfl) (by kernel_rfl) (by kernel_rfl) ⟨trivial, ⟨⟨1, rfl⟩, ⟨2, rfl⟩, ⟨4, rfl⟩, trivial⟩, trivial⟩ (fun _ _ _ h => h) ?_
                      refine VA.va (i := 4) (listed' := LB 22 31) rfl (op_load 2 2 rfl rfl TI25 rfl (fun h => absurd h (by decide)) (ltn rfl)) rfl (by kernel_rfl) (by kernel_rfl) (by kernel_rfl) (by kernel_rfl) ⟨trivial, ⟨⟨1, rfl⟩, ⟨2, rfl⟩, ⟨4, rfl⟩, trivial⟩, trivial⟩ (fun _ _ _ h => h) ?_
                      refine VA.oneC (i := 5) (listed' := LB 22 63) (by kernel_rfl) rfl (o_call0 FO17 (tarryref03_Crash.ok k r327 r328 18446744073709551615 0 v331 v333 r7094 r7095 hA7096) rfl rfl (ltn rfl) (All_of (.cons (List.mem_of_getElem? (i := 2) rfl) (.cons (List.mem_of_getElem? (i := 3) rfl) .nil)))) rfl (by kernel_rfl) ?_
                      rintro _ _ _ ⟨v7098, v7100, rfl, rfl, rfl⟩
                      refine ⟨⟨trivial, ⟨⟨1, rfl⟩, ⟨2, rfl⟩, ⟨4, rfl⟩, trivial⟩, trivial⟩, ?_⟩
                      refine VA.oneC (i := 6) (listed' := LB 22 127) (by kernel_rfl) rfl (o_call_b0 FO13 (tarryref03_Like.ok k r1427 r1428 r7094 r7095 v1432 v1434 v7098 v7100 true hA7102) rfl rfl (ltn rfl) (All_of (.cons (.inr (.inl ⟨_, List.mem_of_getElem? (i := 3) rfl, rfl⟩)) (.cons (.inr (.inl ⟨_, List.mem_of_getElem? (i := 4) rfl, rfl⟩)) (.cons (.inl (List.mem_of_getElem? (i := 0) rfl)) (.cons (.inr (.inl ⟨_, List.mem_of_getElem? (i := 0) rfl, rfl⟩)) .nil))))) (by rintro _ _ _ ⟨rfl, rfl, rfl⟩; rfl)) rfl (by kernel_rfl) ?_
                      rintro _ _ _ ⟨rfl, rfl, rfl⟩
                      refine ⟨⟨trivial, ⟨⟨1, rfl⟩, ⟨2, rfl⟩, ⟨4, rfl⟩, trivial⟩, trivial⟩, ?_⟩
                      refine VA.va (i := 7) (listed' := LB 22 255) rfl (op_not rfl rfl (ltn rfl)) rfl (by kernel_rfl) (by kernel_rfl) (by kernel_rfl) (by kernel_rfl) ⟨trivial, ⟨⟨1, rfl⟩, ⟨2, rfl⟩, ⟨4, rfl⟩, trivial⟩, trivial⟩ (fun _ _ _ h => h) ?_
                      refine VA.va (i := 8) (listed' := LB 22 511) rfl (op_pick rfl rfl (ltn rfl)) rfl (by kernel_rfl) (by kernel_rfl) (by kernel_rfl) (by kernel_rfl) ⟨trivial, ⟨⟨1, rfl⟩, ⟨2, rfl⟩, ⟨4, rfl⟩, trivial⟩, trivial⟩ (fun _ _ _ h => h) ?_
                      refine VA.va (i := 9) (listed' := LB 22 1023) rfl (op_move rfl (ltn rfl)) rfl (by kernel_rfl) (by kernel_rfl) (by kernel_rfl) (by kernel_rfl) ⟨trivial, ⟨⟨1, rfl⟩, ⟨2, rfl⟩, ⟨4, rfl⟩, trivial⟩, trivial⟩ (fun _ _ _ h => h) ?_
                      refine VA.va (i := 10) (listed' := LB 22 2047) rfl (op_move rfl (ltn rfl)) rfl (by kernel_rfl) (by kernel_rfl) (by kernel_rfl) (by kernel_rfl) ⟨trivial, ⟨⟨1, rfl⟩, ⟨2, rfl⟩, ⟨4, rfl⟩, trivial⟩, trivial⟩ (fun _ _ _ h => h) ?_
                      refine VA.va (i := 11) (listed' := LB 22 4095) rfl (op_cmp rfl rfl (congrArg some hb7104) (ltn rfl)) rfl (by kernel_rfl) (by kernel_rfl) (by kernel_rfl) (by kernel_rfl) ⟨trivial, ⟨⟨1, rfl⟩, ⟨2, rfl⟩, ⟨4, rfl⟩, trivial⟩, trivial⟩ (fun _ _ _ h => h) ?_
                      refine VA.va (i := 12) (listed' := LB 22 8191) rfl (op_pick rfl rfl (ltn rfl)) rfl (by kernel_rfl) (by kernel_rfl) (by kernel_rfl) (by kernel_rfl) ⟨trivial, ⟨⟨1, rfl⟩, ⟨2, rfl⟩, ⟨4, rfl⟩, trivial⟩, trivial⟩ (fun _ _ _ h => h) ?_
                      refine VA.va (i := 13) (listed' := LB 22 16383) rfl (op_move rfl (ltn rfl)) rfl (by kernel_rfl) (by kernel_rfl) (by kernel_rfl) (by kernel_rfl) ⟨trivial, ⟨⟨1, rfl⟩, ⟨2, rfl⟩, ⟨4, rfl⟩, trivial⟩, trivial⟩ (fun _ _ _ h => h) ?_
                      refine VA.va (i := 14) (listed' := LB 22 32767) rfl (op_load 0 2 rfl rfl TI25 rfl (fun h => absurd h (by decide)) (ltn rfl)) rfl (by kernel_rfl) (by kernel_rfl) (by kernel_rfl) (by kernel_rfl) ⟨trivial, ⟨⟨1, rfl⟩, ⟨2, rfl⟩, ⟨4, rfl⟩, trivial⟩, trivial⟩ (fun _ _ _ h => h) ?_
                      refine VA.va (i := 15) (listed' := LB 22 65535) rfl (op_load 2 2 rfl rfl TI25 rfl (fun h => absurd h (by decide)) (ltn rfl)) rfl (by kernel_rfl) (by kernel_rfl) (by kernel_rfl) (by kernel_rfl) ⟨trivial, ⟨⟨1, rfl⟩, ⟨2, rfl⟩, ⟨4, rfl⟩, trivial⟩, trivial⟩ (fun _ _ _ h => h) ?_
                      refine VA.va (i := 16) (listed' := LB 22 131071) rfl (op_move rfl (ltn rfl)) rfl (by kernel_rfl) (by kernel_rfl) (by kernel_rfl) (by kernel_rfl) ⟨trivial, ⟨⟨1, rfl⟩, ⟨2, rfl⟩, ⟨4, rfl⟩, trivial⟩, trivial⟩ (fun _ _ _ h => h) ?_
                      refine VA.va (i := 17) (listed' := LB 22 262143) rfl (op_move rfl (ltn rfl)) rfl (by kernel_rfl) (by kernel_rfl) (by kernel_rfl) (by kernel_rfl) ⟨trivial, ⟨⟨1, rfl⟩, ⟨2, rfl⟩, ⟨4, rfl⟩, trivial⟩, trivial⟩ (fun _ _ _ h => h) ?_
                      refine VA.oneC (i := 18) (listed' := LB 22 524287) (by kernel_rfl) rfl (o_call0 FO17 (tarryref03_Crash.ok k r327 r328 a4 a5 v331 v333 r7106 r7107 hA7108) rfl rfl (ltn rfl) (All_of (.cons (List.mem_of_getElem? (i := 3) rfl) (.cons (List.mem_of_getElem? (i := 4) rfl) .nil)))) rfl (by kernel_rfl) ?_
                      rintro _ _ _ ⟨v7110, v7112, rfl, rfl, rfl⟩
                      refine ⟨⟨trivial, ⟨⟨1, rfl⟩, ⟨2, rfl⟩, ⟨4, rfl⟩, trivial⟩, trivial⟩, ?_⟩
                      refine VA.oneC (i := 19) (listed' := LB 22 1048575) (by kernel_rfl) rfl (o_call_b0 FO13 (tarryref03_Like.ok k r1436 r1437 r7106 r7107 v1441 v1443 v7110 v7112 false hA7114) rfl rfl (ltn rfl) (All_of (.cons (.inr (.inl ⟨_, List.mem_of_getElem? (i := 2) rfl, rfl⟩)) (.cons (.inr (.inl ⟨_, List.mem_of_getElem? (i := 3) rfl, rfl⟩)) (.cons (.inl (List.mem_of_getElem? (i := 0) rfl)) (.cons (.inr (.inl ⟨_, List.mem_of_getElem? (i := 0) rfl, rfl⟩)) .nil))))) (by rintro _ _ _ ⟨rfl, rfl, rfl⟩; rfl)) rfl (by kernel_rfl) ?_
                      rintro _ _ _ ⟨rfl, rfl, rfl⟩
                      refine ⟨⟨trivial, ⟨⟨1, rfl⟩, ⟨2, rfl⟩, ⟨4, rfl⟩, trivial⟩, trivial⟩, ?_⟩
                      refine VA.va (i := 20) (listed' := LB 22 2097151) rfl (op_not rfl rfl (ltn rfl)) rfl (by kernel_rfl) (by kernel_rfl) (by kernel_rfl) (by kernel_rfl) ⟨trivial, ⟨⟨1, rfl⟩, ⟨2, rfl⟩, ⟨4, rfl⟩, trivial⟩, trivial⟩ (fun _ _ _ h => h) ?_
                      refine VA.va (i := 21) (listed' := LB 22 4194303) rfl (op_pick rfl rfl (ltn rfl)) rfl (by kernel_rfl) (by kernel_rfl) (by kernel_rfl) (by kernel_rfl) ⟨trivial, ⟨⟨1, rfl⟩, ⟨2, rfl⟩, ⟨4, rfl⟩, trivial⟩, trivial⟩ (fun _ _ _ h => h) ?_
                      refine VA.done (by kernel_rfl) ?_
                      exact VN.meet0  [0, 3, 4] [] trivial ⟨rfl, ⟨rfl, rfl, rfl, rfl, rfl, rfl, rfl, rfl, rfl, rfl, trivial⟩, ⟨⟨2, rfl⟩, ⟨3, rfl⟩, ⟨4, rfl⟩, ⟨5, rfl⟩, trivial⟩, rfl, by decide, rfl, by decide⟩
                    intro _
                    refine VC.cond_t rfl ?_
                    refine VC.seq ?_
                    refine VC.region ?_
                    refine VL.va (op_assign rfl (ltn rfl)) rfl ?_
                    refine VL.done ?_
                    refine VN.then ?_
                    refine VC.ret ?_
                    refine VR.then ?_
                    cases h
                · rw [if_neg c7105] at h
                  obtain rfl : b7104 = true := hb7104.symm.trans (bne_iff_ne.2 c7105)
                  refine VC.join0 (⟨246, [(2, .int .i64 a2), (3, .string (a3.extract 0 ((mn (a3.size : Int) 66).toNat))), (6, .pointer (some ⟨g3, 0, none⟩)), (12, .bool false), (15, .pointer (some ⟨g768, 0, none⟩)), (16, .int .i64 t762), (17, .string t918), (18, .int .i64 t919), (23, .pointer (some ⟨g1445, 0, none⟩)), (173, .bool true)], [.row v765 1 (r760.map enc_str), .row v767 2 (r761.map enc32), .row v331 1 (r327.map enc_str), .row v333 2 (r328.map enc32)], [(g1445, 25, [.slice none 0 0, .slice none 0 0]), (g768, 25, [v765, v767]), (g3, 25, [v331, v333])], []⟩) (True) ?_ ?_
                  · refine VC.draw ⟨0, [], [], [(g1435, 25, [v1432, v1434]), (g3, 25, [v331, v333])], []⟩ (by kernel_rfl) rfl (by kernel_rfl) (n := 22) (listed := LB 22 0) ?_
                    refine VA.va (i := 0) (listed' := LB 22 1) rfl (op_move rfl (ltn rfl)) rfl (by kernel_rfl) (by kernel_rfl) (by kernel_rfl) (by kernel_rfl) ⟨trivial, ⟨⟨2, rfl⟩, ⟨4, rfl⟩, trivial⟩, trivial⟩ (fun _ _ _ h => h) ?_
                    refine VA.va (i := 1) (listed' := LB 22 3) rfl (op_cmp rfl rfl (congrArg some hb7092) (ltn rfl)) rfl (by kernel_rfl) (by kernel_rfl) (by kernel_rfl) (by kernel_rfl) ⟨trivial, ⟨⟨2, rfl⟩, ⟨4, rfl⟩, trivial⟩, trivial⟩ (fun _ _ _ h => h) ?_
                    refine VA.va (i := 2) (listed' := LB 22 7) rfl (op_move rfl (ltn rfl)) rfl (by kernel_rfl) (by kernel_rfl) (by kernel_rfl) (by kernel_rfl) ⟨trivial, ⟨⟨2, rfl⟩, ⟨4, rfl⟩, trivial⟩, trivial⟩ (fun _ _ _ h => h) ?_
                    refine VA.va (i := 3) (listed' := LB 22 15) rfl (op_load 0 2 rfl rfl TI25 rfl (fun h => absurd h (by decide)) (ltn rfl)) rfl (by kernel_rfl) (by kernel_rfl) (by kernel_rfl) (by kernel_rfl) ⟨trivial, ⟨⟨2, rfl⟩, ⟨4, rfl⟩, trivial⟩, trivial⟩ (fun _ _ _ h => h) ?_
                    refine VA.va (i := 4) (listed' := LB 22 31) rfl (op_load 1 2 rfl rfl TI25 rfl (fun h => absurd h (by decide)) (ltn rfl)) rfl (by kernel_rfl) (by kernel_rfl) (by kernel_rfl) (by kernel_rfl) ⟨trivial, ⟨⟨2, rfl⟩, ⟨4, rfl⟩, trivial⟩, trivial⟩ (fun _ _ _ h => h) ?_
                    refine VA.oneC (i := 5) (listed' := LB 22 63) (by kernel_rfl) rfl (o_call0 FO17 (tarryref03_Crash.ok k r327 r328 18446744073709551615 0 v331 v333 r7094 r7095 hA7096) rfl rfl (ltn rfl) (All_of (.cons (List.mem_of_getElem? (i := 2) rfl) (.cons (List.mem_of_getElem? (i := 3) rfl) .nil)))) rfl (by kernel_rfl) ?_
                    rintro _ _ _ ⟨v7098, v7100, rfl, rfl, rfl⟩
                    refine ⟨⟨trivial, ⟨⟨2, rfl⟩, ⟨4, rfl⟩, trivial⟩, trivial⟩, ?_⟩
                    refine VA.oneC (i := 6) (listed' := LB 22 127) (by kernel_rfl) rfl (o_call_b0 FO13 (tarryref03_Like.ok k r1427 r1428 r7094 r7095 v1432 v1434 v7098 v7100 true hA7102) rfl rfl (ltn rfl) (All_of (.cons (.inr (.inl ⟨_, List.mem_of_getElem? (i := 3) rfl, rfl⟩)) (.cons (.inr (.inl ⟨_, List.mem_of_getElem? (i := 4) rfl, rfl⟩)) (.cons (.inl (List.mem_of_getElem? (i := 0) rfl)) (.cons (.inr (.inl ⟨_, List.mem_of_getElem? (i := 0) rfl, rfl⟩)) .nil))))) (by rintro _ _ _ ⟨rfl, rfl, rfl⟩; rfl)) rfl (by kernel_rfl) ?_
                    rintro _ _ _ ⟨rfl, rfl, rfl⟩
                    refine ⟨⟨trivial, ⟨⟨2, rfl⟩, ⟨4, rfl⟩, trivial⟩, trivial⟩, ?_⟩
                    refine VA.va (i := 7) (listed' := LB 22 255) rfl (op_not rfl rfl (ltn rfl)) rfl (by kernel_rfl) (by kernel_rfl) (by kernel_rfl) (by kernel_rfl) ⟨trivial, ⟨⟨2, rfl⟩, ⟨4, rfl⟩, trivial⟩, trivial⟩ (fun _ _ _ h => h) ?_
                    refine VA.va (i := 8) (listed' := LB 22 511) rfl (op_pick rfl rfl (ltn rfl)) rfl (by kernel_rfl) (by kernel_rfl) (by kernel_rfl) (by kernel_rfl) ⟨trivial, ⟨⟨2, rfl⟩, ⟨4, rfl⟩, trivial⟩, trivial⟩ (fun _ _ _ h => h) ?_
                    refine VA.va (i := 9) (listed' := LB 22 1023) rfl (op_move rfl (ltn rfl)) rfl (by kernel_rfl) (by kernel_rfl) (by kernel_rfl) (by kernel_rfl) ⟨trivial, ⟨⟨2, rfl⟩, ⟨4, rfl⟩, trivial⟩, trivial⟩ (fun _ _ _ h => h) ?_
                    refine VA.va (i := 10) (listed' := LB 22 2047) rfl (op_move rfl (ltn rfl)) rfl (by kernel_rfl) (by kernel_rfl) (by kernel_rfl) (by kernel_rfl) ⟨trivial, ⟨⟨2, rfl⟩, ⟨4, rfl⟩, trivial⟩, trivial⟩ (fun _ _ _ h => h) ?_
                    refine VA.va (i := 11) (listed' := LB 22 4095) rfl (op_cmp rfl rfl (congrArg some hb7104) (ltn rfl)) rfl (by kernel_rfl) (by kernel_rfl) (by kernel_rfl) (by kernel_rfl) ⟨trivial, ⟨⟨2, rfl⟩, ⟨4, rfl⟩, trivial⟩, trivial⟩ (fun _ _ _ h => h) ?_
                    refine VA.va (i := 12) (listed' := LB 22 8191) rfl (op_pick rfl rfl (ltn rfl)) rfl (by kernel_rfl) (by kernel_rfl) (by kernel_rfl) (by kernel_rfl) ⟨trivial, ⟨⟨2, rfl⟩, ⟨4, rfl⟩, trivial⟩, trivial⟩ (fun _ _ _ h => h) ?_
                    refine VA.va (i := 13) (listed' := LB 22 16383) rfl (op_move rfl (ltn rfl)) rfl (by kernel_rfl) (by kernel_rfl) (by kernel_rfl) (by kernel_rfl) ⟨trivial, ⟨⟨2, rfl⟩, ⟨4, rfl⟩, trivial⟩, trivial⟩ (fun _ _ _ h => h) ?_
                    refine VA.un (i := 14) (listed' := LB 22 32767) rfl rfl rfl (ltn rfl) (by kernel_rfl) (by kernel_rfl) (by kernel_rfl) (by kernel_rfl) ⟨trivial, ⟨⟨2, rfl⟩, ⟨4, rfl⟩, trivial⟩, trivial⟩ (fun _ _ _ h => h) ?_
                    refine VA.un (i := 15) (listed' := LB 22 65535) rfl rfl rfl (ltn rfl) (by kernel_rfl) (by kernel_rfl) (by kernel_rfl) (by kernel_rfl) ⟨trivial, ⟨⟨2, rfl⟩, ⟨4, rfl⟩, trivial⟩, trivial⟩ (fun _ _ _ h => h) ?_
                    refine VA.un (i := 16) (listed' := LB 22 131071) rfl rfl rfl (ltn rfl) (by kernel_rfl) (by kernel_rfl) (by kernel_rfl) (by kernel_rfl) ⟨trivial, ⟨⟨2, rfl⟩, ⟨4, rfl⟩, trivial⟩, trivial⟩ (fun _ _ _ h => h) ?_
                    refine VA.un (i := 17) (listed' := LB 22 262143) rfl rfl rfl (ltn rfl) (by kernel_rfl) (by kernel_rfl) (by kernel_rfl) (by kernel_rfl) ⟨trivial, ⟨⟨2, rfl⟩, ⟨4, rfl⟩, trivial⟩, trivial⟩ (fun _ _ _ h => h) ?_
                    refine VA.un (i := 18) (listed' := LB 22 524287) rfl rfl rfl (ltn rfl) (by kernel_rfl) (by kernel_rfl) (by kernel_rfl) (by kernel_rfl) ⟨trivial, ⟨⟨2, rfl⟩, ⟨4, rfl⟩, trivial⟩, trivial⟩ (fun _ _ _ h => h) ?_
                    refine VA.un (i := 19) (listed' := LB 22 1048575) rfl rfl rfl (ltn rfl) (by kernel_rfl) (by kernel_rfl) (by kernel_rfl) (by kernel_rfl) ⟨trivial, ⟨⟨2, rfl⟩, ⟨4, rfl⟩, trivial⟩, trivial⟩ (fun _ _ _ h => h) ?_
                    refine VA.un (i := 20) (listed' := LB 22 2097151) rfl rfl rfl (ltn rfl) (by kernel_rfl) (by kernel_rfl) (by kernel_rfl) (by kernel_rfl) ⟨trivial, ⟨⟨2, rfl⟩, ⟨4, rfl⟩, trivial⟩, trivial⟩ (fun _ _ _ h => h) ?_
                    refine VA.va (i := 21) (listed' := LB 22 4194303) rfl (op_pick rfl rfl (ltn rfl)) rfl (by kernel_rfl) (by kernel_rfl) (by kernel_rfl) (by kernel_rfl) ⟨trivial, ⟨⟨2, rfl⟩, ⟨4, rfl⟩, trivial⟩, trivial⟩ (fun _ _ _ h => h) ?_
                    refine VA.done (by kernel_rfl) ?_
                    exact VN.meet0  [0, 3, 4] [] trivial ⟨rfl, ⟨rfl, rfl, rfl, rfl, rfl, rfl, rfl, rfl, rfl, rfl, trivial⟩, ⟨⟨1, rfl⟩, ⟨2, rfl⟩, ⟨3, rfl⟩, ⟨4, rfl⟩, trivial⟩, rfl, by decide, rfl, by decide⟩
                  intro _
                  refine VC.cond_t rfl ?_
                  refine VC.seq ?_
                  refine VC.region ?_
                  refine VL.va (op_assign rfl (ltn rfl)) rfl ?_
                  refine VL.done ?_
                  refine VN.then ?_
                  refine VC.ret ?_
                  refine VR.then ?_
                  cases h
              · rw [if_neg c7103] at h
                obtain rfl := Bool.eq_false_iff.2 c7103
                refine VC.join0 (⟨246, [(2, .int .i64 a2), (3, .string (a3.extract 0 ((mn (a3.size : Int) 66).toNat))), (6, .pointer (some ⟨g3, 0, none⟩)), (12, .bool false), (15, .pointer (some ⟨g768, 0, none⟩)), (16, .int .i64 t762), (17, .string t918), (18, .int .i64 t919), (23, .pointer (some ⟨g1445, 0, none⟩)), (173, .bool true)], [.row v765 1 (r760.map enc_str), .row v767 2 (r761.map enc32), .row v331 1 (r327.map enc_str), .row v333 2 (r328.map enc32)], [(g1445, 25, [.slice none 0 0, .slice none 0 0]), (g768, 25, [v765, v767]), (g3, 25, [v331, v333])], []⟩) (True) ?_ ?_
                · refine VC.draw ⟨0, [], [], [(g1435, 25, [v1432, v1434]), (g3, 25, [v331, v333])], []⟩ (by kernel_rfl) rfl (by kernel_rfl) (n := 22) (listed := LB 22 0) ?_
                  refine VA.va (i := 0) (listed' := LB 22 1) rfl (op_move rfl (ltn rfl)) rfl (by kernel_rfl) (by kernel_rfl) (by kernel_rfl) (by kernel_rfl) ⟨trivial, ⟨⟨2, rfl⟩, ⟨4, rfl⟩, trivial⟩, trivial⟩ (fun _ _ _ h => h) ?_
                  refine VA.va (i := 1) (listed' := LB 22 3) rfl (op_cmp rfl rfl (congrArg some hb7092) (ltn rfl)) rfl (by kernel_rfl) (by kernel_rfl) (by kernel_rfl) (by kernel_rfl) ⟨trivial, ⟨⟨2, rfl⟩, ⟨4, rfl⟩, trivial⟩, trivial⟩ (fun _ _ _ h => h) ?_
                  refine VA.va (i := 2) (listed' := LB 22 7) rfl (op_move rfl (ltn rfl)) rfl (by kernel_rfl) (by kernel_rfl) (by kernel_rfl) (by kernel_rfl) ⟨trivial, ⟨⟨2, rfl⟩, ⟨4, rfl⟩, trivial⟩, trivial⟩ (fun _ _ _ h => h) ?_
                  refine VA.va (i := 3) (listed' := LB 22 15) rfl (op_load 0 2 rfl rfl TI25 rfl (fun h => absurd h (by decide)) (ltn rfl)) rfl (by kernel_rfl) (by kernel_rfl) (by kernel_rfl) (by kernel_rfl) ⟨trivial, ⟨⟨2, rfl⟩, ⟨4, rfl⟩, trivial⟩, trivial⟩ (fun _ _ _ h => h) ?_
                  refine VA.va (i := 4) (listed' := LB 22 31) rfl (op_load 1 2 rfl rfl TI25 rfl (fun h => absurd h (by decide)) (ltn rfl)) rfl (by kernel_rfl) (by kernel_rfl) (by kernel_rfl) (by kernel_rfl) ⟨trivial, ⟨⟨2, rfl⟩, ⟨4, rfl⟩, trivial⟩, trivial⟩ (fun _ _ _ h => h) ?_
                  refine VA.oneC (i := 5) (listed' := LB 22 63) (by kernel_rfl) rfl (o_call0 FO17 (tarryref03_Crash.ok k r327 r328 18446744073709551615 0 v331 v333 r7094 r7095 hA7096) rfl rfl (ltn rfl) (All_of (.cons (List.mem_of_getElem? (i := 2) rfl) (.cons (List.mem_of_getElem? (i := 3) rfl) .nil)))) rfl (by kernel_rfl) ?_
                  rintro _ _ _ ⟨v7098, v7100, rfl, rfl, rfl⟩
                  refine ⟨⟨trivial, ⟨⟨2, rfl⟩, ⟨4, rfl⟩, trivial⟩, trivial⟩, ?_⟩
                  refine VA.oneC (i := 6) (listed' := LB 22 127) (by kernel_rfl) rfl (o_call_b0 FO13 (tarryref03_Like.ok k r1427 r1428 r7094 r7095 v1432 v1434 v7098 v7100 false hA7102) rfl rfl (ltn rfl) (All_of (.cons (.inr (.inl ⟨_, List.mem_of_getElem? (i := 3) rfl, rfl⟩)) (.cons (.inr (.inl ⟨_, List.mem_of_getElem? (i := 4) rfl, rfl⟩)) (.cons (.inl (List.mem_of_getElem? (i := 0) rfl)) (.cons (.inr (.inl ⟨_, List.mem_of_getElem? (i := 0) rfl, rfl⟩)) .nil))))) (by rintro _ _ _ ⟨rfl, rfl, rfl⟩; rfl)) rfl (by kernel_rfl) ?_
                  rintro _ _ _ ⟨rfl, rfl, rfl⟩
                  refine ⟨⟨trivial, ⟨⟨2, rfl⟩, ⟨4, rfl⟩, trivial⟩, trivial⟩, ?_⟩
                  refine VA.va (i := 7) (listed' := LB 22 255) rfl (op_not rfl rfl (ltn rfl)) rfl (by kernel_rfl) (by kernel_rfl) (by kernel_rfl) (by kernel_rfl) ⟨trivial, ⟨⟨2, rfl⟩, ⟨4, rfl⟩, trivial⟩, trivial⟩ (fun _ _ _ h => h) ?_
                  refine VA.va (i := 8) (listed' := LB 22 511) rfl (op_pick rfl rfl (ltn rfl)) rfl (by kernel_rfl) (by kernel_rfl) (by kernel_rfl) (by kernel_rfl) ⟨trivial, ⟨⟨2, rfl⟩, ⟨4, rfl⟩, trivial⟩, trivial⟩ (fun _ _ _ h => h) ?_
                  refine VA.va (i := 9) (listed' := LB 22 1023) rfl (op_move rfl (ltn rfl)) rfl (by kernel_rfl) (by kernel_rfl) (by kernel_rfl) (by kernel_rfl) ⟨trivial, ⟨⟨2, rfl⟩, ⟨4, rfl⟩, trivial⟩, trivial⟩ (fun _ _ _ h => h) ?_
                  refine VA.un (i := 10) (listed' := LB 22 2047) rfl rfl rfl (ltn rfl) (by kernel_rfl) (by kernel_rfl) (by kernel_rfl) (by kernel_rfl) ⟨trivial, ⟨⟨2, rfl⟩, ⟨4, rfl⟩, trivial⟩, trivial⟩ (fun _ _ _ h => h) ?_
                  refine VA.un (i := 11) (listed' := LB 22 4095) rfl rfl rfl (ltn rfl) (by kernel_rfl) (by kernel_rfl) (by kernel_rfl) (by kernel_rfl) ⟨trivial, ⟨⟨2, rfl⟩, ⟨4, rfl⟩, trivial⟩, trivial⟩ (fun _ _ _ h => h) ?_
                  refine VA.va (i := 12) (listed' := LB 22 8191) rfl (op_pick rfl rfl (ltn rfl)) rfl (by kernel_rfl) (by kernel_rfl) (by kernel_rfl) (by kernel_rfl) ⟨trivial, ⟨⟨2, rfl⟩, ⟨4, rfl⟩, trivial⟩, trivial⟩ (fun _ _ _ h => h) ?_
                  refine VA.va (i := 13) (listed' := LB 22 16383) rfl (op_move rfl (ltn rfl)) rfl (by kernel_rfl) (by kernel_rfl) (by kernel_rfl) (by kernel_rfl) ⟨trivial, ⟨⟨2, rfl⟩, ⟨4, rfl⟩, trivial⟩, trivial⟩ (fun _ _ _ h => h) ?_
                  refine VA.un (i := 14) (listed' := LB 22 32767) rfl rfl rfl (ltn rfl) (by kernel_rfl) (by kernel_rfl) (by kernel_rfl) (by kernel_rfl) ⟨trivial, ⟨⟨2, rfl⟩, ⟨4, rfl⟩, trivial⟩, trivial⟩ (fun _ _ _ h => h) ?_
                  refine VA.un (i := 15) (listed' := LB 22 65535) rfl rfl rfl (ltn rfl) (by kernel_rfl) (by kernel_rfl) (by kernel_rfl) (by kernel_rfl) ⟨trivial, ⟨⟨2, rfl⟩, ⟨4, rfl⟩, trivial⟩, trivial⟩ (fun _ _ _ h => h) ?_
                  refine VA.un (i := 16) (listed' := LB 22 131071) rfl rfl rfl (ltn rfl) (by kernel_rfl) (by kernel_rfl) (by kernel_rfl) (by kernel_rfl) ⟨trivial, ⟨⟨2, rfl⟩, ⟨4, rfl⟩, trivial⟩, trivial⟩ (fun _ _ _ h => h) ?_
                  refine VA.un (i := 17) (listed' := LB 22 262143) rfl rfl rfl (ltn rfl) (by kernel_rfl) (by kernel_rfl) (by kernel_rfl) (by kernel_rfl) ⟨trivial, ⟨⟨2, rfl⟩, ⟨4, rfl⟩, trivial⟩, trivial⟩ (fun _ _ _ h => h) ?_
                  refine VA.un (i := 18) (listed' := LB 22 524287) rfl rfl rfl (ltn rfl) (by kernel_rfl) (by kernel_rfl) (by kernel_rfl) (by kernel_rfl) ⟨trivial, ⟨⟨2, rfl⟩, ⟨4, rfl⟩, trivial⟩, trivial⟩ (fun _ _ _ h => h) ?_
                  refine VA.un (i := 19) (listed' := LB 22 1048575) rfl rfl rfl (ltn rfl) (by kernel_rfl) (by kernel_rfl) (by kernel_rfl) (by kernel_rfl) ⟨trivial, ⟨⟨2, rfl⟩, ⟨4, rfl⟩, trivial⟩, trivial⟩ (fun _ _ _ h => h) ?_
                  refine VA.un (i := 20) (listed' := LB 22 2097151) rfl rfl rfl (ltn rfl) (by kernel_rfl) (by kernel_rfl) (by kernel_rfl) (by kernel_rfl) ⟨trivial, ⟨⟨2, rfl⟩, ⟨4, rfl⟩, trivial⟩, trivial⟩ (fun _ _ _ h => h) ?_
                  refine VA.va (i := 21) (listed' := LB 22 4194303) rfl (op_pick rfl rfl (ltn rfl)) rfl (by kernel_rfl) (by kernel_rfl) (by kernel_rfl) (by kernel_rfl) ⟨trivial, ⟨⟨2, rfl⟩, ⟨4, rfl⟩, trivial⟩, trivial⟩ (fun _ _ _ h => h) ?_
                  refine VA.done (by kernel_rfl) ?_
                  exact VN.meet0  [0, 3, 4] [] trivial ⟨rfl, ⟨rfl, rfl, rfl, rfl, rfl, rfl, rfl, rfl, rfl, rfl, trivial⟩, ⟨⟨1, rfl⟩, ⟨2, rfl⟩, ⟨3, rfl⟩, ⟨4, rfl⟩, trivial⟩, rfl, by decide, rfl, by decide⟩
                intro _
                refine VC.cond_t rfl ?_
                refine VC.seq ?_
                refine VC.region ?_
                refine VL.va (op_assign rfl (ltn rfl)) rfl ?_
                refine VL.done ?_
                refine VN.then ?_
                refine VC.ret ?_
                refine VR.then ?_
                cases h
            · rw [if_neg c7093] at h
              obtain rfl : b7092 = true := hb7092.symm.trans (bne_iff_ne.2 c7093)
              refine VC.join0 (⟨246, [(2, .int .i64 a2), (3, .string (a3.extract 0 ((mn (a3.size : Int) 66).toNat))), (6, .pointer (some ⟨g3, 0, none⟩)), (12, .bool false), (15, .pointer (some ⟨g768, 0, none⟩)), (16, .int .i64 t762), (17, .string t918), (18, .int .i64 t919), (23, .pointer (some ⟨g1445, 0, none⟩)), (173, .bool true)], [.row v765 1 (r760.map enc_str), .row v767 2 (r761.map enc32), .row v331 1 (r327.map enc_str), .row v333 2 (r328.map enc32)], [(g1445, 25, [.slice none 0 0, .slice none 0 0]), (g768, 25, [v765, v767]), (g3, 25, [v331, v333])], []⟩) (True) ?_ ?_
              · refine VC.draw ⟨0, [], [], [], []⟩ (by kernel_rfl) rfl (by kernel_rfl) (n := 22) (listed := LB 22 0) ?_
                refine VA.va (i := 0) (listed' := LB 22 1) rfl (op_move rfl (ltn rfl)) rfl (by kernel_rfl) (by kernel_rfl) (by kernel_rfl) (by kernel_rfl) ⟨trivial, trivial, trivial⟩ (fun _ _ _ h => h) ?_
                refine VA.va (i := 1) (listed' := LB 22 3) rfl (op_cmp rfl rfl (congrArg some hb7092) (ltn rfl)) rfl (by kernel_rfl) (by kernel_rfl) (by kernel_rfl) (by kernel_rfl) ⟨trivial, trivial, trivial⟩ (fun _ _ _ h => h) ?_
                refine VA.va (i := 2) (listed' := LB 22 7) rfl (op_move rfl (ltn rfl)) rfl (by kernel_rfl) (by kernel_rfl) (by kernel_rfl) (by kernel_rfl) ⟨trivial, trivial, trivial⟩ (fun _ _ _ h => h) ?_
                refine VA.un (i := 3) (listed' := LB 22 15) rfl rfl rfl (ltn rfl) (by kernel_rfl) (by kernel_rfl) (by kernel_rfl) (by kernel_rfl) ⟨trivial, trivial, trivial⟩ (fun _ _ _ h => h) ?_
                refine VA.un (i := 4) (listed' := LB 22 31) rfl rfl rfl (ltn rfl) (by kernel_rfl) (by kernel_rfl) (by kernel_rfl) (by kernel_rfl) ⟨trivial, trivial, trivial⟩ (fun _ _ _ h => h) ?_
                refine VA.un (i := 5) (listed' := LB 22 63) rfl rfl rfl (ltn rfl) (by kernel_rfl) (by kernel_rfl) (by kernel_rfl) (by kernel_rfl) ⟨trivial, trivial, trivial⟩ (fun _ _ _ h => h) ?_
                refine VA.un (i := 6) (listed' := LB 22 127) rfl rfl rfl (ltn rfl) (by kernel_rfl) (by kernel_rfl) (by kernel_rfl) (by kernel_rfl) ⟨trivial, trivial, trivial⟩ (fun _ _ _ h => h) ?_
                refine VA.un (i := 7) (listed' := LB 22 255) rfl rfl rfl (ltn rfl) (by kernel_rfl) (by kernel_rfl) (by kernel_rfl) (by kernel_rfl) ⟨trivial, trivial, trivial⟩ (fun _ _ _ h => h) ?_
                refine VA.va (i := 8) (listed' := LB 22 511) rfl (op_pick rfl rfl (ltn rfl)) rfl (by kernel_rfl) (by kernel_rfl) (by kernel_rfl) (by kernel_rfl) ⟨trivial, trivial, trivial⟩ (fun _ _ _ h => h) ?_
                refine VA.va (i := 9) (listed' := LB 22 1023) rfl (op_move rfl (ltn rfl)) rfl (by kernel_rfl) (by kernel_rfl) (by kernel_rfl) (by kernel_rfl) ⟨trivial, trivial, trivial⟩ (fun _ _ _ h => h) ?_
                refine VA.un (i := 10) (listed' := LB 22 2047) rfl rfl rfl (ltn rfl) (by kernel_rfl) (by kernel_rfl) (by kernel_rfl) (by kernel_rfl) ⟨trivial, trivial, trivial⟩ (fun _ _ _ h => h) ?_
                refine VA.un (i := 11) (listed' := LB 22 4095) rfl rfl rfl (ltn rfl) (by kernel_rfl) (by kernel_rfl) (by kernel_rfl) (by kernel_rfl) ⟨trivial, trivial, trivial⟩ (fun _ _ _ h => h) ?_
                refine VA.va (i := 12) (listed' := LB 22 8191) rfl (op_pick rfl rfl (ltn rfl)) rfl (by kernel_rfl) (by kernel_rfl) (by kernel_rfl) (by kernel_rfl) ⟨trivial, trivial, trivial⟩ (fun _ _ _ h => h) ?_
                refine VA.va (i := 13) (listed' := LB 22 16383) rfl (op_move rfl (ltn rfl)) rfl (by kernel_rfl) (by kernel_rfl) (by kernel_rfl) (by kernel_rfl) ⟨trivial, trivial, trivial⟩ (fun _ _ _ h => h) ?_
                refine VA.un (i := 14) (listed' := LB 22 32767) rfl rfl rfl (ltn rfl) (by kernel_rfl) (by kernel_rfl) (by kernel_rfl) (by kernel_rfl) ⟨trivial, trivial, trivial⟩ (fun _ _ _ h => h) ?_
                refine VA.un (i := 15) (listed' := LB 22 65535) rfl rfl rfl (ltn rfl) (by kernel_rfl) (by kernel_rfl) (by kernel_rfl) (by kernel_rfl) ⟨trivial, trivial, trivial⟩ (fun _ _ _ h => h) ?_
                refine VA.un (i := 16) (listed' := LB 22 131071) rfl rfl rfl (ltn rfl) (by kernel_rfl) (by kernel_rfl) (by kernel_rfl) (by kernel_rfl) ⟨trivial, trivial, trivial⟩ (fun _ _ _ h => h) ?_
                refine VA.un (i := 17) (listed' := LB 22 262143) rfl rfl rfl (ltn rfl) (by kernel_rfl) (by kernel_rfl) (by kernel_rfl) (by kernel_rfl) ⟨trivial, trivial, trivial⟩ (fun _ _ _ h => h) ?_
                refine VA.un (i := 18) (listed' := LB 22 524287) rfl rfl rfl (ltn rfl) (by kernel_rfl) (by kernel_rfl) (by kernel_rfl) (by kernel_rfl) ⟨trivial, trivial, trivial⟩ (fun _ _ _ h => h) ?_
                refine VA.un (i := 19) (listed' := LB 22 1048575) rfl rfl rfl (ltn rfl) (by kernel_rfl) (by kernel_rfl) (by kernel_rfl) (by kernel_rfl) ⟨trivial, trivial, trivial⟩ (fun _ _ _ h => h) ?_
                refine VA.un (i := 20) (listed' := LB 22 2097151) rfl rfl rfl (ltn rfl) (by kernel_rfl) (by kernel_rfl) (by kernel_rfl) (by kernel_rfl) ⟨trivial, trivial, trivial⟩ (fun _ _ _ h => h) ?_
                refine VA.va (i := 21) (listed' := LB 22 4194303) rfl (op_pick rfl rfl (ltn rfl)) rfl (by kernel_rfl) (by kernel_rfl) (by kernel_rfl) (by kernel_rfl) ⟨trivial, trivial, trivial⟩ (fun _ _ _ h => h) ?_
                refine VA.done (by kernel_rfl) ?_
                exact VN.meet0  [0, 3, 4] [] trivial ⟨rfl, ⟨rfl, rfl, rfl, rfl, rfl, rfl, rfl, rfl, rfl, rfl, trivial⟩, ⟨⟨0, rfl⟩, ⟨1, rfl⟩, ⟨2, rfl⟩, ⟨3, rfl⟩, trivial⟩, rfl, by decide, rfl, by decide⟩
              intro _
              refine VC.cond_t rfl ?_
              refine VC.seq ?_
              refine VC.region ?_
              refine VL.va (op_assign rfl (ltn rfl)) rfl ?_
              refine VL.done ?_
              refine VN.then ?_
              refine VC.ret ?_
              refine VR.then ?_
              cases h
        · rw [if_neg c6666] at h
          obtain rfl := Bool.eq_false_iff.2 c6666
          refine VC.join0 (⟨246, [(2, .int .i64 a2), (3, .string (a3.extract 0 ((mn (a3.size : Int) 66).toNat))), (4, .int .u64 a4), (5, .int .i64 a5), (6, .pointer (some ⟨g3, 0, none⟩)), (12, .bool false), (15, .pointer (some ⟨g768, 0, none⟩)), (16, .int .i64 t762), (17, .string t918), (18, .int .i64 t919), (19, .pointer (some ⟨g1435, 0, none⟩)), (20, .int .i64 t1429), (21, .pointer (some ⟨g1444, 0, none⟩)), (22, .int .i64 t1438), (23, .pointer (some ⟨g1445, 0, none⟩)), (115, .bool true)], [.row v765 1 (r760.map enc_str), .row v767 2 (r761.map enc32), .row v331 1 (r327.map enc_str), .row v333 2 (r328.map enc32)], [(g1445, 25, [.slice none 0 0, .slice none 0 0]), (g1444, 25, [v1441, v1443]), (g1435, 25, [v1432, v1434]), (g768, 25, [v765, v767]), (g3, 25, [v331, v333])], [(v1441, 9, 1, r1436.map enc_str), (v1443, 33, 2, r1437.map enc32), (v1432, 9, 1, r1427.map enc_str), (v1434, 33, 2, r1428.map enc32)]⟩) (True) ?_ ?_
          · refine VC.draw ⟨0, [], [], [(g3, 25, [v331, v333])], []⟩ (by kernel_rfl) rfl (by kernel_rfl) (n := 9) (listed := LB 9 0) ?_
            refine VA.va (i := 0) (listed' := LB 9 1) rfl (op_load 0 2 rfl rfl TI25 rfl (fun h => absurd h (by decide)) (ltn rfl)) rfl (by kernel_rfl) (by kernel_rfl) (by kernel_rfl) (by kernel_rfl) ⟨trivial, ⟨⟨4, rfl⟩, trivial⟩, trivial⟩ (fun _ _ _ h => h) ?_
            refine VA.va (i := 2) (listed' := LB 9 5) rfl (op_load 0 2 rfl rfl TI25 rfl (fun h => absurd h (by decide)) (ltn rfl)) rfl (by kernel_rfl) (by kernel_rfl) (by kernel_rfl) (by kernel_rfl) ⟨trivial, ⟨⟨4, rfl⟩, trivial⟩, trivial⟩ (fun _ _ _ h => h) ?_
            refine VA.oneC (i := 1) (listed' := LB 9 7) (by kernel_rfl) rfl (o_call0 FO16 (disk_Right.ok k r327 r328 v331 v333 t6658 hA6659) rfl rfl (ltn rfl) (All_of (.cons (List.mem_of_getElem? (i := 2) rfl) (.cons (List.mem_of_getElem? (i := 3) rfl) .nil)))) rfl (by kernel_rfl) ?_
            rintro _ _ _ ⟨rfl, rfl, rfl⟩
            refine ⟨⟨trivial, ⟨⟨4, rfl⟩, trivial⟩, trivial⟩, ?_⟩
            refine VA.oneC (i := 3) (listed' := LB 9 15) (by kernel_rfl) rfl (o_call0 FO15 (tarryref03_Right.ok k r327 r328 v331 v333 t6660 hA6661) rfl rfl (ltn rfl) (All_of (.cons (List.mem_of_getElem? (i := 2) rfl) (.cons (List.mem_of_getElem? (i := 3) rfl) .nil)))) rfl (by kernel_rfl) ?_
            rintro _ _ _ ⟨rfl, rfl, rfl⟩
            refine ⟨⟨trivial, ⟨⟨4, rfl⟩, trivial⟩, trivial⟩, ?_⟩
            refine VA.va (i := 4) (listed' := LB 9 31) rfl (op_eqb Try.underlying4 rfl rfl (congrArg some hb6662) (ltn rfl)) rfl (by kernel_rfl) (by kernel_rfl) (by kernel_rfl) (by kernel_rfl) ⟨trivial, ⟨⟨4, rfl⟩, trivial⟩, trivial⟩ (fun _ _ _ h => h) ?_
            refine VA.va (i := 5) (listed' := LB 9 63) rfl (op_move rfl (ltn rfl)) rfl (by kernel_rfl) (by kernel_rfl) (by kernel_rfl) (by kernel_rfl) ⟨trivial, ⟨⟨4, rfl⟩, trivial⟩, trivial⟩ (fun _ _ _ h => h) ?_
            refine VA.oneC (i := 6) (listed' := LB 9 127) (by kernel_rfl) rfl (o_call0 FO8 (tarrylaw03_alive.ok k false hA6665) rfl rfl (ltn rfl) (All_of .nil)) rfl (by kernel_rfl) ?_
            rintro _ _ _ ⟨rfl, rfl, rfl⟩
            refine ⟨⟨trivial, ⟨⟨4, rfl⟩, trivial⟩, trivial⟩, ?_⟩
            refine VA.va (i := 7) (listed' := LB 9 255) rfl (op_not rfl rfl (ltn rfl)) rfl (by kernel_rfl) (by kernel_rfl) (by kernel_rfl) (by kernel_rfl) ⟨trivial, ⟨⟨4, rfl⟩, trivial⟩, trivial⟩ (fun _ _ _ h => h) ?_
            refine VA.va (i := 8) (listed' := LB 9 511) rfl (op_pick rfl rfl (ltn rfl)) rfl (by kernel_rfl) (by kernel_rfl) (by kernel_rfl) (by kernel_rfl) ⟨trivial, ⟨⟨4, rfl⟩, trivial⟩, trivial⟩ (fun _ _ _ h => h) ?_
            refine VA.done (by kernel_rfl) ?_
            exact VN.meet0  [0, 1, 2, 3, 4] [0, 1, 2, 3] trivial ⟨rfl, ⟨rfl, rfl, rfl, rfl, rfl, rfl, rfl, rfl, rfl, rfl, rfl, rfl, rfl, rfl, rfl, rfl, trivial⟩, ⟨⟨0, rfl⟩, ⟨1, rfl⟩, ⟨2, rfl⟩, ⟨3, rfl⟩, trivial⟩, rfl, by decide, rfl, by decide⟩
          intro _
          refine VC.cond_t rfl ?_
          refine VC.seq ?_
          refine VC.region ?_
          refine VL.va (op_assign rfl (ltn rfl)) rfl ?_
          refine VL.done ?_
          refine VN.then ?_
          refine VC.ret ?_
          refine VR.then ?_
          cases h
      · rw [if_neg c6663] at h
        obtain rfl : b6662 = true := hb6662.symm.trans (by simpa using c6663)
        refine VC.join0 (⟨246, [(2, .int .i64 a2), (3, .string (a3.extract 0 ((mn (a3.size : Int) 66).toNat))), (4, .int .u64 a4), (5, .int .i64 a5), (6, .pointer (some ⟨g3, 0, none⟩)), (12, .bool false), (15, .pointer (some ⟨g768, 0, none⟩)), (16, .int .i64 t762), (17, .string t918), (18, .int .i64 t919), (19, .pointer (some ⟨g1435, 0, none⟩)), (20, .int .i64 t1429), (21, .pointer (some ⟨g1444, 0, none⟩)), (22, .int .i64 t1438), (23, .pointer (some ⟨g1445, 0, none⟩)), (115, .bool true)], [.row v765 1 (r760.map enc_str), .row v767 2 (r761.map enc32), .row v331 1 (r327.map enc_str), .row v333 2 (r328.map enc32)], [(g1445, 25, [.slice none 0 0, .slice none 0 0]), (g1444, 25, [v1441, v1443]), (g1435, 25, [v1432, v1434]), (g768, 25, [v765, v767]), (g3, 25, [v331, v333])], [(v1441, 9, 1, r1436.map enc_str), (v1443, 33, 2, r1437.map enc32), (v1432, 9, 1, r1427.map enc_str), (v1434, 33, 2, r1428.map enc32)]⟩) (True) ?_ ?_
        · refine VC.draw ⟨0, [], [], [(g3, 25, [v331, v333])], []⟩ (by kernel_rfl) rfl (by kernel_rfl) (n := 9) (listed := LB 9 0) ?_
          refine VA.va (i := 0) (listed' := LB 9 1) rfl (op_load 0 2 rfl rfl TI25 rfl (fun h => absurd h (by decide)) (ltn rfl)) rfl (by kernel_rfl) (by kernel_rfl) (by kernel_rfl) (by kernel_rfl) ⟨trivial, ⟨⟨4, rfl⟩, trivial⟩, trivial⟩ (fun _ _ _ h => h) ?_
          refine VA.va (i := 2) (listed' := LB 9 5) rfl (op_load 0 2 rfl rfl TI25 rfl (fun h => absurd h (by decide)) (ltn rfl)) rfl (by kernel_rfl) (by kernel_rfl) (by kernel_rfl) (by kernel_rfl) ⟨trivial, ⟨⟨4, rfl⟩, trivial⟩, trivial⟩ (fun _ _ _ h => h) ?_
          refine VA.oneC (i := 1) (listed' := LB 9 7) (by kernel_rfl) rfl (o_call0 FO16 (disk_Right.ok k r327 r328 v331 v333 t6658 hA6659) rfl rfl (ltn rfl) (All_of (.cons (List.mem_of_getElem? (i := 2) rfl) (.cons (List.mem_of_getElem? (i := 3) rfl) .nil)))) rfl (by kernel_rfl) ?_
          rintro _ _ _ ⟨rfl, rfl, rfl⟩
          refine ⟨⟨trivial, ⟨⟨4, rfl⟩, trivial⟩, trivial⟩, ?_⟩
          refine VA.oneC (i := 3) (listed' := LB 9 15) (by kernel_rfl) rfl (o_call0 FO15 (tarryref03_Right.ok k r327 r328 v331 v333 t6660 hA6661) rfl rfl (ltn rfl) (All_of (.cons (List.mem_of_getElem? (i := 2) rfl) (.cons (List.mem_of_getElem? (i := 3) rfl) .nil)))) rfl (by kernel_rfl) ?_
          rintro _ _ _ ⟨rfl, rfl, rfl⟩
          refine ⟨⟨trivial, ⟨⟨4, rfl⟩, trivial⟩, trivial⟩, ?_⟩
          refine VA.va (i := 4) (listed' := LB 9 31) rfl (op_eqb Try.underlying4 rfl rfl (congrArg some hb6662) (ltn rfl)) rfl (by kernel_rfl) (by kernel_rfl) (by kernel_rfl) (by kernel_rfl) ⟨trivial, ⟨⟨4, rfl⟩, trivial⟩, trivial⟩ (fun _ _ _ h => h) ?_
          refine VA.va (i := 5) (listed' := LB 9 63) rfl (op_move rfl (ltn rfl)) rfl (by kernel_rfl) (by kernel_rfl) (by kernel_rfl) (by kernel_rfl) ⟨trivial, ⟨⟨4, rfl⟩, trivial⟩, trivial⟩ (fun _ _ _ h => h) ?_
          refine VA.un (i := 6) (listed' := LB 9 127) rfl rfl rfl (ltn rfl) (by kernel_rfl) (by kernel_rfl) (by kernel_rfl) (by kernel_rfl) ⟨trivial, ⟨⟨4, rfl⟩, trivial⟩, trivial⟩ (fun _ _ _ h => h) ?_
          refine VA.un (i := 7) (listed' := LB 9 255) rfl rfl rfl (ltn rfl) (by kernel_rfl) (by kernel_rfl) (by kernel_rfl) (by kernel_rfl) ⟨trivial, ⟨⟨4, rfl⟩, trivial⟩, trivial⟩ (fun _ _ _ h => h) ?_
          refine VA.va (i := 8) (listed' := LB 9 511) rfl (op_pick rfl rfl (ltn rfl)) rfl (by kernel_rfl) (by kernel_rfl) (by kernel_rfl) (by kernel_rfl) ⟨trivial, ⟨⟨4, rfl⟩, trivial⟩, trivial⟩ (fun _ _ _ h => h) ?_
          refine VA.done (by kernel_rfl) ?_
          exact VN.meet0  [0, 1, 2, 3, 4] [0, 1, 2, 3] trivial ⟨rfl, ⟨rfl, rfl, rfl, rfl, rfl, rfl, rfl, rfl, rfl, rfl, rfl, rfl, rfl, rfl, rfl, rfl, trivial⟩, ⟨⟨0, rfl⟩, ⟨1, rfl⟩, ⟨2, rfl⟩, ⟨3, rfl⟩, trivial⟩, rfl, by decide, rfl, by decide⟩
        intro _
        refine VC.cond_t rfl ?_
        refine VC.seq ?_
        refine VC.region ?_
        refine VL.va (op_assign rfl (ltn rfl)) rfl ?_
        refine VL.done ?_
        refine VN.then ?_
        refine VC.ret ?_
        refine VR.then ?_
        cases h
    · rw [if_neg c335] at h; cases h
  · rw [if_neg c334] at h; cases h

end Go.Proofs.Ytlfkendmepdbkaa.PDiskWorks
