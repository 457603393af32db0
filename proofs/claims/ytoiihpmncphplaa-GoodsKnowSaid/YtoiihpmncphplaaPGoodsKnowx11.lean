/- Written by a program of this repo: what the program's functions do, each as a Lean function, shown of the loaded code; or a statement's row over that; no condition of its own. -/
import Derived.Test.YtoiihpmncphplaaPGoodsKnowx10
namespace Go.Proofs.Ytoiihpmncphplaa.PGoodsKnow
open Go Go.RowKit Go.Proofs.YtoiihpmncphplaaV
set_option linter.unusedVariables false
set_option linter.unusedSimpArgs false

set_option maxHeartbeats 4000000 in
set_option maxRecDepth 100000 in
theorem tarrylaw07_GoodsKnow.ok (k : Nat) (l0_0 : List ByteArray) (l0_1 : List S22) (a1 : ByteArray) (a2_0 : ByteArray) (a2_1 : ByteArray) (a2_2 : Int) (a2_3 : Int) (a2_4 : Int) (v0_0 : Value) (v0_1 : Value) (r1 : Bool) (h : tarrylaw07_GoodsKnow.f k l0_0 l0_1 a1 a2_0 a2_1 a2_2 a2_3 a2_4 = some r1) :
    VCalls Try.prog 5 [.agg #[v0_0, v0_1], .string a1, .agg #[.string a2_0, .string a2_1, .int .i64 a2_2, .int .i64 a2_3, .int .i64 a2_4]] [.row v0_0 1 (l0_0.map enc_str), .row v0_1 5 (l0_1.map enc22)] (fun v G own => v = .bool r1 ∧ G = [] ∧ own = []) := by
  refine VCalls.intro Try.func5 rfl (len rfl) fun E hC => ?_
  unfold tarrylaw07_GoodsKnow.f at h
  refine VC.seq ?_
  refine VC.region ?_
  refine VL.sG (o_box rfl (.agg (.f 0 rfl (.f 1 rfl .nil))) (ltn rfl)) rfl ?_
  intro g3
  refine VL.sG (o_box rfl (.agg (.of rfl)) (ltn rfl)) rfl ?_
  intro g4
  refine VL.va (op_assign rfl (ltn rfl)) rfl ?_
  refine VL.done ?_
  refine VN.then ?_
  replace h := Option.bind_eq_some_iff.1 h
  obtain ⟨⟨r382, r383⟩, hA384, h⟩ := h
  dsimp only at h
  by_cases c389 : 0 ≤ mn (a1.size : Int) 18
  · rw [if_pos c389] at h
    by_cases c390 : (mn (a1.size : Int) 18) ≤ (a1.size : Int)
    · rw [if_pos c390] at h
      replace h := Option.bind_eq_some_iff.1 h
      obtain ⟨⟨t391, t392, t393, t394, t395⟩, hA396, h⟩ := h
      dsimp only at h
      refine VC.join2 (fun (v386 : Value) (v388 : Value) => ⟨225, [(1, .string (a1.extract 0 ((mn (a1.size : Int) 18).toNat))), (3, .pointer (some ⟨g3, 0, none⟩)), (5, .pointer (some ⟨g4, 0, none⟩)), (6, .bool false)], [], [(g4, 23, [.string t391, .string t392, .int .i64 t393, .int .i64 t394, .int .i64 t395]), (g3, 35, [v386, v388])], [(v386, 9, 1, r382.map enc_str), (v388, 23, 5, r383.map enc22)]⟩) (fun (v386 : Value) (v388 : Value) => True) ?_ ?_
      · refine VC.drawB ⟨0, [], [], [], []⟩ [9, 11] ⟨0, [], [], [(g4, 23, [.string a2_0, .string a2_1, .int .i64 a2_2, .int .i64 a2_3, .int .i64 a2_4]), (g3, 35, [v0_0, v0_1])], []⟩ (by kernel_rfl) rfl (by kernel_rfl) (n := 12) (listed := LB 12 0) ?_
        refine VB.vb (i := 0) (listed' := LB 12 1) rfl (op_load 1 2 rfl rfl TI35 rfl (fun h => absurd h (by decide)) (ltn rfl)) rfl (by kernel_rfl) (by kernel_rfl) (by kernel_rfl) (by kernel_rfl) (by kernel_rfl) (by kernel_rfl) (PartP.on ⟨trivial, trivial, trivial⟩ ⟨trivial, ⟨⟨0, rfl⟩, ⟨1, rfl⟩, trivial⟩, trivial⟩) (fun _ _ _ h => h) ?_
        refine VB.va (i := 2) (listed' := LB 12 5) rfl (op_move rfl (ltn rfl)) rfl (by kernel_rfl) (by kernel_rfl) (by kernel_rfl) (by kernel_rfl) (by decide) (PartP.on ⟨trivial, trivial, trivial⟩ ⟨trivial, ⟨⟨0, rfl⟩, ⟨1, rfl⟩, trivial⟩, trivial⟩) (fun _ _ _ h => h) ?_
        refine VB.va (i := 3) (listed' := LB 12 13) rfl (op_move rfl (ltn rfl)) rfl (by kernel_rfl) (by kernel_rfl) (by kernel_rfl) (by kernel_rfl) (by decide) (PartP.on ⟨trivial, trivial, trivial⟩ ⟨trivial, ⟨⟨0, rfl⟩, ⟨1, rfl⟩, trivial⟩, trivial⟩) (fun _ _ _ h => h) ?_
        refine VB.va (i := 4) (listed' := LB 12 29) rfl (op_lens Try.underlying9 rfl (ltn rfl)) rfl (by kernel_rfl) (by kernel_rfl) (by kernel_rfl) (by kernel_rfl) (by decide) (PartP.on ⟨trivial, trivial, trivial⟩ ⟨trivial, ⟨⟨0, rfl⟩, ⟨1, rfl⟩, trivial⟩, trivial⟩) (fun _ _ _ h => h) ?_
        refine VB.va (i := 5) (listed' := LB 12 61) rfl (op_min rfl rfl (ltn rfl)) rfl (by kernel_rfl) (by kernel_rfl) (by kernel_rfl) (by kernel_rfl) (by decide) (PartP.on ⟨trivial, trivial, trivial⟩ ⟨trivial, ⟨⟨0, rfl⟩, ⟨1, rfl⟩, trivial⟩, trivial⟩) (fun _ _ _ h => h) ?_
        refine VB.va (i := 6) (listed' := LB 12 125) rfl (op_sliceS 0 ((mn (a1.size : Int) 18).toNat) Try.underlying9 rfl ⟨rfl, ⟨_, _, rfl, c389, rfl⟩, by omega, by omega⟩ rfl (ltn rfl)) rfl (by kernel_rfl) (by kernel_rfl) (by kernel_rfl) (by kernel_rfl) (by decide) (PartP.on ⟨trivial, trivial, trivial⟩ ⟨trivial, ⟨⟨0, rfl⟩, ⟨1, rfl⟩, trivial⟩, trivial⟩) (fun _ _ _ h => h) ?_
        refine VB.all [1, 7] (by kernel_rfl) (by simp) ?_
        refine VBll.consC (listed' := LB 12 127) rfl (o_call0 FO11 (tarrylaw07_few.ok k l0_0 l0_1 v0_0 v0_1 r382 r383 hA384) rfl rfl (ltn rfl) (All_of (.cons (List.mem_of_getElem? (i := 0) rfl) (.cons (List.mem_of_getElem? (i := 1) rfl) .nil)))) rfl (by kernel_rfl) ?_ ?_
        · rintro _ _ _ ⟨v386, v388, rfl, rfl, rfl⟩
          refine ⟨(PartP.on ⟨trivial, trivial, trivial⟩ ⟨trivial, ⟨⟨0, rfl⟩, ⟨1, rfl⟩, trivial⟩, trivial⟩), ?_⟩
          refine VB.one1 (i := 7) (listed' := LB 12 255) (by kernel_rfl) rfl ((op_load 0 5 rfl rfl TI23 rfl (fun h => absurd h (by decide)) (ltn rfl)).op1') rfl (by kernel_rfl) (PartP.on ⟨trivial, trivial, trivial⟩ ⟨trivial, ⟨⟨0, rfl⟩, ⟨1, rfl⟩, trivial⟩, trivial⟩) ?_
          refine VB.oneC (i := 8) (listed' := LB 12 511) (by kernel_rfl) rfl (o_call0 FO6 (tarrylaw07_cut.ok a2_0 a2_1 a2_2 a2_3 a2_4 t391 t392 t393 t394 t395 hA396) rfl rfl (ltn rfl) (All_of .nil)) rfl (by kernel_rfl) ?_
          rintro _ _ _ ⟨rfl, rfl, rfl⟩
          refine ⟨(PartP.on ⟨trivial, trivial, trivial⟩ ⟨trivial, ⟨⟨0, rfl⟩, ⟨1, rfl⟩, trivial⟩, trivial⟩), ?_⟩
          refine VB.one1 (i := 9) (listed' := LB 12 1023) (by kernel_rfl) rfl (o_store 1 2 rfl rfl rfl TI35 (.agg (.r 0 rfl (.r 1 rfl .nil))) rfl (len rfl)) rfl (by kernel_rfl) (PartP.off (by kernel_rfl) ⟨trivial, trivial, trivial⟩) ?_
          refine VB.va (i := 10) (listed' := LB 12 2047) rfl (op_assign rfl (ltn rfl)) rfl (by kernel_rfl) (by kernel_rfl) (by kernel_rfl) (by kernel_rfl) (by decide) (PartP.off (by kernel_rfl) ⟨trivial, trivial, trivial⟩) (fun _ _ _ h => h) ?_
          refine VB.one1 (i := 11) (listed' := LB 12 4095) (by kernel_rfl) rfl (o_store 0 5 rfl rfl rfl TI23 (.agg (.of rfl)) rfl (len rfl)) rfl (by kernel_rfl) (PartP.off (by kernel_rfl) ⟨trivial, trivial, trivial⟩) ?_
          refine VB.done (by kernel_rfl) ?_
          exact VN.meet2 v386 v388 [0, 1] [0, 1] trivial ⟨rfl, ⟨rfl, rfl, rfl, rfl, trivial⟩, trivial, rfl, by decide, rfl, by decide⟩
        refine VBll.cons1 (listed' := LB 12 253) rfl ((op_load 0 5 rfl rfl TI23 rfl (fun h => absurd h (by decide)) (ltn rfl)).op1') rfl (by kernel_rfl) (PartP.on ⟨trivial, trivial, trivial⟩ ⟨trivial, ⟨⟨0, rfl⟩, ⟨1, rfl⟩, trivial⟩, trivial⟩) ?_ VBll.nil
        refine VB.oneC (i := 1) (listed' := LB 12 255) (by kernel_rfl) rfl (o_call0 FO11 (tarrylaw07_few.ok k l0_0 l0_1 v0_0 v0_1 r382 r383 hA384) rfl rfl (ltn rfl) (All_of (.cons (List.mem_of_getElem? (i := 0) rfl) (.cons (List.mem_of_getElem? (i := 1) rfl) .nil)))) rfl (by kernel_rfl) ?_
        rintro _ _ _ ⟨v386, v388, rfl, rfl, rfl⟩
        refine ⟨(PartP.on ⟨trivial, trivial, trivial⟩ ⟨trivial, ⟨⟨0, rfl⟩, ⟨1, rfl⟩, trivial⟩, trivial⟩), ?_⟩
        refine VB.oneC (i := 8) (listed' := LB 12 511) (by kernel_rfl) rfl (o_call0 FO6 (tarrylaw07_cut.ok a2_0 a2_1 a2_2 a2_3 a2_4 t391 t392 t393 t394 t395 hA396) rfl rfl (ltn rfl) (All_of .nil)) rfl (by kernel_rfl) ?_
        rintro _ _ _ ⟨rfl, rfl, rfl⟩
        refine ⟨(PartP.on ⟨trivial, trivial, trivial⟩ ⟨trivial, ⟨⟨0, rfl⟩, ⟨1, rfl⟩, trivial⟩, trivial⟩), ?_⟩
        refine VB.one1 (i := 9) (listed' := LB 12 1023) (by kernel_rfl) rfl (o_store 1 2 rfl rfl rfl TI35 (.agg (.r 0 rfl (.r 1 rfl .nil))) rfl (len rfl)) rfl (by kernel_rfl) (PartP.off (by kernel_rfl) ⟨trivial, trivial, trivial⟩) ?_
        refine VB.va (i := 10) (listed' := LB 12 2047) rfl (op_assign rfl (ltn rfl)) rfl (by kernel_rfl) (by kernel_rfl) (by kernel_rfl) (by kernel_rfl) (by decide) (PartP.off (by kernel_rfl) ⟨trivial, trivial, trivial⟩) (fun _ _ _ h => h) ?_
        refine VB.one1 (i := 11) (listed' := LB 12 4095) (by kernel_rfl) rfl (o_store 0 5 rfl rfl rfl TI23 (.agg (.of rfl)) rfl (len rfl)) rfl (by kernel_rfl) (PartP.off (by kernel_rfl) ⟨trivial, trivial, trivial⟩) ?_
        refine VB.done (by kernel_rfl) ?_
        exact VN.meet2 v386 v388 [0, 1] [0, 1] trivial ⟨rfl, ⟨rfl, rfl, rfl, rfl, trivial⟩, trivial, rfl, by decide, rfl, by decide⟩
      intro v386 v388 _
      refine VC.seq ?_
      refine VC.region ?_
      refine VL.va (op_load 1 2 rfl rfl TI35 rfl (fun h => absurd h (by decide)) (ltn rfl)) rfl ?_
      refine VL.va (op_move rfl (ltn rfl)) rfl ?_
      refine VL.freezeRow' 0 rfl ?_
      refine VL.freezeRow' 0 rfl ?_
      replace h := Option.bind_eq_some_iff.1 h
      obtain ⟨⟨r1915, r1916, t1917⟩, hA1918, h⟩ := h
      dsimp only at h
      refine VL.sC (o_call0 FO16 (goods_Know.ok k r382 r383 (a1.extract 0 ((mn (a1.size : Int) 18).toNat)) v386 v388 r1915 r1916 t1917 hA1918) rfl rfl (ltn rfl) (All_of (.cons (List.mem_of_getElem? (i := 1) rfl) (.cons (List.mem_of_getElem? (i := 0) rfl) .nil)))) rfl ?_
      rintro _ _ _ ⟨v1920, v1922, rfl, rfl, rfl⟩
      refine VL.va (op_move rfl (ltn rfl)) rfl ?_
      refine VL.va (op_extract rfl rfl (ltn rfl)) rfl ?_
      refine VL.va (op_extract rfl rfl (ltn rfl)) rfl ?_
      refine VL.sG (o_alloc Z35 ZL35 (ltn rfl)) rfl ?_
      intro g1923
      refine VL.step1 (o_store 0 2 rfl rfl rfl TI35 (.agg (.r 0 rfl (.f 0 rfl .nil))) rfl (len rfl)) rfl ?_
      refine VL.va (op_assign rfl (ltn rfl)) rfl ?_
      refine VL.done ?_
      refine VN.then ?_
      refine VC.seq ?_
      refine VC.region ?_
      refine VL.va (op_load 2 2 rfl rfl TI35 rfl (fun h => absurd h (by decide)) (ltn rfl)) rfl ?_
      refine VL.va (op_load 1 5 rfl rfl TI23 rfl (fun h => absurd h (by decide)) (ltn rfl)) rfl ?_
      replace h := Option.bind_eq_some_iff.1 h
      obtain ⟨⟨r2311, r2312, t2313⟩, hA2314, h⟩ := h
      dsimp only at h
      refine VL.sC (o_call0 FO12 (goods_Rule.ok k r382 r383 t391 t392 t393 t394 t395 v386 v388 r2311 r2312 t2313 hA2314) rfl rfl (ltn rfl) (All_of (.cons (List.mem_of_getElem? (i := 2) rfl) (.cons (List.mem_of_getElem? (i := 1) rfl) .nil)))) rfl ?_
      rintro _ _ _ ⟨v2316, v2318, rfl, rfl, rfl⟩
      refine VL.va (op_move rfl (ltn rfl)) rfl ?_
      refine VL.va (op_extract rfl rfl (ltn rfl)) rfl ?_
      refine VL.va (op_extract rfl rfl (ltn rfl)) rfl ?_
      refine VL.sG (o_alloc Z35 ZL35 (ltn rfl)) rfl ?_
      intro g2319
      refine VL.step1 (o_store 0 2 rfl rfl rfl TI35 (.agg (.f 0 rfl (.r 0 rfl .nil))) rfl (len rfl)) rfl ?_
      refine VL.va (op_assign rfl (ltn rfl)) rfl ?_
      refine VL.done ?_
      refine VN.then ?_
      refine VC.seq ?_
      refine VC.region ?_
      refine VL.va (op_load 3 2 rfl rfl TI35 rfl (fun h => absurd h (by decide)) (ltn rfl)) rfl ?_
      refine VL.va (op_move rfl (ltn rfl)) rfl ?_
      replace h := Option.bind_eq_some_iff.1 h
      obtain ⟨⟨r2463, t2464⟩, hA2465, h⟩ := h
      dsimp only at h
      refine VL.sC (o_call0 FO13 (goods_For.ok k r382 r383 (a1.extract 0 ((mn (a1.size : Int) 18).toNat)) v386 v388 r2463 t2464 hA2465) rfl rfl (ltn rfl) (All_of (.cons (List.mem_of_getElem? (i := 3) rfl) (.cons (List.mem_of_getElem? (i := 2) rfl) .nil)))) rfl ?_
      rintro _ _ _ ⟨v2467, rfl, rfl, rfl⟩
      refine VL.va (op_move rfl (ltn rfl)) rfl ?_
      refine VL.va (op_extract rfl rfl (ltn rfl)) rfl ?_
      refine VL.va (op_extract rfl rfl (ltn rfl)) rfl ?_
      refine VL.va (op_assign rfl (ltn rfl)) rfl ?_
      refine VL.va (op_assign rfl (ltn rfl)) rfl ?_
      refine VL.done ?_
      refine VN.then ?_
      refine VC.seq ?_
      refine VC.region ?_
      refine VL.va (op_build (vals := []) (vcs := []) (cells := [.slice none 0 0, .slice none 0 0]) SI35 rfl .nil (by kernel_rfl) (ltn rfl)) rfl ?_
      refine VL.sG (o_alloc Z35 ZL35 (ltn rfl)) rfl ?_
      intro g2468
      refine VL.step1 (o_store 0 2 rfl rfl rfl TI35 (.agg (.of rfl)) rfl (len rfl)) rfl ?_
      refine VL.done ?_
      refine VN.then ?_
      refine VC.seq ?_
      replace h := Option.bind_eq_some_iff.1 h
      obtain ⟨t9762, hA9763, h⟩ := h
      replace h := Option.bind_eq_some_iff.1 h
      obtain ⟨t9764, hA9765, h⟩ := h
      refine VC.letter ((!(t9762 == t9764))) fun b9766 hb9766 => ?_
      by_cases c9767 : t9762 = t9764
      · rw [if_pos c9767] at h
        obtain rfl : b9766 = false := hb9766.symm.trans (by rw [c9767]; simp)
        replace h := Option.bind_eq_some_iff.1 h
        obtain ⟨t9768, hA9769, h⟩ := h
        by_cases c9770 : t9768 = true
        · rw [if_pos c9770] at h
          obtain rfl := c9770
          refine VC.join0 (⟨225, [(1, .string (a1.extract 0 ((mn (a1.size : Int) 18).toNat))), (3, .pointer (some ⟨g3, 0, none⟩)), (5, .pointer (some ⟨g4, 0, none⟩)), (6, .bool false), (7, .pointer (some ⟨g1923, 0, none⟩)), (8, .int .i64 t1917), (9, .pointer (some ⟨g2319, 0, none⟩)), (10, .int .i64 t2313), (11, v2467), (12, .int .i64 t2464), (13, .pointer (some ⟨g2468, 0, none⟩)), (54, .bool false)], [.row v2316 1 (r2311.map enc_str), .row v1922 5 (r1916.map enc22), .row v388 5 (r383.map enc22), .row v386 1 (r382.map enc_str)], [(g2468, 35, [.slice none 0 0, .slice none 0 0]), (g2319, 35, [v2316, v2318]), (g1923, 35, [v1920, v1922]), (g4, 23, [.string t391, .string t392, .int .i64 t393, .int .i64 t394, .int .i64 t395]), (g3, 35, [v386, v388])], [(v2467, 23, 5, r2463.map enc22), (v2318, 23, 5, r2312.map enc22), (v1920, 9, 1, r1915.map enc_str)]⟩) (True) ?_ ?_
          · refine VC.draw ⟨0, [], [], [(g3, 35, [v386, v388])], []⟩ (by kernel_rfl) rfl (by kernel_rfl) (n := 9) (listed := LB 9 0) ?_
            refine VA.va (i := 0) (listed' := LB 9 1) rfl (op_load 0 2 rfl rfl TI35 rfl (fun h => absurd h (by decide)) (ltn rfl)) rfl (by kernel_rfl) (by kernel_rfl) (by kernel_rfl) (by kernel_rfl) ⟨trivial, ⟨⟨4, rfl⟩, trivial⟩, trivial⟩ (fun _ _ _ h => h) ?_
            refine VA.va (i := 2) (listed' := LB 9 5) rfl (op_load 0 2 rfl rfl TI35 rfl (fun h => absurd h (by decide)) (ltn rfl)) rfl (by kernel_rfl) (by kernel_rfl) (by kernel_rfl) (by kernel_rfl) ⟨trivial, ⟨⟨4, rfl⟩, trivial⟩, trivial⟩ (fun _ _ _ h => h) ?_
            refine VA.oneC (i := 1) (listed' := LB 9 7) (by kernel_rfl) rfl (o_call0 FO14 (goods_Right.ok k r382 r383 v386 v388 t9762 hA9763) rfl rfl (ltn rfl) (All_of (.cons (List.mem_of_getElem? (i := 3) rfl) (.cons (List.mem_of_getElem? (i := 2) rfl) .nil)))) rfl (by kernel_rfl) ?_
            rintro _ _ _ ⟨rfl, rfl, rfl⟩
            refine ⟨⟨trivial, ⟨⟨4, rfl⟩, trivial⟩, trivial⟩, ?_⟩
            refine VA.oneC (i := 3) (listed' := LB 9 15) (by kernel_rfl) rfl (o_call0 FO17 (tarryref07_Right.ok k r382 r383 v386 v388 t9764 hA9765) rfl rfl (ltn rfl) (All_of (.cons (List.mem_of_getElem? (i := 3) rfl) (.cons (List.mem_of_getElem? (i := 2) rfl) .nil)))) rfl (by kernel_rfl) ?_
            rintro _ _ _ ⟨rfl, rfl, rfl⟩
            refine ⟨⟨trivial, ⟨⟨4, rfl⟩, trivial⟩, trivial⟩, ?_⟩
            refine VA.va (i := 4) (listed' := LB 9 31) rfl (op_eqb Try.underlying4 rfl rfl (congrArg some hb9766) (ltn rfl)) rfl (by kernel_rfl) (by kernel_rfl) (by kernel_rfl) (by kernel_rfl) ⟨trivial, ⟨⟨4, rfl⟩, trivial⟩, trivial⟩ (fun _ _ _ h => h) ?_
            refine VA.va (i := 5) (listed' := LB 9 63) rfl (op_move rfl (ltn rfl)) rfl (by kernel_rfl) (by kernel_rfl) (by kernel_rfl) (by kernel_rfl) ⟨trivial, ⟨⟨4, rfl⟩, trivial⟩, trivial⟩ (fun _ _ _ h => h) ?_
            refine VA.oneC (i := 6) (listed' := LB 9 127) (by kernel_rfl) rfl (o_call0 FO9 (tarrylaw07_alive.ok k true hA9769) rfl rfl (ltn rfl) (All_of .nil)) rfl (by kernel_rfl) ?_
            rintro _ _ _ ⟨rfl, rfl, rfl⟩
            refine ⟨⟨trivial, ⟨⟨4, rfl⟩, trivial⟩, trivial⟩, ?_⟩
            refine VA.va (i := 7) (listed' := LB 9 255) rfl (op_not rfl rfl (ltn rfl)) rfl (by kernel_rfl) (by kernel_rfl) (by kernel_rfl) (by kernel_rfl) ⟨trivial, ⟨⟨4, rfl⟩, trivial⟩, trivial⟩ (fun _ _ _ h => h) ?_
            refine VA.va (i := 8) (listed' := LB 9 511) rfl (op_pick rfl rfl (ltn rfl)) rfl (by kernel_rfl) (by kernel_rfl) (by kernel_rfl) (by kernel_rfl) ⟨trivial, ⟨⟨4, rfl⟩, trivial⟩, trivial⟩ (fun _ _ _ h => h) ?_
            refine VA.done (by kernel_rfl) ?_
            exact VN.meet0  [0, 1, 2, 3, 4] [0, 1, 2] trivial ⟨rfl, ⟨rfl, rfl, rfl, rfl, rfl, rfl, rfl, rfl, rfl, rfl, rfl, rfl, trivial⟩, ⟨⟨0, rfl⟩, ⟨1, rfl⟩, ⟨2, rfl⟩, ⟨3, rfl⟩, trivial⟩, rfl, by decide, rfl, by decide⟩
          intro _
          refine VC.cond_f rfl ?_
          refine VC.skip ?_
          refine VN.then ?_
          refine VC.seq ?_
          refine VC.join1 (fun (q83293 : Bool) => ⟨225, [(1, .string (a1.extract 0 ((mn (a1.size : Int) 18).toNat))), (3, .pointer (some ⟨g3, 0, none⟩)), (5, .pointer (some ⟨g4, 0, none⟩)), (6, .bool false), (7, .pointer (some ⟨g1923, 0, none⟩)), (8, .int .i64 t1917), (9, .pointer (some ⟨g2319, 0, none⟩)), (10, .int .i64 t2313), (11, v2467), (12, .int .i64 t2464), (13, .pointer (some ⟨g2468, 0, none⟩)), (57, .bool q83293)], [.row v2316 1 (r2311.map enc_str), .row v1922 5 (r1916.map enc22), .row v386 1 (r382.map enc_str), .row v388 5 (r383.map enc22)], [(g2468, 35, [.slice none 0 0, .slice none 0 0]), (g2319, 35, [v2316, v2318]), (g1923, 35, [v1920, v1922]), (g4, 23, [.string t391, .string t392, .int .i64 t393, .int .i64 t394, .int .i64 t395]), (g3, 35, [v386, v388])], [(v2467, 23, 5, r2463.map enc22), (v2318, 23, 5, r2312.map enc22), (v1920, 9, 1, r1915.map enc_str)]⟩) (fun (q83293 : Bool) => tarrylaw07_GoodsKnow.j1069 k a1 r1915 r1916 r2311 r2312 r2463 r382 r383 t1917 t2313 t2464 t391 t392 t393 t394 t395 q83293 = some r1) ?_ ?_
          · refine VC.region ?_
            refine VL.va (op_load 4 2 rfl rfl TI35 rfl (fun h => absurd h (by decide)) (ltn rfl)) rfl ?_
            replace h := Option.bind_eq_some_iff.1 h
            obtain ⟨t83290, hA83291, h⟩ := h
            refine VL.sC (o_call0 FO17 (tarryref07_Right.ok k r382 r383 v386 v388 t83290 hA83291) rfl rfl (ltn rfl) (All_of (.cons (List.mem_of_getElem? (i := 3) rfl) (.cons (List.mem_of_getElem? (i := 2) rfl) .nil)))) rfl ?_
            rintro _ _ _ ⟨rfl, rfl, rfl⟩
            by_cases c83292 : t83290 = true
            · rw [if_pos c83292] at h
              obtain rfl := c83292
              refine VL.va (op_not rfl rfl (ltn rfl)) rfl ?_
              refine VL.done ?_
              refine VN.meet1 false [0, 1, 2, 3, 4] [0, 1, 2] h ⟨rfl, ⟨rfl, rfl, rfl, rfl, rfl, rfl, rfl, rfl, rfl, rfl, rfl, rfl, trivial⟩, ⟨⟨0, rfl⟩, ⟨1, rfl⟩, ⟨3, rfl⟩, ⟨2, rfl⟩, trivial⟩, rfl, by decide, rfl, by decide⟩
            · rw [if_neg c83292] at h
              obtain rfl := Bool.eq_false_iff.2 c83292
              refine VL.va (op_not rfl rfl (ltn rfl)) rfl ?_
              refine VL.done ?_
              refine VN.meet1 true [0, 1, 2, 3, 4] [0, 1, 2] h ⟨rfl, ⟨rfl, rfl, rfl, rfl, rfl, rfl, rfl, rfl, rfl, rfl, rfl, rfl, trivial⟩, ⟨⟨0, rfl⟩, ⟨1, rfl⟩, ⟨3, rfl⟩, ⟨2, rfl⟩, trivial⟩, rfl, by decide, rfl, by decide⟩
          clear h
          intro q83293 h
          unfold tarrylaw07_GoodsKnow.j1069 at h
          by_cases c83294 : q83293 = true
          · rw [if_pos c83294] at h
            obtain rfl := c83294
            refine VC.cond_t rfl ?_
            refine VC.seq ?_
            refine VC.region ?_
            refine VL.va (op_move rfl (ltn rfl)) rfl ?_
            refine VL.letter ((t1917 == 1)) fun b83312 hb83312 => ?_
            refine VL.va (op_cmp rfl rfl (congrArg some hb83312) (ltn rfl)) rfl ?_
            refine VL.va (op_move rfl (ltn rfl)) rfl ?_
            by_cases c83313 : t1917 = 1
            · rw [if_pos c83313] at h
              obtain rfl : b83312 = true := hb83312.symm.trans (beq_iff_eq.2 c83313)
              refine VL.va (op_move rfl (ltn rfl)) rfl ?_
              refine VL.letter ((t2313 == 1)) fun b83314 hb83314 => ?_
              refine VL.va (op_cmp rfl rfl (congrArg some hb83314) (ltn rfl)) rfl ?_
              refine VL.va (op_pick rfl rfl (ltn rfl)) rfl ?_
              refine VL.va (op_move rfl (ltn rfl)) rfl ?_
              by_cases c83315 : t2313 = 1
              · rw [if_pos c83315] at h
                obtain rfl : b83314 = true := hb83314.symm.trans (beq_iff_eq.2 c83315)
                refine VL.va (op_move rfl (ltn rfl)) rfl ?_
                refine VL.letter ((t2464 == 1)) fun b83316 hb83316 => ?_
                refine VL.va (op_cmp rfl rfl (congrArg some hb83316) (ltn rfl)) rfl ?_
                refine VL.va (op_pick rfl rfl (ltn rfl)) rfl ?_
                refine VL.va (op_move rfl (ltn rfl)) rfl ?_
                by_cases c83317 : t2464 = 1
                · rw [if_pos c83317] at h
                  obtain rfl : b83316 = true := hb83316.symm.trans (beq_iff_eq.2 c83317)
                  refine VL.va (op_move rfl (ltn rfl)) rfl ?_
                  refine VL.va (op_len_own (m := r2463.length) 0 lenm Try.underlying33 rfl rfl (ltn rfl)) rfl ?_
                  refine VL.letter (((r2463.length : Int) == 0)) fun b83318 hb83318 => ?_
                  refine VL.va (op_cmp rfl rfl (congrArg some hb83318) (ltn rfl)) rfl ?_
                  refine VL.va (op_pick rfl rfl (ltn rfl)) rfl ?_
                  refine VL.va (op_move rfl (ltn rfl)) rfl ?_
                  by_cases c83319 : (r2463.length : Int) = 0
                  · rw [if_pos c83319] at h
                    obtain rfl : b83318 = true := hb83318.symm.trans (beq_iff_eq.2 c83319)
                    refine VL.va (op_load 2 2 rfl rfl TI35 rfl (fun h => absurd h (by decide)) (ltn rfl)) rfl ?_
                    refine VL.va (op_load 0 2 rfl rfl TI35 rfl (fun h => absurd h (by decide)) (ltn rfl)) rfl ?_
                    refine VL.nilFact' 1 ?_
                    refine VL.nilFact' 5 ?_
                    replace h := Option.bind_eq_some_iff.1 h
                    obtain ⟨t83322, hA83323, h⟩ := h
                    refine VL.sC (o_call_b0 FO15 (tarryref07_Like.ok k r1915 r1916 [] [] v1920 v1922 (.slice none 0 0) (.slice none 0 0) t83322 hA83323) rfl rfl (ltn rfl) (All_of (.cons (.inr (.inl ⟨_, List.mem_of_getElem? (i := 2) rfl, rfl⟩)) (.cons (.inl (List.mem_of_getElem? (i := 3) rfl)) (.cons (.inl (List.mem_of_getElem? (i := 1) rfl)) (.cons (.inl (List.mem_of_getElem? (i := 0) rfl)) .nil))))) (by rintro _ _ _ ⟨rfl, rfl, rfl⟩; rfl)) rfl ?_
                    rintro _ _ _ ⟨rfl, rfl, rfl⟩
                    refine VL.va (op_pick rfl rfl (ltn rfl)) rfl ?_
                    refine VL.va (op_move rfl (ltn rfl)) rfl ?_
                    by_cases c83324 : t83322 = true
                    · rw [if_pos c83324] at h
                      obtain rfl := c83324
                      refine VL.va (op_load 1 2 rfl rfl TI35 rfl (fun h => absurd h (by decide)) (ltn rfl)) rfl ?_
                      refine VL.va (op_load 0 2 rfl rfl TI35 rfl (fun h => absurd h (by decide)) (ltn rfl)) rfl ?_
                      refine VL.nilFact' 1 ?_
                      refine VL.nilFact' 5 ?_
                      replace h := Option.bind_eq_some_iff.1 h
                      obtain ⟨t83327, hA83328, h⟩ := h
                      refine VL.sC (o_call_b0 FO15 (tarryref07_Like.ok k r2311 r2312 [] [] v2316 v2318 (.slice none 0 0) (.slice none 0 0) t83327 hA83328) rfl rfl (ltn rfl) (All_of (.cons (.inl (List.mem_of_getElem? (i := 4) rfl)) (.cons (.inr (.inl ⟨_, List.mem_of_getElem? (i := 1) rfl, rfl⟩)) (.cons (.inl (List.mem_of_getElem? (i := 1) rfl)) (.cons (.inl (List.mem_of_getElem? (i := 0) rfl)) .nil))))) (by rintro _ _ _ ⟨rfl, rfl, rfl⟩; rfl)) rfl ?_
                      rintro _ _ _ ⟨rfl, rfl, rfl⟩
                      refine VL.va (op_pick rfl rfl (ltn rfl)) rfl ?_
                      refine VL.va (op_assign rfl (ltn rfl)) rfl ?_
                      refine VL.done ?_
                      refine VN.then ?_
                      refine VC.ret ?_
                      refine VR.then ?_
                      obtain rfl := Option.some.inj h
                      exact VR.fn (rs := [.tmp 6]) [] [] [] rfl (.tmp rfl .nil) ⟨rfl, rfl, rfl⟩ trivial rfl (by decide)
                    · rw [if_neg c83324] at h
                      obtain rfl := Bool.eq_false_iff.2 c83324
                      refine VL.un rfl rfl (ltn rfl) ?_
                      refine VL.un rfl rfl (ltn rfl) ?_
                      refine VL.un rfl rfl (ltn rfl) ?_
                      refine VL.va (op_pick rfl rfl (ltn rfl)) rfl ?_
                      refine VL.va (op_assign rfl (ltn rfl)) rfl ?_
                      refine VL.done ?_
                      refine VN.then ?_
                      refine VC.ret ?_
                      refine VR.then ?_
                      cases h
                  · rw [if_neg c83319] at h
                    obtain rfl : b83318 = false := hb83318.symm.trans (beq_eq_false_iff_ne.2 c83319)
                    refine VL.un rfl rfl (ltn rfl) ?_
                    refine VL.un rfl rfl (ltn rfl) ?_
                    refine VL.un rfl rfl (ltn rfl) ?_
                    refine VL.va (op_pick rfl rfl (ltn rfl)) rfl ?_
                    refine VL.va (op_move rfl (ltn rfl)) rfl ?_
                    refine VL.un rfl rfl (ltn rfl) ?_
                    refine VL.un rfl rfl (ltn rfl) ?_
                    refine VL.un rfl rfl (ltn rfl) ?_
                    refine VL.va (op_pick rfl rfl (ltn rfl)) rfl ?_
                    refine VL.va (op_assign rfl (ltn rfl)) rfl ?_
                    refine VL.done ?_
                    refine VN.then ?_
                    refine VC.ret ?_
                    refine VR.then ?_
                    cases h
                · rw [if_neg c83317] at h
                  obtain rfl : b83316 = false := hb83316.symm.trans (beq_eq_false_iff_ne.2 c83317)
                  refine VL.un rfl rfl (ltn rfl) ?_
                  refine VL.un rfl rfl (ltn rfl) ?_
                  refine VL.un rfl rfl (ltn rfl) ?_
                  refine VL.va (op_pick rfl rfl (ltn rfl)) rfl ?_
                  refine VL.va (op_move rfl (ltn rfl)) rfl ?_
                  refine VL.un rfl rfl (ltn rfl) ?_
                  refine VL.un rfl rfl (ltn rfl) ?_
                  refine VL.un rfl rfl (ltn rfl) ?_
                  refine VL.va (op_pick rfl rfl (ltn rfl)) rfl ?_
                  refine VL.va (op_move rfl (ltn rfl)) rfl ?_
                  refine VL.un rfl rfl (ltn rfl) ?_
                  refine VL.un rfl rfl (ltn rfl) ?_
                  refine VL.un rfl rfl (ltn rfl) ?_
                  refine VL.va (op_pick rfl rfl (ltn rfl)) rfl ?_
                  refine VL.va (op_assign rfl (ltn rfl)) rfl ?_
                  refine VL.done ?_
                  refine VN.then ?_
                  refine VC.ret ?_
                  refine VR.then ?_
                  cases h
              · rw [if_neg c83315] at h
                obtain rfl : b83314 = false := hb83314.symm.trans (beq_eq_false_iff_ne.2 c83315)
                refine VL.un rfl rfl (ltn rfl) ?_
                refine VL.un rfl rfl (ltn rfl) ?_
                refine VL.va (op_pick rfl rfl (ltn rfl)) rfl ?_
                refine VL.va (op_move rfl (ltn rfl)) rfl ?_
                refine VL.un rfl rfl (ltn rfl) ?_
                refine VL.un rfl rfl (ltn rfl) ?_
                refine VL.un rfl rfl (ltn rfl) ?_
                refine VL.va (op_pick rfl rfl (ltn rfl)) rfl ?_
                refine VL.va (op_move rfl (ltn rfl)) rfl ?_
                refine VL.un rfl rfl (ltn rfl) ?_
                refine VL.un rfl rfl (ltn rfl) ?_
                refine VL.un rfl rfl (ltn rfl) ?_
                refine VL.va (op_pick rfl rfl (ltn rfl)) rfl ?_
                refine VL.va (op_move rfl (ltn rfl)) rfl ?_
                refine VL.un rfl rfl (ltn rfl) ?_
                refine VL.un rfl rfl (ltn rfl) ?_
                refine VL.un rfl rfl (ltn rfl) ?_
                refine VL.va (op_pick rfl rfl (ltn rfl)) rfl ?_
                refine VL.va (op_assign rfl (ltn rfl)) rfl ?_
                refine VL.done ?_
                refine VN.then ?_
                refine VC.ret ?_
                refine VR.then ?_
                cases h
            · rw [if_neg c83313] at h
              obtain rfl : b83312 = false := hb83312.symm.trans (beq_eq_false_iff_ne.2 c83313)
              refine VL.un rfl rfl (ltn rfl) ?_
              refine VL.un rfl rfl (ltn rfl) ?_
              refine VL.va (op_pick rfl rfl (ltn rfl)) rfl ?_
              refine VL.va (op_move rfl (ltn rfl)) rfl ?_
              refine VL.un rfl rfl (ltn rfl) ?_
              refine VL.un rfl rfl (ltn rfl) ?_
              refine VL.va (op_pick rfl rfl (ltn rfl)) rfl ?_
              refine VL.va (op_move rfl (ltn rfl)) rfl ?_
              refine VL.un rfl rfl (ltn rfl) ?_
              refine VL.un rfl rfl (ltn rfl) ?_
              refine VL.un rfl rfl (ltn rfl) ?_
              refine VL.va (op_pick rfl rfl (ltn rfl)) rfl ?_
              refine VL.va (op_move rfl (ltn rfl)) rfl ?_
              refine VL.un rfl rfl (ltn rfl) ?_
              refine VL.un rfl rfl (ltn rfl) ?_
              refine VL.un rfl rfl (ltn rfl) ?_
              refine VL.va (op_pick rfl rfl (ltn rfl)) rfl ?_
              refine VL.va (op_move rfl (ltn rfl)) rfl ?_
              refine VL.un rfl rfl (ltn rfl) ?_
              refine VL.un rfl rfl (ltn rfl) ?_
              refine VL.un rfl rfl (ltn rfl) ?_
              refine VL.va (op_pick rfl rfl (ltn rfl)) rfl ?_
              refine VL.va (op_assign rfl (ltn rfl)) rfl ?_
              refine VL.done ?_
              refine VN.then ?_
              refine VC.ret ?_
              refine VR.then ?_
              cases h
          · rw [if_neg c83294] at h
            obtain rfl := Bool.eq_false_iff.2 c83294
            refine VC.cond_f rfl ?_
            refine VC.skip ?_
            refine VN.then ?_
            refine VC.seq ?_
            refine VC.region ?_
            refine VL.va (op_assign rfl (ltn rfl)) rfl ?_
            refine VL.done ?_
            refine VN.then ?_
            refine VC.join1 (fun (i127066 : Int) => ⟨225, [(1, .string (a1.extract 0 ((mn (a1.size : Int) 18).toNat))), (3, .pointer (some ⟨g3, 0, none⟩)), (5, .pointer (some ⟨g4, 0, none⟩)), (6, .bool false), (7, .pointer (some ⟨g1923, 0, none⟩)), (8, .int .i64 t1917), (9, .pointer (some ⟨g2319, 0, none⟩)), (10, .int .i64 t2313), (11, v2467), (12, .int .i64 t2464), (13, .pointer (some ⟨g2468, 0, none⟩)), (14, .int .i64 i127066)], [.row v2316 1 (r2311.map enc_str), .row v1922 5 (r1916.map enc22), .row v386 1 (r382.map enc_str), .row v388 5 (r383.map enc22)], [(g2468, 35, [.slice none 0 0, .slice none 0 0]), (g2319, 35, [v2316, v2318]), (g1923, 35, [v1920, v1922]), (g4, 23, [.string t391, .string t392, .int .i64 t393, .int .i64 t394, .int .i64 t395]), (g3, 35, [v386, v388])], [(v2467, 23, 5, r2463.map enc22), (v2318, 23, 5, r2312.map enc22), (v1920, 9, 1, r1915.map enc_str)]⟩) (fun (i127066 : Int) => tarrylaw07_GoodsKnow.j1727 k a1 r1915 r1916 r2311 r2312 r2463 r382 r383 t1917 t2313 t2464 t391 t392 t393 t394 t395 i127066 = some r1) ?_ ?_
            · refine VC.block ?_
              refine VC.seq ?_
              refine VC.region ?_
              refine VL.va (op_move rfl (ltn rfl)) rfl ?_
              replace h := Option.bind_eq_some_iff.1 h
              obtain ⟨t127058, hA127059, h⟩ := h
              refine VL.sC (o_call0 FO18 (tarryref07_Name.ok k (a1.extract 0 ((mn (a1.size : Int) 18).toNat)) t127058 hA127059) rfl rfl (ltn rfl) (All_of .nil)) rfl ?_
              rintro _ _ _ ⟨rfl, rfl, rfl⟩
              by_cases c127060 : t127058 = true
              · rw [if_pos c127060] at h
                obtain rfl := c127060
                refine VL.va (op_not rfl rfl (ltn rfl)) rfl ?_
                refine VL.va (op_assign rfl (ltn rfl)) rfl ?_
                refine VL.done ?_
                refine VN.then ?_
                refine VC.cond_f rfl ?_
                refine VC.seq ?_
                refine VC.region ?_
                refine VL.va (op_fieldAddr FI35_0 rfl (add_at _ _ _) (ltn rfl)) rfl ?_
                refine VL.va (op_load 4 1 rfl rfl TI32 rfl (by decide) (ltn rfl)) rfl ?_
                refine VL.va (op_move rfl (ltn rfl)) rfl ?_
                replace h := Option.bind_eq_some_iff.1 h
                obtain ⟨t127061, hA127062, h⟩ := h
                refine VL.sC (o_call0 FO19 (tarryref07_Has.ok k r382 (a1.extract 0 ((mn (a1.size : Int) 18).toNat)) v386 t127061 hA127062) rfl rfl (ltn rfl) (All_of (.cons (List.mem_of_getElem? (i := 2) rfl) .nil))) rfl ?_
                rintro _ _ _ ⟨rfl, rfl, rfl⟩
                refine VL.va (op_assign rfl (ltn rfl)) rfl ?_
                refine VL.done ?_
                refine VN.then ?_
                by_cases c127063 : t127061 = true
                · rw [if_pos c127063] at h
                  obtain rfl := c127063
                  refine VC.cond_t rfl ?_
                  refine VC.region ?_
                  refine VL.va (op_assign rfl (ltn rfl)) rfl ?_
                  refine VL.done ?_
                  refine VN.block ?_
                  refine VN.meet1 9 [0, 1, 2, 3, 4] [0, 1, 2] h ⟨rfl, ⟨rfl, rfl, rfl, rfl, rfl, rfl, rfl, rfl, rfl, rfl, rfl, rfl, trivial⟩, ⟨⟨0, rfl⟩, ⟨1, rfl⟩, ⟨2, rfl⟩, ⟨3, rfl⟩, trivial⟩, rfl, by decide, rfl, by decide⟩
                · rw [if_neg c127063] at h
                  obtain rfl := Bool.eq_false_iff.2 c127063
                  refine VC.cond_f rfl ?_
                  refine VC.seq ?_
                  refine VC.region ?_
                  refine VL.va (op_fieldAddr FI35_0 rfl (add_at _ _ _) (ltn rfl)) rfl ?_
                  refine VL.va (op_load 4 1 rfl rfl TI32 rfl (by decide) (ltn rfl)) rfl ?_
                  refine VL.va (op_len (m := r382.length) 2 lenm Try.underlying32 rfl rfl (ltn rfl)) rfl ?_
                  refine VL.letter (((r382.length : Int) == 8)) fun b127064 hb127064 => ?_
                  refine VL.va (op_cmp rfl rfl (congrArg some hb127064) (ltn rfl)) rfl ?_
                  refine VL.va (op_assign rfl (ltn rfl)) rfl ?_
                  refine VL.done ?_
                  refine VN.then ?_
                  by_cases c127065 : (r382.length : Int) = 8
                  · rw [if_pos c127065] at h
                    obtain rfl : b127064 = true := hb127064.symm.trans (beq_iff_eq.2 c127065)
                    refine VC.cond_t rfl ?_
                    refine VC.region ?_
                    refine VL.va (op_assign rfl (ltn rfl)) rfl ?_
                    refine VL.done ?_
                    refine VN.block ?_
                    refine VN.meet1 7 [0, 1, 2, 3, 4] [0, 1, 2] h ⟨rfl, ⟨rfl, rfl, rfl, rfl, rfl, rfl, rfl, rfl, rfl, rfl, rfl, rfl, trivial⟩, ⟨⟨0, rfl⟩, ⟨1, rfl⟩, ⟨2, rfl⟩, ⟨3, rfl⟩, trivial⟩, rfl, by decide, rfl, by decide⟩
                  · rw [if_neg c127065] at h
                    obtain rfl : b127064 = false := hb127064.symm.trans (beq_eq_false_iff_ne.2 c127065)
                    refine VC.cond_f rfl ?_
                    refine VC.skip ?_
                    refine VN.block ?_
                    refine VN.meet1 0 [0, 1, 2, 3, 4] [0, 1, 2] h ⟨rfl, ⟨rfl, rfl, rfl, rfl, rfl, rfl, rfl, rfl, rfl, rfl, rfl, rfl, trivial⟩, ⟨⟨0, rfl⟩, ⟨1, rfl⟩, ⟨2, rfl⟩, ⟨3, rfl⟩, trivial⟩, rfl, by decide, rfl, by decide⟩
              · rw [if_neg c127060] at h
                obtain rfl := Bool.eq_false_iff.2 c127060
                refine VL.va (op_not rfl rfl (ltn rfl)) rfl ?_
                refine VL.va (op_assign rfl (ltn rfl)) rfl ?_
                refine VL.done ?_
                refine VN.then ?_
                refine VC.cond_t rfl ?_
                refine VC.region ?_
                refine VL.va (op_assign rfl (ltn rfl)) rfl ?_
                refine VL.done ?_
                refine VN.block ?_
                refine VN.meet1 1 [0, 1, 2, 3, 4] [0, 1, 2] h ⟨rfl, ⟨rfl, rfl, rfl, rfl, rfl, rfl, rfl, rfl, rfl, rfl, rfl, rfl, trivial⟩, ⟨⟨0, rfl⟩, ⟨1, rfl⟩, ⟨2, rfl⟩, ⟨3, rfl⟩, trivial⟩, rfl, by decide, rfl, by decide⟩
            clear h
            intro i127066 h
            unfold tarrylaw07_GoodsKnow.j1727 at h
            refine VC.join0 (⟨225, [(1, .string (a1.extract 0 ((mn (a1.size : Int) 18).toNat))), (3, .pointer (some ⟨g3, 0, none⟩)), (5, .pointer (some ⟨g4, 0, none⟩)), (6, .bool false), (9, .pointer (some ⟨g2319, 0, none⟩)), (10, .int .i64 t2313), (11, v2467), (12, .int .i64 t2464), (13, .pointer (some ⟨g2468, 0, none⟩)), (14, .int .i64 i127066)], [.row v2316 1 (r2311.map enc_str), .row v386 1 (r382.map enc_str), .row v388 5 (r383.map enc22)], [(g2468, 35, [.slice none 0 0, .slice none 0 0]), (g2319, 35, [v2316, v2318]), (g4, 23, [.string t391, .string t392, .int .i64 t393, .int .i64 t394, .int .i64 t395]), (g3, 35, [v386, v388])], [(v2467, 23, 5, r2463.map enc22), (v2318, 23, 5, r2312.map enc22)]⟩) (tarrylaw07_GoodsKnow.j2056 k a1 r2311 r2312 r2463 r382 r383 t2313 t2464 t391 t392 t393 t394 t395 = some r1) ?_ ?_
            · refine VC.letter ((t1917 != i127066)) fun b148903 hb148903 => ?_
              by_cases c148904 : t1917 = i127066
              · rw [if_pos c148904] at h
                obtain rfl : b148903 = false := hb148903.symm.trans (bne_eq_false_iff_eq.2 c148904)
                refine VC.letter ((i127066 == 0)) fun b148905 hb148905 => ?_
                by_cases c148906 : i127066 = 0
                · rw [if_pos c148906] at h
                  obtain rfl : b148905 = true := hb148905.symm.trans (beq_iff_eq.2 c148906)
                  replace h := Option.bind_eq_some_iff.1 h
                  obtain ⟨⟨r148907, r148908⟩, hA148909, h⟩ := h
                  dsimp only at h
                  replace h := Option.bind_eq_some_iff.1 h
                  obtain ⟨t148914, hA148915, h⟩ := h
                  by_cases c148916 : t148914 = true
                  · rw [if_pos c148916] at h
                    obtain rfl := c148916
                    refine VC.letter ((i127066 != 0)) fun b148917 hb148917 => ?_
                    by_cases c148918 : i127066 = 0
                    · rw [if_pos c148918] at h
                      obtain rfl : b148917 = false := hb148917.symm.trans (bne_eq_false_iff_eq.2 c148918)
                      refine VC.join0 (⟨225, [(1, .string (a1.extract 0 ((mn (a1.size : Int) 18).toNat))), (3, .pointer (some ⟨g3, 0, none⟩)), (5, .pointer (some ⟨g4, 0, none⟩)), (6, .bool false), (9, .pointer (some ⟨g2319, 0, none⟩)), (10, .int .i64 t2313), (11, v2467), (12, .int .i64 t2464), (13, .pointer (some ⟨g2468, 0, none⟩)), (14, .int .i64 i127066), (121, .bool false)], [.row v2316 1 (r2311.map enc_str), .row v386 1 (r382.map enc_str), .row v388 5 (r383.map enc22)], [(g2468, 35, [.slice none 0 0, .slice none 0 0]), (g2319, 35, [v2316, v2318]), (g4, 23, [.string t391, .string t392, .int .i64 t393, .int .i64 t394, .int .i64 t395]), (g3, 35, [v386, v388])], [(v2467, 23, 5, r2463.map enc22), (v2318, 23, 5, r2312.map enc22)]⟩) (True) ?_ ?_
                      · refine VC.draw ⟨0, [], [], [(g1923, 35, [v1920, v1922]), (g3, 35, [v386, v388])], []⟩ (by kernel_rfl) rfl (by kernel_rfl) (n := 25) (listed := LB 25 0) ?_
                        refine VA.va (i := 0) (listed' := LB 25 1) rfl (op_move rfl (ltn rfl)) rfl (by kernel_rfl) (by kernel_rfl) (by kernel_rfl) (by kernel_rfl) ⟨trivial, ⟨⟨2, rfl⟩, ⟨4, rfl⟩, trivial⟩, trivial⟩ (fun _ _ _ h => h) ?_
                        refine VA.va (i := 1) (listed' := LB 25 3) rfl (op_move rfl (ltn rfl)) rfl (by kernel_rfl) (by kernel_rfl) (by kernel_rfl) (by kernel_rfl) ⟨trivial, ⟨⟨2, rfl⟩, ⟨4, rfl⟩, trivial⟩, trivial⟩ (fun _ _ _ h => h) ?_
                        refine VA.va (i := 2) (listed' := LB 25 7) rfl (op_cmp rfl rfl (congrArg some hb148903) (ltn rfl)) rfl (by kernel_rfl) (by kernel_rfl) (by kernel_rfl) (by kernel_rfl) ⟨trivial, ⟨⟨2, rfl⟩, ⟨4, rfl⟩, trivial⟩, trivial⟩ (fun _ _ _ h => h) ?_
                        refine VA.va (i := 3) (listed' := LB 25 15) rfl (op_move rfl (ltn rfl)) rfl (by kernel_rfl) (by kernel_rfl) (by kernel_rfl) (by kernel_rfl) ⟨trivial, ⟨⟨2, rfl⟩, ⟨4, rfl⟩, trivial⟩, trivial⟩ (fun _ _ _ h => h) ?_
                        refine VA.va (i := 4) (listed' := LB 25 31) rfl (op_move rfl (ltn rfl)) rfl (by kernel_rfl) (by kernel_rfl) (by kernel_rfl) (by kernel_rfl) ⟨trivial, ⟨⟨2, rfl⟩, ⟨4, rfl⟩, trivial⟩, trivial⟩ (fun _ _ _ h => h) ?_
                        refine VA.va (i := 5) (listed' := LB 25 63) rfl (op_cmp rfl rfl (congrArg some hb148905) (ltn rfl)) rfl (by kernel_rfl) (by kernel_rfl) (by kernel_rfl) (by kernel_rfl) ⟨trivial, ⟨⟨2, rfl⟩, ⟨4, rfl⟩, trivial⟩, trivial⟩ (fun _ _ _ h => h) ?_
                        refine VA.va (i := 6) (listed' := LB 25 127) rfl (op_move rfl (ltn rfl)) rfl (by kernel_rfl) (by kernel_rfl) (by kernel_rfl) (by kernel_rfl) ⟨trivial, ⟨⟨2, rfl⟩, ⟨4, rfl⟩, trivial⟩, trivial⟩ (fun _ _ _ h => h) ?_
                        refine VA.va (i := 7) (listed' := LB 25 255) rfl (op_load 0 2 rfl rfl TI35 rfl (fun h => absurd h (by decide)) (ltn rfl)) rfl (by kernel_rfl) (by kernel_rfl) (by kernel_rfl) (by kernel_rfl) ⟨trivial, ⟨⟨2, rfl⟩, ⟨4, rfl⟩, trivial⟩, trivial⟩ (fun _ _ _ h => h) ?_
                        refine VA.va (i := 8) (listed' := LB 25 511) rfl (op_load 1 2 rfl rfl TI35 rfl (fun h => absurd h (by decide)) (ltn rfl)) rfl (by kernel_rfl) (by kernel_rfl) (by kernel_rfl) (by kernel_rfl) ⟨trivial, ⟨⟨2, rfl⟩, ⟨4, rfl⟩, trivial⟩, trivial⟩ (fun _ _ _ h => h) ?_
                        refine VA.va (i := 9) (listed' := LB 25 1023) rfl (op_move rfl (ltn rfl)) rfl (by kernel_rfl) (by kernel_rfl) (by kernel_rfl) (by kernel_rfl) ⟨trivial, ⟨⟨2, rfl⟩, ⟨4, rfl⟩, trivial⟩, trivial⟩ (fun _ _ _ h => h) ?_
                        refine VA.oneC (i := 10) (listed' := LB 25 2047) (by kernel_rfl) rfl (o_call0 FO20 (tarryref07_Know.ok k r382 r383 (a1.extract 0 ((mn (a1.size : Int) 18).toNat)) v386 v388 r148907 r148908 hA148909) rfl rfl (ltn rfl) (All_of (.cons (List.mem_of_getElem? (i := 2) rfl) (.cons (List.mem_of_getElem? (i := 3) rfl) .nil)))) rfl (by kernel_rfl) ?_
                        rintro _ _ _ ⟨v148911, v148913, rfl, rfl, rfl⟩
                        refine ⟨⟨trivial, ⟨⟨2, rfl⟩, ⟨4, rfl⟩, trivial⟩, trivial⟩, ?_⟩
                        refine VA.oneC (i := 11) (listed' := LB 25 4095) (by kernel_rfl) rfl (o_call_b0 FO15 (tarryref07_Like.ok k r1915 r1916 r148907 r148908 v1920 v1922 v148911 v148913 true hA148915) rfl rfl (ltn rfl) (All_of (.cons (.inr (.inl ⟨_, List.mem_of_getElem? (i := 3) rfl, rfl⟩)) (.cons (.inl (List.mem_of_getElem? (i := 2) rfl)) (.cons (.inr (.inl ⟨_, List.mem_of_getElem? (i := 0) rfl, rfl⟩)) (.cons (.inl (List.mem_of_getElem? (i := 0) rfl)) .nil))))) (by rintro _ _ _ ⟨rfl, rfl, rfl⟩; rfl)) rfl (by kernel_rfl) ?_
                        rintro _ _ _ ⟨rfl, rfl, rfl⟩
                        refine ⟨⟨trivial, ⟨⟨2, rfl⟩, ⟨4, rfl⟩, trivial⟩, trivial⟩, ?_⟩
                        refine VA.va (i := 12) (listed' := LB 25 8191) rfl (op_not rfl rfl (ltn rfl)) rfl (by kernel_rfl) (by kernel_rfl) (by kernel_rfl) (by kernel_rfl) ⟨trivial, ⟨⟨2, rfl⟩, ⟨4, rfl⟩, trivial⟩, trivial⟩ (fun _ _ _ h => h) ?_
                        refine VA.va (i := 13) (listed' := LB 25 16383) rfl (op_pick rfl rfl (ltn rfl)) rfl (by kernel_rfl) (by kernel_rfl) (by kernel_rfl) (by kernel_rfl) ⟨trivial, ⟨⟨2, rfl⟩, ⟨4, rfl⟩, trivial⟩, trivial⟩ (fun _ _ _ h => h) ?_
                        refine VA.va (i := 14) (listed' := LB 25 32767) rfl (op_pick rfl rfl (ltn rfl)) rfl (by kernel_rfl) (by kernel_rfl) (by kernel_rfl) (by kernel_rfl) ⟨trivial, ⟨⟨2, rfl⟩, ⟨4, rfl⟩, trivial⟩, trivial⟩ (fun _ _ _ h => h) ?_
                        refine VA.va (i := 15) (listed' := LB 25 65535) rfl (op_move rfl (ltn rfl)) rfl (by kernel_rfl) (by kernel_rfl) (by kernel_rfl) (by kernel_rfl) ⟨trivial, ⟨⟨2, rfl⟩, ⟨4, rfl⟩, trivial⟩, trivial⟩ (fun _ _ _ h => h) ?_
                        refine VA.va (i := 16) (listed' := LB 25 131071) rfl (op_move rfl (ltn rfl)) rfl (by kernel_rfl) (by kernel_rfl) (by kernel_rfl) (by kernel_rfl) ⟨trivial, ⟨⟨2, rfl⟩, ⟨4, rfl⟩, trivial⟩, trivial⟩ (fun _ _ _ h => h) ?_
                        refine VA.va (i := 17) (listed' := LB 25 262143) rfl (op_cmp rfl rfl (congrArg some hb148917) (ltn rfl)) rfl (by kernel_rfl) (by kernel_rfl) (by kernel_rfl) (by kernel_rfl) ⟨trivial, ⟨⟨2, rfl⟩, ⟨4, rfl⟩, trivial⟩, trivial⟩ (fun _ _ _ h => h) ?_
                        refine VA.va (i := 18) (listed' := LB 25 524287) rfl (op_move rfl (ltn rfl)) rfl (by kernel_rfl) (by kernel_rfl) (by kernel_rfl) (by kernel_rfl) ⟨trivial, ⟨⟨2, rfl⟩, ⟨4, rfl⟩, trivial⟩, trivial⟩ (fun _ _ _ h => h) ?_
                        refine VA.un (i := 19) (listed' := LB 25 1048575) rfl rfl rfl (ltn rfl) (by kernel_rfl) (by kernel_rfl) (by kernel_rfl) (by kernel_rfl) ⟨trivial, ⟨⟨2, rfl⟩, ⟨4, rfl⟩, trivial⟩, trivial⟩ (fun _ _ _ h => h) ?_
                        refine VA.un (i := 20) (listed' := LB 25 2097151) rfl rfl rfl (ltn rfl) (by kernel_rfl) (by kernel_rfl) (by kernel_rfl) (by kernel_rfl) ⟨trivial, ⟨⟨2, rfl⟩, ⟨4, rfl⟩, trivial⟩, trivial⟩ (fun _ _ _ h => h) ?_
                        refine VA.un (i := 21) (listed' := LB 25 4194303) rfl rfl rfl (ltn rfl) (by kernel_rfl) (by kernel_rfl) (by kernel_rfl) (by kernel_rfl) ⟨trivial, ⟨⟨2, rfl⟩, ⟨4, rfl⟩, trivial⟩, trivial⟩ (fun _ _ _ h => h) ?_
                        refine VA.un (i := 22) (listed' := LB 25 8388607) rfl rfl rfl (ltn rfl) (by kernel_rfl) (by kernel_rfl) (by kernel_rfl) (by kernel_rfl) ⟨trivial, ⟨⟨2, rfl⟩, ⟨4, rfl⟩, trivial⟩, trivial⟩ (fun _ _ _ h => h) ?_
                        refine VA.va (i := 23) (listed' := LB 25 16777215) rfl (op_pick rfl rfl (ltn rfl)) rfl (by kernel_rfl) (by kernel_rfl) (by kernel_rfl) (by kernel_rfl) ⟨trivial, ⟨⟨2, rfl⟩, ⟨4, rfl⟩, trivial⟩, trivial⟩ (fun _ _ _ h => h) ?_
                        refine VA.va (i := 24) (listed' := LB 25 33554431) rfl (op_pick rfl rfl (ltn rfl)) rfl (by kernel_rfl) (by kernel_rfl) (by kernel_rfl) (by kernel_rfl) ⟨trivial, ⟨⟨2, rfl⟩, ⟨4, rfl⟩, trivial⟩, trivial⟩ (fun _ _ _ h => h) ?_
                        refine VA.done (by kernel_rfl) ?_
                        exact VN.meet0  [0, 1, 3, 4] [1, 2] trivial ⟨rfl, ⟨rfl, rfl, rfl, rfl, rfl, rfl, rfl, rfl, rfl, rfl, rfl, trivial⟩, ⟨⟨1, rfl⟩, ⟨3, rfl⟩, ⟨4, rfl⟩, trivial⟩, rfl, by decide, rfl, by decide⟩
                      intro _
                      refine VC.cond_f rfl ?_
                      refine VC.skip ?_
                      refine VN.meet0  [0, 1, 2, 3] [0, 1] h ⟨rfl, ⟨rfl, rfl, rfl, rfl, rfl, rfl, rfl, rfl, rfl, rfl, trivial⟩, ⟨⟨0, rfl⟩, ⟨1, rfl⟩, ⟨2, rfl⟩, trivial⟩, rfl, by decide, rfl, by decide⟩
                    · rw [if_neg c148918] at h
                      obtain rfl : b148917 = true := hb148917.symm.trans (bne_iff_ne.2 c148918)
                      replace h := Option.bind_eq_some_iff.1 h
                      obtain ⟨t148921, hA148922, h⟩ := h
                      by_cases c148923 : t148921 = true
                      · rw [if_pos c148923] at h
                        obtain rfl := c148923
                        refine VC.join0 (⟨225, [(1, .string (a1.extract 0 ((mn (a1.size : Int) 18).toNat))), (3, .pointer (some ⟨g3, 0, none⟩)), (5, .pointer (some ⟨g4, 0, none⟩)), (6, .bool false), (9, .pointer (some ⟨g2319, 0, none⟩)), (10, .int .i64 t2313), (11, v2467), (12, .int .i64 t2464), (13, .pointer (some ⟨g2468, 0, none⟩)), (14, .int .i64 i127066), (121, .bool false)], [.row v2316 1 (r2311.map enc_str), .row v386 1 (r382.map enc_str), .row v388 5 (r383.map enc22)], [(g2468, 35, [.slice none 0 0, .slice none 0 0]), (g2319, 35, [v2316, v2318]), (g4, 23, [.string t391, .string t392, .int .i64 t393, .int .i64 t394, .int .i64 t395]), (g3, 35, [v386, v388])], [(v2467, 23, 5, r2463.map enc22), (v2318, 23, 5, r2312.map enc22)]⟩) (True) ?_ ?_
                        · refine VC.draw ⟨0, [], [], [(g2468, 35, [.slice none 0 0, .slice none 0 0]), (g1923, 35, [v1920, v1922]), (g3, 35, [v386, v388])], []⟩ (by kernel_rfl) rfl (by kernel_rfl) (n := 25) (listed := LB 25 0) ?_
                          refine VA.va (i := 0) (listed' := LB 25 1) rfl (op_move rfl (ltn rfl)) rfl (by kernel_rfl) (by kernel_rfl) (by kernel_rfl) (by kernel_rfl) ⟨trivial, ⟨⟨0, rfl⟩, ⟨2, rfl⟩, ⟨4, rfl⟩, trivial⟩, trivial⟩ (fun _ _ _ h => h) ?_
                          refine VA.va (i := 1) (listed' := LB 25 3) rfl (op_move rfl (ltn rfl)) rfl (by kernel_rfl) (by kernel_rfl) (by kernel_rfl) (by kernel_rfl) ⟨trivial, ⟨⟨0, rfl⟩, ⟨2, rfl⟩, ⟨4, rfl⟩, trivial⟩, trivial⟩ (fun _ _ _ h => h) ?_
                          refine VA.va (i := 2) (listed' := LB 25 7) rfl (op_cmp rfl rfl (congrArg some hb148903) (ltn rfl)) rfl (by kernel_rfl) (by kernel_rfl) (by kernel_rfl) (by kernel_rfl) ⟨trivial, ⟨⟨0, rfl⟩, ⟨2, rfl⟩, ⟨4, rfl⟩, trivial⟩, trivial⟩ (fun _ _ _ h => h) ?_
                          refine VA.va (i := 3) (listed' := LB 25 15) rfl (op_move rfl (ltn rfl)) rfl (by kernel_rfl) (by kernel_rfl) (by kernel_rfl) (by kernel_rfl) ⟨trivial, ⟨⟨0, rfl⟩, ⟨2, rfl⟩, ⟨4, rfl⟩, trivial⟩, trivial⟩ (fun _ _ _ h => h) ?_
                          refine VA.va (i := 4) (listed' := LB 25 31) rfl (op_move rfl (ltn rfl)) rfl (by kernel_rfl) (by kernel_rfl) (by kernel_rfl) (by kernel_rfl) ⟨trivial, ⟨⟨0, rfl⟩, ⟨2, rfl⟩, ⟨4, rfl⟩, trivial⟩, trivial⟩ (fun _ _ _ h => h) ?_
                          refine VA.va (i := 5) (listed' := LB 25 63) rfl (op_cmp rfl rfl (congrArg some hb148905) (ltn rfl)) rfl (by kernel_rfl) (by kernel_rfl) (by kernel_rfl) (by kernel_rfl) ⟨trivial, ⟨⟨0, rfl⟩, ⟨2, rfl⟩, ⟨4, rfl⟩, trivial⟩, trivial⟩ (fun _ _ _ h => h) ?_
                          refine VA.va (i := 6) (listed' := LB 25 127) rfl (op_move rfl (ltn rfl)) rfl (by kernel_rfl) (by kernel_rfl) (by kernel_rfl) (by kernel_rfl) ⟨trivial, ⟨⟨0, rfl⟩, ⟨2, rfl⟩, ⟨4, rfl⟩, trivial⟩, trivial⟩ (fun _ _ _ h => h) ?_
                          refine VA.va (i := 7) (listed' := LB 25 255) rfl (op_load 1 2 rfl rfl TI35 rfl (fun h => absurd h (by decide)) (ltn rfl)) rfl (by kernel_rfl) (by kernel_rfl) (by kernel_rfl) (by kernel_rfl) ⟨trivial, ⟨⟨0, rfl⟩, ⟨2, rfl⟩, ⟨4, rfl⟩, trivial⟩, trivial⟩ (fun _ _ _ h => h) ?_
                          refine VA.va (i := 8) (listed' := LB 25 511) rfl (op_load 2 2 rfl rfl TI35 rfl (fun h => absurd h (by decide)) (ltn rfl)) rfl (by kernel_rfl) (by kernel_rfl) (by kernel_rfl) (by kernel_rfl) ⟨trivial, ⟨⟨0, rfl⟩, ⟨2, rfl⟩, ⟨4, rfl⟩, trivial⟩, trivial⟩ (fun _ _ _ h => h) ?_
                          refine VA.va (i := 9) (listed' := LB 25 1023) rfl (op_move rfl (ltn rfl)) rfl (by kernel_rfl) (by kernel_rfl) (by kernel_rfl) (by kernel_rfl) ⟨trivial, ⟨⟨0, rfl⟩, ⟨2, rfl⟩, ⟨4, rfl⟩, trivial⟩, trivial⟩ (fun _ _ _ h => h) ?_
                          refine VA.oneC (i := 10) (listed' := LB 25 2047) (by kernel_rfl) rfl (o_call0 FO20 (tarryref07_Know.ok k r382 r383 (a1.extract 0 ((mn (a1.size : Int) 18).toNat)) v386 v388 r148907 r148908 hA148909) rfl rfl (ltn rfl) (All_of (.cons (List.mem_of_getElem? (i := 2) rfl) (.cons (List.mem_of_getElem? (i := 3) rfl) .nil)))) rfl (by kernel_rfl) ?_
                          rintro _ _ _ ⟨v148911, v148913, rfl, rfl, rfl⟩
                          refine ⟨⟨trivial, ⟨⟨0, rfl⟩, ⟨2, rfl⟩, ⟨4, rfl⟩, trivial⟩, trivial⟩, ?_⟩
                          refine VA.oneC (i := 11) (listed' := LB 25 4095) (by kernel_rfl) rfl (o_call_b0 FO15 (tarryref07_Like.ok k r1915 r1916 r148907 r148908 v1920 v1922 v148911 v148913 true hA148915) rfl rfl (ltn rfl) (All_of (.cons (.inr (.inl ⟨_, List.mem_of_getElem? (i := 3) rfl, rfl⟩)) (.cons (.inl (List.mem_of_getElem? (i := 2) rfl)) (.cons (.inr (.inl ⟨_, List.mem_of_getElem? (i := 0) rfl, rfl⟩)) (.cons (.inl (List.mem_of_getElem? (i := 0) rfl)) .nil))))) (by rintro _ _ _ ⟨rfl, rfl, rfl⟩; rfl)) rfl (by kernel_rfl) ?_
                          rintro _ _ _ ⟨rfl, rfl, rfl⟩
                          refine ⟨⟨trivial, ⟨⟨0, rfl⟩, ⟨2, rfl⟩, ⟨4, rfl⟩, trivial⟩, trivial⟩, ?_⟩
                          refine VA.va (i := 12) (listed' := LB 25 8191) rfl (op_not rfl rfl (ltn rfl)) rfl (by kernel_rfl) (by kernel_rfl) (by kernel_rfl) (by kernel_rfl) ⟨trivial, ⟨⟨0, rfl⟩, ⟨2, rfl⟩, ⟨4, rfl⟩, trivial⟩, trivial⟩ (fun _ _ _ h => h) ?_
                          refine VA.va (i := 13) (listed' := LB 25 16383) rfl (op_pick rfl rfl (ltn rfl)) rfl (by kernel_rfl) (by kernel_rfl) (by kernel_rfl) (by kernel_rfl) ⟨trivial, ⟨⟨0, rfl⟩, ⟨2, rfl⟩, ⟨4, rfl⟩, trivial⟩, trivial⟩ (fun _ _ _ h => h) ?_
                          refine VA.va (i := 14) (listed' := LB 25 32767) rfl (op_pick rfl rfl (ltn rfl)) rfl (by kernel_rfl) (by kernel_rfl) (by kernel_rfl) (by kernel_rfl) ⟨trivial, ⟨⟨0, rfl⟩, ⟨2, rfl⟩, ⟨4, rfl⟩, trivial⟩, trivial⟩ (fun _ _ _ h => h) ?_
                          refine VA.va (i := 15) (listed' := LB 25 65535) rfl (op_move rfl (ltn rfl)) rfl (by kernel_rfl) (by kernel_rfl) (by kernel_rfl) (by kernel_rfl) ⟨trivial, ⟨⟨0, rfl⟩, ⟨2, rfl⟩, ⟨4, rfl⟩, trivial⟩, trivial⟩ (fun _ _ _ h => h) ?_
                          refine VA.va (i := 16) (listed' := LB 25 131071) rfl (op_move rfl (ltn rfl)) rfl (by kernel_rfl) (by kernel_rfl) (by kernel_rfl) (by kernel_rfl) ⟨trivial, ⟨⟨0, rfl⟩, ⟨2, rfl⟩, ⟨4, rfl⟩, trivial⟩, trivial⟩ (fun _ _ _ h => h) ?_
                          refine VA.va (i := 17) (listed' := LB 25 262143) rfl (op_cmp rfl rfl (congrArg some hb148917) (ltn rfl)) rfl (by kernel_rfl) (by kernel_rfl) (by kernel_rfl) (by kernel_rfl) ⟨trivial, ⟨⟨0, rfl⟩, ⟨2, rfl⟩, ⟨4, rfl⟩, trivial⟩, trivial⟩ (fun _ _ _ h => h) ?_
                          refine VA.va (i := 18) (listed' := LB 25 524287) rfl (op_move rfl (ltn rfl)) rfl (by kernel_rfl) (by kernel_rfl) (by kernel_rfl) (by kernel_rfl) ⟨trivial, ⟨⟨0, rfl⟩, ⟨2, rfl⟩, ⟨4, rfl⟩, trivial⟩, trivial⟩ (fun _ _ _ h => h) ?_
                          refine VA.va (i := 19) (listed' := LB 25 1048575) rfl (op_load 1 2 rfl rfl TI35 rfl (fun h => absurd h (by decide)) (ltn rfl)) rfl (by kernel_rfl) (by kernel_rfl) (by kernel_rfl) (by kernel_rfl) ⟨trivial, ⟨⟨0, rfl⟩, ⟨2, rfl⟩, ⟨4, rfl⟩, trivial⟩, trivial⟩ (fun _ _ _ h => h) ?_
                          refine VA.va (i := 20) (listed' := LB 25 2097151) rfl (op_load 0 2 rfl rfl TI35 rfl (fun h => absurd h (by decide)) (ltn rfl)) rfl (by kernel_rfl) (by kernel_rfl) (by kernel_rfl) (by kernel_rfl) ⟨trivial, ⟨⟨0, rfl⟩, ⟨2, rfl⟩, ⟨4, rfl⟩, trivial⟩, trivial⟩ (fun _ _ _ h => h) ?_
                          refine VA.nilFact' 1 ?_
                          refine VA.nilFact' 5 ?_
                          refine VA.oneC (i := 21) (listed' := LB 25 4194303) (by kernel_rfl) rfl (o_call_b0 FO15 (tarryref07_Like.ok k r1915 r1916 [] [] v1920 v1922 (.slice none 0 0) (.slice none 0 0) true hA148922) rfl rfl (ltn rfl) (All_of (.cons (.inr (.inl ⟨_, List.mem_of_getElem? (i := 3) rfl, rfl⟩)) (.cons (.inl (List.mem_of_getElem? (i := 4) rfl)) (.cons (.inl (List.mem_of_getElem? (i := 1) rfl)) (.cons (.inl (List.mem_of_getElem? (i := 0) rfl)) .nil))))) (by rintro _ _ _ ⟨rfl, rfl, rfl⟩; rfl)) rfl (by kernel_rfl) ?_
                          rintro _ _ _ ⟨rfl, rfl, rfl⟩
                          refine ⟨⟨trivial, ⟨⟨0, rfl⟩, ⟨2, rfl⟩, ⟨4, rfl⟩, trivial⟩, trivial⟩, ?_⟩
                          refine VA.va (i := 22) (listed' := LB 25 8388607) rfl (op_not rfl rfl (ltn rfl)) rfl (by kernel_rfl) (by kernel_rfl) (by kernel_rfl) (by kernel_rfl) ⟨trivial, ⟨⟨0, rfl⟩, ⟨2, rfl⟩, ⟨4, rfl⟩, trivial⟩, trivial⟩ (fun _ _ _ h => h) ?_
                          refine VA.va (i := 23) (listed' := LB 25 16777215) rfl (op_pick rfl rfl (ltn rfl)) rfl (by kernel_rfl) (by kernel_rfl) (by kernel_rfl) (by kernel_rfl) ⟨trivial, ⟨⟨0, rfl⟩, ⟨2, rfl⟩, ⟨4, rfl⟩, trivial⟩, trivial⟩ (fun _ _ _ h => h) ?_
                          refine VA.va (i := 24) (listed' := LB 25 33554431) rfl (op_pick rfl rfl (ltn rfl)) rfl (by kernel_rfl) (by kernel_rfl) (by kernel_rfl) (by kernel_rfl) ⟨trivial, ⟨⟨0, rfl⟩, ⟨2, rfl⟩, ⟨4, rfl⟩, trivial⟩, trivial⟩ (fun _ _ _ h => h) ?_
                          refine VA.done (by kernel_rfl) ?_
                          exact VN.meet0  [0, 1, 3, 4] [1, 2] trivial ⟨rfl, ⟨rfl, rfl, rfl, rfl, rfl, rfl, rfl, rfl, rfl, rfl, rfl, trivial⟩, ⟨⟨3, rfl⟩, ⟨5, rfl⟩, ⟨6, rfl⟩, trivial⟩, rfl, by decide, rfl, by decide⟩
                        intro _
                        refine VC.cond_f rfl ?_
                        refine VC.skip ?_
                        refine VN.meet0  [0, 1, 2, 3] [0, 1] h ⟨rfl, ⟨rfl, rfl, rfl, rfl, rfl, rfl, rfl, rfl, rfl, rfl, trivial⟩, ⟨⟨0, rfl⟩, ⟨1, rfl⟩, ⟨2, rfl⟩, trivial⟩, rfl, by decide, rfl, by decide⟩
                      · rw [if_neg c148923] at h
                        obtain rfl := Bool.eq_false_iff.2 c148923
                        refine VC.join0 (⟨225, [(1, .string (a1.extract 0 ((mn (a1.size : Int) 18).toNat))), (3, .pointer (some ⟨g3, 0, none⟩)), (5, .pointer (some ⟨g4, 0, none⟩)), (6, .bool false), (9, .pointer (some ⟨g2319, 0, none⟩)), (10, .int .i64 t2313), (11, v2467), (12, .int .i64 t2464), (13, .pointer (some ⟨g2468, 0, none⟩)), (14, .int .i64 i127066), (121, .bool true)], [.row v2316 1 (r2311.map enc_str), .row v386 1 (r382.map enc_str), .row v388 5 (r383.map enc22)], [(g2468, 35, [.slice none 0 0, .slice none 0 0]), (g2319, 35, [v2316, v2318]), (g4, 23, [.string t391, .string t392, .int .i64 t393, .int .i64 t394, .int .i64 t395]), (g3, 35, [v386, v388])], [(v2467, 23, 5, r2463.map enc22), (v2318, 23, 5, r2312.map enc22)]⟩) (True) ?_ ?_
                        · refine VC.draw ⟨0, [], [], [(g2468, 35, [.slice none 0 0, .slice none 0 0]), (g1923, 35, [v1920, v1922]), (g3, 35, [v386, v388])], []⟩ (by kernel_rfl) rfl (by kernel_rfl) (n := 25) (listed := LB 25 0) ?_
                          refine VA.va (i := 0) (listed' := LB 25 1) rfl (op_move rfl (ltn rfl)) rfl (by kernel_rfl) (by kernel_rfl) (by kernel_rfl) (by kernel_rfl) ⟨trivial, ⟨⟨0, rfl⟩, ⟨2, rfl⟩, ⟨4, rfl⟩, trivial⟩, trivial⟩ (fun _ _ _ h => h) ?_
                          refine VA.va (i := 1) (listed' := LB 25 3) rfl (op_move rfl (ltn rfl)) rfl (by kernel_rfl) (by kernel_rfl) (by kernel_rfl) (by kernel_rfl) ⟨trivial, ⟨⟨0, rfl⟩, ⟨2, rfl⟩, ⟨4, rfl⟩, trivial⟩, trivial⟩ (fun _ _ _ h => h) ?_
                          refine VA.va (i := 2) (listed' := LB 25 7) rfl (op_cmp rfl rfl (congrArg some hb148903) (ltn rfl)) rfl (by kernel_rfl) (by kernel_rfl) (by kernel_rfl) (by kernel_rfl) ⟨trivial, ⟨⟨0, rfl⟩, ⟨2, rfl⟩, ⟨4, rfl⟩, trivial⟩, trivial⟩ (fun _ _ _ h => h) ?_
                          refine VA.va (i := 3) (listed' := LB 25 15) rfl (op_move rfl (ltn rfl)) rfl (by kernel_rfl) (by kernel_rfl) (by kernel_rfl) (by kernel_rfl) ⟨trivial, ⟨⟨0, rfl⟩, ⟨2, rfl⟩, ⟨4, rfl⟩, trivial⟩, trivial⟩ (fun _ _ _ h => h) ?_
                          refine VA.va (i := 4) (listed' := LB 25 31) rfl (op_move rfl (ltn rfl)) rfl (by kernel_rfl) (by kernel_rfl) (by kernel_rfl) (by kernel_rfl) ⟨trivial, ⟨⟨0, rfl⟩, ⟨2, rfl⟩, ⟨4, rfl⟩, trivial⟩, trivial⟩ (fun _ _ _ h => h) ?_
                          refine VA.va (i := 5) (listed' := LB 25 63) rfl (op_cmp rfl rfl (congrArg some hb148905) (ltn rfl)) rfl (by kernel_rfl) (by kernel_rfl) (by kernel_rfl) (by kernel_rfl) ⟨trivial, ⟨⟨0, rfl⟩, ⟨2, rfl⟩, ⟨4, rfl⟩, trivial⟩, trivial⟩ (fun _ _ _ h => h) ?_
                          refine VA.va (i := 6) (listed' := LB 25 127) rfl (op_move rfl (ltn rfl)) rfl (by kernel_rfl) (by kernel_rfl) (by kernel_rfl) (by kernel_rfl) ⟨trivial, ⟨⟨0, rfl⟩, ⟨2, rfl⟩, ⟨4, rfl⟩, trivial⟩, trivial⟩ (fun _ _ _ h => h) ?_
                          refine VA.va (i := 7) (listed' := LB 25 255) rfl (op_load 1 2 rfl rfl TI35 rfl (fun h => absurd h (by decide)) (ltn rfl)) rfl (by kernel_rfl) (by kernel_rfl) (by kernel_rfl) (by kernel_rfl) ⟨trivial, ⟨⟨0, rfl⟩, ⟨2, rfl⟩, ⟨4, rfl⟩, trivial⟩, trivial⟩ (fun _ _ _ h => h) ?_
                          refine VA.va (i := 8) (listed' := LB 25 511) rfl (op_load 2 2 rfl rfl TI35 rfl (fun h => absurd h (by decide)) (ltn rfl)) rfl (by kernel_rfl) (by kernel_rfl) (by kernel_rfl) (by kernel_rfl) ⟨trivial, ⟨⟨0, rfl⟩, ⟨2, rfl⟩, ⟨4, rfl⟩, trivial⟩, trivial⟩ (fun _ _ _ h => h) ?_
                          refine VA.va (i := 9) (listed' := LB 25 1023) rfl (op_move rfl (ltn rfl)) rfl (by kernel_rfl) (by kernel_rfl) (by kernel_rfl) (by kernel_rfl) ⟨trivial, ⟨⟨0, rfl⟩, ⟨2, rfl⟩, ⟨4, rfl⟩, trivial⟩, trivial⟩ (fun _ _ _ h => h) ?_
                          refine VA.oneC (i := 10) (listed' := LB 25 2047) (by kernel_rfl) rfl (o_call0 FO20 (tarryref07_Know.ok k r382 r383 (a1.extract 0 ((mn (a1.size : Int) 18).toNat)) v386 v388 r148907 r148908 hA148909) rfl rfl (ltn rfl) (All_of (.cons (List.mem_of_getElem? (i := 2) rfl) (.cons (List.mem_of_getElem? (i := 3) rfl) .nil)))) rfl (by kernel_rfl) ?_
                          rintro _ _ _ ⟨v148911, v148913, rfl, rfl, rfl⟩
                          refine ⟨⟨trivial, ⟨⟨0, rfl⟩, ⟨2, rfl⟩, ⟨4, rfl⟩, trivial⟩, trivial⟩, ?_⟩
                          refine VA.oneC (i := 11) (listed' := LB 25 4095) (by kernel_rfl) rfl (o_call_b0 FO15 (tarryref07_Like.ok k r1915 r1916 r148907 r148908 v1920 v1922 v148911 v148913 true hA148915) rfl rfl (ltn rfl) (All_of (.cons (.inr (.inl ⟨_, List.mem_of_getElem? (i := 3) rfl, rfl⟩)) (.cons (.inl (List.mem_of_getElem? (i := 2) rfl)) (.cons (.inr (.inl ⟨_, List.mem_of_getElem? (i := 0) rfl, rfl⟩)) (.cons (.inl (List.mem_of_getElem? (i := 0) rfl)) .nil))))) (by rintro _ _ _ ⟨rfl, rfl, rfl⟩; rfl)) rfl (by kernel_rfl) ?_
                          rintro _ _ _ ⟨rfl, rfl, rfl⟩
                          refine ⟨⟨trivial, ⟨⟨0, rfl⟩, ⟨2, rfl⟩, ⟨4, rfl⟩, trivial⟩, trivial⟩, ?_⟩
                          refine VA.va (i := 12) (listed' := LB 25 8191) rfl (op_not rfl rfl (ltn rfl)) rfl (by kernel_rfl) (by kernel_rfl) (by kernel_rfl) (by kernel_rfl) ⟨trivial, ⟨⟨0, rfl⟩, ⟨2, rfl⟩, ⟨4, rfl⟩, trivial⟩, trivial⟩ (fun _ _ _ h => h) ?_
                          refine VA.va (i := 13) (listed' := LB 25 16383) rfl (op_pick rfl rfl (ltn rfl)) rfl (by kernel_rfl) (by kernel_rfl) (by kernel_rfl) (by kernel_rfl) ⟨trivial, ⟨⟨0, rfl⟩, ⟨2, rfl⟩, ⟨4, rfl⟩, trivial⟩, trivial⟩ (fun _ _ _ h => h) ?_
                          refine VA.va (i := 14) (listed' := LB 25 32767) rfl (op_pick rfl rfl (ltn rfl)) rfl (by kernel_rfl) (by kernel_rfl) (by kernel_rfl) (by kernel_rfl) ⟨trivial, ⟨⟨0, rfl⟩, ⟨2, rfl⟩, ⟨4, rfl⟩, trivial⟩, trivial⟩ (fun _ _ _ h => h) ?_
                          refine VA.va (i := 15) (listed' := LB 25 65535) rfl (op_move rfl (ltn rfl)) rfl (by kernel_rfl) (by kernel_rfl) (by kernel_rfl) (by kernel_rfl) ⟨trivial, ⟨⟨0, rfl⟩, ⟨2, rfl⟩, ⟨4, rfl⟩, trivial⟩, trivial⟩ (fun _ _ _ h => h) ?_
                          refine VA.va (i := 16) (listed' := LB 25 131071) rfl (op_move rfl (ltn rfl)) rfl (by kernel_rfl) (by kernel_rfl) (by kernel_rfl) (by kernel_rfl) ⟨trivial, ⟨⟨0, rfl⟩, ⟨2, rfl⟩, ⟨4, rfl⟩, trivial⟩, trivial⟩ (fun _ _ _ h => h) ?_
                          refine VA.va (i := 17) (listed' := LB 25 262143) rfl (op_cmp rfl rfl (congrArg some hb148917) (ltn rfl)) rfl (by kernel_rfl) (by kernel_rfl) (by kernel_rfl) (by kernel_rfl) ⟨trivial, ⟨⟨0, rfl⟩, ⟨2, rfl⟩, ⟨4, rfl⟩, trivial⟩, trivial⟩ (fun _ _ _ h => h) ?_
                          refine VA.va (i := 18) (listed' := LB 25 524287) rfl (op_move rfl (ltn rfl)) rfl (by kernel_rfl) (by kernel_rfl) (by kernel_rfl) (by kernel_rfl) ⟨trivial, ⟨⟨0, rfl⟩, ⟨2, rfl⟩, ⟨4, rfl⟩, trivial⟩, trivial⟩ (fun _ _ _ h => h) ?_
                          refine VA.va (i := 19) (listed' := LB 25 1048575) rfl (op_load 1 2 rfl rfl TI35 rfl (fun h => absurd h (by decide)) (ltn rfl)) rfl (by kernel_rfl) (by kernel_rfl) (by kernel_rfl) (by kernel_rfl) ⟨trivial, ⟨⟨0, rfl⟩, ⟨2, rfl⟩, ⟨4, rfl⟩, trivial⟩, trivial⟩ (fun _ _ _ h => h) ?_
                          refine VA.va (i := 20) (listed' := LB 25 2097151) rfl (op_load 0 2 rfl rfl TI35 rfl (fun h => absurd h (by decide)) (ltn rfl)) rfl (by kernel_rfl) (by kernel_rfl) (by kernel_rfl) (by kernel_rfl) ⟨trivial, ⟨⟨0, rfl⟩, ⟨2, rfl⟩, ⟨4, rfl⟩, trivial⟩, trivial⟩ (fun _ _ _ h => h) ?_
                          refine VA.nilFact' 1 ?_
                          refine VA.nilFact' 5 ?_
                          refine VA.oneC (i := 21) (listed' := LB 25 4194303) (by kernel_rfl) rfl (o_call_b0 FO15 (tarryref07_Like.ok k r1915 r1916 [] [] v1920 v1922 (.slice none 0 0) (.slice none 0 0) false hA148922) rfl rfl (ltn rfl) (All_of (.cons (.inr (.inl ⟨_, List.mem_of_getElem? (i := 3) rfl, rfl⟩)) (.cons (.inl (List.mem_of_getElem? (i := 4) rfl)) (.cons (.inl (List.mem_of_getElem? (i := 1) rfl)) (.cons (.inl (List.mem_of_getElem? (i := 0) rfl)) .nil))))) (by rintro _ _ _ ⟨rfl, rfl, rfl⟩; rfl)) rfl (by kernel_rfl) ?_
                          rintro _ _ _ ⟨rfl, rfl, rfl⟩
                          refine ⟨⟨trivial, ⟨⟨0, rfl⟩, ⟨2, rfl⟩, ⟨4, rfl⟩, trivial⟩, trivial⟩, ?_⟩
                          refine VA.va (i := 22) (listed' := LB 25 8388607) rfl (op_not rfl rfl (ltn rfl)) rfl (by kernel_rfl) (by kernel_rfl) (by kernel_rfl) (by kernel_rfl) ⟨trivial, ⟨⟨0, rfl⟩, ⟨2, rfl⟩, ⟨4, rfl⟩, trivial⟩, trivial⟩ (fun _ _ _ h => h) ?_
                          refine VA.va (i := 23) (listed' := LB 25 16777215) rfl (op_pick rfl rfl (ltn rfl)) rfl (by kernel_rfl) (by kernel_rfl) (by kernel_rfl) (by kernel_rfl) ⟨trivial, ⟨⟨0, rfl⟩, ⟨2, rfl⟩, ⟨4, rfl⟩, trivial⟩, trivial⟩ (fun _ _ _ h => h) ?_
                          refine VA.va (i := 24) (listed' := LB 25 33554431) rfl (op_pick rfl rfl (ltn rfl)) rfl (by kernel_rfl) (by kernel_rfl) (by kernel_rfl) (by kernel_rfl) ⟨trivial, ⟨⟨0, rfl⟩, ⟨2, rfl⟩, ⟨4, rfl⟩, trivial⟩, trivial⟩ (fun _ _ _ h => h) ?_
                          refine VA.done (by kernel_rfl) ?_
                          exact VN.meet0  [0, 1, 3, 4] [1, 2] trivial ⟨rfl, ⟨rfl, rfl, rfl, rfl, rfl, rfl, rfl, rfl, rfl, rfl, rfl, trivial⟩, ⟨⟨3, rfl⟩, ⟨5, rfl⟩, ⟨6, rfl⟩, trivial⟩, rfl, by decide, rfl, by decide⟩
                        intro _
                        refine VC.cond_t rfl ?_
                        refine VC.seq ?_
                        refine VC.region ?_
                        refine VL.va (op_assign rfl (ltn rfl)) rfl ?_
                        refine VL.done ?_
                        refine VN.then ?_
                        refine VC.ret ?_
                        refine VR.then ?_
                        cases h
                  · rw [if_neg c148916] at h
                    obtain rfl := Bool.eq_false_iff.2 c148916
                    refine VC.join0 (⟨225, [(1, .string (a1.extract 0 ((mn (a1.size : Int) 18).toNat))), (3, .pointer (some ⟨g3, 0, none⟩)), (5, .pointer (some ⟨g4, 0, none⟩)), (6, .bool false), (9, .pointer (some ⟨g2319, 0, none⟩)), (10, .int .i64 t2313), (11, v2467), (12, .int .i64 t2464), (13, .pointer (some ⟨g2468, 0, none⟩)), (14, .int .i64 i127066), (121, .bool true)], [.row v2316 1 (r2311.map enc_str), .row v386 1 (r382.map enc_str), .row v388 5 (r383.map enc22)], [(g2468, 35, [.slice none 0 0, .slice none 0 0]), (g2319, 35, [v2316, v2318]), (g4, 23, [.string t391, .string t392, .int .i64 t393, .int .i64 t394, .int .i64 t395]), (g3, 35, [v386, v388])], [(v2467, 23, 5, r2463.map enc22), (v2318, 23, 5, r2312.map enc22)]⟩) (True) ?_ ?_
                    · refine VC.draw ⟨0, [], [], [(g1923, 35, [v1920, v1922]), (g3, 35, [v386, v388])], []⟩ (by kernel_rfl) rfl (by kernel_rfl) (n := 25) (listed := LB 25 0) ?_
                      refine VA.va (i := 0) (listed' := LB 25 1) rfl (op_move rfl (ltn rfl)) rfl (by kernel_rfl) (by kernel_rfl) (by kernel_rfl) (by kernel_rfl) ⟨trivial, ⟨⟨2, rfl⟩, ⟨4, rfl⟩, trivial⟩, trivial⟩ (fun _ _ _ h => h) ?_
                      refine VA.va (i := 1) (listed' := LB 25 3) rfl (op_move rfl (ltn rfl)) rfl (by kernel_rfl) (by kernel_rfl) (by kernel_rfl) (by kernel_rfl) ⟨trivial, ⟨⟨2, rfl⟩, ⟨4, rfl⟩, trivial⟩, trivial⟩ (fun _ _ _ h => h) ?_
                      refine VA.va (i := 2) (listed' := LB 25 7) rfl (op_cmp rfl rfl (congrArg some hb148903) (ltn rfl)) rfl (by kernel_rfl) (by kernel_rfl) (by kernel_rfl) (by kernel_rfl) ⟨trivial, ⟨⟨2, rfl⟩, ⟨4, rfl⟩, trivial⟩, trivial⟩ (fun _ _ _ h => h) ?_
                      refine VA.va (i := 3) (listed' := LB 25 15) rfl (op_move rfl (ltn rfl)) rfl (by kernel_rfl) (by kernel_rfl) (by kernel_rfl) (by kernel_rfl) ⟨trivial, ⟨⟨2, rfl⟩, ⟨4, rfl⟩, trivial⟩, trivial⟩ (fun _ _ _ h => h) ?_
                      refine VA.va (i := 4) (listed' := LB 25 31) rfl (op_move rfl (ltn rfl)) rfl (by kernel_rfl) (by kernel_rfl) (by kernel_rfl) (by kernel_rfl) ⟨trivial, ⟨⟨2, rfl⟩, ⟨4, rfl⟩, trivial⟩, trivial⟩ (fun _ _ _ h => h) ?_
                      refine VA.va (i := 5) (listed' := LB 25 63) rfl (op_cmp rfl rfl (congrArg some hb148905) (ltn rfl)) rfl (by kernel_rfl) (by kernel_rfl) (by kernel_rfl) (by kernel_rfl) ⟨trivial, ⟨⟨2, rfl⟩, ⟨4, rfl⟩, trivial⟩, trivial⟩ (fun _ _ _ h => h) ?_
                      refine VA.va (i := 6) (listed' := LB 25 127) rfl (op_move rfl (ltn rfl)) rfl (by kernel_rfl) (by kernel_rfl) (by kernel_rfl) (by kernel_rfl) ⟨trivial, ⟨⟨2, rfl⟩, ⟨4, rfl⟩, trivial⟩, trivial⟩ (fun _ _ _ h => h) ?_
                      refine VA.va (i := 7) (listed' := LB 25 255) rfl (op_load 0 2 rfl rfl TI35 rfl (fun h => absurd h (by decide)) (ltn rfl)) rfl (by kernel_rfl) (by kernel_rfl) (by kernel_rfl) (by kernel_rfl) ⟨trivial, ⟨⟨2, rfl⟩, ⟨4, rfl⟩, trivial⟩, trivial⟩ (fun _ _ _ h => h) ?_
                      refine VA.va (i := 8) (listed' := LB 25 511) rfl (op_load 1 2 rfl rfl TI35 rfl (fun h => absurd h (by decide)) (ltn rfl)) rfl (by kernel_rfl) (by kernel_rfl) (by kernel_rfl) (by kernel_rfl) ⟨trivial, ⟨⟨2, rfl⟩, ⟨4, rfl⟩, trivial⟩, trivial⟩ (fun _ _ _ h => h) ?_
                      refine VA.va (i := 9) (listed' := LB 25 1023) rfl (op_move rfl (ltn rfl)) rfl (by kernel_rfl) (by kernel_rfl) (by kernel_rfl) (by kernel_rfl) ⟨trivial, ⟨⟨2, rfl⟩, ⟨4, rfl⟩, trivial⟩, trivial⟩ (fun _ _ _ h => h) ?_
                      refine VA.oneC (i := 10) (listed' := LB 25 2047) (by kernel_rfl) rfl (o_call0 FO20 (tarryref07_Know.ok k r382 r383 (a1.extract 0 ((mn (a1.size : Int) 18).toNat)) v386 v388 r148907 r148908 hA148909) rfl rfl (ltn rfl) (All_of (.cons (List.mem_of_getElem? (i := 2) rfl) (.cons (List.mem_of_getElem? (i := 3) rfl) .nil)))) rfl (by kernel_rfl) ?_
                      rintro _ _ _ ⟨v148911, v148913, rfl, rfl, rfl⟩
                      refine ⟨⟨trivial, ⟨⟨2, rfl⟩, ⟨4, rfl⟩, trivial⟩, trivial⟩, ?_⟩
                      refine VA.oneC (i := 11) (listed' := LB 25 4095) (by kernel_rfl) rfl (o_call_b0 FO15 (tarryref07_Like.ok k r1915 r1916 r148907 r148908 v1920 v1922 v148911 v148913 false hA148915) rfl rfl (ltn rfl) (All_of (.cons (.inr (.inl ⟨_, List.mem_of_getElem? (i := 3) rfl, rfl⟩)) (.cons (.inl (List.mem_of_getElem? (i := 2) rfl)) (.cons (.inr (.inl ⟨_, List.mem_of_getElem? (i := 0) rfl, rfl⟩)) (.cons (.inl (List.mem_of_getElem? (i := 0) rfl)) .nil))))) (by rintro _ _ _ ⟨rfl, rfl, rfl⟩; rfl)) rfl (by kernel_rfl) ?_
                      rintro _ _ _ ⟨rfl, rfl, rfl⟩
                      refine ⟨⟨trivial, ⟨⟨2, rfl⟩, ⟨4, rfl⟩, trivial⟩, trivial⟩, ?_⟩
                      refine VA.va (i := 12) (listed' := LB 25 8191) rfl (op_not rfl rfl (ltn rfl)) rfl (by kernel_rfl) (by kernel_rfl) (by kernel_rfl) (by kernel_rfl) ⟨trivial, ⟨⟨2, rfl⟩, ⟨4, rfl⟩, trivial⟩, trivial⟩ (fun _ _ _ h => h) ?_
                      refine VA.va (i := 13) (listed' := LB 25 16383) rfl (op_pick rfl rfl (ltn rfl)) rfl (by kernel_rfl) (by kernel_rfl) (by kernel_rfl) (by kernel_rfl) ⟨trivial, ⟨⟨2, rfl⟩, ⟨4, rfl⟩, trivial⟩, trivial⟩ (fun _ _ _ h => h) ?_
                      refine VA.va (i := 14) (listed' := LB 25 32767) rfl (op_pick rfl rfl (ltn rfl)) rfl (by kernel_rfl) (by kernel_rfl) (by kernel_rfl) (by kernel_rfl) ⟨trivial, ⟨⟨2, rfl⟩, ⟨4, rfl⟩, trivial⟩, trivial⟩ (fun _ _ _ h => h) ?_
                      refine VA.va (i := 15) (listed' := LB 25 65535) rfl (op_move rfl (ltn rfl)) rfl (by kernel_rfl) (by kernel_rfl) (by kernel_rfl) (by kernel_rfl) ⟨trivial, ⟨⟨2, rfl⟩, ⟨4, rfl⟩, trivial⟩, trivial⟩ (fun _ _ _ h => h) ?_
                      refine VA.un (i := 16) (listed' := LB 25 131071) rfl rfl rfl (ltn rfl) (by kernel_rfl) (by kernel_rfl) (by kernel_rfl) (by kernel_rfl) ⟨trivial, ⟨⟨2, rfl⟩, ⟨4, rfl⟩, trivial⟩, trivial⟩ (fun _ _ _ h => h) ?_
                      refine VA.un (i := 17) (listed' := LB 25 262143) rfl rfl rfl (ltn rfl) (by kernel_rfl) (by kernel_rfl) (by kernel_rfl) (by kernel_rfl) ⟨trivial, ⟨⟨2, rfl⟩, ⟨4, rfl⟩, trivial⟩, trivial⟩ (fun _ _ _ h => h) ?_
                      refine VA.un (i := 18) (listed' := LB 25 524287) rfl rfl rfl (ltn rfl) (by kernel_rfl) (by kernel_rfl) (by kernel_rfl) (by kernel_rfl) ⟨trivial, ⟨⟨2, rfl⟩, ⟨4, rfl⟩, trivial⟩, trivial⟩ (fun _ _ _ h => h) ?_
                      refine VA.un (i := 19) (listed' := LB 25 1048575) rfl rfl rfl (ltn rfl) (by kernel_rfl) (by kernel_rfl) (by kernel_rfl) (by kernel_rfl) ⟨trivial, ⟨⟨2, rfl⟩, ⟨4, rfl⟩, trivial⟩, trivial⟩ (fun _ _ _ h => h) ?_
                      refine VA.un (i := 20) (listed' := LB 25 2097151) rfl rfl rfl (ltn rfl) (by kernel_rfl) (by kernel_rfl) (by kernel_rfl) (by kernel_rfl) ⟨trivial, ⟨⟨2, rfl⟩, ⟨4, rfl⟩, trivial⟩, trivial⟩ (fun _ _ _ h => h) ?_
                      refine VA.un (i := 21) (listed' := LB 25 4194303) rfl rfl rfl (ltn rfl) (by kernel_rfl) (by kernel_rfl) (by kernel_rfl) (by kernel_rfl) ⟨trivial, ⟨⟨2, rfl⟩, ⟨4, rfl⟩, trivial⟩, trivial⟩ (fun _ _ _ h => h) ?_
                      refine VA.un (i := 22) (listed' := LB 25 8388607) rfl rfl rfl (ltn rfl) (by kernel_rfl) (by kernel_rfl) (by kernel_rfl) (by kernel_rfl) ⟨trivial, ⟨⟨2, rfl⟩, ⟨4, rfl⟩, trivial⟩, trivial⟩ (fun _ _ _ h => h) ?_
                      refine VA.un (i := 23) (listed' := LB 25 16777215) rfl rfl rfl (ltn rfl) (by kernel_rfl) (by kernel_rfl) (by kernel_rfl) (by kernel_rfl) ⟨trivial, ⟨⟨2, rfl⟩, ⟨4, rfl⟩, trivial⟩, trivial⟩ (fun _ _ _ h => h) ?_
                      refine VA.va (i := 24) (listed' := LB 25 33554431) rfl (op_pick rfl rfl (ltn rfl)) rfl (by kernel_rfl) (by kernel_rfl) (by kernel_rfl) (by kernel_rfl) ⟨trivial, ⟨⟨2, rfl⟩, ⟨4, rfl⟩, trivial⟩, trivial⟩ (fun _ _ _ h => h) ?_
                      refine VA.done (by kernel_rfl) ?_
                      exact VN.meet0  [0, 1, 3, 4] [1, 2] trivial ⟨rfl, ⟨rfl, rfl, rfl, rfl, rfl, rfl, rfl, rfl, rfl, rfl, rfl, trivial⟩, ⟨⟨1, rfl⟩, ⟨3, rfl⟩, ⟨4, rfl⟩, trivial⟩, rfl, by decide, rfl, by decide⟩
                    intro _
                    refine VC.cond_t rfl ?_
                    refine VC.seq ?_
                    refine VC.region ?_
                    refine VL.va (op_assign rfl (ltn rfl)) rfl ?_
                    refine VL.done ?_
                    refine VN.then ?_
                    refine VC.ret ?_
                    refine VR.then ?_
                    cases h
                · rw [if_neg c148906] at h
                  obtain rfl : b148905 = false := hb148905.symm.trans (beq_eq_false_iff_ne.2 c148906)
                  refine VC.letter ((i127066 != 0)) fun b148924 hb148924 => ?_
                  by_cases c148925 : i127066 = 0
                  · rw [if_pos c148925] at h
                    obtain rfl : b148924 = false := hb148924.symm.trans (bne_eq_false_iff_eq.2 c148925)
                    refine VC.join0 (⟨225, [(1, .string (a1.extract 0 ((mn (a1.size : Int) 18).toNat))), (3, .pointer (some ⟨g3, 0, none⟩)), (5, .pointer (some ⟨g4, 0, none⟩)), (6, .bool false), (9, .pointer (some ⟨g2319, 0, none⟩)), (10, .int .i64 t2313), (11, v2467), (12, .int .i64 t2464), (13, .pointer (some ⟨g2468, 0, none⟩)), (14, .int .i64 i127066), (121, .bool false)], [.row v2316 1 (r2311.map enc_str), .row v386 1 (r382.map enc_str), .row v388 5 (r383.map enc22)], [(g2468, 35, [.slice none 0 0, .slice none 0 0]), (g2319, 35, [v2316, v2318]), (g4, 23, [.string t391, .string t392, .int .i64 t393, .int .i64 t394, .int .i64 t395]), (g3, 35, [v386, v388])], [(v2467, 23, 5, r2463.map enc22), (v2318, 23, 5, r2312.map enc22)]⟩) (True) ?_ ?_
                    · refine VC.draw ⟨0, [], [], [], []⟩ (by kernel_rfl) rfl (by kernel_rfl) (n := 25) (listed := LB 25 0) ?_
                      refine VA.va (i := 0) (listed' := LB 25 1) rfl (op_move rfl (ltn rfl)) rfl (by kernel_rfl) (by kernel_rfl) (by kernel_rfl) (by kernel_rfl) ⟨trivial, trivial, trivial⟩ (fun _ _ _ h => h) ?_
                      refine VA.va (i := 1) (listed' := LB 25 3) rfl (op_move rfl (ltn rfl)) rfl (by kernel_rfl) (by kernel_rfl) (by kernel_rfl) (by kernel_rfl) ⟨trivial, trivial, trivial⟩ (fun _ _ _ h => h) ?_
                      refine VA.va (i := 2) (listed' := LB 25 7) rfl (op_cmp rfl rfl (congrArg some hb148903) (ltn rfl)) rfl (by kernel_rfl) (by kernel_rfl) (by kernel_rfl) (by kernel_rfl) ⟨trivial, trivial, trivial⟩ (fun _ _ _ h => h) ?_
                      refine VA.va (i := 3) (listed' := LB 25 15) rfl (op_move rfl (ltn rfl)) rfl (by kernel_rfl) (by kernel_rfl) (by kernel_rfl) (by kernel_rfl) ⟨trivial, trivial, trivial⟩ (fun _ _ _ h => h) ?_
                      refine VA.va (i := 4) (listed' := LB 25 31) rfl (op_move rfl (ltn rfl)) rfl (by kernel_rfl) (by kernel_rfl) (by kernel_rfl) (by kernel_rfl) ⟨trivial, trivial, trivial⟩ (fun _ _ _ h => h) ?_
                      refine VA.va (i := 5) (listed' := LB 25 63) rfl (op_cmp rfl rfl (congrArg some hb148905) (ltn rfl)) rfl (by kernel_rfl) (by kernel_rfl) (by kernel_rfl) (by kernel_rfl) ⟨trivial, trivial, trivial⟩ (fun _ _ _ h => h) ?_
                      refine VA.va (i := 6) (listed' := LB 25 127) rfl (op_move rfl (ltn rfl)) rfl (by kernel_rfl) (by kernel_rfl) (by kernel_rfl) (by kernel_rfl) ⟨trivial, trivial, trivial⟩ (fun _ _ _ h => h) ?_
                      refine VA.un (i := 7) (listed' := LB 25 255) rfl rfl rfl (ltn rfl) (by kernel_rfl) (by kernel_rfl) (by kernel_rfl) (by kernel_rfl) ⟨trivial, trivial, trivial⟩ (fun _ _ _ h => h) ?_
                      refine VA.un (i := 8) (listed' := LB 25 511) rfl rfl rfl (ltn rfl) (by kernel_rfl) (by kernel_rfl) (by kernel_rfl) (by kernel_rfl) ⟨trivial, trivial, trivial⟩ (fun _ _ _ h => h) ?_
                      refine VA.un (i := 9) (listed' := LB 25 1023) rfl rfl rfl (ltn rfl) (by kernel_rfl) (by kernel_rfl) (by kernel_rfl) (by kernel_rfl) ⟨trivial, trivial, trivial⟩ (fun _ _ _ h => h) ?_
                      refine VA.un (i := 10) (listed' := LB 25 2047) rfl rfl rfl (ltn rfl) (by kernel_rfl) (by kernel_rfl) (by kernel_rfl) (by kernel_rfl) ⟨trivial, trivial, trivial⟩ (fun _ _ _ h => h) ?_
                      refine VA.un (i := 11) (listed' := LB 25 4095) rfl rfl rfl (ltn rfl) (by kernel_rfl) (by kernel_rfl) (by kernel_rfl) (by kernel_rfl) ⟨trivial, trivial, trivial⟩ (fun _ _ _ h => h) ?_
                      refine VA.un (i := 12) (listed' := LB 25 8191) rfl rfl rfl (ltn rfl) (by kernel_rfl) (by kernel_rfl) (by kernel_rfl) (by kernel_rfl) ⟨trivial, trivial, trivial⟩ (fun _ _ _ h => h) ?_
                      refine VA.va (i := 13) (listed' := LB 25 16383) rfl (op_pick rfl rfl (ltn rfl)) rfl (by kernel_rfl) (by kernel_rfl) (by kernel_rfl) (by kernel_rfl) ⟨trivial, trivial, trivial⟩ (fun _ _ _ h => h) ?_
                      refine VA.va (i := 14) (listed' := LB 25 32767) rfl (op_pick rfl rfl (ltn rfl)) rfl (by kernel_rfl) (by kernel_rfl) (by kernel_rfl) (by kernel_rfl) ⟨trivial, trivial, trivial⟩ (fun _ _ _ h => h) ?_
                      refine VA.va (i := 15) (listed' := LB 25 65535) rfl (op_move rfl (ltn rfl)) rfl (by kernel_rfl) (by kernel_rfl) (by kernel_rfl) (by kernel_rfl) ⟨trivial, trivial, trivial⟩ (fun _ _ _ h => h) ?_
                      refine VA.va (i := 16) (listed' := LB 25 131071) rfl (op_move rfl (ltn rfl)) rfl (by kernel_rfl) (by kernel_rfl) (by kernel_rfl) (by kernel_rfl) ⟨trivial, trivial, trivial⟩ (fun _ _ _ h => h) ?_
                      refine VA.va (i := 17) (listed' := LB 25 262143) rfl (op_cmp rfl rfl (congrArg some hb148924) (ltn rfl)) rfl (by kernel_rfl) (by kernel_rfl) (by kernel_rfl) (by kernel_rfl) ⟨trivial, trivial, trivial⟩ (fun _ _ _ h => h) ?_
                      refine VA.va (i := 18) (listed' := LB 25 524287) rfl (op_move rfl (ltn rfl)) rfl (by kernel_rfl) (by kernel_rfl) (by kernel_rfl) (by kernel_rfl) ⟨trivial, trivial, trivial⟩ (fun _ _ _ h => h) ?_
                      refine VA.un (i := 19) (listed' := LB 25 1048575) rfl rfl rfl (ltn rfl) (by kernel_rfl) (by kernel_rfl) (by kernel_rfl) (by kernel_rfl) ⟨trivial, trivial, trivial⟩ (fun _ _ _ h => h) ?_
                      refine VA.un (i := 20) (listed' := LB 25 2097151) rfl rfl rfl (ltn rfl) (by kernel_rfl) (by kernel_rfl) (by kernel_rfl) (by kernel_rfl) ⟨trivial, trivial, trivial⟩ (fun _ _ _ h => h) ?_
                      refine VA.un (i := 21) (listed' := LB 25 4194303) rfl rfl rfl (ltn rfl) (by kernel_rfl) (by kernel_rfl) (by kernel_rfl) (by kernel_rfl) ⟨trivial, trivial, trivial⟩ (fun _ _ _ h => h) ?_
                      refine VA.un (i := 22) (listed' := LB 25 8388607) rfl rfl rfl (ltn rfl) (by kernel_rfl) (by kernel_rfl) (by kernel_rfl) (by kernel_rfl) ⟨trivial, trivial, trivial⟩ (fun _ _ _ h => h) ?_
                      refine VA.va (i := 23) (listed' := LB 25 16777215) rfl (op_pick rfl rfl (ltn rfl)) rfl (by kernel_rfl) (by kernel_rfl) (by kernel_rfl) (by kernel_rfl) ⟨trivial, trivial, trivial⟩ (fun _ _ _ h => h) ?_
                      refine VA.va (i := 24) (listed' := LB 25 33554431) rfl (op_pick rfl rfl (ltn rfl)) rfl (by kernel_rfl) (by kernel_rfl) (by kernel_rfl) (by kernel_rfl) ⟨trivial, trivial, trivial⟩ (fun _ _ _ h => h) ?_
                      refine VA.done (by kernel_rfl) ?_
                      exact VN.meet0  [0, 1, 3, 4] [0, 1] trivial ⟨rfl, ⟨rfl, rfl, rfl, rfl, rfl, rfl, rfl, rfl, rfl, rfl, rfl, trivial⟩, ⟨⟨0, rfl⟩, ⟨2, rfl⟩, ⟨3, rfl⟩, trivial⟩, rfl, by decide, rfl, by decide⟩
                    intro _
                    refine VC.cond_f rfl ?_
                    refine VC.skip ?_
                    refine VN.meet0  [0, 1, 2, 3] [0, 1] h ⟨rfl, ⟨rfl, rfl, rfl, rfl, rfl, rfl, rfl, rfl, rfl, rfl, trivial⟩, ⟨⟨0, rfl⟩, ⟨1, rfl⟩, ⟨2, rfl⟩, trivial⟩, rfl, by decide, rfl, by decide⟩
                  · rw [if_neg c148925] at h
                    obtain rfl : b148924 = true := hb148924.symm.trans (bne_iff_ne.2 c148925)
                    replace h := Option.bind_eq_some_iff.1 h
                    obtain ⟨t148928, hA148929, h⟩ := h
                    by_cases c148930 : t148928 = true
                    · rw [if_pos c148930] at h
                      obtain rfl := c148930
                      refine VC.join0 (⟨225, [(1, .string (a1.extract 0 ((mn (a1.size : Int) 18).toNat))), (3, .pointer (some ⟨g3, 0, none⟩)), (5, .pointer (some ⟨g4, 0, none⟩)), (6, .bool false), (9, .pointer (some ⟨g2319, 0, none⟩)), (10, .int .i64 t2313), (11, v2467), (12, .int .i64 t2464), (13, .pointer (some ⟨g2468, 0, none⟩)), (14, .int .i64 i127066), (121, .bool false)], [.row v2316 1 (r2311.map enc_str), .row v386 1 (r382.map enc_str), .row v388 5 (r383.map enc22)], [(g2468, 35, [.slice none 0 0, .slice none 0 0]), (g2319, 35, [v2316, v2318]), (g4, 23, [.string t391, .string t392, .int .i64 t393, .int .i64 t394, .int .i64 t395]), (g3, 35, [v386, v388])], [(v2467, 23, 5, r2463.map enc22), (v2318, 23, 5, r2312.map enc22)]⟩) (True) ?_ ?_
                      · refine VC.draw ⟨0, [], [], [(g2468, 35, [.slice none 0 0, .slice none 0 0]), (g1923, 35, [v1920, v1922])], []⟩ (by kernel_rfl) rfl (by kernel_rfl) (n := 25) (listed := LB 25 0) ?_
                        refine VA.va (i := 0) (listed' := LB 25 1) rfl (op_move rfl (ltn rfl)) rfl (by kernel_rfl) (by kernel_rfl) (by kernel_rfl) (by kernel_rfl) ⟨trivial, ⟨⟨0, rfl⟩, ⟨2, rfl⟩, trivial⟩, trivial⟩ (fun _ _ _ h => h) ?_
                        refine VA.va (i := 1) (listed' := LB 25 3) rfl (op_move rfl (ltn rfl)) rfl (by kernel_rfl) (by kernel_rfl) (by kernel_rfl) (by kernel_rfl) ⟨trivial, ⟨⟨0, rfl⟩, ⟨2, rfl⟩, trivial⟩, trivial⟩ (fun _ _ _ h => h) ?_
                        refine VA.va (i := 2) (listed' := LB 25 7) rfl (op_cmp rfl rfl (congrArg some hb148903) (ltn rfl)) rfl (by kernel_rfl) (by kernel_rfl) (by kernel_rfl) (by kernel_rfl) ⟨trivial, ⟨⟨0, rfl⟩, ⟨2, rfl⟩, trivial⟩, trivial⟩ (fun _ _ _ h => h) ?_
                        refine VA.va (i := 3) (listed' := LB 25 15) rfl (op_move rfl (ltn rfl)) rfl (by kernel_rfl) (by kernel_rfl) (by kernel_rfl) (by kernel_rfl) ⟨trivial, ⟨⟨0, rfl⟩, ⟨2, rfl⟩, trivial⟩, trivial⟩ (fun _ _ _ h => h) ?_
                        refine VA.va (i := 4) (listed' := LB 25 31) rfl (op_move rfl (ltn rfl)) rfl (by kernel_rfl) (by kernel_rfl) (by kernel_rfl) (by kernel_rfl) ⟨trivial, ⟨⟨0, rfl⟩, ⟨2, rfl⟩, trivial⟩, trivial⟩ (fun _ _ _ h => h) ?_
                        refine VA.va (i := 5) (listed' := LB 25 63) rfl (op_cmp rfl rfl (congrArg some hb148905) (ltn rfl)) rfl (by kernel_rfl) (by kernel_rfl) (by kernel_rfl) (by kernel_rfl) ⟨trivial, ⟨⟨0, rfl⟩, ⟨2, rfl⟩, trivial⟩, trivial⟩ (fun _ _ _ h => h) ?_
                        refine VA.va (i := 6) (listed' := LB 25 127) rfl (op_move rfl (ltn rfl)) rfl (by kernel_rfl) (by kernel_rfl) (by kernel_rfl) (by kernel_rfl) ⟨trivial, ⟨⟨0, rfl⟩, ⟨2, rfl⟩, trivial⟩, trivial⟩ (fun _ _ _ h => h) ?_
                        refine VA.un (i := 7) (listed' := LB 25 255) rfl rfl rfl (ltn rfl) (by kernel_rfl) (by kernel_rfl) (by kernel_rfl) (by kernel_rfl) ⟨trivial, ⟨⟨0, rfl⟩, ⟨2, rfl⟩, trivial⟩, trivial⟩ (fun _ _ _ h => h) ?_
                        refine VA.un (i := 8) (listed' := LB 25 511) rfl rfl rfl (ltn rfl) (by kernel_rfl) (by kernel_rfl) (by kernel_rfl) (by kernel_rfl) ⟨trivial, ⟨⟨0, rfl⟩, ⟨2, rfl⟩, trivial⟩, trivial⟩ (fun _ _ _ h => h) ?_
                        refine VA.un (i := 9) (listed' := LB 25 1023) rfl rfl rfl (ltn rfl) (by kernel_rfl) (by kernel_rfl) (by kernel_rfl) (by kernel_rfl) ⟨trivial, ⟨⟨0, rfl⟩, ⟨2, rfl⟩, trivial⟩, trivial⟩ (fun _ _ _ h => h) ?_
                        refine VA.un (i := 10) (listed' := LB 25 2047) rfl rfl rfl (ltn rfl) (by kernel_rfl) (by kernel_rfl) (by kernel_rfl) (by kernel_rfl) ⟨trivial, ⟨⟨0, rfl⟩, ⟨2, rfl⟩, trivial⟩, trivial⟩ (fun _ _ _ h => h) ?_
                        refine VA.un (i := 11) (listed' := LB 25 4095) rfl rfl rfl (ltn rfl) (by kernel_rfl) (by kernel_rfl) (by kernel_rfl) (by kernel_rfl) ⟨trivial, ⟨⟨0, rfl⟩, ⟨2, rfl⟩, trivial⟩, trivial⟩ (fun _ _ _ h => h) ?_
                        refine VA.un (i := 12) (listed' := LB 25 8191) rfl rfl rfl (ltn rfl) (by kernel_rfl) (by kernel_rfl) (by kernel_rfl) (by kernel_rfl) ⟨trivial, ⟨⟨0, rfl⟩, ⟨2, rfl⟩, trivial⟩, trivial⟩ (fun _ _ _ h => h) ?_
                        refine VA.va (i := 13) (listed' := LB 25 16383) rfl (op_pick rfl rfl (ltn rfl)) rfl (by kernel_rfl) (by kernel_rfl) (by kernel_rfl) (by kernel_rfl) ⟨trivial, ⟨⟨0, rfl⟩, ⟨2, rfl⟩, trivial⟩, trivial⟩ (fun _ _ _ h => h) ?_
                        refine VA.va (i := 14) (listed' := LB 25 32767) rfl (op_pick rfl rfl (ltn rfl)) rfl (by kernel_rfl) (by kernel_rfl) (by kernel_rfl) (by kernel_rfl) ⟨trivial, ⟨⟨0, rfl⟩, ⟨2, rfl⟩, trivial⟩, trivial⟩ (fun _ _ _ h => h) ?_
                        refine VA.va (i := 15) (listed' := LB 25 65535) rfl (op_move rfl (ltn rfl)) rfl (by kernel_rfl) (by kernel_rfl) (by kernel_rfl) (by kernel_rfl) ⟨trivial, ⟨⟨0, rfl⟩, ⟨2, rfl⟩, trivial⟩, trivial⟩ (fun _ _ _ h => h) ?_
                        refine VA.va (i := 16) (listed' := LB 25 131071) rfl (op_move rfl (ltn rfl)) rfl (by kernel_rfl) (by kernel_rfl) (by kernel_rfl) (by kernel_rfl) ⟨trivial, ⟨⟨0, rfl⟩, ⟨2, rfl⟩, trivial⟩, trivial⟩ (fun _ _ _ h => h) ?_
                        refine VA.va (i := 17) (listed' := LB 25 262143) rfl (op_cmp rfl rfl (congrArg some hb148924) (ltn rfl)) rfl (by kernel_rfl) (by kernel_rfl) (by kernel_rfl) (by kernel_rfl) ⟨trivial, ⟨⟨0, rfl⟩, ⟨2, rfl⟩, trivial⟩, trivial⟩ (fun _ _ _ h => h) ?_
                        refine VA.va (i := 18) (listed' := LB 25 524287) rfl (op_move rfl (ltn rfl)) rfl (by kernel_rfl) (by kernel_rfl) (by kernel_rfl) (by kernel_rfl) ⟨trivial, ⟨⟨0, rfl⟩, ⟨2, rfl⟩, trivial⟩, trivial⟩ (fun _ _ _ h => h) ?_
                        refine VA.va (i := 19) (listed' := LB 25 1048575) rfl (op_load 1 2 rfl rfl TI35 rfl (fun h => absurd h (by decide)) (ltn rfl)) rfl (by kernel_rfl) (by kernel_rfl) (by kernel_rfl) (by kernel_rfl) ⟨trivial, ⟨⟨0, rfl⟩, ⟨2, rfl⟩, trivial⟩, trivial⟩ (fun _ _ _ h => h) ?_
                        refine VA.va (i := 20) (listed' := LB 25 2097151) rfl (op_load 0 2 rfl rfl TI35 rfl (fun h => absurd h (by decide)) (ltn rfl)) rfl (by kernel_rfl) (by kernel_rfl) (by kernel_rfl) (by kernel_rfl) ⟨trivial, ⟨⟨0, rfl⟩, ⟨2, rfl⟩, trivial⟩, trivial⟩ (fun _ _ _ h => h) ?_
                        refine VA.nilFact' 1 ?_
                        refine VA.nilFact' 5 ?_
                        refine VA.oneC (i := 21) (listed' := LB 25 4194303) (by kernel_rfl) rfl (o_call_b0 FO15 (tarryref07_Like.ok k r1915 r1916 [] [] v1920 v1922 (.slice none 0 0) (.slice none 0 0) true hA148929) rfl rfl (ltn rfl) (All_of (.cons (.inr (.inl ⟨_, List.mem_of_getElem? (i := 2) rfl, rfl⟩)) (.cons (.inl (List.mem_of_getElem? (i := 3) rfl)) (.cons (.inl (List.mem_of_getElem? (i := 1) rfl)) (.cons (.inl (List.mem_of_getElem? (i := 0) rfl)) .nil))))) (by rintro _ _ _ ⟨rfl, rfl, rfl⟩; rfl)) rfl (by kernel_rfl) ?_
                        rintro _ _ _ ⟨rfl, rfl, rfl⟩
                        refine ⟨⟨trivial, ⟨⟨0, rfl⟩, ⟨2, rfl⟩, trivial⟩, trivial⟩, ?_⟩
                        refine VA.va (i := 22) (listed' := LB 25 8388607) rfl (op_not rfl rfl (ltn rfl)) rfl (by kernel_rfl) (by kernel_rfl) (by kernel_rfl) (by kernel_rfl) ⟨trivial, ⟨⟨0, rfl⟩, ⟨2, rfl⟩, trivial⟩, trivial⟩ (fun _ _ _ h => h) ?_
                        refine VA.va (i := 23) (listed' := LB 25 16777215) rfl (op_pick rfl rfl (ltn rfl)) rfl (by kernel_rfl) (by kernel_rfl) (by kernel_rfl) (by kernel_rfl) ⟨trivial, ⟨⟨0, rfl⟩, ⟨2, rfl⟩, trivial⟩, trivial⟩ (fun _ _ _ h => h) ?_
                        refine VA.va (i := 24) (listed' := LB 25 33554431) rfl (op_pick rfl rfl (ltn rfl)) rfl (by kernel_rfl) (by kernel_rfl) (by kernel_rfl) (by kernel_rfl) ⟨trivial, ⟨⟨0, rfl⟩, ⟨2, rfl⟩, trivial⟩, trivial⟩ (fun _ _ _ h => h) ?_
                        refine VA.done (by kernel_rfl) ?_
                        exact VN.meet0  [0, 1, 3, 4] [0, 1] trivial ⟨rfl, ⟨rfl, rfl, rfl, rfl, rfl, rfl, rfl, rfl, rfl, rfl, rfl, trivial⟩, ⟨⟨2, rfl⟩, ⟨4, rfl⟩, ⟨5, rfl⟩, trivial⟩, rfl, by decide, rfl, by decide⟩
                      intro _
                      refine VC.cond_f rfl ?_
                      refine VC.skip ?_
                      refine VN.meet0  [0, 1, 2, 3] [0, 1] h ⟨rfl, ⟨rfl, rfl, rfl, rfl, rfl, rfl, rfl, rfl, rfl, rfl, trivial⟩, ⟨⟨0, rfl⟩, ⟨1, rfl⟩, ⟨2, rfl⟩, trivial⟩, rfl, by decide, rfl, by decide⟩
                    · rw [if_neg c148930] at h
                      obtain rfl := Bool.eq_false_iff.2 c148930
                      refine VC.join0 (⟨225, [(1, .string (a1.extract 0 ((mn (a1.size : Int) 18).toNat))), (3, .pointer (some ⟨g3, 0, none⟩)), (5, .pointer (some ⟨g4, 0, none⟩)), (6, .bool false), (9, .pointer (some ⟨g2319, 0, none⟩)), (10, .int .i64 t2313), (11, v2467), (12, .int .i64 t2464), (13, .pointer (some ⟨g2468, 0, none⟩)), (14, .int .i64 i127066), (121, .bool true)], [.row v2316 1 (r2311.map enc_str), .row v386 1 (r382.map enc_str), .row v388 5 (r383.map enc22)], [(g2468, 35, [.slice none 0 0, .slice none 0 0]), (g2319, 35, [v2316, v2318]), (g4, 23, [.string t391, .string t392, .int .i64 t393, .int .i64 t394, .int .i64 t395]), (g3, 35, [v386, v388])], [(v2467, 23, 5, r2463.map enc22), (v2318, 23, 5, r2312.map enc22)]⟩) (True) ?_ ?_
                      · refine VC.draw ⟨0, [], [], [(g2468, 35, [.slice none 0 0, .slice none 0 0]), (g1923, 35, [v1920, v1922])], []⟩ (by kernel_rfl) rfl (by kernel_rfl) (n := 25) (listed := LB 25 0) ?_
                        refine VA.va (i := 0) (listed' := LB 25 1) rfl (op_move rfl (ltn rfl)) rfl (by kernel_rfl) (by kernel_rfl) (by kernel_rfl) (by kernel_rfl) ⟨trivial, ⟨⟨0, rfl⟩, ⟨2, rfl⟩, trivial⟩, trivial⟩ (fun _ _ _ h => h) ?_
                        refine VA.va (i := 1) (listed' := LB 25 3) rfl (op_move rfl (ltn rfl)) rfl (by kernel_rfl) (by kernel_rfl) (by kernel_rfl) (by kernel_rfl) ⟨trivial, ⟨⟨0, rfl⟩, ⟨2, rfl⟩, trivial⟩, trivial⟩ (fun _ _ _ h => h) ?_
                        refine VA.va (i := 2) (listed' := LB 25 7) rfl (op_cmp rfl rfl (congrArg some hb148903) (ltn rfl)) rfl (by kernel_rfl) (by kernel_rfl) (by kernel_rfl) (by kernel_rfl) ⟨trivial, ⟨⟨0, rfl⟩, ⟨2, rfl⟩, trivial⟩, trivial⟩ (fun _ _ _ h => h) ?_
                        refine VA.va (i := 3) (listed' := LB 25 15) rfl (op_move rfl (ltn rfl)) rfl (by kernel_rfl) (by kernel_rfl) (by kernel_rfl) (by kernel_rfl) ⟨trivial, ⟨⟨0, rfl⟩, ⟨2, rfl⟩, trivial⟩, trivial⟩ (fun _ _ _ h => h) ?_
                        refine VA.va (i := 4) (listed' := LB 25 31) rfl (op_move rfl (ltn rfl)) rfl (by kernel_rfl) (by kernel_rfl) (by kernel_rfl) (by kernel_rfl) ⟨trivial, ⟨⟨0, rfl⟩, ⟨2, rfl⟩, trivial⟩, trivial⟩ (fun _ _ _ h => h) ?_
                        refine VA.va (i := 5) (listed' := LB 25 63) rfl (op_cmp rfl rfl (congrArg some hb148905) (ltn rfl)) rfl (by kernel_rfl) (by kernel_rfl) (by kernel_rfl) (by kernel_rfl) ⟨trivial, ⟨⟨0, rfl⟩, ⟨2, rfl⟩, trivial⟩, trivial⟩ (fun _ _ _ h => h) ?_
                        refine VA.va (i := 6) (listed' := LB 25 127) rfl (op_move rfl (ltn rfl)) rfl (by kernel_rfl) (by kernel_rfl) (by kernel_rfl) (by kernel_rfl) ⟨trivial, ⟨⟨0, rfl⟩, ⟨2, rfl⟩, trivial⟩, trivial⟩ (fun _ _ _ h => h) ?_
                        refine VA.un (i := 7) (listed' := LB 25 255) rfl rfl rfl (ltn rfl) (by kernel_rfl) (by kernel_rfl) (by kernel_rfl) (by kernel_rfl) ⟨trivial, ⟨⟨0, rfl⟩, ⟨2, rfl⟩, trivial⟩, trivial⟩ (fun _ _ _ h => h) ?_
                        refine VA.un (i := 8) (listed' := LB 25 511) rfl rfl rfl (ltn rfl) (by kernel_rfl) (by kernel_rfl) (by kernel_rfl) (by kernel_rfl) ⟨trivial, ⟨⟨0, rfl⟩, ⟨2, rfl⟩, trivial⟩, trivial⟩ (fun _ _ _ h => h) ?_
                        refine VA.un (i := 9) (listed' := LB 25 1023) rfl rfl rfl (ltn rfl) (by kernel_rfl) (by kernel_rfl) (by kernel_rfl) (by kernel_rfl) ⟨trivial, ⟨⟨0, rfl⟩, ⟨2, rfl⟩, trivial⟩, trivial⟩ (fun _ _ _ h => h) ?_
                        refine VA.un (i := 10) (listed' := LB 25 2047) rfl rfl rfl (ltn rfl) (by kernel_rfl) (by kernel_rfl) (by kernel_rfl) (by kernel_rfl) ⟨trivial, ⟨⟨0, rfl⟩, ⟨2, rfl⟩, trivial⟩, trivial⟩ (fun _ _ _ h => h) ?_
                        refine VA.un (i := 11) (listed' := LB 25 4095) rfl rfl rfl (ltn rfl) (by kernel_rfl) (by kernel_rfl) (by kernel_rfl) (by kernel_rfl) ⟨trivial, ⟨⟨0, rfl⟩, ⟨2, rfl⟩, trivial⟩, trivial⟩ (fun _ _ _ h => h) ?_
                        refine VA.un (i := 12) (listed' := LB 25 8191) rfl rfl rfl (ltn rfl) (by kernel_rfl) (by kernel_rfl) (by kernel_rfl) (by kernel_rfl) ⟨trivial, ⟨⟨0, rfl⟩, ⟨2, rfl⟩, trivial⟩, trivial⟩ (fun _ _ _ h => h) ?_
                        refine VA.va (i := 13) (listed' := LB 25 16383) rfl (op_pick rfl rfl (ltn rfl)) rfl (by kernel_rfl) (by kernel_rfl) (by kernel_rfl) (by kernel_rfl) ⟨trivial, ⟨⟨0, rfl⟩, ⟨2, rfl⟩, trivial⟩, trivial⟩ (fun _ _ _ h => h) ?_
                        refine VA.va (i := 14) (listed' := LB 25 32767) rfl (op_pick rfl rfl (ltn rfl)) rfl (by kernel_rfl) (by kernel_rfl) (by kernel_rfl) (by kernel_rfl) ⟨trivial, ⟨⟨0, rfl⟩, ⟨2, rfl⟩, trivial⟩, trivial⟩ (fun _ _ _ h => h) ?_
                        refine VA.va (i := 15) (listed' := LB 25 65535) rfl (op_move rfl (ltn rfl)) rfl (by kernel_rfl) (by kernel_rfl) (by kernel_rfl) (by kernel_rfl) ⟨trivial, ⟨⟨0, rfl⟩, ⟨2, rfl⟩, trivial⟩, trivial⟩ (fun _ _ _ h => h) ?_
                        refine VA.va (i := 16) (listed' := LB 25 131071) rfl (op_move rfl (ltn rfl)) rfl (by kernel_rfl) (by kernel_rfl) (by kernel_rfl) (by kernel_rfl) ⟨trivial, ⟨⟨0, rfl⟩, ⟨2, rfl⟩, trivial⟩, trivial⟩ (fun _ _ _ h => h) ?_
                        refine VA.va (i := 17) (listed' := LB 25 262143) rfl (op_cmp rfl rfl (congrArg some hb148924) (ltn rfl)) rfl (by kernel_rfl) (by kernel_rfl) (by kernel_rfl) (by kernel_rfl) ⟨trivial, ⟨⟨0, rfl⟩, ⟨2, rfl⟩, trivial⟩, trivial⟩ (fun _ _ _ h => h) ?_
                        refine VA.va (i := 18) (listed' := LB 25 524287) rfl (op_move rfl (ltn rfl)) rfl (by kernel_rfl) (by kernel_rfl) (by kernel_rfl) (by kernel_rfl) ⟨trivial, ⟨⟨0, rfl⟩, ⟨2, rfl⟩, trivial⟩, trivial⟩ (fun _ _ _ h => h) ?_
                        refine VA.va (i := 19) (listed' := LB 25 1048575) rfl (op_load 1 2 rfl rfl TI35 rfl (fun h => absurd h (by decide)) (ltn rfl)) rfl (by kernel_rfl) (by kernel_rfl) (by kernel_rfl) (by kernel_rfl) ⟨trivial, ⟨⟨0, rfl⟩, ⟨2, rfl⟩, trivial⟩, trivial⟩ (fun _ _ _ h => h) ?_
                        refine VA.va (i := 20) (listed' := LB 25 2097151) rfl (op_load 0 2 rfl rfl TI35 rfl (fun h => absurd h (by decide)) (ltn rfl)) rfl (by kernel_rfl) (by kernel_rfl) (by kernel_rfl) (by kernel_rfl) ⟨trivial, ⟨⟨0, rfl⟩, ⟨2, rfl⟩, trivial⟩, trivial⟩ (fun _ _ _ h => h) ?_
                        refine VA.nilFact' 1 ?_
                        refine VA.nilFact' 5 ?_
                        refine VA.oneC (i := 21) (listed' := LB 25 4194303) (by kernel_rfl) rfl (o_call_b0 FO15 (tarryref07_Like.ok k r1915 r1916 [] [] v1920 v1922 (.slice none 0 0) (.slice none 0 0) false hA148929) rfl rfl (ltn rfl) (All_of (.cons (.inr (.inl ⟨_, List.mem_of_getElem? (i := 2) rfl, rfl⟩)) (.cons (.inl (List.mem_of_getElem? (i := 3) rfl)) (.cons (.inl (List.mem_of_getElem? (i := 1) rfl)) (.cons (.inl (List.mem_of_getElem? (i := 0) rfl)) .nil))))) (by rintro _ _ _ ⟨rfl, rfl, rfl⟩; rfl)) rfl (by kernel_rfl) ?_
                        rintro _ _ _ ⟨rfl, rfl, rfl⟩
                        refine ⟨⟨trivial, ⟨⟨0, rfl⟩, ⟨2, rfl⟩, trivial⟩, trivial⟩, ?_⟩
                        refine VA.va (i := 22) (listed' := LB 25 8388607) rfl (op_not rfl rfl (ltn rfl)) rfl (by kernel_rfl) (by kernel_rfl) (by kernel_rfl) (by kernel_rfl) ⟨trivial, ⟨⟨0, rfl⟩, ⟨2, rfl⟩, trivial⟩, trivial⟩ (fun _ _ _ h => h) ?_
                        refine VA.va (i := 23) (listed' := LB 25 16777215) rfl (op_pick rfl rfl (ltn rfl)) rfl (by kernel_rfl) (by kernel_rfl) (by kernel_rfl) (by kernel_rfl) ⟨trivial, ⟨⟨0, rfl⟩, ⟨2, rfl⟩, trivial⟩, trivial⟩ (fun _ _ _ h => h) ?_
                        refine VA.va (i := 24) (listed' := LB 25 33554431) rfl (op_pick rfl rfl (ltn rfl)) rfl (by kernel_rfl) (by kernel_rfl) (by kernel_rfl) (by kernel_rfl) ⟨trivial, ⟨⟨0, rfl⟩, ⟨2, rfl⟩, trivial⟩, trivial⟩ (fun _ _ _ h => h) ?_
                        refine VA.done (by kernel_rfl) ?_
                        exact VN.meet0  [0, 1, 3, 4] [0, 1] trivial ⟨rfl, ⟨rfl, rfl, rfl, rfl, rfl, rfl, rfl, rfl, rfl, rfl, rfl, trivial⟩, ⟨⟨2, rfl⟩, ⟨4, rfl⟩, ⟨5, rfl⟩, trivial⟩, rfl, by decide, rfl, by decide⟩
                      intro _
                      refine VC.cond_t rfl ?_
                      refine VC.seq ?_
                      refine VC.region ?_
                      refine VL.va (op_assign rfl (ltn rfl)) rfl ?_
                      refine VL.done ?_
                      refine VN.then ?_
                      refine VC.ret ?_
                      refine VR.then ?_
                      cases h
              · rw [if_neg c148904] at h
                obtain rfl : b148903 = true := hb148903.symm.trans (bne_iff_ne.2 c148904)
                refine VC.join0 (⟨225, [(1, .string (a1.extract 0 ((mn (a1.size : Int) 18).toNat))), (3, .pointer (some ⟨g3, 0, none⟩)), (5, .pointer (some ⟨g4, 0, none⟩)), (6, .bool false), (9, .pointer (some ⟨g2319, 0, none⟩)), (10, .int .i64 t2313), (11, v2467), (12, .int .i64 t2464), (13, .pointer (some ⟨g2468, 0, none⟩)), (14, .int .i64 i127066), (121, .bool true)], [.row v2316 1 (r2311.map enc_str), .row v386 1 (r382.map enc_str), .row v388 5 (r383.map enc22)], [(g2468, 35, [.slice none 0 0, .slice none 0 0]), (g2319, 35, [v2316, v2318]), (g4, 23, [.string t391, .string t392, .int .i64 t393, .int .i64 t394, .int .i64 t395]), (g3, 35, [v386, v388])], [(v2467, 23, 5, r2463.map enc22), (v2318, 23, 5, r2312.map enc22)]⟩) (True) ?_ ?_
                · refine VC.draw ⟨0, [], [], [], []⟩ (by kernel_rfl) rfl (by kernel_rfl) (n := 25) (listed := LB 25 0) ?_
                  refine VA.va (i := 0) (listed' := LB 25 1) rfl (op_move rfl (ltn rfl)) rfl (by kernel_rfl) (by kernel_rfl) (by kernel_rfl) (by kernel_rfl) ⟨trivial, trivial, trivial⟩ (fun _ _ _ h => h) ?_
                  refine VA.va (i := 1) (listed' := LB 25 3) rfl (op_move rfl (ltn rfl)) rfl (by kernel_rfl) (by kernel_rfl) (by kernel_rfl) (by kernel_rfl) ⟨trivial, trivial, trivial⟩ (fun _ _ _ h => h) ?_
                  refine VA.va (i := 2) (listed' := LB 25 7) rfl (op_cmp rfl rfl (congrArg some hb148903) (ltn rfl)) rfl (by kernel_rfl) (by kernel_rfl) (by kernel_rfl) (by kernel_rfl) ⟨trivial, trivial, trivial⟩ (fun _ _ _ h => h) ?_
                  refine VA.va (i := 3) (listed' := LB 25 15) rfl (op_move rfl (ltn rfl)) rfl (by kernel_rfl) (by kernel_rfl) (by kernel_rfl) (by kernel_rfl) ⟨trivial, trivial, trivial⟩ (fun _ _ _ h => h) ?_
                  refine VA.un (i := 4) (listed' := LB 25 31) rfl rfl rfl (ltn rfl) (by kernel_rfl) (by kernel_rfl) (by kernel_rfl) (by kernel_rfl) ⟨trivial, trivial, trivial⟩ (fun _ _ _ h => h) ?_
                  refine VA.un (i := 5) (listed' := LB 25 63) rfl rfl rfl (ltn rfl) (by kernel_rfl) (by kernel_rfl) (by kernel_rfl) (by kernel_rfl) ⟨trivial, trivial, trivial⟩ (fun _ _ _ h => h) ?_
                  refine VA.un (i := 6) (listed' := LB 25 127) rfl rfl rfl (ltn rfl) (by kernel_rfl) (by kernel_rfl) (by kernel_rfl) (by kernel_rfl) ⟨trivial, trivial, trivial⟩ (fun _ _ _ h => h) ?_
                  refine VA.un (i := 7) (listed' := LB 25 255) rfl rfl rfl (ltn rfl) (by kernel_rfl) (by kernel_rfl) (by kernel_rfl) (by kernel_rfl) ⟨trivial, trivial, trivial⟩ (fun _ _ _ h => h) ?_
                  refine VA.un (i := 8) (listed' := LB 25 511) rfl rfl rfl (ltn rfl) (by kernel_rfl) (by kernel_rfl) (by kernel_rfl) (by kernel_rfl) ⟨trivial, trivial, trivial⟩ (fun _ _ _ h => h) ?_
                  refine VA.un (i := 9) (listed' := LB 25 1023) rfl rfl rfl (ltn rfl) (by kernel_rfl) (by kernel_rfl) (by kernel_rfl) (by kernel_rfl) ⟨trivial, trivial, trivial⟩ (fun _ _ _ h => h) ?_
                  refine VA.un (i := 10) (listed' := LB 25 2047) rfl rfl rfl (ltn rfl) (by kernel_rfl) (by kernel_rfl) (by kernel_rfl) (by kernel_rfl) ⟨trivial, trivial, trivial⟩ (fun _ _ _ h => h) ?_
                  refine VA.un (i := 11) (listed' := LB 25 4095) rfl rfl rfl (ltn rfl) (by kernel_rfl) (by kernel_rfl) (by kernel_rfl) (by kernel_rfl) ⟨trivial, trivial, trivial⟩ (fun _ _ _ h => h) ?_
                  refine VA.un (i := 12) (listed' := LB 25 8191) rfl rfl rfl (ltn rfl) (by kernel_rfl) (by kernel_rfl) (by kernel_rfl) (by kernel_rfl) ⟨trivial, trivial, trivial⟩ (fun _ _ _ h => h) ?_
                  refine VA.un (i := 13) (listed' := LB 25 16383) rfl rfl rfl (ltn rfl) (by kernel_rfl) (by kernel_rfl) (by kernel_rfl) (by kernel_rfl) ⟨trivial, trivial, trivial⟩ (fun _ _ _ h => h) ?_
                  refine VA.va (i := 14) (listed' := LB 25 32767) rfl (op_pick rfl rfl (ltn rfl)) rfl (by kernel_rfl) (by kernel_rfl) (by kernel_rfl) (by kernel_rfl) ⟨trivial, trivial, trivial⟩ (fun _ _ _ h => h) ?_
                  refine VA.va (i := 15) (listed' := LB 25 65535) rfl (op_move rfl (ltn rfl)) rfl (by kernel_rfl) (by kernel_rfl) (by kernel_rfl) (by kernel_rfl) ⟨trivial, trivial, trivial⟩ (fun _ _ _ h => h) ?_
                  refine VA.un (i := 16) (listed' := LB 25 131071) rfl rfl rfl (ltn rfl) (by kernel_rfl) (by kernel_rfl) (by kernel_rfl) (by kernel_rfl) ⟨trivial, trivial, trivial⟩ (fun _ _ _ h => h) ?_
                  refine VA.un (i := 17) (listed' := LB 25 262143) rfl rfl rfl (ltn rfl) (by kernel_rfl) (by kernel_rfl) (by kernel_rfl) (by kernel_rfl) ⟨trivial, trivial, trivial⟩ (fun _ _ _ h => h) ?_
                  refine VA.un (i := 18) (listed' := LB 25 524287) rfl rfl rfl (ltn rfl) (by kernel_rfl) (by kernel_rfl) (by kernel_rfl) (by kernel_rfl) ⟨trivial, trivial, trivial⟩ (fun _ _ _ h => h) ?_
                  refine VA.un (i := 19) (listed' := LB 25 1048575) rfl rfl rfl (ltn rfl) (by kernel_rfl) (by kernel_rfl) (by kernel_rfl) (by kernel_rfl) ⟨trivial, trivial, trivial⟩ (fun _ _ _ h => h) ?_
                  refine VA.un (i := 20) (listed' := LB 25 2097151) rfl rfl rfl (ltn rfl) (by kernel_rfl) (by kernel_rfl) (by kernel_rfl) (by kernel_rfl) ⟨trivial, trivial, trivial⟩ (fun _ _ _ h => h) ?_
                  refine VA.un (i := 21) (listed' := LB 25 4194303) rfl rfl rfl (ltn rfl) (by kernel_rfl) (by kernel_rfl) (by kernel_rfl) (by kernel_rfl) ⟨trivial, trivial, trivial⟩ (fun _ _ _ h => h) ?_
                  refine VA.un (i := 22) (listed' := LB 25 8388607) rfl rfl rfl (ltn rfl) (by kernel_rfl) (by kernel_rfl) (by kernel_rfl) (by kernel_rfl) ⟨trivial, trivial, trivial⟩ (fun _ _ _ h => h) ?_
                  refine VA.un (i := 23) (listed' := LB 25 16777215) rfl rfl rfl (ltn rfl) (by kernel_rfl) (by kernel_rfl) (by kernel_rfl) (by kernel_rfl) ⟨trivial, trivial, trivial⟩ (fun _ _ _ h => h) ?_
                  refine VA.va (i := 24) (listed' := LB 25 33554431) rfl (op_pick rfl rfl (ltn rfl)) rfl (by kernel_rfl) (by kernel_rfl) (by kernel_rfl) (by kernel_rfl) ⟨trivial, trivial, trivial⟩ (fun _ _ _ h => h) ?_
                  refine VA.done (by kernel_rfl) ?_
                  exact VN.meet0  [0, 1, 3, 4] [0, 1] trivial ⟨rfl, ⟨rfl, rfl, rfl, rfl, rfl, rfl, rfl, rfl, rfl, rfl, rfl, trivial⟩, ⟨⟨0, rfl⟩, ⟨2, rfl⟩, ⟨3, rfl⟩, trivial⟩, rfl, by decide, rfl, by decide⟩
                intro _
                refine VC.cond_t rfl ?_
                refine VC.seq ?_
                refine VC.region ?_
                refine VL.va (op_assign rfl (ltn rfl)) rfl ?_
                refine VL.done ?_
                refine VN.then ?_
                refine VC.ret ?_
                refine VR.then ?_
                cases h
            clear h
            intro  h
            unfold tarrylaw07_GoodsKnow.j2056 at h
            refine VC.join0 (⟨225, [(3, .pointer (some ⟨g3, 0, none⟩)), (5, .pointer (some ⟨g4, 0, none⟩)), (6, .bool false), (9, .pointer (some ⟨g2319, 0, none⟩)), (10, .int .i64 t2313), (13, .pointer (some ⟨g2468, 0, none⟩)), (14, .int .i64 i127066)], [.row v2316 1 (r2311.map enc_str), .row v386 1 (r382.map enc_str), .row v388 5 (r383.map enc22)], [(g2468, 35, [.slice none 0 0, .slice none 0 0]), (g2319, 35, [v2316, v2318]), (g4, 23, [.string t391, .string t392, .int .i64 t393, .int .i64 t394, .int .i64 t395]), (g3, 35, [v386, v388])], [(v2318, 23, 5, r2312.map enc22)]⟩) (tarrylaw07_GoodsKnow.j2122 k r2311 r2312 r382 r383 t2313 t391 t392 t393 t394 t395 = some r1) ?_ ?_
            · refine VC.seq ?_
              refine VC.region ?_
              refine VL.va (op_fieldAddr FI35_0 rfl (add_at _ _ _) (ltn rfl)) rfl ?_
              refine VL.va (op_load 3 1 rfl rfl TI32 rfl (by decide) (ltn rfl)) rfl ?_
              refine VL.va (op_move rfl (ltn rfl)) rfl ?_
              replace h := Option.bind_eq_some_iff.1 h
              obtain ⟨t153283, hA153284, h⟩ := h
              refine VL.sC (o_call0 FO19 (tarryref07_Has.ok k r382 (a1.extract 0 ((mn (a1.size : Int) 18).toNat)) v386 t153283 hA153284) rfl rfl (ltn rfl) (All_of (.cons (List.mem_of_getElem? (i := 1) rfl) .nil))) rfl ?_
              rintro _ _ _ ⟨rfl, rfl, rfl⟩
              by_cases c153285 : t153283 = true
              · rw [if_pos c153285] at h
                obtain rfl := c153285
                refine VL.va (op_not rfl rfl (ltn rfl)) rfl ?_
                refine VL.done ?_
                refine VN.then ?_
                refine VC.cond_f rfl ?_
                refine VC.seq ?_
                refine VC.region ?_
                refine VL.va (op_move rfl (ltn rfl)) rfl ?_
                refine VL.letter ((t2464 != 0)) fun b153297 hb153297 => ?_
                refine VL.va (op_cmp rfl rfl (congrArg some hb153297) (ltn rfl)) rfl ?_
                refine VL.va (op_move rfl (ltn rfl)) rfl ?_
                by_cases c153298 : t2464 = 0
                · rw [if_pos c153298] at h
                  obtain rfl : b153297 = false := hb153297.symm.trans (bne_eq_false_iff_eq.2 c153298)
                  refine VL.va (op_move rfl (ltn rfl)) rfl ?_
                  refine VL.va (op_build (vals := [(1, v2467)]) (vcs := [(1, [v2467])]) (cells := [.slice none 0 0, v2467]) SI35 rfl (.cons ⟨rfl, (.r 0 rfl)⟩ .nil) (by kernel_rfl) (ltn rfl)) rfl ?_
                  refine VL.va (op_load 3 2 rfl rfl TI35 rfl (fun h => absurd h (by decide)) (ltn rfl)) rfl ?_
                  refine VL.va (op_move rfl (ltn rfl)) rfl ?_
                  replace h := Option.bind_eq_some_iff.1 h
                  obtain ⟨r153299, hA153300, h⟩ := h
                  refine VL.sC (o_call0 FO21 (tarryref07_For.ok k r382 r383 (a1.extract 0 ((mn (a1.size : Int) 18).toNat)) v386 v388 r153299 hA153300) rfl rfl (ltn rfl) (All_of (.cons (List.mem_of_getElem? (i := 1) rfl) (.cons (List.mem_of_getElem? (i := 2) rfl) .nil)))) rfl ?_
                  rintro v153302 _ _ ⟨_, rfl, rfl, rfl⟩
                  refine VL.va (op_build (vals := [(1, v153302)]) (vcs := [(1, [v153302])]) (cells := [.slice none 0 0, v153302]) SI35 rfl (.cons ⟨rfl, (.r 0 rfl)⟩ .nil) (by kernel_rfl) (ltn rfl)) rfl ?_
                  refine VL.nilFact' 1 ?_
                  refine VL.nilFact' 1 ?_
                  replace h := Option.bind_eq_some_iff.1 h
                  obtain ⟨t153305, hA153306, h⟩ := h
                  refine VL.sC (o_call_b0 FO15 (tarryref07_Like.ok k [] r2463 [] r153299 (.slice none 0 0) v2467 (.slice none 0 0) v153302 t153305 hA153306) rfl rfl (ltn rfl) (All_of (.cons (.inl (List.mem_of_getElem? (i := 1) rfl)) (.cons (.inr (.inl ⟨_, List.mem_of_getElem? (i := 1) rfl, rfl⟩)) (.cons (.inl (List.mem_of_getElem? (i := 0) rfl)) (.cons (.inr (.inl ⟨_, List.mem_of_getElem? (i := 0) rfl, rfl⟩)) .nil))))) (by rintro _ _ _ ⟨rfl, rfl, rfl⟩; rfl)) rfl ?_
                  rintro _ _ _ ⟨rfl, rfl, rfl⟩
                  by_cases c153307 : t153305 = true
                  · rw [if_pos c153307] at h
                    obtain rfl := c153307
                    refine VL.va (op_not rfl rfl (ltn rfl)) rfl ?_
                    refine VL.va (op_pick rfl rfl (ltn rfl)) rfl ?_
                    refine VL.done ?_
                    refine VN.then ?_
                    refine VC.cond_f rfl ?_
                    refine VC.skip ?_
                    refine VN.meet0  [0, 1, 2, 3] [2] h ⟨rfl, ⟨rfl, rfl, rfl, rfl, rfl, rfl, rfl, trivial⟩, ⟨⟨2, rfl⟩, ⟨3, rfl⟩, ⟨4, rfl⟩, trivial⟩, rfl, by decide, rfl, by decide⟩
                  · rw [if_neg c153307] at h
                    obtain rfl := Bool.eq_false_iff.2 c153307
                    refine VL.va (op_not rfl rfl (ltn rfl)) rfl ?_
                    refine VL.va (op_pick rfl rfl (ltn rfl)) rfl ?_
                    refine VL.done ?_
                    refine VN.then ?_
                    refine VC.cond_t rfl ?_
                    refine VC.seq ?_
                    refine VC.region ?_
                    refine VL.va (op_assign rfl (ltn rfl)) rfl ?_
                    refine VL.done ?_
                    refine VN.then ?_
                    refine VC.ret ?_
                    refine VR.then ?_
                    cases h
                · rw [if_neg c153298] at h
                  obtain rfl : b153297 = true := hb153297.symm.trans (bne_iff_ne.2 c153298)
                  refine VL.un rfl rfl (ltn rfl) ?_
                  refine VL.un rfl rfl (ltn rfl) ?_
                  refine VL.un rfl rfl (ltn rfl) ?_
                  refine VL.un rfl rfl (ltn rfl) ?_
                  refine VL.un rfl rfl (ltn rfl) ?_
                  refine VL.un rfl rfl (ltn rfl) ?_
                  refine VL.un rfl rfl (ltn rfl) ?_
                  refine VL.un rfl rfl (ltn rfl) ?_
                  refine VL.va (op_pick rfl rfl (ltn rfl)) rfl ?_
                  refine VL.done ?_
                  refine VN.then ?_
                  refine VC.cond_t rfl ?_
                  refine VC.seq ?_
                  refine VC.region ?_
                  refine VL.va (op_assign rfl (ltn rfl)) rfl ?_
                  refine VL.done ?_
                  refine VN.then ?_
                  refine VC.ret ?_
                  refine VR.then ?_
                  cases h
              · rw [if_neg c153285] at h
                obtain rfl := Bool.eq_false_iff.2 c153285
                refine VL.va (op_not rfl rfl (ltn rfl)) rfl ?_
                refine VL.done ?_
                refine VN.then ?_
                refine VC.cond_t rfl ?_
                refine VC.seq ?_
                refine VC.region ?_
                refine VL.va (op_move rfl (ltn rfl)) rfl ?_
                refine VL.letter ((t2464 != 8)) fun b153311 hb153311 => ?_
                refine VL.va (op_cmp rfl rfl (congrArg some hb153311) (ltn rfl)) rfl ?_
                refine VL.va (op_move rfl (ltn rfl)) rfl ?_
                by_cases c153312 : t2464 = 8
                · rw [if_pos c153312] at h
                  obtain rfl : b153311 = false := hb153311.symm.trans (bne_eq_false_iff_eq.2 c153312)
                  refine VL.va (op_move rfl (ltn rfl)) rfl ?_
                  refine VL.va (op_len_own (m := r2463.length) 0 lenm Try.underlying33 rfl rfl (ltn rfl)) rfl ?_
                  refine VL.letter (((r2463.length : Int) != 0)) fun b153313 hb153313 => ?_
                  refine VL.va (op_cmp rfl rfl (congrArg some hb153313) (ltn rfl)) rfl ?_
                  refine VL.va (op_pick rfl rfl (ltn rfl)) rfl ?_
                  refine VL.done ?_
                  refine VN.then ?_
                  by_cases c153314 : (r2463.length : Int) = 0
                  · rw [if_pos c153314] at h
                    obtain rfl : b153313 = false := hb153313.symm.trans (bne_eq_false_iff_eq.2 c153314)
                    refine VC.cond_f rfl ?_
                    refine VC.skip ?_
                    refine VN.meet0  [0, 1, 2, 3] [1] h ⟨rfl, ⟨rfl, rfl, rfl, rfl, rfl, rfl, rfl, trivial⟩, ⟨⟨0, rfl⟩, ⟨1, rfl⟩, ⟨2, rfl⟩, trivial⟩, rfl, by decide, rfl, by decide⟩
                  · rw [if_neg c153314] at h
                    obtain rfl : b153313 = true := hb153313.symm.trans (bne_iff_ne.2 c153314)
                    refine VC.cond_t rfl ?_
                    refine VC.seq ?_
                    refine VC.region ?_
                    refine VL.va (op_assign rfl (ltn rfl)) rfl ?_
                    refine VL.done ?_
                    refine VN.then ?_
                    refine VC.ret ?_
                    refine VR.then ?_
                    cases h
                · rw [if_neg c153312] at h
                  obtain rfl : b153311 = true := hb153311.symm.trans (bne_iff_ne.2 c153312)
                  refine VL.un rfl rfl (ltn rfl) ?_
                  refine VL.un rfl rfl (ltn rfl) ?_
                  refine VL.un rfl rfl (ltn rfl) ?_
                  refine VL.va (op_pick rfl rfl (ltn rfl)) rfl ?_
                  refine VL.done ?_
                  refine VN.then ?_
                  refine VC.cond_t rfl ?_
                  refine VC.seq ?_
                  refine VC.region ?_
                  refine VL.va (op_assign rfl (ltn rfl)) rfl ?_
                  refine VL.done ?_
                  refine VN.then ?_
                  refine VC.ret ?_
                  refine VR.then ?_
                  cases h
            clear h
            intro  h
            unfold tarrylaw07_GoodsKnow.j2122 at h
            refine VC.seq ?_
            refine VC.region ?_
            refine VL.va (op_assign rfl (ltn rfl)) rfl ?_
            refine VL.done ?_
            refine VN.then ?_
            refine VC.join1 (fun (q154095 : Bool) => ⟨225, [(3, .pointer (some ⟨g3, 0, none⟩)), (5, .pointer (some ⟨g4, 0, none⟩)), (6, .bool false), (9, .pointer (some ⟨g2319, 0, none⟩)), (10, .int .i64 t2313), (13, .pointer (some ⟨g2468, 0, none⟩)), (14, .int .i64 i127066), (15, .bool q154095)], [.row v2316 1 (r2311.map enc_str), .row v386 1 (r382.map enc_str), .row v388 5 (r383.map enc22)], [(g2468, 35, [.slice none 0 0, .slice none 0 0]), (g2319, 35, [v2316, v2318]), (g4, 23, [.string t391, .string t392, .int .i64 t393, .int .i64 t394, .int .i64 t395]), (g3, 35, [v386, v388])], [(v2318, 23, 5, r2312.map enc22)]⟩) (fun (q154095 : Bool) => tarrylaw07_GoodsKnow.j2133 k r2311 r2312 r382 r383 t2313 t391 t392 t393 t394 t395 q154095 = some r1) ?_ ?_
            · refine VC.seq ?_
              refine VC.region ?_
              refine VL.va (op_fieldAddr FI35_1 rfl (add_at _ _ _) (ltn rfl)) rfl ?_
              refine VL.va (op_load 3 1 rfl rfl TI33 rfl (by decide) (ltn rfl)) rfl ?_
              refine VL.va (op_len (m := r383.length) 2 lenm Try.underlying33 rfl rfl (ltn rfl)) rfl ?_
              refine VL.va (op_move rfl (ltn rfl)) rfl ?_
              refine VL.done ?_
              refine VN.then ?_
              refine VC.block ?_
              refine VC.loop2 (fun (q154043 : Bool) (i154044 : Int) => ⟨225, [(3, .pointer (some ⟨g3, 0, none⟩)), (5, .pointer (some ⟨g4, 0, none⟩)), (6, .bool false), (9, .pointer (some ⟨g2319, 0, none⟩)), (10, .int .i64 t2313), (13, .pointer (some ⟨g2468, 0, none⟩)), (14, .int .i64 i127066), (15, .bool q154043), (147, v388), (148, .int .i64 (r383.length : Int)), (149, .int .i64 i154044)], [.row v388 5 (r383.map enc22), .row v2316 1 (r2311.map enc_str), .row v386 1 (r382.map enc_str)], [(g2468, 35, [.slice none 0 0, .slice none 0 0]), (g2319, 35, [v2316, v2318]), (g4, 23, [.string t391, .string t392, .int .i64 t393, .int .i64 t394, .int .i64 t395]), (g3, 35, [v386, v388])], [(v2318, 23, 5, r2312.map enc22)]⟩) (fun (ml2134 : Nat) (q154043 : Bool) (i154044 : Int) => tarrylaw07_GoodsKnow.l2134 k r2311 r2312 r382 r383 t2313 t391 t392 t393 t394 t395 ml2134 q154043 i154044 = some r1) k false 0 [0, 1, 2, 3] [0] h ⟨rfl, ⟨rfl, rfl, rfl, rfl, rfl, rfl, rfl, rfl, rfl, rfl, rfl, trivial⟩, ⟨⟨2, rfl⟩, ⟨0, rfl⟩, ⟨1, rfl⟩, trivial⟩, rfl, by decide, rfl, by decide⟩ (by intros; simp [tarrylaw07_GoodsKnow.l2134]) ?_
              clear h
              intro ml2134 ihl2134 q154043 i154044 h
              simp only [tarrylaw07_GoodsKnow.l2134] at h
              refine VC.seq ?_
              refine VC.region ?_
              refine VL.letter (decide (i154044 < (r383.length : Int))) fun b154070 hb154070 => ?_
              refine VL.va (op_cmp rfl rfl (congrArg some hb154070) (ltn rfl)) rfl ?_
              refine VL.done ?_
              refine VN.then ?_
              refine VC.seq ?_
              by_cases c154072 : i154044 < (r383.length : Int)
              · rw [if_pos c154072] at h
                obtain rfl : b154070 = true := hb154070.symm.trans (decide_eq_true c154072)
                refine VC.cond_t rfl ?_
                refine VC.skip ?_
                refine VN.then ?_
                refine VC.seq ?_
                refine VC.block ?_
                refine VC.seq ?_
                refine VC.region ?_
                by_cases c154084 : 0 ≤ i154044
                · rw [if_pos c154084] at h
                  replace h := Option.bind_eq_some_iff.1 h
                  obtain ⟨x154085, hx154085, h⟩ := h
                  refine VL.open (m := r383.length) 0 lenm rfl (pos_get hx154085) ?_
                  rintro ad154086 n154087 rfl
                  refine VL.va (op_indexAddr Try.underlying33 TI23 rfl rfl c154084 (lt_get c154084 hx154085) rfl (ltn rfl)) rfl ?_
                  refine VL.va (op_load_row (sz := 5) (o := 0) 0 i154044.toNat 5 rfl rfl (get_map hx154085) TI23 rfl (fun h => absurd h (by decide)) (ltn rfl)) rfl ?_
                  refine VL.sG (o_alloc Z23 ZL23 (ltn rfl)) rfl ?_
                  intro g154088
                  refine VL.step1 (o_store 0 5 rfl rfl rfl TI23 (.agg (.of rfl)) rfl (len rfl)) rfl ?_
                  refine VL.done ?_
                  refine VN.then ?_
                  refine VC.region ?_
                  refine VL.va (op_move rfl (ltn rfl)) rfl ?_
                  refine VL.va (op_move rfl (ltn rfl)) rfl ?_
                  by_cases c154089 : q154043 = true
                  · rw [if_pos c154089] at h
                    obtain rfl := c154089
                    refine VL.un rfl rfl (ltn rfl) ?_
                    refine VL.un rfl rfl (ltn rfl) ?_
                    refine VL.un rfl rfl (ltn rfl) ?_
                    refine VL.un rfl rfl (ltn rfl) ?_
                    refine VL.un rfl rfl (ltn rfl) ?_
                    refine VL.un rfl rfl (ltn rfl) ?_
                    refine VL.un rfl rfl (ltn rfl) ?_
                    refine VL.un rfl rfl (ltn rfl) ?_
                    refine VL.un rfl rfl (ltn rfl) ?_
                    refine VL.un rfl rfl (ltn rfl) ?_
                    refine VL.un rfl rfl (ltn rfl) ?_
                    refine VL.un rfl rfl (ltn rfl) ?_
                    refine VL.un rfl rfl (ltn rfl) ?_
                    refine VL.un rfl rfl (ltn rfl) ?_
                    refine VL.un rfl rfl (ltn rfl) ?_
                    refine VL.un rfl rfl (ltn rfl) ?_
                    refine VL.un rfl rfl (ltn rfl) ?_
                    refine VL.un rfl rfl (ltn rfl) ?_
                    refine VL.un rfl rfl (ltn rfl) ?_
                    refine VL.va (op_pick rfl rfl (ltn rfl)) rfl ?_
                    refine VL.va (op_assign rfl (ltn rfl)) rfl ?_
                    refine VL.done ?_
                    refine VN.block ?_
                    refine VN.then ?_
                    refine VC.region ?_
                    refine VL.va (op_ari64 rfl rfl rfl (ltn rfl)) rfl ?_
                    refine VL.va (op_move rfl (ltn rfl)) rfl ?_
                    refine VL.done ?_
                    refine VN.again [1, 2, 3, 4] [0] (ihl2134 true (wrap64 (i154044 + 1)) h) ⟨rfl, ⟨rfl, rfl, rfl, rfl, rfl, rfl, rfl, rfl, rfl, rfl, rfl, trivial⟩, ⟨⟨0, rfl⟩, ⟨1, rfl⟩, ⟨2, rfl⟩, trivial⟩, rfl, by decide, rfl, by decide⟩
                  · rw [if_neg c154089] at h
                    obtain rfl := Bool.eq_false_iff.2 c154089
                    refine VL.va (op_fieldAddr FI23_0 rfl (add_at _ _ _) (ltn rfl)) rfl ?_
                    refine VL.va (op_load 0 1 rfl rfl TI9 rfl (by decide) (ltn rfl)) rfl ?_
                    refine VL.va (op_fieldAddr FI23_0 rfl (add_at _ _ _) (ltn rfl)) rfl ?_
                    refine VL.va (op_load 3 1 rfl rfl TI9 rfl (by decide) (ltn rfl)) rfl ?_
                    refine VL.letter ((x154085.f0 == t391)) fun b154090 hb154090 => ?_
                    refine VL.va (op_cmps rfl rfl (congrArg some hb154090) (ltn rfl)) rfl ?_
                    refine VL.va (op_move rfl (ltn rfl)) rfl ?_
                    by_cases c154091 : (x154085.f0 == t391) = true
                    · rw [if_pos c154091] at h
                      obtain rfl : b154090 = true := hb154090.symm.trans (c154091)
                      refine VL.va (op_fieldAddr FI23_2 rfl (add_at _ _ _) (ltn rfl)) rfl ?_
                      refine VL.va (op_load 0 1 rfl rfl TI3 rfl (by decide) (ltn rfl)) rfl ?_
                      refine VL.va (op_fieldAddr FI23_2 rfl (add_at _ _ _) (ltn rfl)) rfl ?_
                      refine VL.va (op_load 3 1 rfl rfl TI3 rfl (by decide) (ltn rfl)) rfl ?_
                      refine VL.letter ((x154085.f2 == t393)) fun b154092 hb154092 => ?_
                      refine VL.va (op_cmp rfl rfl (congrArg some hb154092) (ltn rfl)) rfl ?_
                      refine VL.va (op_move rfl (ltn rfl)) rfl ?_
                      by_cases c154093 : x154085.f2 = t393
                      · rw [if_pos c154093] at h
                        obtain rfl : b154092 = true := hb154092.symm.trans (beq_iff_eq.2 c154093)
                        refine VL.un rfl rfl (ltn rfl) ?_
                        refine VL.un rfl rfl (ltn rfl) ?_
                        refine VL.un rfl rfl (ltn rfl) ?_
                        refine VL.un rfl rfl (ltn rfl) ?_
                        refine VL.un rfl rfl (ltn rfl) ?_
                        refine VL.va (op_pick rfl rfl (ltn rfl)) rfl ?_
                        refine VL.va (op_pick rfl rfl (ltn rfl)) rfl ?_
                        refine VL.va (op_pick rfl rfl (ltn rfl)) rfl ?_
                        refine VL.va (op_assign rfl (ltn rfl)) rfl ?_
                        refine VL.done ?_
                        refine VN.block ?_
                        refine VN.then ?_
                        refine VC.region ?_
                        refine VL.va (op_ari64 rfl rfl rfl (ltn rfl)) rfl ?_
                        refine VL.va (op_move rfl (ltn rfl)) rfl ?_
                        refine VL.done ?_
                        refine VN.again [1, 2, 3, 4] [0] (ihl2134 true (wrap64 (i154044 + 1)) h) ⟨rfl, ⟨rfl, rfl, rfl, rfl, rfl, rfl, rfl, rfl, rfl, rfl, rfl, trivial⟩, ⟨⟨0, rfl⟩, ⟨1, rfl⟩, ⟨2, rfl⟩, trivial⟩, rfl, by decide, rfl, by decide⟩
                      · rw [if_neg c154093] at h
                        obtain rfl : b154092 = false := hb154092.symm.trans (beq_eq_false_iff_ne.2 c154093)
                        refine VL.va (op_fieldAddr FI23_1 rfl (add_at _ _ _) (ltn rfl)) rfl ?_
                        refine VL.va (op_load 0 1 rfl rfl TI9 rfl (by decide) (ltn rfl)) rfl ?_
                        refine VL.va (op_fieldAddr FI23_1 rfl (add_at _ _ _) (ltn rfl)) rfl ?_
                        refine VL.va (op_load 3 1 rfl rfl TI9 rfl (by decide) (ltn rfl)) rfl ?_
                        refine VL.letter ((x154085.f1 == t392)) fun b154094 hb154094 => ?_
                        refine VL.va (op_cmps rfl rfl (congrArg some hb154094) (ltn rfl)) rfl ?_
                        refine VL.va (op_pick rfl rfl (ltn rfl)) rfl ?_
                        refine VL.va (op_pick rfl rfl (ltn rfl)) rfl ?_
                        refine VL.va (op_pick rfl rfl (ltn rfl)) rfl ?_
                        refine VL.va (op_assign rfl (ltn rfl)) rfl ?_
                        refine VL.done ?_
                        refine VN.block ?_
                        refine VN.then ?_
                        refine VC.region ?_
                        refine VL.va (op_ari64 rfl rfl rfl (ltn rfl)) rfl ?_
                        refine VL.va (op_move rfl (ltn rfl)) rfl ?_
                        refine VL.done ?_
                        subst hb154094
                        refine VN.again [1, 2, 3, 4] [0] (ihl2134 (x154085.f1 == t392) (wrap64 (i154044 + 1)) h) ⟨rfl, ⟨rfl, rfl, rfl, rfl, rfl, rfl, rfl, rfl, rfl, rfl, rfl, trivial⟩, ⟨⟨0, rfl⟩, ⟨1, rfl⟩, ⟨2, rfl⟩, trivial⟩, rfl, by decide, rfl, by decide⟩
                    · rw [if_neg c154091] at h
                      obtain rfl : b154090 = false := hb154090.symm.trans (Bool.eq_false_iff.2 c154091)
                      refine VL.un rfl rfl (ltn rfl) ?_
                      refine VL.un rfl rfl (ltn rfl) ?_
                      refine VL.un rfl rfl (ltn rfl) ?_
                      refine VL.un rfl rfl (ltn rfl) ?_
                      refine VL.un rfl rfl (ltn rfl) ?_
                      refine VL.un rfl rfl (ltn rfl) ?_
                      refine VL.un rfl rfl (ltn rfl) ?_
                      refine VL.un rfl rfl (ltn rfl) ?_
                      refine VL.un rfl rfl (ltn rfl) ?_
                      refine VL.un rfl rfl (ltn rfl) ?_
                      refine VL.un rfl rfl (ltn rfl) ?_
                      refine VL.un rfl rfl (ltn rfl) ?_
                      refine VL.va (op_pick rfl rfl (ltn rfl)) rfl ?_
                      refine VL.va (op_pick rfl rfl (ltn rfl)) rfl ?_
                      refine VL.va (op_assign rfl (ltn rfl)) rfl ?_
                      refine VL.done ?_
                      refine VN.block ?_
                      refine VN.then ?_
                      refine VC.region ?_
                      refine VL.va (op_ari64 rfl rfl rfl (ltn rfl)) rfl ?_
                      refine VL.va (op_move rfl (ltn rfl)) rfl ?_
                      refine VL.done ?_
                      refine VN.again [1, 2, 3, 4] [0] (ihl2134 false (wrap64 (i154044 + 1)) h) ⟨rfl, ⟨rfl, rfl, rfl, rfl, rfl, rfl, rfl, rfl, rfl, rfl, rfl, trivial⟩, ⟨⟨0, rfl⟩, ⟨1, rfl⟩, ⟨2, rfl⟩, trivial⟩, rfl, by decide, rfl, by decide⟩
                · rw [if_neg c154084] at h; cases h
              · rw [if_neg c154072] at h
                obtain rfl : b154070 = false := hb154070.symm.trans (decide_eq_false c154072)
                refine VC.cond_f rfl ?_
                refine VC.exit ?_
                refine VX.then ?_
                refine VX.then ?_
                refine VX.hit ?_
                refine VN.meet1 q154043 [0, 1, 2, 3] [0] h ⟨rfl, ⟨rfl, rfl, rfl, rfl, rfl, rfl, rfl, rfl, trivial⟩, ⟨⟨1, rfl⟩, ⟨2, rfl⟩, ⟨0, rfl⟩, trivial⟩, rfl, by decide, rfl, by decide⟩
            clear h
            intro q154095 h
            unfold tarrylaw07_GoodsKnow.j2133 at h
            refine VC.seq ?_
            refine VC.region ?_
            refine VL.va (op_assign rfl (ltn rfl)) rfl ?_
            refine VL.done ?_
            refine VN.then ?_
            refine VC.join1 (fun (i154349 : Int) => ⟨225, [(3, .pointer (some ⟨g3, 0, none⟩)), (5, .pointer (some ⟨g4, 0, none⟩)), (6, .bool false), (9, .pointer (some ⟨g2319, 0, none⟩)), (10, .int .i64 t2313), (13, .pointer (some ⟨g2468, 0, none⟩)), (14, .int .i64 i154349)], [.row v2316 1 (r2311.map enc_str), .row v386 1 (r382.map enc_str), .row v388 5 (r383.map enc22)], [(g2468, 35, [.slice none 0 0, .slice none 0 0]), (g2319, 35, [v2316, v2318]), (g4, 23, [.string t391, .string t392, .int .i64 t393, .int .i64 t394, .int .i64 t395]), (g3, 35, [v386, v388])], [(v2318, 23, 5, r2312.map enc22)]⟩) (fun (i154349 : Int) => tarrylaw07_GoodsKnow.j2138 k r2311 r2312 r382 r383 t2313 t391 t392 t393 t394 t395 i154349 = some r1) ?_ ?_
            · refine VC.block ?_
              refine VC.seq ?_
              refine VC.region ?_
              refine VL.va (op_load 2 5 rfl rfl TI23 rfl (fun h => absurd h (by decide)) (ltn rfl)) rfl ?_
              replace h := Option.bind_eq_some_iff.1 h
              obtain ⟨t154331, hA154332, h⟩ := h
              refine VL.sC (o_call0 FO8 (tarryref07_May.ok k t391 t392 t393 t394 t395 t154331 hA154332) rfl rfl (ltn rfl) (All_of .nil)) rfl ?_
              rintro _ _ _ ⟨rfl, rfl, rfl⟩
              by_cases c154333 : t154331 = true
              · rw [if_pos c154333] at h
                obtain rfl := c154333
                refine VL.va (op_not rfl rfl (ltn rfl)) rfl ?_
                refine VL.va (op_assign rfl (ltn rfl)) rfl ?_
                refine VL.done ?_
                refine VN.then ?_
                refine VC.cond_f rfl ?_
                refine VC.seq ?_
                refine VC.region ?_
                refine VL.va (op_fieldAddr FI35_0 rfl (add_at _ _ _) (ltn rfl)) rfl ?_
                refine VL.va (op_load 3 1 rfl rfl TI32 rfl (by decide) (ltn rfl)) rfl ?_
                refine VL.va (op_fieldAddr FI23_0 rfl (add_at _ _ _) (ltn rfl)) rfl ?_
                refine VL.va (op_load 2 1 rfl rfl TI9 rfl (by decide) (ltn rfl)) rfl ?_
                replace h := Option.bind_eq_some_iff.1 h
                obtain ⟨t154340, hA154341, h⟩ := h
                refine VL.sC (o_call0 FO19 (tarryref07_Has.ok k r382 t391 v386 t154340 hA154341) rfl rfl (ltn rfl) (All_of (.cons (List.mem_of_getElem? (i := 1) rfl) .nil))) rfl ?_
                rintro _ _ _ ⟨rfl, rfl, rfl⟩
                by_cases c154342 : t154340 = true
                · rw [if_pos c154342] at h
                  obtain rfl := c154342
                  refine VL.va (op_not rfl rfl (ltn rfl)) rfl ?_
                  refine VL.va (op_move rfl (ltn rfl)) rfl ?_
                  refine VL.va (op_fieldAddr FI35_0 rfl (add_at _ _ _) (ltn rfl)) rfl ?_
                  refine VL.va (op_load 3 1 rfl rfl TI32 rfl (by decide) (ltn rfl)) rfl ?_
                  refine VL.va (op_fieldAddr FI23_1 rfl (add_at _ _ _) (ltn rfl)) rfl ?_
                  refine VL.va (op_load 2 1 rfl rfl TI9 rfl (by decide) (ltn rfl)) rfl ?_
                  replace h := Option.bind_eq_some_iff.1 h
                  obtain ⟨t154343, hA154344, h⟩ := h
                  refine VL.sC (o_call0 FO19 (tarryref07_Has.ok k r382 t392 v386 t154343 hA154344) rfl rfl (ltn rfl) (All_of (.cons (List.mem_of_getElem? (i := 1) rfl) .nil))) rfl ?_
                  rintro _ _ _ ⟨rfl, rfl, rfl⟩
                  by_cases c154345 : t154343 = true
                  · rw [if_pos c154345] at h
                    obtain rfl := c154345
                    refine VL.va (op_not rfl rfl (ltn rfl)) rfl ?_
                    refine VL.va (op_pick rfl rfl (ltn rfl)) rfl ?_
                    refine VL.va (op_assign rfl (ltn rfl)) rfl ?_
                    refine VL.done ?_
                    refine VN.then ?_
                    refine VC.cond_f rfl ?_
                    refine VC.seq ?_
                    refine VC.region ?_
                    refine VL.va (op_move rfl (ltn rfl)) rfl ?_
                    refine VL.va (op_assign rfl (ltn rfl)) rfl ?_
                    refine VL.done ?_
                    refine VN.then ?_
                    by_cases c154346 : q154095 = true
                    · rw [if_pos c154346] at h
                      obtain rfl := c154346
                      refine VC.cond_t rfl ?_
                      refine VC.region ?_
                      refine VL.va (op_assign rfl (ltn rfl)) rfl ?_
                      refine VL.done ?_
                      refine VN.block ?_
                      refine VN.meet1 9 [0, 1, 2, 3] [0] h ⟨rfl, ⟨rfl, rfl, rfl, rfl, rfl, rfl, rfl, trivial⟩, ⟨⟨0, rfl⟩, ⟨1, rfl⟩, ⟨2, rfl⟩, trivial⟩, rfl, by decide, rfl, by decide⟩
                    · rw [if_neg c154346] at h
                      obtain rfl := Bool.eq_false_iff.2 c154346
                      refine VC.cond_f rfl ?_
                      refine VC.seq ?_
                      refine VC.region ?_
                      refine VL.va (op_fieldAddr FI35_1 rfl (add_at _ _ _) (ltn rfl)) rfl ?_
                      refine VL.va (op_load 3 1 rfl rfl TI33 rfl (by decide) (ltn rfl)) rfl ?_
                      refine VL.va (op_len (m := r383.length) 2 lenm Try.underlying33 rfl rfl (ltn rfl)) rfl ?_
                      refine VL.letter (((r383.length : Int) == 16)) fun b154347 hb154347 => ?_
                      refine VL.va (op_cmp rfl rfl (congrArg some hb154347) (ltn rfl)) rfl ?_
                      refine VL.va (op_assign rfl (ltn rfl)) rfl ?_
                      refine VL.done ?_
                      refine VN.then ?_
                      by_cases c154348 : (r383.length : Int) = 16
                      · rw [if_pos c154348] at h
                        obtain rfl : b154347 = true := hb154347.symm.trans (beq_iff_eq.2 c154348)
                        refine VC.cond_t rfl ?_
                        refine VC.region ?_
                        refine VL.va (op_assign rfl (ltn rfl)) rfl ?_
                        refine VL.done ?_
                        refine VN.block ?_
                        refine VN.meet1 7 [0, 1, 2, 3] [0] h ⟨rfl, ⟨rfl, rfl, rfl, rfl, rfl, rfl, rfl, trivial⟩, ⟨⟨0, rfl⟩, ⟨1, rfl⟩, ⟨2, rfl⟩, trivial⟩, rfl, by decide, rfl, by decide⟩
                      · rw [if_neg c154348] at h
                        obtain rfl : b154347 = false := hb154347.symm.trans (beq_eq_false_iff_ne.2 c154348)
                        refine VC.cond_f rfl ?_
                        refine VC.skip ?_
                        refine VN.block ?_
                        refine VN.meet1 0 [0, 1, 2, 3] [0] h ⟨rfl, ⟨rfl, rfl, rfl, rfl, rfl, rfl, rfl, trivial⟩, ⟨⟨0, rfl⟩, ⟨1, rfl⟩, ⟨2, rfl⟩, trivial⟩, rfl, by decide, rfl, by decide⟩
                  · rw [if_neg c154345] at h
                    obtain rfl := Bool.eq_false_iff.2 c154345
                    refine VL.va (op_not rfl rfl (ltn rfl)) rfl ?_
                    refine VL.va (op_pick rfl rfl (ltn rfl)) rfl ?_
                    refine VL.va (op_assign rfl (ltn rfl)) rfl ?_
                    refine VL.done ?_
                    refine VN.then ?_
                    refine VC.cond_t rfl ?_
                    refine VC.region ?_
                    refine VL.va (op_assign rfl (ltn rfl)) rfl ?_
                    refine VL.done ?_
                    refine VN.block ?_
                    refine VN.meet1 8 [0, 1, 2, 3] [0] h ⟨rfl, ⟨rfl, rfl, rfl, rfl, rfl, rfl, rfl, trivial⟩, ⟨⟨0, rfl⟩, ⟨1, rfl⟩, ⟨2, rfl⟩, trivial⟩, rfl, by decide, rfl, by decide⟩
                · rw [if_neg c154342] at h
                  obtain rfl := Bool.eq_false_iff.2 c154342
                  refine VL.va (op_not rfl rfl (ltn rfl)) rfl ?_
                  refine VL.va (op_move rfl (ltn rfl)) rfl ?_
                  refine VL.un rfl rfl (ltn rfl) ?_
                  refine VL.un rfl rfl (ltn rfl) ?_
                  refine VL.un rfl rfl (ltn rfl) ?_
                  refine VL.un rfl rfl (ltn rfl) ?_
                  refine VL.un rfl rfl (ltn rfl) ?_
                  refine VL.un rfl rfl (ltn rfl) ?_
                  refine VL.va (op_pick rfl rfl (ltn rfl)) rfl ?_
                  refine VL.va (op_assign rfl (ltn rfl)) rfl ?_
                  refine VL.done ?_
                  refine VN.then ?_
                  refine VC.cond_t rfl ?_
                  refine VC.region ?_
                  refine VL.va (op_assign rfl (ltn rfl)) rfl ?_
                  refine VL.done ?_
                  refine VN.block ?_
                  refine VN.meet1 8 [0, 1, 2, 3] [0] h ⟨rfl, ⟨rfl, rfl, rfl, rfl, rfl, rfl, rfl, trivial⟩, ⟨⟨0, rfl⟩, ⟨1, rfl⟩, ⟨2, rfl⟩, trivial⟩, rfl, by decide, rfl, by decide⟩
              · rw [if_neg c154333] at h
                obtain rfl := Bool.eq_false_iff.2 c154333
                refine VL.va (op_not rfl rfl (ltn rfl)) rfl ?_
                refine VL.va (op_assign rfl (ltn rfl)) rfl ?_
                refine VL.done ?_
                refine VN.then ?_
                refine VC.cond_t rfl ?_
                refine VC.region ?_
                refine VL.va (op_assign rfl (ltn rfl)) rfl ?_
                refine VL.done ?_
                refine VN.block ?_
                refine VN.meet1 1 [0, 1, 2, 3] [0] h ⟨rfl, ⟨rfl, rfl, rfl, rfl, rfl, rfl, rfl, trivial⟩, ⟨⟨0, rfl⟩, ⟨1, rfl⟩, ⟨2, rfl⟩, trivial⟩, rfl, by decide, rfl, by decide⟩
            clear h
            intro i154349 h
            unfold tarrylaw07_GoodsKnow.j2138 at h
            refine VC.letter ((t2313 == i154349)) fun b154350 hb154350 => ?_
            by_cases c154351 : t2313 = i154349
            · rw [if_pos c154351] at h
              obtain rfl : b154350 = true := hb154350.symm.trans (beq_iff_eq.2 c154351)
              refine VC.letter ((i154349 == 0)) fun b154352 hb154352 => ?_
              by_cases c154353 : i154349 = 0
              · rw [if_pos c154353] at h
                obtain rfl : b154352 = true := hb154352.symm.trans (beq_iff_eq.2 c154353)
                replace h := Option.bind_eq_some_iff.1 h
                obtain ⟨⟨r154354, r154355⟩, hA154356, h⟩ := h
                dsimp only at h
                replace h := Option.bind_eq_some_iff.1 h
                obtain ⟨t154361, hA154362, h⟩ := h
                by_cases c154363 : t154361 = true
                · rw [if_pos c154363] at h
                  obtain rfl := c154363
                  refine VC.join0 (⟨225, [(6, .bool true)], [], [], []⟩) (True) ?_ ?_
                  · refine VC.draw ⟨0, [], [], [(g2319, 35, [v2316, v2318]), (g4, 23, [.string t391, .string t392, .int .i64 t393, .int .i64 t394, .int .i64 t395]), (g3, 35, [v386, v388])], []⟩ (by kernel_rfl) rfl (by kernel_rfl) (n := 24) (listed := LB 24 0) ?_
                    refine VA.va (i := 0) (listed' := LB 24 1) rfl (op_move rfl (ltn rfl)) rfl (by kernel_rfl) (by kernel_rfl) (by kernel_rfl) (by kernel_rfl) ⟨trivial, ⟨⟨1, rfl⟩, ⟨2, rfl⟩, ⟨3, rfl⟩, trivial⟩, trivial⟩ (fun _ _ _ h => h) ?_
                    refine VA.va (i := 1) (listed' := LB 24 3) rfl (op_move rfl (ltn rfl)) rfl (by kernel_rfl) (by kernel_rfl) (by kernel_rfl) (by kernel_rfl) ⟨trivial, ⟨⟨1, rfl⟩, ⟨2, rfl⟩, ⟨3, rfl⟩, trivial⟩, trivial⟩ (fun _ _ _ h => h) ?_
                    refine VA.va (i := 2) (listed' := LB 24 7) rfl (op_cmp rfl rfl (congrArg some hb154350) (ltn rfl)) rfl (by kernel_rfl) (by kernel_rfl) (by kernel_rfl) (by kernel_rfl) ⟨trivial, ⟨⟨1, rfl⟩, ⟨2, rfl⟩, ⟨3, rfl⟩, trivial⟩, trivial⟩ (fun _ _ _ h => h) ?_
                    refine VA.va (i := 3) (listed' := LB 24 15) rfl (op_move rfl (ltn rfl)) rfl (by kernel_rfl) (by kernel_rfl) (by kernel_rfl) (by kernel_rfl) ⟨trivial, ⟨⟨1, rfl⟩, ⟨2, rfl⟩, ⟨3, rfl⟩, trivial⟩, trivial⟩ (fun _ _ _ h => h) ?_
                    refine VA.va (i := 4) (listed' := LB 24 31) rfl (op_move rfl (ltn rfl)) rfl (by kernel_rfl) (by kernel_rfl) (by kernel_rfl) (by kernel_rfl) ⟨trivial, ⟨⟨1, rfl⟩, ⟨2, rfl⟩, ⟨3, rfl⟩, trivial⟩, trivial⟩ (fun _ _ _ h => h) ?_
                    refine VA.va (i := 5) (listed' := LB 24 63) rfl (op_cmp rfl rfl (congrArg some hb154352) (ltn rfl)) rfl (by kernel_rfl) (by kernel_rfl) (by kernel_rfl) (by kernel_rfl) ⟨trivial, ⟨⟨1, rfl⟩, ⟨2, rfl⟩, ⟨3, rfl⟩, trivial⟩, trivial⟩ (fun _ _ _ h => h) ?_
                    refine VA.va (i := 6) (listed' := LB 24 127) rfl (op_move rfl (ltn rfl)) rfl (by kernel_rfl) (by kernel_rfl) (by kernel_rfl) (by kernel_rfl) ⟨trivial, ⟨⟨1, rfl⟩, ⟨2, rfl⟩, ⟨3, rfl⟩, trivial⟩, trivial⟩ (fun _ _ _ h => h) ?_
                    refine VA.va (i := 7) (listed' := LB 24 255) rfl (op_load 0 2 rfl rfl TI35 rfl (fun h => absurd h (by decide)) (ltn rfl)) rfl (by kernel_rfl) (by kernel_rfl) (by kernel_rfl) (by kernel_rfl) ⟨trivial, ⟨⟨1, rfl⟩, ⟨2, rfl⟩, ⟨3, rfl⟩, trivial⟩, trivial⟩ (fun _ _ _ h => h) ?_
                    refine VA.va (i := 8) (listed' := LB 24 511) rfl (op_load 2 2 rfl rfl TI35 rfl (fun h => absurd h (by decide)) (ltn rfl)) rfl (by kernel_rfl) (by kernel_rfl) (by kernel_rfl) (by kernel_rfl) ⟨trivial, ⟨⟨1, rfl⟩, ⟨2, rfl⟩, ⟨3, rfl⟩, trivial⟩, trivial⟩ (fun _ _ _ h => h) ?_
                    refine VA.va (i := 9) (listed' := LB 24 1023) rfl (op_load 1 5 rfl rfl TI23 rfl (fun h => absurd h (by decide)) (ltn rfl)) rfl (by kernel_rfl) (by kernel_rfl) (by kernel_rfl) (by kernel_rfl) ⟨trivial, ⟨⟨1, rfl⟩, ⟨2, rfl⟩, ⟨3, rfl⟩, trivial⟩, trivial⟩ (fun _ _ _ h => h) ?_
                    refine VA.oneC (i := 10) (listed' := LB 24 2047) (by kernel_rfl) rfl (o_call0 FO22 (tarryref07_Rule.ok k r382 r383 t391 t392 t393 t394 t395 v386 v388 r154354 r154355 hA154356) rfl rfl (ltn rfl) (All_of (.cons (List.mem_of_getElem? (i := 1) rfl) (.cons (List.mem_of_getElem? (i := 2) rfl) .nil)))) rfl (by kernel_rfl) ?_
                    rintro _ _ _ ⟨v154358, v154360, rfl, rfl, rfl⟩
                    refine ⟨⟨trivial, ⟨⟨1, rfl⟩, ⟨2, rfl⟩, ⟨3, rfl⟩, trivial⟩, trivial⟩, ?_⟩
                    refine VA.oneC (i := 11) (listed' := LB 24 4095) (by kernel_rfl) rfl (o_call_b0 FO15 (tarryref07_Like.ok k r2311 r2312 r154354 r154355 v2316 v2318 v154358 v154360 true hA154362) rfl rfl (ltn rfl) (All_of (.cons (.inl (List.mem_of_getElem? (i := 1) rfl)) (.cons (.inr (.inl ⟨_, List.mem_of_getElem? (i := 1) rfl, rfl⟩)) (.cons (.inl (List.mem_of_getElem? (i := 0) rfl)) (.cons (.inr (.inl ⟨_, List.mem_of_getElem? (i := 0) rfl, rfl⟩)) .nil))))) (by rintro _ _ _ ⟨rfl, rfl, rfl⟩; rfl)) rfl (by kernel_rfl) ?_
                    rintro _ _ _ ⟨rfl, rfl, rfl⟩
                    refine ⟨⟨trivial, ⟨⟨1, rfl⟩, ⟨2, rfl⟩, ⟨3, rfl⟩, trivial⟩, trivial⟩, ?_⟩
                    refine VA.va (i := 12) (listed' := LB 24 8191) rfl (op_pick rfl rfl (ltn rfl)) rfl (by kernel_rfl) (by kernel_rfl) (by kernel_rfl) (by kernel_rfl) ⟨trivial, ⟨⟨1, rfl⟩, ⟨2, rfl⟩, ⟨3, rfl⟩, trivial⟩, trivial⟩ (fun _ _ _ h => h) ?_
                    refine VA.va (i := 13) (listed' := LB 24 16383) rfl (op_move rfl (ltn rfl)) rfl (by kernel_rfl) (by kernel_rfl) (by kernel_rfl) (by kernel_rfl) ⟨trivial, ⟨⟨1, rfl⟩, ⟨2, rfl⟩, ⟨3, rfl⟩, trivial⟩, trivial⟩ (fun _ _ _ h => h) ?_
                    refine VA.un (i := 14) (listed' := LB 24 32767) rfl rfl rfl (ltn rfl) (by kernel_rfl) (by kernel_rfl) (by kernel_rfl) (by kernel_rfl) ⟨trivial, ⟨⟨1, rfl⟩, ⟨2, rfl⟩, ⟨3, rfl⟩, trivial⟩, trivial⟩ (fun _ _ _ h => h) ?_
                    refine VA.un (i := 15) (listed' := LB 24 65535) rfl rfl rfl (ltn rfl) (by kernel_rfl) (by kernel_rfl) (by kernel_rfl) (by kernel_rfl) ⟨trivial, ⟨⟨1, rfl⟩, ⟨2, rfl⟩, ⟨3, rfl⟩, trivial⟩, trivial⟩ (fun _ _ _ h => h) ?_
                    refine VA.un (i := 16) (listed' := LB 24 131071) rfl rfl rfl (ltn rfl) (by kernel_rfl) (by kernel_rfl) (by kernel_rfl) (by kernel_rfl) ⟨trivial, ⟨⟨1, rfl⟩, ⟨2, rfl⟩, ⟨3, rfl⟩, trivial⟩, trivial⟩ (fun _ _ _ h => h) ?_
                    refine VA.un (i := 17) (listed' := LB 24 262143) rfl rfl rfl (ltn rfl) (by kernel_rfl) (by kernel_rfl) (by kernel_rfl) (by kernel_rfl) ⟨trivial, ⟨⟨1, rfl⟩, ⟨2, rfl⟩, ⟨3, rfl⟩, trivial⟩, trivial⟩ (fun _ _ _ h => h) ?_
                    refine VA.un (i := 18) (listed' := LB 24 524287) rfl rfl rfl (ltn rfl) (by kernel_rfl) (by kernel_rfl) (by kernel_rfl) (by kernel_rfl) ⟨trivial, ⟨⟨1, rfl⟩, ⟨2, rfl⟩, ⟨3, rfl⟩, trivial⟩, trivial⟩ (fun _ _ _ h => h) ?_
                    refine VA.un (i := 19) (listed' := LB 24 1048575) rfl rfl rfl (ltn rfl) (by kernel_rfl) (by kernel_rfl) (by kernel_rfl) (by kernel_rfl) ⟨trivial, ⟨⟨1, rfl⟩, ⟨2, rfl⟩, ⟨3, rfl⟩, trivial⟩, trivial⟩ (fun _ _ _ h => h) ?_
                    refine VA.un (i := 20) (listed' := LB 24 2097151) rfl rfl rfl (ltn rfl) (by kernel_rfl) (by kernel_rfl) (by kernel_rfl) (by kernel_rfl) ⟨trivial, ⟨⟨1, rfl⟩, ⟨2, rfl⟩, ⟨3, rfl⟩, trivial⟩, trivial⟩ (fun _ _ _ h => h) ?_
                    refine VA.va (i := 21) (listed' := LB 24 4194303) rfl (op_pick rfl rfl (ltn rfl)) rfl (by kernel_rfl) (by kernel_rfl) (by kernel_rfl) (by kernel_rfl) ⟨trivial, ⟨⟨1, rfl⟩, ⟨2, rfl⟩, ⟨3, rfl⟩, trivial⟩, trivial⟩ (fun _ _ _ h => h) ?_
                    refine VA.va (i := 22) (listed' := LB 24 8388607) rfl (op_pick rfl rfl (ltn rfl)) rfl (by kernel_rfl) (by kernel_rfl) (by kernel_rfl) (by kernel_rfl) ⟨trivial, ⟨⟨1, rfl⟩, ⟨2, rfl⟩, ⟨3, rfl⟩, trivial⟩, trivial⟩ (fun _ _ _ h => h) ?_
                    refine VA.va (i := 23) (listed' := LB 24 16777215) rfl (op_assign rfl (ltn rfl)) rfl (by kernel_rfl) (by kernel_rfl) (by kernel_rfl) (by kernel_rfl) ⟨trivial, ⟨⟨1, rfl⟩, ⟨2, rfl⟩, ⟨3, rfl⟩, trivial⟩, trivial⟩ (fun _ _ _ h => h) ?_
                    refine VA.done (by kernel_rfl) ?_
                    exact VN.meet0  [] [] trivial ⟨rfl, ⟨rfl, trivial⟩, trivial, rfl, by decide, rfl, by decide⟩
                  intro _
                  refine VC.ret ?_
                  obtain rfl := Option.some.inj h
                  exact VR.fn (rs := [.tmp 6]) [] [] [] rfl (.tmp rfl .nil) ⟨rfl, rfl, rfl⟩ trivial rfl (by decide)
                · rw [if_neg c154363] at h
                  obtain rfl := Bool.eq_false_iff.2 c154363
                  refine VC.letter ((i154349 != 0)) fun b154364 hb154364 => ?_
                  by_cases c154365 : i154349 = 0
                  · rw [if_pos c154365] at h
                    obtain rfl : b154364 = false := hb154364.symm.trans (bne_eq_false_iff_eq.2 c154365)
                    refine VC.join0 (⟨225, [(6, .bool false)], [], [], []⟩) (True) ?_ ?_
                    · refine VC.draw ⟨0, [], [], [(g2319, 35, [v2316, v2318]), (g4, 23, [.string t391, .string t392, .int .i64 t393, .int .i64 t394, .int .i64 t395]), (g3, 35, [v386, v388])], []⟩ (by kernel_rfl) rfl (by kernel_rfl) (n := 24) (listed := LB 24 0) ?_
                      refine VA.va (i := 0) (listed' := LB 24 1) rfl (op_move rfl (ltn rfl)) rfl (by kernel_rfl) (by kernel_rfl) (by kernel_rfl) (by kernel_rfl) ⟨trivial, ⟨⟨1, rfl⟩, ⟨2, rfl⟩, ⟨3, rfl⟩, trivial⟩, trivial⟩ (fun _ _ _ h => h) ?_
                      refine VA.va (i := 1) (listed' := LB 24 3) rfl (op_move rfl (ltn rfl)) rfl (by kernel_rfl) (by kernel_rfl) (by kernel_rfl) (by kernel_rfl) ⟨trivial, ⟨⟨1, rfl⟩, ⟨2, rfl⟩, ⟨3, rfl⟩, trivial⟩, trivial⟩ (fun _ _ _ h => h) ?_
                      refine VA.va (i := 2) (listed' := LB 24 7) rfl (op_cmp rfl rfl (congrArg some hb154350) (ltn rfl)) rfl (by kernel_rfl) (by kernel_rfl) (by kernel_rfl) (by kernel_rfl) ⟨trivial, ⟨⟨1, rfl⟩, ⟨2, rfl⟩, ⟨3, rfl⟩, trivial⟩, trivial⟩ (fun _ _ _ h => h) ?_
                      refine VA.va (i := 3) (listed' := LB 24 15) rfl (op_move rfl (ltn rfl)) rfl (by kernel_rfl) (by kernel_rfl) (by kernel_rfl) (by kernel_rfl) ⟨trivial, ⟨⟨1, rfl⟩, ⟨2, rfl⟩, ⟨3, rfl⟩, trivial⟩, trivial⟩ (fun _ _ _ h => h) ?_
                      refine VA.va (i := 4) (listed' := LB 24 31) rfl (op_move rfl (ltn rfl)) rfl (by kernel_rfl) (by kernel_rfl) (by kernel_rfl) (by kernel_rfl) ⟨trivial, ⟨⟨1, rfl⟩, ⟨2, rfl⟩, ⟨3, rfl⟩, trivial⟩, trivial⟩ (fun _ _ _ h => h) ?_
                      refine VA.va (i := 5) (listed' := LB 24 63) rfl (op_cmp rfl rfl (congrArg some hb154352) (ltn rfl)) rfl (by kernel_rfl) (by kernel_rfl) (by kernel_rfl) (by kernel_rfl) ⟨trivial, ⟨⟨1, rfl⟩, ⟨2, rfl⟩, ⟨3, rfl⟩, trivial⟩, trivial⟩ (fun _ _ _ h => h) ?_
                      refine VA.va (i := 6) (listed' := LB 24 127) rfl (op_move rfl (ltn rfl)) rfl (by kernel_rfl) (by kernel_rfl) (by kernel_rfl) (by kernel_rfl) ⟨trivial, ⟨⟨1, rfl⟩, ⟨2, rfl⟩, ⟨3, rfl⟩, trivial⟩, trivial⟩ (fun _ _ _ h => h) ?_
                      refine VA.va (i := 7) (listed' := LB 24 255) rfl (op_load 0 2 rfl rfl TI35 rfl (fun h => absurd h (by decide)) (ltn rfl)) rfl (by kernel_rfl) (by kernel_rfl) (by kernel_rfl) (by kernel_rfl) ⟨trivial, ⟨⟨1, rfl⟩, ⟨2, rfl⟩, ⟨3, rfl⟩, trivial⟩, trivial⟩ (fun _ _ _ h => h) ?_
                      refine VA.va (i := 8) (listed' := LB 24 511) rfl (op_load 2 2 rfl rfl TI35 rfl (fun h => absurd h (by decide)) (ltn rfl)) rfl (by kernel_rfl) (by kernel_rfl) (by kernel_rfl) (by kernel_rfl) ⟨trivial, ⟨⟨1, rfl⟩, ⟨2, rfl⟩, ⟨3, rfl⟩, trivial⟩, trivial⟩ (fun _ _ _ h => h) ?_
                      refine VA.va (i := 9) (listed' := LB 24 1023) rfl (op_load 1 5 rfl rfl TI23 rfl (fun h => absurd h (by decide)) (ltn rfl)) rfl (by kernel_rfl) (by kernel_rfl) (by kernel_rfl) (by kernel_rfl) ⟨trivial, ⟨⟨1, rfl⟩, ⟨2, rfl⟩, ⟨3, rfl⟩, trivial⟩, trivial⟩ (fun _ _ _ h => h) ?_
                      refine VA.oneC (i := 10) (listed' := LB 24 2047) (by kernel_rfl) rfl (o_call0 FO22 (tarryref07_Rule.ok k r382 r383 t391 t392 t393 t394 t395 v386 v388 r154354 r154355 hA154356) rfl rfl (ltn rfl) (All_of (.cons (List.mem_of_getElem? (i := 1) rfl) (.cons (List.mem_of_getElem? (i := 2) rfl) .nil)))) rfl (by kernel_rfl) ?_
                      rintro _ _ _ ⟨v154358, v154360, rfl, rfl, rfl⟩
                      refine ⟨⟨trivial, ⟨⟨1, rfl⟩, ⟨2, rfl⟩, ⟨3, rfl⟩, trivial⟩, trivial⟩, ?_⟩
                      refine VA.oneC (i := 11) (listed' := LB 24 4095) (by kernel_rfl) rfl (o_call_b0 FO15 (tarryref07_Like.ok k r2311 r2312 r154354 r154355 v2316 v2318 v154358 v154360 false hA154362) rfl rfl (ltn rfl) (All_of (.cons (.inl (List.mem_of_getElem? (i := 1) rfl)) (.cons (.inr (.inl ⟨_, List.mem_of_getElem? (i := 1) rfl, rfl⟩)) (.cons (.inl (List.mem_of_getElem? (i := 0) rfl)) (.cons (.inr (.inl ⟨_, List.mem_of_getElem? (i := 0) rfl, rfl⟩)) .nil))))) (by rintro _ _ _ ⟨rfl, rfl, rfl⟩; rfl)) rfl (by kernel_rfl) ?_
                      rintro _ _ _ ⟨rfl, rfl, rfl⟩
                      refine ⟨⟨trivial, ⟨⟨1, rfl⟩, ⟨2, rfl⟩, ⟨3, rfl⟩, trivial⟩, trivial⟩, ?_⟩
                      refine VA.va (i := 12) (listed' := LB 24 8191) rfl (op_pick rfl rfl (ltn rfl)) rfl (by kernel_rfl) (by kernel_rfl) (by kernel_rfl) (by kernel_rfl) ⟨trivial, ⟨⟨1, rfl⟩, ⟨2, rfl⟩, ⟨3, rfl⟩, trivial⟩, trivial⟩ (fun _ _ _ h => h) ?_
                      refine VA.va (i := 13) (listed' := LB 24 16383) rfl (op_move rfl (ltn rfl)) rfl (by kernel_rfl) (by kernel_rfl) (by kernel_rfl) (by kernel_rfl) ⟨trivial, ⟨⟨1, rfl⟩, ⟨2, rfl⟩, ⟨3, rfl⟩, trivial⟩, trivial⟩ (fun _ _ _ h => h) ?_
                      refine VA.va (i := 14) (listed' := LB 24 32767) rfl (op_move rfl (ltn rfl)) rfl (by kernel_rfl) (by kernel_rfl) (by kernel_rfl) (by kernel_rfl) ⟨trivial, ⟨⟨1, rfl⟩, ⟨2, rfl⟩, ⟨3, rfl⟩, trivial⟩, trivial⟩ (fun _ _ _ h => h) ?_
                      refine VA.va (i := 15) (listed' := LB 24 65535) rfl (op_cmp rfl rfl (congrArg some hb154364) (ltn rfl)) rfl (by kernel_rfl) (by kernel_rfl) (by kernel_rfl) (by kernel_rfl) ⟨trivial, ⟨⟨1, rfl⟩, ⟨2, rfl⟩, ⟨3, rfl⟩, trivial⟩, trivial⟩ (fun _ _ _ h => h) ?_
                      refine VA.va (i := 16) (listed' := LB 24 131071) rfl (op_move rfl (ltn rfl)) rfl (by kernel_rfl) (by kernel_rfl) (by kernel_rfl) (by kernel_rfl) ⟨trivial, ⟨⟨1, rfl⟩, ⟨2, rfl⟩, ⟨3, rfl⟩, trivial⟩, trivial⟩ (fun _ _ _ h => h) ?_
                      refine VA.un (i := 17) (listed' := LB 24 262143) rfl rfl rfl (ltn rfl) (by kernel_rfl) (by kernel_rfl) (by kernel_rfl) (by kernel_rfl) ⟨trivial, ⟨⟨1, rfl⟩, ⟨2, rfl⟩, ⟨3, rfl⟩, trivial⟩, trivial⟩ (fun _ _ _ h => h) ?_
                      refine VA.un (i := 18) (listed' := LB 24 524287) rfl rfl rfl (ltn rfl) (by kernel_rfl) (by kernel_rfl) (by kernel_rfl) (by kernel_rfl) ⟨trivial, ⟨⟨1, rfl⟩, ⟨2, rfl⟩, ⟨3, rfl⟩, trivial⟩, trivial⟩ (fun _ _ _ h => h) ?_
                      refine VA.un (i := 19) (listed' := LB 24 1048575) rfl rfl rfl (ltn rfl) (by kernel_rfl) (by kernel_rfl) (by kernel_rfl) (by kernel_rfl) ⟨trivial, ⟨⟨1, rfl⟩, ⟨2, rfl⟩, ⟨3, rfl⟩, trivial⟩, trivial⟩ (fun _ _ _ h => h) ?_
                      refine VA.va (i := 20) (listed' := LB 24 2097151) rfl (op_pick rfl rfl (ltn rfl)) rfl (by kernel_rfl) (by kernel_rfl) (by kernel_rfl) (by kernel_rfl) ⟨trivial, ⟨⟨1, rfl⟩, ⟨2, rfl⟩, ⟨3, rfl⟩, trivial⟩, trivial⟩ (fun _ _ _ h => h) ?_
                      refine VA.va (i := 21) (listed' := LB 24 4194303) rfl (op_pick rfl rfl (ltn rfl)) rfl (by kernel_rfl) (by kernel_rfl) (by kernel_rfl) (by kernel_rfl) ⟨trivial, ⟨⟨1, rfl⟩, ⟨2, rfl⟩, ⟨3, rfl⟩, trivial⟩, trivial⟩ (fun _ _ _ h => h) ?_
                      refine VA.va (i := 22) (listed' := LB 24 8388607) rfl (op_pick rfl rfl (ltn rfl)) rfl (by kernel_rfl) (by kernel_rfl) (by kernel_rfl) (by kernel_rfl) ⟨trivial, ⟨⟨1, rfl⟩, ⟨2, rfl⟩, ⟨3, rfl⟩, trivial⟩, trivial⟩ (fun _ _ _ h => h) ?_
                      refine VA.va (i := 23) (listed' := LB 24 16777215) rfl (op_assign rfl (ltn rfl)) rfl (by kernel_rfl) (by kernel_rfl) (by kernel_rfl) (by kernel_rfl) ⟨trivial, ⟨⟨1, rfl⟩, ⟨2, rfl⟩, ⟨3, rfl⟩, trivial⟩, trivial⟩ (fun _ _ _ h => h) ?_
                      refine VA.done (by kernel_rfl) ?_
                      exact VN.meet0  [] [] trivial ⟨rfl, ⟨rfl, trivial⟩, trivial, rfl, by decide, rfl, by decide⟩
                    intro _
                    refine VC.ret ?_
                    cases h
                  · rw [if_neg c154365] at h
                    obtain rfl : b154364 = true := hb154364.symm.trans (bne_iff_ne.2 c154365)
                    replace h := Option.bind_eq_some_iff.1 h
                    obtain ⟨t154368, hA154369, h⟩ := h
                    refine VC.join0 (⟨225, [(6, .bool t154368)], [], [], []⟩) (True) ?_ ?_
                    · refine VC.draw ⟨0, [], [], [(g2468, 35, [.slice none 0 0, .slice none 0 0]), (g2319, 35, [v2316, v2318]), (g4, 23, [.string t391, .string t392, .int .i64 t393, .int .i64 t394, .int .i64 t395]), (g3, 35, [v386, v388])], []⟩ (by kernel_rfl) rfl (by kernel_rfl) (n := 24) (listed := LB 24 0) ?_
                      refine VA.va (i := 0) (listed' := LB 24 1) rfl (op_move rfl (ltn rfl)) rfl (by kernel_rfl) (by kernel_rfl) (by kernel_rfl) (by kernel_rfl) ⟨trivial, ⟨⟨0, rfl⟩, ⟨1, rfl⟩, ⟨2, rfl⟩, ⟨3, rfl⟩, trivial⟩, trivial⟩ (fun _ _ _ h => h) ?_
                      refine VA.va (i := 1) (listed' := LB 24 3) rfl (op_move rfl (ltn rfl)) rfl (by kernel_rfl) (by kernel_rfl) (by kernel_rfl) (by kernel_rfl) ⟨trivial, ⟨⟨0, rfl⟩, ⟨1, rfl⟩, ⟨2, rfl⟩, ⟨3, rfl⟩, trivial⟩, trivial⟩ (fun _ _ _ h => h) ?_
                      refine VA.va (i := 2) (listed' := LB 24 7) rfl (op_cmp rfl rfl (congrArg some hb154350) (ltn rfl)) rfl (by kernel_rfl) (by kernel_rfl) (by kernel_rfl) (by kernel_rfl) ⟨trivial, ⟨⟨0, rfl⟩, ⟨1, rfl⟩, ⟨2, rfl⟩, ⟨3, rfl⟩, trivial⟩, trivial⟩ (fun _ _ _ h => h) ?_
                      refine VA.va (i := 3) (listed' := LB 24 15) rfl (op_move rfl (ltn rfl)) rfl (by kernel_rfl) (by kernel_rfl) (by kernel_rfl) (by kernel_rfl) ⟨trivial, ⟨⟨0, rfl⟩, ⟨1, rfl⟩, ⟨2, rfl⟩, ⟨3, rfl⟩, trivial⟩, trivial⟩ (fun _ _ _ h => h) ?_
                      refine VA.va (i := 4) (listed' := LB 24 31) rfl (op_move rfl (ltn rfl)) rfl (by kernel_rfl) (by kernel_rfl) (by kernel_rfl) (by kernel_rfl) ⟨trivial, ⟨⟨0, rfl⟩, ⟨1, rfl⟩, ⟨2, rfl⟩, ⟨3, rfl⟩, trivial⟩, trivial⟩ (fun _ _ _ h => h) ?_
                      refine VA.va (i := 5) (listed' := LB 24 63) rfl (op_cmp rfl rfl (congrArg some hb154352) (ltn rfl)) rfl (by kernel_rfl) (by kernel_rfl) (by kernel_rfl) (by kernel_rfl) ⟨trivial, ⟨⟨0, rfl⟩, ⟨1, rfl⟩, ⟨2, rfl⟩, ⟨3, rfl⟩, trivial⟩, trivial⟩ (fun _ _ _ h => h) ?_
                      refine VA.va (i := 6) (listed' := LB 24 127) rfl (op_move rfl (ltn rfl)) rfl (by kernel_rfl) (by kernel_rfl) (by kernel_rfl) (by kernel_rfl) ⟨trivial, ⟨⟨0, rfl⟩, ⟨1, rfl⟩, ⟨2, rfl⟩, ⟨3, rfl⟩, trivial⟩, trivial⟩ (fun _ _ _ h => h) ?_
                      refine VA.va (i := 7) (listed' := LB 24 255) rfl (op_load 1 2 rfl rfl TI35 rfl (fun h => absurd h (by decide)) (ltn rfl)) rfl (by kernel_rfl) (by kernel_rfl) (by kernel_rfl) (by kernel_rfl) ⟨trivial, ⟨⟨0, rfl⟩, ⟨1, rfl⟩, ⟨2, rfl⟩, ⟨3, rfl⟩, trivial⟩, trivial⟩ (fun _ _ _ h => h) ?_
                      refine VA.va (i := 8) (listed' := LB 24 511) rfl (op_load 3 2 rfl rfl TI35 rfl (fun h => absurd h (by decide)) (ltn rfl)) rfl (by kernel_rfl) (by kernel_rfl) (by kernel_rfl) (by kernel_rfl) ⟨trivial, ⟨⟨0, rfl⟩, ⟨1, rfl⟩, ⟨2, rfl⟩, ⟨3, rfl⟩, trivial⟩, trivial⟩ (fun _ _ _ h => h) ?_
                      refine VA.va (i := 9) (listed' := LB 24 1023) rfl (op_load 2 5 rfl rfl TI23 rfl (fun h => absurd h (by decide)) (ltn rfl)) rfl (by kernel_rfl) (by kernel_rfl) (by kernel_rfl) (by kernel_rfl) ⟨trivial, ⟨⟨0, rfl⟩, ⟨1, rfl⟩, ⟨2, rfl⟩, ⟨3, rfl⟩, trivial⟩, trivial⟩ (fun _ _ _ h => h) ?_
                      refine VA.oneC (i := 10) (listed' := LB 24 2047) (by kernel_rfl) rfl (o_call0 FO22 (tarryref07_Rule.ok k r382 r383 t391 t392 t393 t394 t395 v386 v388 r154354 r154355 hA154356) rfl rfl (ltn rfl) (All_of (.cons (List.mem_of_getElem? (i := 1) rfl) (.cons (List.mem_of_getElem? (i := 2) rfl) .nil)))) rfl (by kernel_rfl) ?_
                      rintro _ _ _ ⟨v154358, v154360, rfl, rfl, rfl⟩
                      refine ⟨⟨trivial, ⟨⟨0, rfl⟩, ⟨1, rfl⟩, ⟨2, rfl⟩, ⟨3, rfl⟩, trivial⟩, trivial⟩, ?_⟩
                      refine VA.oneC (i := 11) (listed' := LB 24 4095) (by kernel_rfl) rfl (o_call_b0 FO15 (tarryref07_Like.ok k r2311 r2312 r154354 r154355 v2316 v2318 v154358 v154360 false hA154362) rfl rfl (ltn rfl) (All_of (.cons (.inl (List.mem_of_getElem? (i := 1) rfl)) (.cons (.inr (.inl ⟨_, List.mem_of_getElem? (i := 1) rfl, rfl⟩)) (.cons (.inl (List.mem_of_getElem? (i := 0) rfl)) (.cons (.inr (.inl ⟨_, List.mem_of_getElem? (i := 0) rfl, rfl⟩)) .nil))))) (by rintro _ _ _ ⟨rfl, rfl, rfl⟩; rfl)) rfl (by kernel_rfl) ?_
                      rintro _ _ _ ⟨rfl, rfl, rfl⟩
                      refine ⟨⟨trivial, ⟨⟨0, rfl⟩, ⟨1, rfl⟩, ⟨2, rfl⟩, ⟨3, rfl⟩, trivial⟩, trivial⟩, ?_⟩
                      refine VA.va (i := 12) (listed' := LB 24 8191) rfl (op_pick rfl rfl (ltn rfl)) rfl (by kernel_rfl) (by kernel_rfl) (by kernel_rfl) (by kernel_rfl) ⟨trivial, ⟨⟨0, rfl⟩, ⟨1, rfl⟩, ⟨2, rfl⟩, ⟨3, rfl⟩, trivial⟩, trivial⟩ (fun _ _ _ h => h) ?_
                      refine VA.va (i := 13) (listed' := LB 24 16383) rfl (op_move rfl (ltn rfl)) rfl (by kernel_rfl) (by kernel_rfl) (by kernel_rfl) (by kernel_rfl) ⟨trivial, ⟨⟨0, rfl⟩, ⟨1, rfl⟩, ⟨2, rfl⟩, ⟨3, rfl⟩, trivial⟩, trivial⟩ (fun _ _ _ h => h) ?_
                      refine VA.va (i := 14) (listed' := LB 24 32767) rfl (op_move rfl (ltn rfl)) rfl (by kernel_rfl) (by kernel_rfl) (by kernel_rfl) (by kernel_rfl) ⟨trivial, ⟨⟨0, rfl⟩, ⟨1, rfl⟩, ⟨2, rfl⟩, ⟨3, rfl⟩, trivial⟩, trivial⟩ (fun _ _ _ h => h) ?_
                      refine VA.va (i := 15) (listed' := LB 24 65535) rfl (op_cmp rfl rfl (congrArg some hb154364) (ltn rfl)) rfl (by kernel_rfl) (by kernel_rfl) (by kernel_rfl) (by kernel_rfl) ⟨trivial, ⟨⟨0, rfl⟩, ⟨1, rfl⟩, ⟨2, rfl⟩, ⟨3, rfl⟩, trivial⟩, trivial⟩ (fun _ _ _ h => h) ?_
                      refine VA.va (i := 16) (listed' := LB 24 131071) rfl (op_move rfl (ltn rfl)) rfl (by kernel_rfl) (by kernel_rfl) (by kernel_rfl) (by kernel_rfl) ⟨trivial, ⟨⟨0, rfl⟩, ⟨1, rfl⟩, ⟨2, rfl⟩, ⟨3, rfl⟩, trivial⟩, trivial⟩ (fun _ _ _ h => h) ?_
                      refine VA.va (i := 17) (listed' := LB 24 262143) rfl (op_load 1 2 rfl rfl TI35 rfl (fun h => absurd h (by decide)) (ltn rfl)) rfl (by kernel_rfl) (by kernel_rfl) (by kernel_rfl) (by kernel_rfl) ⟨trivial, ⟨⟨0, rfl⟩, ⟨1, rfl⟩, ⟨2, rfl⟩, ⟨3, rfl⟩, trivial⟩, trivial⟩ (fun _ _ _ h => h) ?_
                      refine VA.va (i := 18) (listed' := LB 24 524287) rfl (op_load 0 2 rfl rfl TI35 rfl (fun h => absurd h (by decide)) (ltn rfl)) rfl (by kernel_rfl) (by kernel_rfl) (by kernel_rfl) (by kernel_rfl) ⟨trivial, ⟨⟨0, rfl⟩, ⟨1, rfl⟩, ⟨2, rfl⟩, ⟨3, rfl⟩, trivial⟩, trivial⟩ (fun _ _ _ h => h) ?_
                      refine VA.nilFact' 1 ?_
                      refine VA.nilFact' 5 ?_
                      refine VA.oneC (i := 19) (listed' := LB 24 1048575) (by kernel_rfl) rfl (o_call_b0 FO15 (tarryref07_Like.ok k r2311 r2312 [] [] v2316 v2318 (.slice none 0 0) (.slice none 0 0) t154368 hA154369) rfl rfl (ltn rfl) (All_of (.cons (.inl (List.mem_of_getElem? (i := 3) rfl)) (.cons (.inr (.inl ⟨_, List.mem_of_getElem? (i := 1) rfl, rfl⟩)) (.cons (.inl (List.mem_of_getElem? (i := 1) rfl)) (.cons (.inl (List.mem_of_getElem? (i := 0) rfl)) .nil))))) (by rintro _ _ _ ⟨rfl, rfl, rfl⟩; rfl)) rfl (by kernel_rfl) ?_
                      rintro _ _ _ ⟨rfl, rfl, rfl⟩
                      refine ⟨⟨trivial, ⟨⟨0, rfl⟩, ⟨1, rfl⟩, ⟨2, rfl⟩, ⟨3, rfl⟩, trivial⟩, trivial⟩, ?_⟩
                      refine VA.va (i := 20) (listed' := LB 24 2097151) rfl (op_pick rfl rfl (ltn rfl)) rfl (by kernel_rfl) (by kernel_rfl) (by kernel_rfl) (by kernel_rfl) ⟨trivial, ⟨⟨0, rfl⟩, ⟨1, rfl⟩, ⟨2, rfl⟩, ⟨3, rfl⟩, trivial⟩, trivial⟩ (fun _ _ _ h => h) ?_
                      refine VA.va (i := 21) (listed' := LB 24 4194303) rfl (op_pick rfl rfl (ltn rfl)) rfl (by kernel_rfl) (by kernel_rfl) (by kernel_rfl) (by kernel_rfl) ⟨trivial, ⟨⟨0, rfl⟩, ⟨1, rfl⟩, ⟨2, rfl⟩, ⟨3, rfl⟩, trivial⟩, trivial⟩ (fun _ _ _ h => h) ?_
                      refine VA.va (i := 22) (listed' := LB 24 8388607) rfl (op_pick rfl rfl (ltn rfl)) rfl (by kernel_rfl) (by kernel_rfl) (by kernel_rfl) (by kernel_rfl) ⟨trivial, ⟨⟨0, rfl⟩, ⟨1, rfl⟩, ⟨2, rfl⟩, ⟨3, rfl⟩, trivial⟩, trivial⟩ (fun _ _ _ h => h) ?_
                      refine VA.va (i := 23) (listed' := LB 24 16777215) rfl (op_assign rfl (ltn rfl)) rfl (by kernel_rfl) (by kernel_rfl) (by kernel_rfl) (by kernel_rfl) ⟨trivial, ⟨⟨0, rfl⟩, ⟨1, rfl⟩, ⟨2, rfl⟩, ⟨3, rfl⟩, trivial⟩, trivial⟩ (fun _ _ _ h => h) ?_
                      refine VA.done (by kernel_rfl) ?_
                      exact VN.meet0  [] [] trivial ⟨rfl, ⟨rfl, trivial⟩, trivial, rfl, by decide, rfl, by decide⟩
                    intro _
                    refine VC.ret ?_
                    obtain rfl := Option.some.inj h
                    exact VR.fn (rs := [.tmp 6]) [] [] [] rfl (.tmp rfl .nil) ⟨rfl, rfl, rfl⟩ trivial rfl (by decide)
              · rw [if_neg c154353] at h
                obtain rfl : b154352 = false := hb154352.symm.trans (beq_eq_false_iff_ne.2 c154353)
                refine VC.letter ((i154349 != 0)) fun b154370 hb154370 => ?_
                by_cases c154371 : i154349 = 0
                · rw [if_pos c154371] at h
                  obtain rfl : b154370 = false := hb154370.symm.trans (bne_eq_false_iff_eq.2 c154371)
                  refine VC.join0 (⟨225, [(6, .bool false)], [], [], []⟩) (True) ?_ ?_
                  · refine VC.draw ⟨0, [], [], [], []⟩ (by kernel_rfl) rfl (by kernel_rfl) (n := 24) (listed := LB 24 0) ?_
                    refine VA.va (i := 0) (listed' := LB 24 1) rfl (op_move rfl (ltn rfl)) rfl (by kernel_rfl) (by kernel_rfl) (by kernel_rfl) (by kernel_rfl) ⟨trivial, trivial, trivial⟩ (fun _ _ _ h => h) ?_
                    refine VA.va (i := 1) (listed' := LB 24 3) rfl (op_move rfl (ltn rfl)) rfl (by kernel_rfl) (by kernel_rfl) (by kernel_rfl) (by kernel_rfl) ⟨trivial, trivial, trivial⟩ (fun _ _ _ h => h) ?_
                    refine VA.va (i := 2) (listed' := LB 24 7) rfl (op_cmp rfl rfl (congrArg some hb154350) (ltn rfl)) rfl (by kernel_rfl) (by kernel_rfl) (by kernel_rfl) (by kernel_rfl) ⟨trivial, trivial, trivial⟩ (fun _ _ _ h => h) ?_
                    refine VA.va (i := 3) (listed' := LB 24 15) rfl (op_move rfl (ltn rfl)) rfl (by kernel_rfl) (by kernel_rfl) (by kernel_rfl) (by kernel_rfl) ⟨trivial, trivial, trivial⟩ (fun _ _ _ h => h) ?_
                    refine VA.va (i := 4) (listed' := LB 24 31) rfl (op_move rfl (ltn rfl)) rfl (by kernel_rfl) (by kernel_rfl) (by kernel_rfl) (by kernel_rfl) ⟨trivial, trivial, trivial⟩ (fun _ _ _ h => h) ?_
                    refine VA.va (i := 5) (listed' := LB 24 63) rfl (op_cmp rfl rfl (congrArg some hb154352) (ltn rfl)) rfl (by kernel_rfl) (by kernel_rfl) (by kernel_rfl) (by kernel_rfl) ⟨trivial, trivial, trivial⟩ (fun _ _ _ h => h) ?_
                    refine VA.va (i := 6) (listed' := LB 24 127) rfl (op_move rfl (ltn rfl)) rfl (by kernel_rfl) (by kernel_rfl) (by kernel_rfl) (by kernel_rfl) ⟨trivial, trivial, trivial⟩ (fun _ _ _ h => h) ?_
                    refine VA.un (i := 7) (listed' := LB 24 255) rfl rfl rfl (ltn rfl) (by kernel_rfl) (by kernel_rfl) (by kernel_rfl) (by kernel_rfl) ⟨trivial, trivial, trivial⟩ (fun _ _ _ h => h) ?_
                    refine VA.un (i := 8) (listed' := LB 24 511) rfl rfl rfl (ltn rfl) (by kernel_rfl) (by kernel_rfl) (by kernel_rfl) (by kernel_rfl) ⟨trivial, trivial, trivial⟩ (fun _ _ _ h => h) ?_
                    refine VA.un (i := 9) (listed' := LB 24 1023) rfl rfl rfl (ltn rfl) (by kernel_rfl) (by kernel_rfl) (by kernel_rfl) (by kernel_rfl) ⟨trivial, trivial, trivial⟩ (fun _ _ _ h => h) ?_
                    refine VA.un (i := 10) (listed' := LB 24 2047) rfl rfl rfl (ltn rfl) (by kernel_rfl) (by kernel_rfl) (by kernel_rfl) (by kernel_rfl) ⟨trivial, trivial, trivial⟩ (fun _ _ _ h => h) ?_
                    refine VA.un (i := 11) (listed' := LB 24 4095) rfl rfl rfl (ltn rfl) (by kernel_rfl) (by kernel_rfl) (by kernel_rfl) (by kernel_rfl) ⟨trivial, trivial, trivial⟩ (fun _ _ _ h => h) ?_
                    refine VA.va (i := 12) (listed' := LB 24 8191) rfl (op_pick rfl rfl (ltn rfl)) rfl (by kernel_rfl) (by kernel_rfl) (by kernel_rfl) (by kernel_rfl) ⟨trivial, trivial, trivial⟩ (fun _ _ _ h => h) ?_
                    refine VA.va (i := 13) (listed' := LB 24 16383) rfl (op_move rfl (ltn rfl)) rfl (by kernel_rfl) (by kernel_rfl) (by kernel_rfl) (by kernel_rfl) ⟨trivial, trivial, trivial⟩ (fun _ _ _ h => h) ?_
                    refine VA.va (i := 14) (listed' := LB 24 32767) rfl (op_move rfl (ltn rfl)) rfl (by kernel_rfl) (by kernel_rfl) (by kernel_rfl) (by kernel_rfl) ⟨trivial, trivial, trivial⟩ (fun _ _ _ h => h) ?_
                    refine VA.va (i := 15) (listed' := LB 24 65535) rfl (op_cmp rfl rfl (congrArg some hb154370) (ltn rfl)) rfl (by kernel_rfl) (by kernel_rfl) (by kernel_rfl) (by kernel_rfl) ⟨trivial, trivial, trivial⟩ (fun _ _ _ h => h) ?_
                    refine VA.va (i := 16) (listed' := LB 24 131071) rfl (op_move rfl (ltn rfl)) rfl (by kernel_rfl) (by kernel_rfl) (by kernel_rfl) (by kernel_rfl) ⟨trivial, trivial, trivial⟩ (fun _ _ _ h => h) ?_
                    refine VA.un (i := 17) (listed' := LB 24 262143) rfl rfl rfl (ltn rfl) (by kernel_rfl) (by kernel_rfl) (by kernel_rfl) (by kernel_rfl) ⟨trivial, trivial, trivial⟩ (fun _ _ _ h => h) ?_
                    refine VA.un (i := 18) (listed' := LB 24 524287) rfl rfl rfl (ltn rfl) (by kernel_rfl) (by kernel_rfl) (by kernel_rfl) (by kernel_rfl) ⟨trivial, trivial, trivial⟩ (fun _ _ _ h => h) ?_
                    refine VA.un (i := 19) (listed' := LB 24 1048575) rfl rfl rfl (ltn rfl) (by kernel_rfl) (by kernel_rfl) (by kernel_rfl) (by kernel_rfl) ⟨trivial, trivial, trivial⟩ (fun _ _ _ h => h) ?_
                    refine VA.va (i := 20) (listed' := LB 24 2097151) rfl (op_pick rfl rfl (ltn rfl)) rfl (by kernel_rfl) (by kernel_rfl) (by kernel_rfl) (by kernel_rfl) ⟨trivial, trivial, trivial⟩ (fun _ _ _ h => h) ?_
                    refine VA.va (i := 21) (listed' := LB 24 4194303) rfl (op_pick rfl rfl (ltn rfl)) rfl (by kernel_rfl) (by kernel_rfl) (by kernel_rfl) (by kernel_rfl) ⟨trivial, trivial, trivial⟩ (fun _ _ _ h => h) ?_
                    refine VA.va (i := 22) (listed' := LB 24 8388607) rfl (op_pick rfl rfl (ltn rfl)) rfl (by kernel_rfl) (by kernel_rfl) (by kernel_rfl) (by kernel_rfl) ⟨trivial, trivial, trivial⟩ (fun _ _ _ h => h) ?_
                    refine VA.va (i := 23) (listed' := LB 24 16777215) rfl (op_assign rfl (ltn rfl)) rfl (by kernel_rfl) (by kernel_rfl) (by kernel_rfl) (by kernel_rfl) ⟨trivial, trivial, trivial⟩ (fun _ _ _ h => h) ?_
                    refine VA.done (by kernel_rfl) ?_
                    exact VN.meet0  [] [] trivial ⟨rfl, ⟨rfl, trivial⟩, trivial, rfl, by decide, rfl, by decide⟩
                  intro _
                  refine VC.ret ?_
                  cases h
                · rw [if_neg c154371] at h
                  obtain rfl : b154370 = true := hb154370.symm.trans (bne_iff_ne.2 c154371)
                  replace h := Option.bind_eq_some_iff.1 h
                  obtain ⟨t154374, hA154375, h⟩ := h
                  refine VC.join0 (⟨225, [(6, .bool t154374)], [], [], []⟩) (True) ?_ ?_
                  · refine VC.draw ⟨0, [], [], [(g2468, 35, [.slice none 0 0, .slice none 0 0]), (g2319, 35, [v2316, v2318])], []⟩ (by kernel_rfl) rfl (by kernel_rfl) (n := 24) (listed := LB 24 0) ?_
                    refine VA.va (i := 0) (listed' := LB 24 1) rfl (op_move rfl (ltn rfl)) rfl (by kernel_rfl) (by kernel_rfl) (by kernel_rfl) (by kernel_rfl) ⟨trivial, ⟨⟨0, rfl⟩, ⟨1, rfl⟩, trivial⟩, trivial⟩ (fun _ _ _ h => h) ?_
                    refine VA.va (i := 1) (listed' := LB 24 3) rfl (op_move rfl (ltn rfl)) rfl (by kernel_rfl) (by kernel_rfl) (by kernel_rfl) (by kernel_rfl) ⟨trivial, ⟨⟨0, rfl⟩, ⟨1, rfl⟩, trivial⟩, trivial⟩ (fun _ _ _ h => h) ?_
                    refine VA.va (i := 2) (listed' := LB 24 7) rfl (op_cmp rfl rfl (congrArg some hb154350) (ltn rfl)) rfl (by kernel_rfl) (by kernel_rfl) (by kernel_rfl) (by kernel_rfl) ⟨trivial, ⟨⟨0, rfl⟩, ⟨1, rfl⟩, trivial⟩, trivial⟩ (fun _ _ _ h => h) ?_
                    refine VA.va (i := 3) (listed' := LB 24 15) rfl (op_move rfl (ltn rfl)) rfl (by kernel_rfl) (by kernel_rfl) (by kernel_rfl) (by kernel_rfl) ⟨trivial, ⟨⟨0, rfl⟩, ⟨1, rfl⟩, trivial⟩, trivial⟩ (fun _ _ _ h => h) ?_
                    refine VA.va (i := 4) (listed' := LB 24 31) rfl (op_move rfl (ltn rfl)) rfl (by kernel_rfl) (by kernel_rfl) (by kernel_rfl) (by kernel_rfl) ⟨trivial, ⟨⟨0, rfl⟩, ⟨1, rfl⟩, trivial⟩, trivial⟩ (fun _ _ _ h => h) ?_
                    refine VA.va (i := 5) (listed' := LB 24 63) rfl (op_cmp rfl rfl (congrArg some hb154352) (ltn rfl)) rfl (by kernel_rfl) (by kernel_rfl) (by kernel_rfl) (by kernel_rfl) ⟨trivial, ⟨⟨0, rfl⟩, ⟨1, rfl⟩, trivial⟩, trivial⟩ (fun _ _ _ h => h) ?_
                    refine VA.va (i := 6) (listed' := LB 24 127) rfl (op_move rfl (ltn rfl)) rfl (by kernel_rfl) (by kernel_rfl) (by kernel_rfl) (by kernel_rfl) ⟨trivial, ⟨⟨0, rfl⟩, ⟨1, rfl⟩, trivial⟩, trivial⟩ (fun _ _ _ h => h) ?_
                    refine VA.un (i := 7) (listed' := LB 24 255) rfl rfl rfl (ltn rfl) (by kernel_rfl) (by kernel_rfl) (by kernel_rfl) (by kernel_rfl) ⟨trivial, ⟨⟨0, rfl⟩, ⟨1, rfl⟩, trivial⟩, trivial⟩ (fun _ _ _ h => h) ?_
                    refine VA.un (i := 8) (listed' := LB 24 511) rfl rfl rfl (ltn rfl) (by kernel_rfl) (by kernel_rfl) (by kernel_rfl) (by kernel_rfl) ⟨trivial, ⟨⟨0, rfl⟩, ⟨1, rfl⟩, trivial⟩, trivial⟩ (fun _ _ _ h => h) ?_
                    refine VA.un (i := 9) (listed' := LB 24 1023) rfl rfl rfl (ltn rfl) (by kernel_rfl) (by kernel_rfl) (by kernel_rfl) (by kernel_rfl) ⟨trivial, ⟨⟨0, rfl⟩, ⟨1, rfl⟩, trivial⟩, trivial⟩ (fun _ _ _ h => h) ?_
                    refine VA.un (i := 10) (listed' := LB 24 2047) rfl rfl rfl (ltn rfl) (by kernel_rfl) (by kernel_rfl) (by kernel_rfl) (by kernel_rfl) ⟨trivial, ⟨⟨0, rfl⟩, ⟨1, rfl⟩, trivial⟩, trivial⟩ (fun _ _ _ h => h) ?_
                    refine VA.un (i := 11) (listed' := LB 24 4095) rfl rfl rfl (ltn rfl) (by kernel_rfl) (by kernel_rfl) (by kernel_rfl) (by kernel_rfl) ⟨trivial, ⟨⟨0, rfl⟩, ⟨1, rfl⟩, trivial⟩, trivial⟩ (fun _ _ _ h => h) ?_
                    refine VA.va (i := 12) (listed' := LB 24 8191) rfl (op_pick rfl rfl (ltn rfl)) rfl (by kernel_rfl) (by kernel_rfl) (by kernel_rfl) (by kernel_rfl) ⟨trivial, ⟨⟨0, rfl⟩, ⟨1, rfl⟩, trivial⟩, trivial⟩ (fun _ _ _ h => h) ?_
                    refine VA.va (i := 13) (listed' := LB 24 16383) rfl (op_move rfl (ltn rfl)) rfl (by kernel_rfl) (by kernel_rfl) (by kernel_rfl) (by kernel_rfl) ⟨trivial, ⟨⟨0, rfl⟩, ⟨1, rfl⟩, trivial⟩, trivial⟩ (fun _ _ _ h => h) ?_
                    refine VA.va (i := 14) (listed' := LB 24 32767) rfl (op_move rfl (ltn rfl)) rfl (by kernel_rfl) (by kernel_rfl) (by kernel_rfl) (by kernel_rfl) ⟨trivial, ⟨⟨0, rfl⟩, ⟨1, rfl⟩, trivial⟩, trivial⟩ (fun _ _ _ h => h) ?_
                    refine VA.va (i := 15) (listed' := LB 24 65535) rfl (op_cmp rfl rfl (congrArg some hb154370) (ltn rfl)) rfl (by kernel_rfl) (by kernel_rfl) (by kernel_rfl) (by kernel_rfl) ⟨trivial, ⟨⟨0, rfl⟩, ⟨1, rfl⟩, trivial⟩, trivial⟩ (fun _ _ _ h => h) ?_
                    refine VA.va (i := 16) (listed' := LB 24 131071) rfl (op_move rfl (ltn rfl)) rfl (by kernel_rfl) (by kernel_rfl) (by kernel_rfl) (by kernel_rfl) ⟨trivial, ⟨⟨0, rfl⟩, ⟨1, rfl⟩, trivial⟩, trivial⟩ (fun _ _ _ h => h) ?_
                    refine VA.va (i := 17) (listed' := LB 24 262143) rfl (op_load 1 2 rfl rfl TI35 rfl (fun h => absurd h (by decide)) (ltn rfl)) rfl (by kernel_rfl) (by kernel_rfl) (by kernel_rfl) (by kernel_rfl) ⟨trivial, ⟨⟨0, rfl⟩, ⟨1, rfl⟩, trivial⟩, trivial⟩ (fun _ _ _ h => h) ?_
                    refine VA.va (i := 18) (listed' := LB 24 524287) rfl (op_load 0 2 rfl rfl TI35 rfl (fun h => absurd h (by decide)) (ltn rfl)) rfl (by kernel_rfl) (by kernel_rfl) (by kernel_rfl) (by kernel_rfl) ⟨trivial, ⟨⟨0, rfl⟩, ⟨1, rfl⟩, trivial⟩, trivial⟩ (fun _ _ _ h => h) ?_
                    refine VA.nilFact' 1 ?_
                    refine VA.nilFact' 5 ?_
                    refine VA.oneC (i := 19) (listed' := LB 24 1048575) (by kernel_rfl) rfl (o_call_b0 FO15 (tarryref07_Like.ok k r2311 r2312 [] [] v2316 v2318 (.slice none 0 0) (.slice none 0 0) t154374 hA154375) rfl rfl (ltn rfl) (All_of (.cons (.inl (List.mem_of_getElem? (i := 2) rfl)) (.cons (.inr (.inl ⟨_, List.mem_of_getElem? (i := 0) rfl, rfl⟩)) (.cons (.inl (List.mem_of_getElem? (i := 1) rfl)) (.cons (.inl (List.mem_of_getElem? (i := 0) rfl)) .nil))))) (by rintro _ _ _ ⟨rfl, rfl, rfl⟩; rfl)) rfl (by kernel_rfl) ?_
                    rintro _ _ _ ⟨rfl, rfl, rfl⟩
                    refine ⟨⟨trivial, ⟨⟨0, rfl⟩, ⟨1, rfl⟩, trivial⟩, trivial⟩, ?_⟩
                    refine VA.va (i := 20) (listed' := LB 24 2097151) rfl (op_pick rfl rfl (ltn rfl)) rfl (by kernel_rfl) (by kernel_rfl) (by kernel_rfl) (by kernel_rfl) ⟨trivial, ⟨⟨0, rfl⟩, ⟨1, rfl⟩, trivial⟩, trivial⟩ (fun _ _ _ h => h) ?_
                    refine VA.va (i := 21) (listed' := LB 24 4194303) rfl (op_pick rfl rfl (ltn rfl)) rfl (by kernel_rfl) (by kernel_rfl) (by kernel_rfl) (by kernel_rfl) ⟨trivial, ⟨⟨0, rfl⟩, ⟨1, rfl⟩, trivial⟩, trivial⟩ (fun _ _ _ h => h) ?_
                    refine VA.va (i := 22) (listed' := LB 24 8388607) rfl (op_pick rfl rfl (ltn rfl)) rfl (by kernel_rfl) (by kernel_rfl) (by kernel_rfl) (by kernel_rfl) ⟨trivial, ⟨⟨0, rfl⟩, ⟨1, rfl⟩, trivial⟩, trivial⟩ (fun _ _ _ h => h) ?_
                    refine VA.va (i := 23) (listed' := LB 24 16777215) rfl (op_assign rfl (ltn rfl)) rfl (by kernel_rfl) (by kernel_rfl) (by kernel_rfl) (by kernel_rfl) ⟨trivial, ⟨⟨0, rfl⟩, ⟨1, rfl⟩, trivial⟩, trivial⟩ (fun _ _ _ h => h) ?_
                    refine VA.done (by kernel_rfl) ?_
                    exact VN.meet0  [] [] trivial ⟨rfl, ⟨rfl, trivial⟩, trivial, rfl, by decide, rfl, by decide⟩
                  intro _
                  refine VC.ret ?_
                  obtain rfl := Option.some.inj h
                  exact VR.fn (rs := [.tmp 6]) [] [] [] rfl (.tmp rfl .nil) ⟨rfl, rfl, rfl⟩ trivial rfl (by decide)
            · rw [if_neg c154351] at h
              obtain rfl : b154350 = false := hb154350.symm.trans (beq_eq_false_iff_ne.2 c154351)
              refine VC.join0 (⟨225, [(6, .bool false)], [], [], []⟩) (True) ?_ ?_
              · refine VC.draw ⟨0, [], [], [], []⟩ (by kernel_rfl) rfl (by kernel_rfl) (n := 24) (listed := LB 24 0) ?_
                refine VA.va (i := 0) (listed' := LB 24 1) rfl (op_move rfl (ltn rfl)) rfl (by kernel_rfl) (by kernel_rfl) (by kernel_rfl) (by kernel_rfl) ⟨trivial, trivial, trivial⟩ (fun _ _ _ h => h) ?_
                refine VA.va (i := 1) (listed' := LB 24 3) rfl (op_move rfl (ltn rfl)) rfl (by kernel_rfl) (by kernel_rfl) (by kernel_rfl) (by kernel_rfl) ⟨trivial, trivial, trivial⟩ (fun _ _ _ h => h) ?_
                refine VA.va (i := 2) (listed' := LB 24 7) rfl (op_cmp rfl rfl (congrArg some hb154350) (ltn rfl)) rfl (by kernel_rfl) (by kernel_rfl) (by kernel_rfl) (by kernel_rfl) ⟨trivial, trivial, trivial⟩ (fun _ _ _ h => h) ?_
                refine VA.va (i := 3) (listed' := LB 24 15) rfl (op_move rfl (ltn rfl)) rfl (by kernel_rfl) (by kernel_rfl) (by kernel_rfl) (by kernel_rfl) ⟨trivial, trivial, trivial⟩ (fun _ _ _ h => h) ?_
                refine VA.un (i := 4) (listed' := LB 24 31) rfl rfl rfl (ltn rfl) (by kernel_rfl) (by kernel_rfl) (by kernel_rfl) (by kernel_rfl) ⟨trivial, trivial, trivial⟩ (fun _ _ _ h => h) ?_
                refine VA.un (i := 5) (listed' := LB 24 63) rfl rfl rfl (ltn rfl) (by kernel_rfl) (by kernel_rfl) (by kernel_rfl) (by kernel_rfl) ⟨trivial, trivial, trivial⟩ (fun _ _ _ h => h) ?_
                refine VA.un (i := 6) (listed' := LB 24 127) rfl rfl rfl (ltn rfl) (by kernel_rfl) (by kernel_rfl) (by kernel_rfl) (by kernel_rfl) ⟨trivial, trivial, trivial⟩ (fun _ _ _ h => h) ?_
                refine VA.un (i := 7) (listed' := LB 24 255) rfl rfl rfl (ltn rfl) (by kernel_rfl) (by kernel_rfl) (by kernel_rfl) (by kernel_rfl) ⟨trivial, trivial, trivial⟩ (fun _ _ _ h => h) ?_
                refine VA.un (i := 8) (listed' := LB 24 511) rfl rfl rfl (ltn rfl) (by kernel_rfl) (by kernel_rfl) (by kernel_rfl) (by kernel_rfl) ⟨trivial, trivial, trivial⟩ (fun _ _ _ h => h) ?_
                refine VA.un (i := 9) (listed' := LB 24 1023) rfl rfl rfl (ltn rfl) (by kernel_rfl) (by kernel_rfl) (by kernel_rfl) (by kernel_rfl) ⟨trivial, trivial, trivial⟩ (fun _ _ _ h => h) ?_
                refine VA.un (i := 10) (listed' := LB 24 2047) rfl rfl rfl (ltn rfl) (by kernel_rfl) (by kernel_rfl) (by kernel_rfl) (by kernel_rfl) ⟨trivial, trivial, trivial⟩ (fun _ _ _ h => h) ?_
                refine VA.un (i := 11) (listed' := LB 24 4095) rfl rfl rfl (ltn rfl) (by kernel_rfl) (by kernel_rfl) (by kernel_rfl) (by kernel_rfl) ⟨trivial, trivial, trivial⟩ (fun _ _ _ h => h) ?_
                refine VA.un (i := 12) (listed' := LB 24 8191) rfl rfl rfl (ltn rfl) (by kernel_rfl) (by kernel_rfl) (by kernel_rfl) (by kernel_rfl) ⟨trivial, trivial, trivial⟩ (fun _ _ _ h => h) ?_
                refine VA.un (i := 13) (listed' := LB 24 16383) rfl rfl rfl (ltn rfl) (by kernel_rfl) (by kernel_rfl) (by kernel_rfl) (by kernel_rfl) ⟨trivial, trivial, trivial⟩ (fun _ _ _ h => h) ?_
                refine VA.un (i := 14) (listed' := LB 24 32767) rfl rfl rfl (ltn rfl) (by kernel_rfl) (by kernel_rfl) (by kernel_rfl) (by kernel_rfl) ⟨trivial, trivial, trivial⟩ (fun _ _ _ h => h) ?_
                refine VA.un (i := 15) (listed' := LB 24 65535) rfl rfl rfl (ltn rfl) (by kernel_rfl) (by kernel_rfl) (by kernel_rfl) (by kernel_rfl) ⟨trivial, trivial, trivial⟩ (fun _ _ _ h => h) ?_
                refine VA.un (i := 16) (listed' := LB 24 131071) rfl rfl rfl (ltn rfl) (by kernel_rfl) (by kernel_rfl) (by kernel_rfl) (by kernel_rfl) ⟨trivial, trivial, trivial⟩ (fun _ _ _ h => h) ?_
                refine VA.un (i := 17) (listed' := LB 24 262143) rfl rfl rfl (ltn rfl) (by kernel_rfl) (by kernel_rfl) (by kernel_rfl) (by kernel_rfl) ⟨trivial, trivial, trivial⟩ (fun _ _ _ h => h) ?_
                refine VA.un (i := 18) (listed' := LB 24 524287) rfl rfl rfl (ltn rfl) (by kernel_rfl) (by kernel_rfl) (by kernel_rfl) (by kernel_rfl) ⟨trivial, trivial, trivial⟩ (fun _ _ _ h => h) ?_
                refine VA.un (i := 19) (listed' := LB 24 1048575) rfl rfl rfl (ltn rfl) (by kernel_rfl) (by kernel_rfl) (by kernel_rfl) (by kernel_rfl) ⟨trivial, trivial, trivial⟩ (fun _ _ _ h => h) ?_
                refine VA.un (i := 20) (listed' := LB 24 2097151) rfl rfl rfl (ltn rfl) (by kernel_rfl) (by kernel_rfl) (by kernel_rfl) (by kernel_rfl) ⟨trivial, trivial, trivial⟩ (fun _ _ _ h => h) ?_
                refine VA.un (i := 21) (listed' := LB 24 4194303) rfl rfl rfl (ltn rfl) (by kernel_rfl) (by kernel_rfl) (by kernel_rfl) (by kernel_rfl) ⟨trivial, trivial, trivial⟩ (fun _ _ _ h => h) ?_
                refine VA.va (i := 22) (listed' := LB 24 8388607) rfl (op_pick rfl rfl (ltn rfl)) rfl (by kernel_rfl) (by kernel_rfl) (by kernel_rfl) (by kernel_rfl) ⟨trivial, trivial, trivial⟩ (fun _ _ _ h => h) ?_
                refine VA.va (i := 23) (listed' := LB 24 16777215) rfl (op_assign rfl (ltn rfl)) rfl (by kernel_rfl) (by kernel_rfl) (by kernel_rfl) (by kernel_rfl) ⟨trivial, trivial, trivial⟩ (fun _ _ _ h => h) ?_
                refine VA.done (by kernel_rfl) ?_
                exact VN.meet0  [] [] trivial ⟨rfl, ⟨rfl, trivial⟩, trivial, rfl, by decide, rfl, by decide⟩
              intro _
              refine VC.ret ?_
              cases h
        · rw [if_neg c9770] at h
          obtain rfl := Bool.eq_false_iff.2 c9770
          refine VC.join0 (⟨225, [(1, .string (a1.extract 0 ((mn (a1.size : Int) 18).toNat))), (3, .pointer (some ⟨g3, 0, none⟩)), (5, .pointer (some ⟨g4, 0, none⟩)), (6, .bool false), (7, .pointer (some ⟨g1923, 0, none⟩)), (8, .int .i64 t1917), (9, .pointer (some ⟨g2319, 0, none⟩)), (10, .int .i64 t2313), (11, v2467), (12, .int .i64 t2464), (13, .pointer (some ⟨g2468, 0, none⟩)), (54, .bool true)], [.row v2316 1 (r2311.map enc_str), .row v1922 5 (r1916.map enc22), .row v388 5 (r383.map enc22), .row v386 1 (r382.map enc_str)], [(g2468, 35, [.slice none 0 0, .slice none 0 0]), (g2319, 35, [v2316, v2318]), (g1923, 35, [v1920, v1922]), (g4, 23, [.string t391, .string t392, .int .i64 t393, .int .i64 t394, .int .i64 t395]), (g3, 35, [v386, v388])], [(v2467, 23, 5, r2463.map enc22), (v2318, 23, 5, r2312.map enc22), (v1920, 9, 1, r1915.map enc_str)]⟩) (True) ?_ ?_
          · refine VC.draw ⟨0, [], [], [(g3, 35, [v386, v388])], []⟩ (by kernel_rfl) rfl (by kernel_rfl) (n := 9) (listed := LB 9 0) ?_
            refine VA.va (i := 0) (listed' := LB 9 1) rfl (op_load 0 2 rfl rfl TI35 rfl (fun h => absurd h (by decide)) (ltn rfl)) rfl (by kernel_rfl) (by kernel_rfl) (by kernel_rfl) (by kernel_rfl) ⟨trivial, ⟨⟨4, rfl⟩, trivial⟩, trivial⟩ (fun _ _ _ h => h) ?_
            refine VA.va (i := 2) (listed' := LB 9 5) rfl (op_load 0 2 rfl rfl TI35 rfl (fun h => absurd h (by decide)) (ltn rfl)) rfl (by kernel_rfl) (by kernel_rfl) (by kernel_rfl) (by kernel_rfl) ⟨trivial, ⟨⟨4, rfl⟩, trivial⟩, trivial⟩ (fun _ _ _ h => h) ?_
            refine VA.oneC (i := 1) (listed' := LB 9 7) (by kernel_rfl) rfl (o_call0 FO14 (goods_Right.ok k r382 r383 v386 v388 t9762 hA9763) rfl rfl (ltn rfl) (All_of (.cons (List.mem_of_getElem? (i := 3) rfl) (.cons (List.mem_of_getElem? (i := 2) rfl) .nil)))) rfl (by kernel_rfl) ?_
            rintro _ _ _ ⟨rfl, rfl, rfl⟩
            refine ⟨⟨trivial, ⟨⟨4, rfl⟩, trivial⟩, trivial⟩, ?_⟩
            refine VA.oneC (i := 3) (listed' := LB 9 15) (by kernel_rfl) rfl (o_call0 FO17 (tarryref07_Right.ok k r382 r383 v386 v388 t9764 hA9765) rfl rfl (ltn rfl) (All_of (.cons (List.mem_of_getElem? (i := 3) rfl) (.cons (List.mem_of_getElem? (i := 2) rfl) .nil)))) rfl (by kernel_rfl) ?_
            rintro _ _ _ ⟨rfl, rfl, rfl⟩
            refine ⟨⟨trivial, ⟨⟨4, rfl⟩, trivial⟩, trivial⟩, ?_⟩
            refine VA.va (i := 4) (listed' := LB 9 31) rfl (op_eqb Try.underlying4 rfl rfl (congrArg some hb9766) (ltn rfl)) rfl (by kernel_rfl) (by kernel_rfl) (by kernel_rfl) (by kernel_rfl) ⟨trivial, ⟨⟨4, rfl⟩, trivial⟩, trivial⟩ (fun _ _ _ h => h) ?_
            refine VA.va (i := 5) (listed' := LB 9 63) rfl (op_move rfl (ltn rfl)) rfl (by kernel_rfl) (by kernel_rfl) (by kernel_rfl) (by kernel_rfl) ⟨trivial, ⟨⟨4, rfl⟩, trivial⟩, trivial⟩ (fun _ _ _ h => h) ?_
            refine VA.oneC (i := 6) (listed' := LB 9 127) (by kernel_rfl) rfl (o_call0 FO9 (tarrylaw07_alive.ok k false hA9769) rfl rfl (ltn rfl) (All_of .nil)) rfl (by kernel_rfl) ?_
            rintro _ _ _ ⟨rfl, rfl, rfl⟩
            refine ⟨⟨trivial, ⟨⟨4, rfl⟩, trivial⟩, trivial⟩, ?_⟩
            refine VA.va (i := 7) (listed' := LB 9 255) rfl (op_not rfl rfl (ltn rfl)) rfl (by kernel_rfl) (by kernel_rfl) (by kernel_rfl) (by kernel_rfl) ⟨trivial, ⟨⟨4, rfl⟩, trivial⟩, trivial⟩ (fun _ _ _ h => h) ?_
            refine VA.va (i := 8) (listed' := LB 9 511) rfl (op_pick rfl rfl (ltn rfl)) rfl (by kernel_rfl) (by kernel_rfl) (by kernel_rfl) (by kernel_rfl) ⟨trivial, ⟨⟨4, rfl⟩, trivial⟩, trivial⟩ (fun _ _ _ h => h) ?_
            refine VA.done (by kernel_rfl) ?_
            exact VN.meet0  [0, 1, 2, 3, 4] [0, 1, 2] trivial ⟨rfl, ⟨rfl, rfl, rfl, rfl, rfl, rfl, rfl, rfl, rfl, rfl, rfl, rfl, trivial⟩, ⟨⟨0, rfl⟩, ⟨1, rfl⟩, ⟨2, rfl⟩, ⟨3, rfl⟩, trivial⟩, rfl, by decide, rfl, by decide⟩
          intro _
          refine VC.cond_t rfl ?_
          refine VC.seq ?_
          refine VC.region ?_
          refine VL.va (op_assign rfl (ltn rfl)) rfl ?_
          refine VL.done ?_
          refine VN.then ?_
          refine VC.ret ?_
          refine VR.then ?_
          cases h
      · rw [if_neg c9767] at h
        obtain rfl : b9766 = true := hb9766.symm.trans (by simpa using c9767)
        refine VC.join0 (⟨225, [(1, .string (a1.extract 0 ((mn (a1.size : Int) 18).toNat))), (3, .pointer (some ⟨g3, 0, none⟩)), (5, .pointer (some ⟨g4, 0, none⟩)), (6, .bool false), (7, .pointer (some ⟨g1923, 0, none⟩)), (8, .int .i64 t1917), (9, .pointer (some ⟨g2319, 0, none⟩)), (10, .int .i64 t2313), (11, v2467), (12, .int .i64 t2464), (13, .pointer (some ⟨g2468, 0, none⟩)), (54, .bool true)], [.row v2316 1 (r2311.map enc_str), .row v1922 5 (r1916.map enc22), .row v388 5 (r383.map enc22), .row v386 1 (r382.map enc_str)], [(g2468, 35, [.slice none 0 0, .slice none 0 0]), (g2319, 35, [v2316, v2318]), (g1923, 35, [v1920, v1922]), (g4, 23, [.string t391, .string t392, .int .i64 t393, .int .i64 t394, .int .i64 t395]), (g3, 35, [v386, v388])], [(v2467, 23, 5, r2463.map enc22), (v2318, 23, 5, r2312.map enc22), (v1920, 9, 1, r1915.map enc_str)]⟩) (True) ?_ ?_
        · refine VC.draw ⟨0, [], [], [(g3, 35, [v386, v388])], []⟩ (by kernel_rfl) rfl (by kernel_rfl) (n := 9) (listed := LB 9 0) ?_
          refine VA.va (i := 0) (listed' := LB 9 1) rfl (op_load 0 2 rfl rfl TI35 rfl (fun h => absurd h (by decide)) (ltn rfl)) rfl (by kernel_rfl) (by kernel_rfl) (by kernel_rfl) (by kernel_rfl) ⟨trivial, ⟨⟨4, rfl⟩, trivial⟩, trivial⟩ (fun _ _ _ h => h) ?_
          refine VA.va (i := 2) (listed' := LB 9 5) rfl (op_load 0 2 rfl rfl TI35 rfl (fun h => absurd h (by decide)) (ltn rfl)) rfl (by kernel_rfl) (by kernel_rfl) (by kernel_rfl) (by kernel_rfl) ⟨trivial, ⟨⟨4, rfl⟩, trivial⟩, trivial⟩ (fun _ _ _ h => h) ?_
          refine VA.oneC (i := 1) (listed' := LB 9 7) (by kernel_rfl) rfl (o_call0 FO14 (goods_Right.ok k r382 r383 v386 v388 t9762 hA9763) rfl rfl (ltn rfl) (All_of (.cons (List.mem_of_getElem? (i := 3) rfl) (.cons (List.mem_of_getElem? (i := 2) rfl) .nil)))) rfl (by kernel_rfl) ?_
          rintro _ _ _ ⟨rfl, rfl, rfl⟩
          refine ⟨⟨trivial, ⟨⟨4, rfl⟩, trivial⟩, trivial⟩, ?_⟩
          refine VA.oneC (i := 3) (listed' := LB 9 15) (by kernel_rfl) rfl (o_call0 FO17 (tarryref07_Right.ok k r382 r383 v386 v388 t9764 hA9765) rfl rfl (ltn rfl) (All_of (.cons (List.mem_of_getElem? (i := 3) rfl) (.cons (List.mem_of_getElem? (i := 2) rfl) .nil)))) rfl (by kernel_rfl) ?_
          rintro _ _ _ ⟨rfl, rfl, rfl⟩
          refine ⟨⟨trivial, ⟨⟨4, rfl⟩, trivial⟩, trivial⟩, ?_⟩
          refine VA.va (i := 4) (listed' := LB 9 31) rfl (op_eqb Try.underlying4 rfl rfl (congrArg some hb9766) (ltn rfl)) rfl (by kernel_rfl) (by kernel_rfl) (by kernel_rfl) (by kernel_rfl) ⟨trivial, ⟨⟨4, rfl⟩, trivial⟩, trivial⟩ (fun _ _ _ h => h) ?_
          refine VA.va (i := 5) (listed' := LB 9 63) rfl (op_move rfl (ltn rfl)) rfl (by kernel_rfl) (by kernel_rfl) (by kernel_rfl) (by kernel_rfl) ⟨trivial, ⟨⟨4, rfl⟩, trivial⟩, trivial⟩ (fun _ _ _ h => h) ?_
          refine VA.un (i := 6) (listed' := LB 9 127) rfl rfl rfl (ltn rfl) (by kernel_rfl) (by kernel_rfl) (by kernel_rfl) (by kernel_rfl) ⟨trivial, ⟨⟨4, rfl⟩, trivial⟩, trivial⟩ (fun _ _ _ h => h) ?_
          refine VA.un (i := 7) (listed' := LB 9 255) rfl rfl rfl (ltn rfl) (by kernel_rfl) (by kernel_rfl) (by kernel_rfl) (by kernel_rfl) ⟨trivial, ⟨⟨4, rfl⟩, trivial⟩, trivial⟩ (fun _ _ _ h => h) ?_
          refine VA.va (i := 8) (listed' := LB 9 511) rfl (op_pick rfl rfl (ltn rfl)) rfl (by kernel_rfl) (by kernel_rfl) (by kernel_rfl) (by kernel_rfl) ⟨trivial, ⟨⟨4, rfl⟩, trivial⟩, trivial⟩ (fun _ _ _ h => h) ?_
          refine VA.done (by kernel_rfl) ?_
          exact VN.meet0  [0, 1, 2, 3, 4] [0, 1, 2] trivial ⟨rfl, ⟨rfl, rfl, rfl, rfl, rfl, rfl, rfl, rfl, rfl, rfl, rfl, rfl, trivial⟩, ⟨⟨0, rfl⟩, ⟨1, rfl⟩, ⟨2, rfl⟩, ⟨3, rfl⟩, trivial⟩, rfl, by decide, rfl, by decide⟩
        intro _
        refine VC.cond_t rfl ?_
        refine VC.seq ?_
        refine VC.region ?_
        refine VL.va (op_assign rfl (ltn rfl)) rfl ?_
        refine VL.done ?_
        refine VN.then ?_
        refine VC.ret ?_
        refine VR.then ?_
        cases h
    · rw [if_neg c390] at h; cases h
  · rw [if_neg c389] at h; cases h

end Go.Proofs.Ytoiihpmncphplaa.PGoodsKnow
