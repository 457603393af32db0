/- Written by a program of this repo: what the program's functions do, each as a Lean function, shown of the loaded code; or a statement's row over that; no condition of its own. -/
import Derived.Test.YtoiihpmncphplaaPGoodsStayx5
namespace Go.Proofs.Ytoiihpmncphplaa.PGoodsStay
open Go Go.RowKit Go.Proofs.YtoiihpmncphplaaV
set_option linter.unusedVariables false
set_option linter.unusedSimpArgs false

set_option maxHeartbeats 4000000 in
set_option maxRecDepth 100000 in
theorem tarrylaw07_GoodsStay.ok (k : Nat) (l0_0 : List ByteArray) (l0_1 : List S22) (a1_0 : ByteArray) (a1_1 : ByteArray) (a1_2 : Int) (a1_3 : Int) (a1_4 : Int) (a2_0 : ByteArray) (a2_1 : ByteArray) (a2_2 : Int) (a2_3 : Int) (a2_4 : Int) (v0_0 : Value) (v0_1 : Value) (r1 : Bool) (h : tarrylaw07_GoodsStay.f k l0_0 l0_1 a1_0 a1_1 a1_2 a1_3 a1_4 a2_0 a2_1 a2_2 a2_3 a2_4 = some r1) :
    VCalls Try.prog 4 [.agg #[v0_0, v0_1], .agg #[.string a1_0, .string a1_1, .int .i64 a1_2, .int .i64 a1_3, .int .i64 a1_4], .agg #[.string a2_0, .string a2_1, .int .i64 a2_2, .int .i64 a2_3, .int .i64 a2_4]] [.row v0_0 1 (l0_0.map enc_str), .row v0_1 5 (l0_1.map enc22)] (fun v G own => v = .bool r1 ∧ G = [] ∧ own = []) := by
  refine VCalls.intro Try.func4 rfl (len rfl) fun E hC => ?_
  unfold tarrylaw07_GoodsStay.f at h
  refine VC.seq ?_
  refine VC.region ?_
  refine VL.sG (o_box rfl (.agg (.f 0 rfl (.f 1 rfl .nil))) (ltn rfl)) rfl ?_
  intro g3
  refine VL.sG (o_box rfl (.agg (.of rfl)) (ltn rfl)) rfl ?_
  intro g4
  refine VL.sG (o_box rfl (.agg (.of rfl)) (ltn rfl)) rfl ?_
  intro g5
  refine VL.va (op_assign rfl (ltn rfl)) rfl ?_
  refine VL.done ?_
  refine VN.then ?_
  replace h := Option.bind_eq_some_iff.1 h
  obtain ⟨⟨r383, r384⟩, hA385, h⟩ := h
  dsimp only at h
  replace h := Option.bind_eq_some_iff.1 h
  obtain ⟨⟨t390, t391, t392, t393, t394⟩, hA395, h⟩ := h
  dsimp only at h
  replace h := Option.bind_eq_some_iff.1 h
  obtain ⟨⟨t396, t397, t398, t399, t400⟩, hA401, h⟩ := h
  dsimp only at h
  refine VC.join2 (fun (v387 : Value) (v389 : Value) => ⟨105, [(3, .pointer (some ⟨g3, 0, none⟩)), (4, .pointer (some ⟨g4, 0, none⟩)), (5, .pointer (some ⟨g5, 0, none⟩)), (6, .bool false)], [], [(g5, 23, [.string t396, .string t397, .int .i64 t398, .int .i64 t399, .int .i64 t400]), (g4, 23, [.string t390, .string t391, .int .i64 t392, .int .i64 t393, .int .i64 t394]), (g3, 35, [v387, v389])], [(v387, 9, 1, r383.map enc_str), (v389, 23, 5, r384.map enc22)]⟩) (fun (v387 : Value) (v389 : Value) => True) ?_ ?_
  · refine VC.drawB ⟨0, [], [], [], []⟩ [6, 7, 8] ⟨0, [], [], [(g5, 23, [.string a2_0, .string a2_1, .int .i64 a2_2, .int .i64 a2_3, .int .i64 a2_4]), (g4, 23, [.string a1_0, .string a1_1, .int .i64 a1_2, .int .i64 a1_3, .int .i64 a1_4]), (g3, 35, [v0_0, v0_1])], []⟩ (by kernel_rfl) rfl (by kernel_rfl) (n := 9) (listed := LB 9 0) ?_
    refine VB.vb (i := 0) (listed' := LB 9 1) rfl (op_load 2 2 rfl rfl TI35 rfl (fun h => absurd h (by decide)) (ltn rfl)) rfl (by kernel_rfl) (by kernel_rfl) (by kernel_rfl) (by kernel_rfl) (by kernel_rfl) (by kernel_rfl) (PartP.on ⟨trivial, trivial, trivial⟩ ⟨trivial, ⟨⟨0, rfl⟩, ⟨1, rfl⟩, ⟨2, rfl⟩, trivial⟩, trivial⟩) (fun _ _ _ h => h) ?_
    refine VB.all [1, 2, 4] (by kernel_rfl) (by simp) ?_
    refine VBll.consC (listed' := LB 9 3) rfl (o_call0 FO11 (tarrylaw07_few.ok k l0_0 l0_1 v0_0 v0_1 r383 r384 hA385) rfl rfl (ltn rfl) (All_of (.cons (List.mem_of_getElem? (i := 0) rfl) (.cons (List.mem_of_getElem? (i := 1) rfl) .nil)))) rfl (by kernel_rfl) ?_ ?_
    · rintro _ _ _ ⟨v387, v389, rfl, rfl, rfl⟩
      refine ⟨(PartP.on ⟨trivial, trivial, trivial⟩ ⟨trivial, ⟨⟨0, rfl⟩, ⟨1, rfl⟩, ⟨2, rfl⟩, trivial⟩, trivial⟩), ?_⟩
      refine VB.all [2, 4] (by kernel_rfl) (by simp) ?_
      refine VBll.cons1 (listed' := LB 9 7) rfl ((op_load 1 5 rfl rfl TI23 rfl (fun h => absurd h (by decide)) (ltn rfl)).op1') rfl (by kernel_rfl) (PartP.on ⟨trivial, trivial, trivial⟩ ⟨trivial, ⟨⟨0, rfl⟩, ⟨1, rfl⟩, ⟨2, rfl⟩, trivial⟩, trivial⟩) ?_ ?_
      · refine VB.all [3, 4] (by kernel_rfl) (by simp) ?_
        refine VBll.consC (listed' := LB 9 15) rfl (o_call0 FO6 (tarrylaw07_cut.ok a1_0 a1_1 a1_2 a1_3 a1_4 t390 t391 t392 t393 t394 hA395) rfl rfl (ltn rfl) (All_of .nil)) rfl (by kernel_rfl) ?_ ?_
        · rintro _ _ _ ⟨rfl, rfl, rfl⟩
          refine ⟨(PartP.on ⟨trivial, trivial, trivial⟩ ⟨trivial, ⟨⟨0, rfl⟩, ⟨1, rfl⟩, ⟨2, rfl⟩, trivial⟩, trivial⟩), ?_⟩
          refine VB.one1 (i := 4) (listed' := LB 9 31) (by kernel_rfl) rfl ((op_load 0 5 rfl rfl TI23 rfl (fun h => absurd h (by decide)) (ltn rfl)).op1') rfl (by kernel_rfl) (PartP.on ⟨trivial, trivial, trivial⟩ ⟨trivial, ⟨⟨0, rfl⟩, ⟨1, rfl⟩, ⟨2, rfl⟩, trivial⟩, trivial⟩) ?_
          refine VB.oneC (i := 5) (listed' := LB 9 63) (by kernel_rfl) rfl (o_call0 FO6 (tarrylaw07_cut.ok a2_0 a2_1 a2_2 a2_3 a2_4 t396 t397 t398 t399 t400 hA401) rfl rfl (ltn rfl) (All_of .nil)) rfl (by kernel_rfl) ?_
          rintro _ _ _ ⟨rfl, rfl, rfl⟩
          refine ⟨(PartP.on ⟨trivial, trivial, trivial⟩ ⟨trivial, ⟨⟨0, rfl⟩, ⟨1, rfl⟩, ⟨2, rfl⟩, trivial⟩, trivial⟩), ?_⟩
          refine VB.one1 (i := 6) (listed' := LB 9 127) (by kernel_rfl) rfl (o_store 2 2 rfl rfl rfl TI35 (.agg (.r 0 rfl (.r 1 rfl .nil))) rfl (len rfl)) rfl (by kernel_rfl) (PartP.off (by kernel_rfl) ⟨trivial, trivial, trivial⟩) ?_
          refine VB.one1 (i := 7) (listed' := LB 9 255) (by kernel_rfl) rfl (o_store 1 5 rfl rfl rfl TI23 (.agg (.of rfl)) rfl (len rfl)) rfl (by kernel_rfl) (PartP.off (by kernel_rfl) ⟨trivial, trivial, trivial⟩) ?_
          refine VB.one1 (i := 8) (listed' := LB 9 511) (by kernel_rfl) rfl (o_store 0 5 rfl rfl rfl TI23 (.agg (.of rfl)) rfl (len rfl)) rfl (by kernel_rfl) (PartP.off (by kernel_rfl) ⟨trivial, trivial, trivial⟩) ?_
          refine VB.done (by kernel_rfl) ?_
          exact VN.meet2 v387 v389 [0, 1, 2] [0, 1] trivial ⟨rfl, ⟨rfl, rfl, rfl, rfl, trivial⟩, trivial, rfl, by decide, rfl, by decide⟩
        refine VBll.cons1 (listed' := LB 9 23) rfl ((op_load 0 5 rfl rfl TI23 rfl (fun h => absurd h (by decide)) (ltn rfl)).op1') rfl (by kernel_rfl) (PartP.on ⟨trivial, trivial, trivial⟩ ⟨trivial, ⟨⟨0, rfl⟩, ⟨1, rfl⟩, ⟨2, rfl⟩, trivial⟩, trivial⟩) ?_ VBll.nil
        refine VB.oneC (i := 3) (listed' := LB 9 31) (by kernel_rfl) rfl (o_call0 FO6 (tarrylaw07_cut.ok a1_0 a1_1 a1_2 a1_3 a1_4 t390 t391 t392 t393 t394 hA395) rfl rfl (ltn rfl) (All_of .nil)) rfl (by kernel_rfl) ?_
        rintro _ _ _ ⟨rfl, rfl, rfl⟩
        refine ⟨(PartP.on ⟨trivial, trivial, trivial⟩ ⟨trivial, ⟨⟨0, rfl⟩, ⟨1, rfl⟩, ⟨2, rfl⟩, trivial⟩, trivial⟩), ?_⟩
        refine VB.oneC (i := 5) (listed' := LB 9 63) (by kernel_rfl) rfl (o_call0 FO6 (tarrylaw07_cut.ok a2_0 a2_1 a2_2 a2_3 a2_4 t396 t397 t398 t399 t400 hA401) rfl rfl (ltn rfl) (All_of .nil)) rfl (by kernel_rfl) ?_
        rintro _ _ _ ⟨rfl, rfl, rfl⟩
        refine ⟨(PartP.on ⟨trivial, trivial, trivial⟩ ⟨trivial, ⟨⟨0, rfl⟩, ⟨1, rfl⟩, ⟨2, rfl⟩, trivial⟩, trivial⟩), ?_⟩
        refine VB.one1 (i := 6) (listed' := LB 9 127) (by kernel_rfl) rfl (o_store 2 2 rfl rfl rfl TI35 (.agg (.r 0 rfl (.r 1 rfl .nil))) rfl (len rfl)) rfl (by kernel_rfl) (PartP.off (by kernel_rfl) ⟨trivial, trivial, trivial⟩) ?_
        refine VB.one1 (i := 7) (listed' := LB 9 255) (by kernel_rfl) rfl (o_store 1 5 rfl rfl rfl TI23 (.agg (.of rfl)) rfl (len rfl)) rfl (by kernel_rfl) (PartP.off (by kernel_rfl) ⟨trivial, trivial, trivial⟩) ?_
        refine VB.one1 (i := 8) (listed' := LB 9 511) (by kernel_rfl) rfl (o_store 0 5 rfl rfl rfl TI23 (.agg (.of rfl)) rfl (len rfl)) rfl (by kernel_rfl) (PartP.off (by kernel_rfl) ⟨trivial, trivial, trivial⟩) ?_
        refine VB.done (by kernel_rfl) ?_
        exact VN.meet2 v387 v389 [0, 1, 2] [0, 1] trivial ⟨rfl, ⟨rfl, rfl, rfl, rfl, trivial⟩, trivial, rfl, by decide, rfl, by decide⟩
      refine VBll.cons1 (listed' := LB 9 19) rfl ((op_load 0 5 rfl rfl TI23 rfl (fun h => absurd h (by decide)) (ltn rfl)).op1') rfl (by kernel_rfl) (PartP.on ⟨trivial, trivial, trivial⟩ ⟨trivial, ⟨⟨0, rfl⟩, ⟨1, rfl⟩, ⟨2, rfl⟩, trivial⟩, trivial⟩) ?_ VBll.nil
      refine VB.one1 (i := 2) (listed' := LB 9 23) (by kernel_rfl) rfl ((op_load 1 5 rfl rfl TI23 rfl (fun h => absurd h (by decide)) (ltn rfl)).op1') rfl (by kernel_rfl) (PartP.on ⟨trivial, trivial, trivial⟩ ⟨trivial, ⟨⟨0, rfl⟩, ⟨1, rfl⟩, ⟨2, rfl⟩, trivial⟩, trivial⟩) ?_
      refine VB.oneC (i := 3) (listed' := LB 9 31) (by kernel_rfl) rfl (o_call0 FO6 (tarrylaw07_cut.ok a1_0 a1_1 a1_2 a1_3 a1_4 t390 t391 t392 t393 t394 hA395) rfl rfl (ltn rfl) (All_of .nil)) rfl (by kernel_rfl) ?_
      rintro _ _ _ ⟨rfl, rfl, rfl⟩
      refine ⟨(PartP.on ⟨trivial, trivial, trivial⟩ ⟨trivial, ⟨⟨0, rfl⟩, ⟨1, rfl⟩, ⟨2, rfl⟩, trivial⟩, trivial⟩), ?_⟩
      refine VB.oneC (i := 5) (listed' := LB 9 63) (by kernel_rfl) rfl (o_call0 FO6 (tarrylaw07_cut.ok a2_0 a2_1 a2_2 a2_3 a2_4 t396 t397 t398 t399 t400 hA401) rfl rfl (ltn rfl) (All_of .nil)) rfl (by kernel_rfl) ?_
      rintro _ _ _ ⟨rfl, rfl, rfl⟩
      refine ⟨(PartP.on ⟨trivial, trivial, trivial⟩ ⟨trivial, ⟨⟨0, rfl⟩, ⟨1, rfl⟩, ⟨2, rfl⟩, trivial⟩, trivial⟩), ?_⟩
      refine VB.one1 (i := 6) (listed' := LB 9 127) (by kernel_rfl) rfl (o_store 2 2 rfl rfl rfl TI35 (.agg (.r 0 rfl (.r 1 rfl .nil))) rfl (len rfl)) rfl (by kernel_rfl) (PartP.off (by kernel_rfl) ⟨trivial, trivial, trivial⟩) ?_
      refine VB.one1 (i := 7) (listed' := LB 9 255) (by kernel_rfl) rfl (o_store 1 5 rfl rfl rfl TI23 (.agg (.of rfl)) rfl (len rfl)) rfl (by kernel_rfl) (PartP.off (by kernel_rfl) ⟨trivial, trivial, trivial⟩) ?_
      refine VB.one1 (i := 8) (listed' := LB 9 511) (by kernel_rfl) rfl (o_store 0 5 rfl rfl rfl TI23 (.agg (.of rfl)) rfl (len rfl)) rfl (by kernel_rfl) (PartP.off (by kernel_rfl) ⟨trivial, trivial, trivial⟩) ?_
      refine VB.done (by kernel_rfl) ?_
      exact VN.meet2 v387 v389 [0, 1, 2] [0, 1] trivial ⟨rfl, ⟨rfl, rfl, rfl, rfl, trivial⟩, trivial, rfl, by decide, rfl, by decide⟩
    refine VBll.cons1 (listed' := LB 9 5) rfl ((op_load 1 5 rfl rfl TI23 rfl (fun h => absurd h (by decide)) (ltn rfl)).op1') rfl (by kernel_rfl) (PartP.on ⟨trivial, trivial, trivial⟩ ⟨trivial, ⟨⟨0, rfl⟩, ⟨1, rfl⟩, ⟨2, rfl⟩, trivial⟩, trivial⟩) ?_ ?_
    · refine VB.all [1, 4] (by kernel_rfl) (by simp) ?_
      refine VBll.consC (listed' := LB 9 7) rfl (o_call0 FO11 (tarrylaw07_few.ok k l0_0 l0_1 v0_0 v0_1 r383 r384 hA385) rfl rfl (ltn rfl) (All_of (.cons (List.mem_of_getElem? (i := 0) rfl) (.cons (List.mem_of_getElem? (i := 1) rfl) .nil)))) rfl (by kernel_rfl) ?_ ?_
      · rintro _ _ _ ⟨v387, v389, rfl, rfl, rfl⟩
        refine ⟨(PartP.on ⟨trivial, trivial, trivial⟩ ⟨trivial, ⟨⟨0, rfl⟩, ⟨1, rfl⟩, ⟨2, rfl⟩, trivial⟩, trivial⟩), ?_⟩
        refine VB.all [3, 4] (by kernel_rfl) (by simp) ?_
        refine VBll.consC (listed' := LB 9 15) rfl (o_call0 FO6 (tarrylaw07_cut.ok a1_0 a1_1 a1_2 a1_3 a1_4 t390 t391 t392 t393 t394 hA395) rfl rfl (ltn rfl) (All_of .nil)) rfl (by kernel_rfl) ?_ ?_
        · rintro _ _ _ ⟨rfl, rfl, rfl⟩
          refine ⟨(PartP.on ⟨trivial, trivial, trivial⟩ ⟨trivial, ⟨⟨0, rfl⟩, ⟨1, rfl⟩, ⟨2, rfl⟩, trivial⟩, trivial⟩), ?_⟩
          refine VB.one1 (i := 4) (listed' := LB 9 31) (by kernel_rfl) rfl ((op_load 0 5 rfl rfl TI23 rfl (fun h => absurd h (by decide)) (ltn rfl)).op1') rfl (by kernel_rfl) (PartP.on ⟨trivial, trivial, trivial⟩ ⟨trivial, ⟨⟨0, rfl⟩, ⟨1, rfl⟩, ⟨2, rfl⟩, trivial⟩, trivial⟩) ?_
          refine VB.oneC (i := 5) (listed' := LB 9 63) (by kernel_rfl) rfl (o_call0 FO6 (tarrylaw07_cut.ok a2_0 a2_1 a2_2 a2_3 a2_4 t396 t397 t398 t399 t400 hA401) rfl rfl (ltn rfl) (All_of .nil)) rfl (by kernel_rfl) ?_
          rintro _ _ _ ⟨rfl, rfl, rfl⟩
          refine ⟨(PartP.on ⟨trivial, trivial, trivial⟩ ⟨trivial, ⟨⟨0, rfl⟩, ⟨1, rfl⟩, ⟨2, rfl⟩, trivial⟩, trivial⟩), ?_⟩
          refine VB.one1 (i := 6) (listed' := LB 9 127) (by kernel_rfl) rfl (o_store 2 2 rfl rfl rfl TI35 (.agg (.r 0 rfl (.r 1 rfl .nil))) rfl (len rfl)) rfl (by kernel_rfl) (PartP.off (by kernel_rfl) ⟨trivial, trivial, trivial⟩) ?_
          refine VB.one1 (i := 7) (listed' := LB 9 255) (by kernel_rfl) rfl (o_store 1 5 rfl rfl rfl TI23 (.agg (.of rfl)) rfl (len rfl)) rfl (by kernel_rfl) (PartP.off (by kernel_rfl) ⟨trivial, trivial, trivial⟩) ?_
          refine VB.one1 (i := 8) (listed' := LB 9 511) (by kernel_rfl) rfl (o_store 0 5 rfl rfl rfl TI23 (.agg (.of rfl)) rfl (len rfl)) rfl (by kernel_rfl) (PartP.off (by kernel_rfl) ⟨trivial, trivial, trivial⟩) ?_
          refine VB.done (by kernel_rfl) ?_
          exact VN.meet2 v387 v389 [0, 1, 2] [0, 1] trivial ⟨rfl, ⟨rfl, rfl, rfl, rfl, trivial⟩, trivial, rfl, by decide, rfl, by decide⟩
        refine VBll.cons1 (listed' := LB 9 23) rfl ((op_load 0 5 rfl rfl TI23 rfl (fun h => absurd h (by decide)) (ltn rfl)).op1') rfl (by kernel_rfl) (PartP.on ⟨trivial, trivial, trivial⟩ ⟨trivial, ⟨⟨0, rfl⟩, ⟨1, rfl⟩, ⟨2, rfl⟩, trivial⟩, trivial⟩) ?_ VBll.nil
        refine VB.oneC (i := 3) (listed' := LB 9 31) (by kernel_rfl) rfl (o_call0 FO6 (tarrylaw07_cut.ok a1_0 a1_1 a1_2 a1_3 a1_4 t390 t391 t392 t393 t394 hA395) rfl rfl (ltn rfl) (All_of .nil)) rfl (by kernel_rfl) ?_
        rintro _ _ _ ⟨rfl, rfl, rfl⟩
        refine ⟨(PartP.on ⟨trivial, trivial, trivial⟩ ⟨trivial, ⟨⟨0, rfl⟩, ⟨1, rfl⟩, ⟨2, rfl⟩, trivial⟩, trivial⟩), ?_⟩
        refine VB.oneC (i := 5) (listed' := LB 9 63) (by kernel_rfl) rfl (o_call0 FO6 (tarrylaw07_cut.ok a2_0 a2_1 a2_2 a2_3 a2_4 t396 t397 t398 t399 t400 hA401) rfl rfl (ltn rfl) (All_of .nil)) rfl (by kernel_rfl) ?_
        rintro _ _ _ ⟨rfl, rfl, rfl⟩
        refine ⟨(PartP.on ⟨trivial, trivial, trivial⟩ ⟨trivial, ⟨⟨0, rfl⟩, ⟨1, rfl⟩, ⟨2, rfl⟩, trivial⟩, trivial⟩), ?_⟩
        refine VB.one1 (i := 6) (listed' := LB 9 127) (by kernel_rfl) rfl (o_store 2 2 rfl rfl rfl TI35 (.agg (.r 0 rfl (.r 1 rfl .nil))) rfl (len rfl)) rfl (by kernel_rfl) (PartP.off (by kernel_rfl) ⟨trivial, trivial, trivial⟩) ?_
        refine VB.one1 (i := 7) (listed' := LB 9 255) (by kernel_rfl) rfl (o_store 1 5 rfl rfl rfl TI23 (.agg (.of rfl)) rfl (len rfl)) rfl (by kernel_rfl) (PartP.off (by kernel_rfl) ⟨trivial, trivial, trivial⟩) ?_
        refine VB.one1 (i := 8) (listed' := LB 9 511) (by kernel_rfl) rfl (o_store 0 5 rfl rfl rfl TI23 (.agg (.of rfl)) rfl (len rfl)) rfl (by kernel_rfl) (PartP.off (by kernel_rfl) ⟨trivial, trivial, trivial⟩) ?_
        refine VB.done (by kernel_rfl) ?_
        exact VN.meet2 v387 v389 [0, 1, 2] [0, 1] trivial ⟨rfl, ⟨rfl, rfl, rfl, rfl, trivial⟩, trivial, rfl, by decide, rfl, by decide⟩
      refine VBll.cons1 (listed' := LB 9 21) rfl ((op_load 0 5 rfl rfl TI23 rfl (fun h => absurd h (by decide)) (ltn rfl)).op1') rfl (by kernel_rfl) (PartP.on ⟨trivial, trivial, trivial⟩ ⟨trivial, ⟨⟨0, rfl⟩, ⟨1, rfl⟩, ⟨2, rfl⟩, trivial⟩, trivial⟩) ?_ VBll.nil
      refine VB.oneC (i := 1) (listed' := LB 9 23) (by kernel_rfl) rfl (o_call0 FO11 (tarrylaw07_few.ok k l0_0 l0_1 v0_0 v0_1 r383 r384 hA385) rfl rfl (ltn rfl) (All_of (.cons (List.mem_of_getElem? (i := 0) rfl) (.cons (List.mem_of_getElem? (i := 1) rfl) .nil)))) rfl (by kernel_rfl) ?_
      rintro _ _ _ ⟨v387, v389, rfl, rfl, rfl⟩
      refine ⟨(PartP.on ⟨trivial, trivial, trivial⟩ ⟨trivial, ⟨⟨0, rfl⟩, ⟨1, rfl⟩, ⟨2, rfl⟩, trivial⟩, trivial⟩), ?_⟩
      refine VB.oneC (i := 3) (listed' := LB 9 31) (by kernel_rfl) rfl (o_call0 FO6 (tarrylaw07_cut.ok a1_0 a1_1 a1_2 a1_3 a1_4 t390 t391 t392 t393 t394 hA395) rfl rfl (ltn rfl) (All_of .nil)) rfl (by kernel_rfl) ?_
      rintro _ _ _ ⟨rfl, rfl, rfl⟩
      refine ⟨(PartP.on ⟨trivial, trivial, trivial⟩ ⟨trivial, ⟨⟨0, rfl⟩, ⟨1, rfl⟩, ⟨2, rfl⟩, trivial⟩, trivial⟩), ?_⟩
      refine VB.oneC (i := 5) (listed' := LB 9 63) (by kernel_rfl) rfl (o_call0 FO6 (tarrylaw07_cut.ok a2_0 a2_1 a2_2 a2_3 a2_4 t396 t397 t398 t399 t400 hA401) rfl rfl (ltn rfl) (All_of .nil)) rfl (by kernel_rfl) ?_
      rintro _ _ _ ⟨rfl, rfl, rfl⟩
      refine ⟨(PartP.on ⟨trivial, trivial, trivial⟩ ⟨trivial, ⟨⟨0, rfl⟩, ⟨1, rfl⟩, ⟨2, rfl⟩, trivial⟩, trivial⟩), ?_⟩
      refine VB.one1 (i := 6) (listed' := LB 9 127) (by kernel_rfl) rfl (o_store 2 2 rfl rfl rfl TI35 (.agg (.r 0 rfl (.r 1 rfl .nil))) rfl (len rfl)) rfl (by kernel_rfl) (PartP.off (by kernel_rfl) ⟨trivial, trivial, trivial⟩) ?_
      refine VB.one1 (i := 7) (listed' := LB 9 255) (by kernel_rfl) rfl (o_store 1 5 rfl rfl rfl TI23 (.agg (.of rfl)) rfl (len rfl)) rfl (by kernel_rfl) (PartP.off (by kernel_rfl) ⟨trivial, trivial, trivial⟩) ?_
      refine VB.one1 (i := 8) (listed' := LB 9 511) (by kernel_rfl) rfl (o_store 0 5 rfl rfl rfl TI23 (.agg (.of rfl)) rfl (len rfl)) rfl (by kernel_rfl) (PartP.off (by kernel_rfl) ⟨trivial, trivial, trivial⟩) ?_
      refine VB.done (by kernel_rfl) ?_
      exact VN.meet2 v387 v389 [0, 1, 2] [0, 1] trivial ⟨rfl, ⟨rfl, rfl, rfl, rfl, trivial⟩, trivial, rfl, by decide, rfl, by decide⟩
    refine VBll.cons1 (listed' := LB 9 17) rfl ((op_load 0 5 rfl rfl TI23 rfl (fun h => absurd h (by decide)) (ltn rfl)).op1') rfl (by kernel_rfl) (PartP.on ⟨trivial, trivial, trivial⟩ ⟨trivial, ⟨⟨0, rfl⟩, ⟨1, rfl⟩, ⟨2, rfl⟩, trivial⟩, trivial⟩) ?_ VBll.nil
    refine VB.all [1, 2] (by kernel_rfl) (by simp) ?_
    refine VBll.consC (listed' := LB 9 19) rfl (o_call0 FO11 (tarrylaw07_few.ok k l0_0 l0_1 v0_0 v0_1 r383 r384 hA385) rfl rfl (ltn rfl) (All_of (.cons (List.mem_of_getElem? (i := 0) rfl) (.cons (List.mem_of_getElem? (i := 1) rfl) .nil)))) rfl (by kernel_rfl) ?_ ?_
    · rintro _ _ _ ⟨v387, v389, rfl, rfl, rfl⟩
      refine ⟨(PartP.on ⟨trivial, trivial, trivial⟩ ⟨trivial, ⟨⟨0, rfl⟩, ⟨1, rfl⟩, ⟨2, rfl⟩, trivial⟩, trivial⟩), ?_⟩
      refine VB.one1 (i := 2) (listed' := LB 9 23) (by kernel_rfl) rfl ((op_load 1 5 rfl rfl TI23 rfl (fun h => absurd h (by decide)) (ltn rfl)).op1') rfl (by kernel_rfl) (PartP.on ⟨trivial, trivial, trivial⟩ ⟨trivial, ⟨⟨0, rfl⟩, ⟨1, rfl⟩, ⟨2, rfl⟩, trivial⟩, trivial⟩) ?_
      refine VB.oneC (i := 3) (listed' := LB 9 31) (by kernel_rfl) rfl (o_call0 FO6 (tarrylaw07_cut.ok a1_0 a1_1 a1_2 a1_3 a1_4 t390 t391 t392 t393 t394 hA395) rfl rfl (ltn rfl) (All_of .nil)) rfl (by kernel_rfl) ?_
      rintro _ _ _ ⟨rfl, rfl, rfl⟩
      refine ⟨(PartP.on ⟨trivial, trivial, trivial⟩ ⟨trivial, ⟨⟨0, rfl⟩, ⟨1, rfl⟩, ⟨2, rfl⟩, trivial⟩, trivial⟩), ?_⟩
      refine VB.oneC (i := 5) (listed' := LB 9 63) (by kernel_rfl) rfl (o_call0 FO6 (tarrylaw07_cut.ok a2_0 a2_1 a2_2 a2_3 a2_4 t396 t397 t398 t399 t400 hA401) rfl rfl (ltn rfl) (All_of .nil)) rfl (by kernel_rfl) ?_
      rintro _ _ _ ⟨rfl, rfl, rfl⟩
      refine ⟨(PartP.on ⟨trivial, trivial, trivial⟩ ⟨trivial, ⟨⟨0, rfl⟩, ⟨1, rfl⟩, ⟨2, rfl⟩, trivial⟩, trivial⟩), ?_⟩
      refine VB.one1 (i := 6) (listed' := LB 9 127) (by kernel_rfl) rfl (o_store 2 2 rfl rfl rfl TI35 (.agg (.r 0 rfl (.r 1 rfl .nil))) rfl (len rfl)) rfl (by kernel_rfl) (PartP.off (by kernel_rfl) ⟨trivial, trivial, trivial⟩) ?_
      refine VB.one1 (i := 7) (listed' := LB 9 255) (by kernel_rfl) rfl (o_store 1 5 rfl rfl rfl TI23 (.agg (.of rfl)) rfl (len rfl)) rfl (by kernel_rfl) (PartP.off (by kernel_rfl) ⟨trivial, trivial, trivial⟩) ?_
      refine VB.one1 (i := 8) (listed' := LB 9 511) (by kernel_rfl) rfl (o_store 0 5 rfl rfl rfl TI23 (.agg (.of rfl)) rfl (len rfl)) rfl (by kernel_rfl) (PartP.off (by kernel_rfl) ⟨trivial, trivial, trivial⟩) ?_
      refine VB.done (by kernel_rfl) ?_
      exact VN.meet2 v387 v389 [0, 1, 2] [0, 1] trivial ⟨rfl, ⟨rfl, rfl, rfl, rfl, trivial⟩, trivial, rfl, by decide, rfl, by decide⟩
    refine VBll.cons1 (listed' := LB 9 21) rfl ((op_load 1 5 rfl rfl TI23 rfl (fun h => absurd h (by decide)) (ltn rfl)).op1') rfl (by kernel_rfl) (PartP.on ⟨trivial, trivial, trivial⟩ ⟨trivial, ⟨⟨0, rfl⟩, ⟨1, rfl⟩, ⟨2, rfl⟩, trivial⟩, trivial⟩) ?_ VBll.nil
    refine VB.oneC (i := 1) (listed' := LB 9 23) (by kernel_rfl) rfl (o_call0 FO11 (tarrylaw07_few.ok k l0_0 l0_1 v0_0 v0_1 r383 r384 hA385) rfl rfl (ltn rfl) (All_of (.cons (List.mem_of_getElem? (i := 0) rfl) (.cons (List.mem_of_getElem? (i := 1) rfl) .nil)))) rfl (by kernel_rfl) ?_
    rintro _ _ _ ⟨v387, v389, rfl, rfl, rfl⟩
    refine ⟨(PartP.on ⟨trivial, trivial, trivial⟩ ⟨trivial, ⟨⟨0, rfl⟩, ⟨1, rfl⟩, ⟨2, rfl⟩, trivial⟩, trivial⟩), ?_⟩
    refine VB.oneC (i := 3) (listed' := LB 9 31) (by kernel_rfl) rfl (o_call0 FO6 (tarrylaw07_cut.ok a1_0 a1_1 a1_2 a1_3 a1_4 t390 t391 t392 t393 t394 hA395) rfl rfl (ltn rfl) (All_of .nil)) rfl (by kernel_rfl) ?_
    rintro _ _ _ ⟨rfl, rfl, rfl⟩
    refine ⟨(PartP.on ⟨trivial, trivial, trivial⟩ ⟨trivial, ⟨⟨0, rfl⟩, ⟨1, rfl⟩, ⟨2, rfl⟩, trivial⟩, trivial⟩), ?_⟩
    refine VB.oneC (i := 5) (listed' := LB 9 63) (by kernel_rfl) rfl (o_call0 FO6 (tarrylaw07_cut.ok a2_0 a2_1 a2_2 a2_3 a2_4 t396 t397 t398 t399 t400 hA401) rfl rfl (ltn rfl) (All_of .nil)) rfl (by kernel_rfl) ?_
    rintro _ _ _ ⟨rfl, rfl, rfl⟩
    refine ⟨(PartP.on ⟨trivial, trivial, trivial⟩ ⟨trivial, ⟨⟨0, rfl⟩, ⟨1, rfl⟩, ⟨2, rfl⟩, trivial⟩, trivial⟩), ?_⟩
    refine VB.one1 (i := 6) (listed' := LB 9 127) (by kernel_rfl) rfl (o_store 2 2 rfl rfl rfl TI35 (.agg (.r 0 rfl (.r 1 rfl .nil))) rfl (len rfl)) rfl (by kernel_rfl) (PartP.off (by kernel_rfl) ⟨trivial, trivial, trivial⟩) ?_
    refine VB.one1 (i := 7) (listed' := LB 9 255) (by kernel_rfl) rfl (o_store 1 5 rfl rfl rfl TI23 (.agg (.of rfl)) rfl (len rfl)) rfl (by kernel_rfl) (PartP.off (by kernel_rfl) ⟨trivial, trivial, trivial⟩) ?_
    refine VB.one1 (i := 8) (listed' := LB 9 511) (by kernel_rfl) rfl (o_store 0 5 rfl rfl rfl TI23 (.agg (.of rfl)) rfl (len rfl)) rfl (by kernel_rfl) (PartP.off (by kernel_rfl) ⟨trivial, trivial, trivial⟩) ?_
    refine VB.done (by kernel_rfl) ?_
    exact VN.meet2 v387 v389 [0, 1, 2] [0, 1] trivial ⟨rfl, ⟨rfl, rfl, rfl, rfl, trivial⟩, trivial, rfl, by decide, rfl, by decide⟩
  intro v387 v389 _
  refine VC.seq ?_
  refine VC.region ?_
  refine VL.va (op_load 2 2 rfl rfl TI35 rfl (fun h => absurd h (by decide)) (ltn rfl)) rfl ?_
  refine VL.va (op_load 1 5 rfl rfl TI23 rfl (fun h => absurd h (by decide)) (ltn rfl)) rfl ?_
  refine VL.freezeRow' 0 rfl ?_
  refine VL.freezeRow' 0 rfl ?_
  replace h := Option.bind_eq_some_iff.1 h
  obtain ⟨⟨r2068, r2069, t2070⟩, hA2071, h⟩ := h
  dsimp only at h
  refine VL.sC (o_call0 FO12 (goods_Rule.ok k r383 r384 t390 t391 t392 t393 t394 v387 v389 r2068 r2069 t2070 hA2071) rfl rfl (ltn rfl) (All_of (.cons (List.mem_of_getElem? (i := 1) rfl) (.cons (List.mem_of_getElem? (i := 0) rfl) .nil)))) rfl ?_
  rintro _ _ _ ⟨v2073, v2075, rfl, rfl, rfl⟩
  refine VL.va (op_move rfl (ltn rfl)) rfl ?_
  refine VL.va (op_extract rfl rfl (ltn rfl)) rfl ?_
  refine VL.va (op_extract rfl rfl (ltn rfl)) rfl ?_
  refine VL.sG (o_alloc Z35 ZL35 (ltn rfl)) rfl ?_
  intro g2076
  refine VL.step1 (o_store 0 2 rfl rfl rfl TI35 (.agg (.f 0 rfl (.r 0 rfl .nil))) rfl (len rfl)) rfl ?_
  refine VL.va (op_assign rfl (ltn rfl)) rfl ?_
  refine VL.done ?_
  refine VN.then ?_
  refine VC.seq ?_
  refine VC.seq ?_
  refine VC.region ?_
  refine VL.va (op_move rfl (ltn rfl)) rfl ?_
  refine VL.letter ((t2070 != 0)) fun b2120 hb2120 => ?_
  refine VL.va (op_cmp rfl rfl (congrArg some hb2120) (ltn rfl)) rfl ?_
  refine VL.done ?_
  refine VN.then ?_
  by_cases c2121 : t2070 = 0
  · rw [if_pos c2121] at h
    obtain rfl : b2120 = false := hb2120.symm.trans (bne_eq_false_iff_eq.2 c2121)
    refine VC.cond_f rfl ?_
    refine VC.skip ?_
    refine VN.then ?_
    refine VC.seq ?_
    refine VC.region ?_
    refine VL.va (op_load 0 2 rfl rfl TI35 rfl (fun h => absurd h (by decide)) (ltn rfl)) rfl ?_
    refine VL.va (op_fieldAddr FI23_0 rfl (add_at _ _ _) (ltn rfl)) rfl ?_
    refine VL.va (op_load 2 1 rfl rfl TI9 rfl (by decide) (ltn rfl)) rfl ?_
    replace h := Option.bind_eq_some_iff.1 h
    obtain ⟨⟨r2265, t2266⟩, hA2267, h⟩ := h
    dsimp only at h
    refine VL.sC (o_call_b0 FO13 (goods_For.ok k r2068 r2069 t390 v2073 v2075 r2265 t2266 hA2267) rfl rfl (ltn rfl) (All_of (.cons (.inl (List.mem_of_getElem? (i := 0) rfl)) (.cons (.inr (.inl ⟨_, List.mem_of_getElem? (i := 0) rfl, rfl⟩)) .nil))) (by rintro _ _ _ ⟨v2269, rfl, rfl, rfl⟩; rfl)) rfl ?_
    rintro _ _ _ ⟨v2269, rfl, rfl, rfl⟩
    refine VL.va (op_move rfl (ltn rfl)) rfl ?_
    refine VL.va (op_extract rfl rfl (ltn rfl)) rfl ?_
    refine VL.va (op_extract rfl rfl (ltn rfl)) rfl ?_
    refine VL.va (op_assign rfl (ltn rfl)) rfl ?_
    refine VL.va (op_assign rfl (ltn rfl)) rfl ?_
    refine VL.done ?_
    refine VN.then ?_
    refine VC.seq ?_
    refine VC.region ?_
    refine VL.va (op_assign rfl (ltn rfl)) rfl ?_
    refine VL.done ?_
    refine VN.then ?_
    refine VC.join1 (fun (i2882 : Int) => ⟨105, [(3, .pointer (some ⟨g3, 0, none⟩)), (4, .pointer (some ⟨g4, 0, none⟩)), (5, .pointer (some ⟨g5, 0, none⟩)), (6, .bool false), (7, .pointer (some ⟨g2076, 0, none⟩)), (10, .int .i64 t2266), (11, .int .i64 i2882)], [.row v2073 1 (r2068.map enc_str), .row v387 1 (r383.map enc_str), .row v389 5 (r384.map enc22)], [(g2076, 35, [v2073, v2075]), (g5, 23, [.string t396, .string t397, .int .i64 t398, .int .i64 t399, .int .i64 t400]), (g4, 23, [.string t390, .string t391, .int .i64 t392, .int .i64 t393, .int .i64 t394]), (g3, 35, [v387, v389])], [(v2075, 23, 5, r2069.map enc22)]⟩) (fun (i2882 : Int) => tarrylaw07_GoodsStay.j2 k r2068 r2069 r383 r384 t2266 t390 t391 t392 t393 t394 t396 t397 t398 t399 t400 i2882 = some r1) ?_ ?_
    · refine VC.seq ?_
      refine VC.region ?_
      refine VL.va (op_move rfl (ltn rfl)) rfl ?_
      refine VL.va (op_len_own (m := r2265.length) 0 lenm Try.underlying33 rfl rfl (ltn rfl)) rfl ?_
      refine VL.va (op_move rfl (ltn rfl)) rfl ?_
      refine VL.done ?_
      refine VN.then ?_
      refine VC.block ?_
      refine VC.loop2 (fun (i2838 : Int) (i2839 : Int) => ⟨105, [(3, .pointer (some ⟨g3, 0, none⟩)), (4, .pointer (some ⟨g4, 0, none⟩)), (5, .pointer (some ⟨g5, 0, none⟩)), (6, .bool false), (7, .pointer (some ⟨g2076, 0, none⟩)), (10, .int .i64 t2266), (11, .int .i64 i2838), (42, v2269), (43, .int .i64 (r2265.length : Int)), (44, .int .i64 i2839)], [.row v2073 1 (r2068.map enc_str), .row v387 1 (r383.map enc_str), .row v389 5 (r384.map enc22)], [(g2076, 35, [v2073, v2075]), (g5, 23, [.string t396, .string t397, .int .i64 t398, .int .i64 t399, .int .i64 t400]), (g4, 23, [.string t390, .string t391, .int .i64 t392, .int .i64 t393, .int .i64 t394]), (g3, 35, [v387, v389])], [(v2269, 23, 5, r2265.map enc22), (v2075, 23, 5, r2069.map enc22)]⟩) (fun (ml3 : Nat) (i2838 : Int) (i2839 : Int) => tarrylaw07_GoodsStay.l3 k r2068 r2069 r2265 r383 r384 t2266 t390 t391 t392 t393 t394 t396 t397 t398 t399 t400 ml3 i2838 i2839 = some r1) k 0 0 [0, 1, 2, 3] [0, 1] h ⟨rfl, ⟨rfl, rfl, rfl, rfl, rfl, rfl, rfl, rfl, rfl, rfl, trivial⟩, ⟨⟨0, rfl⟩, ⟨2, rfl⟩, ⟨1, rfl⟩, trivial⟩, rfl, by decide, rfl, by decide⟩ (by intros; simp [tarrylaw07_GoodsStay.l3]) ?_
      clear h
      intro ml3 ihl3 i2838 i2839 h
      simp only [tarrylaw07_GoodsStay.l3] at h
      refine VC.seq ?_
      refine VC.region ?_
      refine VL.letter (decide (i2839 < (r2265.length : Int))) fun b2861 hb2861 => ?_
      refine VL.va (op_cmp rfl rfl (congrArg some hb2861) (ltn rfl)) rfl ?_
      refine VL.done ?_
      refine VN.then ?_
      refine VC.seq ?_
      by_cases c2863 : i2839 < (r2265.length : Int)
      · rw [if_pos c2863] at h
        obtain rfl : b2861 = true := hb2861.symm.trans (decide_eq_true c2863)
        refine VC.cond_t rfl ?_
        refine VC.skip ?_
        refine VN.then ?_
        refine VC.seq ?_
        refine VC.block ?_
        refine VC.seq ?_
        refine VC.region ?_
        by_cases c2873 : 0 ≤ i2839
        · rw [if_pos c2873] at h
          replace h := Option.bind_eq_some_iff.1 h
          obtain ⟨x2874, hx2874, h⟩ := h
          refine VL.openR (m := r2265.length) 0 lenm rfl (pos_get hx2874) ?_
          rintro g2875 n2876 rfl
          refine VL.va (op_indexAddr Try.underlying33 TI23 rfl rfl c2873 (lt_get c2873 hx2874) (add_zero_at _ _) (ltn rfl)) rfl ?_
          refine VL.va (op_load_own (sz := 5) (o := 0) 0 i2839.toNat 5 rfl rfl (get_map hx2874) TI23 rfl (fun h => absurd h (by decide)) (ltn rfl)) rfl ?_
          refine VL.sG (o_alloc Z23 ZL23 (ltn rfl)) rfl ?_
          intro g2877
          refine VL.step1 (o_store 0 5 rfl rfl rfl TI23 (.agg (.of rfl)) rfl (len rfl)) rfl ?_
          refine VL.done ?_
          refine VN.then ?_
          refine VC.seq ?_
          refine VC.region ?_
          refine VL.va (op_fieldAddr FI23_2 rfl (add_at _ _ _) (ltn rfl)) rfl ?_
          refine VL.va (op_load 0 1 rfl rfl TI3 rfl (by decide) (ltn rfl)) rfl ?_
          refine VL.va (op_fieldAddr FI23_2 rfl (add_at _ _ _) (ltn rfl)) rfl ?_
          refine VL.va (op_load 3 1 rfl rfl TI3 rfl (by decide) (ltn rfl)) rfl ?_
          refine VL.letter ((x2874.f2 == t392)) fun b2878 hb2878 => ?_
          refine VL.va (op_cmp rfl rfl (congrArg some hb2878) (ltn rfl)) rfl ?_
          refine VL.done ?_
          refine VN.then ?_
          by_cases c2879 : x2874.f2 = t392
          · rw [if_pos c2879] at h
            obtain rfl : b2878 = true := hb2878.symm.trans (beq_iff_eq.2 c2879)
            refine VC.cond_t rfl ?_
            refine VC.seq ?_
            refine VC.region ?_
            refine VL.va (op_move rfl (ltn rfl)) rfl ?_
            refine VL.va (op_ari64 rfl rfl rfl (ltn rfl)) rfl ?_
            refine VL.va (op_assign rfl (ltn rfl)) rfl ?_
            refine VL.done ?_
            refine VN.then ?_
            refine VC.seq ?_
            refine VC.region ?_
            refine VL.va (op_load 0 5 rfl rfl TI23 rfl (fun h => absurd h (by decide)) (ltn rfl)) rfl ?_
            refine VL.va (op_load 3 5 rfl rfl TI23 rfl (fun h => absurd h (by decide)) (ltn rfl)) rfl ?_
            refine VL.letter ((!(((x2874.f0 == t390) && ((x2874.f1 == t391) && ((x2874.f2 == t392) && ((x2874.f3 == t393) && (x2874.f4 == t394)))))))) fun b2880 hb2880 => ?_
            refine VL.va (op_neS rfl rfl EG23 (EQ23 x2874.f0 x2874.f1 x2874.f2 x2874.f3 x2874.f4 t390 t391 t392 t393 t394) hb2880 (ltn rfl)) rfl ?_
            refine VL.done ?_
            refine VN.then ?_
            by_cases c2881 : (((x2874.f0 == t390) && ((x2874.f1 == t391) && ((x2874.f2 == t392) && ((x2874.f3 == t393) && (x2874.f4 == t394)))))) = true
            · rw [if_pos c2881] at h
              obtain rfl : b2880 = false := hb2880.symm.trans (not_t c2881)
              refine VC.cond_f rfl ?_
              refine VC.skip ?_
              refine VN.block ?_
              refine VN.then ?_
              refine VC.region ?_
              refine VL.va (op_ari64 rfl rfl rfl (ltn rfl)) rfl ?_
              refine VL.va (op_move rfl (ltn rfl)) rfl ?_
              refine VL.done ?_
              refine VN.again [1, 2, 3, 4] [0, 1] (ihl3 (wrap64 (i2838 + 1)) (wrap64 (i2839 + 1)) h) ⟨rfl, ⟨rfl, rfl, rfl, rfl, rfl, rfl, rfl, rfl, rfl, rfl, trivial⟩, ⟨⟨0, rfl⟩, ⟨1, rfl⟩, ⟨2, rfl⟩, trivial⟩, rfl, by decide, rfl, by decide⟩
            · rw [if_neg c2881] at h
              obtain rfl : b2880 = true := hb2880.symm.trans (not_f c2881)
              refine VC.cond_t rfl ?_
              refine VC.seq ?_
              refine VC.region ?_
              refine VL.va (op_assign rfl (ltn rfl)) rfl ?_
              refine VL.done ?_
              refine VN.then ?_
              refine VC.ret ?_
              refine VR.block ?_
              refine VR.then ?_
              refine VR.then ?_
              refine VR.block ?_
              refine VR.then ?_
              cases h
          · rw [if_neg c2879] at h
            obtain rfl : b2878 = false := hb2878.symm.trans (beq_eq_false_iff_ne.2 c2879)
            refine VC.cond_f rfl ?_
            refine VC.skip ?_
            refine VN.block ?_
            refine VN.then ?_
            refine VC.region ?_
            refine VL.va (op_ari64 rfl rfl rfl (ltn rfl)) rfl ?_
            refine VL.va (op_move rfl (ltn rfl)) rfl ?_
            refine VL.done ?_
            refine VN.again [1, 2, 3, 4] [0, 1] (ihl3 i2838 (wrap64 (i2839 + 1)) h) ⟨rfl, ⟨rfl, rfl, rfl, rfl, rfl, rfl, rfl, rfl, rfl, rfl, trivial⟩, ⟨⟨0, rfl⟩, ⟨1, rfl⟩, ⟨2, rfl⟩, trivial⟩, rfl, by decide, rfl, by decide⟩
        · rw [if_neg c2873] at h; cases h
      · rw [if_neg c2863] at h
        obtain rfl : b2861 = false := hb2861.symm.trans (decide_eq_false c2863)
        refine VC.cond_f rfl ?_
        refine VC.exit ?_
        refine VX.then ?_
        refine VX.then ?_
        refine VX.hit ?_
        refine VN.meet1 i2838 [0, 1, 2, 3] [1] h ⟨rfl, ⟨rfl, rfl, rfl, rfl, rfl, rfl, rfl, trivial⟩, ⟨⟨0, rfl⟩, ⟨1, rfl⟩, ⟨2, rfl⟩, trivial⟩, rfl, by decide, rfl, by decide⟩
    clear h
    intro i2882 h
    unfold tarrylaw07_GoodsStay.j2 at h
    refine VC.seq ?_
    refine VC.seq ?_
    refine VC.region ?_
    refine VL.va (op_move rfl (ltn rfl)) rfl ?_
    refine VL.letter ((t2266 != 0)) fun b2913 hb2913 => ?_
    refine VL.va (op_cmp rfl rfl (congrArg some hb2913) (ltn rfl)) rfl ?_
    refine VL.va (op_move rfl (ltn rfl)) rfl ?_
    by_cases c2914 : t2266 = 0
    · rw [if_pos c2914] at h
      obtain rfl : b2913 = false := hb2913.symm.trans (bne_eq_false_iff_eq.2 c2914)
      refine VL.va (op_move rfl (ltn rfl)) rfl ?_
      refine VL.letter ((i2882 != 1)) fun b2915 hb2915 => ?_
      refine VL.va (op_cmp rfl rfl (congrArg some hb2915) (ltn rfl)) rfl ?_
      refine VL.va (op_pick rfl rfl (ltn rfl)) rfl ?_
      refine VL.va (op_move rfl (ltn rfl)) rfl ?_
      by_cases c2916 : i2882 = 1
      · rw [if_pos c2916] at h
        obtain rfl : b2915 = false := hb2915.symm.trans (bne_eq_false_iff_eq.2 c2916)
        refine VL.va (op_load 0 2 rfl rfl TI35 rfl (fun h => absurd h (by decide)) (ltn rfl)) rfl ?_
        replace h := Option.bind_eq_some_iff.1 h
        obtain ⟨t2917, hA2918, h⟩ := h
        refine VL.sC (o_call_b0 FO14 (goods_Right.ok k r2068 r2069 v2073 v2075 t2917 hA2918) rfl rfl (ltn rfl) (All_of (.cons (.inl (List.mem_of_getElem? (i := 0) rfl)) (.cons (.inr (.inl ⟨_, List.mem_of_getElem? (i := 0) rfl, rfl⟩)) .nil))) (by rintro _ _ _ ⟨rfl, rfl, rfl⟩; rfl)) rfl ?_
        rintro _ _ _ ⟨rfl, rfl, rfl⟩
        by_cases c2919 : t2917 = true
        · rw [if_pos c2919] at h
          obtain rfl := c2919
          refine VL.va (op_not rfl rfl (ltn rfl)) rfl ?_
          refine VL.va (op_pick rfl rfl (ltn rfl)) rfl ?_
          refine VL.va (op_move rfl (ltn rfl)) rfl ?_
          replace h := Option.bind_eq_some_iff.1 h
          obtain ⟨t2920, hA2921, h⟩ := h
          refine VL.sC (o_call0 FO9 (tarrylaw07_alive.ok k t2920 hA2921) rfl rfl (ltn rfl) (All_of .nil)) rfl ?_
          rintro _ _ _ ⟨rfl, rfl, rfl⟩
          by_cases c2922 : t2920 = true
          · rw [if_pos c2922] at h
            obtain rfl := c2922
            refine VL.va (op_not rfl rfl (ltn rfl)) rfl ?_
            refine VL.va (op_pick rfl rfl (ltn rfl)) rfl ?_
            refine VL.done ?_
            refine VN.then ?_
            refine VC.cond_f rfl ?_
            refine VC.skip ?_
            refine VN.then ?_
            refine VC.seq ?_
            refine VC.region ?_
            refine VL.va (op_load 0 2 rfl rfl TI35 rfl (fun h => absurd h (by decide)) (ltn rfl)) rfl ?_
            refine VL.va (op_load 1 5 rfl rfl TI23 rfl (fun h => absurd h (by decide)) (ltn rfl)) rfl ?_
            refine VL.freezeRow' 0 rfl ?_
            replace h := Option.bind_eq_some_iff.1 h
            obtain ⟨⟨r2923, r2924, t2925⟩, hA2926, h⟩ := h
            dsimp only at h
            refine VL.sC (o_call0 FO12 (goods_Rule.ok k r2068 r2069 t396 t397 t398 t399 t400 v2073 v2075 r2923 r2924 t2925 hA2926) rfl rfl (ltn rfl) (All_of (.cons (List.mem_of_getElem? (i := 1) rfl) (.cons (List.mem_of_getElem? (i := 0) rfl) .nil)))) rfl ?_
            rintro _ _ _ ⟨v2928, v2930, rfl, rfl, rfl⟩
            refine VL.va (op_move rfl (ltn rfl)) rfl ?_
            refine VL.va (op_extract rfl rfl (ltn rfl)) rfl ?_
            refine VL.va (op_extract rfl rfl (ltn rfl)) rfl ?_
            refine VL.sG (o_alloc Z35 ZL35 (ltn rfl)) rfl ?_
            intro g2931
            refine VL.step1 (o_store 0 2 rfl rfl rfl TI35 (.agg (.f 0 rfl (.r 0 rfl .nil))) rfl (len rfl)) rfl ?_
            refine VL.va (op_assign rfl (ltn rfl)) rfl ?_
            refine VL.done ?_
            refine VN.then ?_
            refine VC.seq ?_
            refine VC.region ?_
            refine VL.va (op_load 4 2 rfl rfl TI35 rfl (fun h => absurd h (by decide)) (ltn rfl)) rfl ?_
            refine VL.va (op_load 2 5 rfl rfl TI23 rfl (fun h => absurd h (by decide)) (ltn rfl)) rfl ?_
            replace h := Option.bind_eq_some_iff.1 h
            obtain ⟨⟨r2932, r2933, t2934⟩, hA2935, h⟩ := h
            dsimp only at h
            refine VL.sC (o_call0 FO12 (goods_Rule.ok k r383 r384 t396 t397 t398 t399 t400 v387 v389 r2932 r2933 t2934 hA2935) rfl rfl (ltn rfl) (All_of (.cons (List.mem_of_getElem? (i := 3) rfl) (.cons (List.mem_of_getElem? (i := 4) rfl) .nil)))) rfl ?_
            rintro _ _ _ ⟨v2937, v2939, rfl, rfl, rfl⟩
            refine VL.va (op_move rfl (ltn rfl)) rfl ?_
            refine VL.va (op_extract rfl rfl (ltn rfl)) rfl ?_
            refine VL.va (op_extract rfl rfl (ltn rfl)) rfl ?_
            refine VL.sG (o_alloc Z35 ZL35 (ltn rfl)) rfl ?_
            intro g2940
            refine VL.step1 (o_store 0 2 rfl rfl rfl TI35 (.agg (.f 0 rfl (.r 0 rfl .nil))) rfl (len rfl)) rfl ?_
            refine VL.va (op_assign rfl (ltn rfl)) rfl ?_
            refine VL.done ?_
            refine VN.then ?_
            refine VC.seq ?_
            refine VC.seq ?_
            refine VC.region ?_
            refine VL.va (op_move rfl (ltn rfl)) rfl ?_
            refine VL.letter ((t2925 != 0)) fun b2943 hb2943 => ?_
            refine VL.va (op_cmp rfl rfl (congrArg some hb2943) (ltn rfl)) rfl ?_
            refine VL.done ?_
            refine VN.then ?_
            by_cases c2944 : t2925 = 0
            · rw [if_pos c2944] at h
              obtain rfl : b2943 = false := hb2943.symm.trans (bne_eq_false_iff_eq.2 c2944)
              refine VC.cond_f rfl ?_
              refine VC.skip ?_
              refine VN.then ?_
              refine VC.seq ?_
              refine VC.region ?_
              refine VL.va (op_load 0 2 rfl rfl TI35 rfl (fun h => absurd h (by decide)) (ltn rfl)) rfl ?_
              refine VL.va (op_load 4 5 rfl rfl TI23 rfl (fun h => absurd h (by decide)) (ltn rfl)) rfl ?_
              refine VL.freezeRow' 0 rfl ?_
              replace h := Option.bind_eq_some_iff.1 h
              obtain ⟨⟨r2945, r2946, t2947⟩, hA2948, h⟩ := h
              dsimp only at h
              refine VL.sC (o_call0 FO12 (goods_Rule.ok k r2932 r2933 t390 t391 t392 t393 t394 v2937 v2939 r2945 r2946 t2947 hA2948) rfl rfl (ltn rfl) (All_of (.cons (List.mem_of_getElem? (i := 1) rfl) (.cons (List.mem_of_getElem? (i := 0) rfl) .nil)))) rfl ?_
              rintro _ _ _ ⟨v2950, v2952, rfl, rfl, rfl⟩
              refine VL.va (op_move rfl (ltn rfl)) rfl ?_
              refine VL.va (op_extract rfl rfl (ltn rfl)) rfl ?_
              refine VL.va (op_extract rfl rfl (ltn rfl)) rfl ?_
              refine VL.sG (o_alloc Z35 ZL35 (ltn rfl)) rfl ?_
              intro g2953
              refine VL.step1 (o_store 0 2 rfl rfl rfl TI35 (.agg (.f 0 rfl (.r 0 rfl .nil))) rfl (len rfl)) rfl ?_
              refine VL.va (op_assign rfl (ltn rfl)) rfl ?_
              refine VL.done ?_
              refine VN.then ?_
              refine VC.seq ?_
              refine VC.region ?_
              refine VL.va (op_move rfl (ltn rfl)) rfl ?_
              refine VL.letter ((t2934 == 0)) fun b2960 hb2960 => ?_
              refine VL.va (op_cmp rfl rfl (congrArg some hb2960) (ltn rfl)) rfl ?_
              refine VL.va (op_move rfl (ltn rfl)) rfl ?_
              by_cases c2961 : t2934 = 0
              · rw [if_pos c2961] at h
                obtain rfl : b2960 = true := hb2960.symm.trans (beq_iff_eq.2 c2961)
                refine VL.va (op_move rfl (ltn rfl)) rfl ?_
                refine VL.letter ((t2947 == 0)) fun b2962 hb2962 => ?_
                refine VL.va (op_cmp rfl rfl (congrArg some hb2962) (ltn rfl)) rfl ?_
                refine VL.va (op_pick rfl rfl (ltn rfl)) rfl ?_
                refine VL.va (op_move rfl (ltn rfl)) rfl ?_
                by_cases c2963 : t2947 = 0
                · rw [if_pos c2963] at h
                  obtain rfl : b2962 = true := hb2962.symm.trans (beq_iff_eq.2 c2963)
                  refine VL.va (op_load 2 2 rfl rfl TI35 rfl (fun h => absurd h (by decide)) (ltn rfl)) rfl ?_
                  refine VL.va (op_load 0 2 rfl rfl TI35 rfl (fun h => absurd h (by decide)) (ltn rfl)) rfl ?_
                  replace h := Option.bind_eq_some_iff.1 h
                  obtain ⟨t2964, hA2965, h⟩ := h
                  refine VL.sC (o_call_b0 FO15 (tarryref07_Like.ok k r2923 r2924 r2945 r2946 v2928 v2930 v2950 v2952 t2964 hA2965) rfl rfl (ltn rfl) (All_of (.cons (.inl (List.mem_of_getElem? (i := 3) rfl)) (.cons (.inr (.inl ⟨_, List.mem_of_getElem? (i := 1) rfl, rfl⟩)) (.cons (.inl (List.mem_of_getElem? (i := 0) rfl)) (.cons (.inr (.inl ⟨_, List.mem_of_getElem? (i := 0) rfl, rfl⟩)) .nil))))) (by rintro _ _ _ ⟨rfl, rfl, rfl⟩; rfl)) rfl ?_
                  rintro _ _ _ ⟨rfl, rfl, rfl⟩
                  refine VL.va (op_pick rfl rfl (ltn rfl)) rfl ?_
                  refine VL.va (op_assign rfl (ltn rfl)) rfl ?_
                  refine VL.done ?_
                  refine VN.then ?_
                  refine VC.ret ?_
                  obtain rfl := Option.some.inj h
                  exact VR.fn (rs := [.tmp 6]) [] [] [] rfl (.tmp rfl .nil) ⟨rfl, rfl, rfl⟩ trivial rfl (by decide)
                · rw [if_neg c2963] at h
                  obtain rfl : b2962 = false := hb2962.symm.trans (beq_eq_false_iff_ne.2 c2963)
                  refine VL.un rfl rfl (ltn rfl) ?_
                  refine VL.un rfl rfl (ltn rfl) ?_
                  refine VL.un rfl rfl (ltn rfl) ?_
                  refine VL.va (op_pick rfl rfl (ltn rfl)) rfl ?_
                  refine VL.va (op_assign rfl (ltn rfl)) rfl ?_
                  refine VL.done ?_
                  refine VN.then ?_
                  refine VC.ret ?_
                  cases h
              · rw [if_neg c2961] at h
                obtain rfl : b2960 = false := hb2960.symm.trans (beq_eq_false_iff_ne.2 c2961)
                refine VL.un rfl rfl (ltn rfl) ?_
                refine VL.un rfl rfl (ltn rfl) ?_
                refine VL.va (op_pick rfl rfl (ltn rfl)) rfl ?_
                refine VL.va (op_move rfl (ltn rfl)) rfl ?_
                refine VL.un rfl rfl (ltn rfl) ?_
                refine VL.un rfl rfl (ltn rfl) ?_
                refine VL.un rfl rfl (ltn rfl) ?_
                refine VL.va (op_pick rfl rfl (ltn rfl)) rfl ?_
                refine VL.va (op_assign rfl (ltn rfl)) rfl ?_
                refine VL.done ?_
                refine VN.then ?_
                refine VC.ret ?_
                cases h
            · rw [if_neg c2944] at h
              obtain rfl : b2943 = true := hb2943.symm.trans (bne_iff_ne.2 c2944)
              refine VC.cond_t rfl ?_
              refine VC.seq ?_
              refine VC.region ?_
              refine VL.va (op_assign rfl (ltn rfl)) rfl ?_
              refine VL.done ?_
              refine VN.then ?_
              refine VC.ret ?_
              refine VR.then ?_
              obtain rfl := Option.some.inj h
              exact VR.fn (rs := [.tmp 6]) [] [] [] rfl (.tmp rfl .nil) ⟨rfl, rfl, rfl⟩ trivial rfl (by decide)
          · rw [if_neg c2922] at h
            obtain rfl := Bool.eq_false_iff.2 c2922
            refine VL.va (op_not rfl rfl (ltn rfl)) rfl ?_
            refine VL.va (op_pick rfl rfl (ltn rfl)) rfl ?_
            refine VL.done ?_
            refine VN.then ?_
            refine VC.cond_t rfl ?_
            refine VC.seq ?_
            refine VC.region ?_
            refine VL.va (op_assign rfl (ltn rfl)) rfl ?_
            refine VL.done ?_
            refine VN.then ?_
            refine VC.ret ?_
            refine VR.then ?_
            cases h
        · rw [if_neg c2919] at h
          obtain rfl := Bool.eq_false_iff.2 c2919
          refine VL.va (op_not rfl rfl (ltn rfl)) rfl ?_
          refine VL.va (op_pick rfl rfl (ltn rfl)) rfl ?_
          refine VL.va (op_move rfl (ltn rfl)) rfl ?_
          refine VL.un rfl rfl (ltn rfl) ?_
          refine VL.un rfl rfl (ltn rfl) ?_
          refine VL.va (op_pick rfl rfl (ltn rfl)) rfl ?_
          refine VL.done ?_
          refine VN.then ?_
          refine VC.cond_t rfl ?_
          refine VC.seq ?_
          refine VC.region ?_
          refine VL.va (op_assign rfl (ltn rfl)) rfl ?_
          refine VL.done ?_
          refine VN.then ?_
          refine VC.ret ?_
          refine VR.then ?_
          cases h
      · rw [if_neg c2916] at h
        obtain rfl : b2915 = true := hb2915.symm.trans (bne_iff_ne.2 c2916)
        refine VL.un rfl rfl (ltn rfl) ?_
        refine VL.un rfl rfl (ltn rfl) ?_
        refine VL.un rfl rfl (ltn rfl) ?_
        refine VL.va (op_pick rfl rfl (ltn rfl)) rfl ?_
        refine VL.va (op_move rfl (ltn rfl)) rfl ?_
        refine VL.un rfl rfl (ltn rfl) ?_
        refine VL.un rfl rfl (ltn rfl) ?_
        refine VL.va (op_pick rfl rfl (ltn rfl)) rfl ?_
        refine VL.done ?_
        refine VN.then ?_
        refine VC.cond_t rfl ?_
        refine VC.seq ?_
        refine VC.region ?_
        refine VL.va (op_assign rfl (ltn rfl)) rfl ?_
        refine VL.done ?_
        refine VN.then ?_
        refine VC.ret ?_
        refine VR.then ?_
        cases h
    · rw [if_neg c2914] at h
      obtain rfl : b2913 = true := hb2913.symm.trans (bne_iff_ne.2 c2914)
      refine VL.un rfl rfl (ltn rfl) ?_
      refine VL.un rfl rfl (ltn rfl) ?_
      refine VL.va (op_pick rfl rfl (ltn rfl)) rfl ?_
      refine VL.va (op_move rfl (ltn rfl)) rfl ?_
      refine VL.un rfl rfl (ltn rfl) ?_
      refine VL.un rfl rfl (ltn rfl) ?_
      refine VL.un rfl rfl (ltn rfl) ?_
      refine VL.va (op_pick rfl rfl (ltn rfl)) rfl ?_
      refine VL.va (op_move rfl (ltn rfl)) rfl ?_
      refine VL.un rfl rfl (ltn rfl) ?_
      refine VL.un rfl rfl (ltn rfl) ?_
      refine VL.va (op_pick rfl rfl (ltn rfl)) rfl ?_
      refine VL.done ?_
      refine VN.then ?_
      refine VC.cond_t rfl ?_
      refine VC.seq ?_
      refine VC.region ?_
      refine VL.va (op_assign rfl (ltn rfl)) rfl ?_
      refine VL.done ?_
      refine VN.then ?_
      refine VC.ret ?_
      refine VR.then ?_
      cases h
  · rw [if_neg c2121] at h
    obtain rfl : b2120 = true := hb2120.symm.trans (bne_iff_ne.2 c2121)
    refine VC.cond_t rfl ?_
    refine VC.seq ?_
    refine VC.region ?_
    replace h := Option.bind_eq_some_iff.1 h
    obtain ⟨t2966, hA2967, h⟩ := h
    refine VL.sC (o_call0 FO9 (tarrylaw07_alive.ok k t2966 hA2967) rfl rfl (ltn rfl) (All_of .nil)) rfl ?_
    rintro _ _ _ ⟨rfl, rfl, rfl⟩
    refine VL.va (op_assign rfl (ltn rfl)) rfl ?_
    refine VL.done ?_
    refine VN.then ?_
    refine VC.ret ?_
    refine VR.then ?_
    obtain rfl := Option.some.inj h
    exact VR.fn (rs := [.tmp 6]) [] [] [] rfl (.tmp rfl .nil) ⟨rfl, rfl, rfl⟩ trivial rfl (by decide)

end Go.Proofs.Ytoiihpmncphplaa.PGoodsStay
