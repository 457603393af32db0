/- Written by a program of this repo: what the program's functions do, each as a Lean function, shown of the loaded code; or a statement's row over that; no condition of its own. -/
import Derived.Test.YtapdeoioenblfaaPOutboxGoesx3
namespace Go.Proofs.Ytapdeoioenblfaa.POutboxGoes
open Go Go.RowKit Go.Proofs.YtapdeoioenblfaaV
set_option linter.unusedVariables false
set_option linter.unusedSimpArgs false

set_option maxHeartbeats 4000000 in
set_option maxRecDepth 100000 in
theorem outbox_Done.ok (k : Nat) (a0_0 : Int) (l0_1 : List S33) (a1 : Int) (v0_1 : Value) (r1 : Int) (r2 : List S33) (r3 : Int) (r4 : Int) (r5 : Int) (r6 : Int) (r7 : Int) (h : outbox_Done.f k a0_0 l0_1 a1 = some (r1, r2, r3, r4, r5, r6, r7)) :
    VCalls Try.prog 6 [.agg #[.int .i64 a0_0, v0_1], .int .i64 a1] [.row v0_1 4 (l0_1.map enc33)] (fun v G own => ∃ w1 : Value, v = .tuple #[.agg #[.int .i64 r1, w1], .agg #[.int .i64 r3, .int .i64 r4, .int .i64 r5, .int .i64 r6], .int .i64 r7] ∧ G = [] ∧ own = [(w1, 34, 4, r2.map enc33)]) := by
  refine VCalls.intro Try.func6 rfl (len rfl) fun E hC hW hD => ?_
  unfold outbox_Done.f at h
  refine VC.seq ?_
  refine VC.region ?_
  refine VL.sG (o_box rfl (.agg (.c rfl (.f 0 rfl .nil))) (ltn rfl)) rfl ?_
  intro g1030
  refine VL.sG (o_box rfl (.c rfl) (ltn rfl)) rfl ?_
  intro g1031
  refine VL.sG (o_alloc Z25 ZL25 (ltn rfl)) rfl ?_
  intro g1032
  refine VL.sG (o_alloc Z34 ZL34 (ltn rfl)) rfl ?_
  intro g1033
  refine VL.va (op_assign rfl (ltn rfl)) rfl ?_
  refine VL.done ?_
  refine VN.then ?_
  refine VC.seq ?_
  refine VC.seq ?_
  refine VC.region ?_
  refine VL.va (op_load 3 2 rfl rfl TI25 rfl (fun h => absurd h (by decide)) (ltn rfl)) rfl ?_
  replace h := Option.bind_eq_some_iff.1 h
  obtain ⟨t1044, hA1045, h⟩ := h
  refine VL.sC (o_call0 FO8 (outbox_Right.ok k a0_0 l0_1 v0_1 t1044 hA1045) rfl rfl (ltn rfl) (All_of (.cons (List.mem_of_getElem? (i := 0) rfl) .nil))) rfl ?_
  rintro _ _ _ ⟨rfl, rfl, rfl⟩
  by_cases c1046 : t1044 = true
  · rw [if_pos c1046] at h
    obtain rfl := c1046
    refine VL.va (op_not rfl rfl (ltn rfl)) rfl ?_
    refine VL.done ?_
    refine VN.then ?_
    refine VC.cond_f rfl ?_
    refine VC.skip ?_
    refine VN.then ?_
    refine VC.seq ?_
    refine VC.region ?_
    refine VL.va (op_fieldAddr FI25_1 rfl (add_at _ _ _) (ltn rfl)) rfl ?_
    refine VL.va (op_load 3 1 rfl rfl TI23 rfl (by decide) (ltn rfl)) rfl ?_
    refine VL.va (op_makeFunc (vals := [.pointer (some ⟨g1031, 0, none⟩)]) rfl (ltn rfl)) rfl ?_
    refine VL.freeze' 2 rfl ?_
    replace h := Option.bind_eq_some_iff.1 h
    obtain ⟨t1153, hA1154, h⟩ := h
    refine VL.sC (o_call0 FO24 (outbox_where_Out_s11.ok k l0_1 a1 v0_1 g1031 t1153 hA1154) rfl rfl (ltn rfl) (All_of (.cons (List.mem_of_getElem? (i := 1) rfl) (.cons (List.mem_of_getElem? (i := 0) rfl) .nil)))) rfl ?_
    rintro _ _ _ ⟨rfl, rfl, rfl⟩
    refine VL.va (op_assign rfl (ltn rfl)) rfl ?_
    refine VL.done ?_
    refine VN.then ?_
    refine VC.seq ?_
    refine VC.seq ?_
    refine VC.region ?_
    refine VL.va (op_move rfl (ltn rfl)) rfl ?_
    refine VL.letter (decide (t1153 < 0)) fun b1158 hb1158 => ?_
    refine VL.va (op_cmp rfl rfl (congrArg some hb1158) (ltn rfl)) rfl ?_
    refine VL.done ?_
    refine VN.then ?_
    by_cases c1159 : t1153 < 0
    · rw [if_pos c1159] at h
      obtain rfl : b1158 = true := hb1158.symm.trans (decide_eq_true c1159)
      refine VC.cond_t rfl ?_
      refine VC.seq ?_
      refine VC.region ?_
      refine VL.va (op_build (vals := []) (vcs := []) (cells := [.int .i64 0, .slice none 0 0]) SI25 rfl .nil (by kernel_rfl) (ltn rfl)) rfl ?_
      refine VL.va (op_build (vals := []) (vcs := []) (cells := [.int .i64 0, .int .i64 0, .int .i64 0, .int .i64 0]) SI34 rfl .nil (by kernel_rfl) (ltn rfl)) rfl ?_
      refine VL.step1 (o_store 1 2 rfl rfl rfl TI25 (.agg (.of rfl)) rfl (len rfl)) rfl ?_
      refine VL.step1 (o_store 0 4 rfl rfl rfl TI34 (.agg (.of rfl)) rfl (len rfl)) rfl ?_
      refine VL.va (op_assign rfl (ltn rfl)) rfl ?_
      refine VL.done ?_
      refine VN.then ?_
      refine VC.ret ?_
      refine VR.then ?_
      simp only [Option.some.injEq, Prod.mk.injEq] at h
      obtain ⟨rfl, rfl, rfl, rfl, rfl, rfl, rfl⟩ := h
      refine VR.nilRow' 34 4 ?_
      exact VR.fn (rs := [.cell 4 25, .cell 5 34, .tmp 6]) [] [((.slice none 0 0), 34, 4, ([] : List S33).map enc33)] [0] rfl (.cell 1 rfl rfl TI25 (fun h => absurd h (by decide)) (.cell 0 rfl rfl TI34 (fun h => absurd h (by decide)) (.tmp rfl .nil))) ⟨(.slice none 0 0), rfl, rfl, rfl⟩ trivial rfl (by decide)
    · rw [if_neg c1159] at h
      obtain rfl : b1158 = false := hb1158.symm.trans (decide_eq_false c1159)
      refine VC.cond_f rfl ?_
      refine VC.skip ?_
      refine VN.then ?_
      refine VC.seq ?_
      refine VC.region ?_
      refine VL.va (op_fieldAddr FI25_1 rfl (add_at _ _ _) (ltn rfl)) rfl ?_
      refine VL.va (op_load 2 1 rfl rfl TI23 rfl (by decide) (ltn rfl)) rfl ?_
      refine VL.va (op_move rfl (ltn rfl)) rfl ?_
      by_cases c1161 : 0 ≤ t1153
      · rw [if_pos c1161] at h
        replace h := Option.bind_eq_some_iff.1 h
        obtain ⟨x1162, hx1162, h⟩ := h
        refine VL.open (m := l0_1.length) 1 lenm rfl (pos_get hx1162) ?_
        rintro ad1163 n1164 rfl
        refine VL.va (op_indexAddr Try.underlying23 TI34 rfl rfl c1161 (lt_get c1161 hx1162) rfl (ltn rfl)) rfl ?_
        refine VL.va (op_load_row (sz := 4) (o := 0) 1 t1153.toNat 4 rfl rfl (get_map hx1162) TI34 rfl (fun h => absurd h (by decide)) (ltn rfl)) rfl ?_
        refine VL.sG (o_alloc Z34 ZL34 (ltn rfl)) rfl ?_
        intro g1165
        refine VL.step1 (o_store 0 4 rfl rfl rfl TI34 (.agg (.of rfl)) rfl (len rfl)) rfl ?_
        refine VL.done ?_
        refine VN.then ?_
        refine VC.seq ?_
        refine VC.region ?_
        refine VL.va (op_fieldAddr FI25_1 rfl (add_at _ _ _) (ltn rfl)) rfl ?_
        refine VL.va (op_load 3 1 rfl rfl TI23 rfl (by decide) (ltn rfl)) rfl ?_
        replace h := Option.bind_eq_some_iff.1 h
        obtain ⟨r1166, hA1167, h⟩ := h
        refine VL.sC (o_call_b0 FO29 (slices_Clone_api_Out_api_Out.ok l0_1 (.slice (some ad1163) l0_1.length n1164) r1166 hA1167) rfl rfl (ltn rfl) (All_of (.cons (.inl (List.mem_of_getElem? (i := 1) rfl)) .nil)) (by rintro _ _ _ ⟨_, rfl, rfl, rfl⟩; rfl)) rfl ?_
        rintro v1169 _ _ ⟨_, rfl, rfl, rfl⟩
        refine VL.va (op_move rfl (ltn rfl)) rfl ?_
        refine VL.va (op_move rfl (ltn rfl)) rfl ?_
        refine VL.va (op_ari64 rfl rfl rfl (ltn rfl)) rfl ?_
        replace h := Option.bind_eq_some_iff.1 h
        obtain ⟨r1170, hA1171, h⟩ := h
        refine VL.sG (o_call_own0 (vals := [v1169, .int .i64 t1153, .int .i64 (wrap64 (t1153 + 1))]) 0 rfl FO28 (slices_Delete_api_Out_api_Out.ok r1166 t1153 (wrap64 (t1153 + 1)) v1169 r1170 hA1171) rfl rfl (ltn rfl) (by simp)) rfl ?_
        intro v1172
        refine VL.va (op_fieldAddr FI25_1 rfl (add_at _ _ _) (ltn rfl)) rfl ?_
        refine VL.step1 (o_store 3 1 rfl rfl rfl TI23 (.r 0 rfl) rfl (len rfl)) rfl ?_
        refine VL.done ?_
        refine VN.then ?_
        refine VC.join0 (⟨37, [(4, .pointer (some ⟨g1032, 0, none⟩)), (5, .pointer (some ⟨g1033, 0, none⟩)), (6, .int .i64 0)], [], [(g1033, 34, [.int .i64 x1162.f0, .int .i64 x1162.f1, .int .i64 x1162.f2, .int .i64 x1162.f3]), (g1032, 25, [.int .i64 a0_0, v1172])], [(v1172, 34, 4, r1170.map enc33)]⟩) (True) ?_ ?_
        · refine VC.draw ⟨0, [], [], [(g1165, 34, [.int .i64 x1162.f0, .int .i64 x1162.f1, .int .i64 x1162.f2, .int .i64 x1162.f3]), (g1030, 25, [.int .i64 a0_0, v1172])], []⟩ (by kernel_rfl) rfl (by kernel_rfl) (n := 5) (listed := LB 5 0) ?_
          refine VA.va (i := 0) (listed' := LB 5 1) rfl (op_load 1 2 rfl rfl TI25 rfl (fun h => absurd h (by decide)) (ltn rfl)) rfl (by kernel_rfl) (by kernel_rfl) (by kernel_rfl) (by kernel_rfl) ⟨trivial, ⟨⟨0, rfl⟩, ⟨3, rfl⟩, trivial⟩, trivial⟩ (fun _ _ _ h => h) ?_
          refine VA.va (i := 1) (listed' := LB 5 3) rfl (op_load 0 4 rfl rfl TI34 rfl (fun h => absurd h (by decide)) (ltn rfl)) rfl (by kernel_rfl) (by kernel_rfl) (by kernel_rfl) (by kernel_rfl) ⟨trivial, ⟨⟨0, rfl⟩, ⟨3, rfl⟩, trivial⟩, trivial⟩ (fun _ _ _ h => h) ?_
          refine VA.one1 (i := 2) (listed' := LB 5 7) (by kernel_rfl) rfl (o_store 2 2 rfl rfl rfl TI25 (.agg (.c rfl (.r 0 rfl .nil))) rfl (len rfl)) rfl (by kernel_rfl) ⟨trivial, ⟨⟨0, rfl⟩, ⟨3, rfl⟩, trivial⟩, trivial⟩ ?_
          refine VA.one1 (i := 3) (listed' := LB 5 15) (by kernel_rfl) rfl (o_store 1 4 rfl rfl rfl TI34 (.agg (.of rfl)) rfl (len rfl)) rfl (by kernel_rfl) ⟨trivial, ⟨⟨0, rfl⟩, ⟨3, rfl⟩, trivial⟩, trivial⟩ ?_
          refine VA.va (i := 4) (listed' := LB 5 31) rfl (op_assign rfl (ltn rfl)) rfl (by kernel_rfl) (by kernel_rfl) (by kernel_rfl) (by kernel_rfl) ⟨trivial, ⟨⟨0, rfl⟩, ⟨3, rfl⟩, trivial⟩, trivial⟩ (fun _ _ _ h => h) ?_
          refine VA.done (by kernel_rfl) ?_
          exact VN.meet0  [1, 2] [0] trivial ⟨rfl, ⟨rfl, rfl, rfl, trivial⟩, trivial, rfl, by decide, rfl, by decide⟩
        intro _
        refine VC.ret ?_
        simp only [Option.some.injEq, Prod.mk.injEq] at h
        obtain ⟨rfl, rfl, rfl, rfl, rfl, rfl, rfl⟩ := h
        exact VR.fn (rs := [.cell 4 25, .cell 5 34, .tmp 6]) [] [(v1172, 34, 4, r1170.map enc33)] [0] rfl (.cell 1 rfl rfl TI25 (fun h => absurd h (by decide)) (.cell 0 rfl rfl TI34 (fun h => absurd h (by decide)) (.tmp rfl .nil))) ⟨v1172, rfl, rfl, rfl⟩ trivial rfl (by decide)
      · rw [if_neg c1161] at h; cases h
  · rw [if_neg c1046] at h
    obtain rfl := Bool.eq_false_iff.2 c1046
    refine VL.va (op_not rfl rfl (ltn rfl)) rfl ?_
    refine VL.done ?_
    refine VN.then ?_
    refine VC.cond_t rfl ?_
    refine VC.seq ?_
    refine VC.region ?_
    refine VL.va (op_build (vals := []) (vcs := []) (cells := [.int .i64 0, .slice none 0 0]) SI25 rfl .nil (by kernel_rfl) (ltn rfl)) rfl ?_
    refine VL.va (op_build (vals := []) (vcs := []) (cells := [.int .i64 0, .int .i64 0, .int .i64 0, .int .i64 0]) SI34 rfl .nil (by kernel_rfl) (ltn rfl)) rfl ?_
    refine VL.step1 (o_store 1 2 rfl rfl rfl TI25 (.agg (.of rfl)) rfl (len rfl)) rfl ?_
    refine VL.step1 (o_store 0 4 rfl rfl rfl TI34 (.agg (.of rfl)) rfl (len rfl)) rfl ?_
    refine VL.va (op_assign rfl (ltn rfl)) rfl ?_
    refine VL.done ?_
    refine VN.then ?_
    refine VC.ret ?_
    refine VR.then ?_
    simp only [Option.some.injEq, Prod.mk.injEq] at h
    obtain ⟨rfl, rfl, rfl, rfl, rfl, rfl, rfl⟩ := h
    refine VR.nilRow' 34 4 ?_
    exact VR.fn (rs := [.cell 4 25, .cell 5 34, .tmp 6]) [] [((.slice none 0 0), 34, 4, ([] : List S33).map enc33)] [0] rfl (.cell 1 rfl rfl TI25 (fun h => absurd h (by decide)) (.cell 0 rfl rfl TI34 (fun h => absurd h (by decide)) (.tmp rfl .nil))) ⟨(.slice none 0 0), rfl, rfl, rfl⟩ trivial rfl (by decide)
set_option maxHeartbeats 4000000 in
set_option maxRecDepth 100000 in
theorem outbox_Find.ok (k : Nat) (a0_0 : Int) (l0_1 : List S33) (a1 : Int) (a2 : Int) (v0_1 : Value) (r1 : Int) (r2 : Int) (r3 : Int) (r4 : Int) (r5 : Int) (h : outbox_Find.f k a0_0 l0_1 a1 a2 = some (r1, r2, r3, r4, r5)) :
    VCalls Try.prog 11 [.agg #[.int .i64 a0_0, v0_1], .int .i64 a1, .int .i64 a2] [.row v0_1 4 (l0_1.map enc33)] (fun v G own => v = .tuple #[.agg #[.int .i64 r1, .int .i64 r2, .int .i64 r3, .int .i64 r4], .int .i64 r5] ∧ G = [] ∧ own = []) := by
  refine VCalls.intro Try.func11 rfl (len rfl) fun E hC hW hD => ?_
  unfold outbox_Find.f at h
  refine VC.seq ?_
  refine VC.region ?_
  refine VL.sG (o_box rfl (.agg (.c rfl (.f 0 rfl .nil))) (ltn rfl)) rfl ?_
  intro g1188
  refine VL.sG (o_alloc Z34 ZL34 (ltn rfl)) rfl ?_
  intro g1189
  refine VL.va (op_assign rfl (ltn rfl)) rfl ?_
  refine VL.done ?_
  refine VN.then ?_
  refine VC.seq ?_
  refine VC.seq ?_
  refine VC.region ?_
  refine VL.va (op_load 1 2 rfl rfl TI25 rfl (fun h => absurd h (by decide)) (ltn rfl)) rfl ?_
  replace h := Option.bind_eq_some_iff.1 h
  obtain ⟨t1199, hA1200, h⟩ := h
  refine VL.sC (o_call0 FO8 (outbox_Right.ok k a0_0 l0_1 v0_1 t1199 hA1200) rfl rfl (ltn rfl) (All_of (.cons (List.mem_of_getElem? (i := 0) rfl) .nil))) rfl ?_
  rintro _ _ _ ⟨rfl, rfl, rfl⟩
  by_cases c1201 : t1199 = true
  · rw [if_pos c1201] at h
    obtain rfl := c1201
    refine VL.va (op_not rfl rfl (ltn rfl)) rfl ?_
    refine VL.done ?_
    refine VN.then ?_
    refine VC.cond_f rfl ?_
    refine VC.skip ?_
    refine VN.then ?_
    replace h := Option.bind_eq_some_iff.1 h
    obtain ⟨⟨t1202, t1203⟩, hA1204, h⟩ := h
    dsimp only at h
    replace h := Option.bind_eq_some_iff.1 h
    obtain ⟨t1207, hA1208, h⟩ := h
    refine VC.join0 (⟨27, [(3, .pointer (some ⟨g1188, 0, none⟩)), (6, .pointer (some ⟨g1189, 0, none⟩)), (7, .int .i64 0), (8, .int .i64 t1207)], [.row v0_1 4 (l0_1.map enc33)], [(g1189, 34, [.int .i64 0, .int .i64 0, .int .i64 0, .int .i64 0]), (g1188, 25, [.int .i64 a0_0, v0_1])], []⟩) (True) ?_ ?_
    · refine VC.draw ⟨0, [], [], [(g1188, 25, [.int .i64 a0_0, v0_1])], []⟩ (by kernel_rfl) rfl (by kernel_rfl) (n := 7) (listed := LB 7 0) ?_
      refine VA.va (i := 0) (listed' := LB 7 1) rfl (op_fieldAddr FI25_1 rfl (add_at _ _ _) (ltn rfl)) rfl (by kernel_rfl) (by kernel_rfl) (by kernel_rfl) (by kernel_rfl) ⟨trivial, ⟨⟨1, rfl⟩, trivial⟩, trivial⟩ (fun _ _ _ h => h) ?_
      refine VA.va (i := 1) (listed' := LB 7 3) rfl (op_load 0 1 rfl rfl TI23 rfl (by decide) (ltn rfl)) rfl (by kernel_rfl) (by kernel_rfl) (by kernel_rfl) (by kernel_rfl) ⟨trivial, ⟨⟨1, rfl⟩, trivial⟩, trivial⟩ (fun _ _ _ h => h) ?_
      refine VA.va (i := 2) (listed' := LB 7 7) rfl (op_move rfl (ltn rfl)) rfl (by kernel_rfl) (by kernel_rfl) (by kernel_rfl) (by kernel_rfl) ⟨trivial, ⟨⟨1, rfl⟩, trivial⟩, trivial⟩ (fun _ _ _ h => h) ?_
      refine VA.va (i := 3) (listed' := LB 7 15) rfl (op_move rfl (ltn rfl)) rfl (by kernel_rfl) (by kernel_rfl) (by kernel_rfl) (by kernel_rfl) ⟨trivial, ⟨⟨1, rfl⟩, trivial⟩, trivial⟩ (fun _ _ _ h => h) ?_
      refine VA.oneC (i := 4) (listed' := LB 7 31) (by kernel_rfl) rfl (o_call0 FO25 (outbox_of.ok a1 a2 t1202 t1203 hA1204) rfl rfl (ltn rfl) (All_of .nil)) rfl (by kernel_rfl) ?_
      rintro _ _ _ ⟨g1205, g1206, rfl, rfl, rfl⟩
      refine ⟨⟨trivial, ⟨⟨1, rfl⟩, trivial⟩, trivial⟩, ?_⟩
      refine VA.oneC (i := 5) (listed' := LB 7 63) (by kernel_rfl) rfl (o_call0 FO24 (outbox_where_Out.ok k l0_1 t1202 t1203 v0_1 g1205 g1206 t1207 hA1208) rfl rfl (ltn rfl) (All_of (.cons (List.mem_of_getElem? (i := 2) rfl) (.cons (List.mem_of_getElem? (i := 0) rfl) (.cons (List.mem_of_getElem? (i := 1) rfl) .nil))))) rfl (by kernel_rfl) ?_
      rintro _ _ _ ⟨rfl, rfl, rfl⟩
      refine ⟨⟨trivial, ⟨⟨1, rfl⟩, trivial⟩, trivial⟩, ?_⟩
      refine VA.va (i := 6) (listed' := LB 7 127) rfl (op_assign rfl (ltn rfl)) rfl (by kernel_rfl) (by kernel_rfl) (by kernel_rfl) (by kernel_rfl) ⟨trivial, ⟨⟨1, rfl⟩, trivial⟩, trivial⟩ (fun _ _ _ h => h) ?_
      refine VA.done (by kernel_rfl) ?_
      exact VN.meet0  [0, 1] [] trivial ⟨rfl, ⟨rfl, rfl, rfl, rfl, trivial⟩, ⟨⟨2, rfl⟩, trivial⟩, rfl, by decide, rfl, by decide⟩
    intro _
    refine VC.seq ?_
    refine VC.seq ?_
    refine VC.region ?_
    refine VL.va (op_move rfl (ltn rfl)) rfl ?_
    refine VL.letter (decide (t1207 < 0)) fun b1211 hb1211 => ?_
    refine VL.va (op_cmp rfl rfl (congrArg some hb1211) (ltn rfl)) rfl ?_
    refine VL.done ?_
    refine VN.then ?_
    by_cases c1212 : t1207 < 0
    · rw [if_pos c1212] at h
      obtain rfl : b1211 = true := hb1211.symm.trans (decide_eq_true c1212)
      refine VC.cond_t rfl ?_
      refine VC.seq ?_
      refine VC.region ?_
      refine VL.va (op_build (vals := []) (vcs := []) (cells := [.int .i64 0, .int .i64 0, .int .i64 0, .int .i64 0]) SI34 rfl .nil (by kernel_rfl) (ltn rfl)) rfl ?_
      refine VL.step1 (o_store 0 4 rfl rfl rfl TI34 (.agg (.of rfl)) rfl (len rfl)) rfl ?_
      refine VL.va (op_assign rfl (ltn rfl)) rfl ?_
      refine VL.done ?_
      refine VN.then ?_
      refine VC.ret ?_
      refine VR.then ?_
      simp only [Option.some.injEq, Prod.mk.injEq] at h
      obtain ⟨rfl, rfl, rfl, rfl, rfl⟩ := h
      exact VR.fn (rs := [.cell 6 34, .tmp 7]) [] [] [] rfl (.cell 0 rfl rfl TI34 (fun h => absurd h (by decide)) (.tmp rfl .nil)) ⟨rfl, rfl, rfl⟩ trivial rfl (by decide)
    · rw [if_neg c1212] at h
      obtain rfl : b1211 = false := hb1211.symm.trans (decide_eq_false c1212)
      refine VC.cond_f rfl ?_
      refine VC.skip ?_
      refine VN.then ?_
      refine VC.seq ?_
      refine VC.region ?_
      refine VL.va (op_fieldAddr FI25_1 rfl (add_at _ _ _) (ltn rfl)) rfl ?_
      refine VL.va (op_load 1 1 rfl rfl TI23 rfl (by decide) (ltn rfl)) rfl ?_
      refine VL.va (op_move rfl (ltn rfl)) rfl ?_
      by_cases c1213 : 0 ≤ t1207
      · rw [if_pos c1213] at h
        replace h := Option.bind_eq_some_iff.1 h
        obtain ⟨x1214, hx1214, h⟩ := h
        refine VL.open (m := l0_1.length) 0 lenm rfl (pos_get hx1214) ?_
        rintro ad1215 n1216 rfl
        refine VL.va (op_indexAddr Try.underlying23 TI34 rfl rfl c1213 (lt_get c1213 hx1214) rfl (ltn rfl)) rfl ?_
        refine VL.va (op_load_row (sz := 4) (o := 0) 0 t1207.toNat 4 rfl rfl (get_map hx1214) TI34 rfl (fun h => absurd h (by decide)) (ltn rfl)) rfl ?_
        refine VL.step1 (o_store 0 4 rfl rfl rfl TI34 (.agg (.of rfl)) rfl (len rfl)) rfl ?_
        refine VL.va (op_assign rfl (ltn rfl)) rfl ?_
        refine VL.done ?_
        refine VN.then ?_
        refine VC.ret ?_
        simp only [Option.some.injEq, Prod.mk.injEq] at h
        obtain ⟨rfl, rfl, rfl, rfl, rfl⟩ := h
        exact VR.fn (rs := [.cell 6 34, .tmp 7]) [] [] [] rfl (.cell 0 rfl rfl TI34 (fun h => absurd h (by decide)) (.tmp rfl .nil)) ⟨rfl, rfl, rfl⟩ trivial rfl (by decide)
      · rw [if_neg c1213] at h; cases h
  · rw [if_neg c1201] at h
    obtain rfl := Bool.eq_false_iff.2 c1201
    refine VL.va (op_not rfl rfl (ltn rfl)) rfl ?_
    refine VL.done ?_
    refine VN.then ?_
    refine VC.cond_t rfl ?_
    refine VC.seq ?_
    refine VC.region ?_
    refine VL.va (op_build (vals := []) (vcs := []) (cells := [.int .i64 0, .int .i64 0, .int .i64 0, .int .i64 0]) SI34 rfl .nil (by kernel_rfl) (ltn rfl)) rfl ?_
    refine VL.step1 (o_store 0 4 rfl rfl rfl TI34 (.agg (.of rfl)) rfl (len rfl)) rfl ?_
    refine VL.va (op_assign rfl (ltn rfl)) rfl ?_
    refine VL.done ?_
    refine VN.then ?_
    refine VC.ret ?_
    refine VR.then ?_
    simp only [Option.some.injEq, Prod.mk.injEq] at h
    obtain ⟨rfl, rfl, rfl, rfl, rfl⟩ := h
    exact VR.fn (rs := [.cell 6 34, .tmp 7]) [] [] [] rfl (.cell 0 rfl rfl TI34 (fun h => absurd h (by decide)) (.tmp rfl .nil)) ⟨rfl, rfl, rfl⟩ trivial rfl (by decide)
set_option maxHeartbeats 4000000 in
set_option maxRecDepth 100000 in
theorem outbox_due.ok (l0 : List S33) (a1 : Int) (v0 : Value) (r1 : List S33) (r2 : Int) (h : outbox_due.f l0 a1 = some (r1, r2)) :
    VCalls Try.prog 30 [v0, .int .i64 a1] [.row v0 4 (l0.map enc33)] (fun v G own => ∃ w0 : Value, ∃ p0 p1 : Nat, v = .func (.func 34) #[] #[.pointer (some ⟨p0, 0, none⟩), .pointer (some ⟨p1, 0, none⟩)] ∧ G = [.row w0 4 (r1.map enc33), .at_ ⟨p0, 0, none⟩ [w0], .at_ ⟨p1, 0, none⟩ [.int .i64 r2]] ∧ own = []) := by
  refine VCalls.intro Try.func30 rfl (len rfl) fun E hC hW hD => ?_
  unfold outbox_due.f at h
  refine VC.seq ?_
  refine VC.region ?_
  refine VL.sG (o_box rfl (.f 0 rfl) (ltn rfl)) rfl ?_
  intro g1266
  refine VL.sG (o_box rfl (.c rfl) (ltn rfl)) rfl ?_
  intro g1267
  refine VL.va (op_assign rfl (ltn rfl)) rfl ?_
  refine VL.done ?_
  refine VN.then ?_
  refine VC.seq ?_
  refine VC.region ?_
  refine VL.va (op_makeFunc (vals := [.pointer (some ⟨g1266, 0, none⟩), .pointer (some ⟨g1267, 0, none⟩)]) rfl (ltn rfl)) rfl ?_
  refine VL.va (op_assign rfl (ltn rfl)) rfl ?_
  refine VL.done ?_
  refine VN.then ?_
  refine VC.ret ?_
  simp only [Option.some.injEq, Prod.mk.injEq] at h
  obtain ⟨rfl, rfl⟩ := h
  refine VR.freeze' 1 rfl ?_
  refine VR.freeze' 0 rfl ?_
  exact VR.fn (rs := [.tmp 4]) [.row v0 4 (l0.map enc33), .at_ ⟨g1266, 0, none⟩ [v0], .at_ ⟨g1267, 0, none⟩ [.int .i64 a1]] [] [] rfl (.tmp rfl .nil) ⟨v0, g1266, g1267, rfl, rfl, rfl⟩ ⟨⟨2, rfl⟩, ⟨1, rfl⟩, ⟨0, rfl⟩, trivial⟩ rfl (by decide)
set_option maxHeartbeats 4000000 in
set_option maxRecDepth 100000 in
theorem outbox_Tell.ok (k : Nat) (a0_0 : Int) (l0_1 : List S33) (a1 : Int) (v0_1 : Value) (r1 : Int) (r2 : List S33) (r3 : List S33) (r4 : Int) (h : outbox_Tell.f k a0_0 l0_1 a1 = some (r1, r2, r3, r4)) :
    VCalls Try.prog 7 [.agg #[.int .i64 a0_0, v0_1], .int .i64 a1] [.row v0_1 4 (l0_1.map enc33)] (fun v G own => ∃ w1 w2 : Value, v = .tuple #[.agg #[.int .i64 r1, w1], w2, .int .i64 r4] ∧ G = [] ∧ own = [(w1, 34, 4, r2.map enc33), (w2, 34, 4, r3.map enc33)]) := by
  refine VCalls.introM Try.func7 rfl (len rfl) fun E hC hW hD => ?_
  unfold outbox_Tell.f at h
  refine VC.seq ?_
  refine VC.region ?_
  refine VL.sG (o_box rfl (.agg (.c rfl (.f 0 rfl .nil))) (ltn rfl)) rfl ?_
  intro g1225
  refine VL.sG (o_box rfl (.c rfl) (ltn rfl)) rfl ?_
  intro g1226
  refine VL.sG (o_alloc Z25 ZL25 (ltn rfl)) rfl ?_
  intro g1227
  refine VL.va (op_assign rfl (ltn rfl)) rfl ?_
  refine VL.va (op_assign rfl (ltn rfl)) rfl ?_
  refine VL.done ?_
  refine VN.then ?_
  refine VC.seq ?_
  refine VC.seq ?_
  refine VC.region ?_
  refine VL.va (op_load 2 2 rfl rfl TI25 rfl (fun h => absurd h (by decide)) (ltn rfl)) rfl ?_
  replace h := Option.bind_eq_some_iff.1 h
  obtain ⟨t1250, hA1251, h⟩ := h
  refine VL.sC (o_call0 FO8 (outbox_Right.ok k a0_0 l0_1 v0_1 t1250 hA1251) rfl rfl (ltn rfl) (All_of (.cons (List.mem_of_getElem? (i := 0) rfl) .nil))) rfl ?_
  rintro _ _ _ ⟨rfl, rfl, rfl⟩
  by_cases c1252 : t1250 = true
  · rw [if_pos c1252] at h
    obtain rfl := c1252
    refine VL.va (op_not rfl rfl (ltn rfl)) rfl ?_
    refine VL.va (op_move rfl (ltn rfl)) rfl ?_
    refine VL.va (op_load 1 1 rfl rfl TI3 rfl (by decide) (ltn rfl)) rfl ?_
    replace h := Option.bind_eq_some_iff.1 h
    obtain ⟨t1253, hA1254, h⟩ := h
    refine VL.sC (o_call0 FO23 (outbox_time.ok a1 t1253 hA1254) rfl rfl (ltn rfl) (All_of .nil)) rfl ?_
    rintro _ _ _ ⟨rfl, rfl, rfl⟩
    by_cases c1255 : t1253 = true
    · rw [if_pos c1255] at h
      obtain rfl := c1255
      refine VL.va (op_not rfl rfl (ltn rfl)) rfl ?_
      refine VL.va (op_pick rfl rfl (ltn rfl)) rfl ?_
      refine VL.done ?_
      refine VN.then ?_
      refine VC.cond_f rfl ?_
      refine VC.skip ?_
      refine VN.then ?_
      refine VC.seq ?_
      refine VC.region ?_
      refine VL.va (op_fieldAddr FI25_1 rfl (add_at _ _ _) (ltn rfl)) rfl ?_
      refine VL.va (op_load 2 1 rfl rfl TI23 rfl (by decide) (ltn rfl)) rfl ?_
      replace h := Option.bind_eq_some_iff.1 h
      obtain ⟨r1256, hA1257, h⟩ := h
      refine VL.sC (o_call_b0 FO29 (slices_Clone_api_Out_api_Out.ok l0_1 v0_1 r1256 hA1257) rfl rfl (ltn rfl) (All_of (.cons (.inl (List.mem_of_getElem? (i := 0) rfl)) .nil)) (by rintro _ _ _ ⟨_, rfl, rfl, rfl⟩; rfl)) rfl ?_
      rintro v1259 _ _ ⟨_, rfl, rfl, rfl⟩
      refine VL.sG (o_alloc Z23 ZL23 (ltn rfl)) rfl ?_
      intro g1260
      refine VL.step1 (o_store 0 1 rfl rfl rfl TI23 (.r 0 rfl) rfl (len rfl)) rfl ?_
      refine VL.done ?_
      refine VN.then ?_
      refine VC.seq ?_
      refine VC.region ?_
      refine VL.sG (o_alloc Z23 ZL23 (ltn rfl)) rfl ?_
      intro g1261
      refine VL.done ?_
      refine VN.then ?_
      refine VC.seq ?_
      refine VC.seq ?_
      refine VC.region ?_
      refine VL.va (op_fieldAddr FI25_1 rfl (add_at _ _ _) (ltn rfl)) rfl ?_
      refine VL.va (op_load 4 1 rfl rfl TI23 rfl (by decide) (ltn rfl)) rfl ?_
      refine VL.va (op_load 3 1 rfl rfl TI3 rfl (by decide) (ltn rfl)) rfl ?_
      replace h := Option.bind_eq_some_iff.1 h
      obtain ⟨⟨r1268, t1269⟩, hA1270, h⟩ := h
      dsimp only at h
      refine VL.sC (o_call0 FO30 (outbox_due.ok l0_1 a1 v0_1 r1268 t1269 hA1270) rfl rfl (ltn rfl) (All_of (.cons (List.mem_of_getElem? (i := 0) rfl) .nil))) rfl ?_
      rintro _ _ _ ⟨v1272, g1273, g1274, rfl, rfl, rfl⟩
      refine VL.done ?_
      refine VN.then ?_
      refine VC.block ?_
      refine VC.rangeFunc (ps := [27, 28]) (caps := [.pointer (some ⟨g1273, 0, none⟩), .pointer (some ⟨g1274, 0, none⟩)]) Try.func34 FO34 rfl rfl (len rfl) fun D1275 l1276 L1277 hLl1276 hDD1275 => ?_
      refine VC.seq ?_
      refine VC.region ?_
      refine VL.va (op_load_at (ad := ⟨g1273, 0, none⟩) 3 0 1 (by first | rfl | exact congrArg (fun a => some (Value.pointer (some a))) (add_at _ 0 _).symm) rfl TI23 rfl (by decide) (ltn rfl)) rfl ?_
      refine VL.va (op_len (m := r1268.length) 2 lenm Try.underlying23 rfl rfl (ltn rfl)) rfl ?_
      refine VL.va (op_move rfl (ltn rfl)) rfl ?_
      refine VL.done ?_
      refine VN.then ?_
      refine VC.block ?_
      refine VC.nilRow' 34 4 ?_
      refine VC.loop5 (fun (i1345 : Int) (v1347 : Value) (l1348 : List S33) (v1351 : Value) (l1352 : List S33) => ⟨25, [(0, (.func (.yield l1276) #[] #[])), (2, .pointer (some ⟨g1274, 0, none⟩)), (6, v1272), (7, .int .i64 (r1268.length : Int)), (8, .int .i64 i1345)], [.loop l1276 L1277 .ready none, .dfr D1275, .at_ ⟨g1274, 0, none⟩ [.int .i64 t1269], .row v1272 4 (r1268.map enc33), .row v0_1 4 (l0_1.map enc33)], [(g1261, 23, [v1347]), (g1260, 23, [v1351]), (g1227, 25, [.int .i64 0, .slice none 0 0]), (g1226, 3, [.int .i64 a1]), (g1225, 25, [.int .i64 a0_0, v0_1])], [(v1347, 34, 4, l1348.map enc33), (v1351, 34, 4, l1352.map enc33)]⟩) (fun (ml0 : Nat) (i1345 : Int) (v1347 : Value) (l1348 : List S33) (v1351 : Value) (l1352 : List S33) => outbox_Tell.l0 k a0_0 a1 r1268 t1269 ml0 i1345 l1348 l1352 = some (r1, r2, r3, r4)) k 0 (.slice none 0 0) ([] : List S33) v1259 r1256 [0, 1, 2, 3, 4] [0, 1] h ⟨rfl, ⟨rfl, rfl, rfl, rfl, rfl, trivial⟩, ⟨⟨0, rfl⟩, ⟨1, rfl⟩, ⟨4, rfl⟩, ⟨2, rfl⟩, ⟨5, rfl⟩, trivial⟩, rfl, by decide, rfl, by decide⟩ (by intros; simp [outbox_Tell.l0]) ?_
      clear h
      intro ml0 ihl0 i1345 v1347 l1348 v1351 l1352 h
      simp only [outbox_Tell.l0] at h
      refine VC.seq ?_
      refine VC.region ?_
      refine VL.letter (decide (i1345 < (r1268.length : Int))) fun b1418 hb1418 => ?_
      refine VL.va (op_cmp rfl rfl (congrArg some hb1418) (ltn rfl)) rfl ?_
      refine VL.done ?_
      refine VN.then ?_
      refine VC.seq ?_
      by_cases c1420 : i1345 < (r1268.length : Int)
      · rw [if_pos c1420] at h
        obtain rfl : b1418 = true := hb1418.symm.trans (decide_eq_true c1420)
        refine VC.cond_t rfl ?_
        refine VC.skip ?_
        refine VN.then ?_
        refine VC.seq ?_
        refine VC.block ?_
        refine VC.seq ?_
        refine VC.region ?_
        refine VL.va (op_move rfl (ltn rfl)) rfl ?_
        by_cases c1452 : 0 ≤ i1345
        · rw [if_pos c1452] at h
          replace h := Option.bind_eq_some_iff.1 h
          obtain ⟨x1453, hx1453, h⟩ := h
          refine VL.open (m := r1268.length) 3 lenm rfl (pos_get hx1453) ?_
          rintro ad1454 n1455 rfl
          refine VL.va (op_indexAddr Try.underlying23 TI34 rfl rfl c1452 (lt_get c1452 hx1453) rfl (ltn rfl)) rfl ?_
          refine VL.va (op_load_row (sz := 4) (o := 0) 3 i1345.toNat 4 rfl rfl (get_map hx1453) TI34 rfl (fun h => absurd h (by decide)) (ltn rfl)) rfl ?_
          refine VL.sG (o_alloc Z34 ZL34 (ltn rfl)) rfl ?_
          intro g1456
          refine VL.va (op_assign rfl (ltn rfl)) rfl ?_
          refine VL.step1 (o_store 0 4 rfl rfl rfl TI34 (.agg (.of rfl)) rfl (len rfl)) rfl ?_
          refine VL.done ?_
          refine VN.then ?_
          refine VC.seq ?_
          refine VC.region ?_
          refine VL.va (op_fieldAddr FI34_3 rfl (add_at _ _ _) (ltn rfl)) rfl ?_
          refine VL.va (op_load 0 1 rfl rfl TI3 rfl (by decide) (ltn rfl)) rfl ?_
          refine VL.va (op_load_at (ad := ⟨g1274, 0, none⟩) 2 0 1 (by first | rfl | exact congrArg (fun a => some (Value.pointer (some a))) (add_at _ 0 _).symm) rfl TI3 rfl (by decide) (ltn rfl)) rfl ?_
          refine VL.letter (decide (x1453.f3 ≤ t1269)) fun b1470 hb1470 => ?_
          refine VL.va (op_cmp rfl rfl (congrArg some hb1470) (ltn rfl)) rfl ?_
          refine VL.va (op_move rfl (ltn rfl)) rfl ?_
          by_cases c1471 : x1453.f3 ≤ t1269
          · rw [if_pos c1471] at h
            obtain rfl : b1470 = true := hb1470.symm.trans (decide_eq_true c1471)
            refine VL.va (op_move rfl (ltn rfl)) rfl ?_
            refine VL.va (op_move rfl (ltn rfl)) rfl ?_
            refine VL.va (op_load 0 4 rfl rfl TI34 rfl (fun h => absurd h (by decide)) (ltn rfl)) rfl ?_
            refine VL.yield (vals := [.int .i64 i1345, .agg #[.int .i64 x1453.f0, .int .i64 x1453.f1, .int .i64 x1453.f2, .int .i64 x1453.f3]]) hLl1276 rfl rfl rfl rfl (ltn rfl) 0 rfl rfl ?_
            refine VC.seq ?_
            refine VC.region ?_
            refine VL.va (op_assign rfl (ltn rfl)) rfl ?_
            refine VL.done ?_
            refine VN.then ?_
            refine VC.region ?_
            refine VL.sG (o_alloc Z34 ZL34 (ltn rfl)) rfl ?_
            intro g1472
            refine VL.step1 (o_store 0 4 rfl rfl rfl TI34 (.agg (.of rfl)) rfl (len rfl)) rfl ?_
            refine VL.done ?_
            refine VN.begin 0 hLl1276.base rfl rfl rfl ?_
            refine VC.block ?_
            refine VC.seq ?_
            refine VC.region ?_
            refine VL.va (op_load 2 1 rfl rfl TI23 rfl (by decide) (ltn rfl)) rfl ?_
            refine VL.va (op_load 0 4 rfl rfl TI34 rfl (fun h => absurd h (by decide)) (ltn rfl)) rfl ?_
            refine VL.sG (o_buildSlice (vals := [(0, .agg #[.int .i64 x1453.f0, .int .i64 x1453.f1, .int .i64 x1453.f2, .int .i64 x1453.f3])]) (cells := #[.int .i64 x1453.f0, .int .i64 x1453.f1, .int .i64 x1453.f2, .int .i64 x1453.f3]) (es := List.map enc33 ([x1453] : List S33)) Try.underlying23 TI34 Z34 rfl (by decide) (by decide) (by kernel_rfl) (by kernel_rfl) rfl (flat_map enc33_ok _) (ltn rfl)) rfl ?_
            intro v1474
            by_cases c1475 : (l1348.length + ([x1453] : List S33).length) * 32 ≤ 140737488355328
            · rw [if_pos c1475] at h
              refine VL.sG (o_append 1 appm Try.underlying23 EI34 rfl rfl rfl (.inr ⟨0, _, rfl⟩) (bndm c1475) (ltn rfl)) rfl ?_
              intro v1476
              refine VL.step1 (o_store 2 1 rfl rfl rfl TI23 (.r 1 rfl) rfl (len rfl)) rfl ?_
              refine VL.done ?_
              refine VN.then ?_
              refine VC.region ?_
              refine VL.va (op_load 3 1 rfl rfl TI23 rfl (by decide) (ltn rfl)) rfl ?_
              refine VL.va (op_move rfl (ltn rfl)) rfl ?_
              refine VL.va (op_load 5 1 rfl rfl TI3 rfl (by decide) (ltn rfl)) rfl ?_
              refine VL.va (op_ari64 rfl rfl rfl (ltn rfl)) rfl ?_
              refine VL.va (op_min rfl rfl (ltn rfl)) rfl ?_
              replace h := Option.bind_eq_some_iff.1 h
              obtain ⟨x1478, hx1478, h⟩ := h
              refine VL.openR (m := l1352.length) 2 lenm rfl (pos_get hx1478) ?_
              rintro g1479 n1480 rfl
              refine VL.va (op_indexAddr Try.underlying23 TI34 rfl rfl c1452 (lt_get c1452 hx1478) (add_zero_at _ _) (ltn rfl)) rfl ?_
              refine VL.va (op_fieldAddr FI34_3 rfl (add_at _ _ _) (ltn rfl)) rfl ?_
              refine VL.step1 (o_store_own (sz := 4) (o := 3) (es3 := List.map enc33 (l1352.set i1345.toNat (⟨x1478.f0, x1478.f1, x1478.f2, mn (wrap64 (a1 + 10)) 1099511627776⟩ : S33))) 2 i1345.toNat 1 lenm (setm rfl) rfl rfl rfl (get_map hx1478) TI3 (.c rfl) rfl (len rfl)) rfl ?_
              refine VL.done ?_
              refine VN.block ?_
              refine VN.endRound 0 hLl1276.base rfl rfl rfl ?_
              refine VL.va (op_not rfl rfl (ltn rfl)) rfl ?_
              refine VL.va (op_pick rfl rfl (ltn rfl)) rfl ?_
              refine VL.done ?_
              refine VN.then ?_
              refine VC.cond_f rfl ?_
              refine VC.skip ?_
              refine VN.block ?_
              refine VN.then ?_
              refine VC.region ?_
              refine VL.va (op_ari64 rfl rfl rfl (ltn rfl)) rfl ?_
              refine VL.va (op_move rfl (ltn rfl)) rfl ?_
              refine VL.done ?_
              refine VN.again [2, 3, 4, 5, 6] [1, 2] (ihl0 (wrap64 (i1345 + 1)) v1476 (l1348 ++ ([x1453] : List S33)) (.slice (some ⟨g1479, 0, none⟩) l1352.length n1480) (l1352.set i1345.toNat (⟨x1478.f0, x1478.f1, x1478.f2, mn (wrap64 (a1 + 10)) 1099511627776⟩ : S33)) h) ⟨rfl, ⟨rfl, rfl, rfl, rfl, rfl, trivial⟩, ⟨⟨0, rfl⟩, ⟨1, rfl⟩, ⟨2, rfl⟩, ⟨3, rfl⟩, ⟨4, rfl⟩, trivial⟩, rfl, by decide, rfl, by decide⟩
            · rw [if_neg c1475] at h; cases h
          · rw [if_neg c1471] at h
            obtain rfl : b1470 = false := hb1470.symm.trans (decide_eq_false c1471)
            refine VL.un rfl rfl (ltn rfl) ?_
            refine VL.un rfl rfl (ltn rfl) ?_
            refine VL.un rfl rfl (ltn rfl) ?_
            refine VL.un rfl rfl (ltn rfl) ?_
            refine VL.un rfl rfl (ltn rfl) ?_
            refine VL.va (op_pick rfl rfl (ltn rfl)) rfl ?_
            refine VL.done ?_
            refine VN.then ?_
            refine VC.cond_f rfl ?_
            refine VC.skip ?_
            refine VN.block ?_
            refine VN.then ?_
            refine VC.region ?_
            refine VL.va (op_ari64 rfl rfl rfl (ltn rfl)) rfl ?_
            refine VL.va (op_move rfl (ltn rfl)) rfl ?_
            refine VL.done ?_
            refine VN.again [1, 2, 3, 4, 5] [0, 1] (ihl0 (wrap64 (i1345 + 1)) v1347 l1348 v1351 l1352 h) ⟨rfl, ⟨rfl, rfl, rfl, rfl, rfl, trivial⟩, ⟨⟨0, rfl⟩, ⟨1, rfl⟩, ⟨2, rfl⟩, ⟨3, rfl⟩, ⟨4, rfl⟩, trivial⟩, rfl, by decide, rfl, by decide⟩
        · rw [if_neg c1452] at h; cases h
      · rw [if_neg c1420] at h
        obtain rfl : b1418 = false := hb1418.symm.trans (decide_eq_false c1420)
        refine VC.cond_f rfl ?_
        refine VC.exit ?_
        refine VX.then ?_
        refine VX.then ?_
        refine VX.hit ?_
        refine VN.endRF 0 rfl rfl rfl rfl ?_
        refine VN.block ?_
        refine VN.then ?_
        refine VC.seq ?_
        refine VC.region ?_
        refine VL.va (op_load 1 1 rfl rfl TI23 rfl (by decide) (ltn rfl)) rfl ?_
        refine VL.va (op_fieldAddr FI25_1 rfl (add_at _ _ _) (ltn rfl)) rfl ?_
        refine VL.step1 (o_store 4 1 rfl rfl rfl TI23 (.r 1 rfl) rfl (len rfl)) rfl ?_
        refine VL.done ?_
        refine VN.then ?_
        refine VC.join0 (⟨44, [(4, .pointer (some ⟨g1227, 0, none⟩)), (5, v1347), (6, .int .i64 0)], [.dfr D1275], [(g1227, 25, [.int .i64 a0_0, v1351])], [(v1347, 34, 4, l1348.map enc33), (v1351, 34, 4, l1352.map enc33)]⟩) (True) ?_ ?_
        · refine VC.draw ⟨0, [], [], [(g1261, 23, [v1347]), (g1225, 25, [.int .i64 a0_0, v1351])], [(v1347, 34, 4, l1348.map enc33)]⟩ (by kernel_rfl) rfl (by kernel_rfl) (n := 5) (listed := LB 5 0) ?_
          refine VA.va (i := 0) (listed' := LB 5 1) rfl (op_load 1 2 rfl rfl TI25 rfl (fun h => absurd h (by decide)) (ltn rfl)) rfl (by kernel_rfl) (by kernel_rfl) (by kernel_rfl) (by kernel_rfl) ⟨trivial, ⟨⟨0, rfl⟩, ⟨4, rfl⟩, trivial⟩, ⟨⟨0, rfl⟩, trivial⟩⟩ (fun _ _ _ h => h) ?_
          refine VA.va (i := 1) (listed' := LB 5 3) rfl (op_load 0 1 rfl rfl TI23 rfl (by decide) (ltn rfl)) rfl (by kernel_rfl) (by kernel_rfl) (by kernel_rfl) (by kernel_rfl) ⟨trivial, ⟨⟨0, rfl⟩, ⟨4, rfl⟩, trivial⟩, ⟨⟨0, rfl⟩, trivial⟩⟩ (fun _ _ _ h => h) ?_
          refine VA.one1 (i := 2) (listed' := LB 5 7) (by kernel_rfl) rfl (o_store 2 2 rfl rfl rfl TI25 (.agg (.c rfl (.r 1 rfl .nil))) rfl (len rfl)) rfl (by kernel_rfl) ⟨trivial, ⟨⟨0, rfl⟩, ⟨4, rfl⟩, trivial⟩, ⟨⟨0, rfl⟩, trivial⟩⟩ ?_
          refine VA.va (i := 3) (listed' := LB 5 15) rfl (op_assign rfl (ltn rfl)) rfl (by kernel_rfl) (by kernel_rfl) (by kernel_rfl) (by kernel_rfl) ⟨trivial, ⟨⟨0, rfl⟩, ⟨4, rfl⟩, trivial⟩, ⟨⟨0, rfl⟩, trivial⟩⟩ (fun _ _ _ h => h) ?_
          refine VA.va (i := 4) (listed' := LB 5 31) rfl (op_assign rfl (ltn rfl)) rfl (by kernel_rfl) (by kernel_rfl) (by kernel_rfl) (by kernel_rfl) ⟨trivial, ⟨⟨0, rfl⟩, ⟨4, rfl⟩, trivial⟩, ⟨⟨0, rfl⟩, trivial⟩⟩ (fun _ _ _ h => h) ?_
          refine VA.done (by kernel_rfl) ?_
          exact VN.meet0  [2] [0, 1] trivial ⟨rfl, ⟨rfl, rfl, rfl, trivial⟩, ⟨⟨0, rfl⟩, trivial⟩, rfl, by decide, rfl, by decide⟩
        intro _
        refine VC.ret ?_
        simp only [Option.some.injEq, Prod.mk.injEq] at h
        obtain ⟨rfl, rfl, rfl, rfl⟩ := h
        refine VR.mark 0 hDD1275 rfl rfl rfl ?_
        exact VR.fn (rs := [.cell 4 25, .tmp 5, .tmp 6]) [] [(v1351, 34, 4, l1352.map enc33), (v1347, 34, 4, l1348.map enc33)] [1, 0] rfl (.cell 0 rfl rfl TI25 (fun h => absurd h (by decide)) (.tmp rfl (.tmp rfl .nil))) ⟨v1351, v1347, rfl, rfl, rfl⟩ trivial rfl (by decide)
    · rw [if_neg c1255] at h
      obtain rfl := Bool.eq_false_iff.2 c1255
      refine VL.va (op_not rfl rfl (ltn rfl)) rfl ?_
      refine VL.va (op_pick rfl rfl (ltn rfl)) rfl ?_
      refine VL.done ?_
      refine VN.then ?_
      refine VC.cond_t rfl ?_
      refine VC.seq ?_
      refine VC.region ?_
      refine VL.va (op_build (vals := []) (vcs := []) (cells := [.int .i64 0, .slice none 0 0]) SI25 rfl .nil (by kernel_rfl) (ltn rfl)) rfl ?_
      refine VL.step1 (o_store 0 2 rfl rfl rfl TI25 (.agg (.of rfl)) rfl (len rfl)) rfl ?_
      refine VL.va (op_assign rfl (ltn rfl)) rfl ?_
      refine VL.va (op_assign rfl (ltn rfl)) rfl ?_
      refine VL.done ?_
      refine VN.then ?_
      refine VC.ret ?_
      refine VR.then ?_
      simp only [Option.some.injEq, Prod.mk.injEq] at h
      obtain ⟨rfl, rfl, rfl, rfl⟩ := h
      refine VR.nilRow' 34 4 ?_
      refine VR.nilRow' 34 4 ?_
      refine VR.m0 ?_
      exact VR.fn (rs := [.cell 4 25, .tmp 5, .tmp 6]) [] [((.slice none 0 0), 34, 4, ([] : List S33).map enc33), ((.slice none 0 0), 34, 4, ([] : List S33).map enc33)] [1, 0] rfl (.cell 0 rfl rfl TI25 (fun h => absurd h (by decide)) (.tmp rfl (.tmp rfl .nil))) ⟨(.slice none 0 0), (.slice none 0 0), rfl, rfl, rfl⟩ trivial rfl (by decide)
  · rw [if_neg c1252] at h
    obtain rfl := Bool.eq_false_iff.2 c1252
    refine VL.va (op_not rfl rfl (ltn rfl)) rfl ?_
    refine VL.va (op_move rfl (ltn rfl)) rfl ?_
    refine VL.un rfl rfl (ltn rfl) ?_
    refine VL.un rfl rfl (ltn rfl) ?_
    refine VL.un rfl rfl (ltn rfl) ?_
    refine VL.va (op_pick rfl rfl (ltn rfl)) rfl ?_
    refine VL.done ?_
    refine VN.then ?_
    refine VC.cond_t rfl ?_
    refine VC.seq ?_
    refine VC.region ?_
    refine VL.va (op_build (vals := []) (vcs := []) (cells := [.int .i64 0, .slice none 0 0]) SI25 rfl .nil (by kernel_rfl) (ltn rfl)) rfl ?_
    refine VL.step1 (o_store 0 2 rfl rfl rfl TI25 (.agg (.of rfl)) rfl (len rfl)) rfl ?_
    refine VL.va (op_assign rfl (ltn rfl)) rfl ?_
    refine VL.va (op_assign rfl (ltn rfl)) rfl ?_
    refine VL.done ?_
    refine VN.then ?_
    refine VC.ret ?_
    refine VR.then ?_
    simp only [Option.some.injEq, Prod.mk.injEq] at h
    obtain ⟨rfl, rfl, rfl, rfl⟩ := h
    refine VR.nilRow' 34 4 ?_
    refine VR.nilRow' 34 4 ?_
    refine VR.m0 ?_
    exact VR.fn (rs := [.cell 4 25, .tmp 5, .tmp 6]) [] [((.slice none 0 0), 34, 4, ([] : List S33).map enc33), ((.slice none 0 0), 34, 4, ([] : List S33).map enc33)] [1, 0] rfl (.cell 0 rfl rfl TI25 (fun h => absurd h (by decide)) (.tmp rfl (.tmp rfl .nil))) ⟨(.slice none 0 0), (.slice none 0 0), rfl, rfl, rfl⟩ trivial rfl (by decide)
set_option maxHeartbeats 4000000 in
set_option maxRecDepth 100000 in
theorem tarryref14_in.ok (a0 : Int) (a1 : Int)  (r1 : Bool) (h : tarryref14_in.f a0 a1 = some r1) :
    VCalls Try.prog 31 [.int .i64 a0, .int .i64 a1] [] (fun v G own => v = .bool r1 ∧ G = [] ∧ own = []) := by
  refine VCalls.intro Try.func31 rfl (len rfl) fun E hC hW hD => ?_
  unfold tarryref14_in.f at h
  refine VC.seq ?_
  refine VC.region ?_
  refine VL.va (op_assign rfl (ltn rfl)) rfl ?_
  refine VL.done ?_
  refine VN.then ?_
  refine VC.seq ?_
  refine VC.region ?_
  refine VL.va (op_move rfl (ltn rfl)) rfl ?_
  refine VL.va (op_move rfl (ltn rfl)) rfl ?_
  refine VL.letter (decide (a0 ≥ a1)) fun b1513 hb1513 => ?_
  refine VL.va (op_cmp rfl rfl (congrArg some hb1513) (ltn rfl)) rfl ?_
  refine VL.va (op_move rfl (ltn rfl)) rfl ?_
  by_cases c1514 : a0 ≥ a1
  · rw [if_pos c1514] at h
    obtain rfl : b1513 = true := hb1513.symm.trans (decide_eq_true c1514)
    refine VL.va (op_move rfl (ltn rfl)) rfl ?_
    refine VL.letter (decide (a0 ≤ 1099511627776)) fun b1515 hb1515 => ?_
    refine VL.va (op_cmp rfl rfl (congrArg some hb1515) (ltn rfl)) rfl ?_
    refine VL.va (op_pick rfl rfl (ltn rfl)) rfl ?_
    refine VL.va (op_assign rfl (ltn rfl)) rfl ?_
    refine VL.done ?_
    refine VN.then ?_
    refine VC.ret ?_
    obtain rfl := Option.some.inj h
    subst hb1515
    exact VR.fn (rs := [.tmp 4]) [] [] [] rfl (.tmp rfl .nil) ⟨rfl, rfl, rfl⟩ trivial rfl (by decide)
  · rw [if_neg c1514] at h
    obtain rfl : b1513 = false := hb1513.symm.trans (decide_eq_false c1514)
    refine VL.un rfl rfl (ltn rfl) ?_
    refine VL.un rfl rfl (ltn rfl) ?_
    refine VL.va (op_pick rfl rfl (ltn rfl)) rfl ?_
    refine VL.va (op_assign rfl (ltn rfl)) rfl ?_
    refine VL.done ?_
    refine VN.then ?_
    refine VC.ret ?_
    obtain rfl := Option.some.inj h
    exact VR.fn (rs := [.tmp 4]) [] [] [] rfl (.tmp rfl .nil) ⟨rfl, rfl, rfl⟩ trivial rfl (by decide)

end Go.Proofs.Ytapdeoioenblfaa.POutboxGoes
