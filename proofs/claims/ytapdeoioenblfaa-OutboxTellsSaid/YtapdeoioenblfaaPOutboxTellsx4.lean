/- Written by a program of this repo: what the program's functions do, each as a Lean function, shown of the loaded code; or a statement's row over that; no condition of its own. -/
import Derived.Test.YtapdeoioenblfaaPOutboxTellsx3
namespace Go.Proofs.Ytapdeoioenblfaa.POutboxTells
open Go Go.RowKit Go.Proofs.YtapdeoioenblfaaV
set_option linter.unusedVariables false
set_option linter.unusedSimpArgs false

set_option maxHeartbeats 4000000 in
set_option maxRecDepth 100000 in
theorem outbox_Done.ok (k : Nat) (a0_0 : Int) (l0_1 : List S33) (a1 : Int) (v0_1 : Value) (r1 : Int) (r2 : List S33) (r3 : Int) (r4 : Int) (r5 : Int) (r6 : Int) (r7 : Int) (h : outbox_Done.f k a0_0 l0_1 a1 = some (r1, r2, r3, r4, r5, r6, r7)) :
    VCalls Try.prog 6 [.agg #[.int .i64 a0_0, v0_1], .int .i64 a1] [.row v0_1 4 (l0_1.map enc33)] (fun v G own => ∃ w1 : Value, v = .tuple #[.agg #[.int .i64 r1, w1], .agg #[.int .i64 r3, .int .i64 r4, .int .i64 r5, .int .i64 r6], .int .i64 r7] ∧ G = [] ∧ own = [(w1, 34, 4, r2.map enc33)]) := by
  refine VCalls.intro Try.func6 rfl (len rfl) fun E hC hW hD hU => ?_
  unfold outbox_Done.f at h
  refine VC.seq ?_
  refine VC.region ?_
  refine VL.sG (o_box rfl (.agg (.c rfl (.f 0 rfl .nil))) (ltn rfl)) rfl ?_
  intro g1041
  refine VL.sG (o_box rfl (.c rfl) (ltn rfl)) rfl ?_
  intro g1042
  refine VL.sG (o_alloc Z25 ZL25 (ltn rfl)) rfl ?_
  intro g1043
  refine VL.sG (o_alloc Z34 ZL34 (ltn rfl)) rfl ?_
  intro g1044
  refine VL.va (op_assign rfl (ltn rfl)) rfl ?_
  refine VL.done ?_
  refine VN.then ?_
  refine VC.seq ?_
  refine VC.seq ?_
  refine VC.region ?_
  refine VL.va (op_load 3 2 rfl rfl TI25 rfl (fun h => absurd h (by decide)) (ltn rfl)) rfl ?_
  replace h := Option.bind_eq_some_iff.1 h
  obtain ⟨t1055, hA1056, h⟩ := h
  refine VL.sC (o_call0 FO8 (outbox_Right.ok k a0_0 l0_1 v0_1 t1055 hA1056) rfl rfl (ltn rfl) (All_of (.cons (List.mem_of_getElem? (i := 0) rfl) .nil))) rfl ?_
  rintro _ _ _ ⟨rfl, rfl, rfl⟩
  by_cases c1057 : t1055 = true
  · rw [if_pos c1057] at h
    obtain rfl := c1057
    refine VL.va (op_not rfl rfl (ltn rfl)) rfl ?_
    refine VL.done ?_
    refine VN.then ?_
    refine VC.cond_f rfl ?_
    refine VC.skip ?_
    refine VN.then ?_
    refine VC.seq ?_
    refine VC.region ?_
    refine VL.va (op_fieldAddr FI25_1 rfl (add_at _ _ _) (ltn rfl)) rfl ?_
    refine VL.va (op_load 3 1 rfl rfl TI23 rfl (by decide) (ltn rfl)) rfl ?_
    refine VL.va (op_makeFunc (vals := [.pointer (some ⟨g1042, 0, none⟩)]) rfl (ltn rfl)) rfl ?_
    refine VL.freeze' 2 rfl ?_
    replace h := Option.bind_eq_some_iff.1 h
    obtain ⟨t1164, hA1165, h⟩ := h
    refine VL.sC (o_call0 FO24 (outbox_where_Out_s10.ok k l0_1 a1 v0_1 g1042 t1164 hA1165) rfl rfl (ltn rfl) (All_of (.cons (List.mem_of_getElem? (i := 1) rfl) (.cons (List.mem_of_getElem? (i := 0) rfl) .nil)))) rfl ?_
    rintro _ _ _ ⟨rfl, rfl, rfl⟩
    refine VL.va (op_assign rfl (ltn rfl)) rfl ?_
    refine VL.done ?_
    refine VN.then ?_
    refine VC.seq ?_
    refine VC.seq ?_
    refine VC.region ?_
    refine VL.va (op_move rfl (ltn rfl)) rfl ?_
    refine VL.letter (decide (t1164 < 0)) fun b1169 hb1169 => ?_
    refine VL.va (op_cmp rfl rfl (congrArg some hb1169) (ltn rfl)) rfl ?_
    refine VL.done ?_
    refine VN.then ?_
    by_cases c1170 : t1164 < 0
    · rw [if_pos c1170] at h
      obtain rfl : b1169 = true := hb1169.symm.trans (decide_eq_true c1170)
      refine VC.cond_t rfl ?_
      refine VC.seq ?_
      refine VC.region ?_
      refine VL.va (op_build (vals := []) (vcs := []) (cells := [.int .i64 0, .slice none 0 0]) SI25 rfl .nil (by kernel_rfl) (ltn rfl)) rfl ?_
      refine VL.va (op_build (vals := []) (vcs := []) (cells := [.int .i64 0, .int .i64 0, .int .i64 0, .int .i64 0]) SI34 rfl .nil (by kernel_rfl) (ltn rfl)) rfl ?_
      refine VL.step1 (o_store 1 2 rfl rfl rfl TI25 (.agg (.of rfl)) rfl (len rfl)) rfl ?_
      refine VL.step1 (o_store 0 4 rfl rfl rfl TI34 (.agg (.of rfl)) rfl (len rfl)) rfl ?_
      refine VL.va (op_assign rfl (ltn rfl)) rfl ?_
      refine VL.done ?_
      refine VN.then ?_
      refine VC.ret ?_
      refine VR.then ?_
      simp only [Option.some.injEq, Prod.mk.injEq] at h
      obtain ⟨rfl, rfl, rfl, rfl, rfl, rfl, rfl⟩ := h
      refine VR.nilRow' 34 4 ?_
      exact VR.fn (rs := [.cell 4 25, .cell 5 34, .tmp 6]) [] [((.slice none 0 0), 34, 4, ([] : List S33).map enc33)] [0] rfl (.cell 1 rfl rfl TI25 (fun h => absurd h (by decide)) (.cell 0 rfl rfl TI34 (fun h => absurd h (by decide)) (.tmp rfl .nil))) ⟨(.slice none 0 0), rfl, rfl, rfl⟩ trivial rfl (by decide)
    · rw [if_neg c1170] at h
      obtain rfl : b1169 = false := hb1169.symm.trans (decide_eq_false c1170)
      refine VC.cond_f rfl ?_
      refine VC.skip ?_
      refine VN.then ?_
      refine VC.seq ?_
      refine VC.region ?_
      refine VL.va (op_fieldAddr FI25_1 rfl (add_at _ _ _) (ltn rfl)) rfl ?_
      refine VL.va (op_load 2 1 rfl rfl TI23 rfl (by decide) (ltn rfl)) rfl ?_
      refine VL.va (op_move rfl (ltn rfl)) rfl ?_
      by_cases c1172 : 0 ≤ t1164
      · rw [if_pos c1172] at h
        replace h := Option.bind_eq_some_iff.1 h
        obtain ⟨x1173, hx1173, h⟩ := h
        refine VL.open (m := l0_1.length) 1 lenm rfl (pos_get hx1173) ?_
        rintro ad1174 n1175 rfl
        refine VL.va (op_indexAddr Try.underlying23 TI34 rfl rfl c1172 (lt_get c1172 hx1173) rfl (ltn rfl)) rfl ?_
        refine VL.va (op_load_row (sz := 4) (o := 0) 1 t1164.toNat 4 rfl rfl (get_map hx1173) TI34 rfl (fun h => absurd h (by decide)) (ltn rfl)) rfl ?_
        refine VL.sG (o_alloc Z34 ZL34 (ltn rfl)) rfl ?_
        intro g1176
        refine VL.step1 (o_store 0 4 rfl rfl rfl TI34 (.agg (.of rfl)) rfl (len rfl)) rfl ?_
        refine VL.done ?_
        refine VN.then ?_
        refine VC.seq ?_
        refine VC.region ?_
        refine VL.va (op_fieldAddr FI25_1 rfl (add_at _ _ _) (ltn rfl)) rfl ?_
        refine VL.va (op_load 3 1 rfl rfl TI23 rfl (by decide) (ltn rfl)) rfl ?_
        replace h := Option.bind_eq_some_iff.1 h
        obtain ⟨r1177, hA1178, h⟩ := h
        refine VL.sC (o_call_b0 FO29 (slices_Clone_api_Out_api_Out.ok l0_1 (.slice (some ad1174) l0_1.length n1175) r1177 hA1178) rfl rfl (ltn rfl) (All_of (.cons (.inl (List.mem_of_getElem? (i := 1) rfl)) .nil)) (by rintro _ _ _ ⟨_, rfl, rfl, rfl⟩; rfl)) rfl ?_
        rintro v1180 _ _ ⟨_, rfl, rfl, rfl⟩
        refine VL.va (op_move rfl (ltn rfl)) rfl ?_
        refine VL.va (op_move rfl (ltn rfl)) rfl ?_
        refine VL.va (op_ari64 rfl rfl rfl (ltn rfl)) rfl ?_
        replace h := Option.bind_eq_some_iff.1 h
        obtain ⟨r1181, hA1182, h⟩ := h
        refine VL.sG (o_call_own0 (vals := [v1180, .int .i64 t1164, .int .i64 (wrap64 (t1164 + 1))]) 0 rfl FO28 (slices_Delete_api_Out_api_Out.ok r1177 t1164 (wrap64 (t1164 + 1)) v1180 r1181 hA1182) rfl rfl (ltn rfl) (by simp)) rfl ?_
        intro v1183
        refine VL.va (op_fieldAddr FI25_1 rfl (add_at _ _ _) (ltn rfl)) rfl ?_
        refine VL.step1 (o_store 3 1 rfl rfl rfl TI23 (.r 0 rfl) rfl (len rfl)) rfl ?_
        refine VL.done ?_
        refine VN.then ?_
        refine VC.join0 (⟨37, [(4, .pointer (some ⟨g1043, 0, none⟩)), (5, .pointer (some ⟨g1044, 0, none⟩)), (6, .int .i64 0)], [], [(g1044, 34, [.int .i64 x1173.f0, .int .i64 x1173.f1, .int .i64 x1173.f2, .int .i64 x1173.f3]), (g1043, 25, [.int .i64 a0_0, v1183])], [(v1183, 34, 4, r1181.map enc33)]⟩) (True) ?_ ?_
        · refine VC.draw ⟨0, [], [], [(g1176, 34, [.int .i64 x1173.f0, .int .i64 x1173.f1, .int .i64 x1173.f2, .int .i64 x1173.f3]), (g1041, 25, [.int .i64 a0_0, v1183])], []⟩ (by kernel_rfl) rfl (by kernel_rfl) (n := 5) (listed := LB 5 0) ?_
          refine VA.va (i := 0) (listed' := LB 5 1) rfl (op_load 1 2 rfl rfl TI25 rfl (fun h => absurd h (by decide)) (ltn rfl)) rfl (by kernel_rfl) (by kernel_rfl) (by kernel_rfl) (by kernel_rfl) ⟨trivial, ⟨⟨0, rfl⟩, ⟨3, rfl⟩, trivial⟩, trivial⟩ (fun _ _ _ h => h) ?_
          refine VA.va (i := 1) (listed' := LB 5 3) rfl (op_load 0 4 rfl rfl TI34 rfl (fun h => absurd h (by decide)) (ltn rfl)) rfl (by kernel_rfl) (by kernel_rfl) (by kernel_rfl) (by kernel_rfl) ⟨trivial, ⟨⟨0, rfl⟩, ⟨3, rfl⟩, trivial⟩, trivial⟩ (fun _ _ _ h => h) ?_
          refine VA.one1 (i := 2) (listed' := LB 5 7) (by kernel_rfl) rfl (o_store 2 2 rfl rfl rfl TI25 (.agg (.c rfl (.r 0 rfl .nil))) rfl (len rfl)) rfl (by kernel_rfl) ⟨trivial, ⟨⟨0, rfl⟩, ⟨3, rfl⟩, trivial⟩, trivial⟩ ?_
          refine VA.one1 (i := 3) (listed' := LB 5 15) (by kernel_rfl) rfl (o_store 1 4 rfl rfl rfl TI34 (.agg (.of rfl)) rfl (len rfl)) rfl (by kernel_rfl) ⟨trivial, ⟨⟨0, rfl⟩, ⟨3, rfl⟩, trivial⟩, trivial⟩ ?_
          refine VA.va (i := 4) (listed' := LB 5 31) rfl (op_assign rfl (ltn rfl)) rfl (by kernel_rfl) (by kernel_rfl) (by kernel_rfl) (by kernel_rfl) ⟨trivial, ⟨⟨0, rfl⟩, ⟨3, rfl⟩, trivial⟩, trivial⟩ (fun _ _ _ h => h) ?_
          refine VA.done (by kernel_rfl) ?_
          exact VN.meet0  [1, 2] [0] trivial ⟨rfl, ⟨rfl, rfl, rfl, trivial⟩, trivial, rfl, by decide, rfl, by decide⟩
        intro _
        refine VC.ret ?_
        simp only [Option.some.injEq, Prod.mk.injEq] at h
        obtain ⟨rfl, rfl, rfl, rfl, rfl, rfl, rfl⟩ := h
        exact VR.fn (rs := [.cell 4 25, .cell 5 34, .tmp 6]) [] [(v1183, 34, 4, r1181.map enc33)] [0] rfl (.cell 1 rfl rfl TI25 (fun h => absurd h (by decide)) (.cell 0 rfl rfl TI34 (fun h => absurd h (by decide)) (.tmp rfl .nil))) ⟨v1183, rfl, rfl, rfl⟩ trivial rfl (by decide)
      · rw [if_neg c1172] at h; cases h
  · rw [if_neg c1057] at h
    obtain rfl := Bool.eq_false_iff.2 c1057
    refine VL.va (op_not rfl rfl (ltn rfl)) rfl ?_
    refine VL.done ?_
    refine VN.then ?_
    refine VC.cond_t rfl ?_
    refine VC.seq ?_
    refine VC.region ?_
    refine VL.va (op_build (vals := []) (vcs := []) (cells := [.int .i64 0, .slice none 0 0]) SI25 rfl .nil (by kernel_rfl) (ltn rfl)) rfl ?_
    refine VL.va (op_build (vals := []) (vcs := []) (cells := [.int .i64 0, .int .i64 0, .int .i64 0, .int .i64 0]) SI34 rfl .nil (by kernel_rfl) (ltn rfl)) rfl ?_
    refine VL.step1 (o_store 1 2 rfl rfl rfl TI25 (.agg (.of rfl)) rfl (len rfl)) rfl ?_
    refine VL.step1 (o_store 0 4 rfl rfl rfl TI34 (.agg (.of rfl)) rfl (len rfl)) rfl ?_
    refine VL.va (op_assign rfl (ltn rfl)) rfl ?_
    refine VL.done ?_
    refine VN.then ?_
    refine VC.ret ?_
    refine VR.then ?_
    simp only [Option.some.injEq, Prod.mk.injEq] at h
    obtain ⟨rfl, rfl, rfl, rfl, rfl, rfl, rfl⟩ := h
    refine VR.nilRow' 34 4 ?_
    exact VR.fn (rs := [.cell 4 25, .cell 5 34, .tmp 6]) [] [((.slice none 0 0), 34, 4, ([] : List S33).map enc33)] [0] rfl (.cell 1 rfl rfl TI25 (fun h => absurd h (by decide)) (.cell 0 rfl rfl TI34 (fun h => absurd h (by decide)) (.tmp rfl .nil))) ⟨(.slice none 0 0), rfl, rfl, rfl⟩ trivial rfl (by decide)
set_option maxHeartbeats 4000000 in
set_option maxRecDepth 100000 in
theorem outbox_due.ok (l0 : List S33) (a1 : Int) (v0 : Value) (r1 : List S33) (r2 : Int) (h : outbox_due.f l0 a1 = some (r1, r2)) :
    VCalls Try.prog 30 [v0, .int .i64 a1] [.row v0 4 (l0.map enc33)] (fun v G own => ∃ w0 : Value, ∃ p0 p1 : Nat, v = .func (.func 34) #[] #[.pointer (some ⟨p0, 0, none⟩), .pointer (some ⟨p1, 0, none⟩)] ∧ G = [.row w0 4 (r1.map enc33), .at_ ⟨p0, 0, none⟩ [w0], .at_ ⟨p1, 0, none⟩ [.int .i64 r2]] ∧ own = []) := by
  refine VCalls.intro Try.func30 rfl (len rfl) fun E hC hW hD hU => ?_
  unfold outbox_due.f at h
  refine VC.seq ?_
  refine VC.region ?_
  refine VL.sG (o_box rfl (.f 0 rfl) (ltn rfl)) rfl ?_
  intro g1253
  refine VL.sG (o_box rfl (.c rfl) (ltn rfl)) rfl ?_
  intro g1254
  refine VL.va (op_assign rfl (ltn rfl)) rfl ?_
  refine VL.done ?_
  refine VN.then ?_
  refine VC.seq ?_
  refine VC.region ?_
  refine VL.va (op_makeFunc (vals := [.pointer (some ⟨g1253, 0, none⟩), .pointer (some ⟨g1254, 0, none⟩)]) rfl (ltn rfl)) rfl ?_
  refine VL.va (op_assign rfl (ltn rfl)) rfl ?_
  refine VL.done ?_
  refine VN.then ?_
  refine VC.ret ?_
  simp only [Option.some.injEq, Prod.mk.injEq] at h
  obtain ⟨rfl, rfl⟩ := h
  refine VR.freeze' 1 rfl ?_
  refine VR.freeze' 0 rfl ?_
  exact VR.fn (rs := [.tmp 4]) [.row v0 4 (l0.map enc33), .at_ ⟨g1253, 0, none⟩ [v0], .at_ ⟨g1254, 0, none⟩ [.int .i64 a1]] [] [] rfl (.tmp rfl .nil) ⟨v0, g1253, g1254, rfl, rfl, rfl⟩ ⟨⟨2, rfl⟩, ⟨1, rfl⟩, ⟨0, rfl⟩, trivial⟩ rfl (by decide)
set_option maxHeartbeats 4000000 in
set_option maxRecDepth 100000 in
theorem outbox_Tell.ok (k : Nat) (a0_0 : Int) (l0_1 : List S33) (a1 : Int) (v0_1 : Value) (r1 : Int) (r2 : List S33) (r3 : List S33) (r4 : Int) (h : outbox_Tell.f k a0_0 l0_1 a1 = some (r1, r2, r3, r4)) :
    VCalls Try.prog 7 [.agg #[.int .i64 a0_0, v0_1], .int .i64 a1] [.row v0_1 4 (l0_1.map enc33)] (fun v G own => ∃ w1 w2 : Value, v = .tuple #[.agg #[.int .i64 r1, w1], w2, .int .i64 r4] ∧ G = [] ∧ own = [(w1, 34, 4, r2.map enc33), (w2, 34, 4, r3.map enc33)]) := by
  refine VCalls.introM Try.func7 rfl (len rfl) fun E hC hW hD hU => ?_
  unfold outbox_Tell.f at h
  refine VC.seq ?_
  refine VC.region ?_
  refine VL.sG (o_box rfl (.agg (.c rfl (.f 0 rfl .nil))) (ltn rfl)) rfl ?_
  intro g1212
  refine VL.sG (o_box rfl (.c rfl) (ltn rfl)) rfl ?_
  intro g1213
  refine VL.sG (o_alloc Z25 ZL25 (ltn rfl)) rfl ?_
  intro g1214
  refine VL.va (op_assign rfl (ltn rfl)) rfl ?_
  refine VL.va (op_assign rfl (ltn rfl)) rfl ?_
  refine VL.done ?_
  refine VN.then ?_
  refine VC.seq ?_
  refine VC.seq ?_
  refine VC.region ?_
  refine VL.va (op_load 2 2 rfl rfl TI25 rfl (fun h => absurd h (by decide)) (ltn rfl)) rfl ?_
  replace h := Option.bind_eq_some_iff.1 h
  obtain ⟨t1237, hA1238, h⟩ := h
  refine VL.sC (o_call0 FO8 (outbox_Right.ok k a0_0 l0_1 v0_1 t1237 hA1238) rfl rfl (ltn rfl) (All_of (.cons (List.mem_of_getElem? (i := 0) rfl) .nil))) rfl ?_
  rintro _ _ _ ⟨rfl, rfl, rfl⟩
  by_cases c1239 : t1237 = true
  · rw [if_pos c1239] at h
    obtain rfl := c1239
    refine VL.va (op_not rfl rfl (ltn rfl)) rfl ?_
    refine VL.va (op_move rfl (ltn rfl)) rfl ?_
    refine VL.va (op_load 1 1 rfl rfl TI3 rfl (by decide) (ltn rfl)) rfl ?_
    replace h := Option.bind_eq_some_iff.1 h
    obtain ⟨t1240, hA1241, h⟩ := h
    refine VL.sC (o_call0 FO23 (outbox_time.ok a1 t1240 hA1241) rfl rfl (ltn rfl) (All_of .nil)) rfl ?_
    rintro _ _ _ ⟨rfl, rfl, rfl⟩
    by_cases c1242 : t1240 = true
    · rw [if_pos c1242] at h
      obtain rfl := c1242
      refine VL.va (op_not rfl rfl (ltn rfl)) rfl ?_
      refine VL.va (op_pick rfl rfl (ltn rfl)) rfl ?_
      refine VL.done ?_
      refine VN.then ?_
      refine VC.cond_f rfl ?_
      refine VC.skip ?_
      refine VN.then ?_
      refine VC.seq ?_
      refine VC.region ?_
      refine VL.va (op_fieldAddr FI25_1 rfl (add_at _ _ _) (ltn rfl)) rfl ?_
      refine VL.va (op_load 2 1 rfl rfl TI23 rfl (by decide) (ltn rfl)) rfl ?_
      replace h := Option.bind_eq_some_iff.1 h
      obtain ⟨r1243, hA1244, h⟩ := h
      refine VL.sC (o_call_b0 FO29 (slices_Clone_api_Out_api_Out.ok l0_1 v0_1 r1243 hA1244) rfl rfl (ltn rfl) (All_of (.cons (.inl (List.mem_of_getElem? (i := 0) rfl)) .nil)) (by rintro _ _ _ ⟨_, rfl, rfl, rfl⟩; rfl)) rfl ?_
      rintro v1246 _ _ ⟨_, rfl, rfl, rfl⟩
      refine VL.sG (o_alloc Z23 ZL23 (ltn rfl)) rfl ?_
      intro g1247
      refine VL.step1 (o_store 0 1 rfl rfl rfl TI23 (.r 0 rfl) rfl (len rfl)) rfl ?_
      refine VL.done ?_
      refine VN.then ?_
      refine VC.seq ?_
      refine VC.region ?_
      refine VL.sG (o_alloc Z23 ZL23 (ltn rfl)) rfl ?_
      intro g1248
      refine VL.done ?_
      refine VN.then ?_
      refine VC.seq ?_
      refine VC.seq ?_
      refine VC.region ?_
      refine VL.va (op_fieldAddr FI25_1 rfl (add_at _ _ _) (ltn rfl)) rfl ?_
      refine VL.va (op_load 4 1 rfl rfl TI23 rfl (by decide) (ltn rfl)) rfl ?_
      refine VL.va (op_load 3 1 rfl rfl TI3 rfl (by decide) (ltn rfl)) rfl ?_
      replace h := Option.bind_eq_some_iff.1 h
      obtain ⟨⟨r1255, t1256⟩, hA1257, h⟩ := h
      dsimp only at h
      refine VL.sC (o_call0 FO30 (outbox_due.ok l0_1 a1 v0_1 r1255 t1256 hA1257) rfl rfl (ltn rfl) (All_of (.cons (List.mem_of_getElem? (i := 0) rfl) .nil))) rfl ?_
      rintro _ _ _ ⟨v1259, g1260, g1261, rfl, rfl, rfl⟩
      refine VL.done ?_
      refine VN.then ?_
      refine VC.block ?_
      refine VC.rangeFunc (ps := [27, 28]) (caps := [.pointer (some ⟨g1260, 0, none⟩), .pointer (some ⟨g1261, 0, none⟩)]) Try.func34 FO34 rfl rfl (len rfl) fun D1262 l1263 L1264 hLl1263 hDD1262 => ?_
      refine VC.seq ?_
      refine VC.region ?_
      refine VL.va (op_load_at (ad := ⟨g1260, 0, none⟩) 3 0 1 (by first | rfl | exact congrArg (fun a => some (Value.pointer (some a))) (add_at _ 0 _).symm) rfl TI23 rfl (by decide) (ltn rfl)) rfl ?_
      refine VL.va (op_len (m := r1255.length) 2 lenm Try.underlying23 rfl rfl (ltn rfl)) rfl ?_
      refine VL.va (op_move rfl (ltn rfl)) rfl ?_
      refine VL.done ?_
      refine VN.then ?_
      refine VC.block ?_
      refine VC.nilRow' 34 4 ?_
      refine VC.loop5 (fun (i1332 : Int) (v1334 : Value) (l1335 : List S33) (v1338 : Value) (l1339 : List S33) => ⟨25, [(0, (.func (.yield l1263) #[] #[])), (2, .pointer (some ⟨g1261, 0, none⟩)), (6, v1259), (7, .int .i64 (r1255.length : Int)), (8, .int .i64 i1332)], [.loop l1263 L1264 .ready none, .dfr D1262, .at_ ⟨g1261, 0, none⟩ [.int .i64 t1256], .row v1259 4 (r1255.map enc33), .row v0_1 4 (l0_1.map enc33)], [(g1248, 23, [v1334]), (g1247, 23, [v1338]), (g1214, 25, [.int .i64 0, .slice none 0 0]), (g1213, 3, [.int .i64 a1]), (g1212, 25, [.int .i64 a0_0, v0_1])], [(v1334, 34, 4, l1335.map enc33), (v1338, 34, 4, l1339.map enc33)]⟩) (fun (ml0 : Nat) (i1332 : Int) (v1334 : Value) (l1335 : List S33) (v1338 : Value) (l1339 : List S33) => outbox_Tell.l0 k a0_0 a1 r1255 t1256 ml0 i1332 l1335 l1339 = some (r1, r2, r3, r4)) k 0 (.slice none 0 0) ([] : List S33) v1246 r1243 [0, 1, 2, 3, 4] [0, 1] h ⟨rfl, ⟨rfl, rfl, rfl, rfl, rfl, trivial⟩, ⟨⟨0, rfl⟩, ⟨1, rfl⟩, ⟨4, rfl⟩, ⟨2, rfl⟩, ⟨5, rfl⟩, trivial⟩, rfl, by decide, rfl, by decide⟩ (by intros; simp [outbox_Tell.l0]) ?_
      clear h
      intro ml0 ihl0 i1332 v1334 l1335 v1338 l1339 h
      simp only [outbox_Tell.l0] at h
      refine VC.seq ?_
      refine VC.region ?_
      refine VL.letter (decide (i1332 < (r1255.length : Int))) fun b1405 hb1405 => ?_
      refine VL.va (op_cmp rfl rfl (congrArg some hb1405) (ltn rfl)) rfl ?_
      refine VL.done ?_
      refine VN.then ?_
      refine VC.seq ?_
      by_cases c1407 : i1332 < (r1255.length : Int)
      · rw [if_pos c1407] at h
        obtain rfl : b1405 = true := hb1405.symm.trans (decide_eq_true c1407)
        refine VC.cond_t rfl ?_
        refine VC.skip ?_
        refine VN.then ?_
        refine VC.seq ?_
        refine VC.block ?_
        refine VC.seq ?_
        refine VC.region ?_
        refine VL.va (op_move rfl (ltn rfl)) rfl ?_
        by_cases c1439 : 0 ≤ i1332
        · rw [if_pos c1439] at h
          replace h := Option.bind_eq_some_iff.1 h
          obtain ⟨x1440, hx1440, h⟩ := h
          refine VL.open (m := r1255.length) 3 lenm rfl (pos_get hx1440) ?_
          rintro ad1441 n1442 rfl
          refine VL.va (op_indexAddr Try.underlying23 TI34 rfl rfl c1439 (lt_get c1439 hx1440) rfl (ltn rfl)) rfl ?_
          refine VL.va (op_load_row (sz := 4) (o := 0) 3 i1332.toNat 4 rfl rfl (get_map hx1440) TI34 rfl (fun h => absurd h (by decide)) (ltn rfl)) rfl ?_
          refine VL.sG (o_alloc Z34 ZL34 (ltn rfl)) rfl ?_
          intro g1443
          refine VL.va (op_assign rfl (ltn rfl)) rfl ?_
          refine VL.step1 (o_store 0 4 rfl rfl rfl TI34 (.agg (.of rfl)) rfl (len rfl)) rfl ?_
          refine VL.done ?_
          refine VN.then ?_
          refine VC.seq ?_
          refine VC.region ?_
          refine VL.va (op_fieldAddr FI34_3 rfl (add_at _ _ _) (ltn rfl)) rfl ?_
          refine VL.va (op_load 0 1 rfl rfl TI3 rfl (by decide) (ltn rfl)) rfl ?_
          refine VL.va (op_load_at (ad := ⟨g1261, 0, none⟩) 2 0 1 (by first | rfl | exact congrArg (fun a => some (Value.pointer (some a))) (add_at _ 0 _).symm) rfl TI3 rfl (by decide) (ltn rfl)) rfl ?_
          refine VL.letter (decide (x1440.f3 ≤ t1256)) fun b1457 hb1457 => ?_
          refine VL.va (op_cmp rfl rfl (congrArg some hb1457) (ltn rfl)) rfl ?_
          refine VL.va (op_move rfl (ltn rfl)) rfl ?_
          by_cases c1458 : x1440.f3 ≤ t1256
          · rw [if_pos c1458] at h
            obtain rfl : b1457 = true := hb1457.symm.trans (decide_eq_true c1458)
            refine VL.va (op_move rfl (ltn rfl)) rfl ?_
            refine VL.va (op_move rfl (ltn rfl)) rfl ?_
            refine VL.va (op_load 0 4 rfl rfl TI34 rfl (fun h => absurd h (by decide)) (ltn rfl)) rfl ?_
            refine VL.yield (vals := [.int .i64 i1332, .agg #[.int .i64 x1440.f0, .int .i64 x1440.f1, .int .i64 x1440.f2, .int .i64 x1440.f3]]) hLl1263 rfl rfl rfl rfl (ltn rfl) 0 rfl rfl ?_
            refine VC.seq ?_
            refine VC.region ?_
            refine VL.va (op_assign rfl (ltn rfl)) rfl ?_
            refine VL.done ?_
            refine VN.then ?_
            refine VC.region ?_
            refine VL.sG (o_alloc Z34 ZL34 (ltn rfl)) rfl ?_
            intro g1459
            refine VL.step1 (o_store 0 4 rfl rfl rfl TI34 (.agg (.of rfl)) rfl (len rfl)) rfl ?_
            refine VL.done ?_
            refine VN.begin 0 hLl1263.base rfl rfl rfl ?_
            refine VC.block ?_
            refine VC.seq ?_
            refine VC.region ?_
            refine VL.va (op_load 2 1 rfl rfl TI23 rfl (by decide) (ltn rfl)) rfl ?_
            refine VL.va (op_load 0 4 rfl rfl TI34 rfl (fun h => absurd h (by decide)) (ltn rfl)) rfl ?_
            refine VL.sG (o_buildSlice (vals := [(0, .agg #[.int .i64 x1440.f0, .int .i64 x1440.f1, .int .i64 x1440.f2, .int .i64 x1440.f3])]) (cells := #[.int .i64 x1440.f0, .int .i64 x1440.f1, .int .i64 x1440.f2, .int .i64 x1440.f3]) (es := List.map enc33 ([x1440] : List S33)) Try.underlying23 TI34 Z34 rfl (by decide) (by decide) (by kernel_rfl) (by kernel_rfl) rfl (flat_map enc33_ok _) (ltn rfl)) rfl ?_
            intro v1461
            by_cases c1462 : (l1335.length + ([x1440] : List S33).length) * 32 ≤ 140737488355328
            · rw [if_pos c1462] at h
              refine VL.sG (o_append 1 appm Try.underlying23 EI34 rfl rfl rfl (.inr ⟨0, _, rfl⟩) (bndm c1462) (ltn rfl)) rfl ?_
              intro v1463
              refine VL.step1 (o_store 2 1 rfl rfl rfl TI23 (.r 1 rfl) rfl (len rfl)) rfl ?_
              refine VL.done ?_
              refine VN.then ?_
              refine VC.region ?_
              refine VL.va (op_load 3 1 rfl rfl TI23 rfl (by decide) (ltn rfl)) rfl ?_
              refine VL.va (op_move rfl (ltn rfl)) rfl ?_
              refine VL.va (op_load 5 1 rfl rfl TI3 rfl (by decide) (ltn rfl)) rfl ?_
              refine VL.va (op_ari64 rfl rfl rfl (ltn rfl)) rfl ?_
              refine VL.va (op_min rfl rfl (ltn rfl)) rfl ?_
              replace h := Option.bind_eq_some_iff.1 h
              obtain ⟨x1465, hx1465, h⟩ := h
              refine VL.openR (m := l1339.length) 2 lenm rfl (pos_get hx1465) ?_
              rintro g1466 n1467 rfl
              refine VL.va (op_indexAddr Try.underlying23 TI34 rfl rfl c1439 (lt_get c1439 hx1465) (add_zero_at _ _) (ltn rfl)) rfl ?_
              refine VL.va (op_fieldAddr FI34_3 rfl (add_at _ _ _) (ltn rfl)) rfl ?_
              refine VL.step1 (o_store_own (sz := 4) (o := 3) (es3 := List.map enc33 (l1339.set i1332.toNat (⟨x1465.f0, x1465.f1, x1465.f2, mn (wrap64 (a1 + 10)) 1099511627776⟩ : S33))) 2 i1332.toNat 1 lenm (setm rfl) rfl rfl rfl (get_map hx1465) TI3 (.c rfl) rfl (len rfl)) rfl ?_
              refine VL.done ?_
              refine VN.block ?_
              refine VN.endRound 0 hLl1263.base rfl rfl rfl ?_
              refine VL.va (op_not rfl rfl (ltn rfl)) rfl ?_
              refine VL.va (op_pick rfl rfl (ltn rfl)) rfl ?_
              refine VL.done ?_
              refine VN.then ?_
              refine VC.cond_f rfl ?_
              refine VC.skip ?_
              refine VN.block ?_
              refine VN.then ?_
              refine VC.region ?_
              refine VL.va (op_ari64 rfl rfl rfl (ltn rfl)) rfl ?_
              refine VL.va (op_move rfl (ltn rfl)) rfl ?_
              refine VL.done ?_
              refine VN.again [2, 3, 4, 5, 6] [1, 2] (ihl0 (wrap64 (i1332 + 1)) v1463 (l1335 ++ ([x1440] : List S33)) (.slice (some ⟨g1466, 0, none⟩) l1339.length n1467) (l1339.set i1332.toNat (⟨x1465.f0, x1465.f1, x1465.f2, mn (wrap64 (a1 + 10)) 1099511627776⟩ : S33)) h) ⟨rfl, ⟨rfl, rfl, rfl, rfl, rfl, trivial⟩, ⟨⟨0, rfl⟩, ⟨1, rfl⟩, ⟨2, rfl⟩, ⟨3, rfl⟩, ⟨4, rfl⟩, trivial⟩, rfl, by decide, rfl, by decide⟩
            · rw [if_neg c1462] at h; cases h
          · rw [if_neg c1458] at h
            obtain rfl : b1457 = false := hb1457.symm.trans (decide_eq_false c1458)
            refine VL.un rfl rfl (ltn rfl) ?_
            refine VL.un rfl rfl (ltn rfl) ?_
            refine VL.un rfl rfl (ltn rfl) ?_
            refine VL.un rfl rfl (ltn rfl) ?_
            refine VL.un rfl rfl (ltn rfl) ?_
            refine VL.va (op_pick rfl rfl (ltn rfl)) rfl ?_
            refine VL.done ?_
            refine VN.then ?_
            refine VC.cond_f rfl ?_
            refine VC.skip ?_
            refine VN.block ?_
            refine VN.then ?_
            refine VC.region ?_
            refine VL.va (op_ari64 rfl rfl rfl (ltn rfl)) rfl ?_
            refine VL.va (op_move rfl (ltn rfl)) rfl ?_
            refine VL.done ?_
            refine VN.again [1, 2, 3, 4, 5] [0, 1] (ihl0 (wrap64 (i1332 + 1)) v1334 l1335 v1338 l1339 h) ⟨rfl, ⟨rfl, rfl, rfl, rfl, rfl, trivial⟩, ⟨⟨0, rfl⟩, ⟨1, rfl⟩, ⟨2, rfl⟩, ⟨3, rfl⟩, ⟨4, rfl⟩, trivial⟩, rfl, by decide, rfl, by decide⟩
        · rw [if_neg c1439] at h; cases h
      · rw [if_neg c1407] at h
        obtain rfl : b1405 = false := hb1405.symm.trans (decide_eq_false c1407)
        refine VC.cond_f rfl ?_
        refine VC.exit ?_
        refine VX.then ?_
        refine VX.then ?_
        refine VX.hit ?_
        refine VN.endRF 0 rfl rfl rfl rfl ?_
        refine VN.block ?_
        refine VN.then ?_
        refine VC.seq ?_
        refine VC.region ?_
        refine VL.va (op_load 1 1 rfl rfl TI23 rfl (by decide) (ltn rfl)) rfl ?_
        refine VL.va (op_fieldAddr FI25_1 rfl (add_at _ _ _) (ltn rfl)) rfl ?_
        refine VL.step1 (o_store 4 1 rfl rfl rfl TI23 (.r 1 rfl) rfl (len rfl)) rfl ?_
        refine VL.done ?_
        refine VN.then ?_
        refine VC.join0 (⟨44, [(4, .pointer (some ⟨g1214, 0, none⟩)), (5, v1334), (6, .int .i64 0)], [.dfr D1262], [(g1214, 25, [.int .i64 a0_0, v1338])], [(v1334, 34, 4, l1335.map enc33), (v1338, 34, 4, l1339.map enc33)]⟩) (True) ?_ ?_
        · refine VC.draw ⟨0, [], [], [(g1248, 23, [v1334]), (g1212, 25, [.int .i64 a0_0, v1338])], [(v1334, 34, 4, l1335.map enc33)]⟩ (by kernel_rfl) rfl (by kernel_rfl) (n := 5) (listed := LB 5 0) ?_
          refine VA.va (i := 0) (listed' := LB 5 1) rfl (op_load 1 2 rfl rfl TI25 rfl (fun h => absurd h (by decide)) (ltn rfl)) rfl (by kernel_rfl) (by kernel_rfl) (by kernel_rfl) (by kernel_rfl) ⟨trivial, ⟨⟨0, rfl⟩, ⟨4, rfl⟩, trivial⟩, ⟨⟨0, rfl⟩, trivial⟩⟩ (fun _ _ _ h => h) ?_
          refine VA.va (i := 1) (listed' := LB 5 3) rfl (op_load 0 1 rfl rfl TI23 rfl (by decide) (ltn rfl)) rfl (by kernel_rfl) (by kernel_rfl) (by kernel_rfl) (by kernel_rfl) ⟨trivial, ⟨⟨0, rfl⟩, ⟨4, rfl⟩, trivial⟩, ⟨⟨0, rfl⟩, trivial⟩⟩ (fun _ _ _ h => h) ?_
          refine VA.one1 (i := 2) (listed' := LB 5 7) (by kernel_rfl) rfl (o_store 2 2 rfl rfl rfl TI25 (.agg (.c rfl (.r 1 rfl .nil))) rfl (len rfl)) rfl (by kernel_rfl) ⟨trivial, ⟨⟨0, rfl⟩, ⟨4, rfl⟩, trivial⟩, ⟨⟨0, rfl⟩, trivial⟩⟩ ?_
          refine VA.va (i := 3) (listed' := LB 5 15) rfl (op_assign rfl (ltn rfl)) rfl (by kernel_rfl) (by kernel_rfl) (by kernel_rfl) (by kernel_rfl) ⟨trivial, ⟨⟨0, rfl⟩, ⟨4, rfl⟩, trivial⟩, ⟨⟨0, rfl⟩, trivial⟩⟩ (fun _ _ _ h => h) ?_
          refine VA.va (i := 4) (listed' := LB 5 31) rfl (op_assign rfl (ltn rfl)) rfl (by kernel_rfl) (by kernel_rfl) (by kernel_rfl) (by kernel_rfl) ⟨trivial, ⟨⟨0, rfl⟩, ⟨4, rfl⟩, trivial⟩, ⟨⟨0, rfl⟩, trivial⟩⟩ (fun _ _ _ h => h) ?_
          refine VA.done (by kernel_rfl) ?_
          exact VN.meet0  [2] [0, 1] trivial ⟨rfl, ⟨rfl, rfl, rfl, trivial⟩, ⟨⟨0, rfl⟩, trivial⟩, rfl, by decide, rfl, by decide⟩
        intro _
        refine VC.ret ?_
        simp only [Option.some.injEq, Prod.mk.injEq] at h
        obtain ⟨rfl, rfl, rfl, rfl⟩ := h
        refine VR.mark 0 hDD1262 rfl rfl rfl ?_
        exact VR.fn (rs := [.cell 4 25, .tmp 5, .tmp 6]) [] [(v1338, 34, 4, l1339.map enc33), (v1334, 34, 4, l1335.map enc33)] [1, 0] rfl (.cell 0 rfl rfl TI25 (fun h => absurd h (by decide)) (.tmp rfl (.tmp rfl .nil))) ⟨v1338, v1334, rfl, rfl, rfl⟩ trivial rfl (by decide)
    · rw [if_neg c1242] at h
      obtain rfl := Bool.eq_false_iff.2 c1242
      refine VL.va (op_not rfl rfl (ltn rfl)) rfl ?_
      refine VL.va (op_pick rfl rfl (ltn rfl)) rfl ?_
      refine VL.done ?_
      refine VN.then ?_
      refine VC.cond_t rfl ?_
      refine VC.seq ?_
      refine VC.region ?_
      refine VL.va (op_build (vals := []) (vcs := []) (cells := [.int .i64 0, .slice none 0 0]) SI25 rfl .nil (by kernel_rfl) (ltn rfl)) rfl ?_
      refine VL.step1 (o_store 0 2 rfl rfl rfl TI25 (.agg (.of rfl)) rfl (len rfl)) rfl ?_
      refine VL.va (op_assign rfl (ltn rfl)) rfl ?_
      refine VL.va (op_assign rfl (ltn rfl)) rfl ?_
      refine VL.done ?_
      refine VN.then ?_
      refine VC.ret ?_
      refine VR.then ?_
      simp only [Option.some.injEq, Prod.mk.injEq] at h
      obtain ⟨rfl, rfl, rfl, rfl⟩ := h
      refine VR.nilRow' 34 4 ?_
      refine VR.nilRow' 34 4 ?_
      refine VR.m0 ?_
      exact VR.fn (rs := [.cell 4 25, .tmp 5, .tmp 6]) [] [((.slice none 0 0), 34, 4, ([] : List S33).map enc33), ((.slice none 0 0), 34, 4, ([] : List S33).map enc33)] [1, 0] rfl (.cell 0 rfl rfl TI25 (fun h => absurd h (by decide)) (.tmp rfl (.tmp rfl .nil))) ⟨(.slice none 0 0), (.slice none 0 0), rfl, rfl, rfl⟩ trivial rfl (by decide)
  · rw [if_neg c1239] at h
    obtain rfl := Bool.eq_false_iff.2 c1239
    refine VL.va (op_not rfl rfl (ltn rfl)) rfl ?_
    refine VL.va (op_move rfl (ltn rfl)) rfl ?_
    refine VL.un rfl rfl (ltn rfl) ?_
    refine VL.un rfl rfl (ltn rfl) ?_
    refine VL.un rfl rfl (ltn rfl) ?_
    refine VL.va (op_pick rfl rfl (ltn rfl)) rfl ?_
    refine VL.done ?_
    refine VN.then ?_
    refine VC.cond_t rfl ?_
    refine VC.seq ?_
    refine VC.region ?_
    refine VL.va (op_build (vals := []) (vcs := []) (cells := [.int .i64 0, .slice none 0 0]) SI25 rfl .nil (by kernel_rfl) (ltn rfl)) rfl ?_
    refine VL.step1 (o_store 0 2 rfl rfl rfl TI25 (.agg (.of rfl)) rfl (len rfl)) rfl ?_
    refine VL.va (op_assign rfl (ltn rfl)) rfl ?_
    refine VL.va (op_assign rfl (ltn rfl)) rfl ?_
    refine VL.done ?_
    refine VN.then ?_
    refine VC.ret ?_
    refine VR.then ?_
    simp only [Option.some.injEq, Prod.mk.injEq] at h
    obtain ⟨rfl, rfl, rfl, rfl⟩ := h
    refine VR.nilRow' 34 4 ?_
    refine VR.nilRow' 34 4 ?_
    refine VR.m0 ?_
    exact VR.fn (rs := [.cell 4 25, .tmp 5, .tmp 6]) [] [((.slice none 0 0), 34, 4, ([] : List S33).map enc33), ((.slice none 0 0), 34, 4, ([] : List S33).map enc33)] [1, 0] rfl (.cell 0 rfl rfl TI25 (fun h => absurd h (by decide)) (.tmp rfl (.tmp rfl .nil))) ⟨(.slice none 0 0), (.slice none 0 0), rfl, rfl, rfl⟩ trivial rfl (by decide)
set_option maxHeartbeats 4000000 in
set_option maxRecDepth 100000 in
theorem tarrylaw14_alive.ok (k : Nat)   (r1 : Bool) (h : tarrylaw14_alive.f k = some r1) :
    VCalls Try.prog 9 [] [] (fun v G own => v = .bool r1 ∧ G = [] ∧ own = []) := by
  refine VCalls.intro Try.func9 rfl (len rfl) fun E hC hW hD hU => ?_
  unfold tarrylaw14_alive.f at h
  refine VC.seq ?_
  refine VC.region ?_
  refine VL.va (op_assign rfl (ltn rfl)) rfl ?_
  refine VL.done ?_
  refine VN.then ?_
  refine VC.seq ?_
  refine VC.region ?_
  refine VL.va (op_build (vals := []) (vcs := []) (cells := [.int .i64 0, .slice none 0 0]) SI25 rfl .nil (by kernel_rfl) (ltn rfl)) rfl ?_
  refine VL.nilFact' 4 ?_
  replace h := Option.bind_eq_some_iff.1 h
  obtain ⟨⟨t13503, r13504, t13505, t13506⟩, hA13507, h⟩ := h
  dsimp only at h
  refine VL.sC (o_call0 FO5 (outbox_Put.ok k 0 [] 3 7 0 (.slice none 0 0) t13503 r13504 t13505 t13506 hA13507) rfl rfl (ltn rfl) (All_of (.cons (List.mem_of_getElem? (i := 0) rfl) .nil))) rfl ?_
  rintro _ _ _ ⟨v13509, rfl, rfl, rfl⟩
  refine VL.va (op_move rfl (ltn rfl)) rfl ?_
  refine VL.va (op_extract rfl rfl (ltn rfl)) rfl ?_
  refine VL.va (op_extract rfl rfl (ltn rfl)) rfl ?_
  refine VL.va (op_extract rfl rfl (ltn rfl)) rfl ?_
  refine VL.sG (o_alloc Z25 ZL25 (ltn rfl)) rfl ?_
  intro g13510
  refine VL.step1 (o_store 0 2 rfl rfl rfl TI25 (.agg (.c rfl (.f 0 rfl .nil))) rfl (len rfl)) rfl ?_
  refine VL.va (op_assign rfl (ltn rfl)) rfl ?_
  refine VL.va (op_assign rfl (ltn rfl)) rfl ?_
  refine VL.done ?_
  refine VN.then ?_
  refine VC.seq ?_
  refine VC.region ?_
  refine VL.va (op_load 0 2 rfl rfl TI25 rfl (fun h => absurd h (by decide)) (ltn rfl)) rfl ?_
  replace h := Option.bind_eq_some_iff.1 h
  obtain ⟨⟨t13511, r13512, r13513, t13514⟩, hA13515, h⟩ := h
  dsimp only at h
  refine VL.sC (o_call0 FO7 (outbox_Tell.ok k t13503 r13504 0 v13509 t13511 r13512 r13513 t13514 hA13515) rfl rfl (ltn rfl) (All_of (.cons (List.mem_of_getElem? (i := 0) rfl) .nil))) rfl ?_
  rintro _ _ _ ⟨v13517, v13519, rfl, rfl, rfl⟩
  refine VL.va (op_move rfl (ltn rfl)) rfl ?_
  refine VL.va (op_extract rfl rfl (ltn rfl)) rfl ?_
  refine VL.va (op_extract rfl rfl (ltn rfl)) rfl ?_
  refine VL.va (op_extract rfl rfl (ltn rfl)) rfl ?_
  refine VL.sG (o_alloc Z25 ZL25 (ltn rfl)) rfl ?_
  intro g13520
  refine VL.step1 (o_store 0 2 rfl rfl rfl TI25 (.agg (.c rfl (.r 0 rfl .nil))) rfl (len rfl)) rfl ?_
  refine VL.va (op_assign rfl (ltn rfl)) rfl ?_
  refine VL.va (op_assign rfl (ltn rfl)) rfl ?_
  refine VL.done ?_
  refine VN.then ?_
  refine VC.seq ?_
  refine VC.region ?_
  refine VL.va (op_move rfl (ltn rfl)) rfl ?_
  refine VL.letter ((t13506 == 0)) fun b13533 hb13533 => ?_
  refine VL.va (op_cmp rfl rfl (congrArg some hb13533) (ltn rfl)) rfl ?_
  refine VL.va (op_move rfl (ltn rfl)) rfl ?_
  by_cases c13534 : t13506 = 0
  · rw [if_pos c13534] at h
    obtain rfl : b13533 = true := hb13533.symm.trans (beq_iff_eq.2 c13534)
    refine VL.va (op_move rfl (ltn rfl)) rfl ?_
    refine VL.letter ((t13514 == 0)) fun b13535 hb13535 => ?_
    refine VL.va (op_cmp rfl rfl (congrArg some hb13535) (ltn rfl)) rfl ?_
    refine VL.va (op_pick rfl rfl (ltn rfl)) rfl ?_
    refine VL.va (op_move rfl (ltn rfl)) rfl ?_
    by_cases c13536 : t13514 = 0
    · rw [if_pos c13536] at h
      obtain rfl : b13535 = true := hb13535.symm.trans (beq_iff_eq.2 c13536)
      refine VL.va (op_move rfl (ltn rfl)) rfl ?_
      refine VL.letter ((t13505 == 1)) fun b13537 hb13537 => ?_
      refine VL.va (op_cmp rfl rfl (congrArg some hb13537) (ltn rfl)) rfl ?_
      refine VL.va (op_pick rfl rfl (ltn rfl)) rfl ?_
      refine VL.va (op_move rfl (ltn rfl)) rfl ?_
      by_cases c13538 : t13505 = 1
      · rw [if_pos c13538] at h
        obtain rfl : b13537 = true := hb13537.symm.trans (beq_iff_eq.2 c13538)
        refine VL.va (op_move rfl (ltn rfl)) rfl ?_
        refine VL.va (op_len_own (m := r13513.length) 1 lenm Try.underlying23 rfl rfl (ltn rfl)) rfl ?_
        refine VL.letter (((r13513.length : Int) == 1)) fun b13539 hb13539 => ?_
        refine VL.va (op_cmp rfl rfl (congrArg some hb13539) (ltn rfl)) rfl ?_
        refine VL.va (op_pick rfl rfl (ltn rfl)) rfl ?_
        refine VL.va (op_move rfl (ltn rfl)) rfl ?_
        by_cases c13540 : (r13513.length : Int) = 1
        · rw [if_pos c13540] at h
          obtain rfl : b13539 = true := hb13539.symm.trans (beq_iff_eq.2 c13540)
          refine VL.va (op_move rfl (ltn rfl)) rfl ?_
          replace h := Option.bind_eq_some_iff.1 h
          obtain ⟨x13541, hx13541, h⟩ := h
          refine VL.openR (m := r13513.length) 1 lenm rfl (pos_get hx13541) ?_
          rintro g13542 n13543 rfl
          refine VL.va (op_indexAddr Try.underlying23 TI34 rfl rfl (by decide) (lt_get (by decide) hx13541) (add_zero_at _ _) (ltn rfl)) rfl ?_
          refine VL.va (op_fieldAddr FI34_2 rfl (add_at _ _ _) (ltn rfl)) rfl ?_
          refine VL.va (op_load_own (sz := 4) (o := 2) 1 0 1 rfl rfl (get_map hx13541) TI3 rfl (by decide) (ltn rfl)) rfl ?_
          refine VL.letter ((x13541.f2 == 7)) fun b13544 hb13544 => ?_
          refine VL.va (op_cmp rfl rfl (congrArg some hb13544) (ltn rfl)) rfl ?_
          refine VL.va (op_pick rfl rfl (ltn rfl)) rfl ?_
          refine VL.va (op_assign rfl (ltn rfl)) rfl ?_
          refine VL.done ?_
          refine VN.then ?_
          refine VC.ret ?_
          obtain rfl := Option.some.inj h
          subst hb13544
          exact VR.fn (rs := [.tmp 0]) [] [] [] rfl (.tmp rfl .nil) ⟨rfl, rfl, rfl⟩ trivial rfl (by decide)
        · rw [if_neg c13540] at h
          obtain rfl : b13539 = false := hb13539.symm.trans (beq_eq_false_iff_ne.2 c13540)
          refine VL.un rfl rfl (ltn rfl) ?_
          refine VL.un rfl rfl (ltn rfl) ?_
          refine VL.un rfl rfl (ltn rfl) ?_
          refine VL.un rfl rfl (ltn rfl) ?_
          refine VL.un rfl rfl (ltn rfl) ?_
          refine VL.va (op_pick rfl rfl (ltn rfl)) rfl ?_
          refine VL.va (op_assign rfl (ltn rfl)) rfl ?_
          refine VL.done ?_
          refine VN.then ?_
          refine VC.ret ?_
          obtain rfl := Option.some.inj h
          exact VR.fn (rs := [.tmp 0]) [] [] [] rfl (.tmp rfl .nil) ⟨rfl, rfl, rfl⟩ trivial rfl (by decide)
      · rw [if_neg c13538] at h
        obtain rfl : b13537 = false := hb13537.symm.trans (beq_eq_false_iff_ne.2 c13538)
        refine VL.un rfl rfl (ltn rfl) ?_
        refine VL.un rfl rfl (ltn rfl) ?_
        refine VL.un rfl rfl (ltn rfl) ?_
        refine VL.va (op_pick rfl rfl (ltn rfl)) rfl ?_
        refine VL.va (op_move rfl (ltn rfl)) rfl ?_
        refine VL.un rfl rfl (ltn rfl) ?_
        refine VL.un rfl rfl (ltn rfl) ?_
        refine VL.un rfl rfl (ltn rfl) ?_
        refine VL.un rfl rfl (ltn rfl) ?_
        refine VL.un rfl rfl (ltn rfl) ?_
        refine VL.va (op_pick rfl rfl (ltn rfl)) rfl ?_
        refine VL.va (op_assign rfl (ltn rfl)) rfl ?_
        refine VL.done ?_
        refine VN.then ?_
        refine VC.ret ?_
        obtain rfl := Option.some.inj h
        exact VR.fn (rs := [.tmp 0]) [] [] [] rfl (.tmp rfl .nil) ⟨rfl, rfl, rfl⟩ trivial rfl (by decide)
    · rw [if_neg c13536] at h
      obtain rfl : b13535 = false := hb13535.symm.trans (beq_eq_false_iff_ne.2 c13536)
      refine VL.un rfl rfl (ltn rfl) ?_
      refine VL.un rfl rfl (ltn rfl) ?_
      refine VL.va (op_pick rfl rfl (ltn rfl)) rfl ?_
      refine VL.va (op_move rfl (ltn rfl)) rfl ?_
      refine VL.un rfl rfl (ltn rfl) ?_
      refine VL.un rfl rfl (ltn rfl) ?_
      refine VL.un rfl rfl (ltn rfl) ?_
      refine VL.va (op_pick rfl rfl (ltn rfl)) rfl ?_
      refine VL.va (op_move rfl (ltn rfl)) rfl ?_
      refine VL.un rfl rfl (ltn rfl) ?_
      refine VL.un rfl rfl (ltn rfl) ?_
      refine VL.un rfl rfl (ltn rfl) ?_
      refine VL.un rfl rfl (ltn rfl) ?_
      refine VL.un rfl rfl (ltn rfl) ?_
      refine VL.va (op_pick rfl rfl (ltn rfl)) rfl ?_
      refine VL.va (op_assign rfl (ltn rfl)) rfl ?_
      refine VL.done ?_
      refine VN.then ?_
      refine VC.ret ?_
      obtain rfl := Option.some.inj h
      exact VR.fn (rs := [.tmp 0]) [] [] [] rfl (.tmp rfl .nil) ⟨rfl, rfl, rfl⟩ trivial rfl (by decide)
  · rw [if_neg c13534] at h
    obtain rfl : b13533 = false := hb13533.symm.trans (beq_eq_false_iff_ne.2 c13534)
    refine VL.un rfl rfl (ltn rfl) ?_
    refine VL.un rfl rfl (ltn rfl) ?_
    refine VL.va (op_pick rfl rfl (ltn rfl)) rfl ?_
    refine VL.va (op_move rfl (ltn rfl)) rfl ?_
    refine VL.un rfl rfl (ltn rfl) ?_
    refine VL.un rfl rfl (ltn rfl) ?_
    refine VL.va (op_pick rfl rfl (ltn rfl)) rfl ?_
    refine VL.va (op_move rfl (ltn rfl)) rfl ?_
    refine VL.un rfl rfl (ltn rfl) ?_
    refine VL.un rfl rfl (ltn rfl) ?_
    refine VL.un rfl rfl (ltn rfl) ?_
    refine VL.va (op_pick rfl rfl (ltn rfl)) rfl ?_
    refine VL.va (op_move rfl (ltn rfl)) rfl ?_
    refine VL.un rfl rfl (ltn rfl) ?_
    refine VL.un rfl rfl (ltn rfl) ?_
    refine VL.un rfl rfl (ltn rfl) ?_
    refine VL.un rfl rfl (ltn rfl) ?_
    refine VL.un rfl rfl (ltn rfl) ?_
    refine VL.va (op_pick rfl rfl (ltn rfl)) rfl ?_
    refine VL.va (op_assign rfl (ltn rfl)) rfl ?_
    refine VL.done ?_
    refine VN.then ?_
    refine VC.ret ?_
    obtain rfl := Option.some.inj h
    exact VR.fn (rs := [.tmp 0]) [] [] [] rfl (.tmp rfl .nil) ⟨rfl, rfl, rfl⟩ trivial rfl (by decide)

end Go.Proofs.Ytapdeoioenblfaa.POutboxTells
