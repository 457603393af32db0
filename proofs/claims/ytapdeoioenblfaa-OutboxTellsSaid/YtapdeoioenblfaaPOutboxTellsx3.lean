/- Written by a program of this repo: what the program's functions do, each as a Lean function, shown of the loaded code; or a statement's row over that; no condition of its own. -/
import Derived.Test.YtapdeoioenblfaaPOutboxTellsx2
namespace Go.Proofs.Ytapdeoioenblfaa.POutboxTells
open Go Go.RowKit Go.Proofs.YtapdeoioenblfaaV
set_option linter.unusedVariables false
set_option linter.unusedSimpArgs false

set_option maxHeartbeats 4000000 in
set_option maxRecDepth 100000 in
theorem outbox_Put.ok (k : Nat) (a0_0 : Int) (l0_1 : List S33) (a1 : Int) (a2 : Int) (a3 : Int) (v0_1 : Value) (r1 : Int) (r2 : List S33) (r3 : Int) (r4 : Int) (h : outbox_Put.f k a0_0 l0_1 a1 a2 a3 = some (r1, r2, r3, r4)) :
    VCalls Try.prog 5 [.agg #[.int .i64 a0_0, v0_1], .int .i64 a1, .int .i64 a2, .int .i64 a3] [.row v0_1 4 (l0_1.map enc33)] (fun v G own => ∃ w1 : Value, v = .tuple #[.agg #[.int .i64 r1, w1], .int .i64 r3, .int .i64 r4] ∧ G = [.row w1 4 (r2.map enc33)] ∧ own = []) := by
  refine VCalls.intro Try.func5 rfl (len rfl) fun E hC hW hD hU => ?_
  unfold outbox_Put.f at h
  refine VC.seq ?_
  refine VC.region ?_
  refine VL.sG (o_box rfl (.agg (.c rfl (.f 0 rfl .nil))) (ltn rfl)) rfl ?_
  intro g908
  refine VL.sG (o_alloc Z25 ZL25 (ltn rfl)) rfl ?_
  intro g909
  refine VL.va (op_assign rfl (ltn rfl)) rfl ?_
  refine VL.va (op_assign rfl (ltn rfl)) rfl ?_
  refine VL.done ?_
  refine VN.then ?_
  refine VC.seq ?_
  refine VC.block ?_
  refine VC.seq ?_
  refine VC.region ?_
  refine VL.va (op_load 1 2 rfl rfl TI25 rfl (fun h => absurd h (by decide)) (ltn rfl)) rfl ?_
  replace h := Option.bind_eq_some_iff.1 h
  obtain ⟨t969, hA970, h⟩ := h
  refine VL.sC (o_call0 FO8 (outbox_Right.ok k a0_0 l0_1 v0_1 t969 hA970) rfl rfl (ltn rfl) (All_of (.cons (List.mem_of_getElem? (i := 0) rfl) .nil))) rfl ?_
  rintro _ _ _ ⟨rfl, rfl, rfl⟩
  by_cases c971 : t969 = true
  · rw [if_pos c971] at h
    obtain rfl := c971
    refine VL.va (op_not rfl rfl (ltn rfl)) rfl ?_
    refine VL.va (op_move rfl (ltn rfl)) rfl ?_
    refine VL.va (op_move rfl (ltn rfl)) rfl ?_
    replace h := Option.bind_eq_some_iff.1 h
    obtain ⟨t972, hA973, h⟩ := h
    refine VL.sC (o_call0 FO21 (outbox_kinds.ok a1 t972 hA973) rfl rfl (ltn rfl) (All_of .nil)) rfl ?_
    rintro _ _ _ ⟨rfl, rfl, rfl⟩
    by_cases c974 : t972 = true
    · rw [if_pos c974] at h
      obtain rfl := c974
      refine VL.va (op_not rfl rfl (ltn rfl)) rfl ?_
      refine VL.va (op_pick rfl rfl (ltn rfl)) rfl ?_
      refine VL.va (op_move rfl (ltn rfl)) rfl ?_
      refine VL.va (op_move rfl (ltn rfl)) rfl ?_
      replace h := Option.bind_eq_some_iff.1 h
      obtain ⟨t975, hA976, h⟩ := h
      refine VL.sC (o_call0 FO22 (outbox_number.ok a2 t975 hA976) rfl rfl (ltn rfl) (All_of .nil)) rfl ?_
      rintro _ _ _ ⟨rfl, rfl, rfl⟩
      by_cases c977 : t975 = true
      · rw [if_pos c977] at h
        obtain rfl := c977
        refine VL.va (op_not rfl rfl (ltn rfl)) rfl ?_
        refine VL.va (op_pick rfl rfl (ltn rfl)) rfl ?_
        refine VL.va (op_move rfl (ltn rfl)) rfl ?_
        refine VL.va (op_move rfl (ltn rfl)) rfl ?_
        replace h := Option.bind_eq_some_iff.1 h
        obtain ⟨t978, hA979, h⟩ := h
        refine VL.sC (o_call0 FO23 (outbox_time.ok a3 t978 hA979) rfl rfl (ltn rfl) (All_of .nil)) rfl ?_
        rintro _ _ _ ⟨rfl, rfl, rfl⟩
        by_cases c980 : t978 = true
        · rw [if_pos c980] at h
          obtain rfl := c980
          refine VL.va (op_not rfl rfl (ltn rfl)) rfl ?_
          refine VL.va (op_pick rfl rfl (ltn rfl)) rfl ?_
          refine VL.va (op_assign rfl (ltn rfl)) rfl ?_
          refine VL.done ?_
          refine VN.then ?_
          refine VC.cond_f rfl ?_
          replace h := Option.bind_eq_some_iff.1 h
          obtain ⟨⟨t981, t982⟩, hA983, h⟩ := h
          dsimp only at h
          replace h := Option.bind_eq_some_iff.1 h
          obtain ⟨t986, hA987, h⟩ := h
          refine VC.letter (decide (t986 ≥ 0)) fun b988 hb988 => ?_
          refine VC.join0 (⟨70, [(1, .int .i64 a1), (2, .int .i64 a2), (3, .int .i64 a3), (4, .pointer (some ⟨g908, 0, none⟩)), (8, .pointer (some ⟨g909, 0, none⟩)), (9, .int .i64 0), (10, .int .i64 0), (31, .bool b988)], [.row v0_1 4 (l0_1.map enc33)], [(g909, 25, [.int .i64 0, .slice none 0 0]), (g908, 25, [.int .i64 a0_0, v0_1])], []⟩) (True) ?_ ?_
          · refine VC.draw ⟨0, [], [], [(g908, 25, [.int .i64 a0_0, v0_1])], []⟩ (by kernel_rfl) rfl (by kernel_rfl) (n := 8) (listed := LB 8 0) ?_
            refine VA.va (i := 0) (listed' := LB 8 1) rfl (op_fieldAddr FI25_1 rfl (add_at _ _ _) (ltn rfl)) rfl (by kernel_rfl) (by kernel_rfl) (by kernel_rfl) (by kernel_rfl) ⟨trivial, ⟨⟨1, rfl⟩, trivial⟩, trivial⟩ (fun _ _ _ h => h) ?_
            refine VA.va (i := 1) (listed' := LB 8 3) rfl (op_load 0 1 rfl rfl TI23 rfl (by decide) (ltn rfl)) rfl (by kernel_rfl) (by kernel_rfl) (by kernel_rfl) (by kernel_rfl) ⟨trivial, ⟨⟨1, rfl⟩, trivial⟩, trivial⟩ (fun _ _ _ h => h) ?_
            refine VA.va (i := 2) (listed' := LB 8 7) rfl (op_move rfl (ltn rfl)) rfl (by kernel_rfl) (by kernel_rfl) (by kernel_rfl) (by kernel_rfl) ⟨trivial, ⟨⟨1, rfl⟩, trivial⟩, trivial⟩ (fun _ _ _ h => h) ?_
            refine VA.va (i := 3) (listed' := LB 8 15) rfl (op_move rfl (ltn rfl)) rfl (by kernel_rfl) (by kernel_rfl) (by kernel_rfl) (by kernel_rfl) ⟨trivial, ⟨⟨1, rfl⟩, trivial⟩, trivial⟩ (fun _ _ _ h => h) ?_
            refine VA.oneC (i := 4) (listed' := LB 8 31) (by kernel_rfl) rfl (o_call0 FO25 (outbox_of.ok a1 a2 t981 t982 hA983) rfl rfl (ltn rfl) (All_of .nil)) rfl (by kernel_rfl) ?_
            rintro _ _ _ ⟨g984, g985, rfl, rfl, rfl⟩
            refine ⟨⟨trivial, ⟨⟨1, rfl⟩, trivial⟩, trivial⟩, ?_⟩
            refine VA.oneC (i := 5) (listed' := LB 8 63) (by kernel_rfl) rfl (o_call0 FO24 (outbox_where_Out.ok k l0_1 t981 t982 v0_1 g984 g985 t986 hA987) rfl rfl (ltn rfl) (All_of (.cons (List.mem_of_getElem? (i := 2) rfl) (.cons (List.mem_of_getElem? (i := 0) rfl) (.cons (List.mem_of_getElem? (i := 1) rfl) .nil))))) rfl (by kernel_rfl) ?_
            rintro _ _ _ ⟨rfl, rfl, rfl⟩
            refine ⟨⟨trivial, ⟨⟨1, rfl⟩, trivial⟩, trivial⟩, ?_⟩
            refine VA.va (i := 6) (listed' := LB 8 127) rfl (op_cmp rfl rfl (congrArg some hb988) (ltn rfl)) rfl (by kernel_rfl) (by kernel_rfl) (by kernel_rfl) (by kernel_rfl) ⟨trivial, ⟨⟨1, rfl⟩, trivial⟩, trivial⟩ (fun _ _ _ h => h) ?_
            refine VA.va (i := 7) (listed' := LB 8 255) rfl (op_assign rfl (ltn rfl)) rfl (by kernel_rfl) (by kernel_rfl) (by kernel_rfl) (by kernel_rfl) ⟨trivial, ⟨⟨1, rfl⟩, trivial⟩, trivial⟩ (fun _ _ _ h => h) ?_
            refine VA.done (by kernel_rfl) ?_
            exact VN.meet0  [0, 1] [] trivial ⟨rfl, ⟨rfl, rfl, rfl, rfl, rfl, rfl, rfl, rfl, trivial⟩, ⟨⟨2, rfl⟩, trivial⟩, rfl, by decide, rfl, by decide⟩
          intro _
          by_cases c989 : t986 ≥ 0
          · rw [if_pos c989] at h
            obtain rfl : b988 = true := hb988.symm.trans (decide_eq_true c989)
            refine VC.cond_t rfl ?_
            refine VC.seq ?_
            refine VC.region ?_
            refine VL.va (op_build (vals := []) (vcs := []) (cells := [.int .i64 0, .slice none 0 0]) SI25 rfl .nil (by kernel_rfl) (ltn rfl)) rfl ?_
            refine VL.step1 (o_store 0 2 rfl rfl rfl TI25 (.agg (.of rfl)) rfl (len rfl)) rfl ?_
            refine VL.va (op_assign rfl (ltn rfl)) rfl ?_
            refine VL.va (op_assign rfl (ltn rfl)) rfl ?_
            refine VL.done ?_
            refine VN.then ?_
            refine VC.ret ?_
            refine VR.block ?_
            refine VR.then ?_
            simp only [Option.some.injEq, Prod.mk.injEq] at h
            obtain ⟨rfl, rfl, rfl, rfl⟩ := h
            refine VR.nilFact' 4 ?_
            exact VR.fn (rs := [.cell 8 25, .tmp 9, .tmp 10]) [.row (.slice none 0 0) 4 (([] : List S33).map enc33)] [] [] rfl (.cell 0 rfl rfl TI25 (fun h => absurd h (by decide)) (.tmp rfl (.tmp rfl .nil))) ⟨(.slice none 0 0), rfl, rfl, rfl⟩ ⟨⟨0, rfl⟩, trivial⟩ rfl (by decide)
          · rw [if_neg c989] at h
            obtain rfl : b988 = false := hb988.symm.trans (decide_eq_false c989)
            refine VC.cond_f rfl ?_
            refine VC.seq ?_
            refine VC.region ?_
            refine VL.va (op_fieldAddr FI25_1 rfl (add_at _ _ _) (ltn rfl)) rfl ?_
            refine VL.va (op_load 1 1 rfl rfl TI23 rfl (by decide) (ltn rfl)) rfl ?_
            refine VL.va (op_len (m := l0_1.length) 0 lenm Try.underlying23 rfl rfl (ltn rfl)) rfl ?_
            refine VL.letter (((l0_1.length : Int) == 96)) fun b994 hb994 => ?_
            refine VL.va (op_cmp rfl rfl (congrArg some hb994) (ltn rfl)) rfl ?_
            refine VL.va (op_move rfl (ltn rfl)) rfl ?_
            by_cases c995 : (l0_1.length : Int) = 96
            · rw [if_pos c995] at h
              obtain rfl : b994 = true := hb994.symm.trans (beq_iff_eq.2 c995)
              refine VL.un rfl rfl (ltn rfl) ?_
              refine VL.un rfl rfl (ltn rfl) ?_
              refine VL.un rfl rfl (ltn rfl) ?_
              refine VL.va (op_pick rfl rfl (ltn rfl)) rfl ?_
              refine VL.va (op_assign rfl (ltn rfl)) rfl ?_
              refine VL.done ?_
              refine VN.then ?_
              refine VC.cond_t rfl ?_
              refine VC.seq ?_
              refine VC.region ?_
              refine VL.va (op_build (vals := []) (vcs := []) (cells := [.int .i64 0, .slice none 0 0]) SI25 rfl .nil (by kernel_rfl) (ltn rfl)) rfl ?_
              refine VL.step1 (o_store 0 2 rfl rfl rfl TI25 (.agg (.of rfl)) rfl (len rfl)) rfl ?_
              refine VL.va (op_assign rfl (ltn rfl)) rfl ?_
              refine VL.va (op_assign rfl (ltn rfl)) rfl ?_
              refine VL.done ?_
              refine VN.then ?_
              refine VC.ret ?_
              refine VR.block ?_
              refine VR.then ?_
              simp only [Option.some.injEq, Prod.mk.injEq] at h
              obtain ⟨rfl, rfl, rfl, rfl⟩ := h
              refine VR.nilFact' 4 ?_
              exact VR.fn (rs := [.cell 8 25, .tmp 9, .tmp 10]) [.row (.slice none 0 0) 4 (([] : List S33).map enc33)] [] [] rfl (.cell 0 rfl rfl TI25 (fun h => absurd h (by decide)) (.tmp rfl (.tmp rfl .nil))) ⟨(.slice none 0 0), rfl, rfl, rfl⟩ ⟨⟨0, rfl⟩, trivial⟩ rfl (by decide)
            · rw [if_neg c995] at h
              obtain rfl : b994 = false := hb994.symm.trans (beq_eq_false_iff_ne.2 c995)
              refine VL.va (op_fieldAddr FI25_0 rfl (add_at _ _ _) (ltn rfl)) rfl ?_
              refine VL.va (op_load 1 1 rfl rfl TI3 rfl (by decide) (ltn rfl)) rfl ?_
              refine VL.letter ((a0_0 == 1099511627776)) fun b997 hb997 => ?_
              refine VL.va (op_cmp rfl rfl (congrArg some hb997) (ltn rfl)) rfl ?_
              refine VL.va (op_pick rfl rfl (ltn rfl)) rfl ?_
              refine VL.va (op_assign rfl (ltn rfl)) rfl ?_
              refine VL.done ?_
              refine VN.then ?_
              by_cases c998 : a0_0 = 1099511627776
              · rw [if_pos c998] at h
                obtain rfl : b997 = true := hb997.symm.trans (beq_iff_eq.2 c998)
                refine VC.cond_t rfl ?_
                refine VC.seq ?_
                refine VC.region ?_
                refine VL.va (op_build (vals := []) (vcs := []) (cells := [.int .i64 0, .slice none 0 0]) SI25 rfl .nil (by kernel_rfl) (ltn rfl)) rfl ?_
                refine VL.step1 (o_store 0 2 rfl rfl rfl TI25 (.agg (.of rfl)) rfl (len rfl)) rfl ?_
                refine VL.va (op_assign rfl (ltn rfl)) rfl ?_
                refine VL.va (op_assign rfl (ltn rfl)) rfl ?_
                refine VL.done ?_
                refine VN.then ?_
                refine VC.ret ?_
                refine VR.block ?_
                refine VR.then ?_
                simp only [Option.some.injEq, Prod.mk.injEq] at h
                obtain ⟨rfl, rfl, rfl, rfl⟩ := h
                refine VR.nilFact' 4 ?_
                exact VR.fn (rs := [.cell 8 25, .tmp 9, .tmp 10]) [.row (.slice none 0 0) 4 (([] : List S33).map enc33)] [] [] rfl (.cell 0 rfl rfl TI25 (fun h => absurd h (by decide)) (.tmp rfl (.tmp rfl .nil))) ⟨(.slice none 0 0), rfl, rfl, rfl⟩ ⟨⟨0, rfl⟩, trivial⟩ rfl (by decide)
              · rw [if_neg c998] at h
                obtain rfl : b997 = false := hb997.symm.trans (beq_eq_false_iff_ne.2 c998)
                refine VC.cond_f rfl ?_
                refine VC.skip ?_
                refine VN.block ?_
                refine VN.then ?_
                refine VC.seq ?_
                refine VC.region ?_
                refine VL.va (op_fieldAddr FI25_0 rfl (add_at _ _ _) (ltn rfl)) rfl ?_
                refine VL.va (op_load 1 1 rfl rfl TI3 rfl (by decide) (ltn rfl)) rfl ?_
                refine VL.va (op_ari64 rfl rfl rfl (ltn rfl)) rfl ?_
                refine VL.va (op_fieldAddr FI25_0 rfl (add_at _ _ _) (ltn rfl)) rfl ?_
                refine VL.step1 (o_store 1 1 rfl rfl rfl TI3 (.c rfl) rfl (len rfl)) rfl ?_
                refine VL.done ?_
                refine VN.then ?_
                replace h := Option.bind_eq_some_iff.1 h
                obtain ⟨r1000, hA1001, h⟩ := h
                by_cases c1006 : (r1000.length + ([(⟨wrap64 (a0_0 + 1), a1, a2, a3⟩ : S33)] : List S33).length) * 32 ≤ 140737488355328
                · rw [if_pos c1006] at h
                  refine VC.join1 (fun (v1007 : Value) => ⟨70, [(4, .pointer (some ⟨g908, 0, none⟩)), (8, .pointer (some ⟨g909, 0, none⟩)), (9, .int .i64 0), (10, .int .i64 0)], [.row v1007 4 ((r1000 ++ ([(⟨wrap64 (a0_0 + 1), a1, a2, a3⟩ : S33)] : List S33)).map enc33)], [(g909, 25, [.int .i64 0, .slice none 0 0]), (g908, 25, [.int .i64 (wrap64 (a0_0 + 1)), v1007])], []⟩) (fun (v1007 : Value) => True) ?_ ?_
                  · refine VC.draw ⟨0, [], [], [], []⟩ (by kernel_rfl) rfl (by kernel_rfl) (n := 13) (listed := LB 13 0) ?_
                    refine VA.va (i := 0) (listed' := LB 13 1) rfl (op_fieldAddr FI25_1 rfl (add_at _ _ _) (ltn rfl)) rfl (by kernel_rfl) (by kernel_rfl) (by kernel_rfl) (by kernel_rfl) ⟨trivial, trivial, trivial⟩ (fun _ _ _ h => h) ?_
                    refine VA.va (i := 3) (listed' := LB 13 9) rfl (op_fieldAddr FI25_0 rfl (add_at _ _ _) (ltn rfl)) rfl (by kernel_rfl) (by kernel_rfl) (by kernel_rfl) (by kernel_rfl) ⟨trivial, trivial, trivial⟩ (fun _ _ _ h => h) ?_
                    refine VA.va (i := 5) (listed' := LB 13 41) rfl (op_move rfl (ltn rfl)) rfl (by kernel_rfl) (by kernel_rfl) (by kernel_rfl) (by kernel_rfl) ⟨trivial, trivial, trivial⟩ (fun _ _ _ h => h) ?_
                    refine VA.va (i := 6) (listed' := LB 13 105) rfl (op_move rfl (ltn rfl)) rfl (by kernel_rfl) (by kernel_rfl) (by kernel_rfl) (by kernel_rfl) ⟨trivial, trivial, trivial⟩ (fun _ _ _ h => h) ?_
                    refine VA.va (i := 7) (listed' := LB 13 233) rfl (op_move rfl (ltn rfl)) rfl (by kernel_rfl) (by kernel_rfl) (by kernel_rfl) (by kernel_rfl) ⟨trivial, trivial, trivial⟩ (fun _ _ _ h => h) ?_
                    refine VA.all [1, 4] (by kernel_rfl) (by simp) ?_
                    refine VAll.cons1 (listed' := LB 13 235) rfl ((op_load 1 1 rfl rfl TI23 rfl (by decide) (ltn rfl)).op1') rfl (by kernel_rfl) ⟨trivial, trivial, trivial⟩ ?_ ?_
                    · refine VA.all [2, 4] (by kernel_rfl) (by simp) ?_
                      refine VAll.consC (listed' := LB 13 239) rfl (o_call0 FO26 (slices_Clip_api_Out_api_Out.ok l0_1 v0_1 r1000 hA1001) rfl rfl (ltn rfl) (All_of (.cons (List.mem_of_getElem? (i := 0) rfl) .nil))) rfl (by kernel_rfl) ?_ ?_
                      · rintro _ _ _ ⟨A1002, rfl, rfl, rfl⟩
                        refine ⟨⟨trivial, trivial, trivial⟩, ?_⟩
                        refine VA.one1 (i := 4) (listed' := LB 13 255) (by kernel_rfl) rfl ((op_load 1 1 rfl rfl TI3 rfl (by decide) (ltn rfl)).op1') rfl (by kernel_rfl) ⟨trivial, trivial, trivial⟩ ?_
                        refine VA.va (i := 8) (listed' := LB 13 511) rfl (op_build (vals := [(0, .int .i64 (wrap64 (a0_0 + 1))), (1, .int .i64 a1), (2, .int .i64 a2), (3, .int .i64 a3)]) (vcs := [(0, [.int .i64 (wrap64 (a0_0 + 1))]), (1, [.int .i64 a1]), (2, [.int .i64 a2]), (3, [.int .i64 a3])]) (cells := [.int .i64 (wrap64 (a0_0 + 1)), .int .i64 a1, .int .i64 a2, .int .i64 a3]) SI34 rfl (.cons ⟨rfl, (.c rfl)⟩ (.cons ⟨rfl, (.c rfl)⟩ (.cons ⟨rfl, (.c rfl)⟩ (.cons ⟨rfl, (.c rfl)⟩ .nil)))) (by kernel_rfl) (ltn rfl)) rfl (by kernel_rfl) (by kernel_rfl) (by kernel_rfl) (by kernel_rfl) ⟨trivial, trivial, trivial⟩ (fun _ _ _ h => h) ?_
                        refine VA.oneG (i := 9) (listed' := LB 13 1023) (by kernel_rfl) rfl (o_buildSlice (vals := [(0, .agg #[.int .i64 (wrap64 (a0_0 + 1)), .int .i64 a1, .int .i64 a2, .int .i64 a3])]) (cells := #[.int .i64 (wrap64 (a0_0 + 1)), .int .i64 a1, .int .i64 a2, .int .i64 a3]) (es := List.map enc33 ([(⟨wrap64 (a0_0 + 1), a1, a2, a3⟩ : S33)] : List S33)) Try.underlying23 TI34 Z34 rfl (by decide) (by decide) (by kernel_rfl) (by kernel_rfl) rfl (flat_map enc33_ok _) (ltn rfl)) rfl (by kernel_rfl) (fun _ => ⟨trivial, trivial, trivial⟩) ?_
                        intro v1005
                        refine VA.oneG (i := 10) (listed' := LB 13 2047) (by kernel_rfl) rfl (o_append_clip 0 appm Try.underlying23 EI34 rfl rfl rfl (.inr ⟨0, _, rfl⟩) (bndm c1006) (ltn rfl)) rfl (by kernel_rfl) (fun _ => ⟨trivial, trivial, trivial⟩) ?_
                        intro v1007
                        refine VA.va (i := 11) (listed' := LB 13 4095) rfl (op_fieldAddr FI25_1 rfl (add_at _ _ _) (ltn rfl)) rfl (by kernel_rfl) (by kernel_rfl) (by kernel_rfl) (by kernel_rfl) ⟨trivial, trivial, trivial⟩ (fun _ _ _ h => h) ?_
                        refine VA.one1 (i := 12) (listed' := LB 13 8191) (by kernel_rfl) rfl (o_store 1 1 rfl rfl rfl TI23 (.f 0 rfl) rfl (len rfl)) rfl (by kernel_rfl) ⟨trivial, trivial, trivial⟩ ?_
                        refine VA.done (by kernel_rfl) ?_
                        exact VN.meet1 v1007 [0, 1] [] trivial ⟨rfl, ⟨rfl, rfl, rfl, rfl, trivial⟩, ⟨⟨0, rfl⟩, trivial⟩, rfl, by decide, rfl, by decide⟩
                      refine VAll.cons1 (listed' := LB 13 251) rfl ((op_load 1 1 rfl rfl TI3 rfl (by decide) (ltn rfl)).op1') rfl (by kernel_rfl) ⟨trivial, trivial, trivial⟩ ?_ VAll.nil
                      refine VA.va (i := 8) (listed' := LB 13 507) rfl (op_build (vals := [(0, .int .i64 (wrap64 (a0_0 + 1))), (1, .int .i64 a1), (2, .int .i64 a2), (3, .int .i64 a3)]) (vcs := [(0, [.int .i64 (wrap64 (a0_0 + 1))]), (1, [.int .i64 a1]), (2, [.int .i64 a2]), (3, [.int .i64 a3])]) (cells := [.int .i64 (wrap64 (a0_0 + 1)), .int .i64 a1, .int .i64 a2, .int .i64 a3]) SI34 rfl (.cons ⟨rfl, (.c rfl)⟩ (.cons ⟨rfl, (.c rfl)⟩ (.cons ⟨rfl, (.c rfl)⟩ (.cons ⟨rfl, (.c rfl)⟩ .nil)))) (by kernel_rfl) (ltn rfl)) rfl (by kernel_rfl) (by kernel_rfl) (by kernel_rfl) (by kernel_rfl) ⟨trivial, trivial, trivial⟩ (fun _ _ _ h => h) ?_
                      refine VA.all [2, 9] (by kernel_rfl) (by simp) ?_
                      refine VAll.consC (listed' := LB 13 511) rfl (o_call0 FO26 (slices_Clip_api_Out_api_Out.ok l0_1 v0_1 r1000 hA1001) rfl rfl (ltn rfl) (All_of (.cons (List.mem_of_getElem? (i := 0) rfl) .nil))) rfl (by kernel_rfl) ?_ ?_
                      · rintro _ _ _ ⟨A1002, rfl, rfl, rfl⟩
                        refine ⟨⟨trivial, trivial, trivial⟩, ?_⟩
                        refine VA.oneG (i := 9) (listed' := LB 13 1023) (by kernel_rfl) rfl (o_buildSlice (vals := [(0, .agg #[.int .i64 (wrap64 (a0_0 + 1)), .int .i64 a1, .int .i64 a2, .int .i64 a3])]) (cells := #[.int .i64 (wrap64 (a0_0 + 1)), .int .i64 a1, .int .i64 a2, .int .i64 a3]) (es := List.map enc33 ([(⟨wrap64 (a0_0 + 1), a1, a2, a3⟩ : S33)] : List S33)) Try.underlying23 TI34 Z34 rfl (by decide) (by decide) (by kernel_rfl) (by kernel_rfl) rfl (flat_map enc33_ok _) (ltn rfl)) rfl (by kernel_rfl) (fun _ => ⟨trivial, trivial, trivial⟩) ?_
                        intro v1005
                        refine VA.oneG (i := 10) (listed' := LB 13 2047) (by kernel_rfl) rfl (o_append_clip 0 appm Try.underlying23 EI34 rfl rfl rfl (.inr ⟨0, _, rfl⟩) (bndm c1006) (ltn rfl)) rfl (by kernel_rfl) (fun _ => ⟨trivial, trivial, trivial⟩) ?_
                        intro v1007
                        refine VA.va (i := 11) (listed' := LB 13 4095) rfl (op_fieldAddr FI25_1 rfl (add_at _ _ _) (ltn rfl)) rfl (by kernel_rfl) (by kernel_rfl) (by kernel_rfl) (by kernel_rfl) ⟨trivial, trivial, trivial⟩ (fun _ _ _ h => h) ?_
                        refine VA.one1 (i := 12) (listed' := LB 13 8191) (by kernel_rfl) rfl (o_store 1 1 rfl rfl rfl TI23 (.f 0 rfl) rfl (len rfl)) rfl (by kernel_rfl) ⟨trivial, trivial, trivial⟩ ?_
                        refine VA.done (by kernel_rfl) ?_
                        exact VN.meet1 v1007 [0, 1] [] trivial ⟨rfl, ⟨rfl, rfl, rfl, rfl, trivial⟩, ⟨⟨0, rfl⟩, trivial⟩, rfl, by decide, rfl, by decide⟩
                      refine VAll.consG (listed' := LB 13 1019) rfl (o_buildSlice (vals := [(0, .agg #[.int .i64 (wrap64 (a0_0 + 1)), .int .i64 a1, .int .i64 a2, .int .i64 a3])]) (cells := #[.int .i64 (wrap64 (a0_0 + 1)), .int .i64 a1, .int .i64 a2, .int .i64 a3]) (es := List.map enc33 ([(⟨wrap64 (a0_0 + 1), a1, a2, a3⟩ : S33)] : List S33)) Try.underlying23 TI34 Z34 rfl (by decide) (by decide) (by kernel_rfl) (by kernel_rfl) rfl (flat_map enc33_ok _) (ltn rfl)) rfl (by kernel_rfl) (fun _ => ⟨trivial, trivial, trivial⟩) ?_ VAll.nil
                      intro v1005
                      refine VA.oneC (i := 2) (listed' := LB 13 1023) (by kernel_rfl) rfl (o_call0 FO26 (slices_Clip_api_Out_api_Out.ok l0_1 v0_1 r1000 hA1001) rfl rfl (ltn rfl) (All_of (.cons (List.mem_of_getElem? (i := 0) rfl) .nil))) rfl (by kernel_rfl) ?_
                      rintro _ _ _ ⟨A1002, rfl, rfl, rfl⟩
                      refine ⟨⟨trivial, trivial, trivial⟩, ?_⟩
                      refine VA.oneG (i := 10) (listed' := LB 13 2047) (by kernel_rfl) rfl (o_append_clip 0 appm Try.underlying23 EI34 rfl rfl rfl (.inr ⟨0, _, rfl⟩) (bndm c1006) (ltn rfl)) rfl (by kernel_rfl) (fun _ => ⟨trivial, trivial, trivial⟩) ?_
                      intro v1007
                      refine VA.va (i := 11) (listed' := LB 13 4095) rfl (op_fieldAddr FI25_1 rfl (add_at _ _ _) (ltn rfl)) rfl (by kernel_rfl) (by kernel_rfl) (by kernel_rfl) (by kernel_rfl) ⟨trivial, trivial, trivial⟩ (fun _ _ _ h => h) ?_
                      refine VA.one1 (i := 12) (listed' := LB 13 8191) (by kernel_rfl) rfl (o_store 1 1 rfl rfl rfl TI23 (.f 0 rfl) rfl (len rfl)) rfl (by kernel_rfl) ⟨trivial, trivial, trivial⟩ ?_
                      refine VA.done (by kernel_rfl) ?_
                      exact VN.meet1 v1007 [0, 1] [] trivial ⟨rfl, ⟨rfl, rfl, rfl, rfl, trivial⟩, ⟨⟨0, rfl⟩, trivial⟩, rfl, by decide, rfl, by decide⟩
                    refine VAll.cons1 (listed' := LB 13 249) rfl ((op_load 1 1 rfl rfl TI3 rfl (by decide) (ltn rfl)).op1') rfl (by kernel_rfl) ⟨trivial, trivial, trivial⟩ ?_ VAll.nil
                    refine VA.va (i := 8) (listed' := LB 13 505) rfl (op_build (vals := [(0, .int .i64 (wrap64 (a0_0 + 1))), (1, .int .i64 a1), (2, .int .i64 a2), (3, .int .i64 a3)]) (vcs := [(0, [.int .i64 (wrap64 (a0_0 + 1))]), (1, [.int .i64 a1]), (2, [.int .i64 a2]), (3, [.int .i64 a3])]) (cells := [.int .i64 (wrap64 (a0_0 + 1)), .int .i64 a1, .int .i64 a2, .int .i64 a3]) SI34 rfl (.cons ⟨rfl, (.c rfl)⟩ (.cons ⟨rfl, (.c rfl)⟩ (.cons ⟨rfl, (.c rfl)⟩ (.cons ⟨rfl, (.c rfl)⟩ .nil)))) (by kernel_rfl) (ltn rfl)) rfl (by kernel_rfl) (by kernel_rfl) (by kernel_rfl) (by kernel_rfl) ⟨trivial, trivial, trivial⟩ (fun _ _ _ h => h) ?_
                    refine VA.all [1, 9] (by kernel_rfl) (by simp) ?_
                    refine VAll.cons1 (listed' := LB 13 507) rfl ((op_load 1 1 rfl rfl TI23 rfl (by decide) (ltn rfl)).op1') rfl (by kernel_rfl) ⟨trivial, trivial, trivial⟩ ?_ ?_
                    · refine VA.all [2, 9] (by kernel_rfl) (by simp) ?_
                      refine VAll.consC (listed' := LB 13 511) rfl (o_call0 FO26 (slices_Clip_api_Out_api_Out.ok l0_1 v0_1 r1000 hA1001) rfl rfl (ltn rfl) (All_of (.cons (List.mem_of_getElem? (i := 0) rfl) .nil))) rfl (by kernel_rfl) ?_ ?_
                      · rintro _ _ _ ⟨A1002, rfl, rfl, rfl⟩
                        refine ⟨⟨trivial, trivial, trivial⟩, ?_⟩
                        refine VA.oneG (i := 9) (listed' := LB 13 1023) (by kernel_rfl) rfl (o_buildSlice (vals := [(0, .agg #[.int .i64 (wrap64 (a0_0 + 1)), .int .i64 a1, .int .i64 a2, .int .i64 a3])]) (cells := #[.int .i64 (wrap64 (a0_0 + 1)), .int .i64 a1, .int .i64 a2, .int .i64 a3]) (es := List.map enc33 ([(⟨wrap64 (a0_0 + 1), a1, a2, a3⟩ : S33)] : List S33)) Try.underlying23 TI34 Z34 rfl (by decide) (by decide) (by kernel_rfl) (by kernel_rfl) rfl (flat_map enc33_ok _) (ltn rfl)) rfl (by kernel_rfl) (fun _ => ⟨trivial, trivial, trivial⟩) ?_
                        intro v1005
                        refine VA.oneG (i := 10) (listed' := LB 13 2047) (by kernel_rfl) rfl (o_append_clip 0 appm Try.underlying23 EI34 rfl rfl rfl (.inr ⟨0, _, rfl⟩) (bndm c1006) (ltn rfl)) rfl (by kernel_rfl) (fun _ => ⟨trivial, trivial, trivial⟩) ?_
                        intro v1007
                        refine VA.va (i := 11) (listed' := LB 13 4095) rfl (op_fieldAddr FI25_1 rfl (add_at _ _ _) (ltn rfl)) rfl (by kernel_rfl) (by kernel_rfl) (by kernel_rfl) (by kernel_rfl) ⟨trivial, trivial, trivial⟩ (fun _ _ _ h => h) ?_
                        refine VA.one1 (i := 12) (listed' := LB 13 8191) (by kernel_rfl) rfl (o_store 1 1 rfl rfl rfl TI23 (.f 0 rfl) rfl (len rfl)) rfl (by kernel_rfl) ⟨trivial, trivial, trivial⟩ ?_
                        refine VA.done (by kernel_rfl) ?_
                        exact VN.meet1 v1007 [0, 1] [] trivial ⟨rfl, ⟨rfl, rfl, rfl, rfl, trivial⟩, ⟨⟨0, rfl⟩, trivial⟩, rfl, by decide, rfl, by decide⟩
                      refine VAll.consG (listed' := LB 13 1019) rfl (o_buildSlice (vals := [(0, .agg #[.int .i64 (wrap64 (a0_0 + 1)), .int .i64 a1, .int .i64 a2, .int .i64 a3])]) (cells := #[.int .i64 (wrap64 (a0_0 + 1)), .int .i64 a1, .int .i64 a2, .int .i64 a3]) (es := List.map enc33 ([(⟨wrap64 (a0_0 + 1), a1, a2, a3⟩ : S33)] : List S33)) Try.underlying23 TI34 Z34 rfl (by decide) (by decide) (by kernel_rfl) (by kernel_rfl) rfl (flat_map enc33_ok _) (ltn rfl)) rfl (by kernel_rfl) (fun _ => ⟨trivial, trivial, trivial⟩) ?_ VAll.nil
                      intro v1005
                      refine VA.oneC (i := 2) (listed' := LB 13 1023) (by kernel_rfl) rfl (o_call0 FO26 (slices_Clip_api_Out_api_Out.ok l0_1 v0_1 r1000 hA1001) rfl rfl (ltn rfl) (All_of (.cons (List.mem_of_getElem? (i := 0) rfl) .nil))) rfl (by kernel_rfl) ?_
                      rintro _ _ _ ⟨A1002, rfl, rfl, rfl⟩
                      refine ⟨⟨trivial, trivial, trivial⟩, ?_⟩
                      refine VA.oneG (i := 10) (listed' := LB 13 2047) (by kernel_rfl) rfl (o_append_clip 0 appm Try.underlying23 EI34 rfl rfl rfl (.inr ⟨0, _, rfl⟩) (bndm c1006) (ltn rfl)) rfl (by kernel_rfl) (fun _ => ⟨trivial, trivial, trivial⟩) ?_
                      intro v1007
                      refine VA.va (i := 11) (listed' := LB 13 4095) rfl (op_fieldAddr FI25_1 rfl (add_at _ _ _) (ltn rfl)) rfl (by kernel_rfl) (by kernel_rfl) (by kernel_rfl) (by kernel_rfl) ⟨trivial, trivial, trivial⟩ (fun _ _ _ h => h) ?_
                      refine VA.one1 (i := 12) (listed' := LB 13 8191) (by kernel_rfl) rfl (o_store 1 1 rfl rfl rfl TI23 (.f 0 rfl) rfl (len rfl)) rfl (by kernel_rfl) ⟨trivial, trivial, trivial⟩ ?_
                      refine VA.done (by kernel_rfl) ?_
                      exact VN.meet1 v1007 [0, 1] [] trivial ⟨rfl, ⟨rfl, rfl, rfl, rfl, trivial⟩, ⟨⟨0, rfl⟩, trivial⟩, rfl, by decide, rfl, by decide⟩
                    refine VAll.consG (listed' := LB 13 1017) rfl (o_buildSlice (vals := [(0, .agg #[.int .i64 (wrap64 (a0_0 + 1)), .int .i64 a1, .int .i64 a2, .int .i64 a3])]) (cells := #[.int .i64 (wrap64 (a0_0 + 1)), .int .i64 a1, .int .i64 a2, .int .i64 a3]) (es := List.map enc33 ([(⟨wrap64 (a0_0 + 1), a1, a2, a3⟩ : S33)] : List S33)) Try.underlying23 TI34 Z34 rfl (by decide) (by decide) (by kernel_rfl) (by kernel_rfl) rfl (flat_map enc33_ok _) (ltn rfl)) rfl (by kernel_rfl) (fun _ => ⟨trivial, trivial, trivial⟩) ?_ VAll.nil
                    intro v1005
                    refine VA.one1 (i := 1) (listed' := LB 13 1019) (by kernel_rfl) rfl ((op_load 1 1 rfl rfl TI23 rfl (by decide) (ltn rfl)).op1') rfl (by kernel_rfl) ⟨trivial, trivial, trivial⟩ ?_
                    refine VA.oneC (i := 2) (listed' := LB 13 1023) (by kernel_rfl) rfl (o_call0 FO26 (slices_Clip_api_Out_api_Out.ok l0_1 v0_1 r1000 hA1001) rfl rfl (ltn rfl) (All_of (.cons (List.mem_of_getElem? (i := 0) rfl) .nil))) rfl (by kernel_rfl) ?_
                    rintro _ _ _ ⟨A1002, rfl, rfl, rfl⟩
                    refine ⟨⟨trivial, trivial, trivial⟩, ?_⟩
                    refine VA.oneG (i := 10) (listed' := LB 13 2047) (by kernel_rfl) rfl (o_append_clip 0 appm Try.underlying23 EI34 rfl rfl rfl (.inr ⟨0, _, rfl⟩) (bndm c1006) (ltn rfl)) rfl (by kernel_rfl) (fun _ => ⟨trivial, trivial, trivial⟩) ?_
                    intro v1007
                    refine VA.va (i := 11) (listed' := LB 13 4095) rfl (op_fieldAddr FI25_1 rfl (add_at _ _ _) (ltn rfl)) rfl (by kernel_rfl) (by kernel_rfl) (by kernel_rfl) (by kernel_rfl) ⟨trivial, trivial, trivial⟩ (fun _ _ _ h => h) ?_
                    refine VA.one1 (i := 12) (listed' := LB 13 8191) (by kernel_rfl) rfl (o_store 1 1 rfl rfl rfl TI23 (.f 0 rfl) rfl (len rfl)) rfl (by kernel_rfl) ⟨trivial, trivial, trivial⟩ ?_
                    refine VA.done (by kernel_rfl) ?_
                    exact VN.meet1 v1007 [0, 1] [] trivial ⟨rfl, ⟨rfl, rfl, rfl, rfl, trivial⟩, ⟨⟨0, rfl⟩, trivial⟩, rfl, by decide, rfl, by decide⟩
                  intro v1007 _
                  refine VC.join0 (⟨70, [(8, .pointer (some ⟨g909, 0, none⟩)), (9, .int .i64 (wrap64 (a0_0 + 1))), (10, .int .i64 0)], [.row v1007 4 ((r1000 ++ ([(⟨wrap64 (a0_0 + 1), a1, a2, a3⟩ : S33)] : List S33)).map enc33)], [(g909, 25, [.int .i64 (wrap64 (a0_0 + 1)), v1007])], []⟩) (True) ?_ ?_
                  · refine VC.draw ⟨0, [], [], [(g908, 25, [.int .i64 (wrap64 (a0_0 + 1)), v1007])], []⟩ (by kernel_rfl) rfl (by kernel_rfl) (n := 6) (listed := LB 6 0) ?_
                    refine VA.va (i := 0) (listed' := LB 6 1) rfl (op_load 0 2 rfl rfl TI25 rfl (fun h => absurd h (by decide)) (ltn rfl)) rfl (by kernel_rfl) (by kernel_rfl) (by kernel_rfl) (by kernel_rfl) ⟨trivial, ⟨⟨1, rfl⟩, trivial⟩, trivial⟩ (fun _ _ _ h => h) ?_
                    refine VA.va (i := 1) (listed' := LB 6 3) rfl (op_fieldAddr FI25_0 rfl (add_at _ _ _) (ltn rfl)) rfl (by kernel_rfl) (by kernel_rfl) (by kernel_rfl) (by kernel_rfl) ⟨trivial, ⟨⟨1, rfl⟩, trivial⟩, trivial⟩ (fun _ _ _ h => h) ?_
                    refine VA.va (i := 2) (listed' := LB 6 7) rfl (op_load 0 1 rfl rfl TI3 rfl (by decide) (ltn rfl)) rfl (by kernel_rfl) (by kernel_rfl) (by kernel_rfl) (by kernel_rfl) ⟨trivial, ⟨⟨1, rfl⟩, trivial⟩, trivial⟩ (fun _ _ _ h => h) ?_
                    refine VA.one1 (i := 3) (listed' := LB 6 15) (by kernel_rfl) rfl (o_store 0 2 rfl rfl rfl TI25 (.agg (.c rfl (.f 0 rfl .nil))) rfl (len rfl)) rfl (by kernel_rfl) ⟨trivial, ⟨⟨1, rfl⟩, trivial⟩, trivial⟩ ?_
                    refine VA.va (i := 4) (listed' := LB 6 31) rfl (op_assign rfl (ltn rfl)) rfl (by kernel_rfl) (by kernel_rfl) (by kernel_rfl) (by kernel_rfl) ⟨trivial, ⟨⟨1, rfl⟩, trivial⟩, trivial⟩ (fun _ _ _ h => h) ?_
                    refine VA.va (i := 5) (listed' := LB 6 63) rfl (op_assign rfl (ltn rfl)) rfl (by kernel_rfl) (by kernel_rfl) (by kernel_rfl) (by kernel_rfl) ⟨trivial, ⟨⟨1, rfl⟩, trivial⟩, trivial⟩ (fun _ _ _ h => h) ?_
                    refine VA.done (by kernel_rfl) ?_
                    exact VN.meet0  [0] [] trivial ⟨rfl, ⟨rfl, rfl, rfl, trivial⟩, ⟨⟨0, rfl⟩, trivial⟩, rfl, by decide, rfl, by decide⟩
                  intro _
                  refine VC.ret ?_
                  simp only [Option.some.injEq, Prod.mk.injEq] at h
                  obtain ⟨rfl, rfl, rfl, rfl⟩ := h
                  exact VR.fn (rs := [.cell 8 25, .tmp 9, .tmp 10]) [.row v1007 4 ((r1000 ++ ([(⟨wrap64 (a0_0 + 1), a1, a2, a3⟩ : S33)] : List S33)).map enc33)] [] [] rfl (.cell 0 rfl rfl TI25 (fun h => absurd h (by decide)) (.tmp rfl (.tmp rfl .nil))) ⟨v1007, rfl, rfl, rfl⟩ ⟨⟨0, rfl⟩, trivial⟩ rfl (by decide)
                · rw [if_neg c1006] at h; cases h
        · rw [if_neg c980] at h
          obtain rfl := Bool.eq_false_iff.2 c980
          refine VL.va (op_not rfl rfl (ltn rfl)) rfl ?_
          refine VL.va (op_pick rfl rfl (ltn rfl)) rfl ?_
          refine VL.va (op_assign rfl (ltn rfl)) rfl ?_
          refine VL.done ?_
          refine VN.then ?_
          refine VC.cond_t rfl ?_
          refine VC.seq ?_
          refine VC.region ?_
          refine VL.va (op_build (vals := []) (vcs := []) (cells := [.int .i64 0, .slice none 0 0]) SI25 rfl .nil (by kernel_rfl) (ltn rfl)) rfl ?_
          refine VL.step1 (o_store 0 2 rfl rfl rfl TI25 (.agg (.of rfl)) rfl (len rfl)) rfl ?_
          refine VL.va (op_assign rfl (ltn rfl)) rfl ?_
          refine VL.va (op_assign rfl (ltn rfl)) rfl ?_
          refine VL.done ?_
          refine VN.then ?_
          refine VC.ret ?_
          refine VR.block ?_
          refine VR.then ?_
          simp only [Option.some.injEq, Prod.mk.injEq] at h
          obtain ⟨rfl, rfl, rfl, rfl⟩ := h
          refine VR.nilFact' 4 ?_
          exact VR.fn (rs := [.cell 8 25, .tmp 9, .tmp 10]) [.row (.slice none 0 0) 4 (([] : List S33).map enc33)] [] [] rfl (.cell 0 rfl rfl TI25 (fun h => absurd h (by decide)) (.tmp rfl (.tmp rfl .nil))) ⟨(.slice none 0 0), rfl, rfl, rfl⟩ ⟨⟨0, rfl⟩, trivial⟩ rfl (by decide)
      · rw [if_neg c977] at h
        obtain rfl := Bool.eq_false_iff.2 c977
        refine VL.va (op_not rfl rfl (ltn rfl)) rfl ?_
        refine VL.va (op_pick rfl rfl (ltn rfl)) rfl ?_
        refine VL.va (op_move rfl (ltn rfl)) rfl ?_
        refine VL.un rfl rfl (ltn rfl) ?_
        refine VL.un rfl rfl (ltn rfl) ?_
        refine VL.un rfl rfl (ltn rfl) ?_
        refine VL.va (op_pick rfl rfl (ltn rfl)) rfl ?_
        refine VL.va (op_assign rfl (ltn rfl)) rfl ?_
        refine VL.done ?_
        refine VN.then ?_
        refine VC.cond_t rfl ?_
        refine VC.seq ?_
        refine VC.region ?_
        refine VL.va (op_build (vals := []) (vcs := []) (cells := [.int .i64 0, .slice none 0 0]) SI25 rfl .nil (by kernel_rfl) (ltn rfl)) rfl ?_
        refine VL.step1 (o_store 0 2 rfl rfl rfl TI25 (.agg (.of rfl)) rfl (len rfl)) rfl ?_
        refine VL.va (op_assign rfl (ltn rfl)) rfl ?_
        refine VL.va (op_assign rfl (ltn rfl)) rfl ?_
        refine VL.done ?_
        refine VN.then ?_
        refine VC.ret ?_
        refine VR.block ?_
        refine VR.then ?_
        simp only [Option.some.injEq, Prod.mk.injEq] at h
        obtain ⟨rfl, rfl, rfl, rfl⟩ := h
        refine VR.nilFact' 4 ?_
        exact VR.fn (rs := [.cell 8 25, .tmp 9, .tmp 10]) [.row (.slice none 0 0) 4 (([] : List S33).map enc33)] [] [] rfl (.cell 0 rfl rfl TI25 (fun h => absurd h (by decide)) (.tmp rfl (.tmp rfl .nil))) ⟨(.slice none 0 0), rfl, rfl, rfl⟩ ⟨⟨0, rfl⟩, trivial⟩ rfl (by decide)
    · rw [if_neg c974] at h
      obtain rfl := Bool.eq_false_iff.2 c974
      refine VL.va (op_not rfl rfl (ltn rfl)) rfl ?_
      refine VL.va (op_pick rfl rfl (ltn rfl)) rfl ?_
      refine VL.va (op_move rfl (ltn rfl)) rfl ?_
      refine VL.un rfl rfl (ltn rfl) ?_
      refine VL.un rfl rfl (ltn rfl) ?_
      refine VL.un rfl rfl (ltn rfl) ?_
      refine VL.va (op_pick rfl rfl (ltn rfl)) rfl ?_
      refine VL.va (op_move rfl (ltn rfl)) rfl ?_
      refine VL.un rfl rfl (ltn rfl) ?_
      refine VL.un rfl rfl (ltn rfl) ?_
      refine VL.un rfl rfl (ltn rfl) ?_
      refine VL.va (op_pick rfl rfl (ltn rfl)) rfl ?_
      refine VL.va (op_assign rfl (ltn rfl)) rfl ?_
      refine VL.done ?_
      refine VN.then ?_
      refine VC.cond_t rfl ?_
      refine VC.seq ?_
      refine VC.region ?_
      refine VL.va (op_build (vals := []) (vcs := []) (cells := [.int .i64 0, .slice none 0 0]) SI25 rfl .nil (by kernel_rfl) (ltn rfl)) rfl ?_
      refine VL.step1 (o_store 0 2 rfl rfl rfl TI25 (.agg (.of rfl)) rfl (len rfl)) rfl ?_
      refine VL.va (op_assign rfl (ltn rfl)) rfl ?_
      refine VL.va (op_assign rfl (ltn rfl)) rfl ?_
      refine VL.done ?_
      refine VN.then ?_
      refine VC.ret ?_
      refine VR.block ?_
      refine VR.then ?_
      simp only [Option.some.injEq, Prod.mk.injEq] at h
      obtain ⟨rfl, rfl, rfl, rfl⟩ := h
      refine VR.nilFact' 4 ?_
      exact VR.fn (rs := [.cell 8 25, .tmp 9, .tmp 10]) [.row (.slice none 0 0) 4 (([] : List S33).map enc33)] [] [] rfl (.cell 0 rfl rfl TI25 (fun h => absurd h (by decide)) (.tmp rfl (.tmp rfl .nil))) ⟨(.slice none 0 0), rfl, rfl, rfl⟩ ⟨⟨0, rfl⟩, trivial⟩ rfl (by decide)
  · rw [if_neg c971] at h
    obtain rfl := Bool.eq_false_iff.2 c971
    refine VL.va (op_not rfl rfl (ltn rfl)) rfl ?_
    refine VL.va (op_move rfl (ltn rfl)) rfl ?_
    refine VL.un rfl rfl (ltn rfl) ?_
    refine VL.un rfl rfl (ltn rfl) ?_
    refine VL.un rfl rfl (ltn rfl) ?_
    refine VL.va (op_pick rfl rfl (ltn rfl)) rfl ?_
    refine VL.va (op_move rfl (ltn rfl)) rfl ?_
    refine VL.un rfl rfl (ltn rfl) ?_
    refine VL.un rfl rfl (ltn rfl) ?_
    refine VL.un rfl rfl (ltn rfl) ?_
    refine VL.va (op_pick rfl rfl (ltn rfl)) rfl ?_
    refine VL.va (op_move rfl (ltn rfl)) rfl ?_
    refine VL.un rfl rfl (ltn rfl) ?_
    refine VL.un rfl rfl (ltn rfl) ?_
    refine VL.un rfl rfl (ltn rfl) ?_
    refine VL.va (op_pick rfl rfl (ltn rfl)) rfl ?_
    refine VL.va (op_assign rfl (ltn rfl)) rfl ?_
    refine VL.done ?_
    refine VN.then ?_
    refine VC.cond_t rfl ?_
    refine VC.seq ?_
    refine VC.region ?_
    refine VL.va (op_build (vals := []) (vcs := []) (cells := [.int .i64 0, .slice none 0 0]) SI25 rfl .nil (by kernel_rfl) (ltn rfl)) rfl ?_
    refine VL.step1 (o_store 0 2 rfl rfl rfl TI25 (.agg (.of rfl)) rfl (len rfl)) rfl ?_
    refine VL.va (op_assign rfl (ltn rfl)) rfl ?_
    refine VL.va (op_assign rfl (ltn rfl)) rfl ?_
    refine VL.done ?_
    refine VN.then ?_
    refine VC.ret ?_
    refine VR.block ?_
    refine VR.then ?_
    simp only [Option.some.injEq, Prod.mk.injEq] at h
    obtain ⟨rfl, rfl, rfl, rfl⟩ := h
    refine VR.nilFact' 4 ?_
    exact VR.fn (rs := [.cell 8 25, .tmp 9, .tmp 10]) [.row (.slice none 0 0) 4 (([] : List S33).map enc33)] [] [] rfl (.cell 0 rfl rfl TI25 (fun h => absurd h (by decide)) (.tmp rfl (.tmp rfl .nil))) ⟨(.slice none 0 0), rfl, rfl, rfl⟩ ⟨⟨0, rfl⟩, trivial⟩ rfl (by decide)
set_option maxHeartbeats 4000000 in
set_option maxRecDepth 100000 in
theorem outbox_Done_1.ok (a0_0 : Int) (a0_1 : Int) (a0_2 : Int) (a0_3 : Int) (a1_0 : Int) (p1 : Nat) (r1 : Bool) (h : outbox_Done_1.f a0_0 a0_1 a0_2 a0_3 a1_0 = some r1) :
    VCalls Try.prog 27 [.agg #[.int .i64 a0_0, .int .i64 a0_1, .int .i64 a0_2, .int .i64 a0_3], .pointer (some ⟨p1, 0, none⟩)] [.at_ ⟨p1, 0, none⟩ [.int .i64 a1_0]] (fun v G own => v = .bool r1 ∧ G = [] ∧ own = []) := by
  refine VCalls.intro Try.func27 rfl (len rfl) fun E hC hW hD hU => ?_
  unfold outbox_Done_1.f at h
  refine VC.seq ?_
  refine VC.region ?_
  refine VL.sG (o_box rfl (.agg (.of rfl)) (ltn rfl)) rfl ?_
  intro g1066
  refine VL.va (op_assign rfl (ltn rfl)) rfl ?_
  refine VL.done ?_
  refine VN.then ?_
  refine VC.seq ?_
  refine VC.region ?_
  refine VL.va (op_fieldAddr FI34_0 rfl (add_at _ _ _) (ltn rfl)) rfl ?_
  refine VL.va (op_load 0 1 rfl rfl TI3 rfl (by decide) (ltn rfl)) rfl ?_
  refine VL.va (op_load_at (ad := ⟨p1, 0, none⟩) 0 0 1 (by first | rfl | exact congrArg (fun a => some (Value.pointer (some a))) (add_at _ 0 _).symm) rfl TI3 rfl (by decide) (ltn rfl)) rfl ?_
  refine VL.letter ((a0_0 == a1_0)) fun b1067 hb1067 => ?_
  refine VL.va (op_cmp rfl rfl (congrArg some hb1067) (ltn rfl)) rfl ?_
  refine VL.va (op_assign rfl (ltn rfl)) rfl ?_
  refine VL.done ?_
  refine VN.then ?_
  refine VC.ret ?_
  obtain rfl := Option.some.inj h
  subst hb1067
  exact VR.fn (rs := [.tmp 3]) [] [] [] rfl (.tmp rfl .nil) ⟨rfl, rfl, rfl⟩ trivial rfl (by decide)
set_option maxHeartbeats 4000000 in
set_option maxRecDepth 100000 in
theorem slices_IndexFunc_api_Out_api_Out_s10.ok (k : Nat) (l0 : List S33) (a1_0_0 : Int) (v0 : Value) (p1_0 : Nat) (r1 : Int) (h : slices_IndexFunc_api_Out_api_Out_s10.f k l0 a1_0_0 = some r1) :
    VCalls Try.prog 32 [v0, (.func (.func 27) #[] #[.pointer (some ⟨p1_0, 0, none⟩)])] [.row v0 4 (l0.map enc33), .at_ ⟨p1_0, 0, none⟩ [.int .i64 a1_0_0]] (fun v G own => v = .int .i64 r1 ∧ G = [] ∧ own = []) := by
  refine VCalls.intro Try.func32 rfl (len rfl) fun E hC hW hD hU => ?_
  unfold slices_IndexFunc_api_Out_api_Out_s10.f at h
  refine VC.seq ?_
  refine VC.region ?_
  refine VL.va (op_assign rfl (ltn rfl)) rfl ?_
  refine VL.done ?_
  refine VN.then ?_
  refine VC.seq ?_
  refine VC.seq ?_
  refine VC.region ?_
  refine VL.va (op_move rfl (ltn rfl)) rfl ?_
  refine VL.va (op_len (m := l0.length) 0 lenm Try.underlying23 rfl rfl (ltn rfl)) rfl ?_
  refine VL.va (op_move rfl (ltn rfl)) rfl ?_
  refine VL.done ?_
  refine VN.then ?_
  refine VC.block ?_
  refine VC.loop1 (fun (i1127 : Int) => ⟨19, [(0, v0), (1, (.func (.func 27) #[] #[.pointer (some ⟨p1_0, 0, none⟩)])), (4, .int .i64 0), (7, .int .i64 (l0.length : Int)), (8, .int .i64 i1127)], [.at_ ⟨p1_0, 0, none⟩ [.int .i64 a1_0_0], .row v0 4 (l0.map enc33)], [], []⟩) (fun (ml1 : Nat) (i1127 : Int) => slices_IndexFunc_api_Out_api_Out_s10.l1 k a1_0_0 l0 ml1 i1127 = some r1) k 0 [] [] h ⟨rfl, ⟨rfl, rfl, rfl, rfl, rfl, trivial⟩, ⟨⟨1, rfl⟩, ⟨0, rfl⟩, trivial⟩, rfl, by decide, rfl, by decide⟩ (by intros; simp [slices_IndexFunc_api_Out_api_Out_s10.l1]) ?_
  clear h
  intro ml1 ihl1 i1127 h
  simp only [slices_IndexFunc_api_Out_api_Out_s10.l1] at h
  refine VC.seq ?_
  refine VC.region ?_
  refine VL.letter (decide (i1127 < (l0.length : Int))) fun b1145 hb1145 => ?_
  refine VL.va (op_cmp rfl rfl (congrArg some hb1145) (ltn rfl)) rfl ?_
  refine VL.done ?_
  refine VN.then ?_
  refine VC.seq ?_
  by_cases c1147 : i1127 < (l0.length : Int)
  · rw [if_pos c1147] at h
    obtain rfl : b1145 = true := hb1145.symm.trans (decide_eq_true c1147)
    refine VC.cond_t rfl ?_
    refine VC.skip ?_
    refine VN.then ?_
    refine VC.seq ?_
    refine VC.block ?_
    refine VC.seq ?_
    refine VC.region ?_
    refine VL.va (op_move rfl (ltn rfl)) rfl ?_
    refine VL.va (op_assign rfl (ltn rfl)) rfl ?_
    refine VL.done ?_
    refine VN.then ?_
    refine VC.seq ?_
    refine VC.region ?_
    refine VL.va (op_move rfl (ltn rfl)) rfl ?_
    refine VL.va (op_move rfl (ltn rfl)) rfl ?_
    refine VL.va (op_move rfl (ltn rfl)) rfl ?_
    by_cases c1155 : 0 ≤ i1127
    · rw [if_pos c1155] at h
      replace h := Option.bind_eq_some_iff.1 h
      obtain ⟨x1156, hx1156, h⟩ := h
      refine VL.open (m := l0.length) 1 lenm rfl (pos_get hx1156) ?_
      rintro ad1157 n1158 rfl
      refine VL.va (op_indexAddr Try.underlying23 TI34 rfl rfl c1155 (lt_get c1155 hx1156) rfl (ltn rfl)) rfl ?_
      refine VL.va (op_load_row (sz := 4) (o := 0) 1 i1127.toNat 4 rfl rfl (get_map hx1156) TI34 rfl (fun h => absurd h (by decide)) (ltn rfl)) rfl ?_
      replace h := Option.bind_eq_some_iff.1 h
      obtain ⟨t1159, hA1160, h⟩ := h
      refine VL.sC (o_call (vals := [.agg #[.int .i64 x1156.f0, .int .i64 x1156.f1, .int .i64 x1156.f2, .int .i64 x1156.f3]]) (caps := [.pointer (some ⟨p1_0, 0, none⟩)]) FO27 (outbox_Done_1.ok x1156.f0 x1156.f1 x1156.f2 x1156.f3 a1_0_0 p1_0 t1159 hA1160) rfl rfl (ltn rfl) (All_of (.cons (List.mem_of_getElem? (i := 0) rfl) .nil))) rfl ?_
      rintro _ _ _ ⟨rfl, rfl, rfl⟩
      refine VL.done ?_
      refine VN.then ?_
      by_cases c1161 : t1159 = true
      · rw [if_pos c1161] at h
        obtain rfl := c1161
        refine VC.cond_t rfl ?_
        refine VC.seq ?_
        refine VC.region ?_
        refine VL.va (op_move rfl (ltn rfl)) rfl ?_
        refine VL.va (op_assign rfl (ltn rfl)) rfl ?_
        refine VL.done ?_
        refine VN.then ?_
        refine VC.ret ?_
        refine VR.block ?_
        refine VR.then ?_
        refine VR.then ?_
        refine VR.block ?_
        refine VR.then ?_
        obtain rfl := Option.some.inj h
        exact VR.fn (rs := [.tmp 4]) [] [] [] rfl (.tmp rfl .nil) ⟨rfl, rfl, rfl⟩ trivial rfl (by decide)
      · rw [if_neg c1161] at h
        obtain rfl := Bool.eq_false_iff.2 c1161
        refine VC.cond_f rfl ?_
        refine VC.skip ?_
        refine VN.block ?_
        refine VN.then ?_
        refine VC.region ?_
        refine VL.va (op_ari64 rfl rfl rfl (ltn rfl)) rfl ?_
        refine VL.va (op_move rfl (ltn rfl)) rfl ?_
        refine VL.done ?_
        refine VN.again [] [] (ihl1 (wrap64 (i1127 + 1)) h) ⟨rfl, ⟨rfl, rfl, rfl, rfl, rfl, trivial⟩, ⟨⟨0, rfl⟩, ⟨1, rfl⟩, trivial⟩, rfl, by decide, rfl, by decide⟩
    · rw [if_neg c1155] at h; cases h
  · rw [if_neg c1147] at h
    obtain rfl : b1145 = false := hb1145.symm.trans (decide_eq_false c1147)
    refine VC.cond_f rfl ?_
    refine VC.exit ?_
    refine VX.then ?_
    refine VX.then ?_
    refine VX.hit ?_
    refine VN.then ?_
    refine VC.seq ?_
    refine VC.region ?_
    refine VL.va (op_assign rfl (ltn rfl)) rfl ?_
    refine VL.done ?_
    refine VN.then ?_
    refine VC.ret ?_
    obtain rfl := Option.some.inj h
    exact VR.fn (rs := [.tmp 4]) [] [] [] rfl (.tmp rfl .nil) ⟨rfl, rfl, rfl⟩ trivial rfl (by decide)
set_option maxHeartbeats 4000000 in
set_option maxRecDepth 100000 in
theorem outbox_where_Out_s10.ok (k : Nat) (l0 : List S33) (a1_0_0 : Int) (v0 : Value) (p1_0 : Nat) (r1 : Int) (h : outbox_where_Out_s10.f k l0 a1_0_0 = some r1) :
    VCalls Try.prog 24 [v0, (.func (.func 27) #[] #[.pointer (some ⟨p1_0, 0, none⟩)])] [.row v0 4 (l0.map enc33), .at_ ⟨p1_0, 0, none⟩ [.int .i64 a1_0_0]] (fun v G own => v = .int .i64 r1 ∧ G = [] ∧ own = []) := by
  refine VCalls.intro Try.func24 rfl (len rfl) fun E hC hW hD hU => ?_
  unfold outbox_where_Out_s10.f at h
  refine VC.seq ?_
  refine VC.region ?_
  refine VL.va (op_assign rfl (ltn rfl)) rfl ?_
  refine VL.done ?_
  refine VN.then ?_
  refine VC.seq ?_
  refine VC.region ?_
  refine VL.va (op_move rfl (ltn rfl)) rfl ?_
  refine VL.va (op_move rfl (ltn rfl)) rfl ?_
  replace h := Option.bind_eq_some_iff.1 h
  obtain ⟨t1162, hA1163, h⟩ := h
  refine VL.sC (o_call0 FO32 (slices_IndexFunc_api_Out_api_Out_s10.ok k l0 a1_0_0 v0 p1_0 t1162 hA1163) rfl rfl (ltn rfl) (All_of (.cons (List.mem_of_getElem? (i := 0) rfl) (.cons (List.mem_of_getElem? (i := 1) rfl) .nil)))) rfl ?_
  rintro _ _ _ ⟨rfl, rfl, rfl⟩
  refine VL.va (op_assign rfl (ltn rfl)) rfl ?_
  refine VL.done ?_
  refine VN.then ?_
  refine VC.ret ?_
  obtain rfl := Option.some.inj h
  exact VR.fn (rs := [.tmp 4]) [] [] [] rfl (.tmp rfl .nil) ⟨rfl, rfl, rfl⟩ trivial rfl (by decide)
set_option maxHeartbeats 4000000 in
set_option maxRecDepth 100000 in
theorem slices_Clone_api_Out_api_Out.ok (l0 : List S33) (v0 : Value) (r1 : List S33) (h : slices_Clone_api_Out_api_Out.f l0 = some r1) :
    VCalls Try.prog 29 [v0] [.row v0 4 (l0.map enc33)] (fun v G own => ∃ w0 : Value, v = w0 ∧ G = [] ∧ own = [(w0, 34, 4, r1.map enc33)]) := by
  unfold slices_Clone_api_Out_api_Out.f at h
  by_cases hc : ¬ (l0.length * 32 ≤ 140737488355328)
  · rw [if_neg hc] at h; cases h
  replace hc := Decidable.not_not.1 hc
  rw [if_pos hc] at h
  obtain rfl := Option.some.inj h
  clear h
  refine VCalls.intro Try.func29 rfl (len rfl) fun E hC hW hD hU => ?_
  refine VC.formF 0 rfl fun A cap hv h1 h2 h3 => ?_
  rw [lenm] at hv h1 h3
  subst hv
  refine VC.seq (VC.region ?_)
  refine VL.va (op_assign rfl (ltn rfl)) rfl ?_
  refine VL.done (VN.then ?_)
  refine VC.seq ?_
  refine VC.seq (VC.region ?_)
  refine VL.va (op_move rfl (ltn rfl)) rfl ?_
  refine VL.va (op_isnil Try.underlying23 rfl rfl (ltn rfl)) rfl ?_
  refine VL.done (VN.then ?_)
  cases A with
  | none =>
    have e : l0 = [] := List.eq_nil_of_length_eq_zero (h3 rfl)
    subst e
    refine VC.cond_t rfl ?_
    refine VC.seq (VC.region ?_)
    refine VL.va (op_assign rfl (ltn rfl)) rfl ?_
    refine VL.done (VN.then ?_)
    refine VC.ret (VR.then ?_)
    refine VR.nilRow' 34 4 ?_
    exact VR.fn (rs := [.tmp 2]) [] [(.slice none 0 0, 34, 4, [])] [0] rfl (.tmp rfl .nil) ⟨_, rfl, rfl, rfl⟩ trivial rfl (by decide)
  | some ad =>
    refine VC.cond_f rfl (VC.skip (VN.then ?_))
    refine VC.seq (VC.region ?_)
    refine VL.sG (o_buildSlice (vals := []) (cells := #[]) (es := List.map enc33 ([] : List S33)) Try.underlying23 TI34 Z34 rfl (by decide) (by decide) (by kernel_rfl) rfl rfl (flat_map enc33_ok _) (ltn rfl)) rfl ?_
    intro v1
    refine VL.va (op_move rfl (ltn rfl)) rfl ?_
    refine VL.sG (o_append (es3 := l0.map enc33) 0 rfl Try.underlying23 EI34 rfl rfl rfl (.inl ⟨0, rfl⟩) (by rw [lenm, lenm]; simpa using hc) (ltn rfl)) rfl ?_
    intro v2
    refine VL.va (op_assign rfl (ltn rfl)) rfl ?_
    refine VL.done (VN.then ?_)
    refine VC.ret ?_
    exact VR.fn (rs := [.tmp 2]) [] [(v2, 34, 4, l0.map enc33)] [0] rfl (.tmp rfl .nil) ⟨_, rfl, rfl, rfl⟩ trivial rfl (by decide)
set_option maxHeartbeats 4000000 in
set_option maxRecDepth 100000 in
theorem slices_Delete_api_Out_api_Out.ok (l0 : List S33) (a1 : Int) (a2 : Int) (v0 : Value) (r1 : List S33) (h : slices_Delete_api_Out_api_Out.f l0 a1 a2 = some r1) :
    VOwn Try.prog 28 [v0, .int .i64 a1, .int .i64 a2] (v0, 34, 4, l0.map enc33) [] (fun q x' => x' = (q, 34, 4, r1.map enc33)) := by
  unfold slices_Delete_api_Out_api_Out.f at h
  by_cases hc : ¬ (0 ≤ a1 ∧ a1 ≤ a2 ∧ a2 ≤ (l0.length : Int))
  · rw [if_neg hc] at h; cases h
  replace hc := Decidable.not_not.1 hc
  rw [if_pos hc] at h
  obtain rfl := Option.some.inj h
  obtain ⟨h0, h12, h2n⟩ := hc
  clear h
  obtain ⟨i, rfl⟩ : ∃ i : Nat, a1 = (i : Int) := ⟨a1.toNat, by omega⟩
  obtain ⟨j, rfl⟩ : ∃ j : Nat, a2 = (j : Int) := ⟨a2.toNat, by omega⟩
  have hij : i ≤ j := by omega
  have hjn : j ≤ l0.length := by omega
  simp only [Int.toNat_natCast]
  refine VOwn.intro Try.func28 rfl (len rfl) fun E fr hW hD hU => ?_
  refine VC.formR 0 rfl fun A cap hv hcap => ?_
  rw [lenm] at hv hcap
  subst hv
  refine VC.seq (VC.region ?_)
  refine VL.va (op_assign rfl (ltn rfl)) rfl ?_
  refine VL.done (VN.then ?_)
  refine VC.seq (VC.region ?_)
  refine VL.va (op_move rfl (ltn rfl)) rfl ?_
  refine VL.va (op_move rfl (ltn rfl)) rfl ?_
  refine VL.va (op_move rfl (ltn rfl)) rfl ?_
  refine VL.va (op_move rfl (ltn rfl)) rfl ?_
  refine VL.va (op_lenV Try.underlying23 rfl (ltn rfl)) rfl ?_
  refine VL.va (op_slice3 Try.underlying23 TI34 rfl rfl rfl rfl hij hjn hcap (ltn rfl)) rfl ?_
  refine VL.done (VN.then ?_)
  refine VC.seq ?_
  refine VC.seq (VC.region ?_)
  refine VL.va (op_move rfl (ltn rfl)) rfl ?_
  refine VL.va (op_move rfl (ltn rfl)) rfl ?_
  refine VL.letter ((i : Int) == (j : Int)) fun b3 hb3 => ?_
  refine VL.va (op_cmp rfl rfl (congrArg some hb3) (ltn rfl)) rfl ?_
  refine VL.done (VN.then ?_)
  by_cases c3 : i = j
  · have : b3 = true := by rw [← hb3, c3]; simp
    subst this
    clear hb3
    refine VC.cond_t rfl ?_
    refine VC.seq (VC.region ?_)
    refine VL.va (op_move rfl (ltn rfl)) rfl ?_
    refine VL.va (op_assign rfl (ltn rfl)) rfl ?_
    refine VL.done (VN.then ?_)
    refine VC.ret (VR.then ?_)
    refine VR.own (rs := [.tmp 6]) 0 [] rfl (.tmp rfl .nil) rfl ?_ rfl id
    rw [c3, List.take_append_drop]
    rfl
  have : b3 = false := by rw [← hb3]; simpa using fun e => c3 (by omega)
  subst this
  clear hb3
  have hlt : i < j := by omega
  refine VC.cond_f rfl (VC.skip (VN.then ?_))
  refine VC.openBox 0 rfl (by rw [lenm]; omega) fun g cap' cur hv hcap' hmx hlen htake hfl => ?_
  rw [lenm] at hv hcap' htake
  obtain ⟨rfl, -, rfl⟩ := Value.slice.inj hv
  clear hv hcap'
  refine VC.seq (VC.region ?_)
  refine VL.va (op_move rfl (ltn rfl)) rfl ?_
  refine VL.va (op_lenV Try.underlying23 rfl (ltn rfl)) rfl ?_
  refine VL.va (op_assign rfl (ltn rfl)) rfl ?_
  refine VL.done (VN.then ?_)
  have hd : ((cur.drop (j * 4)).take ((l0.length - j) * 4)).length = (l0.length - j) * 4 := by rw [List.length_take, List.length_drop, hlen]; omega
  have h1c : ∀ u ∈ (cur.drop (j * 4)).take ((l0.length - j) * 4), u.oneCell' = true := by
    intro u hu
    have e : (cur.drop (j * 4)).take ((l0.length - j) * 4) = (cur.take (l0.length * 4)).drop (j * 4) := by
      rw [List.drop_take]
      congr 1
      omega
    rw [e, htake] at hu
    exact flat_one hfl u (List.mem_of_mem_drop hu)
  obtain ⟨o, ho, ho2⟩ : ∃ o, cutV (some ⟨g, 0, none⟩) j l0.length cap 4 = .slice (some ⟨g, o, none⟩) (l0.length - j) (cap - j) ∧ (l0.length = j ∨ o = j * 4) := by
    rcases Nat.lt_or_ge j cap with h | h
    · exact ⟨_, cutV_at0 (.inl h), .inr rfl⟩
    · exact ⟨0, by unfold cutV; rw [if_pos (by omega)], .inl (by omega)⟩
  refine VC.seq ?_
  refine VC.draw ⟨0, [], [], [], []⟩ (by kernel_rfl) rfl (by kernel_rfl) (n := 8) (listed := LB 8 0) ?_
  refine VA.va (i := 0) (listed' := LB 8 1) rfl (op_move rfl (ltn rfl)) rfl (by kernel_rfl) (by kernel_rfl) (by kernel_rfl) (by kernel_rfl) ⟨trivial, trivial, trivial⟩ (fun _ _ _ h => h) ?_
  refine VA.va (i := 1) (listed' := LB 8 3) rfl (op_move rfl (ltn rfl)) rfl (by kernel_rfl) (by kernel_rfl) (by kernel_rfl) (by kernel_rfl) ⟨trivial, trivial, trivial⟩ (fun _ _ _ h => h) ?_
  refine VA.va (i := 2) (listed' := LB 8 7) rfl (op_cutH' 0 i (v := .slice (some ⟨g, 0, none⟩) i cap) (by rw [cutV_at0 (.inr rfl)]; simp) Try.underlying23 TI34 rfl ⟨rfl, ⟨_, _, rfl, h0, Int.toNat_natCast i⟩, Nat.zero_le _, by omega⟩ (ltn rfl)) rfl (by kernel_rfl) (by kernel_rfl) (by kernel_rfl) (by kernel_rfl) ⟨trivial, trivial, trivial⟩ (fun _ _ _ h => h) ?_
  refine VA.va (i := 3) (listed' := LB 8 15) rfl (op_move rfl (ltn rfl)) rfl (by kernel_rfl) (by kernel_rfl) (by kernel_rfl) (by kernel_rfl) ⟨trivial, trivial, trivial⟩ (fun _ _ _ h => h) ?_
  refine VA.va (i := 4) (listed' := LB 8 31) rfl (op_move rfl (ltn rfl)) rfl (by kernel_rfl) (by kernel_rfl) (by kernel_rfl) (by kernel_rfl) ⟨trivial, trivial, trivial⟩ (fun _ _ _ h => h) ?_
  refine VA.va (i := 5) (listed' := LB 8 63) rfl (op_cutV' j l0.length ho Try.underlying23 TI34 rfl ⟨⟨_, _, rfl, by omega, Int.toNat_natCast _⟩, rfl, by omega, Nat.le_refl _⟩ hcap (ltn rfl)) rfl (by kernel_rfl) (by kernel_rfl) (by kernel_rfl) (by kernel_rfl) ⟨trivial, trivial, trivial⟩ (fun _ _ _ h => h) ?_
  refine VA.one1 (i := 6) (listed' := LB 8 127) (by kernel_rfl) rfl (o_append_in (cs := (cur.drop (j * 4)).take ((l0.length - j) * 4)) 0 Try.underlying23 EI34 rfl rfl rfl hd (by omega) (by rw [hd, hlen]; omega) (fun w hm q u hu => by
    rcases ho2 with h | h
    · rw [h, Nat.sub_self, Nat.zero_mul, List.take_zero] at hu
      cases hu
    · subst h
      exact src_box (s := ⟨_, _, _, _, _⟩) ((l0.length - j) * 4) 0 rfl rfl w hm q u hu) h1c rfl (ltn rfl)) rfl (by kernel_rfl) ⟨trivial, trivial, trivial⟩ ?_
  refine VA.va (i := 7) (listed' := LB 8 255) rfl (op_assign rfl (ltn rfl)) rfl (by kernel_rfl) (by kernel_rfl) (by kernel_rfl) (by kernel_rfl) ⟨trivial, trivial, trivial⟩ (fun _ _ _ h => h) ?_
  refine VA.done (by kernel_rfl) (VN.then ?_)
  have hcur1 : (upd cur (i * 4) ((cur.drop (j * 4)).take ((l0.length - j) * 4))).length = cap * 4 := by rw [upd_len, hlen]; rw [hd, hlen]; omega
  refine VC.seq (VC.region ?_)
  refine VL.va (op_move rfl (ltn rfl)) rfl ?_
  refine VL.va (op_move rfl (ltn rfl)) rfl ?_
  refine VL.va (op_lenV Try.underlying23 rfl (ltn rfl)) rfl ?_
  refine VL.va (op_move rfl (ltn rfl)) rfl ?_
  refine VL.va (op_cutH' (i + (l0.length - j)) l0.length (cutV_at0 (by omega)) Try.underlying23 TI34 rfl ⟨⟨_, _, rfl, by omega, Int.toNat_natCast _⟩, ⟨_, _, rfl, by omega, Int.toNat_natCast _⟩, by omega, by omega⟩ (ltn rfl)) rfl ?_
  refine VL.clear (sz := 4) 0 Try.underlying23 Z34 rfl (by decide) rfl rfl rfl (by rw [hcur1]; omega) rfl fun us hus => ?_
  refine VL.done (VN.then ?_)
  refine VC.seq (VC.region ?_)
  refine VL.va (op_move rfl (ltn rfl)) rfl ?_
  refine VL.va (op_assign rfl (ltn rfl)) rfl ?_
  refine VL.done (VN.then ?_)
  refine VC.ret ?_
  have hfll : (l0.take i ++ l0.drop j).length = i + (l0.length - j) := by simp only [List.length_append, List.length_take, List.length_drop]; omega
  have hfin : ((l0.take i ++ l0.drop j).map enc33).flatten = (cur.take (l0.length * 4)).take (i * 4) ++ (cur.take (l0.length * 4)).drop (j * 4) := by
    rw [htake, List.map_append, List.flatten_append, List.map_take, List.map_drop, flat_take i hfl, flat_drop j hfl]
  refine VR.closeBox 0 cap 4 ((l0.take i ++ l0.drop j).map enc33) rfl (by rw [lenm, hfll]; omega) hmx (by rw [upd_len, hcur1]; rw [hus, hcur1]; omega) ?_ (flat_map enc33_ok _) ?_
  · rw [lenm, hfll, hfin, Nat.add_mul, Nat.sub_mul]
    exact del_is (by rw [hlen]; omega) (by omega) (by omega) (by rw [← Nat.sub_mul])
  rw [lenm, hfll]
  exact VR.own (rs := [.tmp 6]) 0 [] rfl (.tmp rfl .nil) rfl rfl rfl (fun _ => rfl)

end Go.Proofs.Ytapdeoioenblfaa.POutboxTells
