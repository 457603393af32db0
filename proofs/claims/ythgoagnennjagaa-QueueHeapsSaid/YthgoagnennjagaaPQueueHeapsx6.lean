/- Written by a program of this repo: what the program's functions do, each as a Lean function, shown of the loaded code; or a statement's row over that; no condition of its own. -/
import Derived.Test.YthgoagnennjagaaPQueueHeapsx5
namespace Go.Proofs.Ythgoagnennjagaa.PQueueHeaps
open Go Go.RowKit Go.Proofs.YthgoagnennjagaaV
set_option linter.unusedVariables false
set_option linter.unusedSimpArgs false

set_option maxHeartbeats 4000000 in
set_option maxRecDepth 100000 in
theorem queue_Pop.ok (k : Nat) (l0 : List S23) (v0 : Value) (r1 : List S23) (r2 : Int) (r3 : Int) (r4 : Int) (r5 : Int) (h : queue_Pop.f k l0 = some (r1, r2, r3, r4, r5)) :
    VCalls Try.prog 19 [v0] [.row v0 3 (l0.map enc23)] (fun v G own => ∃ w0 : Value, v = .tuple #[w0, .agg #[.int .i64 r2, .int .i64 r3, .int .i64 r4], .int .i64 r5] ∧ G = [] ∧ own = [(w0, 24, 3, r1.map enc23)]) := by
  refine VCalls.intro Try.func19 rfl (len rfl) fun E hC => ?_
  unfold queue_Pop.f at h
  refine VC.seq ?_
  refine VC.region ?_
  refine VL.va (op_assign rfl (ltn rfl)) rfl ?_
  refine VL.sG (o_alloc Z24 ZL24 (ltn rfl)) rfl ?_
  intro g168419
  refine VL.va (op_assign rfl (ltn rfl)) rfl ?_
  refine VL.done ?_
  refine VN.then ?_
  refine VC.seq ?_
  refine VC.block ?_
  refine VC.join1 (fun (q189023 : Bool) => ⟨28, [(0, v0), (2, .slice none 0 0), (3, .pointer (some ⟨g168419, 0, none⟩)), (4, .int .i64 0), (8, .bool q189023)], [.row v0 3 (l0.map enc23)], [(g168419, 24, [.int .i64 0, .int .i64 0, .int .i64 0])], []⟩) (fun (q189023 : Bool) => queue_Pop.j60 k l0 q189023 = some (r1, r2, r3, r4, r5)) ?_ ?_
  · refine VC.region ?_
    refine VL.va (op_move rfl (ltn rfl)) rfl ?_
    replace h := Option.bind_eq_some_iff.1 h
    obtain ⟨t189020, hA189021, h⟩ := h
    refine VL.sC (o_call0 FO12 (queue_Right.ok k l0 v0 t189020 hA189021) rfl rfl (ltn rfl) (All_of (.cons (List.mem_of_getElem? (i := 0) rfl) .nil))) rfl ?_
    rintro _ _ _ ⟨rfl, rfl, rfl⟩
    by_cases c189022 : t189020 = true
    · rw [if_pos c189022] at h
      obtain rfl := c189022
      refine VL.va (op_not rfl rfl (ltn rfl)) rfl ?_
      refine VL.va (op_assign rfl (ltn rfl)) rfl ?_
      refine VL.done ?_
      refine VN.meet1 false [0] [] h ⟨rfl, ⟨rfl, rfl, rfl, rfl, rfl, trivial⟩, ⟨⟨0, rfl⟩, trivial⟩, rfl, by decide, rfl, by decide⟩
    · rw [if_neg c189022] at h
      obtain rfl := Bool.eq_false_iff.2 c189022
      refine VL.va (op_not rfl rfl (ltn rfl)) rfl ?_
      refine VL.va (op_assign rfl (ltn rfl)) rfl ?_
      refine VL.done ?_
      refine VN.meet1 true [0] [] h ⟨rfl, ⟨rfl, rfl, rfl, rfl, rfl, trivial⟩, ⟨⟨0, rfl⟩, trivial⟩, rfl, by decide, rfl, by decide⟩
  clear h
  intro q189023 h
  unfold queue_Pop.j60 at h
  by_cases c189024 : q189023 = true
  · rw [if_pos c189024] at h
    obtain rfl := c189024
    refine VC.cond_t rfl ?_
    refine VC.seq ?_
    refine VC.region ?_
    refine VL.va (op_build (vals := []) (vcs := []) (cells := [.int .i64 0, .int .i64 0, .int .i64 0]) SI24 rfl .nil (by kernel_rfl) (ltn rfl)) rfl ?_
    refine VL.va (op_assign rfl (ltn rfl)) rfl ?_
    refine VL.step1 (o_store 0 3 rfl rfl rfl TI24 (.agg (.of rfl)) rfl (len rfl)) rfl ?_
    refine VL.va (op_assign rfl (ltn rfl)) rfl ?_
    refine VL.done ?_
    refine VN.then ?_
    refine VC.ret ?_
    refine VR.block ?_
    refine VR.then ?_
    simp only [Option.some.injEq, Prod.mk.injEq] at h
    obtain ⟨rfl, rfl, rfl, rfl, rfl⟩ := h
    refine VR.nilRow' 24 3 ?_
    exact VR.fn (rs := [.tmp 2, .cell 3 24, .tmp 4]) [] [((.slice none 0 0), 24, 3, ([] : List S23).map enc23)] [0] rfl (.tmp rfl (.cell 0 rfl rfl TI24 (fun h => absurd h (by decide)) (.tmp rfl .nil))) ⟨(.slice none 0 0), rfl, rfl, rfl⟩ trivial rfl (by decide)
  · rw [if_neg c189024] at h
    obtain rfl := Bool.eq_false_iff.2 c189024
    refine VC.cond_f rfl ?_
    refine VC.seq ?_
    refine VC.region ?_
    refine VL.va (op_move rfl (ltn rfl)) rfl ?_
    refine VL.va (op_len (m := l0.length) 0 lenm Try.underlying22 rfl rfl (ltn rfl)) rfl ?_
    refine VL.letter (((l0.length : Int) == 0)) fun b189026 hb189026 => ?_
    refine VL.va (op_cmp rfl rfl (congrArg some hb189026) (ltn rfl)) rfl ?_
    refine VL.va (op_assign rfl (ltn rfl)) rfl ?_
    refine VL.done ?_
    refine VN.then ?_
    by_cases c189027 : (l0.length : Int) = 0
    · rw [if_pos c189027] at h
      obtain rfl : b189026 = true := hb189026.symm.trans (beq_iff_eq.2 c189027)
      refine VC.cond_t rfl ?_
      refine VC.seq ?_
      refine VC.region ?_
      refine VL.va (op_build (vals := []) (vcs := []) (cells := [.int .i64 0, .int .i64 0, .int .i64 0]) SI24 rfl .nil (by kernel_rfl) (ltn rfl)) rfl ?_
      refine VL.va (op_assign rfl (ltn rfl)) rfl ?_
      refine VL.step1 (o_store 0 3 rfl rfl rfl TI24 (.agg (.of rfl)) rfl (len rfl)) rfl ?_
      refine VL.va (op_assign rfl (ltn rfl)) rfl ?_
      refine VL.done ?_
      refine VN.then ?_
      refine VC.ret ?_
      refine VR.block ?_
      refine VR.then ?_
      simp only [Option.some.injEq, Prod.mk.injEq] at h
      obtain ⟨rfl, rfl, rfl, rfl, rfl⟩ := h
      refine VR.nilRow' 24 3 ?_
      exact VR.fn (rs := [.tmp 2, .cell 3 24, .tmp 4]) [] [((.slice none 0 0), 24, 3, ([] : List S23).map enc23)] [0] rfl (.tmp rfl (.cell 0 rfl rfl TI24 (fun h => absurd h (by decide)) (.tmp rfl .nil))) ⟨(.slice none 0 0), rfl, rfl, rfl⟩ trivial rfl (by decide)
    · rw [if_neg c189027] at h
      obtain rfl : b189026 = false := hb189026.symm.trans (beq_eq_false_iff_ne.2 c189027)
      refine VC.cond_f rfl ?_
      refine VC.skip ?_
      refine VN.block ?_
      refine VN.then ?_
      refine VC.seq ?_
      refine VC.region ?_
      refine VL.va (op_move rfl (ltn rfl)) rfl ?_
      replace h := Option.bind_eq_some_iff.1 h
      obtain ⟨r189029, hA189030, h⟩ := h
      refine VL.sC (o_call_b0 FO22 (slices_Clone_api_Wait_api_Wait.ok l0 v0 r189029 hA189030) rfl rfl (ltn rfl) (All_of (.cons (.inl (List.mem_of_getElem? (i := 0) rfl)) .nil)) (by rintro _ _ _ ⟨_, rfl, rfl, rfl⟩; rfl)) rfl ?_
      rintro v189032 _ _ ⟨_, rfl, rfl, rfl⟩
      refine VL.sG (o_alloc Z40 ZL40 (ltn rfl)) rfl ?_
      intro g189033
      refine VL.step1 (o_store 0 1 rfl rfl rfl TI40 (.r 0 rfl) rfl (len rfl)) rfl ?_
      refine VL.done ?_
      refine VN.then ?_
      refine VC.seq ?_
      refine VC.region ?_
      refine VL.va (op_makeIface Try.underlying42 (fun _ h => by cases h) rfl (ltn rfl)) rfl ?_
      refine VL.inl (vals := [.iface 42 (.pointer (some ⟨g189033, 0, none⟩))]) (caps := []) Try.func25 FO25 rfl rfl rfl (len rfl) (ltn rfl) rfl ?_
      refine VC.seq ?_
      refine VC.region ?_
      refine VL.va (op_assign rfl (ltn rfl)) rfl ?_
      refine VL.done ?_
      refine VN.then ?_
      refine VC.seq ?_
      refine VC.region ?_
      refine VL.va (op_move rfl (ltn rfl)) rfl ?_
      refine VL.inle (vals := [v189032]) Try.func54 rfl (ope_meth_v 0 1 MI42_Len Try.underlying42 FO54 rfl rfl TI40 rfl (by decide) rfl rfl) (len rfl) (by rintro d ⟨⟩; exact ltn rfl) rfl ?_
      refine VC.seq ?_
      refine VC.region ?_
      refine VL.va (op_assign rfl (ltn rfl)) rfl ?_
      refine VL.done ?_
      refine VN.then ?_
      refine VC.seq ?_
      refine VC.region ?_
      refine VL.va (op_move rfl (ltn rfl)) rfl ?_
      refine VL.va (op_len_own (m := r189029.length) 0 lenm Try.underlying40 rfl rfl (ltn rfl)) rfl ?_
      refine VL.va (op_assign rfl (ltn rfl)) rfl ?_
      refine VL.done ?_
      refine VN.then ?_
      refine VC.ret ?_
      refine VR.inl (rs := [.tmp 2]) (.int .i64 (r189029.length : Int)) rfl (.tmp rfl .nil) rfl ?_
      refine VL.va (op_ari64 rfl rfl rfl (ltn rfl)) rfl ?_
      refine VL.va (op_assign rfl (ltn rfl)) rfl ?_
      refine VL.done ?_
      refine VN.then ?_
      refine VC.seq ?_
      refine VC.region ?_
      refine VL.va (op_move rfl (ltn rfl)) rfl ?_
      refine VL.va (op_move rfl (ltn rfl)) rfl ?_
      replace h := Option.bind_eq_some_iff.1 h
      obtain ⟨r195892, hA195893, h⟩ := h
      refine VL.step1 (ope_ownd (vals := [v189032, .int .i64 0, .int .i64 (wrap64 ((r189029.length : Int) - 1))]) 0 rfl (ope_meth_v 0 1 MI42_Swap Try.underlying42 FO56 rfl rfl TI40 rfl (by decide) rfl rfl) (queue_waits_Swap.ok r189029 0 (wrap64 ((r189029.length : Int) - 1)) v189032 r195892 hA195893) (by simp) (ltn rfl)) rfl ?_
      refine VL.done ?_
      refine VN.then ?_
      refine VC.join2 (fun (v202731 : Value) (l202732 : List S23) => ⟨15, [(0, .iface 42 (.pointer (some ⟨g189033, 0, none⟩))), (2, .nilIface)], [], [(g189033, 40, [v202731]), (g168419, 24, [.int .i64 0, .int .i64 0, .int .i64 0])], [(v202731, 24, 3, l202732.map enc23)]⟩) (fun (v202731 : Value) (l202732 : List S23) => queue_Pop.j96 k l202732 = some (r1, r2, r3, r4, r5)) ?_ ?_
      · refine VC.region ?_
        refine VL.va (op_move rfl (ltn rfl)) rfl ?_
        refine VL.va (op_move rfl (ltn rfl)) rfl ?_
        refine VL.inl (vals := [.iface 42 (.pointer (some ⟨g189033, 0, none⟩)), .int .i64 0, .int .i64 (wrap64 ((r189029.length : Int) - 1))]) (caps := []) Try.func31 FO31 rfl rfl rfl (len rfl) (ltn rfl) rfl ?_
        refine VC.seq ?_
        refine VC.region ?_
        refine VL.va (op_assign rfl (ltn rfl)) rfl ?_
        refine VL.done ?_
        refine VN.then ?_
        refine VC.seq ?_
        refine VC.region ?_
        refine VL.va (op_move rfl (ltn rfl)) rfl ?_
        refine VL.va (op_assign rfl (ltn rfl)) rfl ?_
        refine VL.done ?_
        refine VN.then ?_
        refine VC.seq ?_
        refine VC.block ?_
        refine VC.loop3 (fun (i202119 : Int) (v202121 : Value) (l202122 : List S23) => ⟨48, [(0, .iface 42 (.pointer (some ⟨g189033, 0, none⟩))), (1, .int .i64 0), (2, .int .i64 (wrap64 ((r189029.length : Int) - 1))), (6, .bool false), (7, .int .i64 i202119)], [], [(g189033, 40, [v202121]), (g168419, 24, [.int .i64 0, .int .i64 0, .int .i64 0])], [(v202121, 24, 3, l202122.map enc23)]⟩) (fun (ml99 : Nat) (i202119 : Int) (v202121 : Value) (l202122 : List S23) => queue_Pop.l99 k r189029 ml99 i202119 l202122 = some (r1, r2, r3, r4, r5)) k 0 v189032 r195892 [0, 1] [0] h ⟨rfl, ⟨rfl, rfl, rfl, rfl, rfl, trivial⟩, trivial, rfl, by decide, rfl, by decide⟩ (by intros; simp [queue_Pop.l99]) ?_
        clear h
        intro ml99 ihl99 i202119 v202121 l202122 h
        simp only [queue_Pop.l99] at h
        refine VC.block ?_
        refine VC.seq ?_
        refine VC.region ?_
        refine VL.va (op_move rfl (ltn rfl)) rfl ?_
        refine VL.va (op_ari64 rfl rfl rfl (ltn rfl)) rfl ?_
        refine VL.va (op_ari64 rfl rfl rfl (ltn rfl)) rfl ?_
        refine VL.va (op_assign rfl (ltn rfl)) rfl ?_
        refine VL.done ?_
        refine VN.then ?_
        refine VC.seq ?_
        refine VC.join3 (fun (q202584 : Bool) (q202585 : Bool) (q202586 : Bool) => ⟨48, [(0, .iface 42 (.pointer (some ⟨g189033, 0, none⟩))), (1, .int .i64 0), (2, .int .i64 (wrap64 ((r189029.length : Int) - 1))), (6, .bool false), (7, .int .i64 i202119), (8, .int .i64 (wrap64 ((wrap64 (2 * i202119)) + 1))), (12, .int .i64 i202119), (13, .int .i64 (wrap64 (2 * i202119))), (14, .int .i64 (wrap64 ((wrap64 (2 * i202119)) + 1))), (15, .int .i64 (wrap64 ((wrap64 (2 * i202119)) + 1))), (16, .int .i64 (wrap64 ((r189029.length : Int) - 1))), (17, .bool q202584), (18, .bool q202585), (21, .bool q202586)], [], [(g189033, 40, [v202121]), (g168419, 24, [.int .i64 0, .int .i64 0, .int .i64 0])], [(v202121, 24, 3, l202122.map enc23)]⟩) (fun (q202584 : Bool) (q202585 : Bool) (q202586 : Bool) => queue_Pop.j100 k (queue_Pop.l99 k r189029 ml99) i202119 l202122 r189029 q202584 q202585 q202586 = some (r1, r2, r3, r4, r5)) ?_ ?_
        · refine VC.region ?_
          refine VL.va (op_move rfl (ltn rfl)) rfl ?_
          refine VL.va (op_move rfl (ltn rfl)) rfl ?_
          refine VL.letter (decide ((wrap64 ((wrap64 (2 * i202119)) + 1)) ≥ (wrap64 ((r189029.length : Int) - 1)))) fun b202581 hb202581 => ?_
          refine VL.va (op_cmp rfl rfl (congrArg some hb202581) (ltn rfl)) rfl ?_
          refine VL.va (op_move rfl (ltn rfl)) rfl ?_
          by_cases c202582 : (wrap64 ((wrap64 (2 * i202119)) + 1)) ≥ (wrap64 ((r189029.length : Int) - 1))
          · rw [if_pos c202582] at h
            obtain rfl : b202581 = true := hb202581.symm.trans (decide_eq_true c202582)
            refine VL.un rfl rfl (ltn rfl) ?_
            refine VL.un rfl rfl (ltn rfl) ?_
            refine VL.va (op_pick rfl rfl (ltn rfl)) rfl ?_
            refine VL.done ?_
            refine VN.meet3 true true true [0, 1] [0] h ⟨rfl, ⟨rfl, rfl, rfl, rfl, rfl, rfl, rfl, rfl, rfl, rfl, rfl, rfl, rfl, rfl, trivial⟩, trivial, rfl, by decide, rfl, by decide⟩
          · rw [if_neg c202582] at h
            obtain rfl : b202581 = false := hb202581.symm.trans (decide_eq_false c202582)
            refine VL.va (op_move rfl (ltn rfl)) rfl ?_
            refine VL.letter (decide ((wrap64 ((wrap64 (2 * i202119)) + 1)) < 0)) fun b202583 hb202583 => ?_
            refine VL.va (op_cmp rfl rfl (congrArg some hb202583) (ltn rfl)) rfl ?_
            refine VL.va (op_pick rfl rfl (ltn rfl)) rfl ?_
            refine VL.done ?_
            subst hb202583
            refine VN.meet3 false false (decide ((wrap64 ((wrap64 (2 * i202119)) + 1)) < 0)) [0, 1] [0] h ⟨rfl, ⟨rfl, rfl, rfl, rfl, rfl, rfl, rfl, rfl, rfl, rfl, rfl, rfl, rfl, rfl, trivial⟩, trivial, rfl, by decide, rfl, by decide⟩
        clear h
        intro q202584 q202585 q202586 h
        unfold queue_Pop.j100 at h
        by_cases c202587 : q202586 = true
        · rw [if_pos c202587] at h
          obtain rfl := c202587
          refine VC.cond_t rfl ?_
          refine VC.exit ?_
          refine VX.then ?_
          refine VX.miss (by decide) ?_
          refine VX.then ?_
          refine VX.hit ?_
          refine VN.then ?_
          refine VC.seq ?_
          refine VC.region ?_
          refine VL.va (op_move rfl (ltn rfl)) rfl ?_
          refine VL.va (op_move rfl (ltn rfl)) rfl ?_
          refine VL.letter (decide (i202119 > 0)) fun b202588 hb202588 => ?_
          refine VL.va (op_cmp rfl rfl (congrArg some hb202588) (ltn rfl)) rfl ?_
          refine VL.va (op_assign rfl (ltn rfl)) rfl ?_
          refine VL.done ?_
          refine VN.then ?_
          refine VC.ret ?_
          refine VR.inl (rs := [.tmp 6]) (.bool b202588) rfl (.tmp rfl .nil) rfl ?_
          refine VL.done ?_
          refine VN.meet2 v202121 l202122 [0, 1] [0] h ⟨rfl, ⟨rfl, rfl, trivial⟩, trivial, rfl, by decide, rfl, by decide⟩
        · rw [if_neg c202587] at h
          obtain rfl := Bool.eq_false_iff.2 c202587
          refine VC.cond_f rfl ?_
          refine VC.skip ?_
          refine VN.then ?_
          refine VC.seq ?_
          refine VC.region ?_
          refine VL.va (op_move rfl (ltn rfl)) rfl ?_
          refine VL.va (op_assign rfl (ltn rfl)) rfl ?_
          refine VL.done ?_
          refine VN.then ?_
          refine VC.seq ?_
          refine VC.seq ?_
          refine VC.region ?_
          refine VL.va (op_move rfl (ltn rfl)) rfl ?_
          refine VL.va (op_ari64 rfl rfl rfl (ltn rfl)) rfl ?_
          refine VL.va (op_assign rfl (ltn rfl)) rfl ?_
          refine VL.done ?_
          refine VN.then ?_
          refine VC.seq ?_
          refine VC.region ?_
          refine VL.va (op_move rfl (ltn rfl)) rfl ?_
          refine VL.va (op_move rfl (ltn rfl)) rfl ?_
          refine VL.letter (decide ((wrap64 ((wrap64 ((wrap64 (2 * i202119)) + 1)) + 1)) < (wrap64 ((r189029.length : Int) - 1)))) fun b202617 hb202617 => ?_
          refine VL.va (op_cmp rfl rfl (congrArg some hb202617) (ltn rfl)) rfl ?_
          refine VL.va (op_move rfl (ltn rfl)) rfl ?_
          by_cases c202618 : (wrap64 ((wrap64 ((wrap64 (2 * i202119)) + 1)) + 1)) < (wrap64 ((r189029.length : Int) - 1))
          · rw [if_pos c202618] at h
            obtain rfl : b202617 = true := hb202617.symm.trans (decide_eq_true c202618)
            refine VL.va (op_move rfl (ltn rfl)) rfl ?_
            refine VL.va (op_move rfl (ltn rfl)) rfl ?_
            refine VL.va (op_move rfl (ltn rfl)) rfl ?_
            refine VL.inle (vals := [v202121, .int .i64 (wrap64 ((wrap64 ((wrap64 (2 * i202119)) + 1)) + 1)), .int .i64 (wrap64 ((wrap64 (2 * i202119)) + 1))]) Try.func55 rfl (ope_meth_v 0 1 MI42_Less Try.underlying42 FO55 rfl rfl TI40 rfl (by decide) rfl rfl) (len rfl) (by rintro d ⟨⟩; exact ltn rfl) rfl ?_
            refine VC.seq ?_
            refine VC.region ?_
            refine VL.va (op_assign rfl (ltn rfl)) rfl ?_
            refine VL.done ?_
            refine VN.then ?_
            by_cases c202619 : 0 ≤ wrap64 ((wrap64 ((wrap64 (2 * i202119)) + 1)) + 1)
            · rw [if_pos c202619] at h
              replace h := Option.bind_eq_some_iff.1 h
              obtain ⟨x202620, hx202620, h⟩ := h
              by_cases c202621 : 0 ≤ wrap64 ((wrap64 (2 * i202119)) + 1)
              · rw [if_pos c202621] at h
                replace h := Option.bind_eq_some_iff.1 h
                obtain ⟨x202622, hx202622, h⟩ := h
                replace h := Option.bind_eq_some_iff.1 h
                obtain ⟨t202623, hA202624, h⟩ := h
                refine VC.letter (decide (t202623 < 0)) fun b202625 hb202625 => ?_
                refine VC.openR (m := l202122.length) 0 lenm rfl (pos_get hx202620) ?_
                rintro g202141 n202142 rfl
                refine VC.join0 (⟨17, [(6, .bool b202625)], [], [(g189033, 40, [(.slice (some ⟨g202141, 0, none⟩) l202122.length n202142)]), (g168419, 24, [.int .i64 0, .int .i64 0, .int .i64 0])], [((.slice (some ⟨g202141, 0, none⟩) l202122.length n202142), 24, 3, l202122.map enc23)]⟩) (True) ?_ ?_
                · refine VC.draw ⟨0, [], [], [], [((.slice (some ⟨g202141, 0, none⟩) l202122.length n202142), 24, 3, l202122.map enc23)]⟩ (by kernel_rfl) rfl (by kernel_rfl) (n := 11) (listed := LB 11 0) ?_
                  refine VA.va (i := 0) (listed' := LB 11 1) rfl (op_move rfl (ltn rfl)) rfl (by kernel_rfl) (by kernel_rfl) (by kernel_rfl) (by kernel_rfl) ⟨trivial, trivial, ⟨⟨0, rfl⟩, trivial⟩⟩ (fun _ _ _ h => h) ?_
                  refine VA.va (i := 1) (listed' := LB 11 3) rfl (op_move rfl (ltn rfl)) rfl (by kernel_rfl) (by kernel_rfl) (by kernel_rfl) (by kernel_rfl) ⟨trivial, trivial, ⟨⟨0, rfl⟩, trivial⟩⟩ (fun _ _ _ h => h) ?_
                  refine VA.va (i := 2) (listed' := LB 11 7) rfl (op_indexAddr Try.underlying40 TI24 rfl rfl c202619 (lt_get c202619 hx202620) (add_zero_at _ _) (ltn rfl)) rfl (by kernel_rfl) (by kernel_rfl) (by kernel_rfl) (by kernel_rfl) ⟨trivial, trivial, ⟨⟨0, rfl⟩, trivial⟩⟩ (fun _ _ _ h => h) ?_
                  refine VA.va (i := 3) (listed' := LB 11 15) rfl (op_load_own (sz := 3) (o := 0) 0 (wrap64 ((wrap64 ((wrap64 (2 * i202119)) + 1)) + 1)).toNat 3 rfl rfl (get_map hx202620) TI24 rfl (fun h => absurd h (by decide)) (ltn rfl)) rfl (by kernel_rfl) (by kernel_rfl) (by kernel_rfl) (by kernel_rfl) ⟨trivial, trivial, ⟨⟨0, rfl⟩, trivial⟩⟩ (fun _ _ _ h => h) ?_
                  refine VA.va (i := 4) (listed' := LB 11 31) rfl (op_move rfl (ltn rfl)) rfl (by kernel_rfl) (by kernel_rfl) (by kernel_rfl) (by kernel_rfl) ⟨trivial, trivial, ⟨⟨0, rfl⟩, trivial⟩⟩ (fun _ _ _ h => h) ?_
                  refine VA.va (i := 5) (listed' := LB 11 63) rfl (op_move rfl (ltn rfl)) rfl (by kernel_rfl) (by kernel_rfl) (by kernel_rfl) (by kernel_rfl) ⟨trivial, trivial, ⟨⟨0, rfl⟩, trivial⟩⟩ (fun _ _ _ h => h) ?_
                  refine VA.va (i := 6) (listed' := LB 11 127) rfl (op_indexAddr Try.underlying40 TI24 rfl rfl c202621 (lt_get c202621 hx202622) (add_zero_at _ _) (ltn rfl)) rfl (by kernel_rfl) (by kernel_rfl) (by kernel_rfl) (by kernel_rfl) ⟨trivial, trivial, ⟨⟨0, rfl⟩, trivial⟩⟩ (fun _ _ _ h => h) ?_
                  refine VA.va (i := 7) (listed' := LB 11 255) rfl (op_load_own (sz := 3) (o := 0) 0 (wrap64 ((wrap64 (2 * i202119)) + 1)).toNat 3 rfl rfl (get_map hx202622) TI24 rfl (fun h => absurd h (by decide)) (ltn rfl)) rfl (by kernel_rfl) (by kernel_rfl) (by kernel_rfl) (by kernel_rfl) ⟨trivial, trivial, ⟨⟨0, rfl⟩, trivial⟩⟩ (fun _ _ _ h => h) ?_
                  refine VA.oneC (i := 8) (listed' := LB 11 511) (by kernel_rfl) rfl (o_call0 FO26 (queue_compare.ok k x202620.f0 x202620.f1 x202620.f2 x202622.f0 x202622.f1 x202622.f2 t202623 hA202624) rfl rfl (ltn rfl) (All_of .nil)) rfl (by kernel_rfl) ?_
                  rintro _ _ _ ⟨rfl, rfl, rfl⟩
                  refine ⟨⟨trivial, trivial, ⟨⟨0, rfl⟩, trivial⟩⟩, ?_⟩
                  refine VA.va (i := 9) (listed' := LB 11 1023) rfl (op_cmp rfl rfl (congrArg some hb202625) (ltn rfl)) rfl (by kernel_rfl) (by kernel_rfl) (by kernel_rfl) (by kernel_rfl) ⟨trivial, trivial, ⟨⟨0, rfl⟩, trivial⟩⟩ (fun _ _ _ h => h) ?_
                  refine VA.va (i := 10) (listed' := LB 11 2047) rfl (op_assign rfl (ltn rfl)) rfl (by kernel_rfl) (by kernel_rfl) (by kernel_rfl) (by kernel_rfl) ⟨trivial, trivial, ⟨⟨0, rfl⟩, trivial⟩⟩ (fun _ _ _ h => h) ?_
                  refine VA.done (by kernel_rfl) ?_
                  exact VN.meet0  [0, 1] [0] trivial ⟨rfl, ⟨rfl, trivial⟩, trivial, rfl, by decide, rfl, by decide⟩
                intro _
                refine VC.ret ?_
                refine VR.inl (rs := [.tmp 6]) (.bool b202625) rfl (.tmp rfl .nil) rfl ?_
                refine VL.va (op_pick rfl rfl (ltn rfl)) rfl ?_
                refine VL.done ?_
                refine VN.then ?_
                by_cases c202626 : t202623 < 0
                · rw [if_pos c202626] at h
                  obtain rfl : b202625 = true := hb202625.symm.trans (decide_eq_true c202626)
                  refine VC.cond_t rfl ?_
                  refine VC.region ?_
                  refine VL.va (op_move rfl (ltn rfl)) rfl ?_
                  refine VL.va (op_assign rfl (ltn rfl)) rfl ?_
                  refine VL.done ?_
                  refine VN.then ?_
                  refine VC.seq ?_
                  refine VC.seq ?_
                  refine VC.region ?_
                  refine VL.va (op_move rfl (ltn rfl)) rfl ?_
                  refine VL.va (op_move rfl (ltn rfl)) rfl ?_
                  refine VL.va (op_move rfl (ltn rfl)) rfl ?_
                  refine VL.inle (vals := [(.slice (some ⟨g202141, 0, none⟩) l202122.length n202142), .int .i64 (wrap64 ((wrap64 ((wrap64 (2 * i202119)) + 1)) + 1)), .int .i64 i202119]) Try.func55 rfl (ope_meth_v 0 1 MI42_Less Try.underlying42 FO55 rfl rfl TI40 rfl (by decide) rfl rfl) (len rfl) (by rintro d ⟨⟩; exact ltn rfl) rfl ?_
                  refine VC.seq ?_
                  refine VC.region ?_
                  refine VL.va (op_assign rfl (ltn rfl)) rfl ?_
                  refine VL.done ?_
                  refine VN.then ?_
                  replace h := Option.bind_eq_some_iff.1 h
                  obtain ⟨x202649, hx202649, h⟩ := h
                  by_cases c202650 : 0 ≤ i202119
                  · rw [if_pos c202650] at h
                    replace h := Option.bind_eq_some_iff.1 h
                    obtain ⟨x202651, hx202651, h⟩ := h
                    replace h := Option.bind_eq_some_iff.1 h
                    obtain ⟨t202652, hA202653, h⟩ := h
                    refine VC.letter (decide (t202652 < 0)) fun b202654 hb202654 => ?_
                    refine VC.join0 (⟨17, [(6, .bool b202654)], [], [(g189033, 40, [(.slice (some ⟨g202141, 0, none⟩) l202122.length n202142)]), (g168419, 24, [.int .i64 0, .int .i64 0, .int .i64 0])], [((.slice (some ⟨g202141, 0, none⟩) l202122.length n202142), 24, 3, l202122.map enc23)]⟩) (True) ?_ ?_
                    · refine VC.draw ⟨0, [], [], [], [((.slice (some ⟨g202141, 0, none⟩) l202122.length n202142), 24, 3, l202122.map enc23)]⟩ (by kernel_rfl) rfl (by kernel_rfl) (n := 11) (listed := LB 11 0) ?_
                      refine VA.va (i := 0) (listed' := LB 11 1) rfl (op_move rfl (ltn rfl)) rfl (by kernel_rfl) (by kernel_rfl) (by kernel_rfl) (by kernel_rfl) ⟨trivial, trivial, ⟨⟨0, rfl⟩, trivial⟩⟩ (fun _ _ _ h => h) ?_
                      refine VA.va (i := 1) (listed' := LB 11 3) rfl (op_move rfl (ltn rfl)) rfl (by kernel_rfl) (by kernel_rfl) (by kernel_rfl) (by kernel_rfl) ⟨trivial, trivial, ⟨⟨0, rfl⟩, trivial⟩⟩ (fun _ _ _ h => h) ?_
                      refine VA.va (i := 2) (listed' := LB 11 7) rfl (op_indexAddr Try.underlying40 TI24 rfl rfl c202619 (lt_get c202619 hx202649) (add_zero_at _ _) (ltn rfl)) rfl (by kernel_rfl) (by kernel_rfl) (by kernel_rfl) (by kernel_rfl) ⟨trivial, trivial, ⟨⟨0, rfl⟩, trivial⟩⟩ (fun _ _ _ h => h) ?_
                      refine VA.va (i := 3) (listed' := LB 11 15) rfl (op_load_own (sz := 3) (o := 0) 0 (wrap64 ((wrap64 ((wrap64 (2 * i202119)) + 1)) + 1)).toNat 3 rfl rfl (get_map hx202649) TI24 rfl (fun h => absurd h (by decide)) (ltn rfl)) rfl (by kernel_rfl) (by kernel_rfl) (by kernel_rfl) (by kernel_rfl) ⟨trivial, trivial, ⟨⟨0, rfl⟩, trivial⟩⟩ (fun _ _ _ h => h) ?_
                      refine VA.va (i := 4) (listed' := LB 11 31) rfl (op_move rfl (ltn rfl)) rfl (by kernel_rfl) (by kernel_rfl) (by kernel_rfl) (by kernel_rfl) ⟨trivial, trivial, ⟨⟨0, rfl⟩, trivial⟩⟩ (fun _ _ _ h => h) ?_
                      refine VA.va (i := 5) (listed' := LB 11 63) rfl (op_move rfl (ltn rfl)) rfl (by kernel_rfl) (by kernel_rfl) (by kernel_rfl) (by kernel_rfl) ⟨trivial, trivial, ⟨⟨0, rfl⟩, trivial⟩⟩ (fun _ _ _ h => h) ?_
                      refine VA.va (i := 6) (listed' := LB 11 127) rfl (op_indexAddr Try.underlying40 TI24 rfl rfl c202650 (lt_get c202650 hx202651) (add_zero_at _ _) (ltn rfl)) rfl (by kernel_rfl) (by kernel_rfl) (by kernel_rfl) (by kernel_rfl) ⟨trivial, trivial, ⟨⟨0, rfl⟩, trivial⟩⟩ (fun _ _ _ h => h) ?_
                      refine VA.va (i := 7) (listed' := LB 11 255) rfl (op_load_own (sz := 3) (o := 0) 0 i202119.toNat 3 rfl rfl (get_map hx202651) TI24 rfl (fun h => absurd h (by decide)) (ltn rfl)) rfl (by kernel_rfl) (by kernel_rfl) (by kernel_rfl) (by kernel_rfl) ⟨trivial, trivial, ⟨⟨0, rfl⟩, trivial⟩⟩ (fun _ _ _ h => h) ?_
                      refine VA.oneC (i := 8) (listed' := LB 11 511) (by kernel_rfl) rfl (o_call0 FO26 (queue_compare.ok k x202649.f0 x202649.f1 x202649.f2 x202651.f0 x202651.f1 x202651.f2 t202652 hA202653) rfl rfl (ltn rfl) (All_of .nil)) rfl (by kernel_rfl) ?_
                      rintro _ _ _ ⟨rfl, rfl, rfl⟩
                      refine ⟨⟨trivial, trivial, ⟨⟨0, rfl⟩, trivial⟩⟩, ?_⟩
                      refine VA.va (i := 9) (listed' := LB 11 1023) rfl (op_cmp rfl rfl (congrArg some hb202654) (ltn rfl)) rfl (by kernel_rfl) (by kernel_rfl) (by kernel_rfl) (by kernel_rfl) ⟨trivial, trivial, ⟨⟨0, rfl⟩, trivial⟩⟩ (fun _ _ _ h => h) ?_
                      refine VA.va (i := 10) (listed' := LB 11 2047) rfl (op_assign rfl (ltn rfl)) rfl (by kernel_rfl) (by kernel_rfl) (by kernel_rfl) (by kernel_rfl) ⟨trivial, trivial, ⟨⟨0, rfl⟩, trivial⟩⟩ (fun _ _ _ h => h) ?_
                      refine VA.done (by kernel_rfl) ?_
                      exact VN.meet0  [0, 1] [0] trivial ⟨rfl, ⟨rfl, trivial⟩, trivial, rfl, by decide, rfl, by decide⟩
                    intro _
                    refine VC.ret ?_
                    refine VR.inl (rs := [.tmp 6]) (.bool b202654) rfl (.tmp rfl .nil) rfl ?_
                    by_cases c202655 : t202652 < 0
                    · rw [if_pos c202655] at h
                      obtain rfl : b202654 = true := hb202654.symm.trans (decide_eq_true c202655)
                      refine VL.va (op_not rfl rfl (ltn rfl)) rfl ?_
                      refine VL.done ?_
                      refine VN.then ?_
                      refine VC.cond_f rfl ?_
                      refine VC.skip ?_
                      refine VN.then ?_
                      refine VC.seq ?_
                      refine VC.region ?_
                      refine VL.va (op_move rfl (ltn rfl)) rfl ?_
                      refine VL.va (op_move rfl (ltn rfl)) rfl ?_
                      refine VL.va (op_move rfl (ltn rfl)) rfl ?_
                      replace h := Option.bind_eq_some_iff.1 h
                      obtain ⟨r202656, hA202657, h⟩ := h
                      refine VL.step1 (ope_ownd (vals := [(.slice (some ⟨g202141, 0, none⟩) l202122.length n202142), .int .i64 i202119, .int .i64 (wrap64 ((wrap64 ((wrap64 (2 * i202119)) + 1)) + 1))]) 0 rfl (ope_meth_v 0 1 MI42_Swap Try.underlying42 FO56 rfl rfl TI40 rfl (by decide) rfl rfl) (queue_waits_Swap.ok l202122 i202119 (wrap64 ((wrap64 ((wrap64 (2 * i202119)) + 1)) + 1)) (.slice (some ⟨g202141, 0, none⟩) l202122.length n202142) r202656 hA202657) (by simp) (ltn rfl)) rfl ?_
                      refine VL.done ?_
                      refine VN.then ?_
                      refine VC.region ?_
                      refine VL.va (op_move rfl (ltn rfl)) rfl ?_
                      refine VL.va (op_assign rfl (ltn rfl)) rfl ?_
                      refine VL.done ?_
                      refine VN.block ?_
                      refine VN.again [0, 1] [0] (ihl99 (wrap64 ((wrap64 ((wrap64 (2 * i202119)) + 1)) + 1)) (.slice (some ⟨g202141, 0, none⟩) l202122.length n202142) r202656 h) ⟨rfl, ⟨rfl, rfl, rfl, rfl, rfl, trivial⟩, trivial, rfl, by decide, rfl, by decide⟩
                    · rw [if_neg c202655] at h
                      obtain rfl : b202654 = false := hb202654.symm.trans (decide_eq_false c202655)
                      refine VL.va (op_not rfl rfl (ltn rfl)) rfl ?_
                      refine VL.done ?_
                      refine VN.then ?_
                      refine VC.cond_t rfl ?_
                      refine VC.exit ?_
                      refine VX.then ?_
                      refine VX.miss (by decide) ?_
                      refine VX.then ?_
                      refine VX.hit ?_
                      refine VN.then ?_
                      refine VC.seq ?_
                      refine VC.region ?_
                      refine VL.va (op_move rfl (ltn rfl)) rfl ?_
                      refine VL.va (op_move rfl (ltn rfl)) rfl ?_
                      refine VL.letter (decide (i202119 > 0)) fun b202659 hb202659 => ?_
                      refine VL.va (op_cmp rfl rfl (congrArg some hb202659) (ltn rfl)) rfl ?_
                      refine VL.va (op_assign rfl (ltn rfl)) rfl ?_
                      refine VL.done ?_
                      refine VN.then ?_
                      refine VC.ret ?_
                      refine VR.inl (rs := [.tmp 6]) (.bool b202659) rfl (.tmp rfl .nil) rfl ?_
                      refine VL.done ?_
                      refine VN.meet2 (.slice (some ⟨g202141, 0, none⟩) l202122.length n202142) l202122 [0, 1] [0] h ⟨rfl, ⟨rfl, rfl, trivial⟩, trivial, rfl, by decide, rfl, by decide⟩
                  · rw [if_neg c202650] at h; cases h
                · rw [if_neg c202626] at h
                  obtain rfl : b202625 = false := hb202625.symm.trans (decide_eq_false c202626)
                  refine VC.cond_f rfl ?_
                  refine VC.skip ?_
                  refine VN.then ?_
                  refine VC.seq ?_
                  refine VC.seq ?_
                  refine VC.region ?_
                  refine VL.va (op_move rfl (ltn rfl)) rfl ?_
                  refine VL.va (op_move rfl (ltn rfl)) rfl ?_
                  refine VL.va (op_move rfl (ltn rfl)) rfl ?_
                  refine VL.inle (vals := [(.slice (some ⟨g202141, 0, none⟩) l202122.length n202142), .int .i64 (wrap64 ((wrap64 (2 * i202119)) + 1)), .int .i64 i202119]) Try.func55 rfl (ope_meth_v 0 1 MI42_Less Try.underlying42 FO55 rfl rfl TI40 rfl (by decide) rfl rfl) (len rfl) (by rintro d ⟨⟩; exact ltn rfl) rfl ?_
                  refine VC.seq ?_
                  refine VC.region ?_
                  refine VL.va (op_assign rfl (ltn rfl)) rfl ?_
                  refine VL.done ?_
                  refine VN.then ?_
                  replace h := Option.bind_eq_some_iff.1 h
                  obtain ⟨x202682, hx202682, h⟩ := h
                  by_cases c202683 : 0 ≤ i202119
                  · rw [if_pos c202683] at h
                    replace h := Option.bind_eq_some_iff.1 h
                    obtain ⟨x202684, hx202684, h⟩ := h
                    replace h := Option.bind_eq_some_iff.1 h
                    obtain ⟨t202685, hA202686, h⟩ := h
                    refine VC.letter (decide (t202685 < 0)) fun b202687 hb202687 => ?_
                    refine VC.join0 (⟨17, [(6, .bool b202687)], [], [(g189033, 40, [(.slice (some ⟨g202141, 0, none⟩) l202122.length n202142)]), (g168419, 24, [.int .i64 0, .int .i64 0, .int .i64 0])], [((.slice (some ⟨g202141, 0, none⟩) l202122.length n202142), 24, 3, l202122.map enc23)]⟩) (True) ?_ ?_
                    · refine VC.draw ⟨0, [], [], [], [((.slice (some ⟨g202141, 0, none⟩) l202122.length n202142), 24, 3, l202122.map enc23)]⟩ (by kernel_rfl) rfl (by kernel_rfl) (n := 11) (listed := LB 11 0) ?_
                      refine VA.va (i := 0) (listed' := LB 11 1) rfl (op_move rfl (ltn rfl)) rfl (by kernel_rfl) (by kernel_rfl) (by kernel_rfl) (by kernel_rfl) ⟨trivial, trivial, ⟨⟨0, rfl⟩, trivial⟩⟩ (fun _ _ _ h => h) ?_
                      refine VA.va (i := 1) (listed' := LB 11 3) rfl (op_move rfl (ltn rfl)) rfl (by kernel_rfl) (by kernel_rfl) (by kernel_rfl) (by kernel_rfl) ⟨trivial, trivial, ⟨⟨0, rfl⟩, trivial⟩⟩ (fun _ _ _ h => h) ?_
                      refine VA.va (i := 2) (listed' := LB 11 7) rfl (op_indexAddr Try.underlying40 TI24 rfl rfl c202621 (lt_get c202621 hx202682) (add_zero_at _ _) (ltn rfl)) rfl (by kernel_rfl) (by kernel_rfl) (by kernel_rfl) (by kernel_rfl) ⟨trivial, trivial, ⟨⟨0, rfl⟩, trivial⟩⟩ (fun _ _ _ h => h) ?_
                      refine VA.va (i := 3) (listed' := LB 11 15) rfl (op_load_own (sz := 3) (o := 0) 0 (wrap64 ((wrap64 (2 * i202119)) + 1)).toNat 3 rfl rfl (get_map hx202682) TI24 rfl (fun h => absurd h (by decide)) (ltn rfl)) rfl (by kernel_rfl) (by kernel_rfl) (by kernel_rfl) (by kernel_rfl) ⟨trivial, trivial, ⟨⟨0, rfl⟩, trivial⟩⟩ (fun _ _ _ h => h) ?_
                      refine VA.va (i := 4) (listed' := LB 11 31) rfl (op_move rfl (ltn rfl)) rfl (by kernel_rfl) (by kernel_rfl) (by kernel_rfl) (by kernel_rfl) ⟨trivial, trivial, ⟨⟨0, rfl⟩, trivial⟩⟩ (fun _ _ _ h => h) ?_
                      refine VA.va (i := 5) (listed' := LB 11 63) rfl (op_move rfl (ltn rfl)) rfl (by kernel_rfl) (by kernel_rfl) (by kernel_rfl) (by kernel_rfl) ⟨trivial, trivial, ⟨⟨0, rfl⟩, trivial⟩⟩ (fun _ _ _ h => h) ?_
                      refine VA.va (i := 6) (listed' := LB 11 127) rfl (op_indexAddr Try.underlying40 TI24 rfl rfl c202683 (lt_get c202683 hx202684) (add_zero_at _ _) (ltn rfl)) rfl (by kernel_rfl) (by kernel_rfl) (by kernel_rfl) (by kernel_rfl) ⟨trivial, trivial, ⟨⟨0, rfl⟩, trivial⟩⟩ (fun _ _ _ h => h) ?_
                      refine VA.va (i := 7) (listed' := LB 11 255) rfl (op_load_own (sz := 3) (o := 0) 0 i202119.toNat 3 rfl rfl (get_map hx202684) TI24 rfl (fun h => absurd h (by decide)) (ltn rfl)) rfl (by kernel_rfl) (by kernel_rfl) (by kernel_rfl) (by kernel_rfl) ⟨trivial, trivial, ⟨⟨0, rfl⟩, trivial⟩⟩ (fun _ _ _ h => h) ?_
                      refine VA.oneC (i := 8) (listed' := LB 11 511) (by kernel_rfl) rfl (o_call0 FO26 (queue_compare.ok k x202682.f0 x202682.f1 x202682.f2 x202684.f0 x202684.f1 x202684.f2 t202685 hA202686) rfl rfl (ltn rfl) (All_of .nil)) rfl (by kernel_rfl) ?_
                      rintro _ _ _ ⟨rfl, rfl, rfl⟩
                      refine ⟨⟨trivial, trivial, ⟨⟨0, rfl⟩, trivial⟩⟩, ?_⟩
                      refine VA.va (i := 9) (listed' := LB 11 1023) rfl (op_cmp rfl rfl (congrArg some hb202687) (ltn rfl)) rfl (by kernel_rfl) (by kernel_rfl) (by kernel_rfl) (by kernel_rfl) ⟨trivial, trivial, ⟨⟨0, rfl⟩, trivial⟩⟩ (fun _ _ _ h => h) ?_
                      refine VA.va (i := 10) (listed' := LB 11 2047) rfl (op_assign rfl (ltn rfl)) rfl (by kernel_rfl) (by kernel_rfl) (by kernel_rfl) (by kernel_rfl) ⟨trivial, trivial, ⟨⟨0, rfl⟩, trivial⟩⟩ (fun _ _ _ h => h) ?_
                      refine VA.done (by kernel_rfl) ?_
                      exact VN.meet0  [0, 1] [0] trivial ⟨rfl, ⟨rfl, trivial⟩, trivial, rfl, by decide, rfl, by decide⟩
                    intro _
                    refine VC.ret ?_
                    refine VR.inl (rs := [.tmp 6]) (.bool b202687) rfl (.tmp rfl .nil) rfl ?_
                    by_cases c202688 : t202685 < 0
                    · rw [if_pos c202688] at h
                      obtain rfl : b202687 = true := hb202687.symm.trans (decide_eq_true c202688)
                      refine VL.va (op_not rfl rfl (ltn rfl)) rfl ?_
                      refine VL.done ?_
                      refine VN.then ?_
                      refine VC.cond_f rfl ?_
                      refine VC.skip ?_
                      refine VN.then ?_
                      refine VC.seq ?_
                      refine VC.region ?_
                      refine VL.va (op_move rfl (ltn rfl)) rfl ?_
                      refine VL.va (op_move rfl (ltn rfl)) rfl ?_
                      refine VL.va (op_move rfl (ltn rfl)) rfl ?_
                      replace h := Option.bind_eq_some_iff.1 h
                      obtain ⟨r202689, hA202690, h⟩ := h
                      refine VL.step1 (ope_ownd (vals := [(.slice (some ⟨g202141, 0, none⟩) l202122.length n202142), .int .i64 i202119, .int .i64 (wrap64 ((wrap64 (2 * i202119)) + 1))]) 0 rfl (ope_meth_v 0 1 MI42_Swap Try.underlying42 FO56 rfl rfl TI40 rfl (by decide) rfl rfl) (queue_waits_Swap.ok l202122 i202119 (wrap64 ((wrap64 (2 * i202119)) + 1)) (.slice (some ⟨g202141, 0, none⟩) l202122.length n202142) r202689 hA202690) (by simp) (ltn rfl)) rfl ?_
                      refine VL.done ?_
                      refine VN.then ?_
                      refine VC.region ?_
                      refine VL.va (op_move rfl (ltn rfl)) rfl ?_
                      refine VL.va (op_assign rfl (ltn rfl)) rfl ?_
                      refine VL.done ?_
                      refine VN.block ?_
                      refine VN.again [0, 1] [0] (ihl99 (wrap64 ((wrap64 (2 * i202119)) + 1)) (.slice (some ⟨g202141, 0, none⟩) l202122.length n202142) r202689 h) ⟨rfl, ⟨rfl, rfl, rfl, rfl, rfl, trivial⟩, trivial, rfl, by decide, rfl, by decide⟩
                    · rw [if_neg c202688] at h
                      obtain rfl : b202687 = false := hb202687.symm.trans (decide_eq_false c202688)
                      refine VL.va (op_not rfl rfl (ltn rfl)) rfl ?_
                      refine VL.done ?_
                      refine VN.then ?_
                      refine VC.cond_t rfl ?_
                      refine VC.exit ?_
                      refine VX.then ?_
                      refine VX.miss (by decide) ?_
                      refine VX.then ?_
                      refine VX.hit ?_
                      refine VN.then ?_
                      refine VC.seq ?_
                      refine VC.region ?_
                      refine VL.va (op_move rfl (ltn rfl)) rfl ?_
                      refine VL.va (op_move rfl (ltn rfl)) rfl ?_
                      refine VL.letter (decide (i202119 > 0)) fun b202692 hb202692 => ?_
                      refine VL.va (op_cmp rfl rfl (congrArg some hb202692) (ltn rfl)) rfl ?_
                      refine VL.va (op_assign rfl (ltn rfl)) rfl ?_
                      refine VL.done ?_
                      refine VN.then ?_
                      refine VC.ret ?_
                      refine VR.inl (rs := [.tmp 6]) (.bool b202692) rfl (.tmp rfl .nil) rfl ?_
                      refine VL.done ?_
                      refine VN.meet2 (.slice (some ⟨g202141, 0, none⟩) l202122.length n202142) l202122 [0, 1] [0] h ⟨rfl, ⟨rfl, rfl, trivial⟩, trivial, rfl, by decide, rfl, by decide⟩
                  · rw [if_neg c202683] at h; cases h
              · rw [if_neg c202621] at h; cases h
            · rw [if_neg c202619] at h; cases h
          · rw [if_neg c202618] at h
            obtain rfl : b202617 = false := hb202617.symm.trans (decide_eq_false c202618)
            refine VL.un rfl rfl (ltn rfl) ?_
            refine VL.un rfl rfl (ltn rfl) ?_
            refine VL.un rfl rfl (ltn rfl) ?_
            refine VL.un rfl rfl (ltn rfl) ?_
            refine VL.va (op_pick rfl rfl (ltn rfl)) rfl ?_
            refine VL.done ?_
            refine VN.then ?_
            refine VC.cond_f rfl ?_
            refine VC.skip ?_
            refine VN.then ?_
            refine VC.seq ?_
            refine VC.seq ?_
            refine VC.region ?_
            refine VL.va (op_move rfl (ltn rfl)) rfl ?_
            refine VL.va (op_move rfl (ltn rfl)) rfl ?_
            refine VL.va (op_move rfl (ltn rfl)) rfl ?_
            refine VL.inle (vals := [v202121, .int .i64 (wrap64 ((wrap64 (2 * i202119)) + 1)), .int .i64 i202119]) Try.func55 rfl (ope_meth_v 0 1 MI42_Less Try.underlying42 FO55 rfl rfl TI40 rfl (by decide) rfl rfl) (len rfl) (by rintro d ⟨⟩; exact ltn rfl) rfl ?_
            refine VC.seq ?_
            refine VC.region ?_
            refine VL.va (op_assign rfl (ltn rfl)) rfl ?_
            refine VL.done ?_
            refine VN.then ?_
            by_cases c202718 : 0 ≤ wrap64 ((wrap64 (2 * i202119)) + 1)
            · rw [if_pos c202718] at h
              replace h := Option.bind_eq_some_iff.1 h
              obtain ⟨x202719, hx202719, h⟩ := h
              by_cases c202720 : 0 ≤ i202119
              · rw [if_pos c202720] at h
                replace h := Option.bind_eq_some_iff.1 h
                obtain ⟨x202721, hx202721, h⟩ := h
                replace h := Option.bind_eq_some_iff.1 h
                obtain ⟨t202722, hA202723, h⟩ := h
                refine VC.letter (decide (t202722 < 0)) fun b202724 hb202724 => ?_
                refine VC.openR (m := l202122.length) 0 lenm rfl (pos_get hx202719) ?_
                rintro g202141 n202142 rfl
                refine VC.join0 (⟨17, [(6, .bool b202724)], [], [(g189033, 40, [(.slice (some ⟨g202141, 0, none⟩) l202122.length n202142)]), (g168419, 24, [.int .i64 0, .int .i64 0, .int .i64 0])], [((.slice (some ⟨g202141, 0, none⟩) l202122.length n202142), 24, 3, l202122.map enc23)]⟩) (True) ?_ ?_
                · refine VC.draw ⟨0, [], [], [], [((.slice (some ⟨g202141, 0, none⟩) l202122.length n202142), 24, 3, l202122.map enc23)]⟩ (by kernel_rfl) rfl (by kernel_rfl) (n := 11) (listed := LB 11 0) ?_
                  refine VA.va (i := 0) (listed' := LB 11 1) rfl (op_move rfl (ltn rfl)) rfl (by kernel_rfl) (by kernel_rfl) (by kernel_rfl) (by kernel_rfl) ⟨trivial, trivial, ⟨⟨0, rfl⟩, trivial⟩⟩ (fun _ _ _ h => h) ?_
                  refine VA.va (i := 1) (listed' := LB 11 3) rfl (op_move rfl (ltn rfl)) rfl (by kernel_rfl) (by kernel_rfl) (by kernel_rfl) (by kernel_rfl) ⟨trivial, trivial, ⟨⟨0, rfl⟩, trivial⟩⟩ (fun _ _ _ h => h) ?_
                  refine VA.va (i := 2) (listed' := LB 11 7) rfl (op_indexAddr Try.underlying40 TI24 rfl rfl c202718 (lt_get c202718 hx202719) (add_zero_at _ _) (ltn rfl)) rfl (by kernel_rfl) (by kernel_rfl) (by kernel_rfl) (by kernel_rfl) ⟨trivial, trivial, ⟨⟨0, rfl⟩, trivial⟩⟩ (fun _ _ _ h => h) ?_
                  refine VA.va (i := 3) (listed' := LB 11 15) rfl (op_load_own (sz := 3) (o := 0) 0 (wrap64 ((wrap64 (2 * i202119)) + 1)).toNat 3 rfl rfl (get_map hx202719) TI24 rfl (fun h => absurd h (by decide)) (ltn rfl)) rfl (by kernel_rfl) (by kernel_rfl) (by kernel_rfl) (by kernel_rfl) ⟨trivial, trivial, ⟨⟨0, rfl⟩, trivial⟩⟩ (fun _ _ _ h => h) ?_
                  refine VA.va (i := 4) (listed' := LB 11 31) rfl (op_move rfl (ltn rfl)) rfl (by kernel_rfl) (by kernel_rfl) (by kernel_rfl) (by kernel_rfl) ⟨trivial, trivial, ⟨⟨0, rfl⟩, trivial⟩⟩ (fun _ _ _ h => h) ?_
                  refine VA.va (i := 5) (listed' := LB 11 63) rfl (op_move rfl (ltn rfl)) rfl (by kernel_rfl) (by kernel_rfl) (by kernel_rfl) (by kernel_rfl) ⟨trivial, trivial, ⟨⟨0, rfl⟩, trivial⟩⟩ (fun _ _ _ h => h) ?_
                  refine VA.va (i := 6) (listed' := LB 11 127) rfl (op_indexAddr Try.underlying40 TI24 rfl rfl c202720 (lt_get c202720 hx202721) (add_zero_at _ _) (ltn rfl)) rfl (by kernel_rfl) (by kernel_rfl) (by kernel_rfl) (by kernel_rfl) ⟨trivial, trivial, ⟨⟨0, rfl⟩, trivial⟩⟩ (fun _ _ _ h => h) ?_
                  refine VA.va (i := 7) (listed' := LB 11 255) rfl (op_load_own (sz := 3) (o := 0) 0 i202119.toNat 3 rfl rfl (get_map hx202721) TI24 rfl (fun h => absurd h (by decide)) (ltn rfl)) rfl (by kernel_rfl) (by kernel_rfl) (by kernel_rfl) (by kernel_rfl) ⟨trivial, trivial, ⟨⟨0, rfl⟩, trivial⟩⟩ (fun _ _ _ h => h) ?_
                  refine VA.oneC (i := 8) (listed' := LB 11 511) (by kernel_rfl) rfl (o_call0 FO26 (queue_compare.ok k x202719.f0 x202719.f1 x202719.f2 x202721.f0 x202721.f1 x202721.f2 t202722 hA202723) rfl rfl (ltn rfl) (All_of .nil)) rfl (by kernel_rfl) ?_
                  rintro _ _ _ ⟨rfl, rfl, rfl⟩
                  refine ⟨⟨trivial, trivial, ⟨⟨0, rfl⟩, trivial⟩⟩, ?_⟩
                  refine VA.va (i := 9) (listed' := LB 11 1023) rfl (op_cmp rfl rfl (congrArg some hb202724) (ltn rfl)) rfl (by kernel_rfl) (by kernel_rfl) (by kernel_rfl) (by kernel_rfl) ⟨trivial, trivial, ⟨⟨0, rfl⟩, trivial⟩⟩ (fun _ _ _ h => h) ?_
                  refine VA.va (i := 10) (listed' := LB 11 2047) rfl (op_assign rfl (ltn rfl)) rfl (by kernel_rfl) (by kernel_rfl) (by kernel_rfl) (by kernel_rfl) ⟨trivial, trivial, ⟨⟨0, rfl⟩, trivial⟩⟩ (fun _ _ _ h => h) ?_
                  refine VA.done (by kernel_rfl) ?_
                  exact VN.meet0  [0, 1] [0] trivial ⟨rfl, ⟨rfl, trivial⟩, trivial, rfl, by decide, rfl, by decide⟩
                intro _
                refine VC.ret ?_
                refine VR.inl (rs := [.tmp 6]) (.bool b202724) rfl (.tmp rfl .nil) rfl ?_
                by_cases c202725 : t202722 < 0
                · rw [if_pos c202725] at h
                  obtain rfl : b202724 = true := hb202724.symm.trans (decide_eq_true c202725)
                  refine VL.va (op_not rfl rfl (ltn rfl)) rfl ?_
                  refine VL.done ?_
                  refine VN.then ?_
                  refine VC.cond_f rfl ?_
                  refine VC.skip ?_
                  refine VN.then ?_
                  refine VC.seq ?_
                  refine VC.region ?_
                  refine VL.va (op_move rfl (ltn rfl)) rfl ?_
                  refine VL.va (op_move rfl (ltn rfl)) rfl ?_
                  refine VL.va (op_move rfl (ltn rfl)) rfl ?_
                  replace h := Option.bind_eq_some_iff.1 h
                  obtain ⟨r202726, hA202727, h⟩ := h
                  refine VL.step1 (ope_ownd (vals := [(.slice (some ⟨g202141, 0, none⟩) l202122.length n202142), .int .i64 i202119, .int .i64 (wrap64 ((wrap64 (2 * i202119)) + 1))]) 0 rfl (ope_meth_v 0 1 MI42_Swap Try.underlying42 FO56 rfl rfl TI40 rfl (by decide) rfl rfl) (queue_waits_Swap.ok l202122 i202119 (wrap64 ((wrap64 (2 * i202119)) + 1)) (.slice (some ⟨g202141, 0, none⟩) l202122.length n202142) r202726 hA202727) (by simp) (ltn rfl)) rfl ?_
                  refine VL.done ?_
                  refine VN.then ?_
                  refine VC.region ?_
                  refine VL.va (op_move rfl (ltn rfl)) rfl ?_
                  refine VL.va (op_assign rfl (ltn rfl)) rfl ?_
                  refine VL.done ?_
                  refine VN.block ?_
                  refine VN.again [0, 1] [0] (ihl99 (wrap64 ((wrap64 (2 * i202119)) + 1)) (.slice (some ⟨g202141, 0, none⟩) l202122.length n202142) r202726 h) ⟨rfl, ⟨rfl, rfl, rfl, rfl, rfl, trivial⟩, trivial, rfl, by decide, rfl, by decide⟩
                · rw [if_neg c202725] at h
                  obtain rfl : b202724 = false := hb202724.symm.trans (decide_eq_false c202725)
                  refine VL.va (op_not rfl rfl (ltn rfl)) rfl ?_
                  refine VL.done ?_
                  refine VN.then ?_
                  refine VC.cond_t rfl ?_
                  refine VC.exit ?_
                  refine VX.then ?_
                  refine VX.miss (by decide) ?_
                  refine VX.then ?_
                  refine VX.hit ?_
                  refine VN.then ?_
                  refine VC.seq ?_
                  refine VC.region ?_
                  refine VL.va (op_move rfl (ltn rfl)) rfl ?_
                  refine VL.va (op_move rfl (ltn rfl)) rfl ?_
                  refine VL.letter (decide (i202119 > 0)) fun b202729 hb202729 => ?_
                  refine VL.va (op_cmp rfl rfl (congrArg some hb202729) (ltn rfl)) rfl ?_
                  refine VL.va (op_assign rfl (ltn rfl)) rfl ?_
                  refine VL.done ?_
                  refine VN.then ?_
                  refine VC.ret ?_
                  refine VR.inl (rs := [.tmp 6]) (.bool b202729) rfl (.tmp rfl .nil) rfl ?_
                  refine VL.done ?_
                  refine VN.meet2 (.slice (some ⟨g202141, 0, none⟩) l202122.length n202142) l202122 [0, 1] [0] h ⟨rfl, ⟨rfl, rfl, trivial⟩, trivial, rfl, by decide, rfl, by decide⟩
              · rw [if_neg c202720] at h; cases h
            · rw [if_neg c202718] at h; cases h
      clear h
      intro v202731 l202732 h
      unfold queue_Pop.j96 at h
      refine VC.seq ?_
      refine VC.region ?_
      refine VL.va (op_move rfl (ltn rfl)) rfl ?_
      refine VL.inle (vals := [.pointer (some ⟨g189033, 0, none⟩)]) Try.func57 rfl (ope_meth_p MI42_Pop Try.underlying42 FO57 rfl rfl) (len rfl) (by rintro d ⟨⟩; exact ltn rfl) rfl ?_
      refine VC.seq ?_
      refine VC.region ?_
      refine VL.va (op_assign rfl (ltn rfl)) rfl ?_
      refine VL.done ?_
      refine VN.then ?_
      refine VC.seq ?_
      refine VC.region ?_
      refine VL.va (op_move rfl (ltn rfl)) rfl ?_
      refine VL.va (op_nilCheck rfl (ltn rfl)) rfl ?_
      refine VL.va (op_load 0 1 rfl rfl TI40 rfl (by decide) (ltn rfl)) rfl ?_
      refine VL.va (op_len_own (m := l202732.length) 0 lenm Try.underlying40 rfl rfl (ltn rfl)) rfl ?_
      refine VL.va (op_ari64 rfl rfl rfl (ltn rfl)) rfl ?_
      refine VL.va (op_assign rfl (ltn rfl)) rfl ?_
      refine VL.done ?_
      refine VN.then ?_
      refine VC.seq ?_
      refine VC.region ?_
      refine VL.va (op_move rfl (ltn rfl)) rfl ?_
      refine VL.va (op_nilCheck rfl (ltn rfl)) rfl ?_
      refine VL.va (op_load 0 1 rfl rfl TI40 rfl (by decide) (ltn rfl)) rfl ?_
      refine VL.va (op_move rfl (ltn rfl)) rfl ?_
      by_cases c202741 : 0 ≤ wrap64 ((l202732.length : Int) - 1)
      · rw [if_pos c202741] at h
        replace h := Option.bind_eq_some_iff.1 h
        obtain ⟨x202742, hx202742, h⟩ := h
        refine VL.openR (m := l202732.length) 0 lenm rfl (pos_get hx202742) ?_
        rintro g202743 n202744 rfl
        refine VL.va (op_indexAddr Try.underlying40 TI24 rfl rfl c202741 (lt_get c202741 hx202742) (add_zero_at _ _) (ltn rfl)) rfl ?_
        refine VL.va (op_load_own (sz := 3) (o := 0) 0 (wrap64 ((l202732.length : Int) - 1)).toNat 3 rfl rfl (get_map hx202742) TI24 rfl (fun h => absurd h (by decide)) (ltn rfl)) rfl ?_
        refine VL.sG (o_alloc Z24 ZL24 (ltn rfl)) rfl ?_
        intro g202745
        refine VL.step1 (o_store 0 3 rfl rfl rfl TI24 (.agg (.of rfl)) rfl (len rfl)) rfl ?_
        refine VL.done ?_
        refine VN.then ?_
        refine VC.seq ?_
        refine VC.region ?_
        refine VL.va (op_move rfl (ltn rfl)) rfl ?_
        refine VL.va (op_move rfl (ltn rfl)) rfl ?_
        refine VL.va (op_nilCheck rfl (ltn rfl)) rfl ?_
        refine VL.va (op_load 1 1 rfl rfl TI40 rfl (by decide) (ltn rfl)) rfl ?_
        refine VL.va (op_move rfl (ltn rfl)) rfl ?_
        by_cases c202746 : (wrap64 ((l202732.length : Int) - 1)) ≤ (l202732.length : Int)
        · rw [if_pos c202746] at h
          refine VL.sG (o_cutOwn (m := l202732.length) (h := ((wrap64 ((l202732.length : Int) - 1)).toNat)) (es3 := List.map enc23 (l202732.take ((wrap64 ((l202732.length : Int) - 1)).toNat))) 0 lenm (List.map_take.symm) Try.underlying40 TI24 rfl rfl ⟨rfl, ⟨_, _, rfl, c202741, rfl⟩, by omega, by omega⟩ (ltn rfl)) rfl ?_
          intro v202748
          refine VL.va (op_nilCheck rfl (ltn rfl)) rfl ?_
          refine VL.step1 (o_store 1 1 rfl rfl rfl TI40 (.r 0 rfl) rfl (len rfl)) rfl ?_
          refine VL.done ?_
          refine VN.then ?_
          refine VC.seq ?_
          refine VC.region ?_
          refine VL.va (op_load 0 3 rfl rfl TI24 rfl (fun h => absurd h (by decide)) (ltn rfl)) rfl ?_
          refine VL.va (op_makeIface Try.underlying24 (fun _ h => by cases h) rfl (ltn rfl)) rfl ?_
          refine VL.va (op_assign rfl (ltn rfl)) rfl ?_
          refine VL.done ?_
          refine VN.then ?_
          refine VC.ret ?_
          refine VR.inl (rs := [.tmp 2]) (.iface 24 (.agg #[.int .i64 x202742.f0, .int .i64 x202742.f1, .int .i64 x202742.f2])) rfl (.tmp rfl .nil) rfl ?_
          refine VL.va (op_assign rfl (ltn rfl)) rfl ?_
          refine VL.done ?_
          refine VN.then ?_
          refine VC.ret ?_
          refine VR.inl (rs := [.tmp 2]) (.iface 24 (.agg #[.int .i64 x202742.f0, .int .i64 x202742.f1, .int .i64 x202742.f2])) rfl (.tmp rfl .nil) rfl ?_
          refine VL.va (op_assertOk Try.underlying24 (fun _ h => by cases h) rfl (ltn rfl)) rfl ?_
          refine VL.va (op_move rfl (ltn rfl)) rfl ?_
          refine VL.va (op_extract rfl rfl (ltn rfl)) rfl ?_
          refine VL.va (op_extract rfl rfl (ltn rfl)) rfl ?_
          refine VL.sG (o_alloc Z24 ZL24 (ltn rfl)) rfl ?_
          intro g202749
          refine VL.step1 (o_store 0 3 rfl rfl rfl TI24 (.agg (.of rfl)) rfl (len rfl)) rfl ?_
          refine VL.va (op_assign rfl (ltn rfl)) rfl ?_
          refine VL.done ?_
          refine VN.then ?_
          refine VC.join0 (⟨28, [(2, v202748), (3, .pointer (some ⟨g168419, 0, none⟩)), (4, .int .i64 0)], [], [(g168419, 24, [.int .i64 x202742.f0, .int .i64 x202742.f1, .int .i64 x202742.f2])], [(v202748, 24, 3, (l202732.take ((wrap64 ((l202732.length : Int) - 1)).toNat)).map enc23)]⟩) (True) ?_ ?_
          · refine VC.draw ⟨0, [], [], [(g202749, 24, [.int .i64 x202742.f0, .int .i64 x202742.f1, .int .i64 x202742.f2]), (g189033, 40, [v202748])], [(v202748, 24, 3, (l202732.take ((wrap64 ((l202732.length : Int) - 1)).toNat)).map enc23)]⟩ (by kernel_rfl) rfl (by kernel_rfl) (n := 5) (listed := LB 5 0) ?_
            refine VA.va (i := 0) (listed' := LB 5 1) rfl (op_load 1 1 rfl rfl TI40 rfl (by decide) (ltn rfl)) rfl (by kernel_rfl) (by kernel_rfl) (by kernel_rfl) (by kernel_rfl) ⟨trivial, ⟨⟨0, rfl⟩, ⟨2, rfl⟩, trivial⟩, ⟨⟨0, rfl⟩, trivial⟩⟩ (fun _ _ _ h => h) ?_
            refine VA.va (i := 1) (listed' := LB 5 3) rfl (op_load 0 3 rfl rfl TI24 rfl (fun h => absurd h (by decide)) (ltn rfl)) rfl (by kernel_rfl) (by kernel_rfl) (by kernel_rfl) (by kernel_rfl) ⟨trivial, ⟨⟨0, rfl⟩, ⟨2, rfl⟩, trivial⟩, ⟨⟨0, rfl⟩, trivial⟩⟩ (fun _ _ _ h => h) ?_
            refine VA.va (i := 2) (listed' := LB 5 7) rfl (op_assign rfl (ltn rfl)) rfl (by kernel_rfl) (by kernel_rfl) (by kernel_rfl) (by kernel_rfl) ⟨trivial, ⟨⟨0, rfl⟩, ⟨2, rfl⟩, trivial⟩, ⟨⟨0, rfl⟩, trivial⟩⟩ (fun _ _ _ h => h) ?_
            refine VA.one1 (i := 3) (listed' := LB 5 15) (by kernel_rfl) rfl (o_store 3 3 rfl rfl rfl TI24 (.agg (.of rfl)) rfl (len rfl)) rfl (by kernel_rfl) ⟨trivial, ⟨⟨0, rfl⟩, ⟨2, rfl⟩, trivial⟩, ⟨⟨0, rfl⟩, trivial⟩⟩ ?_
            refine VA.va (i := 4) (listed' := LB 5 31) rfl (op_assign rfl (ltn rfl)) rfl (by kernel_rfl) (by kernel_rfl) (by kernel_rfl) (by kernel_rfl) ⟨trivial, ⟨⟨0, rfl⟩, ⟨2, rfl⟩, trivial⟩, ⟨⟨0, rfl⟩, trivial⟩⟩ (fun _ _ _ h => h) ?_
            refine VA.done (by kernel_rfl) ?_
            exact VN.meet0  [3] [0] trivial ⟨rfl, ⟨rfl, rfl, rfl, trivial⟩, trivial, rfl, by decide, rfl, by decide⟩
          intro _
          refine VC.ret ?_
          simp only [Option.some.injEq, Prod.mk.injEq] at h
          obtain ⟨rfl, rfl, rfl, rfl, rfl⟩ := h
          exact VR.fn (rs := [.tmp 2, .cell 3 24, .tmp 4]) [] [(v202748, 24, 3, (l202732.take ((wrap64 ((l202732.length : Int) - 1)).toNat)).map enc23)] [0] rfl (.tmp rfl (.cell 0 rfl rfl TI24 (fun h => absurd h (by decide)) (.tmp rfl .nil))) ⟨v202748, rfl, rfl, rfl⟩ trivial rfl (by decide)
        · rw [if_neg c202746] at h; cases h
      · rw [if_neg c202741] at h; cases h

end Go.Proofs.Ythgoagnennjagaa.PQueueHeaps
