/- Written by a program of this repo: what the program's functions do, each as a Lean function, shown of the loaded code; or a statement's row over that; no condition of its own. -/
import Derived.Test.YthgoagnennjagaaPQueueOrdersx2
namespace Go.Proofs.Ythgoagnennjagaa.PQueueOrders
open Go Go.RowKit Go.Proofs.YthgoagnennjagaaV
set_option linter.unusedVariables false
set_option linter.unusedSimpArgs false

set_option maxHeartbeats 4000000 in
set_option maxRecDepth 100000 in
theorem queue_Pop.ok (k : Nat) (l0 : List S23) (v0 : Value) (r1 : List S23) (r2 : Int) (r3 : Int) (r4 : Int) (r5 : Int) (h : queue_Pop.f k l0 = some (r1, r2, r3, r4, r5)) :
    VCalls Try.prog 19 [v0] [.row v0 3 (l0.map enc23)] (fun v G own => ∃ w0 : Value, v = .tuple #[w0, .agg #[.int .i64 r2, .int .i64 r3, .int .i64 r4], .int .i64 r5] ∧ G = [] ∧ own = [(w0, 24, 3, r1.map enc23)]) := by
  refine VCalls.intro Try.func19 rfl (len rfl) fun E hC => ?_
  unfold queue_Pop.f at h
  refine VC.seq ?_
  refine VC.region ?_
  refine VL.va (op_assign rfl (ltn rfl)) rfl ?_
  refine VL.sG (o_alloc Z24 ZL24 (ltn rfl)) rfl ?_
  intro g66771
  refine VL.va (op_assign rfl (ltn rfl)) rfl ?_
  refine VL.done ?_
  refine VN.then ?_
  refine VC.seq ?_
  refine VC.block ?_
  refine VC.join1 (fun (q97700 : Bool) => ⟨28, [(0, v0), (2, .slice none 0 0), (3, .pointer (some ⟨g66771, 0, none⟩)), (4, .int .i64 0), (8, .bool q97700)], [.row v0 3 (l0.map enc23)], [(g66771, 24, [.int .i64 0, .int .i64 0, .int .i64 0])], []⟩) (fun (q97700 : Bool) => queue_Pop.j91 k l0 q97700 = some (r1, r2, r3, r4, r5)) ?_ ?_
  · refine VC.region ?_
    refine VL.va (op_move rfl (ltn rfl)) rfl ?_
    replace h := Option.bind_eq_some_iff.1 h
    obtain ⟨t97697, hA97698, h⟩ := h
    refine VL.sC (o_call0 FO12 (queue_Right.ok k l0 v0 t97697 hA97698) rfl rfl (ltn rfl) (All_of (.cons (List.mem_of_getElem? (i := 0) rfl) .nil))) rfl ?_
    rintro _ _ _ ⟨rfl, rfl, rfl⟩
    by_cases c97699 : t97697 = true
    · rw [if_pos c97699] at h
      obtain rfl := c97699
      refine VL.va (op_not rfl rfl (ltn rfl)) rfl ?_
      refine VL.va (op_assign rfl (ltn rfl)) rfl ?_
      refine VL.done ?_
      refine VN.meet1 false [0] [] h ⟨rfl, ⟨rfl, rfl, rfl, rfl, rfl, trivial⟩, ⟨⟨0, rfl⟩, trivial⟩, rfl, by decide, rfl, by decide⟩
    · rw [if_neg c97699] at h
      obtain rfl := Bool.eq_false_iff.2 c97699
      refine VL.va (op_not rfl rfl (ltn rfl)) rfl ?_
      refine VL.va (op_assign rfl (ltn rfl)) rfl ?_
      refine VL.done ?_
      refine VN.meet1 true [0] [] h ⟨rfl, ⟨rfl, rfl, rfl, rfl, rfl, trivial⟩, ⟨⟨0, rfl⟩, trivial⟩, rfl, by decide, rfl, by decide⟩
  clear h
  intro q97700 h
  unfold queue_Pop.j91 at h
  by_cases c97701 : q97700 = true
  · rw [if_pos c97701] at h
    obtain rfl := c97701
    refine VC.cond_t rfl ?_
    refine VC.seq ?_
    refine VC.region ?_
    refine VL.va (op_build (vals := []) (vcs := []) (cells := [.int .i64 0, .int .i64 0, .int .i64 0]) SI24 rfl .nil (by kernel_rfl) (ltn rfl)) rfl ?_
    refine VL.va (op_assign rfl (ltn rfl)) rfl ?_
    refine VL.step1 (o_store 0 3 rfl rfl rfl TI24 (.agg (.of rfl)) rfl (len rfl)) rfl ?_
    refine VL.va (op_assign rfl (ltn rfl)) rfl ?_
    refine VL.done ?_
    refine VN.then ?_
    refine VC.ret ?_
    refine VR.block ?_
    refine VR.then ?_
    simp only [Option.some.injEq, Prod.mk.injEq] at h
    obtain ⟨rfl, rfl, rfl, rfl, rfl⟩ := h
    refine VR.nilRow' 24 3 ?_
    exact VR.fn (rs := [.tmp 2, .cell 3 24, .tmp 4]) [] [((.slice none 0 0), 24, 3, ([] : List S23).map enc23)] [0] rfl (.tmp rfl (.cell 0 rfl rfl TI24 (fun h => absurd h (by decide)) (.tmp rfl .nil))) ⟨(.slice none 0 0), rfl, rfl, rfl⟩ trivial rfl (by decide)
  · rw [if_neg c97701] at h
    obtain rfl := Bool.eq_false_iff.2 c97701
    refine VC.cond_f rfl ?_
    refine VC.seq ?_
    refine VC.region ?_
    refine VL.va (op_move rfl (ltn rfl)) rfl ?_
    refine VL.va (op_len (m := l0.length) 0 lenm Try.underlying22 rfl rfl (ltn rfl)) rfl ?_
    refine VL.letter (((l0.length : Int) == 0)) fun b97703 hb97703 => ?_
    refine VL.va (op_cmp rfl rfl (congrArg some hb97703) (ltn rfl)) rfl ?_
    refine VL.va (op_assign rfl (ltn rfl)) rfl ?_
    refine VL.done ?_
    refine VN.then ?_
    by_cases c97704 : (l0.length : Int) = 0
    · rw [if_pos c97704] at h
      obtain rfl : b97703 = true := hb97703.symm.trans (beq_iff_eq.2 c97704)
      refine VC.cond_t rfl ?_
      refine VC.seq ?_
      refine VC.region ?_
      refine VL.va (op_build (vals := []) (vcs := []) (cells := [.int .i64 0, .int .i64 0, .int .i64 0]) SI24 rfl .nil (by kernel_rfl) (ltn rfl)) rfl ?_
      refine VL.va (op_assign rfl (ltn rfl)) rfl ?_
      refine VL.step1 (o_store 0 3 rfl rfl rfl TI24 (.agg (.of rfl)) rfl (len rfl)) rfl ?_
      refine VL.va (op_assign rfl (ltn rfl)) rfl ?_
      refine VL.done ?_
      refine VN.then ?_
      refine VC.ret ?_
      refine VR.block ?_
      refine VR.then ?_
      simp only [Option.some.injEq, Prod.mk.injEq] at h
      obtain ⟨rfl, rfl, rfl, rfl, rfl⟩ := h
      refine VR.nilRow' 24 3 ?_
      exact VR.fn (rs := [.tmp 2, .cell 3 24, .tmp 4]) [] [((.slice none 0 0), 24, 3, ([] : List S23).map enc23)] [0] rfl (.tmp rfl (.cell 0 rfl rfl TI24 (fun h => absurd h (by decide)) (.tmp rfl .nil))) ⟨(.slice none 0 0), rfl, rfl, rfl⟩ trivial rfl (by decide)
    · rw [if_neg c97704] at h
      obtain rfl : b97703 = false := hb97703.symm.trans (beq_eq_false_iff_ne.2 c97704)
      refine VC.cond_f rfl ?_
      refine VC.skip ?_
      refine VN.block ?_
      refine VN.then ?_
      refine VC.seq ?_
      refine VC.region ?_
      refine VL.va (op_move rfl (ltn rfl)) rfl ?_
      replace h := Option.bind_eq_some_iff.1 h
      obtain ⟨r97706, hA97707, h⟩ := h
      refine VL.sC (o_call_b0 FO22 (slices_Clone_api_Wait_api_Wait.ok l0 v0 r97706 hA97707) rfl rfl (ltn rfl) (All_of (.cons (.inl (List.mem_of_getElem? (i := 0) rfl)) .nil)) (by rintro _ _ _ ⟨_, rfl, rfl, rfl⟩; rfl)) rfl ?_
      rintro v97709 _ _ ⟨_, rfl, rfl, rfl⟩
      refine VL.sG (o_alloc Z40 ZL40 (ltn rfl)) rfl ?_
      intro g97710
      refine VL.step1 (o_store 0 1 rfl rfl rfl TI40 (.r 0 rfl) rfl (len rfl)) rfl ?_
      refine VL.done ?_
      refine VN.then ?_
      refine VC.seq ?_
      refine VC.region ?_
      refine VL.va (op_makeIface Try.underlying42 (fun _ h => by cases h) rfl (ltn rfl)) rfl ?_
      refine VL.inl (vals := [.iface 42 (.pointer (some ⟨g97710, 0, none⟩))]) (caps := []) Try.func25 FO25 rfl rfl rfl (len rfl) (ltn rfl) rfl ?_
      refine VC.seq ?_
      refine VC.region ?_
      refine VL.va (op_assign rfl (ltn rfl)) rfl ?_
      refine VL.done ?_
      refine VN.then ?_
      refine VC.seq ?_
      refine VC.region ?_
      refine VL.va (op_move rfl (ltn rfl)) rfl ?_
      refine VL.inle (vals := [v97709]) Try.func54 rfl (ope_meth_v 0 1 MI42_Len Try.underlying42 FO54 rfl rfl TI40 rfl (by decide) rfl rfl) (len rfl) (by rintro d ⟨⟩; exact ltn rfl) rfl ?_
      refine VC.seq ?_
      refine VC.region ?_
      refine VL.va (op_assign rfl (ltn rfl)) rfl ?_
      refine VL.done ?_
      refine VN.then ?_
      refine VC.seq ?_
      refine VC.region ?_
      refine VL.va (op_move rfl (ltn rfl)) rfl ?_
      refine VL.va (op_len_own (m := r97706.length) 0 lenm Try.underlying40 rfl rfl (ltn rfl)) rfl ?_
      refine VL.va (op_assign rfl (ltn rfl)) rfl ?_
      refine VL.done ?_
      refine VN.then ?_
      refine VC.ret ?_
      refine VR.inl (rs := [.tmp 2]) (.int .i64 (r97706.length : Int)) rfl (.tmp rfl .nil) rfl ?_
      refine VL.va (op_ari64 rfl rfl rfl (ltn rfl)) rfl ?_
      refine VL.va (op_assign rfl (ltn rfl)) rfl ?_
      refine VL.done ?_
      refine VN.then ?_
      refine VC.seq ?_
      refine VC.region ?_
      refine VL.va (op_move rfl (ltn rfl)) rfl ?_
      refine VL.va (op_move rfl (ltn rfl)) rfl ?_
      replace h := Option.bind_eq_some_iff.1 h
      obtain ⟨r104569, hA104570, h⟩ := h
      refine VL.step1 (ope_ownd (vals := [v97709, .int .i64 0, .int .i64 (wrap64 ((r97706.length : Int) - 1))]) 0 rfl (ope_meth_v 0 1 MI42_Swap Try.underlying42 FO56 rfl rfl TI40 rfl (by decide) rfl rfl) (queue_waits_Swap.ok r97706 0 (wrap64 ((r97706.length : Int) - 1)) v97709 r104569 hA104570) (by simp) (ltn rfl)) rfl ?_
      refine VL.done ?_
      refine VN.then ?_
      refine VC.join2 (fun (v111408 : Value) (l111409 : List S23) => ⟨15, [(0, .iface 42 (.pointer (some ⟨g97710, 0, none⟩))), (2, .nilIface)], [], [(g97710, 40, [v111408]), (g66771, 24, [.int .i64 0, .int .i64 0, .int .i64 0])], [(v111408, 24, 3, l111409.map enc23)]⟩) (fun (v111408 : Value) (l111409 : List S23) => queue_Pop.j127 k l111409 = some (r1, r2, r3, r4, r5)) ?_ ?_
      · refine VC.region ?_
        refine VL.va (op_move rfl (ltn rfl)) rfl ?_
        refine VL.va (op_move rfl (ltn rfl)) rfl ?_
        refine VL.inl (vals := [.iface 42 (.pointer (some ⟨g97710, 0, none⟩)), .int .i64 0, .int .i64 (wrap64 ((r97706.length : Int) - 1))]) (caps := []) Try.func31 FO31 rfl rfl rfl (len rfl) (ltn rfl) rfl ?_
        refine VC.seq ?_
        refine VC.region ?_
        refine VL.va (op_assign rfl (ltn rfl)) rfl ?_
        refine VL.done ?_
        refine VN.then ?_
        refine VC.seq ?_
        refine VC.region ?_
        refine VL.va (op_move rfl (ltn rfl)) rfl ?_
        refine VL.va (op_assign rfl (ltn rfl)) rfl ?_
        refine VL.done ?_
        refine VN.then ?_
        refine VC.seq ?_
        refine VC.block ?_
        refine VC.loop3 (fun (i110796 : Int) (v110798 : Value) (l110799 : List S23) => ⟨48, [(0, .iface 42 (.pointer (some ⟨g97710, 0, none⟩))), (1, .int .i64 0), (2, .int .i64 (wrap64 ((r97706.length : Int) - 1))), (6, .bool false), (7, .int .i64 i110796)], [], [(g97710, 40, [v110798]), (g66771, 24, [.int .i64 0, .int .i64 0, .int .i64 0])], [(v110798, 24, 3, l110799.map enc23)]⟩) (fun (ml130 : Nat) (i110796 : Int) (v110798 : Value) (l110799 : List S23) => queue_Pop.l130 k r97706 ml130 i110796 l110799 = some (r1, r2, r3, r4, r5)) k 0 v97709 r104569 [0, 1] [0] h ⟨rfl, ⟨rfl, rfl, rfl, rfl, rfl, trivial⟩, trivial, rfl, by decide, rfl, by decide⟩ (by intros; simp [queue_Pop.l130]) ?_
        clear h
        intro ml130 ihl130 i110796 v110798 l110799 h
        simp only [queue_Pop.l130] at h
        refine VC.block ?_
        refine VC.seq ?_
        refine VC.region ?_
        refine VL.va (op_move rfl (ltn rfl)) rfl ?_
        refine VL.va (op_ari64 rfl rfl rfl (ltn rfl)) rfl ?_
        refine VL.va (op_ari64 rfl rfl rfl (ltn rfl)) rfl ?_
        refine VL.va (op_assign rfl (ltn rfl)) rfl ?_
        refine VL.done ?_
        refine VN.then ?_
        refine VC.seq ?_
        refine VC.join3 (fun (q111261 : Bool) (q111262 : Bool) (q111263 : Bool) => ⟨48, [(0, .iface 42 (.pointer (some ⟨g97710, 0, none⟩))), (1, .int .i64 0), (2, .int .i64 (wrap64 ((r97706.length : Int) - 1))), (6, .bool false), (7, .int .i64 i110796), (8, .int .i64 (wrap64 ((wrap64 (2 * i110796)) + 1))), (12, .int .i64 i110796), (13, .int .i64 (wrap64 (2 * i110796))), (14, .int .i64 (wrap64 ((wrap64 (2 * i110796)) + 1))), (15, .int .i64 (wrap64 ((wrap64 (2 * i110796)) + 1))), (16, .int .i64 (wrap64 ((r97706.length : Int) - 1))), (17, .bool q111261), (18, .bool q111262), (21, .bool q111263)], [], [(g97710, 40, [v110798]), (g66771, 24, [.int .i64 0, .int .i64 0, .int .i64 0])], [(v110798, 24, 3, l110799.map enc23)]⟩) (fun (q111261 : Bool) (q111262 : Bool) (q111263 : Bool) => queue_Pop.j131 k (queue_Pop.l130 k r97706 ml130) i110796 l110799 r97706 q111261 q111262 q111263 = some (r1, r2, r3, r4, r5)) ?_ ?_
        · refine VC.region ?_
          refine VL.va (op_move rfl (ltn rfl)) rfl ?_
          refine VL.va (op_move rfl (ltn rfl)) rfl ?_
          refine VL.letter (decide ((wrap64 ((wrap64 (2 * i110796)) + 1)) ≥ (wrap64 ((r97706.length : Int) - 1)))) fun b111258 hb111258 => ?_
          refine VL.va (op_cmp rfl rfl (congrArg some hb111258) (ltn rfl)) rfl ?_
          refine VL.va (op_move rfl (ltn rfl)) rfl ?_
          by_cases c111259 : (wrap64 ((wrap64 (2 * i110796)) + 1)) ≥ (wrap64 ((r97706.length : Int) - 1))
          · rw [if_pos c111259] at h
            obtain rfl : b111258 = true := hb111258.symm.trans (decide_eq_true c111259)
            refine VL.un rfl rfl (ltn rfl) ?_
            refine VL.un rfl rfl (ltn rfl) ?_
            refine VL.va (op_pick rfl rfl (ltn rfl)) rfl ?_
            refine VL.done ?_
            refine VN.meet3 true true true [0, 1] [0] h ⟨rfl, ⟨rfl, rfl, rfl, rfl, rfl, rfl, rfl, rfl, rfl, rfl, rfl, rfl, rfl, rfl, trivial⟩, trivial, rfl, by decide, rfl, by decide⟩
          · rw [if_neg c111259] at h
            obtain rfl : b111258 = false := hb111258.symm.trans (decide_eq_false c111259)
            refine VL.va (op_move rfl (ltn rfl)) rfl ?_
            refine VL.letter (decide ((wrap64 ((wrap64 (2 * i110796)) + 1)) < 0)) fun b111260 hb111260 => ?_
            refine VL.va (op_cmp rfl rfl (congrArg some hb111260) (ltn rfl)) rfl ?_
            refine VL.va (op_pick rfl rfl (ltn rfl)) rfl ?_
            refine VL.done ?_
            subst hb111260
            refine VN.meet3 false false (decide ((wrap64 ((wrap64 (2 * i110796)) + 1)) < 0)) [0, 1] [0] h ⟨rfl, ⟨rfl, rfl, rfl, rfl, rfl, rfl, rfl, rfl, rfl, rfl, rfl, rfl, rfl, rfl, trivial⟩, trivial, rfl, by decide, rfl, by decide⟩
        clear h
        intro q111261 q111262 q111263 h
        unfold queue_Pop.j131 at h
        by_cases c111264 : q111263 = true
        · rw [if_pos c111264] at h
          obtain rfl := c111264
          refine VC.cond_t rfl ?_
          refine VC.exit ?_
          refine VX.then ?_
          refine VX.miss (by decide) ?_
          refine VX.then ?_
          refine VX.hit ?_
          refine VN.then ?_
          refine VC.seq ?_
          refine VC.region ?_
          refine VL.va (op_move rfl (ltn rfl)) rfl ?_
          refine VL.va (op_move rfl (ltn rfl)) rfl ?_
          refine VL.letter (decide (i110796 > 0)) fun b111265 hb111265 => ?_
          refine VL.va (op_cmp rfl rfl (congrArg some hb111265) (ltn rfl)) rfl ?_
          refine VL.va (op_assign rfl (ltn rfl)) rfl ?_
          refine VL.done ?_
          refine VN.then ?_
          refine VC.ret ?_
          refine VR.inl (rs := [.tmp 6]) (.bool b111265) rfl (.tmp rfl .nil) rfl ?_
          refine VL.done ?_
          refine VN.meet2 v110798 l110799 [0, 1] [0] h ⟨rfl, ⟨rfl, rfl, trivial⟩, trivial, rfl, by decide, rfl, by decide⟩
        · rw [if_neg c111264] at h
          obtain rfl := Bool.eq_false_iff.2 c111264
          refine VC.cond_f rfl ?_
          refine VC.skip ?_
          refine VN.then ?_
          refine VC.seq ?_
          refine VC.region ?_
          refine VL.va (op_move rfl (ltn rfl)) rfl ?_
          refine VL.va (op_assign rfl (ltn rfl)) rfl ?_
          refine VL.done ?_
          refine VN.then ?_
          refine VC.seq ?_
          refine VC.seq ?_
          refine VC.region ?_
          refine VL.va (op_move rfl (ltn rfl)) rfl ?_
          refine VL.va (op_ari64 rfl rfl rfl (ltn rfl)) rfl ?_
          refine VL.va (op_assign rfl (ltn rfl)) rfl ?_
          refine VL.done ?_
          refine VN.then ?_
          refine VC.seq ?_
          refine VC.region ?_
          refine VL.va (op_move rfl (ltn rfl)) rfl ?_
          refine VL.va (op_move rfl (ltn rfl)) rfl ?_
          refine VL.letter (decide ((wrap64 ((wrap64 ((wrap64 (2 * i110796)) + 1)) + 1)) < (wrap64 ((r97706.length : Int) - 1)))) fun b111294 hb111294 => ?_
          refine VL.va (op_cmp rfl rfl (congrArg some hb111294) (ltn rfl)) rfl ?_
          refine VL.va (op_move rfl (ltn rfl)) rfl ?_
          by_cases c111295 : (wrap64 ((wrap64 ((wrap64 (2 * i110796)) + 1)) + 1)) < (wrap64 ((r97706.length : Int) - 1))
          · rw [if_pos c111295] at h
            obtain rfl : b111294 = true := hb111294.symm.trans (decide_eq_true c111295)
            refine VL.va (op_move rfl (ltn rfl)) rfl ?_
            refine VL.va (op_move rfl (ltn rfl)) rfl ?_
            refine VL.va (op_move rfl (ltn rfl)) rfl ?_
            refine VL.inle (vals := [v110798, .int .i64 (wrap64 ((wrap64 ((wrap64 (2 * i110796)) + 1)) + 1)), .int .i64 (wrap64 ((wrap64 (2 * i110796)) + 1))]) Try.func55 rfl (ope_meth_v 0 1 MI42_Less Try.underlying42 FO55 rfl rfl TI40 rfl (by decide) rfl rfl) (len rfl) (by rintro d ⟨⟩; exact ltn rfl) rfl ?_
            refine VC.seq ?_
            refine VC.region ?_
            refine VL.va (op_assign rfl (ltn rfl)) rfl ?_
            refine VL.done ?_
            refine VN.then ?_
            by_cases c111296 : 0 ≤ wrap64 ((wrap64 ((wrap64 (2 * i110796)) + 1)) + 1)
            · rw [if_pos c111296] at h
              replace h := Option.bind_eq_some_iff.1 h
              obtain ⟨x111297, hx111297, h⟩ := h
              by_cases c111298 : 0 ≤ wrap64 ((wrap64 (2 * i110796)) + 1)
              · rw [if_pos c111298] at h
                replace h := Option.bind_eq_some_iff.1 h
                obtain ⟨x111299, hx111299, h⟩ := h
                replace h := Option.bind_eq_some_iff.1 h
                obtain ⟨t111300, hA111301, h⟩ := h
                refine VC.letter (decide (t111300 < 0)) fun b111302 hb111302 => ?_
                refine VC.openR (m := l110799.length) 0 lenm rfl (pos_get hx111297) ?_
                rintro g110818 n110819 rfl
                refine VC.join0 (⟨17, [(6, .bool b111302)], [], [(g97710, 40, [(.slice (some ⟨g110818, 0, none⟩) l110799.length n110819)]), (g66771, 24, [.int .i64 0, .int .i64 0, .int .i64 0])], [((.slice (some ⟨g110818, 0, none⟩) l110799.length n110819), 24, 3, l110799.map enc23)]⟩) (True) ?_ ?_
                · refine VC.draw ⟨0, [], [], [], [((.slice (some ⟨g110818, 0, none⟩) l110799.length n110819), 24, 3, l110799.map enc23)]⟩ (by kernel_rfl) rfl (by kernel_rfl) (n := 11) (listed := LB 11 0) ?_
                  refine VA.va (i := 0) (listed' := LB 11 1) rfl (op_move rfl (ltn rfl)) rfl (by kernel_rfl) (by kernel_rfl) (by kernel_rfl) (by kernel_rfl) ⟨trivial, trivial, ⟨⟨0, rfl⟩, trivial⟩⟩ (fun _ _ _ h => h) ?_
                  refine VA.va (i := 1) (listed' := LB 11 3) rfl (op_move rfl (ltn rfl)) rfl (by kernel_rfl) (by kernel_rfl) (by kernel_rfl) (by kernel_rfl) ⟨trivial, trivial, ⟨⟨0, rfl⟩, trivial⟩⟩ (fun _ _ _ h => h) ?_
                  refine VA.va (i := 2) (listed' := LB 11 7) rfl (op_indexAddr Try.underlying40 TI24 rfl rfl c111296 (lt_get c111296 hx111297) (add_zero_at _ _) (ltn rfl)) rfl (by kernel_rfl) (by kernel_rfl) (by kernel_rfl) (by kernel_rfl) ⟨trivial, trivial, ⟨⟨0, rfl⟩, trivial⟩⟩ (fun _ _ _ h => h) ?_
                  refine VA.va (i := 3) (listed' := LB 11 15) rfl (op_load_own (sz := 3) (o := 0) 0 (wrap64 ((wrap64 ((wrap64 (2 * i110796)) + 1)) + 1)).toNat 3 rfl rfl (get_map hx111297) TI24 rfl (fun h => absurd h (by decide)) (ltn rfl)) rfl (by kernel_rfl) (by kernel_rfl) (by kernel_rfl) (by kernel_rfl) ⟨trivial, trivial, ⟨⟨0, rfl⟩, trivial⟩⟩ (fun _ _ _ h => h) ?_
                  refine VA.va (i := 4) (listed' := LB 11 31) rfl (op_move rfl (ltn rfl)) rfl (by kernel_rfl) (by kernel_rfl) (by kernel_rfl) (by kernel_rfl) ⟨trivial, trivial, ⟨⟨0, rfl⟩, trivial⟩⟩ (fun _ _ _ h => h) ?_
                  refine VA.va (i := 5) (listed' := LB 11 63) rfl (op_move rfl (ltn rfl)) rfl (by kernel_rfl) (by kernel_rfl) (by kernel_rfl) (by kernel_rfl) ⟨trivial, trivial, ⟨⟨0, rfl⟩, trivial⟩⟩ (fun _ _ _ h => h) ?_
                  refine VA.va (i := 6) (listed' := LB 11 127) rfl (op_indexAddr Try.underlying40 TI24 rfl rfl c111298 (lt_get c111298 hx111299) (add_zero_at _ _) (ltn rfl)) rfl (by kernel_rfl) (by kernel_rfl) (by kernel_rfl) (by kernel_rfl) ⟨trivial, trivial, ⟨⟨0, rfl⟩, trivial⟩⟩ (fun _ _ _ h => h) ?_
                  refine VA.va (i := 7) (listed' := LB 11 255) rfl (op_load_own (sz := 3) (o := 0) 0 (wrap64 ((wrap64 (2 * i110796)) + 1)).toNat 3 rfl rfl (get_map hx111299) TI24 rfl (fun h => absurd h (by decide)) (ltn rfl)) rfl (by kernel_rfl) (by kernel_rfl) (by kernel_rfl) (by kernel_rfl) ⟨trivial, trivial, ⟨⟨0, rfl⟩, trivial⟩⟩ (fun _ _ _ h => h) ?_
                  refine VA.oneC (i := 8) (listed' := LB 11 511) (by kernel_rfl) rfl (o_call0 FO26 (queue_compare.ok k x111297.f0 x111297.f1 x111297.f2 x111299.f0 x111299.f1 x111299.f2 t111300 hA111301) rfl rfl (ltn rfl) (All_of .nil)) rfl (by kernel_rfl) ?_
                  rintro _ _ _ ⟨rfl, rfl, rfl⟩
                  refine ⟨⟨trivial, trivial, ⟨⟨0, rfl⟩, trivial⟩⟩, ?_⟩
                  refine VA.va (i := 9) (listed' := LB 11 1023) rfl (op_cmp rfl rfl (congrArg some hb111302) (ltn rfl)) rfl (by kernel_rfl) (by kernel_rfl) (by kernel_rfl) (by kernel_rfl) ⟨trivial, trivial, ⟨⟨0, rfl⟩, trivial⟩⟩ (fun _ _ _ h => h) ?_
                  refine VA.va (i := 10) (listed' := LB 11 2047) rfl (op_assign rfl (ltn rfl)) rfl (by kernel_rfl) (by kernel_rfl) (by kernel_rfl) (by kernel_rfl) ⟨trivial, trivial, ⟨⟨0, rfl⟩, trivial⟩⟩ (fun _ _ _ h => h) ?_
                  refine VA.done (by kernel_rfl) ?_
                  exact VN.meet0  [0, 1] [0] trivial ⟨rfl, ⟨rfl, trivial⟩, trivial, rfl, by decide, rfl, by decide⟩
                intro _
                refine VC.ret ?_
                refine VR.inl (rs := [.tmp 6]) (.bool b111302) rfl (.tmp rfl .nil) rfl ?_
                refine VL.va (op_pick rfl rfl (ltn rfl)) rfl ?_
                refine VL.done ?_
                refine VN.then ?_
                by_cases c111303 : t111300 < 0
                · rw [if_pos c111303] at h
                  obtain rfl : b111302 = true := hb111302.symm.trans (decide_eq_true c111303)
                  refine VC.cond_t rfl ?_
                  refine VC.region ?_
                  refine VL.va (op_move rfl (ltn rfl)) rfl ?_
                  refine VL.va (op_assign rfl (ltn rfl)) rfl ?_
                  refine VL.done ?_
                  refine VN.then ?_
                  refine VC.seq ?_
                  refine VC.seq ?_
                  refine VC.region ?_
                  refine VL.va (op_move rfl (ltn rfl)) rfl ?_
                  refine VL.va (op_move rfl (ltn rfl)) rfl ?_
                  refine VL.va (op_move rfl (ltn rfl)) rfl ?_
                  refine VL.inle (vals := [(.slice (some ⟨g110818, 0, none⟩) l110799.length n110819), .int .i64 (wrap64 ((wrap64 ((wrap64 (2 * i110796)) + 1)) + 1)), .int .i64 i110796]) Try.func55 rfl (ope_meth_v 0 1 MI42_Less Try.underlying42 FO55 rfl rfl TI40 rfl (by decide) rfl rfl) (len rfl) (by rintro d ⟨⟩; exact ltn rfl) rfl ?_
                  refine VC.seq ?_
                  refine VC.region ?_
                  refine VL.va (op_assign rfl (ltn rfl)) rfl ?_
                  refine VL.done ?_
                  refine VN.then ?_
                  replace h := Option.bind_eq_some_iff.1 h
                  obtain ⟨x111326, hx111326, h⟩ := h
                  by_cases c111327 : 0 ≤ i110796
                  · rw [if_pos c111327] at h
                    replace h := Option.bind_eq_some_iff.1 h
                    obtain ⟨x111328, hx111328, h⟩ := h
                    replace h := Option.bind_eq_some_iff.1 h
                    obtain ⟨t111329, hA111330, h⟩ := h
                    refine VC.letter (decide (t111329 < 0)) fun b111331 hb111331 => ?_
                    refine VC.join0 (⟨17, [(6, .bool b111331)], [], [(g97710, 40, [(.slice (some ⟨g110818, 0, none⟩) l110799.length n110819)]), (g66771, 24, [.int .i64 0, .int .i64 0, .int .i64 0])], [((.slice (some ⟨g110818, 0, none⟩) l110799.length n110819), 24, 3, l110799.map enc23)]⟩) (True) ?_ ?_
                    · refine VC.draw ⟨0, [], [], [], [((.slice (some ⟨g110818, 0, none⟩) l110799.length n110819), 24, 3, l110799.map enc23)]⟩ (by kernel_rfl) rfl (by kernel_rfl) (n := 11) (listed := LB 11 0) ?_
                      refine VA.va (i := 0) (listed' := LB 11 1) rfl (op_move rfl (ltn rfl)) rfl (by kernel_rfl) (by kernel_rfl) (by kernel_rfl) (by kernel_rfl) ⟨trivial, trivial, ⟨⟨0, rfl⟩, trivial⟩⟩ (fun _ _ _ h => h) ?_
                      refine VA.va (i := 1) (listed' := LB 11 3) rfl (op_move rfl (ltn rfl)) rfl (by kernel_rfl) (by kernel_rfl) (by kernel_rfl) (by kernel_rfl) ⟨trivial, trivial, ⟨⟨0, rfl⟩, trivial⟩⟩ (fun _ _ _ h => h) ?_
                      refine VA.va (i := 2) (listed' := LB 11 7) rfl (op_indexAddr Try.underlying40 TI24 rfl rfl c111296 (lt_get c111296 hx111326) (add_zero_at _ _) (ltn rfl)) rfl (by kernel_rfl) (by kernel_rfl) (by kernel_rfl) (by kernel_rfl) ⟨trivial, trivial, ⟨⟨0, rfl⟩, trivial⟩⟩ (fun _ _ _ h => h) ?_
                      refine VA.va (i := 3) (listed' := LB 11 15) rfl (op_load_own (sz := 3) (o := 0) 0 (wrap64 ((wrap64 ((wrap64 (2 * i110796)) + 1)) + 1)).toNat 3 rfl rfl (get_map hx111326) TI24 rfl (fun h => absurd h (by decide)) (ltn rfl)) rfl (by kernel_rfl) (by kernel_rfl) (by kernel_rfl) (by kernel_rfl) ⟨trivial, trivial, ⟨⟨0, rfl⟩, trivial⟩⟩ (fun _ _ _ h => h) ?_
                      refine VA.va (i := 4) (listed' := LB 11 31) rfl (op_move rfl (ltn rfl)) rfl (by kernel_rfl) (by kernel_rfl) (by kernel_rfl) (by kernel_rfl) ⟨trivial, trivial, ⟨⟨0, rfl⟩, trivial⟩⟩ (fun _ _ _ h => h) ?_
                      refine VA.va (i := 5) (listed' := LB 11 63) rfl (op_move rfl (ltn rfl)) rfl (by kernel_rfl) (by kernel_rfl) (by kernel_rfl) (by kernel_rfl) ⟨trivial, trivial, ⟨⟨0, rfl⟩, trivial⟩⟩ (fun _ _ _ h => h) ?_
                      refine VA.va (i := 6) (listed' := LB 11 127) rfl (op_indexAddr Try.underlying40 TI24 rfl rfl c111327 (lt_get c111327 hx111328) (add_zero_at _ _) (ltn rfl)) rfl (by kernel_rfl) (by kernel_rfl) (by kernel_rfl) (by kernel_rfl) ⟨trivial, trivial, ⟨⟨0, rfl⟩, trivial⟩⟩ (fun _ _ _ h => h) ?_
                      refine VA.va (i := 7) (listed' := LB 11 255) rfl (op_load_own (sz := 3) (o := 0) 0 i110796.toNat 3 rfl rfl (get_map hx111328) TI24 rfl (fun h => absurd h (by decide)) (ltn rfl)) rfl (by kernel_rfl) (by kernel_rfl) (by kernel_rfl) (by kernel_rfl) ⟨trivial, trivial, ⟨⟨0, rfl⟩, trivial⟩⟩ (fun _ _ _ h => h) ?_
                      refine VA.oneC (i := 8) (listed' := LB 11 511) (by kernel_rfl) rfl (o_call0 FO26 (queue_compare.ok k x111326.f0 x111326.f1 x111326.f2 x111328.f0 x111328.f1 x111328.f2 t111329 hA111330) rfl rfl (ltn rfl) (All_of .nil)) rfl (by kernel_rfl) ?_
                      rintro _ _ _ ⟨rfl, rfl, rfl⟩
                      refine ⟨⟨trivial, trivial, ⟨⟨0, rfl⟩, trivial⟩⟩, ?_⟩
                      refine VA.va (i := 9) (listed' := LB 11 1023) rfl (op_cmp rfl rfl (congrArg some hb111331) (ltn rfl)) rfl (by kernel_rfl) (by kernel_rfl) (by kernel_rfl) (by kernel_rfl) ⟨trivial, trivial, ⟨⟨0, rfl⟩, trivial⟩⟩ (fun _ _ _ h => h) ?_
                      refine VA.va (i := 10) (listed' := LB 11 2047) rfl (op_assign rfl (ltn rfl)) rfl (by kernel_rfl) (by kernel_rfl) (by kernel_rfl) (by kernel_rfl) ⟨trivial, trivial, ⟨⟨0, rfl⟩, trivial⟩⟩ (fun _ _ _ h => h) ?_
                      refine VA.done (by kernel_rfl) ?_
                      exact VN.meet0  [0, 1] [0] trivial ⟨rfl, ⟨rfl, trivial⟩, trivial, rfl, by decide, rfl, by decide⟩
                    intro _
                    refine VC.ret ?_
                    refine VR.inl (rs := [.tmp 6]) (.bool b111331) rfl (.tmp rfl .nil) rfl ?_
                    by_cases c111332 : t111329 < 0
                    · rw [if_pos c111332] at h
                      obtain rfl : b111331 = true := hb111331.symm.trans (decide_eq_true c111332)
                      refine VL.va (op_not rfl rfl (ltn rfl)) rfl ?_
                      refine VL.done ?_
                      refine VN.then ?_
                      refine VC.cond_f rfl ?_
                      refine VC.skip ?_
                      refine VN.then ?_
                      refine VC.seq ?_
                      refine VC.region ?_
                      refine VL.va (op_move rfl (ltn rfl)) rfl ?_
                      refine VL.va (op_move rfl (ltn rfl)) rfl ?_
                      refine VL.va (op_move rfl (ltn rfl)) rfl ?_
                      replace h := Option.bind_eq_some_iff.1 h
                      obtain ⟨r111333, hA111334, h⟩ := h
                      refine VL.step1 (ope_ownd (vals := [(.slice (some ⟨g110818, 0, none⟩) l110799.length n110819), .int .i64 i110796, .int .i64 (wrap64 ((wrap64 ((wrap64 (2 * i110796)) + 1)) + 1))]) 0 rfl (ope_meth_v 0 1 MI42_Swap Try.underlying42 FO56 rfl rfl TI40 rfl (by decide) rfl rfl) (queue_waits_Swap.ok l110799 i110796 (wrap64 ((wrap64 ((wrap64 (2 * i110796)) + 1)) + 1)) (.slice (some ⟨g110818, 0, none⟩) l110799.length n110819) r111333 hA111334) (by simp) (ltn rfl)) rfl ?_
                      refine VL.done ?_
                      refine VN.then ?_
                      refine VC.region ?_
                      refine VL.va (op_move rfl (ltn rfl)) rfl ?_
                      refine VL.va (op_assign rfl (ltn rfl)) rfl ?_
                      refine VL.done ?_
                      refine VN.block ?_
                      refine VN.again [0, 1] [0] (ihl130 (wrap64 ((wrap64 ((wrap64 (2 * i110796)) + 1)) + 1)) (.slice (some ⟨g110818, 0, none⟩) l110799.length n110819) r111333 h) ⟨rfl, ⟨rfl, rfl, rfl, rfl, rfl, trivial⟩, trivial, rfl, by decide, rfl, by decide⟩
                    · rw [if_neg c111332] at h
                      obtain rfl : b111331 = false := hb111331.symm.trans (decide_eq_false c111332)
                      refine VL.va (op_not rfl rfl (ltn rfl)) rfl ?_
                      refine VL.done ?_
                      refine VN.then ?_
                      refine VC.cond_t rfl ?_
                      refine VC.exit ?_
                      refine VX.then ?_
                      refine VX.miss (by decide) ?_
                      refine VX.then ?_
                      refine VX.hit ?_
                      refine VN.then ?_
                      refine VC.seq ?_
                      refine VC.region ?_
                      refine VL.va (op_move rfl (ltn rfl)) rfl ?_
                      refine VL.va (op_move rfl (ltn rfl)) rfl ?_
                      refine VL.letter (decide (i110796 > 0)) fun b111336 hb111336 => ?_
                      refine VL.va (op_cmp rfl rfl (congrArg some hb111336) (ltn rfl)) rfl ?_
                      refine VL.va (op_assign rfl (ltn rfl)) rfl ?_
                      refine VL.done ?_
                      refine VN.then ?_
                      refine VC.ret ?_
                      refine VR.inl (rs := [.tmp 6]) (.bool b111336) rfl (.tmp rfl .nil) rfl ?_
                      refine VL.done ?_
                      refine VN.meet2 (.slice (some ⟨g110818, 0, none⟩) l110799.length n110819) l110799 [0, 1] [0] h ⟨rfl, ⟨rfl, rfl, trivial⟩, trivial, rfl, by decide, rfl, by decide⟩
                  · rw [if_neg c111327] at h; cases h
                · rw [if_neg c111303] at h
                  obtain rfl : b111302 = false := hb111302.symm.trans (decide_eq_false c111303)
                  refine VC.cond_f rfl ?_
                  refine VC.skip ?_
                  refine VN.then ?_
                  refine VC.seq ?_
                  refine VC.seq ?_
                  refine VC.region ?_
                  refine VL.va (op_move rfl (ltn rfl)) rfl ?_
                  refine VL.va (op_move rfl (ltn rfl)) rfl ?_
                  refine VL.va (op_move rfl (ltn rfl)) rfl ?_
                  refine VL.inle (vals := [(.slice (some ⟨g110818, 0, none⟩) l110799.length n110819), .int .i64 (wrap64 ((wrap64 (2 * i110796)) + 1)), .int .i64 i110796]) Try.func55 rfl (ope_meth_v 0 1 MI42_Less Try.underlying42 FO55 rfl rfl TI40 rfl (by decide) rfl rfl) (len rfl) (by rintro d ⟨⟩; exact ltn rfl) rfl ?_
                  refine VC.seq ?_
                  refine VC.region ?_
                  refine VL.va (op_assign rfl (ltn rfl)) rfl ?_
                  refine VL.done ?_
                  refine VN.then ?_
                  replace h := Option.bind_eq_some_iff.1 h
                  obtain ⟨x111359, hx111359, h⟩ := h
                  by_cases c111360 : 0 ≤ i110796
                  · rw [if_pos c111360] at h
                    replace h := Option.bind_eq_some_iff.1 h
                    obtain ⟨x111361, hx111361, h⟩ := h
                    replace h := Option.bind_eq_some_iff.1 h
                    obtain ⟨t111362, hA111363, h⟩ := h
                    refine VC.letter (decide (t111362 < 0)) fun b111364 hb111364 => ?_
                    refine VC.join0 (⟨17, [(6, .bool b111364)], [], [(g97710, 40, [(.slice (some ⟨g110818, 0, none⟩) l110799.length n110819)]), (g66771, 24, [.int .i64 0, .int .i64 0, .int .i64 0])], [((.slice (some ⟨g110818, 0, none⟩) l110799.length n110819), 24, 3, l110799.map enc23)]⟩) (True) ?_ ?_
                    · refine VC.draw ⟨0, [], [], [], [((.slice (some ⟨g110818, 0, none⟩) l110799.length n110819), 24, 3, l110799.map enc23)]⟩ (by kernel_rfl) rfl (by kernel_rfl) (n := 11) (listed := LB 11 0) ?_
                      refine VA.va (i := 0) (listed' := LB 11 1) rfl (op_move rfl (ltn rfl)) rfl (by kernel_rfl) (by kernel_rfl) (by kernel_rfl) (by kernel_rfl) ⟨trivial, trivial, ⟨⟨0, rfl⟩, trivial⟩⟩ (fun _ _ _ h => h) ?_
                      refine VA.va (i := 1) (listed' := LB 11 3) rfl (op_move rfl (ltn rfl)) rfl (by kernel_rfl) (by kernel_rfl) (by kernel_rfl) (by kernel_rfl) ⟨trivial, trivial, ⟨⟨0, rfl⟩, trivial⟩⟩ (fun _ _ _ h => h) ?_
                      refine VA.va (i := 2) (listed' := LB 11 7) rfl (op_indexAddr Try.underlying40 TI24 rfl rfl c111298 (lt_get c111298 hx111359) (add_zero_at _ _) (ltn rfl)) rfl (by kernel_rfl) (by kernel_rfl) (by kernel_rfl) (by kernel_rfl) ⟨trivial, trivial, ⟨⟨0, rfl⟩, trivial⟩⟩ (fun _ _ _ h => h) ?_
                      refine VA.va (i := 3) (listed' := LB 11 15) rfl (op_load_own (sz := 3) (o := 0) 0 (wrap64 ((wrap64 (2 * i110796)) + 1)).toNat 3 rfl rfl (get_map hx111359) TI24 rfl (fun h => absurd h (by decide)) (ltn rfl)) rfl (by kernel_rfl) (by kernel_rfl) (by kernel_rfl) (by kernel_rfl) ⟨trivial, trivial, ⟨⟨0, rfl⟩, trivial⟩⟩ (fun _ _ _ h => h) ?_
                      refine VA.va (i := 4) (listed' := LB 11 31) rfl (op_move rfl (ltn rfl)) rfl (by kernel_rfl) (by kernel_rfl) (by kernel_rfl) (by kernel_rfl) ⟨trivial, trivial, ⟨⟨0, rfl⟩, trivial⟩⟩ (fun _ _ _ h => h) ?_
                      refine VA.va (i := 5) (listed' := LB 11 63) rfl (op_move rfl (ltn rfl)) rfl (by kernel_rfl) (by kernel_rfl) (by kernel_rfl) (by kernel_rfl) ⟨trivial, trivial, ⟨⟨0, rfl⟩, trivial⟩⟩ (fun _ _ _ h => h) ?_
                      refine VA.va (i := 6) (listed' := LB 11 127) rfl (op_indexAddr Try.underlying40 TI24 rfl rfl c111360 (lt_get c111360 hx111361) (add_zero_at _ _) (ltn rfl)) rfl (by kernel_rfl) (by kernel_rfl) (by kernel_rfl) (by kernel_rfl) ⟨trivial, trivial, ⟨⟨0, rfl⟩, trivial⟩⟩ (fun _ _ _ h => h) ?_
                      refine VA.va (i := 7) (listed' := LB 11 255) rfl (op_load_own (sz := 3) (o := 0) 0 i110796.toNat 3 rfl rfl (get_map hx111361) TI24 rfl (fun h => absurd h (by decide)) (ltn rfl)) rfl (by kernel_rfl) (by kernel_rfl) (by kernel_rfl) (by kernel_rfl) ⟨trivial, trivial, ⟨⟨0, rfl⟩, trivial⟩⟩ (fun _ _ _ h => h) ?_
                      refine VA.oneC (i := 8) (listed' := LB 11 511) (by kernel_rfl) rfl (o_call0 FO26 (queue_compare.ok k x111359.f0 x111359.f1 x111359.f2 x111361.f0 x111361.f1 x111361.f2 t111362 hA111363) rfl rfl (ltn rfl) (All_of .nil)) rfl (by kernel_rfl) ?_
                      rintro _ _ _ ⟨rfl, rfl, rfl⟩
                      refine ⟨⟨trivial, trivial, ⟨⟨0, rfl⟩, trivial⟩⟩, ?_⟩
                      refine VA.va (i := 9) (listed' := LB 11 1023) rfl (op_cmp rfl rfl (congrArg some hb111364) (ltn rfl)) rfl (by kernel_rfl) (by kernel_rfl) (by kernel_rfl) (by kernel_rfl) ⟨trivial, trivial, ⟨⟨0, rfl⟩, trivial⟩⟩ (fun _ _ _ h => h) ?_
                      refine VA.va (i := 10) (listed' := LB 11 2047) rfl (op_assign rfl (ltn rfl)) rfl (by kernel_rfl) (by kernel_rfl) (by kernel_rfl) (by kernel_rfl) ⟨trivial, trivial, ⟨⟨0, rfl⟩, trivial⟩⟩ (fun _ _ _ h => h) ?_
                      refine VA.done (by kernel_rfl) ?_
                      exact VN.meet0  [0, 1] [0] trivial ⟨rfl, ⟨rfl, trivial⟩, trivial, rfl, by decide, rfl, by decide⟩
                    intro _
                    refine VC.ret ?_
                    refine VR.inl (rs := [.tmp 6]) (.bool b111364) rfl (.tmp rfl .nil) rfl ?_
                    by_cases c111365 : t111362 < 0
                    · rw [if_pos c111365] at h
                      obtain rfl : b111364 = true := hb111364.symm.trans (decide_eq_true c111365)
                      refine VL.va (op_not rfl rfl (ltn rfl)) rfl ?_
                      refine VL.done ?_
                      refine VN.then ?_
                      refine VC.cond_f rfl ?_
                      refine VC.skip ?_
                      refine VN.then ?_
                      refine VC.seq ?_
                      refine VC.region ?_
                      refine VL.va (op_move rfl (ltn rfl)) rfl ?_
                      refine VL.va (op_move rfl (ltn rfl)) rfl ?_
                      refine VL.va (op_move rfl (ltn rfl)) rfl ?_
                      replace h := Option.bind_eq_some_iff.1 h
                      obtain ⟨r111366, hA111367, h⟩ := h
                      refine VL.step1 (ope_ownd (vals := [(.slice (some ⟨g110818, 0, none⟩) l110799.length n110819), .int .i64 i110796, .int .i64 (wrap64 ((wrap64 (2 * i110796)) + 1))]) 0 rfl (ope_meth_v 0 1 MI42_Swap Try.underlying42 FO56 rfl rfl TI40 rfl (by decide) rfl rfl) (queue_waits_Swap.ok l110799 i110796 (wrap64 ((wrap64 (2 * i110796)) + 1)) (.slice (some ⟨g110818, 0, none⟩) l110799.length n110819) r111366 hA111367) (by simp) (ltn rfl)) rfl ?_
                      refine VL.done ?_
                      refine VN.then ?_
                      refine VC.region ?_
                      refine VL.va (op_move rfl (ltn rfl)) rfl ?_
                      refine VL.va (op_assign rfl (ltn rfl)) rfl ?_
                      refine VL.done ?_
                      refine VN.block ?_
                      refine VN.again [0, 1] [0] (ihl130 (wrap64 ((wrap64 (2 * i110796)) + 1)) (.slice (some ⟨g110818, 0, none⟩) l110799.length n110819) r111366 h) ⟨rfl, ⟨rfl, rfl, rfl, rfl, rfl, trivial⟩, trivial, rfl, by decide, rfl, by decide⟩
                    · rw [if_neg c111365] at h
                      obtain rfl : b111364 = false := hb111364.symm.trans (decide_eq_false c111365)
                      refine VL.va (op_not rfl rfl (ltn rfl)) rfl ?_
                      refine VL.done ?_
                      refine VN.then ?_
                      refine VC.cond_t rfl ?_
                      refine VC.exit ?_
                      refine VX.then ?_
                      refine VX.miss (by decide) ?_
                      refine VX.then ?_
                      refine VX.hit ?_
                      refine VN.then ?_
                      refine VC.seq ?_
                      refine VC.region ?_
                      refine VL.va (op_move rfl (ltn rfl)) rfl ?_
                      refine VL.va (op_move rfl (ltn rfl)) rfl ?_
                      refine VL.letter (decide (i110796 > 0)) fun b111369 hb111369 => ?_
                      refine VL.va (op_cmp rfl rfl (congrArg some hb111369) (ltn rfl)) rfl ?_
                      refine VL.va (op_assign rfl (ltn rfl)) rfl ?_
                      refine VL.done ?_
                      refine VN.then ?_
                      refine VC.ret ?_
                      refine VR.inl (rs := [.tmp 6]) (.bool b111369) rfl (.tmp rfl .nil) rfl ?_
                      refine VL.done ?_
                      refine VN.meet2 (.slice (some ⟨g110818, 0, none⟩) l110799.length n110819) l110799 [0, 1] [0] h ⟨rfl, ⟨rfl, rfl, trivial⟩, trivial, rfl, by decide, rfl, by decide⟩
                  · rw [if_neg c111360] at h; cases h
              · rw [if_neg c111298] at h; cases h
            · rw [if_neg c111296] at h; cases h
          · rw [if_neg c111295] at h
            obtain rfl : b111294 = false := hb111294.symm.trans (decide_eq_false c111295)
            refine VL.un rfl rfl (ltn rfl) ?_
            refine VL.un rfl rfl (ltn rfl) ?_
            refine VL.un rfl rfl (ltn rfl) ?_
            refine VL.un rfl rfl (ltn rfl) ?_
            refine VL.va (op_pick rfl rfl (ltn rfl)) rfl ?_
            refine VL.done ?_
            refine VN.then ?_
            refine VC.cond_f rfl ?_
            refine VC.skip ?_
            refine VN.then ?_
            refine VC.seq ?_
            refine VC.seq ?_
            refine VC.region ?_
            refine VL.va (op_move rfl (ltn rfl)) rfl ?_
            refine VL.va (op_move rfl (ltn rfl)) rfl ?_
            refine VL.va (op_move rfl (ltn rfl)) rfl ?_
            refine VL.inle (vals := [v110798, .int .i64 (wrap64 ((wrap64 (2 * i110796)) + 1)), .int .i64 i110796]) Try.func55 rfl (ope_meth_v 0 1 MI42_Less Try.underlying42 FO55 rfl rfl TI40 rfl (by decide) rfl rfl) (len rfl) (by rintro d ⟨⟩; exact ltn rfl) rfl ?_
            refine VC.seq ?_
            refine VC.region ?_
            refine VL.va (op_assign rfl (ltn rfl)) rfl ?_
            refine VL.done ?_
            refine VN.then ?_
            by_cases c111395 : 0 ≤ wrap64 ((wrap64 (2 * i110796)) + 1)
            · rw [if_pos c111395] at h
              replace h := Option.bind_eq_some_iff.1 h
              obtain ⟨x111396, hx111396, h⟩ := h
              by_cases c111397 : 0 ≤ i110796
              · rw [if_pos c111397] at h
                replace h := Option.bind_eq_some_iff.1 h
                obtain ⟨x111398, hx111398, h⟩ := h
                replace h := Option.bind_eq_some_iff.1 h
                obtain ⟨t111399, hA111400, h⟩ := h
                refine VC.letter (decide (t111399 < 0)) fun b111401 hb111401 => ?_
                refine VC.openR (m := l110799.length) 0 lenm rfl (pos_get hx111396) ?_
                rintro g110818 n110819 rfl
                refine VC.join0 (⟨17, [(6, .bool b111401)], [], [(g97710, 40, [(.slice (some ⟨g110818, 0, none⟩) l110799.length n110819)]), (g66771, 24, [.int .i64 0, .int .i64 0, .int .i64 0])], [((.slice (some ⟨g110818, 0, none⟩) l110799.length n110819), 24, 3, l110799.map enc23)]⟩) (True) ?_ ?_
                · refine VC.draw ⟨0, [], [], [], [((.slice (some ⟨g110818, 0, none⟩) l110799.length n110819), 24, 3, l110799.map enc23)]⟩ (by kernel_rfl) rfl (by kernel_rfl) (n := 11) (listed := LB 11 0) ?_
                  refine VA.va (i := 0) (listed' := LB 11 1) rfl (op_move rfl (ltn rfl)) rfl (by kernel_rfl) (by kernel_rfl) (by kernel_rfl) (by kernel_rfl) ⟨trivial, trivial, ⟨⟨0, rfl⟩, trivial⟩⟩ (fun _ _ _ h => h) ?_
                  refine VA.va (i := 1) (listed' := LB 11 3) rfl (op_move rfl (ltn rfl)) rfl (by kernel_rfl) (by kernel_rfl) (by kernel_rfl) (by kernel_rfl) ⟨trivial, trivial, ⟨⟨0, rfl⟩, trivial⟩⟩ (fun _ _ _ h => h) ?_
                  refine VA.va (i := 2) (listed' := LB 11 7) rfl (op_indexAddr Try.underlying40 TI24 rfl rfl c111395 (lt_get c111395 hx111396) (add_zero_at _ _) (ltn rfl)) rfl (by kernel_rfl) (by kernel_rfl) (by kernel_rfl) (by kernel_rfl) ⟨trivial, trivial, ⟨⟨0, rfl⟩, trivial⟩⟩ (fun _ _ _ h => h) ?_
                  refine VA.va (i := 3) (listed' := LB 11 15) rfl (op_load_own (sz := 3) (o := 0) 0 (wrap64 ((wrap64 (2 * i110796)) + 1)).toNat 3 rfl rfl (get_map hx111396) TI24 rfl (fun h => absurd h (by decide)) (ltn rfl)) rfl (by kernel_rfl) (by kernel_rfl) (by kernel_rfl) (by kernel_rfl) ⟨trivial, trivial, ⟨⟨0, rfl⟩, trivial⟩⟩ (fun _ _ _ h => h) ?_
                  refine VA.va (i := 4) (listed' := LB 11 31) rfl (op_move rfl (ltn rfl)) rfl (by kernel_rfl) (by kernel_rfl) (by kernel_rfl) (by kernel_rfl) ⟨trivial, trivial, ⟨⟨0, rfl⟩, trivial⟩⟩ (fun _ _ _ h => h) ?_
                  refine VA.va (i := 5) (listed' := LB 11 63) rfl (op_move rfl (ltn rfl)) rfl (by kernel_rfl) (by kernel_rfl) (by kernel_rfl) (by kernel_rfl) ⟨trivial, trivial, ⟨⟨0, rfl⟩, trivial⟩⟩ (fun _ _ _ h => h) ?_
                  refine VA.va (i := 6) (listed' := LB 11 127) rfl (op_indexAddr Try.underlying40 TI24 rfl rfl c111397 (lt_get c111397 hx111398) (add_zero_at _ _) (ltn rfl)) rfl (by kernel_rfl) (by kernel_rfl) (by kernel_rfl) (by kernel_rfl) ⟨trivial, trivial, ⟨⟨0, rfl⟩, trivial⟩⟩ (fun _ _ _ h => h) ?_
                  refine VA.va (i := 7) (listed' := LB 11 255) rfl (op_load_own (sz := 3) (o := 0) 0 i110796.toNat 3 rfl rfl (get_map hx111398) TI24 rfl (fun h => absurd h (by decide)) (ltn rfl)) rfl (by kernel_rfl) (by kernel_rfl) (by kernel_rfl) (by kernel_rfl) ⟨trivial, trivial, ⟨⟨0, rfl⟩, trivial⟩⟩ (fun _ _ _ h => h) ?_
                  refine VA.oneC (i := 8) (listed' := LB 11 511) (by kernel_rfl) rfl (o_call0 FO26 (queue_compare.ok k x111396.f0 x111396.f1 x111396.f2 x111398.f0 x111398.f1 x111398.f2 t111399 hA111400) rfl rfl (ltn rfl) (All_of .nil)) rfl (by kernel_rfl) ?_
                  rintro _ _ _ ⟨rfl, rfl, rfl⟩
                  refine ⟨⟨trivial, trivial, ⟨⟨0, rfl⟩, trivial⟩⟩, ?_⟩
                  refine VA.va (i := 9) (listed' := LB 11 1023) rfl (op_cmp rfl rfl (congrArg some hb111401) (ltn rfl)) rfl (by kernel_rfl) (by kernel_rfl) (by kernel_rfl) (by kernel_rfl) ⟨trivial, trivial, ⟨⟨0, rfl⟩, trivial⟩⟩ (fun _ _ _ h => h) ?_
                  refine VA.va (i := 10) (listed' := LB 11 2047) rfl (op_assign rfl (ltn rfl)) rfl (by kernel_rfl) (by kernel_rfl) (by kernel_rfl) (by kernel_rfl) ⟨trivial, trivial, ⟨⟨0, rfl⟩, trivial⟩⟩ (fun _ _ _ h => h) ?_
                  refine VA.done (by kernel_rfl) ?_
                  exact VN.meet0  [0, 1] [0] trivial ⟨rfl, ⟨rfl, trivial⟩, trivial, rfl, by decide, rfl, by decide⟩
                intro _
                refine VC.ret ?_
                refine VR.inl (rs := [.tmp 6]) (.bool b111401) rfl (.tmp rfl .nil) rfl ?_
                by_cases c111402 : t111399 < 0
                · rw [if_pos c111402] at h
                  obtain rfl : b111401 = true := hb111401.symm.trans (decide_eq_true c111402)
                  refine VL.va (op_not rfl rfl (ltn rfl)) rfl ?_
                  refine VL.done ?_
                  refine VN.then ?_
                  refine VC.cond_f rfl ?_
                  refine VC.skip ?_
                  refine VN.then ?_
                  refine VC.seq ?_
                  refine VC.region ?_
                  refine VL.va (op_move rfl (ltn rfl)) rfl ?_
                  refine VL.va (op_move rfl (ltn rfl)) rfl ?_
                  refine VL.va (op_move rfl (ltn rfl)) rfl ?_
                  replace h := Option.bind_eq_some_iff.1 h
                  obtain ⟨r111403, hA111404, h⟩ := h
                  refine VL.step1 (ope_ownd (vals := [(.slice (some ⟨g110818, 0, none⟩) l110799.length n110819), .int .i64 i110796, .int .i64 (wrap64 ((wrap64 (2 * i110796)) + 1))]) 0 rfl (ope_meth_v 0 1 MI42_Swap Try.underlying42 FO56 rfl rfl TI40 rfl (by decide) rfl rfl) (queue_waits_Swap.ok l110799 i110796 (wrap64 ((wrap64 (2 * i110796)) + 1)) (.slice (some ⟨g110818, 0, none⟩) l110799.length n110819) r111403 hA111404) (by simp) (ltn rfl)) rfl ?_
                  refine VL.done ?_
                  refine VN.then ?_
                  refine VC.region ?_
                  refine VL.va (op_move rfl (ltn rfl)) rfl ?_
                  refine VL.va (op_assign rfl (ltn rfl)) rfl ?_
                  refine VL.done ?_
                  refine VN.block ?_
                  refine VN.again [0, 1] [0] (ihl130 (wrap64 ((wrap64 (2 * i110796)) + 1)) (.slice (some ⟨g110818, 0, none⟩) l110799.length n110819) r111403 h) ⟨rfl, ⟨rfl, rfl, rfl, rfl, rfl, trivial⟩, trivial, rfl, by decide, rfl, by decide⟩
                · rw [if_neg c111402] at h
                  obtain rfl : b111401 = false := hb111401.symm.trans (decide_eq_false c111402)
                  refine VL.va (op_not rfl rfl (ltn rfl)) rfl ?_
                  refine VL.done ?_
                  refine VN.then ?_
                  refine VC.cond_t rfl ?_
                  refine VC.exit ?_
                  refine VX.then ?_
                  refine VX.miss (by decide) ?_
                  refine VX.then ?_
                  refine VX.hit ?_
                  refine VN.then ?_
                  refine VC.seq ?_
                  refine VC.region ?_
                  refine VL.va (op_move rfl (ltn rfl)) rfl ?_
                  refine VL.va (op_move rfl (ltn rfl)) rfl ?_
                  refine VL.letter (decide (i110796 > 0)) fun b111406 hb111406 => ?_
                  refine VL.va (op_cmp rfl rfl (congrArg some hb111406) (ltn rfl)) rfl ?_
                  refine VL.va (op_assign rfl (ltn rfl)) rfl ?_
                  refine VL.done ?_
                  refine VN.then ?_
                  refine VC.ret ?_
                  refine VR.inl (rs := [.tmp 6]) (.bool b111406) rfl (.tmp rfl .nil) rfl ?_
                  refine VL.done ?_
                  refine VN.meet2 (.slice (some ⟨g110818, 0, none⟩) l110799.length n110819) l110799 [0, 1] [0] h ⟨rfl, ⟨rfl, rfl, trivial⟩, trivial, rfl, by decide, rfl, by decide⟩
              · rw [if_neg c111397] at h; cases h
            · rw [if_neg c111395] at h; cases h
      clear h
      intro v111408 l111409 h
      unfold queue_Pop.j127 at h
      refine VC.seq ?_
      refine VC.region ?_
      refine VL.va (op_move rfl (ltn rfl)) rfl ?_
      refine VL.inle (vals := [.pointer (some ⟨g97710, 0, none⟩)]) Try.func57 rfl (ope_meth_p MI42_Pop Try.underlying42 FO57 rfl rfl) (len rfl) (by rintro d ⟨⟩; exact ltn rfl) rfl ?_
      refine VC.seq ?_
      refine VC.region ?_
      refine VL.va (op_assign rfl (ltn rfl)) rfl ?_
      refine VL.done ?_
      refine VN.then ?_
      refine VC.seq ?_
      refine VC.region ?_
      refine VL.va (op_move rfl (ltn rfl)) rfl ?_
      refine VL.va (op_nilCheck rfl (ltn rfl)) rfl ?_
      refine VL.va (op_load 0 1 rfl rfl TI40 rfl (by decide) (ltn rfl)) rfl ?_
      refine VL.va (op_len_own (m := l111409.length) 0 lenm Try.underlying40 rfl rfl (ltn rfl)) rfl ?_
      refine VL.va (op_ari64 rfl rfl rfl (ltn rfl)) rfl ?_
      refine VL.va (op_assign rfl (ltn rfl)) rfl ?_
      refine VL.done ?_
      refine VN.then ?_
      refine VC.seq ?_
      refine VC.region ?_
      refine VL.va (op_move rfl (ltn rfl)) rfl ?_
      refine VL.va (op_nilCheck rfl (ltn rfl)) rfl ?_
      refine VL.va (op_load 0 1 rfl rfl TI40 rfl (by decide) (ltn rfl)) rfl ?_
      refine VL.va (op_move rfl (ltn rfl)) rfl ?_
      by_cases c111418 : 0 ≤ wrap64 ((l111409.length : Int) - 1)
      · rw [if_pos c111418] at h
        replace h := Option.bind_eq_some_iff.1 h
        obtain ⟨x111419, hx111419, h⟩ := h
        refine VL.openR (m := l111409.length) 0 lenm rfl (pos_get hx111419) ?_
        rintro g111420 n111421 rfl
        refine VL.va (op_indexAddr Try.underlying40 TI24 rfl rfl c111418 (lt_get c111418 hx111419) (add_zero_at _ _) (ltn rfl)) rfl ?_
        refine VL.va (op_load_own (sz := 3) (o := 0) 0 (wrap64 ((l111409.length : Int) - 1)).toNat 3 rfl rfl (get_map hx111419) TI24 rfl (fun h => absurd h (by decide)) (ltn rfl)) rfl ?_
        refine VL.sG (o_alloc Z24 ZL24 (ltn rfl)) rfl ?_
        intro g111422
        refine VL.step1 (o_store 0 3 rfl rfl rfl TI24 (.agg (.of rfl)) rfl (len rfl)) rfl ?_
        refine VL.done ?_
        refine VN.then ?_
        refine VC.seq ?_
        refine VC.region ?_
        refine VL.va (op_move rfl (ltn rfl)) rfl ?_
        refine VL.va (op_move rfl (ltn rfl)) rfl ?_
        refine VL.va (op_nilCheck rfl (ltn rfl)) rfl ?_
        refine VL.va (op_load 1 1 rfl rfl TI40 rfl (by decide) (ltn rfl)) rfl ?_
        refine VL.va (op_move rfl (ltn rfl)) rfl ?_
        by_cases c111423 : (wrap64 ((l111409.length : Int) - 1)) ≤ (l111409.length : Int)
        · rw [if_pos c111423] at h
          refine VL.sG (o_cutOwn (m := l111409.length) (h := ((wrap64 ((l111409.length : Int) - 1)).toNat)) (es3 := List.map enc23 (l111409.take ((wrap64 ((l111409.length : Int) - 1)).toNat))) 0 lenm (List.map_take.symm) Try.underlying40 TI24 rfl rfl ⟨rfl, ⟨_, _, rfl, c111418, rfl⟩, by omega, by omega⟩ (ltn rfl)) rfl ?_
          intro v111425
          refine VL.va (op_nilCheck rfl (ltn rfl)) rfl ?_
          refine VL.step1 (o_store 1 1 rfl rfl rfl TI40 (.r 0 rfl) rfl (len rfl)) rfl ?_
          refine VL.done ?_
          refine VN.then ?_
          refine VC.seq ?_
          refine VC.region ?_
          refine VL.va (op_load 0 3 rfl rfl TI24 rfl (fun h => absurd h (by decide)) (ltn rfl)) rfl ?_
          refine VL.va (op_makeIface Try.underlying24 (fun _ h => by cases h) rfl (ltn rfl)) rfl ?_
          refine VL.va (op_assign rfl (ltn rfl)) rfl ?_
          refine VL.done ?_
          refine VN.then ?_
          refine VC.ret ?_
          refine VR.inl (rs := [.tmp 2]) (.iface 24 (.agg #[.int .i64 x111419.f0, .int .i64 x111419.f1, .int .i64 x111419.f2])) rfl (.tmp rfl .nil) rfl ?_
          refine VL.va (op_assign rfl (ltn rfl)) rfl ?_
          refine VL.done ?_
          refine VN.then ?_
          refine VC.ret ?_
          refine VR.inl (rs := [.tmp 2]) (.iface 24 (.agg #[.int .i64 x111419.f0, .int .i64 x111419.f1, .int .i64 x111419.f2])) rfl (.tmp rfl .nil) rfl ?_
          refine VL.va (op_assertOk Try.underlying24 (fun _ h => by cases h) rfl (ltn rfl)) rfl ?_
          refine VL.va (op_move rfl (ltn rfl)) rfl ?_
          refine VL.va (op_extract rfl rfl (ltn rfl)) rfl ?_
          refine VL.va (op_extract rfl rfl (ltn rfl)) rfl ?_
          refine VL.sG (o_alloc Z24 ZL24 (ltn rfl)) rfl ?_
          intro g111426
          refine VL.step1 (o_store 0 3 rfl rfl rfl TI24 (.agg (.of rfl)) rfl (len rfl)) rfl ?_
          refine VL.va (op_assign rfl (ltn rfl)) rfl ?_
          refine VL.done ?_
          refine VN.then ?_
          refine VC.join0 (⟨28, [(2, v111425), (3, .pointer (some ⟨g66771, 0, none⟩)), (4, .int .i64 0)], [], [(g66771, 24, [.int .i64 x111419.f0, .int .i64 x111419.f1, .int .i64 x111419.f2])], [(v111425, 24, 3, (l111409.take ((wrap64 ((l111409.length : Int) - 1)).toNat)).map enc23)]⟩) (True) ?_ ?_
          · refine VC.draw ⟨0, [], [], [(g111426, 24, [.int .i64 x111419.f0, .int .i64 x111419.f1, .int .i64 x111419.f2]), (g97710, 40, [v111425])], [(v111425, 24, 3, (l111409.take ((wrap64 ((l111409.length : Int) - 1)).toNat)).map enc23)]⟩ (by kernel_rfl) rfl (by kernel_rfl) (n := 5) (listed := LB 5 0) ?_
            refine VA.va (i := 0) (listed' := LB 5 1) rfl (op_load 1 1 rfl rfl TI40 rfl (by decide) (ltn rfl)) rfl (by kernel_rfl) (by kernel_rfl) (by kernel_rfl) (by kernel_rfl) ⟨trivial, ⟨⟨0, rfl⟩, ⟨2, rfl⟩, trivial⟩, ⟨⟨0, rfl⟩, trivial⟩⟩ (fun _ _ _ h => h) ?_
            refine VA.va (i := 1) (listed' := LB 5 3) rfl (op_load 0 3 rfl rfl TI24 rfl (fun h => absurd h (by decide)) (ltn rfl)) rfl (by kernel_rfl) (by kernel_rfl) (by kernel_rfl) (by kernel_rfl) ⟨trivial, ⟨⟨0, rfl⟩, ⟨2, rfl⟩, trivial⟩, ⟨⟨0, rfl⟩, trivial⟩⟩ (fun _ _ _ h => h) ?_
            refine VA.va (i := 2) (listed' := LB 5 7) rfl (op_assign rfl (ltn rfl)) rfl (by kernel_rfl) (by kernel_rfl) (by kernel_rfl) (by kernel_rfl) ⟨trivial, ⟨⟨0, rfl⟩, ⟨2, rfl⟩, trivial⟩, ⟨⟨0, rfl⟩, trivial⟩⟩ (fun _ _ _ h => h) ?_
            refine VA.one1 (i := 3) (listed' := LB 5 15) (by kernel_rfl) rfl (o_store 3 3 rfl rfl rfl TI24 (.agg (.of rfl)) rfl (len rfl)) rfl (by kernel_rfl) ⟨trivial, ⟨⟨0, rfl⟩, ⟨2, rfl⟩, trivial⟩, ⟨⟨0, rfl⟩, trivial⟩⟩ ?_
            refine VA.va (i := 4) (listed' := LB 5 31) rfl (op_assign rfl (ltn rfl)) rfl (by kernel_rfl) (by kernel_rfl) (by kernel_rfl) (by kernel_rfl) ⟨trivial, ⟨⟨0, rfl⟩, ⟨2, rfl⟩, trivial⟩, ⟨⟨0, rfl⟩, trivial⟩⟩ (fun _ _ _ h => h) ?_
            refine VA.done (by kernel_rfl) ?_
            exact VN.meet0  [3] [0] trivial ⟨rfl, ⟨rfl, rfl, rfl, trivial⟩, trivial, rfl, by decide, rfl, by decide⟩
          intro _
          refine VC.ret ?_
          simp only [Option.some.injEq, Prod.mk.injEq] at h
          obtain ⟨rfl, rfl, rfl, rfl, rfl⟩ := h
          exact VR.fn (rs := [.tmp 2, .cell 3 24, .tmp 4]) [] [(v111425, 24, 3, (l111409.take ((wrap64 ((l111409.length : Int) - 1)).toNat)).map enc23)] [0] rfl (.tmp rfl (.cell 0 rfl rfl TI24 (fun h => absurd h (by decide)) (.tmp rfl .nil))) ⟨v111425, rfl, rfl, rfl⟩ trivial rfl (by decide)
        · rw [if_neg c111423] at h; cases h
      · rw [if_neg c111418] at h; cases h

end Go.Proofs.Ythgoagnennjagaa.PQueueOrders
