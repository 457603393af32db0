/- Written by a program of this repo: what the program's functions do, each as a Lean function, shown of the loaded code; or a statement's row over that; no condition of its own. -/
import Derived.Test.YthgoagnennjagaaPQueueGoesx2
namespace Go.Proofs.Ythgoagnennjagaa.PQueueGoes
open Go Go.RowKit Go.Proofs.YthgoagnennjagaaV
set_option linter.unusedVariables false
set_option linter.unusedSimpArgs false

set_option maxHeartbeats 4000000 in
set_option maxRecDepth 100000 in
theorem queue_Pop.ok (k : Nat) (l0 : List S23) (v0 : Value) (r1 : List S23) (r2 : Int) (r3 : Int) (r4 : Int) (r5 : Int) (h : queue_Pop.f k l0 = some (r1, r2, r3, r4, r5)) :
    VCalls Try.prog 19 [v0] [.row v0 3 (l0.map enc23)] (fun v G own => ∃ w0 : Value, v = .tuple #[w0, .agg #[.int .i64 r2, .int .i64 r3, .int .i64 r4], .int .i64 r5] ∧ G = [] ∧ own = [(w0, 24, 3, r1.map enc23)]) := by
  refine VCalls.intro Try.func19 rfl (len rfl) fun E hC => ?_
  unfold queue_Pop.f at h
  refine VC.seq ?_
  refine VC.region ?_
  refine VL.va (op_assign rfl (ltn rfl)) rfl ?_
  refine VL.sG (o_alloc Z24 ZL24 (ltn rfl)) rfl ?_
  intro g1042
  refine VL.va (op_assign rfl (ltn rfl)) rfl ?_
  refine VL.done ?_
  refine VN.then ?_
  refine VC.seq ?_
  refine VC.block ?_
  refine VC.join1 (fun (q31853 : Bool) => ⟨28, [(0, v0), (2, .slice none 0 0), (3, .pointer (some ⟨g1042, 0, none⟩)), (4, .int .i64 0), (8, .bool q31853)], [.row v0 3 (l0.map enc23)], [(g1042, 24, [.int .i64 0, .int .i64 0, .int .i64 0])], []⟩) (fun (q31853 : Bool) => queue_Pop.j91 k l0 q31853 = some (r1, r2, r3, r4, r5)) ?_ ?_
  · refine VC.region ?_
    refine VL.va (op_move rfl (ltn rfl)) rfl ?_
    replace h := Option.bind_eq_some_iff.1 h
    obtain ⟨t31850, hA31851, h⟩ := h
    refine VL.sC (o_call0 FO12 (queue_Right.ok k l0 v0 t31850 hA31851) rfl rfl (ltn rfl) (All_of (.cons (List.mem_of_getElem? (i := 0) rfl) .nil))) rfl ?_
    rintro _ _ _ ⟨rfl, rfl, rfl⟩
    by_cases c31852 : t31850 = true
    · rw [if_pos c31852] at h
      obtain rfl := c31852
      refine VL.va (op_not rfl rfl (ltn rfl)) rfl ?_
      refine VL.va (op_assign rfl (ltn rfl)) rfl ?_
      refine VL.done ?_
      refine VN.meet1 false [0] [] h ⟨rfl, ⟨rfl, rfl, rfl, rfl, rfl, trivial⟩, ⟨⟨0, rfl⟩, trivial⟩, rfl, by decide, rfl, by decide⟩
    · rw [if_neg c31852] at h
      obtain rfl := Bool.eq_false_iff.2 c31852
      refine VL.va (op_not rfl rfl (ltn rfl)) rfl ?_
      refine VL.va (op_assign rfl (ltn rfl)) rfl ?_
      refine VL.done ?_
      refine VN.meet1 true [0] [] h ⟨rfl, ⟨rfl, rfl, rfl, rfl, rfl, trivial⟩, ⟨⟨0, rfl⟩, trivial⟩, rfl, by decide, rfl, by decide⟩
  clear h
  intro q31853 h
  unfold queue_Pop.j91 at h
  by_cases c31854 : q31853 = true
  · rw [if_pos c31854] at h
    obtain rfl := c31854
    refine VC.cond_t rfl ?_
    refine VC.seq ?_
    refine VC.region ?_
    refine VL.va (op_build (vals := []) (vcs := []) (cells := [.int .i64 0, .int .i64 0, .int .i64 0]) SI24 rfl .nil (by kernel_rfl) (ltn rfl)) rfl ?_
    refine VL.va (op_assign rfl (ltn rfl)) rfl ?_
    refine VL.step1 (o_store 0 3 rfl rfl rfl TI24 (.agg (.of rfl)) rfl (len rfl)) rfl ?_
    refine VL.va (op_assign rfl (ltn rfl)) rfl ?_
    refine VL.done ?_
    refine VN.then ?_
    refine VC.ret ?_
    refine VR.block ?_
    refine VR.then ?_
    simp only [Option.some.injEq, Prod.mk.injEq] at h
    obtain ⟨rfl, rfl, rfl, rfl, rfl⟩ := h
    refine VR.nilRow' 24 3 ?_
    exact VR.fn (rs := [.tmp 2, .cell 3 24, .tmp 4]) [] [((.slice none 0 0), 24, 3, ([] : List S23).map enc23)] [0] rfl (.tmp rfl (.cell 0 rfl rfl TI24 (fun h => absurd h (by decide)) (.tmp rfl .nil))) ⟨(.slice none 0 0), rfl, rfl, rfl⟩ trivial rfl (by decide)
  · rw [if_neg c31854] at h
    obtain rfl := Bool.eq_false_iff.2 c31854
    refine VC.cond_f rfl ?_
    refine VC.seq ?_
    refine VC.region ?_
    refine VL.va (op_move rfl (ltn rfl)) rfl ?_
    refine VL.va (op_len (m := l0.length) 0 lenm Try.underlying22 rfl rfl (ltn rfl)) rfl ?_
    refine VL.letter (((l0.length : Int) == 0)) fun b31856 hb31856 => ?_
    refine VL.va (op_cmp rfl rfl (congrArg some hb31856) (ltn rfl)) rfl ?_
    refine VL.va (op_assign rfl (ltn rfl)) rfl ?_
    refine VL.done ?_
    refine VN.then ?_
    by_cases c31857 : (l0.length : Int) = 0
    · rw [if_pos c31857] at h
      obtain rfl : b31856 = true := hb31856.symm.trans (beq_iff_eq.2 c31857)
      refine VC.cond_t rfl ?_
      refine VC.seq ?_
      refine VC.region ?_
      refine VL.va (op_build (vals := []) (vcs := []) (cells := [.int .i64 0, .int .i64 0, .int .i64 0]) SI24 rfl .nil (by kernel_rfl) (ltn rfl)) rfl ?_
      refine VL.va (op_assign rfl (ltn rfl)) rfl ?_
      refine VL.step1 (o_store 0 3 rfl rfl rfl TI24 (.agg (.of rfl)) rfl (len rfl)) rfl ?_
      refine VL.va (op_assign rfl (ltn rfl)) rfl ?_
      refine VL.done ?_
      refine VN.then ?_
      refine VC.ret ?_
      refine VR.block ?_
      refine VR.then ?_
      simp only [Option.some.injEq, Prod.mk.injEq] at h
      obtain ⟨rfl, rfl, rfl, rfl, rfl⟩ := h
      refine VR.nilRow' 24 3 ?_
      exact VR.fn (rs := [.tmp 2, .cell 3 24, .tmp 4]) [] [((.slice none 0 0), 24, 3, ([] : List S23).map enc23)] [0] rfl (.tmp rfl (.cell 0 rfl rfl TI24 (fun h => absurd h (by decide)) (.tmp rfl .nil))) ⟨(.slice none 0 0), rfl, rfl, rfl⟩ trivial rfl (by decide)
    · rw [if_neg c31857] at h
      obtain rfl : b31856 = false := hb31856.symm.trans (beq_eq_false_iff_ne.2 c31857)
      refine VC.cond_f rfl ?_
      refine VC.skip ?_
      refine VN.block ?_
      refine VN.then ?_
      refine VC.seq ?_
      refine VC.region ?_
      refine VL.va (op_move rfl (ltn rfl)) rfl ?_
      replace h := Option.bind_eq_some_iff.1 h
      obtain ⟨r31859, hA31860, h⟩ := h
      refine VL.sC (o_call_b0 FO22 (slices_Clone_api_Wait_api_Wait.ok l0 v0 r31859 hA31860) rfl rfl (ltn rfl) (All_of (.cons (.inl (List.mem_of_getElem? (i := 0) rfl)) .nil)) (by rintro _ _ _ ⟨_, rfl, rfl, rfl⟩; rfl)) rfl ?_
      rintro v31862 _ _ ⟨_, rfl, rfl, rfl⟩
      refine VL.sG (o_alloc Z40 ZL40 (ltn rfl)) rfl ?_
      intro g31863
      refine VL.step1 (o_store 0 1 rfl rfl rfl TI40 (.r 0 rfl) rfl (len rfl)) rfl ?_
      refine VL.done ?_
      refine VN.then ?_
      refine VC.seq ?_
      refine VC.region ?_
      refine VL.va (op_makeIface Try.underlying42 (fun _ h => by cases h) rfl (ltn rfl)) rfl ?_
      refine VL.inl (vals := [.iface 42 (.pointer (some ⟨g31863, 0, none⟩))]) (caps := []) Try.func25 FO25 rfl rfl rfl (len rfl) (ltn rfl) rfl ?_
      refine VC.seq ?_
      refine VC.region ?_
      refine VL.va (op_assign rfl (ltn rfl)) rfl ?_
      refine VL.done ?_
      refine VN.then ?_
      refine VC.seq ?_
      refine VC.region ?_
      refine VL.va (op_move rfl (ltn rfl)) rfl ?_
      refine VL.inle (vals := [v31862]) Try.func54 rfl (ope_meth_v 0 1 MI42_Len Try.underlying42 FO54 rfl rfl TI40 rfl (by decide) rfl rfl) (len rfl) (by rintro d ⟨⟩; exact ltn rfl) rfl ?_
      refine VC.seq ?_
      refine VC.region ?_
      refine VL.va (op_assign rfl (ltn rfl)) rfl ?_
      refine VL.done ?_
      refine VN.then ?_
      refine VC.seq ?_
      refine VC.region ?_
      refine VL.va (op_move rfl (ltn rfl)) rfl ?_
      refine VL.va (op_len_own (m := r31859.length) 0 lenm Try.underlying40 rfl rfl (ltn rfl)) rfl ?_
      refine VL.va (op_assign rfl (ltn rfl)) rfl ?_
      refine VL.done ?_
      refine VN.then ?_
      refine VC.ret ?_
      refine VR.inl (rs := [.tmp 2]) (.int .i64 (r31859.length : Int)) rfl (.tmp rfl .nil) rfl ?_
      refine VL.va (op_ari64 rfl rfl rfl (ltn rfl)) rfl ?_
      refine VL.va (op_assign rfl (ltn rfl)) rfl ?_
      refine VL.done ?_
      refine VN.then ?_
      refine VC.seq ?_
      refine VC.region ?_
      refine VL.va (op_move rfl (ltn rfl)) rfl ?_
      refine VL.va (op_move rfl (ltn rfl)) rfl ?_
      replace h := Option.bind_eq_some_iff.1 h
      obtain ⟨r38722, hA38723, h⟩ := h
      refine VL.step1 (ope_ownd (vals := [v31862, .int .i64 0, .int .i64 (wrap64 ((r31859.length : Int) - 1))]) 0 rfl (ope_meth_v 0 1 MI42_Swap Try.underlying42 FO56 rfl rfl TI40 rfl (by decide) rfl rfl) (queue_waits_Swap.ok r31859 0 (wrap64 ((r31859.length : Int) - 1)) v31862 r38722 hA38723) (by simp) (ltn rfl)) rfl ?_
      refine VL.done ?_
      refine VN.then ?_
      refine VC.join2 (fun (v45561 : Value) (l45562 : List S23) => ⟨15, [(0, .iface 42 (.pointer (some ⟨g31863, 0, none⟩))), (2, .nilIface)], [], [(g31863, 40, [v45561]), (g1042, 24, [.int .i64 0, .int .i64 0, .int .i64 0])], [(v45561, 24, 3, l45562.map enc23)]⟩) (fun (v45561 : Value) (l45562 : List S23) => queue_Pop.j127 k l45562 = some (r1, r2, r3, r4, r5)) ?_ ?_
      · refine VC.region ?_
        refine VL.va (op_move rfl (ltn rfl)) rfl ?_
        refine VL.va (op_move rfl (ltn rfl)) rfl ?_
        refine VL.inl (vals := [.iface 42 (.pointer (some ⟨g31863, 0, none⟩)), .int .i64 0, .int .i64 (wrap64 ((r31859.length : Int) - 1))]) (caps := []) Try.func31 FO31 rfl rfl rfl (len rfl) (ltn rfl) rfl ?_
        refine VC.seq ?_
        refine VC.region ?_
        refine VL.va (op_assign rfl (ltn rfl)) rfl ?_
        refine VL.done ?_
        refine VN.then ?_
        refine VC.seq ?_
        refine VC.region ?_
        refine VL.va (op_move rfl (ltn rfl)) rfl ?_
        refine VL.va (op_assign rfl (ltn rfl)) rfl ?_
        refine VL.done ?_
        refine VN.then ?_
        refine VC.seq ?_
        refine VC.block ?_
        refine VC.loop3 (fun (i44949 : Int) (v44951 : Value) (l44952 : List S23) => ⟨48, [(0, .iface 42 (.pointer (some ⟨g31863, 0, none⟩))), (1, .int .i64 0), (2, .int .i64 (wrap64 ((r31859.length : Int) - 1))), (6, .bool false), (7, .int .i64 i44949)], [], [(g31863, 40, [v44951]), (g1042, 24, [.int .i64 0, .int .i64 0, .int .i64 0])], [(v44951, 24, 3, l44952.map enc23)]⟩) (fun (ml130 : Nat) (i44949 : Int) (v44951 : Value) (l44952 : List S23) => queue_Pop.l130 k r31859 ml130 i44949 l44952 = some (r1, r2, r3, r4, r5)) k 0 v31862 r38722 [0, 1] [0] h ⟨rfl, ⟨rfl, rfl, rfl, rfl, rfl, trivial⟩, trivial, rfl, by decide, rfl, by decide⟩ (by intros; simp [queue_Pop.l130]) ?_
        clear h
        intro ml130 ihl130 i44949 v44951 l44952 h
        simp only [queue_Pop.l130] at h
        refine VC.block ?_
        refine VC.seq ?_
        refine VC.region ?_
        refine VL.va (op_move rfl (ltn rfl)) rfl ?_
        refine VL.va (op_ari64 rfl rfl rfl (ltn rfl)) rfl ?_
        refine VL.va (op_ari64 rfl rfl rfl (ltn rfl)) rfl ?_
        refine VL.va (op_assign rfl (ltn rfl)) rfl ?_
        refine VL.done ?_
        refine VN.then ?_
        refine VC.seq ?_
        refine VC.join3 (fun (q45414 : Bool) (q45415 : Bool) (q45416 : Bool) => ⟨48, [(0, .iface 42 (.pointer (some ⟨g31863, 0, none⟩))), (1, .int .i64 0), (2, .int .i64 (wrap64 ((r31859.length : Int) - 1))), (6, .bool false), (7, .int .i64 i44949), (8, .int .i64 (wrap64 ((wrap64 (2 * i44949)) + 1))), (12, .int .i64 i44949), (13, .int .i64 (wrap64 (2 * i44949))), (14, .int .i64 (wrap64 ((wrap64 (2 * i44949)) + 1))), (15, .int .i64 (wrap64 ((wrap64 (2 * i44949)) + 1))), (16, .int .i64 (wrap64 ((r31859.length : Int) - 1))), (17, .bool q45414), (18, .bool q45415), (21, .bool q45416)], [], [(g31863, 40, [v44951]), (g1042, 24, [.int .i64 0, .int .i64 0, .int .i64 0])], [(v44951, 24, 3, l44952.map enc23)]⟩) (fun (q45414 : Bool) (q45415 : Bool) (q45416 : Bool) => queue_Pop.j131 k (queue_Pop.l130 k r31859 ml130) i44949 l44952 r31859 q45414 q45415 q45416 = some (r1, r2, r3, r4, r5)) ?_ ?_
        · refine VC.region ?_
          refine VL.va (op_move rfl (ltn rfl)) rfl ?_
          refine VL.va (op_move rfl (ltn rfl)) rfl ?_
          refine VL.letter (decide ((wrap64 ((wrap64 (2 * i44949)) + 1)) ≥ (wrap64 ((r31859.length : Int) - 1)))) fun b45411 hb45411 => ?_
          refine VL.va (op_cmp rfl rfl (congrArg some hb45411) (ltn rfl)) rfl ?_
          refine VL.va (op_move rfl (ltn rfl)) rfl ?_
          by_cases c45412 : (wrap64 ((wrap64 (2 * i44949)) + 1)) ≥ (wrap64 ((r31859.length : Int) - 1))
          · rw [if_pos c45412] at h
            obtain rfl : b45411 = true := hb45411.symm.trans (decide_eq_true c45412)
            refine VL.un rfl rfl (ltn rfl) ?_
            refine VL.un rfl rfl (ltn rfl) ?_
            refine VL.va (op_pick rfl rfl (ltn rfl)) rfl ?_
            refine VL.done ?_
            refine VN.meet3 true true true [0, 1] [0] h ⟨rfl, ⟨rfl, rfl, rfl, rfl, rfl, rfl, rfl, rfl, rfl, rfl, rfl, rfl, rfl, rfl, trivial⟩, trivial, rfl, by decide, rfl, by decide⟩
          · rw [if_neg c45412] at h
            obtain rfl : b45411 = false := hb45411.symm.trans (decide_eq_false c45412)
            refine VL.va (op_move rfl (ltn rfl)) rfl ?_
            refine VL.letter (decide ((wrap64 ((wrap64 (2 * i44949)) + 1)) < 0)) fun b45413 hb45413 => ?_
            refine VL.va (op_cmp rfl rfl (congrArg some hb45413) (ltn rfl)) rfl ?_
            refine VL.va (op_pick rfl rfl (ltn rfl)) rfl ?_
            refine VL.done ?_
            subst hb45413
            refine VN.meet3 false false (decide ((wrap64 ((wrap64 (2 * i44949)) + 1)) < 0)) [0, 1] [0] h ⟨rfl, ⟨rfl, rfl, rfl, rfl, rfl, rfl, rfl, rfl, rfl, rfl, rfl, rfl, rfl, rfl, trivial⟩, trivial, rfl, by decide, rfl, by decide⟩
        clear h
        intro q45414 q45415 q45416 h
        unfold queue_Pop.j131 at h
        by_cases c45417 : q45416 = true
        · rw [if_pos c45417] at h
          obtain rfl := c45417
          refine VC.cond_t rfl ?_
          refine VC.exit ?_
          refine VX.then ?_
          refine VX.miss (by decide) ?_
          refine VX.then ?_
          refine VX.hit ?_
          refine VN.then ?_
          refine VC.seq ?_
          refine VC.region ?_
          refine VL.va (op_move rfl (ltn rfl)) rfl ?_
          refine VL.va (op_move rfl (ltn rfl)) rfl ?_
          refine VL.letter (decide (i44949 > 0)) fun b45418 hb45418 => ?_
          refine VL.va (op_cmp rfl rfl (congrArg some hb45418) (ltn rfl)) rfl ?_
          refine VL.va (op_assign rfl (ltn rfl)) rfl ?_
          refine VL.done ?_
          refine VN.then ?_
          refine VC.ret ?_
          refine VR.inl (rs := [.tmp 6]) (.bool b45418) rfl (.tmp rfl .nil) rfl ?_
          refine VL.done ?_
          refine VN.meet2 v44951 l44952 [0, 1] [0] h ⟨rfl, ⟨rfl, rfl, trivial⟩, trivial, rfl, by decide, rfl, by decide⟩
        · rw [if_neg c45417] at h
          obtain rfl := Bool.eq_false_iff.2 c45417
          refine VC.cond_f rfl ?_
          refine VC.skip ?_
          refine VN.then ?_
          refine VC.seq ?_
          refine VC.region ?_
          refine VL.va (op_move rfl (ltn rfl)) rfl ?_
          refine VL.va (op_assign rfl (ltn rfl)) rfl ?_
          refine VL.done ?_
          refine VN.then ?_
          refine VC.seq ?_
          refine VC.seq ?_
          refine VC.region ?_
          refine VL.va (op_move rfl (ltn rfl)) rfl ?_
          refine VL.va (op_ari64 rfl rfl rfl (ltn rfl)) rfl ?_
          refine VL.va (op_assign rfl (ltn rfl)) rfl ?_
          refine VL.done ?_
          refine VN.then ?_
          refine VC.seq ?_
          refine VC.region ?_
          refine VL.va (op_move rfl (ltn rfl)) rfl ?_
          refine VL.va (op_move rfl (ltn rfl)) rfl ?_
          refine VL.letter (decide ((wrap64 ((wrap64 ((wrap64 (2 * i44949)) + 1)) + 1)) < (wrap64 ((r31859.length : Int) - 1)))) fun b45447 hb45447 => ?_
          refine VL.va (op_cmp rfl rfl (congrArg some hb45447) (ltn rfl)) rfl ?_
          refine VL.va (op_move rfl (ltn rfl)) rfl ?_
          by_cases c45448 : (wrap64 ((wrap64 ((wrap64 (2 * i44949)) + 1)) + 1)) < (wrap64 ((r31859.length : Int) - 1))
          · rw [if_pos c45448] at h
            obtain rfl : b45447 = true := hb45447.symm.trans (decide_eq_true c45448)
            refine VL.va (op_move rfl (ltn rfl)) rfl ?_
            refine VL.va (op_move rfl (ltn rfl)) rfl ?_
            refine VL.va (op_move rfl (ltn rfl)) rfl ?_
            refine VL.inle (vals := [v44951, .int .i64 (wrap64 ((wrap64 ((wrap64 (2 * i44949)) + 1)) + 1)), .int .i64 (wrap64 ((wrap64 (2 * i44949)) + 1))]) Try.func55 rfl (ope_meth_v 0 1 MI42_Less Try.underlying42 FO55 rfl rfl TI40 rfl (by decide) rfl rfl) (len rfl) (by rintro d ⟨⟩; exact ltn rfl) rfl ?_
            refine VC.seq ?_
            refine VC.region ?_
            refine VL.va (op_assign rfl (ltn rfl)) rfl ?_
            refine VL.done ?_
            refine VN.then ?_
            by_cases c45449 : 0 ≤ wrap64 ((wrap64 ((wrap64 (2 * i44949)) + 1)) + 1)
            · rw [if_pos c45449] at h
              replace h := Option.bind_eq_some_iff.1 h
              obtain ⟨x45450, hx45450, h⟩ := h
              by_cases c45451 : 0 ≤ wrap64 ((wrap64 (2 * i44949)) + 1)
              · rw [if_pos c45451] at h
                replace h := Option.bind_eq_some_iff.1 h
                obtain ⟨x45452, hx45452, h⟩ := h
                replace h := Option.bind_eq_some_iff.1 h
                obtain ⟨t45453, hA45454, h⟩ := h
                refine VC.letter (decide (t45453 < 0)) fun b45455 hb45455 => ?_
                refine VC.openR (m := l44952.length) 0 lenm rfl (pos_get hx45450) ?_
                rintro g44971 n44972 rfl
                refine VC.join0 (⟨17, [(6, .bool b45455)], [], [(g31863, 40, [(.slice (some ⟨g44971, 0, none⟩) l44952.length n44972)]), (g1042, 24, [.int .i64 0, .int .i64 0, .int .i64 0])], [((.slice (some ⟨g44971, 0, none⟩) l44952.length n44972), 24, 3, l44952.map enc23)]⟩) (True) ?_ ?_
                · refine VC.draw ⟨0, [], [], [], [((.slice (some ⟨g44971, 0, none⟩) l44952.length n44972), 24, 3, l44952.map enc23)]⟩ (by kernel_rfl) rfl (by kernel_rfl) (n := 11) (listed := LB 11 0) ?_
                  refine VA.va (i := 0) (listed' := LB 11 1) rfl (op_move rfl (ltn rfl)) rfl (by kernel_rfl) (by kernel_rfl) (by kernel_rfl) (by kernel_rfl) ⟨trivial, trivial, ⟨⟨0, rfl⟩, trivial⟩⟩ (fun _ _ _ h => h) ?_
                  refine VA.va (i := 1) (listed' := LB 11 3) rfl (op_move rfl (ltn rfl)) rfl (by kernel_rfl) (by kernel_rfl) (by kernel_rfl) (by kernel_rfl) ⟨trivial, trivial, ⟨⟨0, rfl⟩, trivial⟩⟩ (fun _ _ _ h => h) ?_
                  refine VA.va (i := 2) (listed' := LB 11 7) rfl (op_indexAddr Try.underlying40 TI24 rfl rfl c45449 (lt_get c45449 hx45450) (add_zero_at _ _) (ltn rfl)) rfl (by kernel_rfl) (by kernel_rfl) (by kernel_rfl) (by kernel_rfl) ⟨trivial, trivial, ⟨⟨0, rfl⟩, trivial⟩⟩ (fun _ _ _ h => h) ?_
                  refine VA.va (i := 3) (listed' := LB 11 15) rfl (op_load_own (sz := 3) (o := 0) 0 (wrap64 ((wrap64 ((wrap64 (2 * i44949)) + 1)) + 1)).toNat 3 rfl rfl (get_map hx45450) TI24 rfl (fun h => absurd h (by decide)) (ltn rfl)) rfl (by kernel_rfl) (by kernel_rfl) (by kernel_rfl) (by kernel_rfl) ⟨trivial, trivial, ⟨⟨0, rfl⟩, trivial⟩⟩ (fun _ _ _ h => h) ?_
                  refine VA.va (i := 4) (listed' := LB 11 31) rfl (op_move rfl (ltn rfl)) rfl (by kernel_rfl) (by kernel_rfl) (by kernel_rfl) (by kernel_rfl) ⟨trivial, trivial, ⟨⟨0, rfl⟩, trivial⟩⟩ (fun _ _ _ h => h) ?_
                  refine VA.va (i := 5) (listed' := LB 11 63) rfl (op_move rfl (ltn rfl)) rfl (by kernel_rfl) (by kernel_rfl) (by kernel_rfl) (by kernel_rfl) ⟨trivial, trivial, ⟨⟨0, rfl⟩, trivial⟩⟩ (fun _ _ _ h => h) ?_
                  refine VA.va (i := 6) (listed' := LB 11 127) rfl (op_indexAddr Try.underlying40 TI24 rfl rfl c45451 (lt_get c45451 hx45452) (add_zero_at _ _) (ltn rfl)) rfl (by kernel_rfl) (by kernel_rfl) (by kernel_rfl) (by kernel_rfl) ⟨trivial, trivial, ⟨⟨0, rfl⟩, trivial⟩⟩ (fun _ _ _ h => h) ?_
                  refine VA.va (i := 7) (listed' := LB 11 255) rfl (op_load_own (sz := 3) (o := 0) 0 (wrap64 ((wrap64 (2 * i44949)) + 1)).toNat 3 rfl rfl (get_map hx45452) TI24 rfl (fun h => absurd h (by decide)) (ltn rfl)) rfl (by kernel_rfl) (by kernel_rfl) (by kernel_rfl) (by kernel_rfl) ⟨trivial, trivial, ⟨⟨0, rfl⟩, trivial⟩⟩ (fun _ _ _ h => h) ?_
                  refine VA.oneC (i := 8) (listed' := LB 11 511) (by kernel_rfl) rfl (o_call0 FO26 (queue_compare.ok k x45450.f0 x45450.f1 x45450.f2 x45452.f0 x45452.f1 x45452.f2 t45453 hA45454) rfl rfl (ltn rfl) (All_of .nil)) rfl (by kernel_rfl) ?_
                  rintro _ _ _ ⟨rfl, rfl, rfl⟩
                  refine ⟨⟨trivial, trivial, ⟨⟨0, rfl⟩, trivial⟩⟩, ?_⟩
                  refine VA.va (i := 9) (listed' := LB 11 1023) rfl (op_cmp rfl rfl (congrArg some hb45455) (ltn rfl)) rfl (by kernel_rfl) (by kernel_rfl) (by kernel_rfl) (by kernel_rfl) ⟨trivial, trivial, ⟨⟨0, rfl⟩, trivial⟩⟩ (fun _ _ _ h => h) ?_
                  refine VA.va (i := 10) (listed' := LB 11 2047) rfl (op_assign rfl (ltn rfl)) rfl (by kernel_rfl) (by kernel_rfl) (by kernel_rfl) (by kernel_rfl) ⟨trivial, trivial, ⟨⟨0, rfl⟩, trivial⟩⟩ (fun _ _ _ h => h) ?_
                  refine VA.done (by kernel_rfl) ?_
                  exact VN.meet0  [0, 1] [0] trivial ⟨rfl, ⟨rfl, trivial⟩, trivial, rfl, by decide, rfl, by decide⟩
                intro _
                refine VC.ret ?_
                refine VR.inl (rs := [.tmp 6]) (.bool b45455) rfl (.tmp rfl .nil) rfl ?_
                refine VL.va (op_pick rfl rfl (ltn rfl)) rfl ?_
                refine VL.done ?_
                refine VN.then ?_
                by_cases c45456 : t45453 < 0
                · rw [if_pos c45456] at h
                  obtain rfl : b45455 = true := hb45455.symm.trans (decide_eq_true c45456)
                  refine VC.cond_t rfl ?_
                  refine VC.region ?_
                  refine VL.va (op_move rfl (ltn rfl)) rfl ?_
                  refine VL.va (op_assign rfl (ltn rfl)) rfl ?_
                  refine VL.done ?_
                  refine VN.then ?_
                  refine VC.seq ?_
                  refine VC.seq ?_
                  refine VC.region ?_
                  refine VL.va (op_move rfl (ltn rfl)) rfl ?_
                  refine VL.va (op_move rfl (ltn rfl)) rfl ?_
                  refine VL.va (op_move rfl (ltn rfl)) rfl ?_
                  refine VL.inle (vals := [(.slice (some ⟨g44971, 0, none⟩) l44952.length n44972), .int .i64 (wrap64 ((wrap64 ((wrap64 (2 * i44949)) + 1)) + 1)), .int .i64 i44949]) Try.func55 rfl (ope_meth_v 0 1 MI42_Less Try.underlying42 FO55 rfl rfl TI40 rfl (by decide) rfl rfl) (len rfl) (by rintro d ⟨⟩; exact ltn rfl) rfl ?_
                  refine VC.seq ?_
                  refine VC.region ?_
                  refine VL.va (op_assign rfl (ltn rfl)) rfl ?_
                  refine VL.done ?_
                  refine VN.then ?_
                  replace h := Option.bind_eq_some_iff.1 h
                  obtain ⟨x45479, hx45479, h⟩ := h
                  by_cases c45480 : 0 ≤ i44949
                  · rw [if_pos c45480] at h
                    replace h := Option.bind_eq_some_iff.1 h
                    obtain ⟨x45481, hx45481, h⟩ := h
                    replace h := Option.bind_eq_some_iff.1 h
                    obtain ⟨t45482, hA45483, h⟩ := h
                    refine VC.letter (decide (t45482 < 0)) fun b45484 hb45484 => ?_
                    refine VC.join0 (⟨17, [(6, .bool b45484)], [], [(g31863, 40, [(.slice (some ⟨g44971, 0, none⟩) l44952.length n44972)]), (g1042, 24, [.int .i64 0, .int .i64 0, .int .i64 0])], [((.slice (some ⟨g44971, 0, none⟩) l44952.length n44972), 24, 3, l44952.map enc23)]⟩) (True) ?_ ?_
                    · refine VC.draw ⟨0, [], [], [], [((.slice (some ⟨g44971, 0, none⟩) l44952.length n44972), 24, 3, l44952.map enc23)]⟩ (by kernel_rfl) rfl (by kernel_rfl) (n := 11) (listed := LB 11 0) ?_
                      refine VA.va (i := 0) (listed' := LB 11 1) rfl (op_move rfl (ltn rfl)) rfl (by kernel_rfl) (by kernel_rfl) (by kernel_rfl) (by kernel_rfl) ⟨trivial, trivial, ⟨⟨0, rfl⟩, trivial⟩⟩ (fun _ _ _ h => h) ?_
                      refine VA.va (i := 1) (listed' := LB 11 3) rfl (op_move rfl (ltn rfl)) rfl (by kernel_rfl) (by kernel_rfl) (by kernel_rfl) (by kernel_rfl) ⟨trivial, trivial, ⟨⟨0, rfl⟩, trivial⟩⟩ (fun _ _ _ h => h) ?_
                      refine VA.va (i := 2) (listed' := LB 11 7) rfl (op_indexAddr Try.underlying40 TI24 rfl rfl c45449 (lt_get c45449 hx45479) (add_zero_at _ _) (ltn rfl)) rfl (by kernel_rfl) (by kernel_rfl) (by kernel_rfl) (by kernel_rfl) ⟨trivial, trivial, ⟨⟨0, rfl⟩, trivial⟩⟩ (fun _ _ _ h => h) ?_
                      refine VA.va (i := 3) (listed' := LB 11 15) rfl (op_load_own (sz := 3) (o := 0) 0 (wrap64 ((wrap64 ((wrap64 (2 * i44949)) + 1)) + 1)).toNat 3 rfl rfl (get_map hx45479) TI24 rfl (fun h => absurd h (by decide)) (ltn rfl)) rfl (by kernel_rfl) (by kernel_rfl) (by kernel_rfl) (by kernel_rfl) ⟨trivial, trivial, ⟨⟨0, rfl⟩, trivial⟩⟩ (fun _ _ _ h => h) ?_
                      refine VA.va (i := 4) (listed' := LB 11 31) rfl (op_move rfl (ltn rfl)) rfl (by kernel_rfl) (by kernel_rfl) (by kernel_rfl) (by kernel_rfl) ⟨trivial, trivial, ⟨⟨0, rfl⟩, trivial⟩⟩ (fun _ _ _ h => h) ?_
                      refine VA.va (i := 5) (listed' := LB 11 63) rfl (op_move rfl (ltn rfl)) rfl (by kernel_rfl) (by kernel_rfl) (by kernel_rfl) (by kernel_rfl) ⟨trivial, trivial, ⟨⟨0, rfl⟩, trivial⟩⟩ (fun _ _ _ h => h) ?_
                      refine VA.va (i := 6) (listed' := LB 11 127) rfl (op_indexAddr Try.underlying40 TI24 rfl rfl c45480 (lt_get c45480 hx45481) (add_zero_at _ _) (ltn rfl)) rfl (by kernel_rfl) (by kernel_rfl) (by kernel_rfl) (by kernel_rfl) ⟨trivial, trivial, ⟨⟨0, rfl⟩, trivial⟩⟩ (fun _ _ _ h => h) ?_
                      refine VA.va (i := 7) (listed' := LB 11 255) rfl (op_load_own (sz := 3) (o := 0) 0 i44949.toNat 3 rfl rfl (get_map hx45481) TI24 rfl (fun h => absurd h (by decide)) (ltn rfl)) rfl (by kernel_rfl) (by kernel_rfl) (by kernel_rfl) (by kernel_rfl) ⟨trivial, trivial, ⟨⟨0, rfl⟩, trivial⟩⟩ (fun _ _ _ h => h) ?_
                      refine VA.oneC (i := 8) (listed' := LB 11 511) (by kernel_rfl) rfl (o_call0 FO26 (queue_compare.ok k x45479.f0 x45479.f1 x45479.f2 x45481.f0 x45481.f1 x45481.f2 t45482 hA45483) rfl rfl (ltn rfl) (All_of .nil)) rfl (by kernel_rfl) ?_
                      rintro _ _ _ ⟨rfl, rfl, rfl⟩
                      refine ⟨⟨trivial, trivial, ⟨⟨0, rfl⟩, trivial⟩⟩, ?_⟩
                      refine VA.va (i := 9) (listed' := LB 11 1023) rfl (op_cmp rfl rfl (congrArg some hb45484) (ltn rfl)) rfl (by kernel_rfl) (by kernel_rfl) (by kernel_rfl) (by kernel_rfl) ⟨trivial, trivial, ⟨⟨0, rfl⟩, trivial⟩⟩ (fun _ _ _ h => h) ?_
                      refine VA.va (i := 10) (listed' := LB 11 2047) rfl (op_assign rfl (ltn rfl)) rfl (by kernel_rfl) (by kernel_rfl) (by kernel_rfl) (by kernel_rfl) ⟨trivial, trivial, ⟨⟨0, rfl⟩, trivial⟩⟩ (fun _ _ _ h => h) ?_
                      refine VA.done (by kernel_rfl) ?_
                      exact VN.meet0  [0, 1] [0] trivial ⟨rfl, ⟨rfl, trivial⟩, trivial, rfl, by decide, rfl, by decide⟩
                    intro _
                    refine VC.ret ?_
                    refine VR.inl (rs := [.tmp 6]) (.bool b45484) rfl (.tmp rfl .nil) rfl ?_
                    by_cases c45485 : t45482 < 0
                    · rw [if_pos c45485] at h
                      obtain rfl : b45484 = true := hb45484.symm.trans (decide_eq_true c45485)
                      refine VL.va (op_not rfl rfl (ltn rfl)) rfl ?_
                      refine VL.done ?_
                      refine VN.then ?_
                      refine VC.cond_f rfl ?_
                      refine VC.skip ?_
                      refine VN.then ?_
                      refine VC.seq ?_
                      refine VC.region ?_
                      refine VL.va (op_move rfl (ltn rfl)) rfl ?_
                      refine VL.va (op_move rfl (ltn rfl)) rfl ?_
                      refine VL.va (op_move rfl (ltn rfl)) rfl ?_
                      replace h := Option.bind_eq_some_iff.1 h
                      obtain ⟨r45486, hA45487, h⟩ := h
                      refine VL.step1 (ope_ownd (vals := [(.slice (some ⟨g44971, 0, none⟩) l44952.length n44972), .int .i64 i44949, .int .i64 (wrap64 ((wrap64 ((wrap64 (2 * i44949)) + 1)) + 1))]) 0 rfl (ope_meth_v 0 1 MI42_Swap Try.underlying42 FO56 rfl rfl TI40 rfl (by decide) rfl rfl) (queue_waits_Swap.ok l44952 i44949 (wrap64 ((wrap64 ((wrap64 (2 * i44949)) + 1)) + 1)) (.slice (some ⟨g44971, 0, none⟩) l44952.length n44972) r45486 hA45487) (by simp) (ltn rfl)) rfl ?_
                      refine VL.done ?_
                      refine VN.then ?_
                      refine VC.region ?_
                      refine VL.va (op_move rfl (ltn rfl)) rfl ?_
                      refine VL.va (op_assign rfl (ltn rfl)) rfl ?_
                      refine VL.done ?_
                      refine VN.block ?_
                      refine VN.again [0, 1] [0] (ihl130 (wrap64 ((wrap64 ((wrap64 (2 * i44949)) + 1)) + 1)) (.slice (some ⟨g44971, 0, none⟩) l44952.length n44972) r45486 h) ⟨rfl, ⟨rfl, rfl, rfl, rfl, rfl, trivial⟩, trivial, rfl, by decide, rfl, by decide⟩
                    · rw [if_neg c45485] at h
                      obtain rfl : b45484 = false := hb45484.symm.trans (decide_eq_false c45485)
                      refine VL.va (op_not rfl rfl (ltn rfl)) rfl ?_
                      refine VL.done ?_
                      refine VN.then ?_
                      refine VC.cond_t rfl ?_
                      refine VC.exit ?_
                      refine VX.then ?_
                      refine VX.miss (by decide) ?_
                      refine VX.then ?_
                      refine VX.hit ?_
                      refine VN.then ?_
                      refine VC.seq ?_
                      refine VC.region ?_
                      refine VL.va (op_move rfl (ltn rfl)) rfl ?_
                      refine VL.va (op_move rfl (ltn rfl)) rfl ?_
                      refine VL.letter (decide (i44949 > 0)) fun b45489 hb45489 => ?_
                      refine VL.va (op_cmp rfl rfl (congrArg some hb45489) (ltn rfl)) rfl ?_
                      refine VL.va (op_assign rfl (ltn rfl)) rfl ?_
                      refine VL.done ?_
                      refine VN.then ?_
                      refine VC.ret ?_
                      refine VR.inl (rs := [.tmp 6]) (.bool b45489) rfl (.tmp rfl .nil) rfl ?_
                      refine VL.done ?_
                      refine VN.meet2 (.slice (some ⟨g44971, 0, none⟩) l44952.length n44972) l44952 [0, 1] [0] h ⟨rfl, ⟨rfl, rfl, trivial⟩, trivial, rfl, by decide, rfl, by decide⟩
                  · rw [if_neg c45480] at h; cases h
                · rw [if_neg c45456] at h
                  obtain rfl : b45455 = false := hb45455.symm.trans (decide_eq_false c45456)
                  refine VC.cond_f rfl ?_
                  refine VC.skip ?_
                  refine VN.then ?_
                  refine VC.seq ?_
                  refine VC.seq ?_
                  refine VC.region ?_
                  refine VL.va (op_move rfl (ltn rfl)) rfl ?_
                  refine VL.va (op_move rfl (ltn rfl)) rfl ?_
                  refine VL.va (op_move rfl (ltn rfl)) rfl ?_
                  refine VL.inle (vals := [(.slice (some ⟨g44971, 0, none⟩) l44952.length n44972), .int .i64 (wrap64 ((wrap64 (2 * i44949)) + 1)), .int .i64 i44949]) Try.func55 rfl (ope_meth_v 0 1 MI42_Less Try.underlying42 FO55 rfl rfl TI40 rfl (by decide) rfl rfl) (len rfl) (by rintro d ⟨⟩; exact ltn rfl) rfl ?_
                  refine VC.seq ?_
                  refine VC.region ?_
                  refine VL.va (op_assign rfl (ltn rfl)) rfl ?_
                  refine VL.done ?_
                  refine VN.then ?_
                  replace h := Option.bind_eq_some_iff.1 h
                  obtain ⟨x45512, hx45512, h⟩ := h
                  by_cases c45513 : 0 ≤ i44949
                  · rw [if_pos c45513] at h
                    replace h := Option.bind_eq_some_iff.1 h
                    obtain ⟨x45514, hx45514, h⟩ := h
                    replace h := Option.bind_eq_some_iff.1 h
                    obtain ⟨t45515, hA45516, h⟩ := h
                    refine VC.letter (decide (t45515 < 0)) fun b45517 hb45517 => ?_
                    refine VC.join0 (⟨17, [(6, .bool b45517)], [], [(g31863, 40, [(.slice (some ⟨g44971, 0, none⟩) l44952.length n44972)]), (g1042, 24, [.int .i64 0, .int .i64 0, .int .i64 0])], [((.slice (some ⟨g44971, 0, none⟩) l44952.length n44972), 24, 3, l44952.map enc23)]⟩) (True) ?_ ?_
                    · refine VC.draw ⟨0, [], [], [], [((.slice (some ⟨g44971, 0, none⟩) l44952.length n44972), 24, 3, l44952.map enc23)]⟩ (by kernel_rfl) rfl (by kernel_rfl) (n := 11) (listed := LB 11 0) ?_
                      refine VA.va (i := 0) (listed' := LB 11 1) rfl (op_move rfl (ltn rfl)) rfl (by kernel_rfl) (by kernel_rfl) (by kernel_rfl) (by kernel_rfl) ⟨trivial, trivial, ⟨⟨0, rfl⟩, trivial⟩⟩ (fun _ _ _ h => h) ?_
                      refine VA.va (i := 1) (listed' := LB 11 3) rfl (op_move rfl (ltn rfl)) rfl (by kernel_rfl) (by kernel_rfl) (by kernel_rfl) (by kernel_rfl) ⟨trivial, trivial, ⟨⟨0, rfl⟩, trivial⟩⟩ (fun _ _ _ h => h) ?_
                      refine VA.va (i := 2) (listed' := LB 11 7) rfl (op_indexAddr Try.underlying40 TI24 rfl rfl c45451 (lt_get c45451 hx45512) (add_zero_at _ _) (ltn rfl)) rfl (by kernel_rfl) (by kernel_rfl) (by kernel_rfl) (by kernel_rfl) ⟨trivial, trivial, ⟨⟨0, rfl⟩, trivial⟩⟩ (fun _ _ _ h => h) ?_
                      refine VA.va (i := 3) (listed' := LB 11 15) rfl (op_load_own (sz := 3) (o := 0) 0 (wrap64 ((wrap64 (2 * i44949)) + 1)).toNat 3 rfl rfl (get_map hx45512) TI24 rfl (fun h => absurd h (by decide)) (ltn rfl)) rfl (by kernel_rfl) (by kernel_rfl) (by kernel_rfl) (by kernel_rfl) ⟨trivial, trivial, ⟨⟨0, rfl⟩, trivial⟩⟩ (fun _ _ _ h => h) ?_
                      refine VA.va (i := 4) (listed' := LB 11 31) rfl (op_move rfl (ltn rfl)) rfl (by kernel_rfl) (by kernel_rfl) (by kernel_rfl) (by kernel_rfl) ⟨trivial, trivial, ⟨⟨0, rfl⟩, trivial⟩⟩ (fun _ _ _ h => h) ?_
                      refine VA.va (i := 5) (listed' := LB 11 63) rfl (op_move rfl (ltn rfl)) rfl (by kernel_rfl) (by kernel_rfl) (by kernel_rfl) (by kernel_rfl) ⟨trivial, trivial, ⟨⟨0, rfl⟩, trivial⟩⟩ (fun _ _ _ h => h) ?_
                      refine VA.va (i := 6) (listed' := LB 11 127) rfl (op_indexAddr Try.underlying40 TI24 rfl rfl c45513 (lt_get c45513 hx45514) (add_zero_at _ _) (ltn rfl)) rfl (by kernel_rfl) (by kernel_rfl) (by kernel_rfl) (by kernel_rfl) ⟨trivial, trivial, ⟨⟨0, rfl⟩, trivial⟩⟩ (fun _ _ _ h => h) ?_
                      refine VA.va (i := 7) (listed' := LB 11 255) rfl (op_load_own (sz := 3) (o := 0) 0 i44949.toNat 3 rfl rfl (get_map hx45514) TI24 rfl (fun h => absurd h (by decide)) (ltn rfl)) rfl (by kernel_rfl) (by kernel_rfl) (by kernel_rfl) (by kernel_rfl) ⟨trivial, trivial, ⟨⟨0, rfl⟩, trivial⟩⟩ (fun _ _ _ h => h) ?_
                      refine VA.oneC (i := 8) (listed' := LB 11 511) (by kernel_rfl) rfl (o_call0 FO26 (queue_compare.ok k x45512.f0 x45512.f1 x45512.f2 x45514.f0 x45514.f1 x45514.f2 t45515 hA45516) rfl rfl (ltn rfl) (All_of .nil)) rfl (by kernel_rfl) ?_
                      rintro _ _ _ ⟨rfl, rfl, rfl⟩
                      refine ⟨⟨trivial, trivial, ⟨⟨0, rfl⟩, trivial⟩⟩, ?_⟩
                      refine VA.va (i := 9) (listed' := LB 11 1023) rfl (op_cmp rfl rfl (congrArg some hb45517) (ltn rfl)) rfl (by kernel_rfl) (by kernel_rfl) (by kernel_rfl) (by kernel_rfl) ⟨trivial, trivial, ⟨⟨0, rfl⟩, trivial⟩⟩ (fun _ _ _ h => h) ?_
                      refine VA.va (i := 10) (listed' := LB 11 2047) rfl (op_assign rfl (ltn rfl)) rfl (by kernel_rfl) (by kernel_rfl) (by kernel_rfl) (by kernel_rfl) ⟨trivial, trivial, ⟨⟨0, rfl⟩, trivial⟩⟩ (fun _ _ _ h => h) ?_
                      refine VA.done (by kernel_rfl) ?_
                      exact VN.meet0  [0, 1] [0] trivial ⟨rfl, ⟨rfl, trivial⟩, trivial, rfl, by decide, rfl, by decide⟩
                    intro _
                    refine VC.ret ?_
                    refine VR.inl (rs := [.tmp 6]) (.bool b45517) rfl (.tmp rfl .nil) rfl ?_
                    by_cases c45518 : t45515 < 0
                    · rw [if_pos c45518] at h
                      obtain rfl : b45517 = true := hb45517.symm.trans (decide_eq_true c45518)
                      refine VL.va (op_not rfl rfl (ltn rfl)) rfl ?_
                      refine VL.done ?_
                      refine VN.then ?_
                      refine VC.cond_f rfl ?_
                      refine VC.skip ?_
                      refine VN.then ?_
                      refine VC.seq ?_
                      refine VC.region ?_
                      refine VL.va (op_move rfl (ltn rfl)) rfl ?_
                      refine VL.va (op_move rfl (ltn rfl)) rfl ?_
                      refine VL.va (op_move rfl (ltn rfl)) rfl ?_
                      replace h := Option.bind_eq_some_iff.1 h
                      obtain ⟨r45519, hA45520, h⟩ := h
                      refine VL.step1 (ope_ownd (vals := [(.slice (some ⟨g44971, 0, none⟩) l44952.length n44972), .int .i64 i44949, .int .i64 (wrap64 ((wrap64 (2 * i44949)) + 1))]) 0 rfl (ope_meth_v 0 1 MI42_Swap Try.underlying42 FO56 rfl rfl TI40 rfl (by decide) rfl rfl) (queue_waits_Swap.ok l44952 i44949 (wrap64 ((wrap64 (2 * i44949)) + 1)) (.slice (some ⟨g44971, 0, none⟩) l44952.length n44972) r45519 hA45520) (by simp) (ltn rfl)) rfl ?_
                      refine VL.done ?_
                      refine VN.then ?_
                      refine VC.region ?_
                      refine VL.va (op_move rfl (ltn rfl)) rfl ?_
                      refine VL.va (op_assign rfl (ltn rfl)) rfl ?_
                      refine VL.done ?_
                      refine VN.block ?_
                      refine VN.again [0, 1] [0] (ihl130 (wrap64 ((wrap64 (2 * i44949)) + 1)) (.slice (some ⟨g44971, 0, none⟩) l44952.length n44972) r45519 h) ⟨rfl, ⟨rfl, rfl, rfl, rfl, rfl, trivial⟩, trivial, rfl, by decide, rfl, by decide⟩
                    · rw [if_neg c45518] at h
                      obtain rfl : b45517 = false := hb45517.symm.trans (decide_eq_false c45518)
                      refine VL.va (op_not rfl rfl (ltn rfl)) rfl ?_
                      refine VL.done ?_
                      refine VN.then ?_
                      refine VC.cond_t rfl ?_
                      refine VC.exit ?_
                      refine VX.then ?_
                      refine VX.miss (by decide) ?_
                      refine VX.then ?_
                      refine VX.hit ?_
                      refine VN.then ?_
                      refine VC.seq ?_
                      refine VC.region ?_
                      refine VL.va (op_move rfl (ltn rfl)) rfl ?_
                      refine VL.va (op_move rfl (ltn rfl)) rfl ?_
                      refine VL.letter (decide (i44949 > 0)) fun b45522 hb45522 => ?_
                      refine VL.va (op_cmp rfl rfl (congrArg some hb45522) (ltn rfl)) rfl ?_
                      refine VL.va (op_assign rfl (ltn rfl)) rfl ?_
                      refine VL.done ?_
                      refine VN.then ?_
                      refine VC.ret ?_
                      refine VR.inl (rs := [.tmp 6]) (.bool b45522) rfl (.tmp rfl .nil) rfl ?_
                      refine VL.done ?_
                      refine VN.meet2 (.slice (some ⟨g44971, 0, none⟩) l44952.length n44972) l44952 [0, 1] [0] h ⟨rfl, ⟨rfl, rfl, trivial⟩, trivial, rfl, by decide, rfl, by decide⟩
                  · rw [if_neg c45513] at h; cases h
              · rw [if_neg c45451] at h; cases h
            · rw [if_neg c45449] at h; cases h
          · rw [if_neg c45448] at h
            obtain rfl : b45447 = false := hb45447.symm.trans (decide_eq_false c45448)
            refine VL.un rfl rfl (ltn rfl) ?_
            refine VL.un rfl rfl (ltn rfl) ?_
            refine VL.un rfl rfl (ltn rfl) ?_
            refine VL.un rfl rfl (ltn rfl) ?_
            refine VL.va (op_pick rfl rfl (ltn rfl)) rfl ?_
            refine VL.done ?_
            refine VN.then ?_
            refine VC.cond_f rfl ?_
            refine VC.skip ?_
            refine VN.then ?_
            refine VC.seq ?_
            refine VC.seq ?_
            refine VC.region ?_
            refine VL.va (op_move rfl (ltn rfl)) rfl ?_
            refine VL.va (op_move rfl (ltn rfl)) rfl ?_
            refine VL.va (op_move rfl (ltn rfl)) rfl ?_
            refine VL.inle (vals := [v44951, .int .i64 (wrap64 ((wrap64 (2 * i44949)) + 1)), .int .i64 i44949]) Try.func55 rfl (ope_meth_v 0 1 MI42_Less Try.underlying42 FO55 rfl rfl TI40 rfl (by decide) rfl rfl) (len rfl) (by rintro d ⟨⟩; exact ltn rfl) rfl ?_
            refine VC.seq ?_
            refine VC.region ?_
            refine VL.va (op_assign rfl (ltn rfl)) rfl ?_
            refine VL.done ?_
            refine VN.then ?_
            by_cases c45548 : 0 ≤ wrap64 ((wrap64 (2 * i44949)) + 1)
            · rw [if_pos c45548] at h
              replace h := Option.bind_eq_some_iff.1 h
              obtain ⟨x45549, hx45549, h⟩ := h
              by_cases c45550 : 0 ≤ i44949
              · rw [if_pos c45550] at h
                replace h := Option.bind_eq_some_iff.1 h
                obtain ⟨x45551, hx45551, h⟩ := h
                replace h := Option.bind_eq_some_iff.1 h
                obtain ⟨t45552, hA45553, h⟩ := h
                refine VC.letter (decide (t45552 < 0)) fun b45554 hb45554 => ?_
                refine VC.openR (m := l44952.length) 0 lenm rfl (pos_get hx45549) ?_
                rintro g44971 n44972 rfl
                refine VC.join0 (⟨17, [(6, .bool b45554)], [], [(g31863, 40, [(.slice (some ⟨g44971, 0, none⟩) l44952.length n44972)]), (g1042, 24, [.int .i64 0, .int .i64 0, .int .i64 0])], [((.slice (some ⟨g44971, 0, none⟩) l44952.length n44972), 24, 3, l44952.map enc23)]⟩) (True) ?_ ?_
                · refine VC.draw ⟨0, [], [], [], [((.slice (some ⟨g44971, 0, none⟩) l44952.length n44972), 24, 3, l44952.map enc23)]⟩ (by kernel_rfl) rfl (by kernel_rfl) (n := 11) (listed := LB 11 0) ?_
                  refine VA.va (i := 0) (listed' := LB 11 1) rfl (op_move rfl (ltn rfl)) rfl (by kernel_rfl) (by kernel_rfl) (by kernel_rfl) (by kernel_rfl) ⟨trivial, trivial, ⟨⟨0, rfl⟩, trivial⟩⟩ (fun _ _ _ h => h) ?_
                  refine VA.va (i := 1) (listed' := LB 11 3) rfl (op_move rfl (ltn rfl)) rfl (by kernel_rfl) (by kernel_rfl) (by kernel_rfl) (by kernel_rfl) ⟨trivial, trivial, ⟨⟨0, rfl⟩, trivial⟩⟩ (fun _ _ _ h => h) ?_
                  refine VA.va (i := 2) (listed' := LB 11 7) rfl (op_indexAddr Try.underlying40 TI24 rfl rfl c45548 (lt_get c45548 hx45549) (add_zero_at _ _) (ltn rfl)) rfl (by kernel_rfl) (by kernel_rfl) (by kernel_rfl) (by kernel_rfl) ⟨trivial, trivial, ⟨⟨0, rfl⟩, trivial⟩⟩ (fun _ _ _ h => h) ?_
                  refine VA.va (i := 3) (listed' := LB 11 15) rfl (op_load_own (sz := 3) (o := 0) 0 (wrap64 ((wrap64 (2 * i44949)) + 1)).toNat 3 rfl rfl (get_map hx45549) TI24 rfl (fun h => absurd h (by decide)) (ltn rfl)) rfl (by kernel_rfl) (by kernel_rfl) (by kernel_rfl) (by kernel_rfl) ⟨trivial, trivial, ⟨⟨0, rfl⟩, trivial⟩⟩ (fun _ _ _ h => h) ?_
                  refine VA.va (i := 4) (listed' := LB 11 31) rfl (op_move rfl (ltn rfl)) rfl (by kernel_rfl) (by kernel_rfl) (by kernel_rfl) (by kernel_rfl) ⟨trivial, trivial, ⟨⟨0, rfl⟩, trivial⟩⟩ (fun _ _ _ h => h) ?_
                  refine VA.va (i := 5) (listed' := LB 11 63) rfl (op_move rfl (ltn rfl)) rfl (by kernel_rfl) (by kernel_rfl) (by kernel_rfl) (by kernel_rfl) ⟨trivial, trivial, ⟨⟨0, rfl⟩, trivial⟩⟩ (fun _ _ _ h => h) ?_
                  refine VA.va (i := 6) (listed' := LB 11 127) rfl (op_indexAddr Try.underlying40 TI24 rfl rfl c45550 (lt_get c45550 hx45551) (add_zero_at _ _) (ltn rfl)) rfl (by kernel_rfl) (by kernel_rfl) (by kernel_rfl) (by kernel_rfl) ⟨trivial, trivial, ⟨⟨0, rfl⟩, trivial⟩⟩ (fun _ _ _ h => h) ?_
                  refine VA.va (i := 7) (listed' := LB 11 255) rfl (op_load_own (sz := 3) (o := 0) 0 i44949.toNat 3 rfl rfl (get_map hx45551) TI24 rfl (fun h => absurd h (by decide)) (ltn rfl)) rfl (by kernel_rfl) (by kernel_rfl) (by kernel_rfl) (by kernel_rfl) ⟨trivial, trivial, ⟨⟨0, rfl⟩, trivial⟩⟩ (fun _ _ _ h => h) ?_
                  refine VA.oneC (i := 8) (listed' := LB 11 511) (by kernel_rfl) rfl (o_call0 FO26 (queue_compare.ok k x45549.f0 x45549.f1 x45549.f2 x45551.f0 x45551.f1 x45551.f2 t45552 hA45553) rfl rfl (ltn rfl) (All_of .nil)) rfl (by kernel_rfl) ?_
                  rintro _ _ _ ⟨rfl, rfl, rfl⟩
                  refine ⟨⟨trivial, trivial, ⟨⟨0, rfl⟩, trivial⟩⟩, ?_⟩
                  refine VA.va (i := 9) (listed' := LB 11 1023) rfl (op_cmp rfl rfl (congrArg some hb45554) (ltn rfl)) rfl (by kernel_rfl) (by kernel_rfl) (by kernel_rfl) (by kernel_rfl) ⟨trivial, trivial, ⟨⟨0, rfl⟩, trivial⟩⟩ (fun _ _ _ h => h) ?_
                  refine VA.va (i := 10) (listed' := LB 11 2047) rfl (op_assign rfl (ltn rfl)) rfl (by kernel_rfl) (by kernel_rfl) (by kernel_rfl) (by kernel_rfl) ⟨trivial, trivial, ⟨⟨0, rfl⟩, trivial⟩⟩ (fun _ _ _ h => h) ?_
                  refine VA.done (by kernel_rfl) ?_
                  exact VN.meet0  [0, 1] [0] trivial ⟨rfl, ⟨rfl, trivial⟩, trivial, rfl, by decide, rfl, by decide⟩
                intro _
                refine VC.ret ?_
                refine VR.inl (rs := [.tmp 6]) (.bool b45554) rfl (.tmp rfl .nil) rfl ?_
                by_cases c45555 : t45552 < 0
                · rw [if_pos c45555] at h
                  obtain rfl : b45554 = true := hb45554.symm.trans (decide_eq_true c45555)
                  refine VL.va (op_not rfl rfl (ltn rfl)) rfl ?_
                  refine VL.done ?_
                  refine VN.then ?_
                  refine VC.cond_f rfl ?_
                  refine VC.skip ?_
                  refine VN.then ?_
                  refine VC.seq ?_
                  refine VC.region ?_
                  refine VL.va (op_move rfl (ltn rfl)) rfl ?_
                  refine VL.va (op_move rfl (ltn rfl)) rfl ?_
                  refine VL.va (op_move rfl (ltn rfl)) rfl ?_
                  replace h := Option.bind_eq_some_iff.1 h
                  obtain ⟨r45556, hA45557, h⟩ := h
                  refine VL.step1 (ope_ownd (vals := [(.slice (some ⟨g44971, 0, none⟩) l44952.length n44972), .int .i64 i44949, .int .i64 (wrap64 ((wrap64 (2 * i44949)) + 1))]) 0 rfl (ope_meth_v 0 1 MI42_Swap Try.underlying42 FO56 rfl rfl TI40 rfl (by decide) rfl rfl) (queue_waits_Swap.ok l44952 i44949 (wrap64 ((wrap64 (2 * i44949)) + 1)) (.slice (some ⟨g44971, 0, none⟩) l44952.length n44972) r45556 hA45557) (by simp) (ltn rfl)) rfl ?_
                  refine VL.done ?_
                  refine VN.then ?_
                  refine VC.region ?_
                  refine VL.va (op_move rfl (ltn rfl)) rfl ?_
                  refine VL.va (op_assign rfl (ltn rfl)) rfl ?_
                  refine VL.done ?_
                  refine VN.block ?_
                  refine VN.again [0, 1] [0] (ihl130 (wrap64 ((wrap64 (2 * i44949)) + 1)) (.slice (some ⟨g44971, 0, none⟩) l44952.length n44972) r45556 h) ⟨rfl, ⟨rfl, rfl, rfl, rfl, rfl, trivial⟩, trivial, rfl, by decide, rfl, by decide⟩
                · rw [if_neg c45555] at h
                  obtain rfl : b45554 = false := hb45554.symm.trans (decide_eq_false c45555)
                  refine VL.va (op_not rfl rfl (ltn rfl)) rfl ?_
                  refine VL.done ?_
                  refine VN.then ?_
                  refine VC.cond_t rfl ?_
                  refine VC.exit ?_
                  refine VX.then ?_
                  refine VX.miss (by decide) ?_
                  refine VX.then ?_
                  refine VX.hit ?_
                  refine VN.then ?_
                  refine VC.seq ?_
                  refine VC.region ?_
                  refine VL.va (op_move rfl (ltn rfl)) rfl ?_
                  refine VL.va (op_move rfl (ltn rfl)) rfl ?_
                  refine VL.letter (decide (i44949 > 0)) fun b45559 hb45559 => ?_
                  refine VL.va (op_cmp rfl rfl (congrArg some hb45559) (ltn rfl)) rfl ?_
                  refine VL.va (op_assign rfl (ltn rfl)) rfl ?_
                  refine VL.done ?_
                  refine VN.then ?_
                  refine VC.ret ?_
                  refine VR.inl (rs := [.tmp 6]) (.bool b45559) rfl (.tmp rfl .nil) rfl ?_
                  refine VL.done ?_
                  refine VN.meet2 (.slice (some ⟨g44971, 0, none⟩) l44952.length n44972) l44952 [0, 1] [0] h ⟨rfl, ⟨rfl, rfl, trivial⟩, trivial, rfl, by decide, rfl, by decide⟩
              · rw [if_neg c45550] at h; cases h
            · rw [if_neg c45548] at h; cases h
      clear h
      intro v45561 l45562 h
      unfold queue_Pop.j127 at h
      refine VC.seq ?_
      refine VC.region ?_
      refine VL.va (op_move rfl (ltn rfl)) rfl ?_
      refine VL.inle (vals := [.pointer (some ⟨g31863, 0, none⟩)]) Try.func57 rfl (ope_meth_p MI42_Pop Try.underlying42 FO57 rfl rfl) (len rfl) (by rintro d ⟨⟩; exact ltn rfl) rfl ?_
      refine VC.seq ?_
      refine VC.region ?_
      refine VL.va (op_assign rfl (ltn rfl)) rfl ?_
      refine VL.done ?_
      refine VN.then ?_
      refine VC.seq ?_
      refine VC.region ?_
      refine VL.va (op_move rfl (ltn rfl)) rfl ?_
      refine VL.va (op_nilCheck rfl (ltn rfl)) rfl ?_
      refine VL.va (op_load 0 1 rfl rfl TI40 rfl (by decide) (ltn rfl)) rfl ?_
      refine VL.va (op_len_own (m := l45562.length) 0 lenm Try.underlying40 rfl rfl (ltn rfl)) rfl ?_
      refine VL.va (op_ari64 rfl rfl rfl (ltn rfl)) rfl ?_
      refine VL.va (op_assign rfl (ltn rfl)) rfl ?_
      refine VL.done ?_
      refine VN.then ?_
      refine VC.seq ?_
      refine VC.region ?_
      refine VL.va (op_move rfl (ltn rfl)) rfl ?_
      refine VL.va (op_nilCheck rfl (ltn rfl)) rfl ?_
      refine VL.va (op_load 0 1 rfl rfl TI40 rfl (by decide) (ltn rfl)) rfl ?_
      refine VL.va (op_move rfl (ltn rfl)) rfl ?_
      by_cases c45571 : 0 ≤ wrap64 ((l45562.length : Int) - 1)
      · rw [if_pos c45571] at h
        replace h := Option.bind_eq_some_iff.1 h
        obtain ⟨x45572, hx45572, h⟩ := h
        refine VL.openR (m := l45562.length) 0 lenm rfl (pos_get hx45572) ?_
        rintro g45573 n45574 rfl
        refine VL.va (op_indexAddr Try.underlying40 TI24 rfl rfl c45571 (lt_get c45571 hx45572) (add_zero_at _ _) (ltn rfl)) rfl ?_
        refine VL.va (op_load_own (sz := 3) (o := 0) 0 (wrap64 ((l45562.length : Int) - 1)).toNat 3 rfl rfl (get_map hx45572) TI24 rfl (fun h => absurd h (by decide)) (ltn rfl)) rfl ?_
        refine VL.sG (o_alloc Z24 ZL24 (ltn rfl)) rfl ?_
        intro g45575
        refine VL.step1 (o_store 0 3 rfl rfl rfl TI24 (.agg (.of rfl)) rfl (len rfl)) rfl ?_
        refine VL.done ?_
        refine VN.then ?_
        refine VC.seq ?_
        refine VC.region ?_
        refine VL.va (op_move rfl (ltn rfl)) rfl ?_
        refine VL.va (op_move rfl (ltn rfl)) rfl ?_
        refine VL.va (op_nilCheck rfl (ltn rfl)) rfl ?_
        refine VL.va (op_load 1 1 rfl rfl TI40 rfl (by decide) (ltn rfl)) rfl ?_
        refine VL.va (op_move rfl (ltn rfl)) rfl ?_
        by_cases c45576 : (wrap64 ((l45562.length : Int) - 1)) ≤ (l45562.length : Int)
        · rw [if_pos c45576] at h
          refine VL.sG (o_cutOwn (m := l45562.length) (h := ((wrap64 ((l45562.length : Int) - 1)).toNat)) (es3 := List.map enc23 (l45562.take ((wrap64 ((l45562.length : Int) - 1)).toNat))) 0 lenm (List.map_take.symm) Try.underlying40 TI24 rfl rfl ⟨rfl, ⟨_, _, rfl, c45571, rfl⟩, by omega, by omega⟩ (ltn rfl)) rfl ?_
          intro v45578
          refine VL.va (op_nilCheck rfl (ltn rfl)) rfl ?_
          refine VL.step1 (o_store 1 1 rfl rfl rfl TI40 (.r 0 rfl) rfl (len rfl)) rfl ?_
          refine VL.done ?_
          refine VN.then ?_
          refine VC.seq ?_
          refine VC.region ?_
          refine VL.va (op_load 0 3 rfl rfl TI24 rfl (fun h => absurd h (by decide)) (ltn rfl)) rfl ?_
          refine VL.va (op_makeIface Try.underlying24 (fun _ h => by cases h) rfl (ltn rfl)) rfl ?_
          refine VL.va (op_assign rfl (ltn rfl)) rfl ?_
          refine VL.done ?_
          refine VN.then ?_
          refine VC.ret ?_
          refine VR.inl (rs := [.tmp 2]) (.iface 24 (.agg #[.int .i64 x45572.f0, .int .i64 x45572.f1, .int .i64 x45572.f2])) rfl (.tmp rfl .nil) rfl ?_
          refine VL.va (op_assign rfl (ltn rfl)) rfl ?_
          refine VL.done ?_
          refine VN.then ?_
          refine VC.ret ?_
          refine VR.inl (rs := [.tmp 2]) (.iface 24 (.agg #[.int .i64 x45572.f0, .int .i64 x45572.f1, .int .i64 x45572.f2])) rfl (.tmp rfl .nil) rfl ?_
          refine VL.va (op_assertOk Try.underlying24 (fun _ h => by cases h) rfl (ltn rfl)) rfl ?_
          refine VL.va (op_move rfl (ltn rfl)) rfl ?_
          refine VL.va (op_extract rfl rfl (ltn rfl)) rfl ?_
          refine VL.va (op_extract rfl rfl (ltn rfl)) rfl ?_
          refine VL.sG (o_alloc Z24 ZL24 (ltn rfl)) rfl ?_
          intro g45579
          refine VL.step1 (o_store 0 3 rfl rfl rfl TI24 (.agg (.of rfl)) rfl (len rfl)) rfl ?_
          refine VL.va (op_assign rfl (ltn rfl)) rfl ?_
          refine VL.done ?_
          refine VN.then ?_
          refine VC.join0 (⟨28, [(2, v45578), (3, .pointer (some ⟨g1042, 0, none⟩)), (4, .int .i64 0)], [], [(g1042, 24, [.int .i64 x45572.f0, .int .i64 x45572.f1, .int .i64 x45572.f2])], [(v45578, 24, 3, (l45562.take ((wrap64 ((l45562.length : Int) - 1)).toNat)).map enc23)]⟩) (True) ?_ ?_
          · refine VC.draw ⟨0, [], [], [(g45579, 24, [.int .i64 x45572.f0, .int .i64 x45572.f1, .int .i64 x45572.f2]), (g31863, 40, [v45578])], [(v45578, 24, 3, (l45562.take ((wrap64 ((l45562.length : Int) - 1)).toNat)).map enc23)]⟩ (by kernel_rfl) rfl (by kernel_rfl) (n := 5) (listed := LB 5 0) ?_
            refine VA.va (i := 0) (listed' := LB 5 1) rfl (op_load 1 1 rfl rfl TI40 rfl (by decide) (ltn rfl)) rfl (by kernel_rfl) (by kernel_rfl) (by kernel_rfl) (by kernel_rfl) ⟨trivial, ⟨⟨0, rfl⟩, ⟨2, rfl⟩, trivial⟩, ⟨⟨0, rfl⟩, trivial⟩⟩ (fun _ _ _ h => h) ?_
            refine VA.va (i := 1) (listed' := LB 5 3) rfl (op_load 0 3 rfl rfl TI24 rfl (fun h => absurd h (by decide)) (ltn rfl)) rfl (by kernel_rfl) (by kernel_rfl) (by kernel_rfl) (by kernel_rfl) ⟨trivial, ⟨⟨0, rfl⟩, ⟨2, rfl⟩, trivial⟩, ⟨⟨0, rfl⟩, trivial⟩⟩ (fun _ _ _ h => h) ?_
            refine VA.va (i := 2) (listed' := LB 5 7) rfl (op_assign rfl (ltn rfl)) rfl (by kernel_rfl) (by kernel_rfl) (by kernel_rfl) (by kernel_rfl) ⟨trivial, ⟨⟨0, rfl⟩, ⟨2, rfl⟩, trivial⟩, ⟨⟨0, rfl⟩, trivial⟩⟩ (fun _ _ _ h => h) ?_
            refine VA.one1 (i := 3) (listed' := LB 5 15) (by kernel_rfl) rfl (o_store 3 3 rfl rfl rfl TI24 (.agg (.of rfl)) rfl (len rfl)) rfl (by kernel_rfl) ⟨trivial, ⟨⟨0, rfl⟩, ⟨2, rfl⟩, trivial⟩, ⟨⟨0, rfl⟩, trivial⟩⟩ ?_
            refine VA.va (i := 4) (listed' := LB 5 31) rfl (op_assign rfl (ltn rfl)) rfl (by kernel_rfl) (by kernel_rfl) (by kernel_rfl) (by kernel_rfl) ⟨trivial, ⟨⟨0, rfl⟩, ⟨2, rfl⟩, trivial⟩, ⟨⟨0, rfl⟩, trivial⟩⟩ (fun _ _ _ h => h) ?_
            refine VA.done (by kernel_rfl) ?_
            exact VN.meet0  [3] [0] trivial ⟨rfl, ⟨rfl, rfl, rfl, trivial⟩, trivial, rfl, by decide, rfl, by decide⟩
          intro _
          refine VC.ret ?_
          simp only [Option.some.injEq, Prod.mk.injEq] at h
          obtain ⟨rfl, rfl, rfl, rfl, rfl⟩ := h
          exact VR.fn (rs := [.tmp 2, .cell 3 24, .tmp 4]) [] [(v45578, 24, 3, (l45562.take ((wrap64 ((l45562.length : Int) - 1)).toNat)).map enc23)] [0] rfl (.tmp rfl (.cell 0 rfl rfl TI24 (fun h => absurd h (by decide)) (.tmp rfl .nil))) ⟨v45578, rfl, rfl, rfl⟩ trivial rfl (by decide)
        · rw [if_neg c45576] at h; cases h
      · rw [if_neg c45571] at h; cases h

end Go.Proofs.Ythgoagnennjagaa.PQueueGoes
