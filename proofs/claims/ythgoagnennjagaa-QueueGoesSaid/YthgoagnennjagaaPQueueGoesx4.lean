/- Written by a program of this repo: what the program's functions do, each as a Lean function, shown of the loaded code; or a statement's row over that; no condition of its own. -/
import Derived.Test.YthgoagnennjagaaPQueueGoesx3
namespace Go.Proofs.Ythgoagnennjagaa.PQueueGoes
open Go Go.RowKit Go.Proofs.YthgoagnennjagaaV
set_option linter.unusedVariables false
set_option linter.unusedSimpArgs false

set_option maxHeartbeats 4000000 in
set_option maxRecDepth 100000 in
theorem queue_Make.ok (k : Nat) (l0 : List S23) (v0 : Value) (r1 : List S23) (r2 : Int) (h : queue_Make.f k l0 = some (r1, r2)) :
    VCalls Try.prog 8 [v0] [.row v0 3 (l0.map enc23)] (fun v G own => ∃ w0 : Value, v = .tuple #[w0, .int .i64 r2] ∧ G = [] ∧ own = [(w0, 24, 3, r1.map enc23)]) := by
  refine VCalls.intro Try.func8 rfl (len rfl) fun E hC => ?_
  unfold queue_Make.f at h
  refine VC.seq ?_
  refine VC.region ?_
  refine VL.va (op_assign rfl (ltn rfl)) rfl ?_
  refine VL.va (op_assign rfl (ltn rfl)) rfl ?_
  refine VL.done ?_
  refine VN.then ?_
  refine VC.seq ?_
  refine VC.join1 (fun (q90514 : Bool) => ⟨13, [(0, v0), (2, .slice none 0 0), (3, .int .i64 0), (7, .bool q90514)], [.row v0 3 (l0.map enc23)], [], []⟩) (fun (q90514 : Bool) => queue_Make.j36 k l0 q90514 = some (r1, r2)) ?_ ?_
  · refine VC.region ?_
    refine VL.va (op_move rfl (ltn rfl)) rfl ?_
    replace h := Option.bind_eq_some_iff.1 h
    obtain ⟨t90511, hA90512, h⟩ := h
    refine VL.sC (o_call0 FO21 (queue_all.ok k l0 v0 t90511 hA90512) rfl rfl (ltn rfl) (All_of (.cons (List.mem_of_getElem? (i := 0) rfl) .nil))) rfl ?_
    rintro _ _ _ ⟨rfl, rfl, rfl⟩
    by_cases c90513 : t90511 = true
    · rw [if_pos c90513] at h
      obtain rfl := c90513
      refine VL.va (op_not rfl rfl (ltn rfl)) rfl ?_
      refine VL.done ?_
      refine VN.meet1 false [] [] h ⟨rfl, ⟨rfl, rfl, rfl, rfl, trivial⟩, ⟨⟨0, rfl⟩, trivial⟩, rfl, by decide, rfl, by decide⟩
    · rw [if_neg c90513] at h
      obtain rfl := Bool.eq_false_iff.2 c90513
      refine VL.va (op_not rfl rfl (ltn rfl)) rfl ?_
      refine VL.done ?_
      refine VN.meet1 true [] [] h ⟨rfl, ⟨rfl, rfl, rfl, rfl, trivial⟩, ⟨⟨0, rfl⟩, trivial⟩, rfl, by decide, rfl, by decide⟩
  clear h
  intro q90514 h
  unfold queue_Make.j36 at h
  by_cases c90515 : q90514 = true
  · rw [if_pos c90515] at h
    obtain rfl := c90515
    refine VC.cond_t rfl ?_
    refine VC.seq ?_
    refine VC.region ?_
    refine VL.va (op_assign rfl (ltn rfl)) rfl ?_
    refine VL.va (op_assign rfl (ltn rfl)) rfl ?_
    refine VL.done ?_
    refine VN.then ?_
    refine VC.ret ?_
    refine VR.then ?_
    simp only [Option.some.injEq, Prod.mk.injEq] at h
    obtain ⟨rfl, rfl⟩ := h
    refine VR.nilRow' 24 3 ?_
    exact VR.fn (rs := [.tmp 2, .tmp 3]) [] [((.slice none 0 0), 24, 3, ([] : List S23).map enc23)] [0] rfl (.tmp rfl (.tmp rfl .nil)) ⟨(.slice none 0 0), rfl, rfl, rfl⟩ trivial rfl (by decide)
  · rw [if_neg c90515] at h
    obtain rfl := Bool.eq_false_iff.2 c90515
    refine VC.cond_f rfl ?_
    refine VC.skip ?_
    refine VN.then ?_
    refine VC.seq ?_
    refine VC.region ?_
    refine VL.va (op_move rfl (ltn rfl)) rfl ?_
    replace h := Option.bind_eq_some_iff.1 h
    obtain ⟨r90517, hA90518, h⟩ := h
    refine VL.sC (o_call_b0 FO22 (slices_Clone_api_Wait_api_Wait.ok l0 v0 r90517 hA90518) rfl rfl (ltn rfl) (All_of (.cons (.inl (List.mem_of_getElem? (i := 0) rfl)) .nil)) (by rintro _ _ _ ⟨_, rfl, rfl, rfl⟩; rfl)) rfl ?_
    rintro v90520 _ _ ⟨_, rfl, rfl, rfl⟩
    refine VL.sG (o_alloc Z40 ZL40 (ltn rfl)) rfl ?_
    intro g90521
    refine VL.step1 (o_store 0 1 rfl rfl rfl TI40 (.r 0 rfl) rfl (len rfl)) rfl ?_
    refine VL.done ?_
    refine VN.then ?_
    refine VC.seq ?_
    refine VC.region ?_
    refine VL.va (op_makeIface Try.underlying42 (fun _ h => by cases h) rfl (ltn rfl)) rfl ?_
    refine VL.inl (vals := [.iface 42 (.pointer (some ⟨g90521, 0, none⟩))]) (caps := []) Try.func23 FO23 rfl rfl rfl (len rfl) (ltn rfl) rfl ?_
    refine VC.seq ?_
    refine VC.region ?_
    refine VL.va (op_move rfl (ltn rfl)) rfl ?_
    refine VL.inle (vals := [v90520]) Try.func54 rfl (ope_meth_v 0 1 MI42_Len Try.underlying42 FO54 rfl rfl TI40 rfl (by decide) rfl rfl) (len rfl) (by rintro d ⟨⟩; exact ltn rfl) rfl ?_
    refine VC.seq ?_
    refine VC.region ?_
    refine VL.va (op_assign rfl (ltn rfl)) rfl ?_
    refine VL.done ?_
    refine VN.then ?_
    refine VC.seq ?_
    refine VC.region ?_
    refine VL.va (op_move rfl (ltn rfl)) rfl ?_
    refine VL.va (op_len_own (m := r90517.length) 0 lenm Try.underlying40 rfl rfl (ltn rfl)) rfl ?_
    refine VL.va (op_assign rfl (ltn rfl)) rfl ?_
    refine VL.done ?_
    refine VN.then ?_
    refine VC.ret ?_
    refine VR.inl (rs := [.tmp 2]) (.int .i64 (r90517.length : Int)) rfl (.tmp rfl .nil) rfl ?_
    refine VL.va (op_assign rfl (ltn rfl)) rfl ?_
    refine VL.done ?_
    refine VN.then ?_
    refine VC.seq ?_
    refine VC.region ?_
    refine VL.va (op_move rfl (ltn rfl)) rfl ?_
    refine VL.va (op_quo rfl rfl (by decide) rfl (ltn rfl)) rfl ?_
    refine VL.va (op_ari64 rfl rfl rfl (ltn rfl)) rfl ?_
    refine VL.va (op_assign rfl (ltn rfl)) rfl ?_
    refine VL.done ?_
    refine VN.then ?_
    refine VC.block ?_
    refine VC.loop3 (fun (i104890 : Int) (v104892 : Value) (l104893 : List S23) => ⟨17, [(0, .iface 42 (.pointer (some ⟨g90521, 0, none⟩))), (2, .int .i64 (r90517.length : Int)), (3, .int .i64 i104890)], [], [(g90521, 40, [v104892])], [(v104892, 24, 3, l104893.map enc23)]⟩) (fun (ml46 : Nat) (i104890 : Int) (v104892 : Value) (l104893 : List S23) => queue_Make.l46 k r90517 ml46 i104890 l104893 = some (r1, r2)) k (wrap64 ((IntKind.i64.wrap ((r90517.length : Int).tdiv 2)) - 1)) v90520 r90517 [0] [0] h ⟨rfl, ⟨rfl, rfl, rfl, trivial⟩, trivial, rfl, by decide, rfl, by decide⟩ (by intros; simp [queue_Make.l46]) ?_
    clear h
    intro ml46 ihl46 i104890 v104892 l104893 h
    simp only [queue_Make.l46] at h
    refine VC.seq ?_
    refine VC.seq ?_
    refine VC.region ?_
    refine VL.va (op_move rfl (ltn rfl)) rfl ?_
    refine VL.letter (decide (i104890 ≥ 0)) fun b108488 hb108488 => ?_
    refine VL.va (op_cmp rfl rfl (congrArg some hb108488) (ltn rfl)) rfl ?_
    refine VL.done ?_
    refine VN.then ?_
    by_cases c108489 : i104890 ≥ 0
    · rw [if_pos c108489] at h
      obtain rfl : b108488 = true := hb108488.symm.trans (decide_eq_true c108489)
      refine VC.cond_t rfl ?_
      refine VC.skip ?_
      refine VN.then ?_
      refine VC.seq ?_
      refine VC.block ?_
      refine VC.region ?_
      refine VL.va (op_move rfl (ltn rfl)) rfl ?_
      refine VL.va (op_move rfl (ltn rfl)) rfl ?_
      refine VL.va (op_move rfl (ltn rfl)) rfl ?_
      refine VL.inl (vals := [.iface 42 (.pointer (some ⟨g90521, 0, none⟩)), .int .i64 i104890, .int .i64 (r90517.length : Int)]) (caps := []) Try.func31 FO31 rfl rfl rfl (len rfl) (ltn rfl) rfl ?_
      refine VC.seq ?_
      refine VC.region ?_
      refine VL.va (op_assign rfl (ltn rfl)) rfl ?_
      refine VL.done ?_
      refine VN.then ?_
      refine VC.seq ?_
      refine VC.region ?_
      refine VL.va (op_move rfl (ltn rfl)) rfl ?_
      refine VL.va (op_assign rfl (ltn rfl)) rfl ?_
      refine VL.done ?_
      refine VN.then ?_
      refine VC.seq ?_
      refine VC.block ?_
      refine VC.loop3 (fun (i111465 : Int) (v111467 : Value) (l111468 : List S23) => ⟨48, [(0, .iface 42 (.pointer (some ⟨g90521, 0, none⟩))), (1, .int .i64 i104890), (2, .int .i64 (r90517.length : Int)), (6, .bool false), (7, .int .i64 i111465)], [], [(g90521, 40, [v111467])], [(v111467, 24, 3, l111468.map enc23)]⟩) (fun (ml53 : Nat) (i111465 : Int) (v111467 : Value) (l111468 : List S23) => queue_Make.l53 k (queue_Make.l46 k r90517 ml46) i104890 r90517 ml53 i111465 l111468 = some (r1, r2)) k i104890 v104892 l104893 [0] [0] h ⟨rfl, ⟨rfl, rfl, rfl, rfl, rfl, trivial⟩, trivial, rfl, by decide, rfl, by decide⟩ (by intros; simp [queue_Make.l53]) ?_
      clear h
      intro ml53 ihl53 i111465 v111467 l111468 h
      simp only [queue_Make.l53] at h
      refine VC.block ?_
      refine VC.seq ?_
      refine VC.region ?_
      refine VL.va (op_move rfl (ltn rfl)) rfl ?_
      refine VL.va (op_ari64 rfl rfl rfl (ltn rfl)) rfl ?_
      refine VL.va (op_ari64 rfl rfl rfl (ltn rfl)) rfl ?_
      refine VL.va (op_assign rfl (ltn rfl)) rfl ?_
      refine VL.done ?_
      refine VN.then ?_
      refine VC.seq ?_
      refine VC.join3 (fun (q111930 : Bool) (q111931 : Bool) (q111932 : Bool) => ⟨48, [(0, .iface 42 (.pointer (some ⟨g90521, 0, none⟩))), (1, .int .i64 i104890), (2, .int .i64 (r90517.length : Int)), (6, .bool false), (7, .int .i64 i111465), (8, .int .i64 (wrap64 ((wrap64 (2 * i111465)) + 1))), (12, .int .i64 i111465), (13, .int .i64 (wrap64 (2 * i111465))), (14, .int .i64 (wrap64 ((wrap64 (2 * i111465)) + 1))), (15, .int .i64 (wrap64 ((wrap64 (2 * i111465)) + 1))), (16, .int .i64 (r90517.length : Int)), (17, .bool q111930), (18, .bool q111931), (21, .bool q111932)], [], [(g90521, 40, [v111467])], [(v111467, 24, 3, l111468.map enc23)]⟩) (fun (q111930 : Bool) (q111931 : Bool) (q111932 : Bool) => queue_Make.j54 k (queue_Make.l46 k r90517 ml46) (queue_Make.l53 k (queue_Make.l46 k r90517 ml46) i104890 r90517 ml53) i104890 i111465 l111468 r90517 q111930 q111931 q111932 = some (r1, r2)) ?_ ?_
      · refine VC.region ?_
        refine VL.va (op_move rfl (ltn rfl)) rfl ?_
        refine VL.va (op_move rfl (ltn rfl)) rfl ?_
        refine VL.letter (decide ((wrap64 ((wrap64 (2 * i111465)) + 1)) ≥ (r90517.length : Int))) fun b111927 hb111927 => ?_
        refine VL.va (op_cmp rfl rfl (congrArg some hb111927) (ltn rfl)) rfl ?_
        refine VL.va (op_move rfl (ltn rfl)) rfl ?_
        by_cases c111928 : (wrap64 ((wrap64 (2 * i111465)) + 1)) ≥ (r90517.length : Int)
        · rw [if_pos c111928] at h
          obtain rfl : b111927 = true := hb111927.symm.trans (decide_eq_true c111928)
          refine VL.un rfl rfl (ltn rfl) ?_
          refine VL.un rfl rfl (ltn rfl) ?_
          refine VL.va (op_pick rfl rfl (ltn rfl)) rfl ?_
          refine VL.done ?_
          refine VN.meet3 true true true [0] [0] h ⟨rfl, ⟨rfl, rfl, rfl, rfl, rfl, rfl, rfl, rfl, rfl, rfl, rfl, rfl, rfl, rfl, trivial⟩, trivial, rfl, by decide, rfl, by decide⟩
        · rw [if_neg c111928] at h
          obtain rfl : b111927 = false := hb111927.symm.trans (decide_eq_false c111928)
          refine VL.va (op_move rfl (ltn rfl)) rfl ?_
          refine VL.letter (decide ((wrap64 ((wrap64 (2 * i111465)) + 1)) < 0)) fun b111929 hb111929 => ?_
          refine VL.va (op_cmp rfl rfl (congrArg some hb111929) (ltn rfl)) rfl ?_
          refine VL.va (op_pick rfl rfl (ltn rfl)) rfl ?_
          refine VL.done ?_
          subst hb111929
          refine VN.meet3 false false (decide ((wrap64 ((wrap64 (2 * i111465)) + 1)) < 0)) [0] [0] h ⟨rfl, ⟨rfl, rfl, rfl, rfl, rfl, rfl, rfl, rfl, rfl, rfl, rfl, rfl, rfl, rfl, trivial⟩, trivial, rfl, by decide, rfl, by decide⟩
      clear h
      intro q111930 q111931 q111932 h
      unfold queue_Make.j54 at h
      by_cases c111933 : q111932 = true
      · rw [if_pos c111933] at h
        obtain rfl := c111933
        refine VC.cond_t rfl ?_
        refine VC.exit ?_
        refine VX.then ?_
        refine VX.miss (by decide) ?_
        refine VX.then ?_
        refine VX.hit ?_
        refine VN.then ?_
        refine VC.seq ?_
        refine VC.region ?_
        refine VL.va (op_move rfl (ltn rfl)) rfl ?_
        refine VL.va (op_move rfl (ltn rfl)) rfl ?_
        refine VL.letter (decide (i111465 > i104890)) fun b111934 hb111934 => ?_
        refine VL.va (op_cmp rfl rfl (congrArg some hb111934) (ltn rfl)) rfl ?_
        refine VL.va (op_assign rfl (ltn rfl)) rfl ?_
        refine VL.done ?_
        refine VN.then ?_
        refine VC.ret ?_
        refine VR.inl (rs := [.tmp 6]) (.bool b111934) rfl (.tmp rfl .nil) rfl ?_
        refine VL.done ?_
        refine VN.block ?_
        refine VN.then ?_
        refine VC.region ?_
        refine VL.va (op_move rfl (ltn rfl)) rfl ?_
        refine VL.va (op_ari64 rfl rfl rfl (ltn rfl)) rfl ?_
        refine VL.va (op_assign rfl (ltn rfl)) rfl ?_
        refine VL.done ?_
        refine VN.again [0] [0] (ihl46 (wrap64 (i104890 - 1)) v111467 l111468 h) ⟨rfl, ⟨rfl, rfl, rfl, trivial⟩, trivial, rfl, by decide, rfl, by decide⟩
      · rw [if_neg c111933] at h
        obtain rfl := Bool.eq_false_iff.2 c111933
        refine VC.cond_f rfl ?_
        refine VC.skip ?_
        refine VN.then ?_
        refine VC.seq ?_
        refine VC.region ?_
        refine VL.va (op_move rfl (ltn rfl)) rfl ?_
        refine VL.va (op_assign rfl (ltn rfl)) rfl ?_
        refine VL.done ?_
        refine VN.then ?_
        refine VC.seq ?_
        refine VC.seq ?_
        refine VC.region ?_
        refine VL.va (op_move rfl (ltn rfl)) rfl ?_
        refine VL.va (op_ari64 rfl rfl rfl (ltn rfl)) rfl ?_
        refine VL.va (op_assign rfl (ltn rfl)) rfl ?_
        refine VL.done ?_
        refine VN.then ?_
        refine VC.seq ?_
        refine VC.region ?_
        refine VL.va (op_move rfl (ltn rfl)) rfl ?_
        refine VL.va (op_move rfl (ltn rfl)) rfl ?_
        refine VL.letter (decide ((wrap64 ((wrap64 ((wrap64 (2 * i111465)) + 1)) + 1)) < (r90517.length : Int))) fun b111963 hb111963 => ?_
        refine VL.va (op_cmp rfl rfl (congrArg some hb111963) (ltn rfl)) rfl ?_
        refine VL.va (op_move rfl (ltn rfl)) rfl ?_
        by_cases c111964 : (wrap64 ((wrap64 ((wrap64 (2 * i111465)) + 1)) + 1)) < (r90517.length : Int)
        · rw [if_pos c111964] at h
          obtain rfl : b111963 = true := hb111963.symm.trans (decide_eq_true c111964)
          refine VL.va (op_move rfl (ltn rfl)) rfl ?_
          refine VL.va (op_move rfl (ltn rfl)) rfl ?_
          refine VL.va (op_move rfl (ltn rfl)) rfl ?_
          refine VL.inle (vals := [v111467, .int .i64 (wrap64 ((wrap64 ((wrap64 (2 * i111465)) + 1)) + 1)), .int .i64 (wrap64 ((wrap64 (2 * i111465)) + 1))]) Try.func55 rfl (ope_meth_v 0 1 MI42_Less Try.underlying42 FO55 rfl rfl TI40 rfl (by decide) rfl rfl) (len rfl) (by rintro d ⟨⟩; exact ltn rfl) rfl ?_
          refine VC.seq ?_
          refine VC.region ?_
          refine VL.va (op_assign rfl (ltn rfl)) rfl ?_
          refine VL.done ?_
          refine VN.then ?_
          by_cases c111965 : 0 ≤ wrap64 ((wrap64 ((wrap64 (2 * i111465)) + 1)) + 1)
          · rw [if_pos c111965] at h
            replace h := Option.bind_eq_some_iff.1 h
            obtain ⟨x111966, hx111966, h⟩ := h
            by_cases c111967 : 0 ≤ wrap64 ((wrap64 (2 * i111465)) + 1)
            · rw [if_pos c111967] at h
              replace h := Option.bind_eq_some_iff.1 h
              obtain ⟨x111968, hx111968, h⟩ := h
              replace h := Option.bind_eq_some_iff.1 h
              obtain ⟨t111969, hA111970, h⟩ := h
              refine VC.letter (decide (t111969 < 0)) fun b111971 hb111971 => ?_
              refine VC.openR (m := l111468.length) 0 lenm rfl (pos_get hx111966) ?_
              rintro g111487 n111488 rfl
              refine VC.join0 (⟨17, [(6, .bool b111971)], [], [(g90521, 40, [(.slice (some ⟨g111487, 0, none⟩) l111468.length n111488)])], [((.slice (some ⟨g111487, 0, none⟩) l111468.length n111488), 24, 3, l111468.map enc23)]⟩) (True) ?_ ?_
              · refine VC.draw ⟨0, [], [], [], [((.slice (some ⟨g111487, 0, none⟩) l111468.length n111488), 24, 3, l111468.map enc23)]⟩ (by kernel_rfl) rfl (by kernel_rfl) (n := 11) (listed := LB 11 0) ?_
                refine VA.va (i := 0) (listed' := LB 11 1) rfl (op_move rfl (ltn rfl)) rfl (by kernel_rfl) (by kernel_rfl) (by kernel_rfl) (by kernel_rfl) ⟨trivial, trivial, ⟨⟨0, rfl⟩, trivial⟩⟩ (fun _ _ _ h => h) ?_
                refine VA.va (i := 1) (listed' := LB 11 3) rfl (op_move rfl (ltn rfl)) rfl (by kernel_rfl) (by kernel_rfl) (by kernel_rfl) (by kernel_rfl) ⟨trivial, trivial, ⟨⟨0, rfl⟩, trivial⟩⟩ (fun _ _ _ h => h) ?_
                refine VA.va (i := 2) (listed' := LB 11 7) rfl (op_indexAddr Try.underlying40 TI24 rfl rfl c111965 (lt_get c111965 hx111966) (add_zero_at _ _) (ltn rfl)) rfl (by kernel_rfl) (by kernel_rfl) (by kernel_rfl) (by kernel_rfl) ⟨trivial, trivial, ⟨⟨0, rfl⟩, trivial⟩⟩ (fun _ _ _ h => h) ?_
                refine VA.va (i := 3) (listed' := LB 11 15) rfl (op_load_own (sz := 3) (o := 0) 0 (wrap64 ((wrap64 ((wrap64 (2 * i111465)) + 1)) + 1)).toNat 3 rfl rfl (get_map hx111966) TI24 rfl (fun h => absurd h (by decide)) (ltn rfl)) rfl (by kernel_rfl) (by kernel_rfl) (by kernel_rfl) (by kernel_rfl) ⟨trivial, trivial, ⟨⟨0, rfl⟩, trivial⟩⟩ (fun _ _ _ h => h) ?_
                refine VA.va (i := 4) (listed' := LB 11 31) rfl (op_move rfl (ltn rfl)) rfl (by kernel_rfl) (by kernel_rfl) (by kernel_rfl) (by kernel_rfl) ⟨trivial, trivial, ⟨⟨0, rfl⟩, trivial⟩⟩ (fun _ _ _ h => h) ?_
                refine VA.va (i := 5) (listed' := LB 11 63) rfl (op_move rfl (ltn rfl)) rfl (by kernel_rfl) (by kernel_rfl) (by kernel_rfl) (by kernel_rfl) ⟨trivial, trivial, ⟨⟨0, rfl⟩, trivial⟩⟩ (fun _ _ _ h => h) ?_
                refine VA.va (i := 6) (listed' := LB 11 127) rfl (op_indexAddr Try.underlying40 TI24 rfl rfl c111967 (lt_get c111967 hx111968) (add_zero_at _ _) (ltn rfl)) rfl (by kernel_rfl) (by kernel_rfl) (by kernel_rfl) (by kernel_rfl) ⟨trivial, trivial, ⟨⟨0, rfl⟩, trivial⟩⟩ (fun _ _ _ h => h) ?_
                refine VA.va (i := 7) (listed' := LB 11 255) rfl (op_load_own (sz := 3) (o := 0) 0 (wrap64 ((wrap64 (2 * i111465)) + 1)).toNat 3 rfl rfl (get_map hx111968) TI24 rfl (fun h => absurd h (by decide)) (ltn rfl)) rfl (by kernel_rfl) (by kernel_rfl) (by kernel_rfl) (by kernel_rfl) ⟨trivial, trivial, ⟨⟨0, rfl⟩, trivial⟩⟩ (fun _ _ _ h => h) ?_
                refine VA.oneC (i := 8) (listed' := LB 11 511) (by kernel_rfl) rfl (o_call0 FO26 (queue_compare.ok k x111966.f0 x111966.f1 x111966.f2 x111968.f0 x111968.f1 x111968.f2 t111969 hA111970) rfl rfl (ltn rfl) (All_of .nil)) rfl (by kernel_rfl) ?_
                rintro _ _ _ ⟨rfl, rfl, rfl⟩
                refine ⟨⟨trivial, trivial, ⟨⟨0, rfl⟩, trivial⟩⟩, ?_⟩
                refine VA.va (i := 9) (listed' := LB 11 1023) rfl (op_cmp rfl rfl (congrArg some hb111971) (ltn rfl)) rfl (by kernel_rfl) (by kernel_rfl) (by kernel_rfl) (by kernel_rfl) ⟨trivial, trivial, ⟨⟨0, rfl⟩, trivial⟩⟩ (fun _ _ _ h => h) ?_
                refine VA.va (i := 10) (listed' := LB 11 2047) rfl (op_assign rfl (ltn rfl)) rfl (by kernel_rfl) (by kernel_rfl) (by kernel_rfl) (by kernel_rfl) ⟨trivial, trivial, ⟨⟨0, rfl⟩, trivial⟩⟩ (fun _ _ _ h => h) ?_
                refine VA.done (by kernel_rfl) ?_
                exact VN.meet0  [0] [0] trivial ⟨rfl, ⟨rfl, trivial⟩, trivial, rfl, by decide, rfl, by decide⟩
              intro _
              refine VC.ret ?_
              refine VR.inl (rs := [.tmp 6]) (.bool b111971) rfl (.tmp rfl .nil) rfl ?_
              refine VL.va (op_pick rfl rfl (ltn rfl)) rfl ?_
              refine VL.done ?_
              refine VN.then ?_
              by_cases c111972 : t111969 < 0
              · rw [if_pos c111972] at h
                obtain rfl : b111971 = true := hb111971.symm.trans (decide_eq_true c111972)
                refine VC.cond_t rfl ?_
                refine VC.region ?_
                refine VL.va (op_move rfl (ltn rfl)) rfl ?_
                refine VL.va (op_assign rfl (ltn rfl)) rfl ?_
                refine VL.done ?_
                refine VN.then ?_
                refine VC.seq ?_
                refine VC.seq ?_
                refine VC.region ?_
                refine VL.va (op_move rfl (ltn rfl)) rfl ?_
                refine VL.va (op_move rfl (ltn rfl)) rfl ?_
                refine VL.va (op_move rfl (ltn rfl)) rfl ?_
                refine VL.inle (vals := [(.slice (some ⟨g111487, 0, none⟩) l111468.length n111488), .int .i64 (wrap64 ((wrap64 ((wrap64 (2 * i111465)) + 1)) + 1)), .int .i64 i111465]) Try.func55 rfl (ope_meth_v 0 1 MI42_Less Try.underlying42 FO55 rfl rfl TI40 rfl (by decide) rfl rfl) (len rfl) (by rintro d ⟨⟩; exact ltn rfl) rfl ?_
                refine VC.seq ?_
                refine VC.region ?_
                refine VL.va (op_assign rfl (ltn rfl)) rfl ?_
                refine VL.done ?_
                refine VN.then ?_
                replace h := Option.bind_eq_some_iff.1 h
                obtain ⟨x111995, hx111995, h⟩ := h
                by_cases c111996 : 0 ≤ i111465
                · rw [if_pos c111996] at h
                  replace h := Option.bind_eq_some_iff.1 h
                  obtain ⟨x111997, hx111997, h⟩ := h
                  replace h := Option.bind_eq_some_iff.1 h
                  obtain ⟨t111998, hA111999, h⟩ := h
                  refine VC.letter (decide (t111998 < 0)) fun b112000 hb112000 => ?_
                  refine VC.join0 (⟨17, [(6, .bool b112000)], [], [(g90521, 40, [(.slice (some ⟨g111487, 0, none⟩) l111468.length n111488)])], [((.slice (some ⟨g111487, 0, none⟩) l111468.length n111488), 24, 3, l111468.map enc23)]⟩) (True) ?_ ?_
                  · refine VC.draw ⟨0, [], [], [], [((.slice (some ⟨g111487, 0, none⟩) l111468.length n111488), 24, 3, l111468.map enc23)]⟩ (by kernel_rfl) rfl (by kernel_rfl) (n := 11) (listed := LB 11 0) ?_
                    refine VA.va (i := 0) (listed' := LB 11 1) rfl (op_move rfl (ltn rfl)) rfl (by kernel_rfl) (by kernel_rfl) (by kernel_rfl) (by kernel_rfl) ⟨trivial, trivial, ⟨⟨0, rfl⟩, trivial⟩⟩ (fun _ _ _ h => h) ?_
                    refine VA.va (i := 1) (listed' := LB 11 3) rfl (op_move rfl (ltn rfl)) rfl (by kernel_rfl) (by kernel_rfl) (by kernel_rfl) (by kernel_rfl) ⟨trivial, trivial, ⟨⟨0, rfl⟩, trivial⟩⟩ (fun _ _ _ h => h) ?_
                    refine VA.va (i := 2) (listed' := LB 11 7) rfl (op_indexAddr Try.underlying40 TI24 rfl rfl c111965 (lt_get c111965 hx111995) (add_zero_at _ _) (ltn rfl)) rfl (by kernel_rfl) (by kernel_rfl) (by kernel_rfl) (by kernel_rfl) ⟨trivial, trivial, ⟨⟨0, rfl⟩, trivial⟩⟩ (fun _ _ _ h => h) ?_
                    refine VA.va (i := 3) (listed' := LB 11 15) rfl (op_load_own (sz := 3) (o := 0) 0 (wrap64 ((wrap64 ((wrap64 (2 * i111465)) + 1)) + 1)).toNat 3 rfl rfl (get_map hx111995) TI24 rfl (fun h => absurd h (by decide)) (ltn rfl)) rfl (by kernel_rfl) (by kernel_rfl) (by kernel_rfl) (by kernel_rfl) ⟨trivial, trivial, ⟨⟨0, rfl⟩, trivial⟩⟩ (fun _ _ _ h => h) ?_
                    refine VA.va (i := 4) (listed' := LB 11 31) rfl (op_move rfl (ltn rfl)) rfl (by kernel_rfl) (by kernel_rfl) (by kernel_rfl) (by kernel_rfl) ⟨trivial, trivial, ⟨⟨0, rfl⟩, trivial⟩⟩ (fun _ _ _ h => h) ?_
                    refine VA.va (i := 5) (listed' := LB 11 63) rfl (op_move rfl (ltn rfl)) rfl (by kernel_rfl) (by kernel_rfl) (by kernel_rfl) (by kernel_rfl) ⟨trivial, trivial, ⟨⟨0, rfl⟩, trivial⟩⟩ (fun _ _ _ h => h) ?_
                    refine VA.va (i := 6) (listed' := LB 11 127) rfl (op_indexAddr Try.underlying40 TI24 rfl rfl c111996 (lt_get c111996 hx111997) (add_zero_at _ _) (ltn rfl)) rfl (by kernel_rfl) (by kernel_rfl) (by kernel_rfl) (by kernel_rfl) ⟨trivial, trivial, ⟨⟨0, rfl⟩, trivial⟩⟩ (fun _ _ _ h => h) ?_
                    refine VA.va (i := 7) (listed' := LB 11 255) rfl (op_load_own (sz := 3) (o := 0) 0 i111465.toNat 3 rfl rfl (get_map hx111997) TI24 rfl (fun h => absurd h (by decide)) (ltn rfl)) rfl (by kernel_rfl) (by kernel_rfl) (by kernel_rfl) (by kernel_rfl) ⟨trivial, trivial, ⟨⟨0, rfl⟩, trivial⟩⟩ (fun _ _ _ h => h) ?_
                    refine VA.oneC (i := 8) (listed' := LB 11 511) (by kernel_rfl) rfl (o_call0 FO26 (queue_compare.ok k x111995.f0 x111995.f1 x111995.f2 x111997.f0 x111997.f1 x111997.f2 t111998 hA111999) rfl rfl (ltn rfl) (All_of .nil)) rfl (by kernel_rfl) ?_
                    rintro _ _ _ ⟨rfl, rfl, rfl⟩
                    refine ⟨⟨trivial, trivial, ⟨⟨0, rfl⟩, trivial⟩⟩, ?_⟩
                    refine VA.va (i := 9) (listed' := LB 11 1023) rfl (op_cmp rfl rfl (congrArg some hb112000) (ltn rfl)) rfl (by kernel_rfl) (by kernel_rfl) (by kernel_rfl) (by kernel_rfl) ⟨trivial, trivial, ⟨⟨0, rfl⟩, trivial⟩⟩ (fun _ _ _ h => h) ?_
                    refine VA.va (i := 10) (listed' := LB 11 2047) rfl (op_assign rfl (ltn rfl)) rfl (by kernel_rfl) (by kernel_rfl) (by kernel_rfl) (by kernel_rfl) ⟨trivial, trivial, ⟨⟨0, rfl⟩, trivial⟩⟩ (fun _ _ _ h => h) ?_
                    refine VA.done (by kernel_rfl) ?_
                    exact VN.meet0  [0] [0] trivial ⟨rfl, ⟨rfl, trivial⟩, trivial, rfl, by decide, rfl, by decide⟩
                  intro _
                  refine VC.ret ?_
                  refine VR.inl (rs := [.tmp 6]) (.bool b112000) rfl (.tmp rfl .nil) rfl ?_
                  by_cases c112001 : t111998 < 0
                  · rw [if_pos c112001] at h
                    obtain rfl : b112000 = true := hb112000.symm.trans (decide_eq_true c112001)
                    refine VL.va (op_not rfl rfl (ltn rfl)) rfl ?_
                    refine VL.done ?_
                    refine VN.then ?_
                    refine VC.cond_f rfl ?_
                    refine VC.skip ?_
                    refine VN.then ?_
                    refine VC.seq ?_
                    refine VC.region ?_
                    refine VL.va (op_move rfl (ltn rfl)) rfl ?_
                    refine VL.va (op_move rfl (ltn rfl)) rfl ?_
                    refine VL.va (op_move rfl (ltn rfl)) rfl ?_
                    replace h := Option.bind_eq_some_iff.1 h
                    obtain ⟨r112002, hA112003, h⟩ := h
                    refine VL.step1 (ope_ownd (vals := [(.slice (some ⟨g111487, 0, none⟩) l111468.length n111488), .int .i64 i111465, .int .i64 (wrap64 ((wrap64 ((wrap64 (2 * i111465)) + 1)) + 1))]) 0 rfl (ope_meth_v 0 1 MI42_Swap Try.underlying42 FO56 rfl rfl TI40 rfl (by decide) rfl rfl) (queue_waits_Swap.ok l111468 i111465 (wrap64 ((wrap64 ((wrap64 (2 * i111465)) + 1)) + 1)) (.slice (some ⟨g111487, 0, none⟩) l111468.length n111488) r112002 hA112003) (by simp) (ltn rfl)) rfl ?_
                    refine VL.done ?_
                    refine VN.then ?_
                    refine VC.region ?_
                    refine VL.va (op_move rfl (ltn rfl)) rfl ?_
                    refine VL.va (op_assign rfl (ltn rfl)) rfl ?_
                    refine VL.done ?_
                    refine VN.block ?_
                    refine VN.again [0] [0] (ihl53 (wrap64 ((wrap64 ((wrap64 (2 * i111465)) + 1)) + 1)) (.slice (some ⟨g111487, 0, none⟩) l111468.length n111488) r112002 h) ⟨rfl, ⟨rfl, rfl, rfl, rfl, rfl, trivial⟩, trivial, rfl, by decide, rfl, by decide⟩
                  · rw [if_neg c112001] at h
                    obtain rfl : b112000 = false := hb112000.symm.trans (decide_eq_false c112001)
                    refine VL.va (op_not rfl rfl (ltn rfl)) rfl ?_
                    refine VL.done ?_
                    refine VN.then ?_
                    refine VC.cond_t rfl ?_
                    refine VC.exit ?_
                    refine VX.then ?_
                    refine VX.miss (by decide) ?_
                    refine VX.then ?_
                    refine VX.hit ?_
                    refine VN.then ?_
                    refine VC.seq ?_
                    refine VC.region ?_
                    refine VL.va (op_move rfl (ltn rfl)) rfl ?_
                    refine VL.va (op_move rfl (ltn rfl)) rfl ?_
                    refine VL.letter (decide (i111465 > i104890)) fun b112005 hb112005 => ?_
                    refine VL.va (op_cmp rfl rfl (congrArg some hb112005) (ltn rfl)) rfl ?_
                    refine VL.va (op_assign rfl (ltn rfl)) rfl ?_
                    refine VL.done ?_
                    refine VN.then ?_
                    refine VC.ret ?_
                    refine VR.inl (rs := [.tmp 6]) (.bool b112005) rfl (.tmp rfl .nil) rfl ?_
                    refine VL.done ?_
                    refine VN.block ?_
                    refine VN.then ?_
                    refine VC.region ?_
                    refine VL.va (op_move rfl (ltn rfl)) rfl ?_
                    refine VL.va (op_ari64 rfl rfl rfl (ltn rfl)) rfl ?_
                    refine VL.va (op_assign rfl (ltn rfl)) rfl ?_
                    refine VL.done ?_
                    refine VN.again [0] [0] (ihl46 (wrap64 (i104890 - 1)) (.slice (some ⟨g111487, 0, none⟩) l111468.length n111488) l111468 h) ⟨rfl, ⟨rfl, rfl, rfl, trivial⟩, trivial, rfl, by decide, rfl, by decide⟩
                · rw [if_neg c111996] at h; cases h
              · rw [if_neg c111972] at h
                obtain rfl : b111971 = false := hb111971.symm.trans (decide_eq_false c111972)
                refine VC.cond_f rfl ?_
                refine VC.skip ?_
                refine VN.then ?_
                refine VC.seq ?_
                refine VC.seq ?_
                refine VC.region ?_
                refine VL.va (op_move rfl (ltn rfl)) rfl ?_
                refine VL.va (op_move rfl (ltn rfl)) rfl ?_
                refine VL.va (op_move rfl (ltn rfl)) rfl ?_
                refine VL.inle (vals := [(.slice (some ⟨g111487, 0, none⟩) l111468.length n111488), .int .i64 (wrap64 ((wrap64 (2 * i111465)) + 1)), .int .i64 i111465]) Try.func55 rfl (ope_meth_v 0 1 MI42_Less Try.underlying42 FO55 rfl rfl TI40 rfl (by decide) rfl rfl) (len rfl) (by rintro d ⟨⟩; exact ltn rfl) rfl ?_
                refine VC.seq ?_
                refine VC.region ?_
                refine VL.va (op_assign rfl (ltn rfl)) rfl ?_
                refine VL.done ?_
                refine VN.then ?_
                replace h := Option.bind_eq_some_iff.1 h
                obtain ⟨x112028, hx112028, h⟩ := h
                by_cases c112029 : 0 ≤ i111465
                · rw [if_pos c112029] at h
                  replace h := Option.bind_eq_some_iff.1 h
                  obtain ⟨x112030, hx112030, h⟩ := h
                  replace h := Option.bind_eq_some_iff.1 h
                  obtain ⟨t112031, hA112032, h⟩ := h
                  refine VC.letter (decide (t112031 < 0)) fun b112033 hb112033 => ?_
                  refine VC.join0 (⟨17, [(6, .bool b112033)], [], [(g90521, 40, [(.slice (some ⟨g111487, 0, none⟩) l111468.length n111488)])], [((.slice (some ⟨g111487, 0, none⟩) l111468.length n111488), 24, 3, l111468.map enc23)]⟩) (True) ?_ ?_
                  · refine VC.draw ⟨0, [], [], [], [((.slice (some ⟨g111487, 0, none⟩) l111468.length n111488), 24, 3, l111468.map enc23)]⟩ (by kernel_rfl) rfl (by kernel_rfl) (n := 11) (listed := LB 11 0) ?_
                    refine VA.va (i := 0) (listed' := LB 11 1) rfl (op_move rfl (ltn rfl)) rfl (by kernel_rfl) (by kernel_rfl) (by kernel_rfl) (by kernel_rfl) ⟨trivial, trivial, ⟨⟨0, rfl⟩, trivial⟩⟩ (fun _ _ _ h => h) ?_
                    refine VA.va (i := 1) (listed' := LB 11 3) rfl (op_move rfl (ltn rfl)) rfl (by kernel_rfl) (by kernel_rfl) (by kernel_rfl) (by kernel_rfl) ⟨trivial, trivial, ⟨⟨0, rfl⟩, trivial⟩⟩ (fun _ _ _ h => h) ?_
                    refine VA.va (i := 2) (listed' := LB 11 7) rfl (op_indexAddr Try.underlying40 TI24 rfl rfl c111967 (lt_get c111967 hx112028) (add_zero_at _ _) (ltn rfl)) rfl (by kernel_rfl) (by kernel_rfl) (by kernel_rfl) (by kernel_rfl) ⟨trivial, trivial, ⟨⟨0, rfl⟩, trivial⟩⟩ (fun _ _ _ h => h) ?_
                    refine VA.va (i := 3) (listed' := LB 11 15) rfl (op_load_own (sz := 3) (o := 0) 0 (wrap64 ((wrap64 (2 * i111465)) + 1)).toNat 3 rfl rfl (get_map hx112028) TI24 rfl (fun h => absurd h (by decide)) (ltn rfl)) rfl (by kernel_rfl) (by kernel_rfl) (by kernel_rfl) (by kernel_rfl) ⟨trivial, trivial, ⟨⟨0, rfl⟩, trivial⟩⟩ (fun _ _ _ h => h) ?_
                    refine VA.va (i := 4) (listed' := LB 11 31) rfl (op_move rfl (ltn rfl)) rfl (by kernel_rfl) (by kernel_rfl) (by kernel_rfl) (by kernel_rfl) ⟨trivial, trivial, ⟨⟨0, rfl⟩, trivial⟩⟩ (fun _ _ _ h => h) ?_
                    refine VA.va (i := 5) (listed' := LB 11 63) rfl (op_move rfl (ltn rfl)) rfl (by kernel_rfl) (by kernel_rfl) (by kernel_rfl) (by kernel_rfl) ⟨trivial, trivial, ⟨⟨0, rfl⟩, trivial⟩⟩ (fun _ _ _ h => h) ?_
                    refine VA.va (i := 6) (listed' := LB 11 127) rfl (op_indexAddr Try.underlying40 TI24 rfl rfl c112029 (lt_get c112029 hx112030) (add_zero_at _ _) (ltn rfl)) rfl (by kernel_rfl) (by kernel_rfl) (by kernel_rfl) (by kernel_rfl) ⟨trivial, trivial, ⟨⟨0, rfl⟩, trivial⟩⟩ (fun _ _ _ h => h) ?_
                    refine VA.va (i := 7) (listed' := LB 11 255) rfl (op_load_own (sz := 3) (o := 0) 0 i111465.toNat 3 rfl rfl (get_map hx112030) TI24 rfl (fun h => absurd h (by decide)) (ltn rfl)) rfl (by kernel_rfl) (by kernel_rfl) (by kernel_rfl) (by kernel_rfl) ⟨trivial, trivial, ⟨⟨0, rfl⟩, trivial⟩⟩ (fun _ _ _ h => h) ?_
                    refine VA.oneC (i := 8) (listed' := LB 11 511) (by kernel_rfl) rfl (o_call0 FO26 (queue_compare.ok k x112028.f0 x112028.f1 x112028.f2 x112030.f0 x112030.f1 x112030.f2 t112031 hA112032) rfl rfl (ltn rfl) (All_of .nil)) rfl (by kernel_rfl) ?_
                    rintro _ _ _ ⟨rfl, rfl, rfl⟩
                    refine ⟨⟨trivial, trivial, ⟨⟨0, rfl⟩, trivial⟩⟩, ?_⟩
                    refine VA.va (i := 9) (listed' := LB 11 1023) rfl (op_cmp rfl rfl (congrArg some hb112033) (ltn rfl)) rfl (by kernel_rfl) (by kernel_rfl) (by kernel_rfl) (by kernel_rfl) ⟨trivial, trivial, ⟨⟨0, rfl⟩, trivial⟩⟩ (fun _ _ _ h => h) ?_
                    refine VA.va (i := 10) (listed' := LB 11 2047) rfl (op_assign rfl (ltn rfl)) rfl (by kernel_rfl) (by kernel_rfl) (by kernel_rfl) (by kernel_rfl) ⟨trivial, trivial, ⟨⟨0, rfl⟩, trivial⟩⟩ (fun _ _ _ h => h) ?_
                    refine VA.done (by kernel_rfl) ?_
                    exact VN.meet0  [0] [0] trivial ⟨rfl, ⟨rfl, trivial⟩, trivial, rfl, by decide, rfl, by decide⟩
                  intro _
                  refine VC.ret ?_
                  refine VR.inl (rs := [.tmp 6]) (.bool b112033) rfl (.tmp rfl .nil) rfl ?_
                  by_cases c112034 : t112031 < 0
                  · rw [if_pos c112034] at h
                    obtain rfl : b112033 = true := hb112033.symm.trans (decide_eq_true c112034)
                    refine VL.va (op_not rfl rfl (ltn rfl)) rfl ?_
                    refine VL.done ?_
                    refine VN.then ?_
                    refine VC.cond_f rfl ?_
                    refine VC.skip ?_
                    refine VN.then ?_
                    refine VC.seq ?_
                    refine VC.region ?_
                    refine VL.va (op_move rfl (ltn rfl)) rfl ?_
                    refine VL.va (op_move rfl (ltn rfl)) rfl ?_
                    refine VL.va (op_move rfl (ltn rfl)) rfl ?_
                    replace h := Option.bind_eq_some_iff.1 h
                    obtain ⟨r112035, hA112036, h⟩ := h
                    refine VL.step1 (ope_ownd (vals := [(.slice (some ⟨g111487, 0, none⟩) l111468.length n111488), .int .i64 i111465, .int .i64 (wrap64 ((wrap64 (2 * i111465)) + 1))]) 0 rfl (ope_meth_v 0 1 MI42_Swap Try.underlying42 FO56 rfl rfl TI40 rfl (by decide) rfl rfl) (queue_waits_Swap.ok l111468 i111465 (wrap64 ((wrap64 (2 * i111465)) + 1)) (.slice (some ⟨g111487, 0, none⟩) l111468.length n111488) r112035 hA112036) (by simp) (ltn rfl)) rfl ?_
                    refine VL.done ?_
                    refine VN.then ?_
                    refine VC.region ?_
                    refine VL.va (op_move rfl (ltn rfl)) rfl ?_
                    refine VL.va (op_assign rfl (ltn rfl)) rfl ?_
                    refine VL.done ?_
                    refine VN.block ?_
                    refine VN.again [0] [0] (ihl53 (wrap64 ((wrap64 (2 * i111465)) + 1)) (.slice (some ⟨g111487, 0, none⟩) l111468.length n111488) r112035 h) ⟨rfl, ⟨rfl, rfl, rfl, rfl, rfl, trivial⟩, trivial, rfl, by decide, rfl, by decide⟩
                  · rw [if_neg c112034] at h
                    obtain rfl : b112033 = false := hb112033.symm.trans (decide_eq_false c112034)
                    refine VL.va (op_not rfl rfl (ltn rfl)) rfl ?_
                    refine VL.done ?_
                    refine VN.then ?_
                    refine VC.cond_t rfl ?_
                    refine VC.exit ?_
                    refine VX.then ?_
                    refine VX.miss (by decide) ?_
                    refine VX.then ?_
                    refine VX.hit ?_
                    refine VN.then ?_
                    refine VC.seq ?_
                    refine VC.region ?_
                    refine VL.va (op_move rfl (ltn rfl)) rfl ?_
                    refine VL.va (op_move rfl (ltn rfl)) rfl ?_
                    refine VL.letter (decide (i111465 > i104890)) fun b112038 hb112038 => ?_
                    refine VL.va (op_cmp rfl rfl (congrArg some hb112038) (ltn rfl)) rfl ?_
                    refine VL.va (op_assign rfl (ltn rfl)) rfl ?_
                    refine VL.done ?_
                    refine VN.then ?_
                    refine VC.ret ?_
                    refine VR.inl (rs := [.tmp 6]) (.bool b112038) rfl (.tmp rfl .nil) rfl ?_
                    refine VL.done ?_
                    refine VN.block ?_
                    refine VN.then ?_
                    refine VC.region ?_
                    refine VL.va (op_move rfl (ltn rfl)) rfl ?_
                    refine VL.va (op_ari64 rfl rfl rfl (ltn rfl)) rfl ?_
                    refine VL.va (op_assign rfl (ltn rfl)) rfl ?_
                    refine VL.done ?_
                    refine VN.again [0] [0] (ihl46 (wrap64 (i104890 - 1)) (.slice (some ⟨g111487, 0, none⟩) l111468.length n111488) l111468 h) ⟨rfl, ⟨rfl, rfl, rfl, trivial⟩, trivial, rfl, by decide, rfl, by decide⟩
                · rw [if_neg c112029] at h; cases h
            · rw [if_neg c111967] at h; cases h
          · rw [if_neg c111965] at h; cases h
        · rw [if_neg c111964] at h
          obtain rfl : b111963 = false := hb111963.symm.trans (decide_eq_false c111964)
          refine VL.un rfl rfl (ltn rfl) ?_
          refine VL.un rfl rfl (ltn rfl) ?_
          refine VL.un rfl rfl (ltn rfl) ?_
          refine VL.un rfl rfl (ltn rfl) ?_
          refine VL.va (op_pick rfl rfl (ltn rfl)) rfl ?_
          refine VL.done ?_
          refine VN.then ?_
          refine VC.cond_f rfl ?_
          refine VC.skip ?_
          refine VN.then ?_
          refine VC.seq ?_
          refine VC.seq ?_
          refine VC.region ?_
          refine VL.va (op_move rfl (ltn rfl)) rfl ?_
          refine VL.va (op_move rfl (ltn rfl)) rfl ?_
          refine VL.va (op_move rfl (ltn rfl)) rfl ?_
          refine VL.inle (vals := [v111467, .int .i64 (wrap64 ((wrap64 (2 * i111465)) + 1)), .int .i64 i111465]) Try.func55 rfl (ope_meth_v 0 1 MI42_Less Try.underlying42 FO55 rfl rfl TI40 rfl (by decide) rfl rfl) (len rfl) (by rintro d ⟨⟩; exact ltn rfl) rfl ?_
          refine VC.seq ?_
          refine VC.region ?_
          refine VL.va (op_assign rfl (ltn rfl)) rfl ?_
          refine VL.done ?_
          refine VN.then ?_
          by_cases c112064 : 0 ≤ wrap64 ((wrap64 (2 * i111465)) + 1)
          · rw [if_pos c112064] at h
            replace h := Option.bind_eq_some_iff.1 h
            obtain ⟨x112065, hx112065, h⟩ := h
            by_cases c112066 : 0 ≤ i111465
            · rw [if_pos c112066] at h
              replace h := Option.bind_eq_some_iff.1 h
              obtain ⟨x112067, hx112067, h⟩ := h
              replace h := Option.bind_eq_some_iff.1 h
              obtain ⟨t112068, hA112069, h⟩ := h
              refine VC.letter (decide (t112068 < 0)) fun b112070 hb112070 => ?_
              refine VC.openR (m := l111468.length) 0 lenm rfl (pos_get hx112065) ?_
              rintro g111487 n111488 rfl
              refine VC.join0 (⟨17, [(6, .bool b112070)], [], [(g90521, 40, [(.slice (some ⟨g111487, 0, none⟩) l111468.length n111488)])], [((.slice (some ⟨g111487, 0, none⟩) l111468.length n111488), 24, 3, l111468.map enc23)]⟩) (True) ?_ ?_
              · refine VC.draw ⟨0, [], [], [], [((.slice (some ⟨g111487, 0, none⟩) l111468.length n111488), 24, 3, l111468.map enc23)]⟩ (by kernel_rfl) rfl (by kernel_rfl) (n := 11) (listed := LB 11 0) ?_
                refine VA.va (i := 0) (listed' := LB 11 1) rfl (op_move rfl (ltn rfl)) rfl (by kernel_rfl) (by kernel_rfl) (by kernel_rfl) (by kernel_rfl) ⟨trivial, trivial, ⟨⟨0, rfl⟩, trivial⟩⟩ (fun _ _ _ h => h) ?_
                refine VA.va (i := 1) (listed' := LB 11 3) rfl (op_move rfl (ltn rfl)) rfl (by kernel_rfl) (by kernel_rfl) (by kernel_rfl) (by kernel_rfl) ⟨trivial, trivial, ⟨⟨0, rfl⟩, trivial⟩⟩ (fun _ _ _ h => h) ?_
                refine VA.va (i := 2) (listed' := LB 11 7) rfl (op_indexAddr Try.underlying40 TI24 rfl rfl c112064 (lt_get c112064 hx112065) (add_zero_at _ _) (ltn rfl)) rfl (by kernel_rfl) (by kernel_rfl) (by kernel_rfl) (by kernel_rfl) ⟨trivial, trivial, ⟨⟨0, rfl⟩, trivial⟩⟩ (fun _ _ _ h => h) ?_
                refine VA.va (i := 3) (listed' := LB 11 15) rfl (op_load_own (sz := 3) (o := 0) 0 (wrap64 ((wrap64 (2 * i111465)) + 1)).toNat 3 rfl rfl (get_map hx112065) TI24 rfl (fun h => absurd h (by decide)) (ltn rfl)) rfl (by kernel_rfl) (by kernel_rfl) (by kernel_rfl) (by kernel_rfl) ⟨trivial, trivial, ⟨⟨0, rfl⟩, trivial⟩⟩ (fun _ _ _ h => h) ?_
                refine VA.va (i := 4) (listed' := LB 11 31) rfl (op_move rfl (ltn rfl)) rfl (by kernel_rfl) (by kernel_rfl) (by kernel_rfl) (by kernel_rfl) ⟨trivial, trivial, ⟨⟨0, rfl⟩, trivial⟩⟩ (fun _ _ _ h => h) ?_
                refine VA.va (i := 5) (listed' := LB 11 63) rfl (op_move rfl (ltn rfl)) rfl (by kernel_rfl) (by kernel_rfl) (by kernel_rfl) (by kernel_rfl) ⟨trivial, trivial, ⟨⟨0, rfl⟩, trivial⟩⟩ (fun _ _ _ h => h) ?_
                refine VA.va (i := 6) (listed' := LB 11 127) rfl (op_indexAddr Try.underlying40 TI24 rfl rfl c112066 (lt_get c112066 hx112067) (add_zero_at _ _) (ltn rfl)) rfl (by kernel_rfl) (by kernel_rfl) (by kernel_rfl) (by kernel_rfl) ⟨trivial, trivial, ⟨⟨0, rfl⟩, trivial⟩⟩ (fun _ _ _ h => h) ?_
                refine VA.va (i := 7) (listed' := LB 11 255) rfl (op_load_own (sz := 3) (o := 0) 0 i111465.toNat 3 rfl rfl (get_map hx112067) TI24 rfl (fun h => absurd h (by decide)) (ltn rfl)) rfl (by kernel_rfl) (by kernel_rfl) (by kernel_rfl) (by kernel_rfl) ⟨trivial, trivial, ⟨⟨0, rfl⟩, trivial⟩⟩ (fun _ _ _ h => h) ?_
                refine VA.oneC (i := 8) (listed' := LB 11 511) (by kernel_rfl) rfl (o_call0 FO26 (queue_compare.ok k x112065.f0 x112065.f1 x112065.f2 x112067.f0 x112067.f1 x112067.f2 t112068 hA112069) rfl rfl (ltn rfl) (All_of .nil)) rfl (by kernel_rfl) ?_
                rintro _ _ _ ⟨rfl, rfl, rfl⟩
                refine ⟨⟨trivial, trivial, ⟨⟨0, rfl⟩, trivial⟩⟩, ?_⟩
                refine VA.va (i := 9) (listed' := LB 11 1023) rfl (op_cmp rfl rfl (congrArg some hb112070) (ltn rfl)) rfl (by kernel_rfl) (by kernel_rfl) (by kernel_rfl) (by kernel_rfl) ⟨trivial, trivial, ⟨⟨0, rfl⟩, trivial⟩⟩ (fun _ _ _ h => h) ?_
                refine VA.va (i := 10) (listed' := LB 11 2047) rfl (op_assign rfl (ltn rfl)) rfl (by kernel_rfl) (by kernel_rfl) (by kernel_rfl) (by kernel_rfl) ⟨trivial, trivial, ⟨⟨0, rfl⟩, trivial⟩⟩ (fun _ _ _ h => h) ?_
                refine VA.done (by kernel_rfl) ?_
                exact VN.meet0  [0] [0] trivial ⟨rfl, ⟨rfl, trivial⟩, trivial, rfl, by decide, rfl, by decide⟩
              intro _
              refine VC.ret ?_
              refine VR.inl (rs := [.tmp 6]) (.bool b112070) rfl (.tmp rfl .nil) rfl ?_
              by_cases c112071 : t112068 < 0
              · rw [if_pos c112071] at h
                obtain rfl : b112070 = true := hb112070.symm.trans (decide_eq_true c112071)
                refine VL.va (op_not rfl rfl (ltn rfl)) rfl ?_
                refine VL.done ?_
                refine VN.then ?_
                refine VC.cond_f rfl ?_
                refine VC.skip ?_
                refine VN.then ?_
                refine VC.seq ?_
                refine VC.region ?_
                refine VL.va (op_move rfl (ltn rfl)) rfl ?_
                refine VL.va (op_move rfl (ltn rfl)) rfl ?_
                refine VL.va (op_move rfl (ltn rfl)) rfl ?_
                replace h := Option.bind_eq_some_iff.1 h
                obtain ⟨r112072, hA112073, h⟩ := h
                refine VL.step1 (ope_ownd (vals := [(.slice (some ⟨g111487, 0, none⟩) l111468.length n111488), .int .i64 i111465, .int .i64 (wrap64 ((wrap64 (2 * i111465)) + 1))]) 0 rfl (ope_meth_v 0 1 MI42_Swap Try.underlying42 FO56 rfl rfl TI40 rfl (by decide) rfl rfl) (queue_waits_Swap.ok l111468 i111465 (wrap64 ((wrap64 (2 * i111465)) + 1)) (.slice (some ⟨g111487, 0, none⟩) l111468.length n111488) r112072 hA112073) (by simp) (ltn rfl)) rfl ?_
                refine VL.done ?_
                refine VN.then ?_
                refine VC.region ?_
                refine VL.va (op_move rfl (ltn rfl)) rfl ?_
                refine VL.va (op_assign rfl (ltn rfl)) rfl ?_
                refine VL.done ?_
                refine VN.block ?_
                refine VN.again [0] [0] (ihl53 (wrap64 ((wrap64 (2 * i111465)) + 1)) (.slice (some ⟨g111487, 0, none⟩) l111468.length n111488) r112072 h) ⟨rfl, ⟨rfl, rfl, rfl, rfl, rfl, trivial⟩, trivial, rfl, by decide, rfl, by decide⟩
              · rw [if_neg c112071] at h
                obtain rfl : b112070 = false := hb112070.symm.trans (decide_eq_false c112071)
                refine VL.va (op_not rfl rfl (ltn rfl)) rfl ?_
                refine VL.done ?_
                refine VN.then ?_
                refine VC.cond_t rfl ?_
                refine VC.exit ?_
                refine VX.then ?_
                refine VX.miss (by decide) ?_
                refine VX.then ?_
                refine VX.hit ?_
                refine VN.then ?_
                refine VC.seq ?_
                refine VC.region ?_
                refine VL.va (op_move rfl (ltn rfl)) rfl ?_
                refine VL.va (op_move rfl (ltn rfl)) rfl ?_
                refine VL.letter (decide (i111465 > i104890)) fun b112075 hb112075 => ?_
                refine VL.va (op_cmp rfl rfl (congrArg some hb112075) (ltn rfl)) rfl ?_
                refine VL.va (op_assign rfl (ltn rfl)) rfl ?_
                refine VL.done ?_
                refine VN.then ?_
                refine VC.ret ?_
                refine VR.inl (rs := [.tmp 6]) (.bool b112075) rfl (.tmp rfl .nil) rfl ?_
                refine VL.done ?_
                refine VN.block ?_
                refine VN.then ?_
                refine VC.region ?_
                refine VL.va (op_move rfl (ltn rfl)) rfl ?_
                refine VL.va (op_ari64 rfl rfl rfl (ltn rfl)) rfl ?_
                refine VL.va (op_assign rfl (ltn rfl)) rfl ?_
                refine VL.done ?_
                refine VN.again [0] [0] (ihl46 (wrap64 (i104890 - 1)) (.slice (some ⟨g111487, 0, none⟩) l111468.length n111488) l111468 h) ⟨rfl, ⟨rfl, rfl, rfl, trivial⟩, trivial, rfl, by decide, rfl, by decide⟩
            · rw [if_neg c112066] at h; cases h
          · rw [if_neg c112064] at h; cases h
    · rw [if_neg c108489] at h
      obtain rfl : b108488 = false := hb108488.symm.trans (decide_eq_false c108489)
      refine VC.cond_f rfl ?_
      refine VC.exit ?_
      refine VX.then ?_
      refine VX.then ?_
      refine VX.hit ?_
      refine VN.inl (rs := []) (.tuple #[]) rfl .nil rfl ?_
      refine VL.done ?_
      refine VN.then ?_
      refine VC.seq ?_
      refine VC.region ?_
      refine VL.va (op_load 0 1 rfl rfl TI40 rfl (by decide) (ltn rfl)) rfl ?_
      refine VL.va (op_assign rfl (ltn rfl)) rfl ?_
      refine VL.va (op_assign rfl (ltn rfl)) rfl ?_
      refine VL.done ?_
      refine VN.then ?_
      refine VC.ret ?_
      simp only [Option.some.injEq, Prod.mk.injEq] at h
      obtain ⟨rfl, rfl⟩ := h
      exact VR.fn (rs := [.tmp 2, .tmp 3]) [] [(v104892, 24, 3, l104893.map enc23)] [0] rfl (.tmp rfl (.tmp rfl .nil)) ⟨v104892, rfl, rfl, rfl⟩ trivial rfl (by decide)
set_option maxHeartbeats 4000000 in
set_option maxRecDepth 100000 in
theorem tarrylaw06_alive.ok (k : Nat)   (r1 : Bool) (h : tarrylaw06_alive.f k = some r1) :
    VCalls Try.prog 14 [] [] (fun v G own => v = .bool r1 ∧ G = [] ∧ own = []) := by
  refine VCalls.intro Try.func14 rfl (len rfl) fun E hC => ?_
  unfold tarrylaw06_alive.f at h
  refine VC.seq ?_
  refine VC.region ?_
  refine VL.va (op_assign rfl (ltn rfl)) rfl ?_
  refine VL.done ?_
  refine VN.then ?_
  refine VC.seq ?_
  refine VC.region ?_
  refine VL.va (op_build (vals := [(0, .int .i64 1), (1, .int .i64 1), (2, .int .i64 1)]) (vcs := [(0, [.int .i64 1]), (1, [.int .i64 1]), (2, [.int .i64 1])]) (cells := [.int .i64 1, .int .i64 1, .int .i64 1]) SI24 rfl (.cons ⟨rfl, (.c rfl)⟩ (.cons ⟨rfl, (.c rfl)⟩ (.cons ⟨rfl, (.c rfl)⟩ .nil))) (by kernel_rfl) (ltn rfl)) rfl ?_
  refine VL.va (op_build (vals := [(0, .int .i64 0), (1, .int .i64 9), (2, .int .i64 2)]) (vcs := [(0, [.int .i64 0]), (1, [.int .i64 9]), (2, [.int .i64 2])]) (cells := [.int .i64 0, .int .i64 9, .int .i64 2]) SI24 rfl (.cons ⟨rfl, (.c rfl)⟩ (.cons ⟨rfl, (.c rfl)⟩ (.cons ⟨rfl, (.c rfl)⟩ .nil))) (by kernel_rfl) (ltn rfl)) rfl ?_
  refine VL.sG (o_buildSlice (vals := [(0, .agg #[.int .i64 1, .int .i64 1, .int .i64 1]), (1, .agg #[.int .i64 0, .int .i64 9, .int .i64 2])]) (cells := #[.int .i64 1, .int .i64 1, .int .i64 1, .int .i64 0, .int .i64 9, .int .i64 2]) (es := List.map enc23 ([(⟨1, 1, 1⟩ : S23), (⟨0, 9, 2⟩ : S23)] : List S23)) Try.underlying22 TI24 Z24 rfl (by decide) (by decide) (by kernel_rfl) (by kernel_rfl) rfl (flat_map enc23_ok _) (ltn rfl)) rfl ?_
  intro v45590
  replace h := Option.bind_eq_some_iff.1 h
  obtain ⟨⟨r112076, t112077⟩, hA112078, h⟩ := h
  dsimp only at h
  refine VL.sC (o_call_b0 FO8 (queue_Make.ok k ([(⟨1, 1, 1⟩ : S23), (⟨0, 9, 2⟩ : S23)] : List S23) v45590 r112076 t112077 hA112078) rfl rfl (ltn rfl) (All_of (.cons (.inr (.inl ⟨_, List.mem_of_getElem? (i := 0) rfl, rfl⟩)) .nil)) (by rintro _ _ _ ⟨v112080, rfl, rfl, rfl⟩; rfl)) rfl ?_
  rintro _ _ _ ⟨v112080, rfl, rfl, rfl⟩
  refine VL.va (op_move rfl (ltn rfl)) rfl ?_
  refine VL.va (op_extract rfl rfl (ltn rfl)) rfl ?_
  refine VL.va (op_extract rfl rfl (ltn rfl)) rfl ?_
  refine VL.va (op_assign rfl (ltn rfl)) rfl ?_
  refine VL.va (op_assign rfl (ltn rfl)) rfl ?_
  refine VL.done ?_
  refine VN.then ?_
  refine VC.seq ?_
  refine VC.region ?_
  refine VL.va (op_move rfl (ltn rfl)) rfl ?_
  replace h := Option.bind_eq_some_iff.1 h
  obtain ⟨⟨r112081, t112082, t112083, t112084, t112085⟩, hA112086, h⟩ := h
  dsimp only at h
  refine VL.sC (o_call_b0 FO19 (queue_Pop.ok k r112076 v112080 r112081 t112082 t112083 t112084 t112085 hA112086) rfl rfl (ltn rfl) (All_of (.cons (.inr (.inl ⟨_, List.mem_of_getElem? (i := 0) rfl, rfl⟩)) .nil)) (by rintro _ _ _ ⟨v112088, rfl, rfl, rfl⟩; rfl)) rfl ?_
  rintro _ _ _ ⟨v112088, rfl, rfl, rfl⟩
  refine VL.va (op_move rfl (ltn rfl)) rfl ?_
  refine VL.va (op_extract rfl rfl (ltn rfl)) rfl ?_
  refine VL.va (op_extract rfl rfl (ltn rfl)) rfl ?_
  refine VL.va (op_extract rfl rfl (ltn rfl)) rfl ?_
  refine VL.sG (o_alloc Z24 ZL24 (ltn rfl)) rfl ?_
  intro g112089
  refine VL.va (op_assign rfl (ltn rfl)) rfl ?_
  refine VL.step1 (o_store 0 3 rfl rfl rfl TI24 (.agg (.of rfl)) rfl (len rfl)) rfl ?_
  refine VL.va (op_assign rfl (ltn rfl)) rfl ?_
  refine VL.done ?_
  refine VN.then ?_
  refine VC.seq ?_
  refine VC.region ?_
  refine VL.va (op_move rfl (ltn rfl)) rfl ?_
  refine VL.letter ((t112077 == 0)) fun b112097 hb112097 => ?_
  refine VL.va (op_cmp rfl rfl (congrArg some hb112097) (ltn rfl)) rfl ?_
  refine VL.va (op_move rfl (ltn rfl)) rfl ?_
  by_cases c112098 : t112077 = 0
  · rw [if_pos c112098] at h
    obtain rfl : b112097 = true := hb112097.symm.trans (beq_iff_eq.2 c112098)
    refine VL.va (op_move rfl (ltn rfl)) rfl ?_
    refine VL.letter ((t112085 == 0)) fun b112099 hb112099 => ?_
    refine VL.va (op_cmp rfl rfl (congrArg some hb112099) (ltn rfl)) rfl ?_
    refine VL.va (op_pick rfl rfl (ltn rfl)) rfl ?_
    refine VL.va (op_move rfl (ltn rfl)) rfl ?_
    by_cases c112100 : t112085 = 0
    · rw [if_pos c112100] at h
      obtain rfl : b112099 = true := hb112099.symm.trans (beq_iff_eq.2 c112100)
      refine VL.va (op_fieldAddr FI24_2 rfl (add_at _ _ _) (ltn rfl)) rfl ?_
      refine VL.va (op_load 0 1 rfl rfl TI3 rfl (by decide) (ltn rfl)) rfl ?_
      refine VL.letter ((t112084 == 2)) fun b112101 hb112101 => ?_
      refine VL.va (op_cmp rfl rfl (congrArg some hb112101) (ltn rfl)) rfl ?_
      refine VL.va (op_pick rfl rfl (ltn rfl)) rfl ?_
      refine VL.va (op_move rfl (ltn rfl)) rfl ?_
      by_cases c112102 : t112084 = 2
      · rw [if_pos c112102] at h
        obtain rfl : b112101 = true := hb112101.symm.trans (beq_iff_eq.2 c112102)
        refine VL.va (op_move rfl (ltn rfl)) rfl ?_
        refine VL.va (op_len_own (m := r112081.length) 0 lenm Try.underlying22 rfl rfl (ltn rfl)) rfl ?_
        refine VL.letter (((r112081.length : Int) == 1)) fun b112103 hb112103 => ?_
        refine VL.va (op_cmp rfl rfl (congrArg some hb112103) (ltn rfl)) rfl ?_
        refine VL.va (op_pick rfl rfl (ltn rfl)) rfl ?_
        refine VL.va (op_assign rfl (ltn rfl)) rfl ?_
        refine VL.done ?_
        refine VN.then ?_
        refine VC.ret ?_
        obtain rfl := Option.some.inj h
        subst hb112103
        exact VR.fn (rs := [.tmp 0]) [] [] [] rfl (.tmp rfl .nil) ⟨rfl, rfl, rfl⟩ trivial rfl (by decide)
      · rw [if_neg c112102] at h
        obtain rfl : b112101 = false := hb112101.symm.trans (beq_eq_false_iff_ne.2 c112102)
        refine VL.un rfl rfl (ltn rfl) ?_
        refine VL.un rfl rfl (ltn rfl) ?_
        refine VL.un rfl rfl (ltn rfl) ?_
        refine VL.va (op_pick rfl rfl (ltn rfl)) rfl ?_
        refine VL.va (op_assign rfl (ltn rfl)) rfl ?_
        refine VL.done ?_
        refine VN.then ?_
        refine VC.ret ?_
        obtain rfl := Option.some.inj h
        exact VR.fn (rs := [.tmp 0]) [] [] [] rfl (.tmp rfl .nil) ⟨rfl, rfl, rfl⟩ trivial rfl (by decide)
    · rw [if_neg c112100] at h
      obtain rfl : b112099 = false := hb112099.symm.trans (beq_eq_false_iff_ne.2 c112100)
      refine VL.un rfl rfl (ltn rfl) ?_
      refine VL.un rfl rfl (ltn rfl) ?_
      refine VL.un rfl rfl (ltn rfl) ?_
      refine VL.va (op_pick rfl rfl (ltn rfl)) rfl ?_
      refine VL.va (op_move rfl (ltn rfl)) rfl ?_
      refine VL.un rfl rfl (ltn rfl) ?_
      refine VL.un rfl rfl (ltn rfl) ?_
      refine VL.un rfl rfl (ltn rfl) ?_
      refine VL.va (op_pick rfl rfl (ltn rfl)) rfl ?_
      refine VL.va (op_assign rfl (ltn rfl)) rfl ?_
      refine VL.done ?_
      refine VN.then ?_
      refine VC.ret ?_
      obtain rfl := Option.some.inj h
      exact VR.fn (rs := [.tmp 0]) [] [] [] rfl (.tmp rfl .nil) ⟨rfl, rfl, rfl⟩ trivial rfl (by decide)
  · rw [if_neg c112098] at h
    obtain rfl : b112097 = false := hb112097.symm.trans (beq_eq_false_iff_ne.2 c112098)
    refine VL.un rfl rfl (ltn rfl) ?_
    refine VL.un rfl rfl (ltn rfl) ?_
    refine VL.va (op_pick rfl rfl (ltn rfl)) rfl ?_
    refine VL.va (op_move rfl (ltn rfl)) rfl ?_
    refine VL.un rfl rfl (ltn rfl) ?_
    refine VL.un rfl rfl (ltn rfl) ?_
    refine VL.un rfl rfl (ltn rfl) ?_
    refine VL.va (op_pick rfl rfl (ltn rfl)) rfl ?_
    refine VL.va (op_move rfl (ltn rfl)) rfl ?_
    refine VL.un rfl rfl (ltn rfl) ?_
    refine VL.un rfl rfl (ltn rfl) ?_
    refine VL.un rfl rfl (ltn rfl) ?_
    refine VL.va (op_pick rfl rfl (ltn rfl)) rfl ?_
    refine VL.va (op_assign rfl (ltn rfl)) rfl ?_
    refine VL.done ?_
    refine VN.then ?_
    refine VC.ret ?_
    obtain rfl := Option.some.inj h
    exact VR.fn (rs := [.tmp 0]) [] [] [] rfl (.tmp rfl .nil) ⟨rfl, rfl, rfl⟩ trivial rfl (by decide)

end Go.Proofs.Ythgoagnennjagaa.PQueueGoes
