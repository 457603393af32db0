/- Written by a program of this repo: what the program's functions do, each as a Lean function, shown of the loaded code; or a statement's row over that; no condition of its own. -/
import Derived.Test.YthgoagnennjagaaPQueueTopx2
namespace Go.Proofs.Ythgoagnennjagaa.PQueueTop
open Go Go.RowKit Go.Proofs.YthgoagnennjagaaV
set_option linter.unusedVariables false
set_option linter.unusedSimpArgs false

set_option maxHeartbeats 4000000 in
set_option maxRecDepth 100000 in
theorem queue_Make.ok (k : Nat) (l0 : List S23) (v0 : Value) (r1 : List S23) (r2 : Int) (h : queue_Make.f k l0 = some (r1, r2)) :
    VCalls Try.prog 8 [v0] [.row v0 3 (l0.map enc23)] (fun v G own => ∃ w0 : Value, v = .tuple #[w0, .int .i64 r2] ∧ G = [] ∧ own = [(w0, 24, 3, r1.map enc23)]) := by
  refine VCalls.intro Try.func8 rfl (len rfl) fun E hC => ?_
  unfold queue_Make.f at h
  refine VC.seq ?_
  refine VC.region ?_
  refine VL.va (op_assign rfl (ltn rfl)) rfl ?_
  refine VL.va (op_assign rfl (ltn rfl)) rfl ?_
  refine VL.done ?_
  refine VN.then ?_
  refine VC.seq ?_
  refine VC.join1 (fun (q45958 : Bool) => ⟨13, [(0, v0), (2, .slice none 0 0), (3, .int .i64 0), (7, .bool q45958)], [.row v0 3 (l0.map enc23)], [], []⟩) (fun (q45958 : Bool) => queue_Make.j36 k l0 q45958 = some (r1, r2)) ?_ ?_
  · refine VC.region ?_
    refine VL.va (op_move rfl (ltn rfl)) rfl ?_
    replace h := Option.bind_eq_some_iff.1 h
    obtain ⟨t45955, hA45956, h⟩ := h
    refine VL.sC (o_call0 FO21 (queue_all.ok k l0 v0 t45955 hA45956) rfl rfl (ltn rfl) (All_of (.cons (List.mem_of_getElem? (i := 0) rfl) .nil))) rfl ?_
    rintro _ _ _ ⟨rfl, rfl, rfl⟩
    by_cases c45957 : t45955 = true
    · rw [if_pos c45957] at h
      obtain rfl := c45957
      refine VL.va (op_not rfl rfl (ltn rfl)) rfl ?_
      refine VL.done ?_
      refine VN.meet1 false [] [] h ⟨rfl, ⟨rfl, rfl, rfl, rfl, trivial⟩, ⟨⟨0, rfl⟩, trivial⟩, rfl, by decide, rfl, by decide⟩
    · rw [if_neg c45957] at h
      obtain rfl := Bool.eq_false_iff.2 c45957
      refine VL.va (op_not rfl rfl (ltn rfl)) rfl ?_
      refine VL.done ?_
      refine VN.meet1 true [] [] h ⟨rfl, ⟨rfl, rfl, rfl, rfl, trivial⟩, ⟨⟨0, rfl⟩, trivial⟩, rfl, by decide, rfl, by decide⟩
  clear h
  intro q45958 h
  unfold queue_Make.j36 at h
  by_cases c45959 : q45958 = true
  · rw [if_pos c45959] at h
    obtain rfl := c45959
    refine VC.cond_t rfl ?_
    refine VC.seq ?_
    refine VC.region ?_
    refine VL.va (op_assign rfl (ltn rfl)) rfl ?_
    refine VL.va (op_assign rfl (ltn rfl)) rfl ?_
    refine VL.done ?_
    refine VN.then ?_
    refine VC.ret ?_
    refine VR.then ?_
    simp only [Option.some.injEq, Prod.mk.injEq] at h
    obtain ⟨rfl, rfl⟩ := h
    refine VR.nilRow' 24 3 ?_
    exact VR.fn (rs := [.tmp 2, .tmp 3]) [] [((.slice none 0 0), 24, 3, ([] : List S23).map enc23)] [0] rfl (.tmp rfl (.tmp rfl .nil)) ⟨(.slice none 0 0), rfl, rfl, rfl⟩ trivial rfl (by decide)
  · rw [if_neg c45959] at h
    obtain rfl := Bool.eq_false_iff.2 c45959
    refine VC.cond_f rfl ?_
    refine VC.skip ?_
    refine VN.then ?_
    refine VC.seq ?_
    refine VC.region ?_
    refine VL.va (op_move rfl (ltn rfl)) rfl ?_
    replace h := Option.bind_eq_some_iff.1 h
    obtain ⟨r45961, hA45962, h⟩ := h
    refine VL.sC (o_call_b0 FO22 (slices_Clone_api_Wait_api_Wait.ok l0 v0 r45961 hA45962) rfl rfl (ltn rfl) (All_of (.cons (.inl (List.mem_of_getElem? (i := 0) rfl)) .nil)) (by rintro _ _ _ ⟨_, rfl, rfl, rfl⟩; rfl)) rfl ?_
    rintro v45964 _ _ ⟨_, rfl, rfl, rfl⟩
    refine VL.sG (o_alloc Z40 ZL40 (ltn rfl)) rfl ?_
    intro g45965
    refine VL.step1 (o_store 0 1 rfl rfl rfl TI40 (.r 0 rfl) rfl (len rfl)) rfl ?_
    refine VL.done ?_
    refine VN.then ?_
    refine VC.seq ?_
    refine VC.region ?_
    refine VL.va (op_makeIface Try.underlying42 (fun _ h => by cases h) rfl (ltn rfl)) rfl ?_
    refine VL.inl (vals := [.iface 42 (.pointer (some ⟨g45965, 0, none⟩))]) (caps := []) Try.func23 FO23 rfl rfl rfl (len rfl) (ltn rfl) rfl ?_
    refine VC.seq ?_
    refine VC.region ?_
    refine VL.va (op_move rfl (ltn rfl)) rfl ?_
    refine VL.inle (vals := [v45964]) Try.func54 rfl (ope_meth_v 0 1 MI42_Len Try.underlying42 FO54 rfl rfl TI40 rfl (by decide) rfl rfl) (len rfl) (by rintro d ⟨⟩; exact ltn rfl) rfl ?_
    refine VC.seq ?_
    refine VC.region ?_
    refine VL.va (op_assign rfl (ltn rfl)) rfl ?_
    refine VL.done ?_
    refine VN.then ?_
    refine VC.seq ?_
    refine VC.region ?_
    refine VL.va (op_move rfl (ltn rfl)) rfl ?_
    refine VL.va (op_len_own (m := r45961.length) 0 lenm Try.underlying40 rfl rfl (ltn rfl)) rfl ?_
    refine VL.va (op_assign rfl (ltn rfl)) rfl ?_
    refine VL.done ?_
    refine VN.then ?_
    refine VC.ret ?_
    refine VR.inl (rs := [.tmp 2]) (.int .i64 (r45961.length : Int)) rfl (.tmp rfl .nil) rfl ?_
    refine VL.va (op_assign rfl (ltn rfl)) rfl ?_
    refine VL.done ?_
    refine VN.then ?_
    refine VC.seq ?_
    refine VC.region ?_
    refine VL.va (op_move rfl (ltn rfl)) rfl ?_
    refine VL.va (op_quo rfl rfl (by decide) rfl (ltn rfl)) rfl ?_
    refine VL.va (op_ari64 rfl rfl rfl (ltn rfl)) rfl ?_
    refine VL.va (op_assign rfl (ltn rfl)) rfl ?_
    refine VL.done ?_
    refine VN.then ?_
    refine VC.block ?_
    refine VC.loop3 (fun (i60334 : Int) (v60336 : Value) (l60337 : List S23) => ⟨17, [(0, .iface 42 (.pointer (some ⟨g45965, 0, none⟩))), (2, .int .i64 (r45961.length : Int)), (3, .int .i64 i60334)], [], [(g45965, 40, [v60336])], [(v60336, 24, 3, l60337.map enc23)]⟩) (fun (ml46 : Nat) (i60334 : Int) (v60336 : Value) (l60337 : List S23) => queue_Make.l46 k r45961 ml46 i60334 l60337 = some (r1, r2)) k (wrap64 ((IntKind.i64.wrap ((r45961.length : Int).tdiv 2)) - 1)) v45964 r45961 [0] [0] h ⟨rfl, ⟨rfl, rfl, rfl, trivial⟩, trivial, rfl, by decide, rfl, by decide⟩ (by intros; simp [queue_Make.l46]) ?_
    clear h
    intro ml46 ihl46 i60334 v60336 l60337 h
    simp only [queue_Make.l46] at h
    refine VC.seq ?_
    refine VC.seq ?_
    refine VC.region ?_
    refine VL.va (op_move rfl (ltn rfl)) rfl ?_
    refine VL.letter (decide (i60334 ≥ 0)) fun b63932 hb63932 => ?_
    refine VL.va (op_cmp rfl rfl (congrArg some hb63932) (ltn rfl)) rfl ?_
    refine VL.done ?_
    refine VN.then ?_
    by_cases c63933 : i60334 ≥ 0
    · rw [if_pos c63933] at h
      obtain rfl : b63932 = true := hb63932.symm.trans (decide_eq_true c63933)
      refine VC.cond_t rfl ?_
      refine VC.skip ?_
      refine VN.then ?_
      refine VC.seq ?_
      refine VC.block ?_
      refine VC.region ?_
      refine VL.va (op_move rfl (ltn rfl)) rfl ?_
      refine VL.va (op_move rfl (ltn rfl)) rfl ?_
      refine VL.va (op_move rfl (ltn rfl)) rfl ?_
      refine VL.inl (vals := [.iface 42 (.pointer (some ⟨g45965, 0, none⟩)), .int .i64 i60334, .int .i64 (r45961.length : Int)]) (caps := []) Try.func31 FO31 rfl rfl rfl (len rfl) (ltn rfl) rfl ?_
      refine VC.seq ?_
      refine VC.region ?_
      refine VL.va (op_assign rfl (ltn rfl)) rfl ?_
      refine VL.done ?_
      refine VN.then ?_
      refine VC.seq ?_
      refine VC.region ?_
      refine VL.va (op_move rfl (ltn rfl)) rfl ?_
      refine VL.va (op_assign rfl (ltn rfl)) rfl ?_
      refine VL.done ?_
      refine VN.then ?_
      refine VC.seq ?_
      refine VC.block ?_
      refine VC.loop3 (fun (i66909 : Int) (v66911 : Value) (l66912 : List S23) => ⟨48, [(0, .iface 42 (.pointer (some ⟨g45965, 0, none⟩))), (1, .int .i64 i60334), (2, .int .i64 (r45961.length : Int)), (6, .bool false), (7, .int .i64 i66909)], [], [(g45965, 40, [v66911])], [(v66911, 24, 3, l66912.map enc23)]⟩) (fun (ml53 : Nat) (i66909 : Int) (v66911 : Value) (l66912 : List S23) => queue_Make.l53 k (queue_Make.l46 k r45961 ml46) i60334 r45961 ml53 i66909 l66912 = some (r1, r2)) k i60334 v60336 l60337 [0] [0] h ⟨rfl, ⟨rfl, rfl, rfl, rfl, rfl, trivial⟩, trivial, rfl, by decide, rfl, by decide⟩ (by intros; simp [queue_Make.l53]) ?_
      clear h
      intro ml53 ihl53 i66909 v66911 l66912 h
      simp only [queue_Make.l53] at h
      refine VC.block ?_
      refine VC.seq ?_
      refine VC.region ?_
      refine VL.va (op_move rfl (ltn rfl)) rfl ?_
      refine VL.va (op_ari64 rfl rfl rfl (ltn rfl)) rfl ?_
      refine VL.va (op_ari64 rfl rfl rfl (ltn rfl)) rfl ?_
      refine VL.va (op_assign rfl (ltn rfl)) rfl ?_
      refine VL.done ?_
      refine VN.then ?_
      refine VC.seq ?_
      refine VC.join3 (fun (q67374 : Bool) (q67375 : Bool) (q67376 : Bool) => ⟨48, [(0, .iface 42 (.pointer (some ⟨g45965, 0, none⟩))), (1, .int .i64 i60334), (2, .int .i64 (r45961.length : Int)), (6, .bool false), (7, .int .i64 i66909), (8, .int .i64 (wrap64 ((wrap64 (2 * i66909)) + 1))), (12, .int .i64 i66909), (13, .int .i64 (wrap64 (2 * i66909))), (14, .int .i64 (wrap64 ((wrap64 (2 * i66909)) + 1))), (15, .int .i64 (wrap64 ((wrap64 (2 * i66909)) + 1))), (16, .int .i64 (r45961.length : Int)), (17, .bool q67374), (18, .bool q67375), (21, .bool q67376)], [], [(g45965, 40, [v66911])], [(v66911, 24, 3, l66912.map enc23)]⟩) (fun (q67374 : Bool) (q67375 : Bool) (q67376 : Bool) => queue_Make.j54 k (queue_Make.l46 k r45961 ml46) (queue_Make.l53 k (queue_Make.l46 k r45961 ml46) i60334 r45961 ml53) i60334 i66909 l66912 r45961 q67374 q67375 q67376 = some (r1, r2)) ?_ ?_
      · refine VC.region ?_
        refine VL.va (op_move rfl (ltn rfl)) rfl ?_
        refine VL.va (op_move rfl (ltn rfl)) rfl ?_
        refine VL.letter (decide ((wrap64 ((wrap64 (2 * i66909)) + 1)) ≥ (r45961.length : Int))) fun b67371 hb67371 => ?_
        refine VL.va (op_cmp rfl rfl (congrArg some hb67371) (ltn rfl)) rfl ?_
        refine VL.va (op_move rfl (ltn rfl)) rfl ?_
        by_cases c67372 : (wrap64 ((wrap64 (2 * i66909)) + 1)) ≥ (r45961.length : Int)
        · rw [if_pos c67372] at h
          obtain rfl : b67371 = true := hb67371.symm.trans (decide_eq_true c67372)
          refine VL.un rfl rfl (ltn rfl) ?_
          refine VL.un rfl rfl (ltn rfl) ?_
          refine VL.va (op_pick rfl rfl (ltn rfl)) rfl ?_
          refine VL.done ?_
          refine VN.meet3 true true true [0] [0] h ⟨rfl, ⟨rfl, rfl, rfl, rfl, rfl, rfl, rfl, rfl, rfl, rfl, rfl, rfl, rfl, rfl, trivial⟩, trivial, rfl, by decide, rfl, by decide⟩
        · rw [if_neg c67372] at h
          obtain rfl : b67371 = false := hb67371.symm.trans (decide_eq_false c67372)
          refine VL.va (op_move rfl (ltn rfl)) rfl ?_
          refine VL.letter (decide ((wrap64 ((wrap64 (2 * i66909)) + 1)) < 0)) fun b67373 hb67373 => ?_
          refine VL.va (op_cmp rfl rfl (congrArg some hb67373) (ltn rfl)) rfl ?_
          refine VL.va (op_pick rfl rfl (ltn rfl)) rfl ?_
          refine VL.done ?_
          subst hb67373
          refine VN.meet3 false false (decide ((wrap64 ((wrap64 (2 * i66909)) + 1)) < 0)) [0] [0] h ⟨rfl, ⟨rfl, rfl, rfl, rfl, rfl, rfl, rfl, rfl, rfl, rfl, rfl, rfl, rfl, rfl, trivial⟩, trivial, rfl, by decide, rfl, by decide⟩
      clear h
      intro q67374 q67375 q67376 h
      unfold queue_Make.j54 at h
      by_cases c67377 : q67376 = true
      · rw [if_pos c67377] at h
        obtain rfl := c67377
        refine VC.cond_t rfl ?_
        refine VC.exit ?_
        refine VX.then ?_
        refine VX.miss (by decide) ?_
        refine VX.then ?_
        refine VX.hit ?_
        refine VN.then ?_
        refine VC.seq ?_
        refine VC.region ?_
        refine VL.va (op_move rfl (ltn rfl)) rfl ?_
        refine VL.va (op_move rfl (ltn rfl)) rfl ?_
        refine VL.letter (decide (i66909 > i60334)) fun b67378 hb67378 => ?_
        refine VL.va (op_cmp rfl rfl (congrArg some hb67378) (ltn rfl)) rfl ?_
        refine VL.va (op_assign rfl (ltn rfl)) rfl ?_
        refine VL.done ?_
        refine VN.then ?_
        refine VC.ret ?_
        refine VR.inl (rs := [.tmp 6]) (.bool b67378) rfl (.tmp rfl .nil) rfl ?_
        refine VL.done ?_
        refine VN.block ?_
        refine VN.then ?_
        refine VC.region ?_
        refine VL.va (op_move rfl (ltn rfl)) rfl ?_
        refine VL.va (op_ari64 rfl rfl rfl (ltn rfl)) rfl ?_
        refine VL.va (op_assign rfl (ltn rfl)) rfl ?_
        refine VL.done ?_
        refine VN.again [0] [0] (ihl46 (wrap64 (i60334 - 1)) v66911 l66912 h) ⟨rfl, ⟨rfl, rfl, rfl, trivial⟩, trivial, rfl, by decide, rfl, by decide⟩
      · rw [if_neg c67377] at h
        obtain rfl := Bool.eq_false_iff.2 c67377
        refine VC.cond_f rfl ?_
        refine VC.skip ?_
        refine VN.then ?_
        refine VC.seq ?_
        refine VC.region ?_
        refine VL.va (op_move rfl (ltn rfl)) rfl ?_
        refine VL.va (op_assign rfl (ltn rfl)) rfl ?_
        refine VL.done ?_
        refine VN.then ?_
        refine VC.seq ?_
        refine VC.seq ?_
        refine VC.region ?_
        refine VL.va (op_move rfl (ltn rfl)) rfl ?_
        refine VL.va (op_ari64 rfl rfl rfl (ltn rfl)) rfl ?_
        refine VL.va (op_assign rfl (ltn rfl)) rfl ?_
        refine VL.done ?_
        refine VN.then ?_
        refine VC.seq ?_
        refine VC.region ?_
        refine VL.va (op_move rfl (ltn rfl)) rfl ?_
        refine VL.va (op_move rfl (ltn rfl)) rfl ?_
        refine VL.letter (decide ((wrap64 ((wrap64 ((wrap64 (2 * i66909)) + 1)) + 1)) < (r45961.length : Int))) fun b67407 hb67407 => ?_
        refine VL.va (op_cmp rfl rfl (congrArg some hb67407) (ltn rfl)) rfl ?_
        refine VL.va (op_move rfl (ltn rfl)) rfl ?_
        by_cases c67408 : (wrap64 ((wrap64 ((wrap64 (2 * i66909)) + 1)) + 1)) < (r45961.length : Int)
        · rw [if_pos c67408] at h
          obtain rfl : b67407 = true := hb67407.symm.trans (decide_eq_true c67408)
          refine VL.va (op_move rfl (ltn rfl)) rfl ?_
          refine VL.va (op_move rfl (ltn rfl)) rfl ?_
          refine VL.va (op_move rfl (ltn rfl)) rfl ?_
          refine VL.inle (vals := [v66911, .int .i64 (wrap64 ((wrap64 ((wrap64 (2 * i66909)) + 1)) + 1)), .int .i64 (wrap64 ((wrap64 (2 * i66909)) + 1))]) Try.func55 rfl (ope_meth_v 0 1 MI42_Less Try.underlying42 FO55 rfl rfl TI40 rfl (by decide) rfl rfl) (len rfl) (by rintro d ⟨⟩; exact ltn rfl) rfl ?_
          refine VC.seq ?_
          refine VC.region ?_
          refine VL.va (op_assign rfl (ltn rfl)) rfl ?_
          refine VL.done ?_
          refine VN.then ?_
          by_cases c67409 : 0 ≤ wrap64 ((wrap64 ((wrap64 (2 * i66909)) + 1)) + 1)
          · rw [if_pos c67409] at h
            replace h := Option.bind_eq_some_iff.1 h
            obtain ⟨x67410, hx67410, h⟩ := h
            by_cases c67411 : 0 ≤ wrap64 ((wrap64 (2 * i66909)) + 1)
            · rw [if_pos c67411] at h
              replace h := Option.bind_eq_some_iff.1 h
              obtain ⟨x67412, hx67412, h⟩ := h
              replace h := Option.bind_eq_some_iff.1 h
              obtain ⟨t67413, hA67414, h⟩ := h
              refine VC.letter (decide (t67413 < 0)) fun b67415 hb67415 => ?_
              refine VC.openR (m := l66912.length) 0 lenm rfl (pos_get hx67410) ?_
              rintro g66931 n66932 rfl
              refine VC.join0 (⟨17, [(6, .bool b67415)], [], [(g45965, 40, [(.slice (some ⟨g66931, 0, none⟩) l66912.length n66932)])], [((.slice (some ⟨g66931, 0, none⟩) l66912.length n66932), 24, 3, l66912.map enc23)]⟩) (True) ?_ ?_
              · refine VC.draw ⟨0, [], [], [], [((.slice (some ⟨g66931, 0, none⟩) l66912.length n66932), 24, 3, l66912.map enc23)]⟩ (by kernel_rfl) rfl (by kernel_rfl) (n := 11) (listed := LB 11 0) ?_
                refine VA.va (i := 0) (listed' := LB 11 1) rfl (op_move rfl (ltn rfl)) rfl (by kernel_rfl) (by kernel_rfl) (by kernel_rfl) (by kernel_rfl) ⟨trivial, trivial, ⟨⟨0, rfl⟩, trivial⟩⟩ (fun _ _ _ h => h) ?_
                refine VA.va (i := 1) (listed' := LB 11 3) rfl (op_move rfl (ltn rfl)) rfl (by kernel_rfl) (by kernel_rfl) (by kernel_rfl) (by kernel_rfl) ⟨trivial, trivial, ⟨⟨0, rfl⟩, trivial⟩⟩ (fun _ _ _ h => h) ?_
                refine VA.va (i := 2) (listed' := LB 11 7) rfl (op_indexAddr Try.underlying40 TI24 rfl rfl c67409 (lt_get c67409 hx67410) (add_zero_at _ _) (ltn rfl)) rfl (by kernel_rfl) (by kernel_rfl) (by kernel_rfl) (by kernel_rfl) ⟨trivial, trivial, ⟨⟨0, rfl⟩, trivial⟩⟩ (fun _ _ _ h => h) ?_
                refine VA.va (i := 3) (listed' := LB 11 15) rfl (op_load_own (sz := 3) (o := 0) 0 (wrap64 ((wrap64 ((wrap64 (2 * i66909)) + 1)) + 1)).toNat 3 rfl rfl (get_map hx67410) TI24 rfl (fun h => absurd h (by decide)) (ltn rfl)) rfl (by kernel_rfl) (by kernel_rfl) (by kernel_rfl) (by kernel_rfl) ⟨trivial, trivial, ⟨⟨0, rfl⟩, trivial⟩⟩ (fun _ _ _ h => h) ?_
                refine VA.va (i := 4) (listed' := LB 11 31) rfl (op_move rfl (ltn rfl)) rfl (by kernel_rfl) (by kernel_rfl) (by kernel_rfl) (by kernel_rfl) ⟨trivial, trivial, ⟨⟨0, rfl⟩, trivial⟩⟩ (fun _ _ _ h => h) ?_
                refine VA.va (i := 5) (listed' := LB 11 63) rfl (op_move rfl (ltn rfl)) rfl (by kernel_rfl) (by kernel_rfl) (by kernel_rfl) (by kernel_rfl) ⟨trivial, trivial, ⟨⟨0, rfl⟩, trivial⟩⟩ (fun _ _ _ h => h) ?_
                refine VA.va (i := 6) (listed' := LB 11 127) rfl (op_indexAddr Try.underlying40 TI24 rfl rfl c67411 (lt_get c67411 hx67412) (add_zero_at _ _) (ltn rfl)) rfl (by kernel_rfl) (by kernel_rfl) (by kernel_rfl) (by kernel_rfl) ⟨trivial, trivial, ⟨⟨0, rfl⟩, trivial⟩⟩ (fun _ _ _ h => h) ?_
                refine VA.va (i := 7) (listed' := LB 11 255) rfl (op_load_own (sz := 3) (o := 0) 0 (wrap64 ((wrap64 (2 * i66909)) + 1)).toNat 3 rfl rfl (get_map hx67412) TI24 rfl (fun h => absurd h (by decide)) (ltn rfl)) rfl (by kernel_rfl) (by kernel_rfl) (by kernel_rfl) (by kernel_rfl) ⟨trivial, trivial, ⟨⟨0, rfl⟩, trivial⟩⟩ (fun _ _ _ h => h) ?_
                refine VA.oneC (i := 8) (listed' := LB 11 511) (by kernel_rfl) rfl (o_call0 FO26 (queue_compare.ok k x67410.f0 x67410.f1 x67410.f2 x67412.f0 x67412.f1 x67412.f2 t67413 hA67414) rfl rfl (ltn rfl) (All_of .nil)) rfl (by kernel_rfl) ?_
                rintro _ _ _ ⟨rfl, rfl, rfl⟩
                refine ⟨⟨trivial, trivial, ⟨⟨0, rfl⟩, trivial⟩⟩, ?_⟩
                refine VA.va (i := 9) (listed' := LB 11 1023) rfl (op_cmp rfl rfl (congrArg some hb67415) (ltn rfl)) rfl (by kernel_rfl) (by kernel_rfl) (by kernel_rfl) (by kernel_rfl) ⟨trivial, trivial, ⟨⟨0, rfl⟩, trivial⟩⟩ (fun _ _ _ h => h) ?_
                refine VA.va (i := 10) (listed' := LB 11 2047) rfl (op_assign rfl (ltn rfl)) rfl (by kernel_rfl) (by kernel_rfl) (by kernel_rfl) (by kernel_rfl) ⟨trivial, trivial, ⟨⟨0, rfl⟩, trivial⟩⟩ (fun _ _ _ h => h) ?_
                refine VA.done (by kernel_rfl) ?_
                exact VN.meet0  [0] [0] trivial ⟨rfl, ⟨rfl, trivial⟩, trivial, rfl, by decide, rfl, by decide⟩
              intro _
              refine VC.ret ?_
              refine VR.inl (rs := [.tmp 6]) (.bool b67415) rfl (.tmp rfl .nil) rfl ?_
              refine VL.va (op_pick rfl rfl (ltn rfl)) rfl ?_
              refine VL.done ?_
              refine VN.then ?_
              by_cases c67416 : t67413 < 0
              · rw [if_pos c67416] at h
                obtain rfl : b67415 = true := hb67415.symm.trans (decide_eq_true c67416)
                refine VC.cond_t rfl ?_
                refine VC.region ?_
                refine VL.va (op_move rfl (ltn rfl)) rfl ?_
                refine VL.va (op_assign rfl (ltn rfl)) rfl ?_
                refine VL.done ?_
                refine VN.then ?_
                refine VC.seq ?_
                refine VC.seq ?_
                refine VC.region ?_
                refine VL.va (op_move rfl (ltn rfl)) rfl ?_
                refine VL.va (op_move rfl (ltn rfl)) rfl ?_
                refine VL.va (op_move rfl (ltn rfl)) rfl ?_
                refine VL.inle (vals := [(.slice (some ⟨g66931, 0, none⟩) l66912.length n66932), .int .i64 (wrap64 ((wrap64 ((wrap64 (2 * i66909)) + 1)) + 1)), .int .i64 i66909]) Try.func55 rfl (ope_meth_v 0 1 MI42_Less Try.underlying42 FO55 rfl rfl TI40 rfl (by decide) rfl rfl) (len rfl) (by rintro d ⟨⟩; exact ltn rfl) rfl ?_
                refine VC.seq ?_
                refine VC.region ?_
                refine VL.va (op_assign rfl (ltn rfl)) rfl ?_
                refine VL.done ?_
                refine VN.then ?_
                replace h := Option.bind_eq_some_iff.1 h
                obtain ⟨x67439, hx67439, h⟩ := h
                by_cases c67440 : 0 ≤ i66909
                · rw [if_pos c67440] at h
                  replace h := Option.bind_eq_some_iff.1 h
                  obtain ⟨x67441, hx67441, h⟩ := h
                  replace h := Option.bind_eq_some_iff.1 h
                  obtain ⟨t67442, hA67443, h⟩ := h
                  refine VC.letter (decide (t67442 < 0)) fun b67444 hb67444 => ?_
                  refine VC.join0 (⟨17, [(6, .bool b67444)], [], [(g45965, 40, [(.slice (some ⟨g66931, 0, none⟩) l66912.length n66932)])], [((.slice (some ⟨g66931, 0, none⟩) l66912.length n66932), 24, 3, l66912.map enc23)]⟩) (True) ?_ ?_
                  · refine VC.draw ⟨0, [], [], [], [((.slice (some ⟨g66931, 0, none⟩) l66912.length n66932), 24, 3, l66912.map enc23)]⟩ (by kernel_rfl) rfl (by kernel_rfl) (n := 11) (listed := LB 11 0) ?_
                    refine VA.va (i := 0) (listed' := LB 11 1) rfl (op_move rfl (ltn rfl)) rfl (by kernel_rfl) (by kernel_rfl) (by kernel_rfl) (by kernel_rfl) ⟨trivial, trivial, ⟨⟨0, rfl⟩, trivial⟩⟩ (fun _ _ _ h => h) ?_
                    refine VA.va (i := 1) (listed' := LB 11 3) rfl (op_move rfl (ltn rfl)) rfl (by kernel_rfl) (by kernel_rfl) (by kernel_rfl) (by kernel_rfl) ⟨trivial, trivial, ⟨⟨0, rfl⟩, trivial⟩⟩ (fun _ _ _ h => h) ?_
                    refine VA.va (i := 2) (listed' := LB 11 7) rfl (op_indexAddr Try.underlying40 TI24 rfl rfl c67409 (lt_get c67409 hx67439) (add_zero_at _ _) (ltn rfl)) rfl (by kernel_rfl) (by kernel_rfl) (by kernel_rfl) (by kernel_rfl) ⟨trivial, trivial, ⟨⟨0, rfl⟩, trivial⟩⟩ (fun _ _ _ h => h) ?_
                    refine VA.va (i := 3) (listed' := LB 11 15) rfl (op_load_own (sz := 3) (o := 0) 0 (wrap64 ((wrap64 ((wrap64 (2 * i66909)) + 1)) + 1)).toNat 3 rfl rfl (get_map hx67439) TI24 rfl (fun h => absurd h (by decide)) (ltn rfl)) rfl (by kernel_rfl) (by kernel_rfl) (by kernel_rfl) (by kernel_rfl) ⟨trivial, trivial, ⟨⟨0, rfl⟩, trivial⟩⟩ (fun _ _ _ h => h) ?_
                    refine VA.va (i := 4) (listed' := LB 11 31) rfl (op_move rfl (ltn rfl)) rfl (by kernel_rfl) (by kernel_rfl) (by kernel_rfl) (by kernel_rfl) ⟨trivial, trivial, ⟨⟨0, rfl⟩, trivial⟩⟩ (fun _ _ _ h => h) ?_
                    refine VA.va (i := 5) (listed' := LB 11 63) rfl (op_move rfl (ltn rfl)) rfl (by kernel_rfl) (by kernel_rfl) (by kernel_rfl) (by kernel_rfl) ⟨trivial, trivial, ⟨⟨0, rfl⟩, trivial⟩⟩ (fun _ _ _ h => h) ?_
                    refine VA.va (i := 6) (listed' := LB 11 127) rfl (op_indexAddr Try.underlying40 TI24 rfl rfl c67440 (lt_get c67440 hx67441) (add_zero_at _ _) (ltn rfl)) rfl (by kernel_rfl) (by kernel_rfl) (by kernel_rfl) (by kernel_rfl) ⟨trivial, trivial, ⟨⟨0, rfl⟩, trivial⟩⟩ (fun _ _ _ h => h) ?_
                    refine VA.va (i := 7) (listed' := LB 11 255) rfl (op_load_own (sz := 3) (o := 0) 0 i66909.toNat 3 rfl rfl (get_map hx67441) TI24 rfl (fun h => absurd h (by decide)) (ltn rfl)) rfl (by kernel_rfl) (by kernel_rfl) (by kernel_rfl) (by kernel_rfl) ⟨trivial, trivial, ⟨⟨0, rfl⟩, trivial⟩⟩ (fun _ _ _ h => h) ?_
                    refine VA.oneC (i := 8) (listed' := LB 11 511) (by kernel_rfl) rfl (o_call0 FO26 (queue_compare.ok k x67439.f0 x67439.f1 x67439.f2 x67441.f0 x67441.f1 x67441.f2 t67442 hA67443) rfl rfl (ltn rfl) (All_of .nil)) rfl (by kernel_rfl) ?_
                    rintro _ _ _ ⟨rfl, rfl, rfl⟩
                    refine ⟨⟨trivial, trivial, ⟨⟨0, rfl⟩, trivial⟩⟩, ?_⟩
                    refine VA.va (i := 9) (listed' := LB 11 1023) rfl (op_cmp rfl rfl (congrArg some hb67444) (ltn rfl)) rfl (by kernel_rfl) (by kernel_rfl) (by kernel_rfl) (by kernel_rfl) ⟨trivial, trivial, ⟨⟨0, rfl⟩, trivial⟩⟩ (fun _ _ _ h => h) ?_
                    refine VA.va (i := 10) (listed' := LB 11 2047) rfl (op_assign rfl (ltn rfl)) rfl (by kernel_rfl) (by kernel_rfl) (by kernel_rfl) (by kernel_rfl) ⟨trivial, trivial, ⟨⟨0, rfl⟩, trivial⟩⟩ (fun _ _ _ h => h) ?_
                    refine VA.done (by kernel_rfl) ?_
                    exact VN.meet0  [0] [0] trivial ⟨rfl, ⟨rfl, trivial⟩, trivial, rfl, by decide, rfl, by decide⟩
                  intro _
                  refine VC.ret ?_
                  refine VR.inl (rs := [.tmp 6]) (.bool b67444) rfl (.tmp rfl .nil) rfl ?_
                  by_cases c67445 : t67442 < 0
                  · rw [if_pos c67445] at h
                    obtain rfl : b67444 = true := hb67444.symm.trans (decide_eq_true c67445)
                    refine VL.va (op_not rfl rfl (ltn rfl)) rfl ?_
                    refine VL.done ?_
                    refine VN.then ?_
                    refine VC.cond_f rfl ?_
                    refine VC.skip ?_
                    refine VN.then ?_
                    refine VC.seq ?_
                    refine VC.region ?_
                    refine VL.va (op_move rfl (ltn rfl)) rfl ?_
                    refine VL.va (op_move rfl (ltn rfl)) rfl ?_
                    refine VL.va (op_move rfl (ltn rfl)) rfl ?_
                    replace h := Option.bind_eq_some_iff.1 h
                    obtain ⟨r67446, hA67447, h⟩ := h
                    refine VL.step1 (ope_ownd (vals := [(.slice (some ⟨g66931, 0, none⟩) l66912.length n66932), .int .i64 i66909, .int .i64 (wrap64 ((wrap64 ((wrap64 (2 * i66909)) + 1)) + 1))]) 0 rfl (ope_meth_v 0 1 MI42_Swap Try.underlying42 FO56 rfl rfl TI40 rfl (by decide) rfl rfl) (queue_waits_Swap.ok l66912 i66909 (wrap64 ((wrap64 ((wrap64 (2 * i66909)) + 1)) + 1)) (.slice (some ⟨g66931, 0, none⟩) l66912.length n66932) r67446 hA67447) (by simp) (ltn rfl)) rfl ?_
                    refine VL.done ?_
                    refine VN.then ?_
                    refine VC.region ?_
                    refine VL.va (op_move rfl (ltn rfl)) rfl ?_
                    refine VL.va (op_assign rfl (ltn rfl)) rfl ?_
                    refine VL.done ?_
                    refine VN.block ?_
                    refine VN.again [0] [0] (ihl53 (wrap64 ((wrap64 ((wrap64 (2 * i66909)) + 1)) + 1)) (.slice (some ⟨g66931, 0, none⟩) l66912.length n66932) r67446 h) ⟨rfl, ⟨rfl, rfl, rfl, rfl, rfl, trivial⟩, trivial, rfl, by decide, rfl, by decide⟩
                  · rw [if_neg c67445] at h
                    obtain rfl : b67444 = false := hb67444.symm.trans (decide_eq_false c67445)
                    refine VL.va (op_not rfl rfl (ltn rfl)) rfl ?_
                    refine VL.done ?_
                    refine VN.then ?_
                    refine VC.cond_t rfl ?_
                    refine VC.exit ?_
                    refine VX.then ?_
                    refine VX.miss (by decide) ?_
                    refine VX.then ?_
                    refine VX.hit ?_
                    refine VN.then ?_
                    refine VC.seq ?_
                    refine VC.region ?_
                    refine VL.va (op_move rfl (ltn rfl)) rfl ?_
                    refine VL.va (op_move rfl (ltn rfl)) rfl ?_
                    refine VL.letter (decide (i66909 > i60334)) fun b67449 hb67449 => ?_
                    refine VL.va (op_cmp rfl rfl (congrArg some hb67449) (ltn rfl)) rfl ?_
                    refine VL.va (op_assign rfl (ltn rfl)) rfl ?_
                    refine VL.done ?_
                    refine VN.then ?_
                    refine VC.ret ?_
                    refine VR.inl (rs := [.tmp 6]) (.bool b67449) rfl (.tmp rfl .nil) rfl ?_
                    refine VL.done ?_
                    refine VN.block ?_
                    refine VN.then ?_
                    refine VC.region ?_
                    refine VL.va (op_move rfl (ltn rfl)) rfl ?_
                    refine VL.va (op_ari64 rfl rfl rfl (ltn rfl)) rfl ?_
                    refine VL.va (op_assign rfl (ltn rfl)) rfl ?_
                    refine VL.done ?_
                    refine VN.again [0] [0] (ihl46 (wrap64 (i60334 - 1)) (.slice (some ⟨g66931, 0, none⟩) l66912.length n66932) l66912 h) ⟨rfl, ⟨rfl, rfl, rfl, trivial⟩, trivial, rfl, by decide, rfl, by decide⟩
                · rw [if_neg c67440] at h; cases h
              · rw [if_neg c67416] at h
                obtain rfl : b67415 = false := hb67415.symm.trans (decide_eq_false c67416)
                refine VC.cond_f rfl ?_
                refine VC.skip ?_
                refine VN.then ?_
                refine VC.seq ?_
                refine VC.seq ?_
                refine VC.region ?_
                refine VL.va (op_move rfl (ltn rfl)) rfl ?_
                refine VL.va (op_move rfl (ltn rfl)) rfl ?_
                refine VL.va (op_move rfl (ltn rfl)) rfl ?_
                refine VL.inle (vals := [(.slice (some ⟨g66931, 0, none⟩) l66912.length n66932), .int .i64 (wrap64 ((wrap64 (2 * i66909)) + 1)), .int .i64 i66909]) Try.func55 rfl (ope_meth_v 0 1 MI42_Less Try.underlying42 FO55 rfl rfl TI40 rfl (by decide) rfl rfl) (len rfl) (by rintro d ⟨⟩; exact ltn rfl) rfl ?_
                refine VC.seq ?_
                refine VC.region ?_
                refine VL.va (op_assign rfl (ltn rfl)) rfl ?_
                refine VL.done ?_
                refine VN.then ?_
                replace h := Option.bind_eq_some_iff.1 h
                obtain ⟨x67472, hx67472, h⟩ := h
                by_cases c67473 : 0 ≤ i66909
                · rw [if_pos c67473] at h
                  replace h := Option.bind_eq_some_iff.1 h
                  obtain ⟨x67474, hx67474, h⟩ := h
                  replace h := Option.bind_eq_some_iff.1 h
                  obtain ⟨t67475, hA67476, h⟩ := h
                  refine VC.letter (decide (t67475 < 0)) fun b67477 hb67477 => ?_
                  refine VC.join0 (⟨17, [(6, .bool b67477)], [], [(g45965, 40, [(.slice (some ⟨g66931, 0, none⟩) l66912.length n66932)])], [((.slice (some ⟨g66931, 0, none⟩) l66912.length n66932), 24, 3, l66912.map enc23)]⟩) (True) ?_ ?_
                  · refine VC.draw ⟨0, [], [], [], [((.slice (some ⟨g66931, 0, none⟩) l66912.length n66932), 24, 3, l66912.map enc23)]⟩ (by kernel_rfl) rfl (by kernel_rfl) (n := 11) (listed := LB 11 0) ?_
                    refine VA.va (i := 0) (listed' := LB 11 1) rfl (op_move rfl (ltn rfl)) rfl (by kernel_rfl) (by kernel_rfl) (by kernel_rfl) (by kernel_rfl) ⟨trivial, trivial, ⟨⟨0, rfl⟩, trivial⟩⟩ (fun _ _ _ h => h) ?_
                    refine VA.va (i := 1) (listed' := LB 11 3) rfl (op_move rfl (ltn rfl)) rfl (by kernel_rfl) (by kernel_rfl) (by kernel_rfl) (by kernel_rfl) ⟨trivial, trivial, ⟨⟨0, rfl⟩, trivial⟩⟩ (fun _ _ _ h => h) ?_
                    refine VA.va (i := 2) (listed' := LB 11 7) rfl (op_indexAddr Try.underlying40 TI24 rfl rfl c67411 (lt_get c67411 hx67472) (add_zero_at _ _) (ltn rfl)) rfl (by kernel_rfl) (by kernel_rfl) (by kernel_rfl) (by kernel_rfl) ⟨trivial, trivial, ⟨⟨0, rfl⟩, trivial⟩⟩ (fun _ _ _ h => h) ?_
                    refine VA.va (i := 3) (listed' := LB 11 15) rfl (op_load_own (sz := 3) (o := 0) 0 (wrap64 ((wrap64 (2 * i66909)) + 1)).toNat 3 rfl rfl (get_map hx67472) TI24 rfl (fun h => absurd h (by decide)) (ltn rfl)) rfl (by kernel_rfl) (by kernel_rfl) (by kernel_rfl) (by kernel_rfl) ⟨trivial, trivial, ⟨⟨0, rfl⟩, trivial⟩⟩ (fun _ _ _ h => h) ?_
                    refine VA.va (i := 4) (listed' := LB 11 31) rfl (op_move rfl (ltn rfl)) rfl (by kernel_rfl) (by kernel_rfl) (by kernel_rfl) (by kernel_rfl) ⟨trivial, trivial, ⟨⟨0, rfl⟩, trivial⟩⟩ (fun _ _ _ h => h) ?_
                    refine VA.va (i := 5) (listed' := LB 11 63) rfl (op_move rfl (ltn rfl)) rfl (by kernel_rfl) (by kernel_rfl) (by kernel_rfl) (by kernel_rfl) ⟨trivial, trivial, ⟨⟨0, rfl⟩, trivial⟩⟩ (fun _ _ _ h => h) ?_
                    refine VA.va (i := 6) (listed' := LB 11 127) rfl (op_indexAddr Try.underlying40 TI24 rfl rfl c67473 (lt_get c67473 hx67474) (add_zero_at _ _) (ltn rfl)) rfl (by kernel_rfl) (by kernel_rfl) (by kernel_rfl) (by kernel_rfl) ⟨trivial, trivial, ⟨⟨0, rfl⟩, trivial⟩⟩ (fun _ _ _ h => h) ?_
                    refine VA.va (i := 7) (listed' := LB 11 255) rfl (op_load_own (sz := 3) (o := 0) 0 i66909.toNat 3 rfl rfl (get_map hx67474) TI24 rfl (fun h => absurd h (by decide)) (ltn rfl)) rfl (by kernel_rfl) (by kernel_rfl) (by kernel_rfl) (by kernel_rfl) ⟨trivial, trivial, ⟨⟨0, rfl⟩, trivial⟩⟩ (fun _ _ _ h => h) ?_
                    refine VA.oneC (i := 8) (listed' := LB 11 511) (by kernel_rfl) rfl (o_call0 FO26 (queue_compare.ok k x67472.f0 x67472.f1 x67472.f2 x67474.f0 x67474.f1 x67474.f2 t67475 hA67476) rfl rfl (ltn rfl) (All_of .nil)) rfl (by kernel_rfl) ?_
                    rintro _ _ _ ⟨rfl, rfl, rfl⟩
                    refine ⟨⟨trivial, trivial, ⟨⟨0, rfl⟩, trivial⟩⟩, ?_⟩
                    refine VA.va (i := 9) (listed' := LB 11 1023) rfl (op_cmp rfl rfl (congrArg some hb67477) (ltn rfl)) rfl (by kernel_rfl) (by kernel_rfl) (by kernel_rfl) (by kernel_rfl) ⟨trivial, trivial, ⟨⟨0, rfl⟩, trivial⟩⟩ (fun _ _ _ h => h) ?_
                    refine VA.va (i := 10) (listed' := LB 11 2047) rfl (op_assign rfl (ltn rfl)) rfl (by kernel_rfl) (by kernel_rfl) (by kernel_rfl) (by kernel_rfl) ⟨trivial, trivial, ⟨⟨0, rfl⟩, trivial⟩⟩ (fun _ _ _ h => h) ?_
                    refine VA.done (by kernel_rfl) ?_
                    exact VN.meet0  [0] [0] trivial ⟨rfl, ⟨rfl, trivial⟩, trivial, rfl, by decide, rfl, by decide⟩
                  intro _
                  refine VC.ret ?_
                  refine VR.inl (rs := [.tmp 6]) (.bool b67477) rfl (.tmp rfl .nil) rfl ?_
                  by_cases c67478 : t67475 < 0
                  · rw [if_pos c67478] at h
                    obtain rfl : b67477 = true := hb67477.symm.trans (decide_eq_true c67478)
                    refine VL.va (op_not rfl rfl (ltn rfl)) rfl ?_
                    refine VL.done ?_
                    refine VN.then ?_
                    refine VC.cond_f rfl ?_
                    refine VC.skip ?_
                    refine VN.then ?_
                    refine VC.seq ?_
                    refine VC.region ?_
                    refine VL.va (op_move rfl (ltn rfl)) rfl ?_
                    refine VL.va (op_move rfl (ltn rfl)) rfl ?_
                    refine VL.va (op_move rfl (ltn rfl)) rfl ?_
                    replace h := Option.bind_eq_some_iff.1 h
                    obtain ⟨r67479, hA67480, h⟩ := h
                    refine VL.step1 (ope_ownd (vals := [(.slice (some ⟨g66931, 0, none⟩) l66912.length n66932), .int .i64 i66909, .int .i64 (wrap64 ((wrap64 (2 * i66909)) + 1))]) 0 rfl (ope_meth_v 0 1 MI42_Swap Try.underlying42 FO56 rfl rfl TI40 rfl (by decide) rfl rfl) (queue_waits_Swap.ok l66912 i66909 (wrap64 ((wrap64 (2 * i66909)) + 1)) (.slice (some ⟨g66931, 0, none⟩) l66912.length n66932) r67479 hA67480) (by simp) (ltn rfl)) rfl ?_
                    refine VL.done ?_
                    refine VN.then ?_
                    refine VC.region ?_
                    refine VL.va (op_move rfl (ltn rfl)) rfl ?_
                    refine VL.va (op_assign rfl (ltn rfl)) rfl ?_
                    refine VL.done ?_
                    refine VN.block ?_
                    refine VN.again [0] [0] (ihl53 (wrap64 ((wrap64 (2 * i66909)) + 1)) (.slice (some ⟨g66931, 0, none⟩) l66912.length n66932) r67479 h) ⟨rfl, ⟨rfl, rfl, rfl, rfl, rfl, trivial⟩, trivial, rfl, by decide, rfl, by decide⟩
                  · rw [if_neg c67478] at h
                    obtain rfl : b67477 = false := hb67477.symm.trans (decide_eq_false c67478)
                    refine VL.va (op_not rfl rfl (ltn rfl)) rfl ?_
                    refine VL.done ?_
                    refine VN.then ?_
                    refine VC.cond_t rfl ?_
                    refine VC.exit ?_
                    refine VX.then ?_
                    refine VX.miss (by decide) ?_
                    refine VX.then ?_
                    refine VX.hit ?_
                    refine VN.then ?_
                    refine VC.seq ?_
                    refine VC.region ?_
                    refine VL.va (op_move rfl (ltn rfl)) rfl ?_
                    refine VL.va (op_move rfl (ltn rfl)) rfl ?_
                    refine VL.letter (decide (i66909 > i60334)) fun b67482 hb67482 => ?_
                    refine VL.va (op_cmp rfl rfl (congrArg some hb67482) (ltn rfl)) rfl ?_
                    refine VL.va (op_assign rfl (ltn rfl)) rfl ?_
                    refine VL.done ?_
                    refine VN.then ?_
                    refine VC.ret ?_
                    refine VR.inl (rs := [.tmp 6]) (.bool b67482) rfl (.tmp rfl .nil) rfl ?_
                    refine VL.done ?_
                    refine VN.block ?_
                    refine VN.then ?_
                    refine VC.region ?_
                    refine VL.va (op_move rfl (ltn rfl)) rfl ?_
                    refine VL.va (op_ari64 rfl rfl rfl (ltn rfl)) rfl ?_
                    refine VL.va (op_assign rfl (ltn rfl)) rfl ?_
                    refine VL.done ?_
                    refine VN.again [0] [0] (ihl46 (wrap64 (i60334 - 1)) (.slice (some ⟨g66931, 0, none⟩) l66912.length n66932) l66912 h) ⟨rfl, ⟨rfl, rfl, rfl, trivial⟩, trivial, rfl, by decide, rfl, by decide⟩
                · rw [if_neg c67473] at h; cases h
            · rw [if_neg c67411] at h; cases h
          · rw [if_neg c67409] at h; cases h
        · rw [if_neg c67408] at h
          obtain rfl : b67407 = false := hb67407.symm.trans (decide_eq_false c67408)
          refine VL.un rfl rfl (ltn rfl) ?_
          refine VL.un rfl rfl (ltn rfl) ?_
          refine VL.un rfl rfl (ltn rfl) ?_
          refine VL.un rfl rfl (ltn rfl) ?_
          refine VL.va (op_pick rfl rfl (ltn rfl)) rfl ?_
          refine VL.done ?_
          refine VN.then ?_
          refine VC.cond_f rfl ?_
          refine VC.skip ?_
          refine VN.then ?_
          refine VC.seq ?_
          refine VC.seq ?_
          refine VC.region ?_
          refine VL.va (op_move rfl (ltn rfl)) rfl ?_
          refine VL.va (op_move rfl (ltn rfl)) rfl ?_
          refine VL.va (op_move rfl (ltn rfl)) rfl ?_
          refine VL.inle (vals := [v66911, .int .i64 (wrap64 ((wrap64 (2 * i66909)) + 1)), .int .i64 i66909]) Try.func55 rfl (ope_meth_v 0 1 MI42_Less Try.underlying42 FO55 rfl rfl TI40 rfl (by decide) rfl rfl) (len rfl) (by rintro d ⟨⟩; exact ltn rfl) rfl ?_
          refine VC.seq ?_
          refine VC.region ?_
          refine VL.va (op_assign rfl (ltn rfl)) rfl ?_
          refine VL.done ?_
          refine VN.then ?_
          by_cases c67508 : 0 ≤ wrap64 ((wrap64 (2 * i66909)) + 1)
          · rw [if_pos c67508] at h
            replace h := Option.bind_eq_some_iff.1 h
            obtain ⟨x67509, hx67509, h⟩ := h
            by_cases c67510 : 0 ≤ i66909
            · rw [if_pos c67510] at h
              replace h := Option.bind_eq_some_iff.1 h
              obtain ⟨x67511, hx67511, h⟩ := h
              replace h := Option.bind_eq_some_iff.1 h
              obtain ⟨t67512, hA67513, h⟩ := h
              refine VC.letter (decide (t67512 < 0)) fun b67514 hb67514 => ?_
              refine VC.openR (m := l66912.length) 0 lenm rfl (pos_get hx67509) ?_
              rintro g66931 n66932 rfl
              refine VC.join0 (⟨17, [(6, .bool b67514)], [], [(g45965, 40, [(.slice (some ⟨g66931, 0, none⟩) l66912.length n66932)])], [((.slice (some ⟨g66931, 0, none⟩) l66912.length n66932), 24, 3, l66912.map enc23)]⟩) (True) ?_ ?_
              · refine VC.draw ⟨0, [], [], [], [((.slice (some ⟨g66931, 0, none⟩) l66912.length n66932), 24, 3, l66912.map enc23)]⟩ (by kernel_rfl) rfl (by kernel_rfl) (n := 11) (listed := LB 11 0) ?_
                refine VA.va (i := 0) (listed' := LB 11 1) rfl (op_move rfl (ltn rfl)) rfl (by kernel_rfl) (by kernel_rfl) (by kernel_rfl) (by kernel_rfl) ⟨trivial, trivial, ⟨⟨0, rfl⟩, trivial⟩⟩ (fun _ _ _ h => h) ?_
                refine VA.va (i := 1) (listed' := LB 11 3) rfl (op_move rfl (ltn rfl)) rfl (by kernel_rfl) (by kernel_rfl) (by kernel_rfl) (by kernel_rfl) ⟨trivial, trivial, ⟨⟨0, rfl⟩, trivial⟩⟩ (fun _ _ _ h => h) ?_
                refine VA.va (i := 2) (listed' := LB 11 7) rfl (op_indexAddr Try.underlying40 TI24 rfl rfl c67508 (lt_get c67508 hx67509) (add_zero_at _ _) (ltn rfl)) rfl (by kernel_rfl) (by kernel_rfl) (by kernel_rfl) (by kernel_rfl) ⟨trivial, trivial, ⟨⟨0, rfl⟩, trivial⟩⟩ (fun _ _ _ h => h) ?_
                refine VA.va (i := 3) (listed' := LB 11 15) rfl (op_load_own (sz := 3) (o := 0) 0 (wrap64 ((wrap64 (2 * i66909)) + 1)).toNat 3 rfl rfl (get_map hx67509) TI24 rfl (fun h => absurd h (by decide)) (ltn rfl)) rfl (by kernel_rfl) (by kernel_rfl) (by kernel_rfl) (by kernel_rfl) ⟨trivial, trivial, ⟨⟨0, rfl⟩, trivial⟩⟩ (fun _ _ _ h => h) ?_
                refine VA.va (i := 4) (listed' := LB 11 31) rfl (op_move rfl (ltn rfl)) rfl (by kernel_rfl) (by kernel_rfl) (by kernel_rfl) (by kernel_rfl) ⟨trivial, trivial, ⟨⟨0, rfl⟩, trivial⟩⟩ (fun _ _ _ h => h) ?_
                refine VA.va (i := 5) (listed' := LB 11 63) rfl (op_move rfl (ltn rfl)) rfl (by kernel_rfl) (by kernel_rfl) (by kernel_rfl) (by kernel_rfl) ⟨trivial, trivial, ⟨⟨0, rfl⟩, trivial⟩⟩ (fun _ _ _ h => h) ?_
                refine VA.va (i := 6) (listed' := LB 11 127) rfl (op_indexAddr Try.underlying40 TI24 rfl rfl c67510 (lt_get c67510 hx67511) (add_zero_at _ _) (ltn rfl)) rfl (by kernel_rfl) (by kernel_rfl) (by kernel_rfl) (by kernel_rfl) ⟨trivial, trivial, ⟨⟨0, rfl⟩, trivial⟩⟩ (fun _ _ _ h => h) ?_
                refine VA.va (i := 7) (listed' := LB 11 255) rfl (op_load_own (sz := 3) (o := 0) 0 i66909.toNat 3 rfl rfl (get_map hx67511) TI24 rfl (fun h => absurd h (by decide)) (ltn rfl)) rfl (by kernel_rfl) (by kernel_rfl) (by kernel_rfl) (by kernel_rfl) ⟨trivial, trivial, ⟨⟨0, rfl⟩, trivial⟩⟩ (fun _ _ _ h => h) ?_
                refine VA.oneC (i := 8) (listed' := LB 11 511) (by kernel_rfl) rfl (o_call0 FO26 (queue_compare.ok k x67509.f0 x67509.f1 x67509.f2 x67511.f0 x67511.f1 x67511.f2 t67512 hA67513) rfl rfl (ltn rfl) (All_of .nil)) rfl (by kernel_rfl) ?_
                rintro _ _ _ ⟨rfl, rfl, rfl⟩
                refine ⟨⟨trivial, trivial, ⟨⟨0, rfl⟩, trivial⟩⟩, ?_⟩
                refine VA.va (i := 9) (listed' := LB 11 1023) rfl (op_cmp rfl rfl (congrArg some hb67514) (ltn rfl)) rfl (by kernel_rfl) (by kernel_rfl) (by kernel_rfl) (by kernel_rfl) ⟨trivial, trivial, ⟨⟨0, rfl⟩, trivial⟩⟩ (fun _ _ _ h => h) ?_
                refine VA.va (i := 10) (listed' := LB 11 2047) rfl (op_assign rfl (ltn rfl)) rfl (by kernel_rfl) (by kernel_rfl) (by kernel_rfl) (by kernel_rfl) ⟨trivial, trivial, ⟨⟨0, rfl⟩, trivial⟩⟩ (fun _ _ _ h => h) ?_
                refine VA.done (by kernel_rfl) ?_
                exact VN.meet0  [0] [0] trivial ⟨rfl, ⟨rfl, trivial⟩, trivial, rfl, by decide, rfl, by decide⟩
              intro _
              refine VC.ret ?_
              refine VR.inl (rs := [.tmp 6]) (.bool b67514) rfl (.tmp rfl .nil) rfl ?_
              by_cases c67515 : t67512 < 0
              · rw [if_pos c67515] at h
                obtain rfl : b67514 = true := hb67514.symm.trans (decide_eq_true c67515)
                refine VL.va (op_not rfl rfl (ltn rfl)) rfl ?_
                refine VL.done ?_
                refine VN.then ?_
                refine VC.cond_f rfl ?_
                refine VC.skip ?_
                refine VN.then ?_
                refine VC.seq ?_
                refine VC.region ?_
                refine VL.va (op_move rfl (ltn rfl)) rfl ?_
                refine VL.va (op_move rfl (ltn rfl)) rfl ?_
                refine VL.va (op_move rfl (ltn rfl)) rfl ?_
                replace h := Option.bind_eq_some_iff.1 h
                obtain ⟨r67516, hA67517, h⟩ := h
                refine VL.step1 (ope_ownd (vals := [(.slice (some ⟨g66931, 0, none⟩) l66912.length n66932), .int .i64 i66909, .int .i64 (wrap64 ((wrap64 (2 * i66909)) + 1))]) 0 rfl (ope_meth_v 0 1 MI42_Swap Try.underlying42 FO56 rfl rfl TI40 rfl (by decide) rfl rfl) (queue_waits_Swap.ok l66912 i66909 (wrap64 ((wrap64 (2 * i66909)) + 1)) (.slice (some ⟨g66931, 0, none⟩) l66912.length n66932) r67516 hA67517) (by simp) (ltn rfl)) rfl ?_
                refine VL.done ?_
                refine VN.then ?_
                refine VC.region ?_
                refine VL.va (op_move rfl (ltn rfl)) rfl ?_
                refine VL.va (op_assign rfl (ltn rfl)) rfl ?_
                refine VL.done ?_
                refine VN.block ?_
                refine VN.again [0] [0] (ihl53 (wrap64 ((wrap64 (2 * i66909)) + 1)) (.slice (some ⟨g66931, 0, none⟩) l66912.length n66932) r67516 h) ⟨rfl, ⟨rfl, rfl, rfl, rfl, rfl, trivial⟩, trivial, rfl, by decide, rfl, by decide⟩
              · rw [if_neg c67515] at h
                obtain rfl : b67514 = false := hb67514.symm.trans (decide_eq_false c67515)
                refine VL.va (op_not rfl rfl (ltn rfl)) rfl ?_
                refine VL.done ?_
                refine VN.then ?_
                refine VC.cond_t rfl ?_
                refine VC.exit ?_
                refine VX.then ?_
                refine VX.miss (by decide) ?_
                refine VX.then ?_
                refine VX.hit ?_
                refine VN.then ?_
                refine VC.seq ?_
                refine VC.region ?_
                refine VL.va (op_move rfl (ltn rfl)) rfl ?_
                refine VL.va (op_move rfl (ltn rfl)) rfl ?_
                refine VL.letter (decide (i66909 > i60334)) fun b67519 hb67519 => ?_
                refine VL.va (op_cmp rfl rfl (congrArg some hb67519) (ltn rfl)) rfl ?_
                refine VL.va (op_assign rfl (ltn rfl)) rfl ?_
                refine VL.done ?_
                refine VN.then ?_
                refine VC.ret ?_
                refine VR.inl (rs := [.tmp 6]) (.bool b67519) rfl (.tmp rfl .nil) rfl ?_
                refine VL.done ?_
                refine VN.block ?_
                refine VN.then ?_
                refine VC.region ?_
                refine VL.va (op_move rfl (ltn rfl)) rfl ?_
                refine VL.va (op_ari64 rfl rfl rfl (ltn rfl)) rfl ?_
                refine VL.va (op_assign rfl (ltn rfl)) rfl ?_
                refine VL.done ?_
                refine VN.again [0] [0] (ihl46 (wrap64 (i60334 - 1)) (.slice (some ⟨g66931, 0, none⟩) l66912.length n66932) l66912 h) ⟨rfl, ⟨rfl, rfl, rfl, trivial⟩, trivial, rfl, by decide, rfl, by decide⟩
            · rw [if_neg c67510] at h; cases h
          · rw [if_neg c67508] at h; cases h
    · rw [if_neg c63933] at h
      obtain rfl : b63932 = false := hb63932.symm.trans (decide_eq_false c63933)
      refine VC.cond_f rfl ?_
      refine VC.exit ?_
      refine VX.then ?_
      refine VX.then ?_
      refine VX.hit ?_
      refine VN.inl (rs := []) (.tuple #[]) rfl .nil rfl ?_
      refine VL.done ?_
      refine VN.then ?_
      refine VC.seq ?_
      refine VC.region ?_
      refine VL.va (op_load 0 1 rfl rfl TI40 rfl (by decide) (ltn rfl)) rfl ?_
      refine VL.va (op_assign rfl (ltn rfl)) rfl ?_
      refine VL.va (op_assign rfl (ltn rfl)) rfl ?_
      refine VL.done ?_
      refine VN.then ?_
      refine VC.ret ?_
      simp only [Option.some.injEq, Prod.mk.injEq] at h
      obtain ⟨rfl, rfl⟩ := h
      exact VR.fn (rs := [.tmp 2, .tmp 3]) [] [(v60336, 24, 3, l60337.map enc23)] [0] rfl (.tmp rfl (.tmp rfl .nil)) ⟨v60336, rfl, rfl, rfl⟩ trivial rfl (by decide)

end Go.Proofs.Ythgoagnennjagaa.PQueueTop
