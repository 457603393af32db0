/- Written by a program of this repo: what the program's functions do, each as a Lean function, shown of the loaded code; or a statement's row over that; no condition of its own. -/
import Derived.Test.YthgoagnennjagaaPQueueHeapsx1
namespace Go.Proofs.Ythgoagnennjagaa.PQueueHeaps
open Go Go.RowKit Go.Proofs.YthgoagnennjagaaV
set_option linter.unusedVariables false
set_option linter.unusedSimpArgs false

set_option maxHeartbeats 4000000 in
set_option maxRecDepth 100000 in
theorem queue_Make.ok (k : Nat) (l0 : List S23) (v0 : Value) (r1 : List S23) (r2 : Int) (h : queue_Make.f k l0 = some (r1, r2)) :
    VCalls Try.prog 8 [v0] [.row v0 3 (l0.map enc23)] (fun v G own => ∃ w0 : Value, v = .tuple #[w0, .int .i64 r2] ∧ G = [] ∧ own = [(w0, 24, 3, r1.map enc23)]) := by
  refine VCalls.intro Try.func8 rfl (len rfl) fun E hC => ?_
  unfold queue_Make.f at h
  refine VC.seq ?_
  refine VC.region ?_
  refine VL.va (op_assign rfl (ltn rfl)) rfl ?_
  refine VL.va (op_assign rfl (ltn rfl)) rfl ?_
  refine VL.done ?_
  refine VN.then ?_
  refine VC.seq ?_
  refine VC.join1 (fun (q45211 : Bool) => ⟨13, [(0, v0), (2, .slice none 0 0), (3, .int .i64 0), (7, .bool q45211)], [.row v0 3 (l0.map enc23)], [], []⟩) (fun (q45211 : Bool) => queue_Make.j36 k l0 q45211 = some (r1, r2)) ?_ ?_
  · refine VC.region ?_
    refine VL.va (op_move rfl (ltn rfl)) rfl ?_
    replace h := Option.bind_eq_some_iff.1 h
    obtain ⟨t45208, hA45209, h⟩ := h
    refine VL.sC (o_call0 FO21 (queue_all.ok k l0 v0 t45208 hA45209) rfl rfl (ltn rfl) (All_of (.cons (List.mem_of_getElem? (i := 0) rfl) .nil))) rfl ?_
    rintro _ _ _ ⟨rfl, rfl, rfl⟩
    by_cases c45210 : t45208 = true
    · rw [if_pos c45210] at h
      obtain rfl := c45210
      refine VL.va (op_not rfl rfl (ltn rfl)) rfl ?_
      refine VL.done ?_
      refine VN.meet1 false [] [] h ⟨rfl, ⟨rfl, rfl, rfl, rfl, trivial⟩, ⟨⟨0, rfl⟩, trivial⟩, rfl, by decide, rfl, by decide⟩
    · rw [if_neg c45210] at h
      obtain rfl := Bool.eq_false_iff.2 c45210
      refine VL.va (op_not rfl rfl (ltn rfl)) rfl ?_
      refine VL.done ?_
      refine VN.meet1 true [] [] h ⟨rfl, ⟨rfl, rfl, rfl, rfl, trivial⟩, ⟨⟨0, rfl⟩, trivial⟩, rfl, by decide, rfl, by decide⟩
  clear h
  intro q45211 h
  unfold queue_Make.j36 at h
  by_cases c45212 : q45211 = true
  · rw [if_pos c45212] at h
    obtain rfl := c45212
    refine VC.cond_t rfl ?_
    refine VC.seq ?_
    refine VC.region ?_
    refine VL.va (op_assign rfl (ltn rfl)) rfl ?_
    refine VL.va (op_assign rfl (ltn rfl)) rfl ?_
    refine VL.done ?_
    refine VN.then ?_
    refine VC.ret ?_
    refine VR.then ?_
    simp only [Option.some.injEq, Prod.mk.injEq] at h
    obtain ⟨rfl, rfl⟩ := h
    refine VR.nilRow' 24 3 ?_
    exact VR.fn (rs := [.tmp 2, .tmp 3]) [] [((.slice none 0 0), 24, 3, ([] : List S23).map enc23)] [0] rfl (.tmp rfl (.tmp rfl .nil)) ⟨(.slice none 0 0), rfl, rfl, rfl⟩ trivial rfl (by decide)
  · rw [if_neg c45212] at h
    obtain rfl := Bool.eq_false_iff.2 c45212
    refine VC.cond_f rfl ?_
    refine VC.skip ?_
    refine VN.then ?_
    refine VC.seq ?_
    refine VC.region ?_
    refine VL.va (op_move rfl (ltn rfl)) rfl ?_
    replace h := Option.bind_eq_some_iff.1 h
    obtain ⟨r45214, hA45215, h⟩ := h
    refine VL.sC (o_call_b0 FO22 (slices_Clone_api_Wait_api_Wait.ok l0 v0 r45214 hA45215) rfl rfl (ltn rfl) (All_of (.cons (.inl (List.mem_of_getElem? (i := 0) rfl)) .nil)) (by rintro _ _ _ ⟨_, rfl, rfl, rfl⟩; rfl)) rfl ?_
    rintro v45217 _ _ ⟨_, rfl, rfl, rfl⟩
    refine VL.sG (o_alloc Z40 ZL40 (ltn rfl)) rfl ?_
    intro g45218
    refine VL.step1 (o_store 0 1 rfl rfl rfl TI40 (.r 0 rfl) rfl (len rfl)) rfl ?_
    refine VL.done ?_
    refine VN.then ?_
    refine VC.seq ?_
    refine VC.region ?_
    refine VL.va (op_makeIface Try.underlying42 (fun _ h => by cases h) rfl (ltn rfl)) rfl ?_
    refine VL.inl (vals := [.iface 42 (.pointer (some ⟨g45218, 0, none⟩))]) (caps := []) Try.func23 FO23 rfl rfl rfl (len rfl) (ltn rfl) rfl ?_
    refine VC.seq ?_
    refine VC.region ?_
    refine VL.va (op_move rfl (ltn rfl)) rfl ?_
    refine VL.inle (vals := [v45217]) Try.func54 rfl (ope_meth_v 0 1 MI42_Len Try.underlying42 FO54 rfl rfl TI40 rfl (by decide) rfl rfl) (len rfl) (by rintro d ⟨⟩; exact ltn rfl) rfl ?_
    refine VC.seq ?_
    refine VC.region ?_
    refine VL.va (op_assign rfl (ltn rfl)) rfl ?_
    refine VL.done ?_
    refine VN.then ?_
    refine VC.seq ?_
    refine VC.region ?_
    refine VL.va (op_move rfl (ltn rfl)) rfl ?_
    refine VL.va (op_len_own (m := r45214.length) 0 lenm Try.underlying40 rfl rfl (ltn rfl)) rfl ?_
    refine VL.va (op_assign rfl (ltn rfl)) rfl ?_
    refine VL.done ?_
    refine VN.then ?_
    refine VC.ret ?_
    refine VR.inl (rs := [.tmp 2]) (.int .i64 (r45214.length : Int)) rfl (.tmp rfl .nil) rfl ?_
    refine VL.va (op_assign rfl (ltn rfl)) rfl ?_
    refine VL.done ?_
    refine VN.then ?_
    refine VC.seq ?_
    refine VC.region ?_
    refine VL.va (op_move rfl (ltn rfl)) rfl ?_
    refine VL.va (op_quo rfl rfl (by decide) rfl (ltn rfl)) rfl ?_
    refine VL.va (op_ari64 rfl rfl rfl (ltn rfl)) rfl ?_
    refine VL.va (op_assign rfl (ltn rfl)) rfl ?_
    refine VL.done ?_
    refine VN.then ?_
    refine VC.block ?_
    refine VC.loop3 (fun (i59587 : Int) (v59589 : Value) (l59590 : List S23) => ⟨17, [(0, .iface 42 (.pointer (some ⟨g45218, 0, none⟩))), (2, .int .i64 (r45214.length : Int)), (3, .int .i64 i59587)], [], [(g45218, 40, [v59589])], [(v59589, 24, 3, l59590.map enc23)]⟩) (fun (ml46 : Nat) (i59587 : Int) (v59589 : Value) (l59590 : List S23) => queue_Make.l46 k r45214 ml46 i59587 l59590 = some (r1, r2)) k (wrap64 ((IntKind.i64.wrap ((r45214.length : Int).tdiv 2)) - 1)) v45217 r45214 [0] [0] h ⟨rfl, ⟨rfl, rfl, rfl, trivial⟩, trivial, rfl, by decide, rfl, by decide⟩ (by intros; simp [queue_Make.l46]) ?_
    clear h
    intro ml46 ihl46 i59587 v59589 l59590 h
    simp only [queue_Make.l46] at h
    refine VC.seq ?_
    refine VC.seq ?_
    refine VC.region ?_
    refine VL.va (op_move rfl (ltn rfl)) rfl ?_
    refine VL.letter (decide (i59587 ≥ 0)) fun b63185 hb63185 => ?_
    refine VL.va (op_cmp rfl rfl (congrArg some hb63185) (ltn rfl)) rfl ?_
    refine VL.done ?_
    refine VN.then ?_
    by_cases c63186 : i59587 ≥ 0
    · rw [if_pos c63186] at h
      obtain rfl : b63185 = true := hb63185.symm.trans (decide_eq_true c63186)
      refine VC.cond_t rfl ?_
      refine VC.skip ?_
      refine VN.then ?_
      refine VC.seq ?_
      refine VC.block ?_
      refine VC.region ?_
      refine VL.va (op_move rfl (ltn rfl)) rfl ?_
      refine VL.va (op_move rfl (ltn rfl)) rfl ?_
      refine VL.va (op_move rfl (ltn rfl)) rfl ?_
      refine VL.inl (vals := [.iface 42 (.pointer (some ⟨g45218, 0, none⟩)), .int .i64 i59587, .int .i64 (r45214.length : Int)]) (caps := []) Try.func31 FO31 rfl rfl rfl (len rfl) (ltn rfl) rfl ?_
      refine VC.seq ?_
      refine VC.region ?_
      refine VL.va (op_assign rfl (ltn rfl)) rfl ?_
      refine VL.done ?_
      refine VN.then ?_
      refine VC.seq ?_
      refine VC.region ?_
      refine VL.va (op_move rfl (ltn rfl)) rfl ?_
      refine VL.va (op_assign rfl (ltn rfl)) rfl ?_
      refine VL.done ?_
      refine VN.then ?_
      refine VC.seq ?_
      refine VC.block ?_
      refine VC.loop3 (fun (i66162 : Int) (v66164 : Value) (l66165 : List S23) => ⟨48, [(0, .iface 42 (.pointer (some ⟨g45218, 0, none⟩))), (1, .int .i64 i59587), (2, .int .i64 (r45214.length : Int)), (6, .bool false), (7, .int .i64 i66162)], [], [(g45218, 40, [v66164])], [(v66164, 24, 3, l66165.map enc23)]⟩) (fun (ml53 : Nat) (i66162 : Int) (v66164 : Value) (l66165 : List S23) => queue_Make.l53 k (queue_Make.l46 k r45214 ml46) i59587 r45214 ml53 i66162 l66165 = some (r1, r2)) k i59587 v59589 l59590 [0] [0] h ⟨rfl, ⟨rfl, rfl, rfl, rfl, rfl, trivial⟩, trivial, rfl, by decide, rfl, by decide⟩ (by intros; simp [queue_Make.l53]) ?_
      clear h
      intro ml53 ihl53 i66162 v66164 l66165 h
      simp only [queue_Make.l53] at h
      refine VC.block ?_
      refine VC.seq ?_
      refine VC.region ?_
      refine VL.va (op_move rfl (ltn rfl)) rfl ?_
      refine VL.va (op_ari64 rfl rfl rfl (ltn rfl)) rfl ?_
      refine VL.va (op_ari64 rfl rfl rfl (ltn rfl)) rfl ?_
      refine VL.va (op_assign rfl (ltn rfl)) rfl ?_
      refine VL.done ?_
      refine VN.then ?_
      refine VC.seq ?_
      refine VC.join3 (fun (q66627 : Bool) (q66628 : Bool) (q66629 : Bool) => ⟨48, [(0, .iface 42 (.pointer (some ⟨g45218, 0, none⟩))), (1, .int .i64 i59587), (2, .int .i64 (r45214.length : Int)), (6, .bool false), (7, .int .i64 i66162), (8, .int .i64 (wrap64 ((wrap64 (2 * i66162)) + 1))), (12, .int .i64 i66162), (13, .int .i64 (wrap64 (2 * i66162))), (14, .int .i64 (wrap64 ((wrap64 (2 * i66162)) + 1))), (15, .int .i64 (wrap64 ((wrap64 (2 * i66162)) + 1))), (16, .int .i64 (r45214.length : Int)), (17, .bool q66627), (18, .bool q66628), (21, .bool q66629)], [], [(g45218, 40, [v66164])], [(v66164, 24, 3, l66165.map enc23)]⟩) (fun (q66627 : Bool) (q66628 : Bool) (q66629 : Bool) => queue_Make.j54 k (queue_Make.l46 k r45214 ml46) (queue_Make.l53 k (queue_Make.l46 k r45214 ml46) i59587 r45214 ml53) i59587 i66162 l66165 r45214 q66627 q66628 q66629 = some (r1, r2)) ?_ ?_
      · refine VC.region ?_
        refine VL.va (op_move rfl (ltn rfl)) rfl ?_
        refine VL.va (op_move rfl (ltn rfl)) rfl ?_
        refine VL.letter (decide ((wrap64 ((wrap64 (2 * i66162)) + 1)) ≥ (r45214.length : Int))) fun b66624 hb66624 => ?_
        refine VL.va (op_cmp rfl rfl (congrArg some hb66624) (ltn rfl)) rfl ?_
        refine VL.va (op_move rfl (ltn rfl)) rfl ?_
        by_cases c66625 : (wrap64 ((wrap64 (2 * i66162)) + 1)) ≥ (r45214.length : Int)
        · rw [if_pos c66625] at h
          obtain rfl : b66624 = true := hb66624.symm.trans (decide_eq_true c66625)
          refine VL.un rfl rfl (ltn rfl) ?_
          refine VL.un rfl rfl (ltn rfl) ?_
          refine VL.va (op_pick rfl rfl (ltn rfl)) rfl ?_
          refine VL.done ?_
          refine VN.meet3 true true true [0] [0] h ⟨rfl, ⟨rfl, rfl, rfl, rfl, rfl, rfl, rfl, rfl, rfl, rfl, rfl, rfl, rfl, rfl, trivial⟩, trivial, rfl, by decide, rfl, by decide⟩
        · rw [if_neg c66625] at h
          obtain rfl : b66624 = false := hb66624.symm.trans (decide_eq_false c66625)
          refine VL.va (op_move rfl (ltn rfl)) rfl ?_
          refine VL.letter (decide ((wrap64 ((wrap64 (2 * i66162)) + 1)) < 0)) fun b66626 hb66626 => ?_
          refine VL.va (op_cmp rfl rfl (congrArg some hb66626) (ltn rfl)) rfl ?_
          refine VL.va (op_pick rfl rfl (ltn rfl)) rfl ?_
          refine VL.done ?_
          subst hb66626
          refine VN.meet3 false false (decide ((wrap64 ((wrap64 (2 * i66162)) + 1)) < 0)) [0] [0] h ⟨rfl, ⟨rfl, rfl, rfl, rfl, rfl, rfl, rfl, rfl, rfl, rfl, rfl, rfl, rfl, rfl, trivial⟩, trivial, rfl, by decide, rfl, by decide⟩
      clear h
      intro q66627 q66628 q66629 h
      unfold queue_Make.j54 at h
      by_cases c66630 : q66629 = true
      · rw [if_pos c66630] at h
        obtain rfl := c66630
        refine VC.cond_t rfl ?_
        refine VC.exit ?_
        refine VX.then ?_
        refine VX.miss (by decide) ?_
        refine VX.then ?_
        refine VX.hit ?_
        refine VN.then ?_
        refine VC.seq ?_
        refine VC.region ?_
        refine VL.va (op_move rfl (ltn rfl)) rfl ?_
        refine VL.va (op_move rfl (ltn rfl)) rfl ?_
        refine VL.letter (decide (i66162 > i59587)) fun b66631 hb66631 => ?_
        refine VL.va (op_cmp rfl rfl (congrArg some hb66631) (ltn rfl)) rfl ?_
        refine VL.va (op_assign rfl (ltn rfl)) rfl ?_
        refine VL.done ?_
        refine VN.then ?_
        refine VC.ret ?_
        refine VR.inl (rs := [.tmp 6]) (.bool b66631) rfl (.tmp rfl .nil) rfl ?_
        refine VL.done ?_
        refine VN.block ?_
        refine VN.then ?_
        refine VC.region ?_
        refine VL.va (op_move rfl (ltn rfl)) rfl ?_
        refine VL.va (op_ari64 rfl rfl rfl (ltn rfl)) rfl ?_
        refine VL.va (op_assign rfl (ltn rfl)) rfl ?_
        refine VL.done ?_
        refine VN.again [0] [0] (ihl46 (wrap64 (i59587 - 1)) v66164 l66165 h) ⟨rfl, ⟨rfl, rfl, rfl, trivial⟩, trivial, rfl, by decide, rfl, by decide⟩
      · rw [if_neg c66630] at h
        obtain rfl := Bool.eq_false_iff.2 c66630
        refine VC.cond_f rfl ?_
        refine VC.skip ?_
        refine VN.then ?_
        refine VC.seq ?_
        refine VC.region ?_
        refine VL.va (op_move rfl (ltn rfl)) rfl ?_
        refine VL.va (op_assign rfl (ltn rfl)) rfl ?_
        refine VL.done ?_
        refine VN.then ?_
        refine VC.seq ?_
        refine VC.seq ?_
        refine VC.region ?_
        refine VL.va (op_move rfl (ltn rfl)) rfl ?_
        refine VL.va (op_ari64 rfl rfl rfl (ltn rfl)) rfl ?_
        refine VL.va (op_assign rfl (ltn rfl)) rfl ?_
        refine VL.done ?_
        refine VN.then ?_
        refine VC.seq ?_
        refine VC.region ?_
        refine VL.va (op_move rfl (ltn rfl)) rfl ?_
        refine VL.va (op_move rfl (ltn rfl)) rfl ?_
        refine VL.letter (decide ((wrap64 ((wrap64 ((wrap64 (2 * i66162)) + 1)) + 1)) < (r45214.length : Int))) fun b66660 hb66660 => ?_
        refine VL.va (op_cmp rfl rfl (congrArg some hb66660) (ltn rfl)) rfl ?_
        refine VL.va (op_move rfl (ltn rfl)) rfl ?_
        by_cases c66661 : (wrap64 ((wrap64 ((wrap64 (2 * i66162)) + 1)) + 1)) < (r45214.length : Int)
        · rw [if_pos c66661] at h
          obtain rfl : b66660 = true := hb66660.symm.trans (decide_eq_true c66661)
          refine VL.va (op_move rfl (ltn rfl)) rfl ?_
          refine VL.va (op_move rfl (ltn rfl)) rfl ?_
          refine VL.va (op_move rfl (ltn rfl)) rfl ?_
          refine VL.inle (vals := [v66164, .int .i64 (wrap64 ((wrap64 ((wrap64 (2 * i66162)) + 1)) + 1)), .int .i64 (wrap64 ((wrap64 (2 * i66162)) + 1))]) Try.func55 rfl (ope_meth_v 0 1 MI42_Less Try.underlying42 FO55 rfl rfl TI40 rfl (by decide) rfl rfl) (len rfl) (by rintro d ⟨⟩; exact ltn rfl) rfl ?_
          refine VC.seq ?_
          refine VC.region ?_
          refine VL.va (op_assign rfl (ltn rfl)) rfl ?_
          refine VL.done ?_
          refine VN.then ?_
          by_cases c66662 : 0 ≤ wrap64 ((wrap64 ((wrap64 (2 * i66162)) + 1)) + 1)
          · rw [if_pos c66662] at h
            replace h := Option.bind_eq_some_iff.1 h
            obtain ⟨x66663, hx66663, h⟩ := h
            by_cases c66664 : 0 ≤ wrap64 ((wrap64 (2 * i66162)) + 1)
            · rw [if_pos c66664] at h
              replace h := Option.bind_eq_some_iff.1 h
              obtain ⟨x66665, hx66665, h⟩ := h
              replace h := Option.bind_eq_some_iff.1 h
              obtain ⟨t66666, hA66667, h⟩ := h
              refine VC.letter (decide (t66666 < 0)) fun b66668 hb66668 => ?_
              refine VC.openR (m := l66165.length) 0 lenm rfl (pos_get hx66663) ?_
              rintro g66184 n66185 rfl
              refine VC.join0 (⟨17, [(6, .bool b66668)], [], [(g45218, 40, [(.slice (some ⟨g66184, 0, none⟩) l66165.length n66185)])], [((.slice (some ⟨g66184, 0, none⟩) l66165.length n66185), 24, 3, l66165.map enc23)]⟩) (True) ?_ ?_
              · refine VC.draw ⟨0, [], [], [], [((.slice (some ⟨g66184, 0, none⟩) l66165.length n66185), 24, 3, l66165.map enc23)]⟩ (by kernel_rfl) rfl (by kernel_rfl) (n := 11) (listed := LB 11 0) ?_
                refine VA.va (i := 0) (listed' := LB 11 1) rfl (op_move rfl (ltn rfl)) rfl (by kernel_rfl) (by kernel_rfl) (by kernel_rfl) (by kernel_rfl) ⟨trivial, trivial, ⟨⟨0, rfl⟩, trivial⟩⟩ (fun _ _ _ h => h) ?_
                refine VA.va (i := 1) (listed' := LB 11 3) rfl (op_move rfl (ltn rfl)) rfl (by kernel_rfl) (by kernel_rfl) (by kernel_rfl) (by kernel_rfl) ⟨trivial, trivial, ⟨⟨0, rfl⟩, trivial⟩⟩ (fun _ _ _ h => h) ?_
                refine VA.va (i := 2) (listed' := LB 11 7) rfl (op_indexAddr Try.underlying40 TI24 rfl rfl c66662 (lt_get c66662 hx66663) (add_zero_at _ _) (ltn rfl)) rfl (by kernel_rfl) (by kernel_rfl) (by kernel_rfl) (by kernel_rfl) ⟨trivial, trivial, ⟨⟨0, rfl⟩, trivial⟩⟩ (fun _ _ _ h => h) ?_
                refine VA.va (i := 3) (listed' := LB 11 15) rfl (op_load_own (sz := 3) (o := 0) 0 (wrap64 ((wrap64 ((wrap64 (2 * i66162)) + 1)) + 1)).toNat 3 rfl rfl (get_map hx66663) TI24 rfl (fun h => absurd h (by decide)) (ltn rfl)) rfl (by kernel_rfl) (by kernel_rfl) (by kernel_rfl) (by kernel_rfl) ⟨trivial, trivial, ⟨⟨0, rfl⟩, trivial⟩⟩ (fun _ _ _ h => h) ?_
                refine VA.va (i := 4) (listed' := LB 11 31) rfl (op_move rfl (ltn rfl)) rfl (by kernel_rfl) (by kernel_rfl) (by kernel_rfl) (by kernel_rfl) ⟨trivial, trivial, ⟨⟨0, rfl⟩, trivial⟩⟩ (fun _ _ _ h => h) ?_
                refine VA.va (i := 5) (listed' := LB 11 63) rfl (op_move rfl (ltn rfl)) rfl (by kernel_rfl) (by kernel_rfl) (by kernel_rfl) (by kernel_rfl) ⟨trivial, trivial, ⟨⟨0, rfl⟩, trivial⟩⟩ (fun _ _ _ h => h) ?_
                refine VA.va (i := 6) (listed' := LB 11 127) rfl (op_indexAddr Try.underlying40 TI24 rfl rfl c66664 (lt_get c66664 hx66665) (add_zero_at _ _) (ltn rfl)) rfl (by kernel_rfl) (by kernel_rfl) (by kernel_rfl) (by kernel_rfl) ⟨trivial, trivial, ⟨⟨0, rfl⟩, trivial⟩⟩ (fun _ _ _ h => h) ?_
                refine VA.va (i := 7) (listed' := LB 11 255) rfl (op_load_own (sz := 3) (o := 0) 0 (wrap64 ((wrap64 (2 * i66162)) + 1)).toNat 3 rfl rfl (get_map hx66665) TI24 rfl (fun h => absurd h (by decide)) (ltn rfl)) rfl (by kernel_rfl) (by kernel_rfl) (by kernel_rfl) (by kernel_rfl) ⟨trivial, trivial, ⟨⟨0, rfl⟩, trivial⟩⟩ (fun _ _ _ h => h) ?_
                refine VA.oneC (i := 8) (listed' := LB 11 511) (by kernel_rfl) rfl (o_call0 FO26 (queue_compare.ok k x66663.f0 x66663.f1 x66663.f2 x66665.f0 x66665.f1 x66665.f2 t66666 hA66667) rfl rfl (ltn rfl) (All_of .nil)) rfl (by kernel_rfl) ?_
                rintro _ _ _ ⟨rfl, rfl, rfl⟩
                refine ⟨⟨trivial, trivial, ⟨⟨0, rfl⟩, trivial⟩⟩, ?_⟩
                refine VA.va (i := 9) (listed' := LB 11 1023) rfl (op_cmp rfl rfl (congrArg some hb66668) (ltn rfl)) rfl (by kernel_rfl) (by kernel_rfl) (by kernel_rfl) (by kernel_rfl) ⟨trivial, trivial, ⟨⟨0, rfl⟩, trivial⟩⟩ (fun _ _ _ h => h) ?_
                refine VA.va (i := 10) (listed' := LB 11 2047) rfl (op_assign rfl (ltn rfl)) rfl (by kernel_rfl) (by kernel_rfl) (by kernel_rfl) (by kernel_rfl) ⟨trivial, trivial, ⟨⟨0, rfl⟩, trivial⟩⟩ (fun _ _ _ h => h) ?_
                refine VA.done (by kernel_rfl) ?_
                exact VN.meet0  [0] [0] trivial ⟨rfl, ⟨rfl, trivial⟩, trivial, rfl, by decide, rfl, by decide⟩
              intro _
              refine VC.ret ?_
              refine VR.inl (rs := [.tmp 6]) (.bool b66668) rfl (.tmp rfl .nil) rfl ?_
              refine VL.va (op_pick rfl rfl (ltn rfl)) rfl ?_
              refine VL.done ?_
              refine VN.then ?_
              by_cases c66669 : t66666 < 0
              · rw [if_pos c66669] at h
                obtain rfl : b66668 = true := hb66668.symm.trans (decide_eq_true c66669)
                refine VC.cond_t rfl ?_
                refine VC.region ?_
                refine VL.va (op_move rfl (ltn rfl)) rfl ?_
                refine VL.va (op_assign rfl (ltn rfl)) rfl ?_
                refine VL.done ?_
                refine VN.then ?_
                refine VC.seq ?_
                refine VC.seq ?_
                refine VC.region ?_
                refine VL.va (op_move rfl (ltn rfl)) rfl ?_
                refine VL.va (op_move rfl (ltn rfl)) rfl ?_
                refine VL.va (op_move rfl (ltn rfl)) rfl ?_
                refine VL.inle (vals := [(.slice (some ⟨g66184, 0, none⟩) l66165.length n66185), .int .i64 (wrap64 ((wrap64 ((wrap64 (2 * i66162)) + 1)) + 1)), .int .i64 i66162]) Try.func55 rfl (ope_meth_v 0 1 MI42_Less Try.underlying42 FO55 rfl rfl TI40 rfl (by decide) rfl rfl) (len rfl) (by rintro d ⟨⟩; exact ltn rfl) rfl ?_
                refine VC.seq ?_
                refine VC.region ?_
                refine VL.va (op_assign rfl (ltn rfl)) rfl ?_
                refine VL.done ?_
                refine VN.then ?_
                replace h := Option.bind_eq_some_iff.1 h
                obtain ⟨x66692, hx66692, h⟩ := h
                by_cases c66693 : 0 ≤ i66162
                · rw [if_pos c66693] at h
                  replace h := Option.bind_eq_some_iff.1 h
                  obtain ⟨x66694, hx66694, h⟩ := h
                  replace h := Option.bind_eq_some_iff.1 h
                  obtain ⟨t66695, hA66696, h⟩ := h
                  refine VC.letter (decide (t66695 < 0)) fun b66697 hb66697 => ?_
                  refine VC.join0 (⟨17, [(6, .bool b66697)], [], [(g45218, 40, [(.slice (some ⟨g66184, 0, none⟩) l66165.length n66185)])], [((.slice (some ⟨g66184, 0, none⟩) l66165.length n66185), 24, 3, l66165.map enc23)]⟩) (True) ?_ ?_
                  · refine VC.draw ⟨0, [], [], [], [((.slice (some ⟨g66184, 0, none⟩) l66165.length n66185), 24, 3, l66165.map enc23)]⟩ (by kernel_rfl) rfl (by kernel_rfl) (n := 11) (listed := LB 11 0) ?_
                    refine VA.va (i := 0) (listed' := LB 11 1) rfl (op_move rfl (ltn rfl)) rfl (by kernel_rfl) (by kernel_rfl) (by kernel_rfl) (by kernel_rfl) ⟨trivial, trivial, ⟨⟨0, rfl⟩, trivial⟩⟩ (fun _ _ _ h => h) ?_
                    refine VA.va (i := 1) (listed' := LB 11 3) rfl (op_move rfl (ltn rfl)) rfl (by kernel_rfl) (by kernel_rfl) (by kernel_rfl) (by kernel_rfl) ⟨trivial, trivial, ⟨⟨0, rfl⟩, trivial⟩⟩ (fun _ _ _ h => h) ?_
                    refine VA.va (i := 2) (listed' := LB 11 7) rfl (op_indexAddr Try.underlying40 TI24 rfl rfl c66662 (lt_get c66662 hx66692) (add_zero_at _ _) (ltn rfl)) rfl (by kernel_rfl) (by kernel_rfl) (by kernel_rfl) (by kernel_rfl) ⟨trivial, trivial, ⟨⟨0, rfl⟩, trivial⟩⟩ (fun _ _ _ h => h) ?_
                    refine VA.va (i := 3) (listed' := LB 11 15) rfl (op_load_own (sz := 3) (o := 0) 0 (wrap64 ((wrap64 ((wrap64 (2 * i66162)) + 1)) + 1)).toNat 3 rfl rfl (get_map hx66692) TI24 rfl (fun h => absurd h (by decide)) (ltn rfl)) rfl (by kernel_rfl) (by kernel_rfl) (by kernel_rfl) (by kernel_rfl) ⟨trivial, trivial, ⟨⟨0, rfl⟩, trivial⟩⟩ (fun _ _ _ h => h) ?_
                    refine VA.va (i := 4) (listed' := LB 11 31) rfl (op_move rfl (ltn rfl)) rfl (by kernel_rfl) (by kernel_rfl) (by kernel_rfl) (by kernel_rfl) ⟨trivial, trivial, ⟨⟨0, rfl⟩, trivial⟩⟩ (fun _ _ _ h => h) ?_
                    refine VA.va (i := 5) (listed' := LB 11 63) rfl (op_move rfl (ltn rfl)) rfl (by kernel_rfl) (by kernel_rfl) (by kernel_rfl) (by kernel_rfl) ⟨trivial, trivial, ⟨⟨0, rfl⟩, trivial⟩⟩ (fun _ _ _ h => h) ?_
                    refine VA.va (i := 6) (listed' := LB 11 127) rfl (op_indexAddr Try.underlying40 TI24 rfl rfl c66693 (lt_get c66693 hx66694) (add_zero_at _ _) (ltn rfl)) rfl (by kernel_rfl) (by kernel_rfl) (by kernel_rfl) (by kernel_rfl) ⟨trivial, trivial, ⟨⟨0, rfl⟩, trivial⟩⟩ (fun _ _ _ h => h) ?_
                    refine VA.va (i := 7) (listed' := LB 11 255) rfl (op_load_own (sz := 3) (o := 0) 0 i66162.toNat 3 rfl rfl (get_map hx66694) TI24 rfl (fun h => absurd h (by decide)) (ltn rfl)) rfl (by kernel_rfl) (by kernel_rfl) (by kernel_rfl) (by kernel_rfl) ⟨trivial, trivial, ⟨⟨0, rfl⟩, trivial⟩⟩ (fun _ _ _ h => h) ?_
                    refine VA.oneC (i := 8) (listed' := LB 11 511) (by kernel_rfl) rfl (o_call0 FO26 (queue_compare.ok k x66692.f0 x66692.f1 x66692.f2 x66694.f0 x66694.f1 x66694.f2 t66695 hA66696) rfl rfl (ltn rfl) (All_of .nil)) rfl (by kernel_rfl) ?_
                    rintro _ _ _ ⟨rfl, rfl, rfl⟩
                    refine ⟨⟨trivial, trivial, ⟨⟨0, rfl⟩, trivial⟩⟩, ?_⟩
                    refine VA.va (i := 9) (listed' := LB 11 1023) rfl (op_cmp rfl rfl (congrArg some hb66697) (ltn rfl)) rfl (by kernel_rfl) (by kernel_rfl) (by kernel_rfl) (by kernel_rfl) ⟨trivial, trivial, ⟨⟨0, rfl⟩, trivial⟩⟩ (fun _ _ _ h => h) ?_
                    refine VA.va (i := 10) (listed' := LB 11 2047) rfl (op_assign rfl (ltn rfl)) rfl (by kernel_rfl) (by kernel_rfl) (by kernel_rfl) (by kernel_rfl) ⟨trivial, trivial, ⟨⟨0, rfl⟩, trivial⟩⟩ (fun _ _ _ h => h) ?_
                    refine VA.done (by kernel_rfl) ?_
                    exact VN.meet0  [0] [0] trivial ⟨rfl, ⟨rfl, trivial⟩, trivial, rfl, by decide, rfl, by decide⟩
                  intro _
                  refine VC.ret ?_
                  refine VR.inl (rs := [.tmp 6]) (.bool b66697) rfl (.tmp rfl .nil) rfl ?_
                  by_cases c66698 : t66695 < 0
                  · rw [if_pos c66698] at h
                    obtain rfl : b66697 = true := hb66697.symm.trans (decide_eq_true c66698)
                    refine VL.va (op_not rfl rfl (ltn rfl)) rfl ?_
                    refine VL.done ?_
                    refine VN.then ?_
                    refine VC.cond_f rfl ?_
                    refine VC.skip ?_
                    refine VN.then ?_
                    refine VC.seq ?_
                    refine VC.region ?_
                    refine VL.va (op_move rfl (ltn rfl)) rfl ?_
                    refine VL.va (op_move rfl (ltn rfl)) rfl ?_
                    refine VL.va (op_move rfl (ltn rfl)) rfl ?_
                    replace h := Option.bind_eq_some_iff.1 h
                    obtain ⟨r66699, hA66700, h⟩ := h
                    refine VL.step1 (ope_ownd (vals := [(.slice (some ⟨g66184, 0, none⟩) l66165.length n66185), .int .i64 i66162, .int .i64 (wrap64 ((wrap64 ((wrap64 (2 * i66162)) + 1)) + 1))]) 0 rfl (ope_meth_v 0 1 MI42_Swap Try.underlying42 FO56 rfl rfl TI40 rfl (by decide) rfl rfl) (queue_waits_Swap.ok l66165 i66162 (wrap64 ((wrap64 ((wrap64 (2 * i66162)) + 1)) + 1)) (.slice (some ⟨g66184, 0, none⟩) l66165.length n66185) r66699 hA66700) (by simp) (ltn rfl)) rfl ?_
                    refine VL.done ?_
                    refine VN.then ?_
                    refine VC.region ?_
                    refine VL.va (op_move rfl (ltn rfl)) rfl ?_
                    refine VL.va (op_assign rfl (ltn rfl)) rfl ?_
                    refine VL.done ?_
                    refine VN.block ?_
                    refine VN.again [0] [0] (ihl53 (wrap64 ((wrap64 ((wrap64 (2 * i66162)) + 1)) + 1)) (.slice (some ⟨g66184, 0, none⟩) l66165.length n66185) r66699 h) ⟨rfl, ⟨rfl, rfl, rfl, rfl, rfl, trivial⟩, trivial, rfl, by decide, rfl, by decide⟩
                  · rw [if_neg c66698] at h
                    obtain rfl : b66697 = false := hb66697.symm.trans (decide_eq_false c66698)
                    refine VL.va (op_not rfl rfl (ltn rfl)) rfl ?_
                    refine VL.done ?_
                    refine VN.then ?_
                    refine VC.cond_t rfl ?_
                    refine VC.exit ?_
                    refine VX.then ?_
                    refine VX.miss (by decide) ?_
                    refine VX.then ?_
                    refine VX.hit ?_
                    refine VN.then ?_
                    refine VC.seq ?_
                    refine VC.region ?_
                    refine VL.va (op_move rfl (ltn rfl)) rfl ?_
                    refine VL.va (op_move rfl (ltn rfl)) rfl ?_
                    refine VL.letter (decide (i66162 > i59587)) fun b66702 hb66702 => ?_
                    refine VL.va (op_cmp rfl rfl (congrArg some hb66702) (ltn rfl)) rfl ?_
                    refine VL.va (op_assign rfl (ltn rfl)) rfl ?_
                    refine VL.done ?_
                    refine VN.then ?_
                    refine VC.ret ?_
                    refine VR.inl (rs := [.tmp 6]) (.bool b66702) rfl (.tmp rfl .nil) rfl ?_
                    refine VL.done ?_
                    refine VN.block ?_
                    refine VN.then ?_
                    refine VC.region ?_
                    refine VL.va (op_move rfl (ltn rfl)) rfl ?_
                    refine VL.va (op_ari64 rfl rfl rfl (ltn rfl)) rfl ?_
                    refine VL.va (op_assign rfl (ltn rfl)) rfl ?_
                    refine VL.done ?_
                    refine VN.again [0] [0] (ihl46 (wrap64 (i59587 - 1)) (.slice (some ⟨g66184, 0, none⟩) l66165.length n66185) l66165 h) ⟨rfl, ⟨rfl, rfl, rfl, trivial⟩, trivial, rfl, by decide, rfl, by decide⟩
                · rw [if_neg c66693] at h; cases h
              · rw [if_neg c66669] at h
                obtain rfl : b66668 = false := hb66668.symm.trans (decide_eq_false c66669)
                refine VC.cond_f rfl ?_
                refine VC.skip ?_
                refine VN.then ?_
                refine VC.seq ?_
                refine VC.seq ?_
                refine VC.region ?_
                refine VL.va (op_move rfl (ltn rfl)) rfl ?_
                refine VL.va (op_move rfl (ltn rfl)) rfl ?_
                refine VL.va (op_move rfl (ltn rfl)) rfl ?_
                refine VL.inle (vals := [(.slice (some ⟨g66184, 0, none⟩) l66165.length n66185), .int .i64 (wrap64 ((wrap64 (2 * i66162)) + 1)), .int .i64 i66162]) Try.func55 rfl (ope_meth_v 0 1 MI42_Less Try.underlying42 FO55 rfl rfl TI40 rfl (by decide) rfl rfl) (len rfl) (by rintro d ⟨⟩; exact ltn rfl) rfl ?_
                refine VC.seq ?_
                refine VC.region ?_
                refine VL.va (op_assign rfl (ltn rfl)) rfl ?_
                refine VL.done ?_
                refine VN.then ?_
                replace h := Option.bind_eq_some_iff.1 h
                obtain ⟨x66725, hx66725, h⟩ := h
                by_cases c66726 : 0 ≤ i66162
                · rw [if_pos c66726] at h
                  replace h := Option.bind_eq_some_iff.1 h
                  obtain ⟨x66727, hx66727, h⟩ := h
                  replace h := Option.bind_eq_some_iff.1 h
                  obtain ⟨t66728, hA66729, h⟩ := h
                  refine VC.letter (decide (t66728 < 0)) fun b66730 hb66730 => ?_
                  refine VC.join0 (⟨17, [(6, .bool b66730)], [], [(g45218, 40, [(.slice (some ⟨g66184, 0, none⟩) l66165.length n66185)])], [((.slice (some ⟨g66184, 0, none⟩) l66165.length n66185), 24, 3, l66165.map enc23)]⟩) (True) ?_ ?_
                  · refine VC.draw ⟨0, [], [], [], [((.slice (some ⟨g66184, 0, none⟩) l66165.length n66185), 24, 3, l66165.map enc23)]⟩ (by kernel_rfl) rfl (by kernel_rfl) (n := 11) (listed := LB 11 0) ?_
                    refine VA.va (i := 0) (listed' := LB 11 1) rfl (op_move rfl (ltn rfl)) rfl (by kernel_rfl) (by kernel_rfl) (by kernel_rfl) (by kernel_rfl) ⟨trivial, trivial, ⟨⟨0, rfl⟩, trivial⟩⟩ (fun _ _ _ h => h) ?_
                    refine VA.va (i := 1) (listed' := LB 11 3) rfl (op_move rfl (ltn rfl)) rfl (by kernel_rfl) (by kernel_rfl) (by kernel_rfl) (by kernel_rfl) ⟨trivial, trivial, ⟨⟨0, rfl⟩, trivial⟩⟩ (fun _ _ _ h => h) ?_
                    refine VA.va (i := 2) (listed' := LB 11 7) rfl (op_indexAddr Try.underlying40 TI24 rfl rfl c66664 (lt_get c66664 hx66725) (add_zero_at _ _) (ltn rfl)) rfl (by kernel_rfl) (by kernel_rfl) (by kernel_rfl) (by kernel_rfl) ⟨trivial, trivial, ⟨⟨0, rfl⟩, trivial⟩⟩ (fun _ _ _ h => h) ?_
                    refine VA.va (i := 3) (listed' := LB 11 15) rfl (op_load_own (sz := 3) (o := 0) 0 (wrap64 ((wrap64 (2 * i66162)) + 1)).toNat 3 rfl rfl (get_map hx66725) TI24 rfl (fun h => absurd h (by decide)) (ltn rfl)) rfl (by kernel_rfl) (by kernel_rfl) (by kernel_rfl) (by kernel_rfl) ⟨trivial, trivial, ⟨⟨0, rfl⟩, trivial⟩⟩ (fun _ _ _ h => h) ?_
                    refine VA.va (i := 4) (listed' := LB 11 31) rfl (op_move rfl (ltn rfl)) rfl (by kernel_rfl) (by kernel_rfl) (by kernel_rfl) (by kernel_rfl) ⟨trivial, trivial, ⟨⟨0, rfl⟩, trivial⟩⟩ (fun _ _ _ h => h) ?_
                    refine VA.va (i := 5) (listed' := LB 11 63) rfl (op_move rfl (ltn rfl)) rfl (by kernel_rfl) (by kernel_rfl) (by kernel_rfl) (by kernel_rfl) ⟨trivial, trivial, ⟨⟨0, rfl⟩, trivial⟩⟩ (fun _ _ _ h => h) ?_
                    refine VA.va (i := 6) (listed' := LB 11 127) rfl (op_indexAddr Try.underlying40 TI24 rfl rfl c66726 (lt_get c66726 hx66727) (add_zero_at _ _) (ltn rfl)) rfl (by kernel_rfl) (by kernel_rfl) (by kernel_rfl) (by kernel_rfl) ⟨trivial, trivial, ⟨⟨0, rfl⟩, trivial⟩⟩ (fun _ _ _ h => h) ?_
                    refine VA.va (i := 7) (listed' := LB 11 255) rfl (op_load_own (sz := 3) (o := 0) 0 i66162.toNat 3 rfl rfl (get_map hx66727) TI24 rfl (fun h => absurd h (by decide)) (ltn rfl)) rfl (by kernel_rfl) (by kernel_rfl) (by kernel_rfl) (by kernel_rfl) ⟨trivial, trivial, ⟨⟨0, rfl⟩, trivial⟩⟩ (fun _ _ _ h => h) ?_
                    refine VA.oneC (i := 8) (listed' := LB 11 511) (by kernel_rfl) rfl (o_call0 FO26 (queue_compare.ok k x66725.f0 x66725.f1 x66725.f2 x66727.f0 x66727.f1 x66727.f2 t66728 hA66729) rfl rfl (ltn rfl) (All_of .nil)) rfl (by kernel_rfl) ?_
                    rintro _ _ _ ⟨rfl, rfl, rfl⟩
                    refine ⟨⟨trivial, trivial, ⟨⟨0, rfl⟩, trivial⟩⟩, ?_⟩
                    refine VA.va (i := 9) (listed' := LB 11 1023) rfl (op_cmp rfl rfl (congrArg some hb66730) (ltn rfl)) rfl (by kernel_rfl) (by kernel_rfl) (by kernel_rfl) (by kernel_rfl) ⟨trivial, trivial, ⟨⟨0, rfl⟩, trivial⟩⟩ (fun _ _ _ h => h) ?_
                    refine VA.va (i := 10) (listed' := LB 11 2047) rfl (op_assign rfl (ltn rfl)) rfl (by kernel_rfl) (by kernel_rfl) (by kernel_rfl) (by kernel_rfl) ⟨trivial, trivial, ⟨⟨0, rfl⟩, trivial⟩⟩ (fun _ _ _ h => h) ?_
                    refine VA.done (by kernel_rfl) ?_
                    exact VN.meet0  [0] [0] trivial ⟨rfl, ⟨rfl, trivial⟩, trivial, rfl, by decide, rfl, by decide⟩
                  intro _
                  refine VC.ret ?_
                  refine VR.inl (rs := [.tmp 6]) (.bool b66730) rfl (.tmp rfl .nil) rfl ?_
                  by_cases c66731 : t66728 < 0
                  · rw [if_pos c66731] at h
                    obtain rfl : b66730 = true := hb66730.symm.trans (decide_eq_true c66731)
                    refine VL.va (op_not rfl rfl (ltn rfl)) rfl ?_
                    refine VL.done ?_
                    refine VN.then ?_
                    refine VC.cond_f rfl ?_
                    refine VC.skip ?_
                    refine VN.then ?_
                    refine VC.seq ?_
                    refine VC.region ?_
                    refine VL.va (op_move rfl (ltn rfl)) rfl ?_
                    refine VL.va (op_move rfl (ltn rfl)) rfl ?_
                    refine VL.va (op_move rfl (ltn rfl)) rfl ?_
                    replace h := Option.bind_eq_some_iff.1 h
                    obtain ⟨r66732, hA66733, h⟩ := h
                    refine VL.step1 (ope_ownd (vals := [(.slice (some ⟨g66184, 0, none⟩) l66165.length n66185), .int .i64 i66162, .int .i64 (wrap64 ((wrap64 (2 * i66162)) + 1))]) 0 rfl (ope_meth_v 0 1 MI42_Swap Try.underlying42 FO56 rfl rfl TI40 rfl (by decide) rfl rfl) (queue_waits_Swap.ok l66165 i66162 (wrap64 ((wrap64 (2 * i66162)) + 1)) (.slice (some ⟨g66184, 0, none⟩) l66165.length n66185) r66732 hA66733) (by simp) (ltn rfl)) rfl ?_
                    refine VL.done ?_
                    refine VN.then ?_
                    refine VC.region ?_
                    refine VL.va (op_move rfl (ltn rfl)) rfl ?_
                    refine VL.va (op_assign rfl (ltn rfl)) rfl ?_
                    refine VL.done ?_
                    refine VN.block ?_
                    refine VN.again [0] [0] (ihl53 (wrap64 ((wrap64 (2 * i66162)) + 1)) (.slice (some ⟨g66184, 0, none⟩) l66165.length n66185) r66732 h) ⟨rfl, ⟨rfl, rfl, rfl, rfl, rfl, trivial⟩, trivial, rfl, by decide, rfl, by decide⟩
                  · rw [if_neg c66731] at h
                    obtain rfl : b66730 = false := hb66730.symm.trans (decide_eq_false c66731)
                    refine VL.va (op_not rfl rfl (ltn rfl)) rfl ?_
                    refine VL.done ?_
                    refine VN.then ?_
                    refine VC.cond_t rfl ?_
                    refine VC.exit ?_
                    refine VX.then ?_
                    refine VX.miss (by decide) ?_
                    refine VX.then ?_
                    refine VX.hit ?_
                    refine VN.then ?_
                    refine VC.seq ?_
                    refine VC.region ?_
                    refine VL.va (op_move rfl (ltn rfl)) rfl ?_
                    refine VL.va (op_move rfl (ltn rfl)) rfl ?_
                    refine VL.letter (decide (i66162 > i59587)) fun b66735 hb66735 => ?_
                    refine VL.va (op_cmp rfl rfl (congrArg some hb66735) (ltn rfl)) rfl ?_
                    refine VL.va (op_assign rfl (ltn rfl)) rfl ?_
                    refine VL.done ?_
                    refine VN.then ?_
                    refine VC.ret ?_
                    refine VR.inl (rs := [.tmp 6]) (.bool b66735) rfl (.tmp rfl .nil) rfl ?_
                    refine VL.done ?_
                    refine VN.block ?_
                    refine VN.then ?_
                    refine VC.region ?_
                    refine VL.va (op_move rfl (ltn rfl)) rfl ?_
                    refine VL.va (op_ari64 rfl rfl rfl (ltn rfl)) rfl ?_
                    refine VL.va (op_assign rfl (ltn rfl)) rfl ?_
                    refine VL.done ?_
                    refine VN.again [0] [0] (ihl46 (wrap64 (i59587 - 1)) (.slice (some ⟨g66184, 0, none⟩) l66165.length n66185) l66165 h) ⟨rfl, ⟨rfl, rfl, rfl, trivial⟩, trivial, rfl, by decide, rfl, by decide⟩
                · rw [if_neg c66726] at h; cases h
            · rw [if_neg c66664] at h; cases h
          · rw [if_neg c66662] at h; cases h
        · rw [if_neg c66661] at h
          obtain rfl : b66660 = false := hb66660.symm.trans (decide_eq_false c66661)
          refine VL.un rfl rfl (ltn rfl) ?_
          refine VL.un rfl rfl (ltn rfl) ?_
          refine VL.un rfl rfl (ltn rfl) ?_
          refine VL.un rfl rfl (ltn rfl) ?_
          refine VL.va (op_pick rfl rfl (ltn rfl)) rfl ?_
          refine VL.done ?_
          refine VN.then ?_
          refine VC.cond_f rfl ?_
          refine VC.skip ?_
          refine VN.then ?_
          refine VC.seq ?_
          refine VC.seq ?_
          refine VC.region ?_
          refine VL.va (op_move rfl (ltn rfl)) rfl ?_
          refine VL.va (op_move rfl (ltn rfl)) rfl ?_
          refine VL.va (op_move rfl (ltn rfl)) rfl ?_
          refine VL.inle (vals := [v66164, .int .i64 (wrap64 ((wrap64 (2 * i66162)) + 1)), .int .i64 i66162]) Try.func55 rfl (ope_meth_v 0 1 MI42_Less Try.underlying42 FO55 rfl rfl TI40 rfl (by decide) rfl rfl) (len rfl) (by rintro d ⟨⟩; exact ltn rfl) rfl ?_
          refine VC.seq ?_
          refine VC.region ?_
          refine VL.va (op_assign rfl (ltn rfl)) rfl ?_
          refine VL.done ?_
          refine VN.then ?_
          by_cases c66761 : 0 ≤ wrap64 ((wrap64 (2 * i66162)) + 1)
          · rw [if_pos c66761] at h
            replace h := Option.bind_eq_some_iff.1 h
            obtain ⟨x66762, hx66762, h⟩ := h
            by_cases c66763 : 0 ≤ i66162
            · rw [if_pos c66763] at h
              replace h := Option.bind_eq_some_iff.1 h
              obtain ⟨x66764, hx66764, h⟩ := h
              replace h := Option.bind_eq_some_iff.1 h
              obtain ⟨t66765, hA66766, h⟩ := h
              refine VC.letter (decide (t66765 < 0)) fun b66767 hb66767 => ?_
              refine VC.openR (m := l66165.length) 0 lenm rfl (pos_get hx66762) ?_
              rintro g66184 n66185 rfl
              refine VC.join0 (⟨17, [(6, .bool b66767)], [], [(g45218, 40, [(.slice (some ⟨g66184, 0, none⟩) l66165.length n66185)])], [((.slice (some ⟨g66184, 0, none⟩) l66165.length n66185), 24, 3, l66165.map enc23)]⟩) (True) ?_ ?_
              · refine VC.draw ⟨0, [], [], [], [((.slice (some ⟨g66184, 0, none⟩) l66165.length n66185), 24, 3, l66165.map enc23)]⟩ (by kernel_rfl) rfl (by kernel_rfl) (n := 11) (listed := LB 11 0) ?_
                refine VA.va (i := 0) (listed' := LB 11 1) rfl (op_move rfl (ltn rfl)) rfl (by kernel_rfl) (by kernel_rfl) (by kernel_rfl) (by kernel_rfl) ⟨trivial, trivial, ⟨⟨0, rfl⟩, trivial⟩⟩ (fun _ _ _ h => h) ?_
                refine VA.va (i := 1) (listed' := LB 11 3) rfl (op_move rfl (ltn rfl)) rfl (by kernel_rfl) (by kernel_rfl) (by kernel_rfl) (by kernel_rfl) ⟨trivial, trivial, ⟨⟨0, rfl⟩, trivial⟩⟩ (fun _ _ _ h => h) ?_
                refine VA.va (i := 2) (listed' := LB 11 7) rfl (op_indexAddr Try.underlying40 TI24 rfl rfl c66761 (lt_get c66761 hx66762) (add_zero_at _ _) (ltn rfl)) rfl (by kernel_rfl) (by kernel_rfl) (by kernel_rfl) (by kernel_rfl) ⟨trivial, trivial, ⟨⟨0, rfl⟩, trivial⟩⟩ (fun _ _ _ h => h) ?_
                refine VA.va (i := 3) (listed' := LB 11 15) rfl (op_load_own (sz := 3) (o := 0) 0 (wrap64 ((wrap64 (2 * i66162)) + 1)).toNat 3 rfl rfl (get_map hx66762) TI24 rfl (fun h => absurd h (by decide)) (ltn rfl)) rfl (by kernel_rfl) (by kernel_rfl) (by kernel_rfl) (by kernel_rfl) ⟨trivial, trivial, ⟨⟨0, rfl⟩, trivial⟩⟩ (fun _ _ _ h => h) ?_
                refine VA.va (i := 4) (listed' := LB 11 31) rfl (op_move rfl (ltn rfl)) rfl (by kernel_rfl) (by kernel_rfl) (by kernel_rfl) (by kernel_rfl) ⟨trivial, trivial, ⟨⟨0, rfl⟩, trivial⟩⟩ (fun _ _ _ h => h) ?_
                refine VA.va (i := 5) (listed' := LB 11 63) rfl (op_move rfl (ltn rfl)) rfl (by kernel_rfl) (by kernel_rfl) (by kernel_rfl) (by kernel_rfl) ⟨trivial, trivial, ⟨⟨0, rfl⟩, trivial⟩⟩ (fun _ _ _ h => h) ?_
                refine VA.va (i := 6) (listed' := LB 11 127) rfl (op_indexAddr Try.underlying40 TI24 rfl rfl c66763 (lt_get c66763 hx66764) (add_zero_at _ _) (ltn rfl)) rfl (by kernel_rfl) (by kernel_rfl) (by kernel_rfl) (by kernel_rfl) ⟨trivial, trivial, ⟨⟨0, rfl⟩, trivial⟩⟩ (fun _ _ _ h => h) ?_
                refine VA.va (i := 7) (listed' := LB 11 255) rfl (op_load_own (sz := 3) (o := 0) 0 i66162.toNat 3 rfl rfl (get_map hx66764) TI24 rfl (fun h => absurd h (by decide)) (ltn rfl)) rfl (by kernel_rfl) (by kernel_rfl) (by kernel_rfl) (by kernel_rfl) ⟨trivial, trivial, ⟨⟨0, rfl⟩, trivial⟩⟩ (fun _ _ _ h => h) ?_
                refine VA.oneC (i := 8) (listed' := LB 11 511) (by kernel_rfl) rfl (o_call0 FO26 (queue_compare.ok k x66762.f0 x66762.f1 x66762.f2 x66764.f0 x66764.f1 x66764.f2 t66765 hA66766) rfl rfl (ltn rfl) (All_of .nil)) rfl (by kernel_rfl) ?_
                rintro _ _ _ ⟨rfl, rfl, rfl⟩
                refine ⟨⟨trivial, trivial, ⟨⟨0, rfl⟩, trivial⟩⟩, ?_⟩
                refine VA.va (i := 9) (listed' := LB 11 1023) rfl (op_cmp rfl rfl (congrArg some hb66767) (ltn rfl)) rfl (by kernel_rfl) (by kernel_rfl) (by kernel_rfl) (by kernel_rfl) ⟨trivial, trivial, ⟨⟨0, rfl⟩, trivial⟩⟩ (fun _ _ _ h => h) ?_
                refine VA.va (i := 10) (listed' := LB 11 2047) rfl (op_assign rfl (ltn rfl)) rfl (by kernel_rfl) (by kernel_rfl) (by kernel_rfl) (by kernel_rfl) ⟨trivial, trivial, ⟨⟨0, rfl⟩, trivial⟩⟩ (fun _ _ _ h => h) ?_
                refine VA.done (by kernel_rfl) ?_
                exact VN.meet0  [0] [0] trivial ⟨rfl, ⟨rfl, trivial⟩, trivial, rfl, by decide, rfl, by decide⟩
              intro _
              refine VC.ret ?_
              refine VR.inl (rs := [.tmp 6]) (.bool b66767) rfl (.tmp rfl .nil) rfl ?_
              by_cases c66768 : t66765 < 0
              · rw [if_pos c66768] at h
                obtain rfl : b66767 = true := hb66767.symm.trans (decide_eq_true c66768)
                refine VL.va (op_not rfl rfl (ltn rfl)) rfl ?_
                refine VL.done ?_
                refine VN.then ?_
                refine VC.cond_f rfl ?_
                refine VC.skip ?_
                refine VN.then ?_
                refine VC.seq ?_
                refine VC.region ?_
                refine VL.va (op_move rfl (ltn rfl)) rfl ?_
                refine VL.va (op_move rfl (ltn rfl)) rfl ?_
                refine VL.va (op_move rfl (ltn rfl)) rfl ?_
                replace h := Option.bind_eq_some_iff.1 h
                obtain ⟨r66769, hA66770, h⟩ := h
                refine VL.step1 (ope_ownd (vals := [(.slice (some ⟨g66184, 0, none⟩) l66165.length n66185), .int .i64 i66162, .int .i64 (wrap64 ((wrap64 (2 * i66162)) + 1))]) 0 rfl (ope_meth_v 0 1 MI42_Swap Try.underlying42 FO56 rfl rfl TI40 rfl (by decide) rfl rfl) (queue_waits_Swap.ok l66165 i66162 (wrap64 ((wrap64 (2 * i66162)) + 1)) (.slice (some ⟨g66184, 0, none⟩) l66165.length n66185) r66769 hA66770) (by simp) (ltn rfl)) rfl ?_
                refine VL.done ?_
                refine VN.then ?_
                refine VC.region ?_
                refine VL.va (op_move rfl (ltn rfl)) rfl ?_
                refine VL.va (op_assign rfl (ltn rfl)) rfl ?_
                refine VL.done ?_
                refine VN.block ?_
                refine VN.again [0] [0] (ihl53 (wrap64 ((wrap64 (2 * i66162)) + 1)) (.slice (some ⟨g66184, 0, none⟩) l66165.length n66185) r66769 h) ⟨rfl, ⟨rfl, rfl, rfl, rfl, rfl, trivial⟩, trivial, rfl, by decide, rfl, by decide⟩
              · rw [if_neg c66768] at h
                obtain rfl : b66767 = false := hb66767.symm.trans (decide_eq_false c66768)
                refine VL.va (op_not rfl rfl (ltn rfl)) rfl ?_
                refine VL.done ?_
                refine VN.then ?_
                refine VC.cond_t rfl ?_
                refine VC.exit ?_
                refine VX.then ?_
                refine VX.miss (by decide) ?_
                refine VX.then ?_
                refine VX.hit ?_
                refine VN.then ?_
                refine VC.seq ?_
                refine VC.region ?_
                refine VL.va (op_move rfl (ltn rfl)) rfl ?_
                refine VL.va (op_move rfl (ltn rfl)) rfl ?_
                refine VL.letter (decide (i66162 > i59587)) fun b66772 hb66772 => ?_
                refine VL.va (op_cmp rfl rfl (congrArg some hb66772) (ltn rfl)) rfl ?_
                refine VL.va (op_assign rfl (ltn rfl)) rfl ?_
                refine VL.done ?_
                refine VN.then ?_
                refine VC.ret ?_
                refine VR.inl (rs := [.tmp 6]) (.bool b66772) rfl (.tmp rfl .nil) rfl ?_
                refine VL.done ?_
                refine VN.block ?_
                refine VN.then ?_
                refine VC.region ?_
                refine VL.va (op_move rfl (ltn rfl)) rfl ?_
                refine VL.va (op_ari64 rfl rfl rfl (ltn rfl)) rfl ?_
                refine VL.va (op_assign rfl (ltn rfl)) rfl ?_
                refine VL.done ?_
                refine VN.again [0] [0] (ihl46 (wrap64 (i59587 - 1)) (.slice (some ⟨g66184, 0, none⟩) l66165.length n66185) l66165 h) ⟨rfl, ⟨rfl, rfl, rfl, trivial⟩, trivial, rfl, by decide, rfl, by decide⟩
            · rw [if_neg c66763] at h; cases h
          · rw [if_neg c66761] at h; cases h
    · rw [if_neg c63186] at h
      obtain rfl : b63185 = false := hb63185.symm.trans (decide_eq_false c63186)
      refine VC.cond_f rfl ?_
      refine VC.exit ?_
      refine VX.then ?_
      refine VX.then ?_
      refine VX.hit ?_
      refine VN.inl (rs := []) (.tuple #[]) rfl .nil rfl ?_
      refine VL.done ?_
      refine VN.then ?_
      refine VC.seq ?_
      refine VC.region ?_
      refine VL.va (op_load 0 1 rfl rfl TI40 rfl (by decide) (ltn rfl)) rfl ?_
      refine VL.va (op_assign rfl (ltn rfl)) rfl ?_
      refine VL.va (op_assign rfl (ltn rfl)) rfl ?_
      refine VL.done ?_
      refine VN.then ?_
      refine VC.ret ?_
      simp only [Option.some.injEq, Prod.mk.injEq] at h
      obtain ⟨rfl, rfl⟩ := h
      exact VR.fn (rs := [.tmp 2, .tmp 3]) [] [(v59589, 24, 3, l59590.map enc23)] [0] rfl (.tmp rfl (.tmp rfl .nil)) ⟨v59589, rfl, rfl, rfl⟩ trivial rfl (by decide)

end Go.Proofs.Ythgoagnennjagaa.PQueueHeaps
