/- Written by a program of this repo: what the program's functions do, each as a Lean function, shown of the loaded code; or a statement's row over that; no condition of its own. -/
import Derived.Test.YthgoagnennjagaaPQueueOrdersx1
namespace Go.Proofs.Ythgoagnennjagaa.PQueueOrders
open Go Go.RowKit Go.Proofs.YthgoagnennjagaaV
set_option linter.unusedVariables false
set_option linter.unusedSimpArgs false

set_option maxHeartbeats 4000000 in
set_option maxRecDepth 100000 in
theorem queue_Make.ok (k : Nat) (l0 : List S23) (v0 : Value) (r1 : List S23) (r2 : Int) (h : queue_Make.f k l0 = some (r1, r2)) :
    VCalls Try.prog 8 [v0] [.row v0 3 (l0.map enc23)] (fun v G own => ∃ w0 : Value, v = .tuple #[w0, .int .i64 r2] ∧ G = [] ∧ own = [(w0, 24, 3, r1.map enc23)]) := by
  refine VCalls.intro Try.func8 rfl (len rfl) fun E hC => ?_
  unfold queue_Make.f at h
  refine VC.seq ?_
  refine VC.region ?_
  refine VL.va (op_assign rfl (ltn rfl)) rfl ?_
  refine VL.va (op_assign rfl (ltn rfl)) rfl ?_
  refine VL.done ?_
  refine VN.then ?_
  refine VC.seq ?_
  refine VC.join1 (fun (q45203 : Bool) => ⟨13, [(0, v0), (2, .slice none 0 0), (3, .int .i64 0), (7, .bool q45203)], [.row v0 3 (l0.map enc23)], [], []⟩) (fun (q45203 : Bool) => queue_Make.j36 k l0 q45203 = some (r1, r2)) ?_ ?_
  · refine VC.region ?_
    refine VL.va (op_move rfl (ltn rfl)) rfl ?_
    replace h := Option.bind_eq_some_iff.1 h
    obtain ⟨t45200, hA45201, h⟩ := h
    refine VL.sC (o_call0 FO21 (queue_all.ok k l0 v0 t45200 hA45201) rfl rfl (ltn rfl) (All_of (.cons (List.mem_of_getElem? (i := 0) rfl) .nil))) rfl ?_
    rintro _ _ _ ⟨rfl, rfl, rfl⟩
    by_cases c45202 : t45200 = true
    · rw [if_pos c45202] at h
      obtain rfl := c45202
      refine VL.va (op_not rfl rfl (ltn rfl)) rfl ?_
      refine VL.done ?_
      refine VN.meet1 false [] [] h ⟨rfl, ⟨rfl, rfl, rfl, rfl, trivial⟩, ⟨⟨0, rfl⟩, trivial⟩, rfl, by decide, rfl, by decide⟩
    · rw [if_neg c45202] at h
      obtain rfl := Bool.eq_false_iff.2 c45202
      refine VL.va (op_not rfl rfl (ltn rfl)) rfl ?_
      refine VL.done ?_
      refine VN.meet1 true [] [] h ⟨rfl, ⟨rfl, rfl, rfl, rfl, trivial⟩, ⟨⟨0, rfl⟩, trivial⟩, rfl, by decide, rfl, by decide⟩
  clear h
  intro q45203 h
  unfold queue_Make.j36 at h
  by_cases c45204 : q45203 = true
  · rw [if_pos c45204] at h
    obtain rfl := c45204
    refine VC.cond_t rfl ?_
    refine VC.seq ?_
    refine VC.region ?_
    refine VL.va (op_assign rfl (ltn rfl)) rfl ?_
    refine VL.va (op_assign rfl (ltn rfl)) rfl ?_
    refine VL.done ?_
    refine VN.then ?_
    refine VC.ret ?_
    refine VR.then ?_
    simp only [Option.some.injEq, Prod.mk.injEq] at h
    obtain ⟨rfl, rfl⟩ := h
    refine VR.nilRow' 24 3 ?_
    exact VR.fn (rs := [.tmp 2, .tmp 3]) [] [((.slice none 0 0), 24, 3, ([] : List S23).map enc23)] [0] rfl (.tmp rfl (.tmp rfl .nil)) ⟨(.slice none 0 0), rfl, rfl, rfl⟩ trivial rfl (by decide)
  · rw [if_neg c45204] at h
    obtain rfl := Bool.eq_false_iff.2 c45204
    refine VC.cond_f rfl ?_
    refine VC.skip ?_
    refine VN.then ?_
    refine VC.seq ?_
    refine VC.region ?_
    refine VL.va (op_move rfl (ltn rfl)) rfl ?_
    replace h := Option.bind_eq_some_iff.1 h
    obtain ⟨r45206, hA45207, h⟩ := h
    refine VL.sC (o_call_b0 FO22 (slices_Clone_api_Wait_api_Wait.ok l0 v0 r45206 hA45207) rfl rfl (ltn rfl) (All_of (.cons (.inl (List.mem_of_getElem? (i := 0) rfl)) .nil)) (by rintro _ _ _ ⟨_, rfl, rfl, rfl⟩; rfl)) rfl ?_
    rintro v45209 _ _ ⟨_, rfl, rfl, rfl⟩
    refine VL.sG (o_alloc Z40 ZL40 (ltn rfl)) rfl ?_
    intro g45210
    refine VL.step1 (o_store 0 1 rfl rfl rfl TI40 (.r 0 rfl) rfl (len rfl)) rfl ?_
    refine VL.done ?_
    refine VN.then ?_
    refine VC.seq ?_
    refine VC.region ?_
    refine VL.va (op_makeIface Try.underlying42 (fun _ h => by cases h) rfl (ltn rfl)) rfl ?_
    refine VL.inl (vals := [.iface 42 (.pointer (some ⟨g45210, 0, none⟩))]) (caps := []) Try.func23 FO23 rfl rfl rfl (len rfl) (ltn rfl) rfl ?_
    refine VC.seq ?_
    refine VC.region ?_
    refine VL.va (op_move rfl (ltn rfl)) rfl ?_
    refine VL.inle (vals := [v45209]) Try.func54 rfl (ope_meth_v 0 1 MI42_Len Try.underlying42 FO54 rfl rfl TI40 rfl (by decide) rfl rfl) (len rfl) (by rintro d ⟨⟩; exact ltn rfl) rfl ?_
    refine VC.seq ?_
    refine VC.region ?_
    refine VL.va (op_assign rfl (ltn rfl)) rfl ?_
    refine VL.done ?_
    refine VN.then ?_
    refine VC.seq ?_
    refine VC.region ?_
    refine VL.va (op_move rfl (ltn rfl)) rfl ?_
    refine VL.va (op_len_own (m := r45206.length) 0 lenm Try.underlying40 rfl rfl (ltn rfl)) rfl ?_
    refine VL.va (op_assign rfl (ltn rfl)) rfl ?_
    refine VL.done ?_
    refine VN.then ?_
    refine VC.ret ?_
    refine VR.inl (rs := [.tmp 2]) (.int .i64 (r45206.length : Int)) rfl (.tmp rfl .nil) rfl ?_
    refine VL.va (op_assign rfl (ltn rfl)) rfl ?_
    refine VL.done ?_
    refine VN.then ?_
    refine VC.seq ?_
    refine VC.region ?_
    refine VL.va (op_move rfl (ltn rfl)) rfl ?_
    refine VL.va (op_quo rfl rfl (by decide) rfl (ltn rfl)) rfl ?_
    refine VL.va (op_ari64 rfl rfl rfl (ltn rfl)) rfl ?_
    refine VL.va (op_assign rfl (ltn rfl)) rfl ?_
    refine VL.done ?_
    refine VN.then ?_
    refine VC.block ?_
    refine VC.loop3 (fun (i59579 : Int) (v59581 : Value) (l59582 : List S23) => ⟨17, [(0, .iface 42 (.pointer (some ⟨g45210, 0, none⟩))), (2, .int .i64 (r45206.length : Int)), (3, .int .i64 i59579)], [], [(g45210, 40, [v59581])], [(v59581, 24, 3, l59582.map enc23)]⟩) (fun (ml46 : Nat) (i59579 : Int) (v59581 : Value) (l59582 : List S23) => queue_Make.l46 k r45206 ml46 i59579 l59582 = some (r1, r2)) k (wrap64 ((IntKind.i64.wrap ((r45206.length : Int).tdiv 2)) - 1)) v45209 r45206 [0] [0] h ⟨rfl, ⟨rfl, rfl, rfl, trivial⟩, trivial, rfl, by decide, rfl, by decide⟩ (by intros; simp [queue_Make.l46]) ?_
    clear h
    intro ml46 ihl46 i59579 v59581 l59582 h
    simp only [queue_Make.l46] at h
    refine VC.seq ?_
    refine VC.seq ?_
    refine VC.region ?_
    refine VL.va (op_move rfl (ltn rfl)) rfl ?_
    refine VL.letter (decide (i59579 ≥ 0)) fun b63177 hb63177 => ?_
    refine VL.va (op_cmp rfl rfl (congrArg some hb63177) (ltn rfl)) rfl ?_
    refine VL.done ?_
    refine VN.then ?_
    by_cases c63178 : i59579 ≥ 0
    · rw [if_pos c63178] at h
      obtain rfl : b63177 = true := hb63177.symm.trans (decide_eq_true c63178)
      refine VC.cond_t rfl ?_
      refine VC.skip ?_
      refine VN.then ?_
      refine VC.seq ?_
      refine VC.block ?_
      refine VC.region ?_
      refine VL.va (op_move rfl (ltn rfl)) rfl ?_
      refine VL.va (op_move rfl (ltn rfl)) rfl ?_
      refine VL.va (op_move rfl (ltn rfl)) rfl ?_
      refine VL.inl (vals := [.iface 42 (.pointer (some ⟨g45210, 0, none⟩)), .int .i64 i59579, .int .i64 (r45206.length : Int)]) (caps := []) Try.func31 FO31 rfl rfl rfl (len rfl) (ltn rfl) rfl ?_
      refine VC.seq ?_
      refine VC.region ?_
      refine VL.va (op_assign rfl (ltn rfl)) rfl ?_
      refine VL.done ?_
      refine VN.then ?_
      refine VC.seq ?_
      refine VC.region ?_
      refine VL.va (op_move rfl (ltn rfl)) rfl ?_
      refine VL.va (op_assign rfl (ltn rfl)) rfl ?_
      refine VL.done ?_
      refine VN.then ?_
      refine VC.seq ?_
      refine VC.block ?_
      refine VC.loop3 (fun (i66154 : Int) (v66156 : Value) (l66157 : List S23) => ⟨48, [(0, .iface 42 (.pointer (some ⟨g45210, 0, none⟩))), (1, .int .i64 i59579), (2, .int .i64 (r45206.length : Int)), (6, .bool false), (7, .int .i64 i66154)], [], [(g45210, 40, [v66156])], [(v66156, 24, 3, l66157.map enc23)]⟩) (fun (ml53 : Nat) (i66154 : Int) (v66156 : Value) (l66157 : List S23) => queue_Make.l53 k (queue_Make.l46 k r45206 ml46) i59579 r45206 ml53 i66154 l66157 = some (r1, r2)) k i59579 v59581 l59582 [0] [0] h ⟨rfl, ⟨rfl, rfl, rfl, rfl, rfl, trivial⟩, trivial, rfl, by decide, rfl, by decide⟩ (by intros; simp [queue_Make.l53]) ?_
      clear h
      intro ml53 ihl53 i66154 v66156 l66157 h
      simp only [queue_Make.l53] at h
      refine VC.block ?_
      refine VC.seq ?_
      refine VC.region ?_
      refine VL.va (op_move rfl (ltn rfl)) rfl ?_
      refine VL.va (op_ari64 rfl rfl rfl (ltn rfl)) rfl ?_
      refine VL.va (op_ari64 rfl rfl rfl (ltn rfl)) rfl ?_
      refine VL.va (op_assign rfl (ltn rfl)) rfl ?_
      refine VL.done ?_
      refine VN.then ?_
      refine VC.seq ?_
      refine VC.join3 (fun (q66619 : Bool) (q66620 : Bool) (q66621 : Bool) => ⟨48, [(0, .iface 42 (.pointer (some ⟨g45210, 0, none⟩))), (1, .int .i64 i59579), (2, .int .i64 (r45206.length : Int)), (6, .bool false), (7, .int .i64 i66154), (8, .int .i64 (wrap64 ((wrap64 (2 * i66154)) + 1))), (12, .int .i64 i66154), (13, .int .i64 (wrap64 (2 * i66154))), (14, .int .i64 (wrap64 ((wrap64 (2 * i66154)) + 1))), (15, .int .i64 (wrap64 ((wrap64 (2 * i66154)) + 1))), (16, .int .i64 (r45206.length : Int)), (17, .bool q66619), (18, .bool q66620), (21, .bool q66621)], [], [(g45210, 40, [v66156])], [(v66156, 24, 3, l66157.map enc23)]⟩) (fun (q66619 : Bool) (q66620 : Bool) (q66621 : Bool) => queue_Make.j54 k (queue_Make.l46 k r45206 ml46) (queue_Make.l53 k (queue_Make.l46 k r45206 ml46) i59579 r45206 ml53) i59579 i66154 l66157 r45206 q66619 q66620 q66621 = some (r1, r2)) ?_ ?_
      · refine VC.region ?_
        refine VL.va (op_move rfl (ltn rfl)) rfl ?_
        refine VL.va (op_move rfl (ltn rfl)) rfl ?_
        refine VL.letter (decide ((wrap64 ((wrap64 (2 * i66154)) + 1)) ≥ (r45206.length : Int))) fun b66616 hb66616 => ?_
        refine VL.va (op_cmp rfl rfl (congrArg some hb66616) (ltn rfl)) rfl ?_
        refine VL.va (op_move rfl (ltn rfl)) rfl ?_
        by_cases c66617 : (wrap64 ((wrap64 (2 * i66154)) + 1)) ≥ (r45206.length : Int)
        · rw [if_pos c66617] at h
          obtain rfl : b66616 = true := hb66616.symm.trans (decide_eq_true c66617)
          refine VL.un rfl rfl (ltn rfl) ?_
          refine VL.un rfl rfl (ltn rfl) ?_
          refine VL.va (op_pick rfl rfl (ltn rfl)) rfl ?_
          refine VL.done ?_
          refine VN.meet3 true true true [0] [0] h ⟨rfl, ⟨rfl, rfl, rfl, rfl, rfl, rfl, rfl, rfl, rfl, rfl, rfl, rfl, rfl, rfl, trivial⟩, trivial, rfl, by decide, rfl, by decide⟩
        · rw [if_neg c66617] at h
          obtain rfl : b66616 = false := hb66616.symm.trans (decide_eq_false c66617)
          refine VL.va (op_move rfl (ltn rfl)) rfl ?_
          refine VL.letter (decide ((wrap64 ((wrap64 (2 * i66154)) + 1)) < 0)) fun b66618 hb66618 => ?_
          refine VL.va (op_cmp rfl rfl (congrArg some hb66618) (ltn rfl)) rfl ?_
          refine VL.va (op_pick rfl rfl (ltn rfl)) rfl ?_
          refine VL.done ?_
          subst hb66618
          refine VN.meet3 false false (decide ((wrap64 ((wrap64 (2 * i66154)) + 1)) < 0)) [0] [0] h ⟨rfl, ⟨rfl, rfl, rfl, rfl, rfl, rfl, rfl, rfl, rfl, rfl, rfl, rfl, rfl, rfl, trivial⟩, trivial, rfl, by decide, rfl, by decide⟩
      clear h
      intro q66619 q66620 q66621 h
      unfold queue_Make.j54 at h
      by_cases c66622 : q66621 = true
      · rw [if_pos c66622] at h
        obtain rfl := c66622
        refine VC.cond_t rfl ?_
        refine VC.exit ?_
        refine VX.then ?_
        refine VX.miss (by decide) ?_
        refine VX.then ?_
        refine VX.hit ?_
        refine VN.then ?_
        refine VC.seq ?_
        refine VC.region ?_
        refine VL.va (op_move rfl (ltn rfl)) rfl ?_
        refine VL.va (op_move rfl (ltn rfl)) rfl ?_
        refine VL.letter (decide (i66154 > i59579)) fun b66623 hb66623 => ?_
        refine VL.va (op_cmp rfl rfl (congrArg some hb66623) (ltn rfl)) rfl ?_
        refine VL.va (op_assign rfl (ltn rfl)) rfl ?_
        refine VL.done ?_
        refine VN.then ?_
        refine VC.ret ?_
        refine VR.inl (rs := [.tmp 6]) (.bool b66623) rfl (.tmp rfl .nil) rfl ?_
        refine VL.done ?_
        refine VN.block ?_
        refine VN.then ?_
        refine VC.region ?_
        refine VL.va (op_move rfl (ltn rfl)) rfl ?_
        refine VL.va (op_ari64 rfl rfl rfl (ltn rfl)) rfl ?_
        refine VL.va (op_assign rfl (ltn rfl)) rfl ?_
        refine VL.done ?_
        refine VN.again [0] [0] (ihl46 (wrap64 (i59579 - 1)) v66156 l66157 h) ⟨rfl, ⟨rfl, rfl, rfl, trivial⟩, trivial, rfl, by decide, rfl, by decide⟩
      · rw [if_neg c66622] at h
        obtain rfl := Bool.eq_false_iff.2 c66622
        refine VC.cond_f rfl ?_
        refine VC.skip ?_
        refine VN.then ?_
        refine VC.seq ?_
        refine VC.region ?_
        refine VL.va (op_move rfl (ltn rfl)) rfl ?_
        refine VL.va (op_assign rfl (ltn rfl)) rfl ?_
        refine VL.done ?_
        refine VN.then ?_
        refine VC.seq ?_
        refine VC.seq ?_
        refine VC.region ?_
        refine VL.va (op_move rfl (ltn rfl)) rfl ?_
        refine VL.va (op_ari64 rfl rfl rfl (ltn rfl)) rfl ?_
        refine VL.va (op_assign rfl (ltn rfl)) rfl ?_
        refine VL.done ?_
        refine VN.then ?_
        refine VC.seq ?_
        refine VC.region ?_
        refine VL.va (op_move rfl (ltn rfl)) rfl ?_
        refine VL.va (op_move rfl (ltn rfl)) rfl ?_
        refine VL.letter (decide ((wrap64 ((wrap64 ((wrap64 (2 * i66154)) + 1)) + 1)) < (r45206.length : Int))) fun b66652 hb66652 => ?_
        refine VL.va (op_cmp rfl rfl (congrArg some hb66652) (ltn rfl)) rfl ?_
        refine VL.va (op_move rfl (ltn rfl)) rfl ?_
        by_cases c66653 : (wrap64 ((wrap64 ((wrap64 (2 * i66154)) + 1)) + 1)) < (r45206.length : Int)
        · rw [if_pos c66653] at h
          obtain rfl : b66652 = true := hb66652.symm.trans (decide_eq_true c66653)
          refine VL.va (op_move rfl (ltn rfl)) rfl ?_
          refine VL.va (op_move rfl (ltn rfl)) rfl ?_
          refine VL.va (op_move rfl (ltn rfl)) rfl ?_
          refine VL.inle (vals := [v66156, .int .i64 (wrap64 ((wrap64 ((wrap64 (2 * i66154)) + 1)) + 1)), .int .i64 (wrap64 ((wrap64 (2 * i66154)) + 1))]) Try.func55 rfl (ope_meth_v 0 1 MI42_Less Try.underlying42 FO55 rfl rfl TI40 rfl (by decide) rfl rfl) (len rfl) (by rintro d ⟨⟩; exact ltn rfl) rfl ?_
          refine VC.seq ?_
          refine VC.region ?_
          refine VL.va (op_assign rfl (ltn rfl)) rfl ?_
          refine VL.done ?_
          refine VN.then ?_
          by_cases c66654 : 0 ≤ wrap64 ((wrap64 ((wrap64 (2 * i66154)) + 1)) + 1)
          · rw [if_pos c66654] at h
            replace h := Option.bind_eq_some_iff.1 h
            obtain ⟨x66655, hx66655, h⟩ := h
            by_cases c66656 : 0 ≤ wrap64 ((wrap64 (2 * i66154)) + 1)
            · rw [if_pos c66656] at h
              replace h := Option.bind_eq_some_iff.1 h
              obtain ⟨x66657, hx66657, h⟩ := h
              replace h := Option.bind_eq_some_iff.1 h
              obtain ⟨t66658, hA66659, h⟩ := h
              refine VC.letter (decide (t66658 < 0)) fun b66660 hb66660 => ?_
              refine VC.openR (m := l66157.length) 0 lenm rfl (pos_get hx66655) ?_
              rintro g66176 n66177 rfl
              refine VC.join0 (⟨17, [(6, .bool b66660)], [], [(g45210, 40, [(.slice (some ⟨g66176, 0, none⟩) l66157.length n66177)])], [((.slice (some ⟨g66176, 0, none⟩) l66157.length n66177), 24, 3, l66157.map enc23)]⟩) (True) ?_ ?_
              · refine VC.draw ⟨0, [], [], [], [((.slice (some ⟨g66176, 0, none⟩) l66157.length n66177), 24, 3, l66157.map enc23)]⟩ (by kernel_rfl) rfl (by kernel_rfl) (n := 11) (listed := LB 11 0) ?_
                refine VA.va (i := 0) (listed' := LB 11 1) rfl (op_move rfl (ltn rfl)) rfl (by kernel_rfl) (by kernel_rfl) (by kernel_rfl) (by kernel_rfl) ⟨trivial, trivial, ⟨⟨0, rfl⟩, trivial⟩⟩ (fun _ _ _ h => h) ?_
                refine VA.va (i := 1) (listed' := LB 11 3) rfl (op_move rfl (ltn rfl)) rfl (by kernel_rfl) (by kernel_rfl) (by kernel_rfl) (by kernel_rfl) ⟨trivial, trivial, ⟨⟨0, rfl⟩, trivial⟩⟩ (fun _ _ _ h => h) ?_
                refine VA.va (i := 2) (listed' := LB 11 7) rfl (op_indexAddr Try.underlying40 TI24 rfl rfl c66654 (lt_get c66654 hx66655) (add_zero_at _ _) (ltn rfl)) rfl (by kernel_rfl) (by kernel_rfl) (by kernel_rfl) (by kernel_rfl) ⟨trivial, trivial, ⟨⟨0, rfl⟩, trivial⟩⟩ (fun _ _ _ h => h) ?_
                refine VA.va (i := 3) (listed' := LB 11 15) rfl (op_load_own (sz := 3) (o := 0) 0 (wrap64 ((wrap64 ((wrap64 (2 * i66154)) + 1)) + 1)).toNat 3 rfl rfl (get_map hx66655) TI24 rfl (fun h => absurd h (by decide)) (ltn rfl)) rfl (by kernel_rfl) (by kernel_rfl) (by kernel_rfl) (by kernel_rfl) ⟨trivial, trivial, ⟨⟨0, rfl⟩, trivial⟩⟩ (fun _ _ _ h => h) ?_
                refine VA.va (i := 4) (listed' := LB 11 31) rfl (op_move rfl (ltn rfl)) rfl (by kernel_rfl) (by kernel_rfl) (by kernel_rfl) (by kernel_rfl) ⟨trivial, trivial, ⟨⟨0, rfl⟩, trivial⟩⟩ (fun _ _ _ h => h) ?_
                refine VA.va (i := 5) (listed' := LB 11 63) rfl (op_move rfl (ltn rfl)) rfl (by kernel_rfl) (by kernel_rfl) (by kernel_rfl) (by kernel_rfl) ⟨trivial, trivial, ⟨⟨0, rfl⟩, trivial⟩⟩ (fun _ _ _ h => h) ?_
                refine VA.va (i := 6) (listed' := LB 11 127) rfl (op_indexAddr Try.underlying40 TI24 rfl rfl c66656 (lt_get c66656 hx66657) (add_zero_at _ _) (ltn rfl)) rfl (by kernel_rfl) (by kernel_rfl) (by kernel_rfl) (by kernel_rfl) ⟨trivial, trivial, ⟨⟨0, rfl⟩, trivial⟩⟩ (fun _ _ _ h => h) ?_
                refine VA.va (i := 7) (listed' := LB 11 255) rfl (op_load_own (sz := 3) (o := 0) 0 (wrap64 ((wrap64 (2 * i66154)) + 1)).toNat 3 rfl rfl (get_map hx66657) TI24 rfl (fun h => absurd h (by decide)) (ltn rfl)) rfl (by kernel_rfl) (by kernel_rfl) (by kernel_rfl) (by kernel_rfl) ⟨trivial, trivial, ⟨⟨0, rfl⟩, trivial⟩⟩ (fun _ _ _ h => h) ?_
                refine VA.oneC (i := 8) (listed' := LB 11 511) (by kernel_rfl) rfl (o_call0 FO26 (queue_compare.ok k x66655.f0 x66655.f1 x66655.f2 x66657.f0 x66657.f1 x66657.f2 t66658 hA66659) rfl rfl (ltn rfl) (All_of .nil)) rfl (by kernel_rfl) ?_
                rintro _ _ _ ⟨rfl, rfl, rfl⟩
                refine ⟨⟨trivial, trivial, ⟨⟨0, rfl⟩, trivial⟩⟩, ?_⟩
                refine VA.va (i := 9) (listed' := LB 11 1023) rfl (op_cmp rfl rfl (congrArg some hb66660) (ltn rfl)) rfl (by kernel_rfl) (by kernel_rfl) (by kernel_rfl) (by kernel_rfl) ⟨trivial, trivial, ⟨⟨0, rfl⟩, trivial⟩⟩ (fun _ _ _ h => h) ?_
                refine VA.va (i := 10) (listed' := LB 11 2047) rfl (op_assign rfl (ltn rfl)) rfl (by kernel_rfl) (by kernel_rfl) (by kernel_rfl) (by kernel_rfl) ⟨trivial, trivial, ⟨⟨0, rfl⟩, trivial⟩⟩ (fun _ _ _ h => h) ?_
                refine VA.done (by kernel_rfl) ?_
                exact VN.meet0  [0] [0] trivial ⟨rfl, ⟨rfl, trivial⟩, trivial, rfl, by decide, rfl, by decide⟩
              intro _
              refine VC.ret ?_
              refine VR.inl (rs := [.tmp 6]) (.bool b66660) rfl (.tmp rfl .nil) rfl ?_
              refine VL.va (op_pick rfl rfl (ltn rfl)) rfl ?_
              refine VL.done ?_
              refine VN.then ?_
              by_cases c66661 : t66658 < 0
              · rw [if_pos c66661] at h
                obtain rfl : b66660 = true := hb66660.symm.trans (decide_eq_true c66661)
                refine VC.cond_t rfl ?_
                refine VC.region ?_
                refine VL.va (op_move rfl (ltn rfl)) rfl ?_
                refine VL.va (op_assign rfl (ltn rfl)) rfl ?_
                refine VL.done ?_
                refine VN.then ?_
                refine VC.seq ?_
                refine VC.seq ?_
                refine VC.region ?_
                refine VL.va (op_move rfl (ltn rfl)) rfl ?_
                refine VL.va (op_move rfl (ltn rfl)) rfl ?_
                refine VL.va (op_move rfl (ltn rfl)) rfl ?_
                refine VL.inle (vals := [(.slice (some ⟨g66176, 0, none⟩) l66157.length n66177), .int .i64 (wrap64 ((wrap64 ((wrap64 (2 * i66154)) + 1)) + 1)), .int .i64 i66154]) Try.func55 rfl (ope_meth_v 0 1 MI42_Less Try.underlying42 FO55 rfl rfl TI40 rfl (by decide) rfl rfl) (len rfl) (by rintro d ⟨⟩; exact ltn rfl) rfl ?_
                refine VC.seq ?_
                refine VC.region ?_
                refine VL.va (op_assign rfl (ltn rfl)) rfl ?_
                refine VL.done ?_
                refine VN.then ?_
                replace h := Option.bind_eq_some_iff.1 h
                obtain ⟨x66684, hx66684, h⟩ := h
                by_cases c66685 : 0 ≤ i66154
                · rw [if_pos c66685] at h
                  replace h := Option.bind_eq_some_iff.1 h
                  obtain ⟨x66686, hx66686, h⟩ := h
                  replace h := Option.bind_eq_some_iff.1 h
                  obtain ⟨t66687, hA66688, h⟩ := h
                  refine VC.letter (decide (t66687 < 0)) fun b66689 hb66689 => ?_
                  refine VC.join0 (⟨17, [(6, .bool b66689)], [], [(g45210, 40, [(.slice (some ⟨g66176, 0, none⟩) l66157.length n66177)])], [((.slice (some ⟨g66176, 0, none⟩) l66157.length n66177), 24, 3, l66157.map enc23)]⟩) (True) ?_ ?_
                  · refine VC.draw ⟨0, [], [], [], [((.slice (some ⟨g66176, 0, none⟩) l66157.length n66177), 24, 3, l66157.map enc23)]⟩ (by kernel_rfl) rfl (by kernel_rfl) (n := 11) (listed := LB 11 0) ?_
                    refine VA.va (i := 0) (listed' := LB 11 1) rfl (op_move rfl (ltn rfl)) rfl (by kernel_rfl) (by kernel_rfl) (by kernel_rfl) (by kernel_rfl) ⟨trivial, trivial, ⟨⟨0, rfl⟩, trivial⟩⟩ (fun _ _ _ h => h) ?_
                    refine VA.va (i := 1) (listed' := LB 11 3) rfl (op_move rfl (ltn rfl)) rfl (by kernel_rfl) (by kernel_rfl) (by kernel_rfl) (by kernel_rfl) ⟨trivial, trivial, ⟨⟨0, rfl⟩, trivial⟩⟩ (fun _ _ _ h => h) ?_
                    refine VA.va (i := 2) (listed' := LB 11 7) rfl (op_indexAddr Try.underlying40 TI24 rfl rfl c66654 (lt_get c66654 hx66684) (add_zero_at _ _) (ltn rfl)) rfl (by kernel_rfl) (by kernel_rfl) (by kernel_rfl) (by kernel_rfl) ⟨trivial, trivial, ⟨⟨0, rfl⟩, trivial⟩⟩ (fun _ _ _ h => h) ?_
                    refine VA.va (i := 3) (listed' := LB 11 15) rfl (op_load_own (sz := 3) (o := 0) 0 (wrap64 ((wrap64 ((wrap64 (2 * i66154)) + 1)) + 1)).toNat 3 rfl rfl (get_map hx66684) TI24 rfl (fun h => absurd h (by decide)) (ltn rfl)) rfl (by kernel_rfl) (by kernel_rfl) (by kernel_rfl) (by kernel_rfl) ⟨trivial, trivial, ⟨⟨0, rfl⟩, trivial⟩⟩ (fun _ _ _ h => h) ?_
                    refine VA.va (i := 4) (listed' := LB 11 31) rfl (op_move rfl (ltn rfl)) rfl (by kernel_rfl) (by kernel_rfl) (by kernel_rfl) (by kernel_rfl) ⟨trivial, trivial, ⟨⟨0, rfl⟩, trivial⟩⟩ (fun _ _ _ h => h) ?_
                    refine VA.va (i := 5) (listed' := LB 11 63) rfl (op_move rfl (ltn rfl)) rfl (by kernel_rfl) (by kernel_rfl) (by kernel_rfl) (by kernel_rfl) ⟨trivial, trivial, ⟨⟨0, rfl⟩, trivial⟩⟩ (fun _ _ _ h => h) ?_
                    refine VA.va (i := 6) (listed' := LB 11 127) rfl (op_indexAddr Try.underlying40 TI24 rfl rfl c66685 (lt_get c66685 hx66686) (add_zero_at _ _) (ltn rfl)) rfl (by kernel_rfl) (by kernel_rfl) (by kernel_rfl) (by kernel_rfl) ⟨trivial, trivial, ⟨⟨0, rfl⟩, trivial⟩⟩ (fun _ _ _ h => h) ?_
                    refine VA.va (i := 7) (listed' := LB 11 255) rfl (op_load_own (sz := 3) (o := 0) 0 i66154.toNat 3 rfl rfl (get_map hx66686) TI24 rfl (fun h => absurd h (by decide)) (ltn rfl)) rfl (by kernel_rfl) (by kernel_rfl) (by kernel_rfl) (by kernel_rfl) ⟨trivial, trivial, ⟨⟨0, rfl⟩, trivial⟩⟩ (fun _ _ _ h => h) ?_
                    refine VA.oneC (i := 8) (listed' := LB 11 511) (by kernel_rfl) rfl (o_call0 FO26 (queue_compare.ok k x66684.f0 x66684.f1 x66684.f2 x66686.f0 x66686.f1 x66686.f2 t66687 hA66688) rfl rfl (ltn rfl) (All_of .nil)) rfl (by kernel_rfl) ?_
                    rintro _ _ _ ⟨rfl, rfl, rfl⟩
                    refine ⟨⟨trivial, trivial, ⟨⟨0, rfl⟩, trivial⟩⟩, ?_⟩
                    refine VA.va (i := 9) (listed' := LB 11 1023) rfl (op_cmp rfl rfl (congrArg some hb66689) (ltn rfl)) rfl (by kernel_rfl) (by kernel_rfl) (by kernel_rfl) (by kernel_rfl) ⟨trivial, trivial, ⟨⟨0, rfl⟩, trivial⟩⟩ (fun _ _ _ h => h) ?_
                    refine VA.va (i := 10) (listed' := LB 11 2047) rfl (op_assign rfl (ltn rfl)) rfl (by kernel_rfl) (by kernel_rfl) (by kernel_rfl) (by kernel_rfl) ⟨trivial, trivial, ⟨⟨0, rfl⟩, trivial⟩⟩ (fun _ _ _ h => h) ?_
                    refine VA.done (by kernel_rfl) ?_
                    exact VN.meet0  [0] [0] trivial ⟨rfl, ⟨rfl, trivial⟩, trivial, rfl, by decide, rfl, by decide⟩
                  intro _
                  refine VC.ret ?_
                  refine VR.inl (rs := [.tmp 6]) (.bool b66689) rfl (.tmp rfl .nil) rfl ?_
                  by_cases c66690 : t66687 < 0
                  · rw [if_pos c66690] at h
                    obtain rfl : b66689 = true := hb66689.symm.trans (decide_eq_true c66690)
                    refine VL.va (op_not rfl rfl (ltn rfl)) rfl ?_
                    refine VL.done ?_
                    refine VN.then ?_
                    refine VC.cond_f rfl ?_
                    refine VC.skip ?_
                    refine VN.then ?_
                    refine VC.seq ?_
                    refine VC.region ?_
                    refine VL.va (op_move rfl (ltn rfl)) rfl ?_
                    refine VL.va (op_move rfl (ltn rfl)) rfl ?_
                    refine VL.va (op_move rfl (ltn rfl)) rfl ?_
                    replace h := Option.bind_eq_some_iff.1 h
                    obtain ⟨r66691, hA66692, h⟩ := h
                    refine VL.step1 (ope_ownd (vals := [(.slice (some ⟨g66176, 0, none⟩) l66157.length n66177), .int .i64 i66154, .int .i64 (wrap64 ((wrap64 ((wrap64 (2 * i66154)) + 1)) + 1))]) 0 rfl (ope_meth_v 0 1 MI42_Swap Try.underlying42 FO56 rfl rfl TI40 rfl (by decide) rfl rfl) (queue_waits_Swap.ok l66157 i66154 (wrap64 ((wrap64 ((wrap64 (2 * i66154)) + 1)) + 1)) (.slice (some ⟨g66176, 0, none⟩) l66157.length n66177) r66691 hA66692) (by simp) (ltn rfl)) rfl ?_
                    refine VL.done ?_
                    refine VN.then ?_
                    refine VC.region ?_
                    refine VL.va (op_move rfl (ltn rfl)) rfl ?_
                    refine VL.va (op_assign rfl (ltn rfl)) rfl ?_
                    refine VL.done ?_
                    refine VN.block ?_
                    refine VN.again [0] [0] (ihl53 (wrap64 ((wrap64 ((wrap64 (2 * i66154)) + 1)) + 1)) (.slice (some ⟨g66176, 0, none⟩) l66157.length n66177) r66691 h) ⟨rfl, ⟨rfl, rfl, rfl, rfl, rfl, trivial⟩, trivial, rfl, by decide, rfl, by decide⟩
                  · rw [if_neg c66690] at h
                    obtain rfl : b66689 = false := hb66689.symm.trans (decide_eq_false c66690)
                    refine VL.va (op_not rfl rfl (ltn rfl)) rfl ?_
                    refine VL.done ?_
                    refine VN.then ?_
                    refine VC.cond_t rfl ?_
                    refine VC.exit ?_
                    refine VX.then ?_
                    refine VX.miss (by decide) ?_
                    refine VX.then ?_
                    refine VX.hit ?_
                    refine VN.then ?_
                    refine VC.seq ?_
                    refine VC.region ?_
                    refine VL.va (op_move rfl (ltn rfl)) rfl ?_
                    refine VL.va (op_move rfl (ltn rfl)) rfl ?_
                    refine VL.letter (decide (i66154 > i59579)) fun b66694 hb66694 => ?_
                    refine VL.va (op_cmp rfl rfl (congrArg some hb66694) (ltn rfl)) rfl ?_
                    refine VL.va (op_assign rfl (ltn rfl)) rfl ?_
                    refine VL.done ?_
                    refine VN.then ?_
                    refine VC.ret ?_
                    refine VR.inl (rs := [.tmp 6]) (.bool b66694) rfl (.tmp rfl .nil) rfl ?_
                    refine VL.done ?_
                    refine VN.block ?_
                    refine VN.then ?_
                    refine VC.region ?_
                    refine VL.va (op_move rfl (ltn rfl)) rfl ?_
                    refine VL.va (op_ari64 rfl rfl rfl (ltn rfl)) rfl ?_
                    refine VL.va (op_assign rfl (ltn rfl)) rfl ?_
                    refine VL.done ?_
                    refine VN.again [0] [0] (ihl46 (wrap64 (i59579 - 1)) (.slice (some ⟨g66176, 0, none⟩) l66157.length n66177) l66157 h) ⟨rfl, ⟨rfl, rfl, rfl, trivial⟩, trivial, rfl, by decide, rfl, by decide⟩
                · rw [if_neg c66685] at h; cases h
              · rw [if_neg c66661] at h
                obtain rfl : b66660 = false := hb66660.symm.trans (decide_eq_false c66661)
                refine VC.cond_f rfl ?_
                refine VC.skip ?_
                refine VN.then ?_
                refine VC.seq ?_
                refine VC.seq ?_
                refine VC.region ?_
                refine VL.va (op_move rfl (ltn rfl)) rfl ?_
                refine VL.va (op_move rfl (ltn rfl)) rfl ?_
                refine VL.va (op_move rfl (ltn rfl)) rfl ?_
                refine VL.inle (vals := [(.slice (some ⟨g66176, 0, none⟩) l66157.length n66177), .int .i64 (wrap64 ((wrap64 (2 * i66154)) + 1)), .int .i64 i66154]) Try.func55 rfl (ope_meth_v 0 1 MI42_Less Try.underlying42 FO55 rfl rfl TI40 rfl (by decide) rfl rfl) (len rfl) (by rintro d ⟨⟩; exact ltn rfl) rfl ?_
                refine VC.seq ?_
                refine VC.region ?_
                refine VL.va (op_assign rfl (ltn rfl)) rfl ?_
                refine VL.done ?_
                refine VN.then ?_
                replace h := Option.bind_eq_some_iff.1 h
                obtain ⟨x66717, hx66717, h⟩ := h
                by_cases c66718 : 0 ≤ i66154
                · rw [if_pos c66718] at h
                  replace h := Option.bind_eq_some_iff.1 h
                  obtain ⟨x66719, hx66719, h⟩ := h
                  replace h := Option.bind_eq_some_iff.1 h
                  obtain ⟨t66720, hA66721, h⟩ := h
                  refine VC.letter (decide (t66720 < 0)) fun b66722 hb66722 => ?_
                  refine VC.join0 (⟨17, [(6, .bool b66722)], [], [(g45210, 40, [(.slice (some ⟨g66176, 0, none⟩) l66157.length n66177)])], [((.slice (some ⟨g66176, 0, none⟩) l66157.length n66177), 24, 3, l66157.map enc23)]⟩) (True) ?_ ?_
                  · refine VC.draw ⟨0, [], [], [], [((.slice (some ⟨g66176, 0, none⟩) l66157.length n66177), 24, 3, l66157.map enc23)]⟩ (by kernel_rfl) rfl (by kernel_rfl) (n := 11) (listed := LB 11 0) ?_
                    refine VA.va (i := 0) (listed' := LB 11 1) rfl (op_move rfl (ltn rfl)) rfl (by kernel_rfl) (by kernel_rfl) (by kernel_rfl) (by kernel_rfl) ⟨trivial, trivial, ⟨⟨0, rfl⟩, trivial⟩⟩ (fun _ _ _ h => h) ?_
                    refine VA.va (i := 1) (listed' := LB 11 3) rfl (op_move rfl (ltn rfl)) rfl (by kernel_rfl) (by kernel_rfl) (by kernel_rfl) (by kernel_rfl) ⟨trivial, trivial, ⟨⟨0, rfl⟩, trivial⟩⟩ (fun _ _ _ h => h) ?_
                    refine VA.va (i := 2) (listed' := LB 11 7) rfl (op_indexAddr Try.underlying40 TI24 rfl rfl c66656 (lt_get c66656 hx66717) (add_zero_at _ _) (ltn rfl)) rfl (by kernel_rfl) (by kernel_rfl) (by kernel_rfl) (by kernel_rfl) ⟨trivial, trivial, ⟨⟨0, rfl⟩, trivial⟩⟩ (fun _ _ _ h => h) ?_
                    refine VA.va (i := 3) (listed' := LB 11 15) rfl (op_load_own (sz := 3) (o := 0) 0 (wrap64 ((wrap64 (2 * i66154)) + 1)).toNat 3 rfl rfl (get_map hx66717) TI24 rfl (fun h => absurd h (by decide)) (ltn rfl)) rfl (by kernel_rfl) (by kernel_rfl) (by kernel_rfl) (by kernel_rfl) ⟨trivial, trivial, ⟨⟨0, rfl⟩, trivial⟩⟩ (fun _ _ _ h => h) ?_
                    refine VA.va (i := 4) (listed' := LB 11 31) rfl (op_move rfl (ltn rfl)) rfl (by kernel_rfl) (by kernel_rfl) (by kernel_rfl) (by kernel_rfl) ⟨trivial, trivial, ⟨⟨0, rfl⟩, trivial⟩⟩ (fun _ _ _ h => h) ?_
                    refine VA.va (i := 5) (listed' := LB 11 63) rfl (op_move rfl (ltn rfl)) rfl (by kernel_rfl) (by kernel_rfl) (by kernel_rfl) (by kernel_rfl) ⟨trivial, trivial, ⟨⟨0, rfl⟩, trivial⟩⟩ (fun _ _ _ h => h) ?_
                    refine VA.va (i := 6) (listed' := LB 11 127) rfl (op_indexAddr Try.underlying40 TI24 rfl rfl c66718 (lt_get c66718 hx66719) (add_zero_at _ _) (ltn rfl)) rfl (by kernel_rfl) (by kernel_rfl) (by kernel_rfl) (by kernel_rfl) ⟨trivial, trivial, ⟨⟨0, rfl⟩, trivial⟩⟩ (fun _ _ _ h => h) ?_
                    refine VA.va (i := 7) (listed' := LB 11 255) rfl (op_load_own (sz := 3) (o := 0) 0 i66154.toNat 3 rfl rfl (get_map hx66719) TI24 rfl (fun h => absurd h (by decide)) (ltn rfl)) rfl (by kernel_rfl) (by kernel_rfl) (by kernel_rfl) (by kernel_rfl) ⟨trivial, trivial, ⟨⟨0, rfl⟩, trivial⟩⟩ (fun _ _ _ h => h) ?_
                    refine VA.oneC (i := 8) (listed' := LB 11 511) (by kernel_rfl) rfl (o_call0 FO26 (queue_compare.ok k x66717.f0 x66717.f1 x66717.f2 x66719.f0 x66719.f1 x66719.f2 t66720 hA66721) rfl rfl (ltn rfl) (All_of .nil)) rfl (by kernel_rfl) ?_
                    rintro _ _ _ ⟨rfl, rfl, rfl⟩
                    refine ⟨⟨trivial, trivial, ⟨⟨0, rfl⟩, trivial⟩⟩, ?_⟩
                    refine VA.va (i := 9) (listed' := LB 11 1023) rfl (op_cmp rfl rfl (congrArg some hb66722) (ltn rfl)) rfl (by kernel_rfl) (by kernel_rfl) (by kernel_rfl) (by kernel_rfl) ⟨trivial, trivial, ⟨⟨0, rfl⟩, trivial⟩⟩ (fun _ _ _ h => h) ?_
                    refine VA.va (i := 10) (listed' := LB 11 2047) rfl (op_assign rfl (ltn rfl)) rfl (by kernel_rfl) (by kernel_rfl) (by kernel_rfl) (by kernel_rfl) ⟨trivial, trivial, ⟨⟨0, rfl⟩, trivial⟩⟩ (fun _ _ _ h => h) ?_
                    refine VA.done (by kernel_rfl) ?_
                    exact VN.meet0  [0] [0] trivial ⟨rfl, ⟨rfl, trivial⟩, trivial, rfl, by decide, rfl, by decide⟩
                  intro _
                  refine VC.ret ?_
                  refine VR.inl (rs := [.tmp 6]) (.bool b66722) rfl (.tmp rfl .nil) rfl ?_
                  by_cases c66723 : t66720 < 0
                  · rw [if_pos c66723] at h
                    obtain rfl : b66722 = true := hb66722.symm.trans (decide_eq_true c66723)
                    refine VL.va (op_not rfl rfl (ltn rfl)) rfl ?_
                    refine VL.done ?_
                    refine VN.then ?_
                    refine VC.cond_f rfl ?_
                    refine VC.skip ?_
                    refine VN.then ?_
                    refine VC.seq ?_
                    refine VC.region ?_
                    refine VL.va (op_move rfl (ltn rfl)) rfl ?_
                    refine VL.va (op_move rfl (ltn rfl)) rfl ?_
                    refine VL.va (op_move rfl (ltn rfl)) rfl ?_
                    replace h := Option.bind_eq_some_iff.1 h
                    obtain ⟨r66724, hA66725, h⟩ := h
                    refine VL.step1 (ope_ownd (vals := [(.slice (some ⟨g66176, 0, none⟩) l66157.length n66177), .int .i64 i66154, .int .i64 (wrap64 ((wrap64 (2 * i66154)) + 1))]) 0 rfl (ope_meth_v 0 1 MI42_Swap Try.underlying42 FO56 rfl rfl TI40 rfl (by decide) rfl rfl) (queue_waits_Swap.ok l66157 i66154 (wrap64 ((wrap64 (2 * i66154)) + 1)) (.slice (some ⟨g66176, 0, none⟩) l66157.length n66177) r66724 hA66725) (by simp) (ltn rfl)) rfl ?_
                    refine VL.done ?_
                    refine VN.then ?_
                    refine VC.region ?_
                    refine VL.va (op_move rfl (ltn rfl)) rfl ?_
                    refine VL.va (op_assign rfl (ltn rfl)) rfl ?_
                    refine VL.done ?_
                    refine VN.block ?_
                    refine VN.again [0] [0] (ihl53 (wrap64 ((wrap64 (2 * i66154)) + 1)) (.slice (some ⟨g66176, 0, none⟩) l66157.length n66177) r66724 h) ⟨rfl, ⟨rfl, rfl, rfl, rfl, rfl, trivial⟩, trivial, rfl, by decide, rfl, by decide⟩
                  · rw [if_neg c66723] at h
                    obtain rfl : b66722 = false := hb66722.symm.trans (decide_eq_false c66723)
                    refine VL.va (op_not rfl rfl (ltn rfl)) rfl ?_
                    refine VL.done ?_
                    refine VN.then ?_
                    refine VC.cond_t rfl ?_
                    refine VC.exit ?_
                    refine VX.then ?_
                    refine VX.miss (by decide) ?_
                    refine VX.then ?_
                    refine VX.hit ?_
                    refine VN.then ?_
                    refine VC.seq ?_
                    refine VC.region ?_
                    refine VL.va (op_move rfl (ltn rfl)) rfl ?_
                    refine VL.va (op_move rfl (ltn rfl)) rfl ?_
                    refine VL.letter (decide (i66154 > i59579)) fun b66727 hb66727 => ?_
                    refine VL.va (op_cmp rfl rfl (congrArg some hb66727) (ltn rfl)) rfl ?_
                    refine VL.va (op_assign rfl (ltn rfl)) rfl ?_
                    refine VL.done ?_
                    refine VN.then ?_
                    refine VC.ret ?_
                    refine VR.inl (rs := [.tmp 6]) (.bool b66727) rfl (.tmp rfl .nil) rfl ?_
                    refine VL.done ?_
                    refine VN.block ?_
                    refine VN.then ?_
                    refine VC.region ?_
                    refine VL.va (op_move rfl (ltn rfl)) rfl ?_
                    refine VL.va (op_ari64 rfl rfl rfl (ltn rfl)) rfl ?_
                    refine VL.va (op_assign rfl (ltn rfl)) rfl ?_
                    refine VL.done ?_
                    refine VN.again [0] [0] (ihl46 (wrap64 (i59579 - 1)) (.slice (some ⟨g66176, 0, none⟩) l66157.length n66177) l66157 h) ⟨rfl, ⟨rfl, rfl, rfl, trivial⟩, trivial, rfl, by decide, rfl, by decide⟩
                · rw [if_neg c66718] at h; cases h
            · rw [if_neg c66656] at h; cases h
          · rw [if_neg c66654] at h; cases h
        · rw [if_neg c66653] at h
          obtain rfl : b66652 = false := hb66652.symm.trans (decide_eq_false c66653)
          refine VL.un rfl rfl (ltn rfl) ?_
          refine VL.un rfl rfl (ltn rfl) ?_
          refine VL.un rfl rfl (ltn rfl) ?_
          refine VL.un rfl rfl (ltn rfl) ?_
          refine VL.va (op_pick rfl rfl (ltn rfl)) rfl ?_
          refine VL.done ?_
          refine VN.then ?_
          refine VC.cond_f rfl ?_
          refine VC.skip ?_
          refine VN.then ?_
          refine VC.seq ?_
          refine VC.seq ?_
          refine VC.region ?_
          refine VL.va (op_move rfl (ltn rfl)) rfl ?_
          refine VL.va (op_move rfl (ltn rfl)) rfl ?_
          refine VL.va (op_move rfl (ltn rfl)) rfl ?_
          refine VL.inle (vals := [v66156, .int .i64 (wrap64 ((wrap64 (2 * i66154)) + 1)), .int .i64 i66154]) Try.func55 rfl (ope_meth_v 0 1 MI42_Less Try.underlying42 FO55 rfl rfl TI40 rfl (by decide) rfl rfl) (len rfl) (by rintro d ⟨⟩; exact ltn rfl) rfl ?_
          refine VC.seq ?_
          refine VC.region ?_
          refine VL.va (op_assign rfl (ltn rfl)) rfl ?_
          refine VL.done ?_
          refine VN.then ?_
          by_cases c66753 : 0 ≤ wrap64 ((wrap64 (2 * i66154)) + 1)
          · rw [if_pos c66753] at h
            replace h := Option.bind_eq_some_iff.1 h
            obtain ⟨x66754, hx66754, h⟩ := h
            by_cases c66755 : 0 ≤ i66154
            · rw [if_pos c66755] at h
              replace h := Option.bind_eq_some_iff.1 h
              obtain ⟨x66756, hx66756, h⟩ := h
              replace h := Option.bind_eq_some_iff.1 h
              obtain ⟨t66757, hA66758, h⟩ := h
              refine VC.letter (decide (t66757 < 0)) fun b66759 hb66759 => ?_
              refine VC.openR (m := l66157.length) 0 lenm rfl (pos_get hx66754) ?_
              rintro g66176 n66177 rfl
              refine VC.join0 (⟨17, [(6, .bool b66759)], [], [(g45210, 40, [(.slice (some ⟨g66176, 0, none⟩) l66157.length n66177)])], [((.slice (some ⟨g66176, 0, none⟩) l66157.length n66177), 24, 3, l66157.map enc23)]⟩) (True) ?_ ?_
              · refine VC.draw ⟨0, [], [], [], [((.slice (some ⟨g66176, 0, none⟩) l66157.length n66177), 24, 3, l66157.map enc23)]⟩ (by kernel_rfl) rfl (by kernel_rfl) (n := 11) (listed := LB 11 0) ?_
                refine VA.va (i := 0) (listed' := LB 11 1) rfl (op_move rfl (ltn rfl)) rfl (by kernel_rfl) (by kernel_rfl) (by kernel_rfl) (by kernel_rfl) ⟨trivial, trivial, ⟨⟨0, rfl⟩, trivial⟩⟩ (fun _ _ _ h => h) ?_
                refine VA.va (i := 1) (listed' := LB 11 3) rfl (op_move rfl (ltn rfl)) rfl (by kernel_rfl) (by kernel_rfl) (by kernel_rfl) (by kernel_rfl) ⟨trivial, trivial, ⟨⟨0, rfl⟩, trivial⟩⟩ (fun _ _ _ h => h) ?_
                refine VA.va (i := 2) (listed' := LB 11 7) rfl (op_indexAddr Try.underlying40 TI24 rfl rfl c66753 (lt_get c66753 hx66754) (add_zero_at _ _) (ltn rfl)) rfl (by kernel_rfl) (by kernel_rfl) (by kernel_rfl) (by kernel_rfl) ⟨trivial, trivial, ⟨⟨0, rfl⟩, trivial⟩⟩ (fun _ _ _ h => h) ?_
                refine VA.va (i := 3) (listed' := LB 11 15) rfl (op_load_own (sz := 3) (o := 0) 0 (wrap64 ((wrap64 (2 * i66154)) + 1)).toNat 3 rfl rfl (get_map hx66754) TI24 rfl (fun h => absurd h (by decide)) (ltn rfl)) rfl (by kernel_rfl) (by kernel_rfl) (by kernel_rfl) (by kernel_rfl) ⟨trivial, trivial, ⟨⟨0, rfl⟩, trivial⟩⟩ (fun _ _ _ h => h) ?_
                refine VA.va (i := 4) (listed' := LB 11 31) rfl (op_move rfl (ltn rfl)) rfl (by kernel_rfl) (by kernel_rfl) (by kernel_rfl) (by kernel_rfl) ⟨trivial, trivial, ⟨⟨0, rfl⟩, trivial⟩⟩ (fun _ _ _ h => h) ?_
                refine VA.va (i := 5) (listed' := LB 11 63) rfl (op_move rfl (ltn rfl)) rfl (by kernel_rfl) (by kernel_rfl) (by kernel_rfl) (by kernel_rfl) ⟨trivial, trivial, ⟨⟨0, rfl⟩, trivial⟩⟩ (fun _ _ _ h => h) ?_
                refine VA.va (i := 6) (listed' := LB 11 127) rfl (op_indexAddr Try.underlying40 TI24 rfl rfl c66755 (lt_get c66755 hx66756) (add_zero_at _ _) (ltn rfl)) rfl (by kernel_rfl) (by kernel_rfl) (by kernel_rfl) (by kernel_rfl) ⟨trivial, trivial, ⟨⟨0, rfl⟩, trivial⟩⟩ (fun _ _ _ h => h) ?_
                refine VA.va (i := 7) (listed' := LB 11 255) rfl (op_load_own (sz := 3) (o := 0) 0 i66154.toNat 3 rfl rfl (get_map hx66756) TI24 rfl (fun h => absurd h (by decide)) (ltn rfl)) rfl (by kernel_rfl) (by kernel_rfl) (by kernel_rfl) (by kernel_rfl) ⟨trivial, trivial, ⟨⟨0, rfl⟩, trivial⟩⟩ (fun _ _ _ h => h) ?_
                refine VA.oneC (i := 8) (listed' := LB 11 511) (by kernel_rfl) rfl (o_call0 FO26 (queue_compare.ok k x66754.f0 x66754.f1 x66754.f2 x66756.f0 x66756.f1 x66756.f2 t66757 hA66758) rfl rfl (ltn rfl) (All_of .nil)) rfl (by kernel_rfl) ?_
                rintro _ _ _ ⟨rfl, rfl, rfl⟩
                refine ⟨⟨trivial, trivial, ⟨⟨0, rfl⟩, trivial⟩⟩, ?_⟩
                refine VA.va (i := 9) (listed' := LB 11 1023) rfl (op_cmp rfl rfl (congrArg some hb66759) (ltn rfl)) rfl (by kernel_rfl) (by kernel_rfl) (by kernel_rfl) (by kernel_rfl) ⟨trivial, trivial, ⟨⟨0, rfl⟩, trivial⟩⟩ (fun _ _ _ h => h) ?_
                refine VA.va (i := 10) (listed' := LB 11 2047) rfl (op_assign rfl (ltn rfl)) rfl (by kernel_rfl) (by kernel_rfl) (by kernel_rfl) (by kernel_rfl) ⟨trivial, trivial, ⟨⟨0, rfl⟩, trivial⟩⟩ (fun _ _ _ h => h) ?_
                refine VA.done (by kernel_rfl) ?_
                exact VN.meet0  [0] [0] trivial ⟨rfl, ⟨rfl, trivial⟩, trivial, rfl, by decide, rfl, by decide⟩
              intro _
              refine VC.ret ?_
              refine VR.inl (rs := [.tmp 6]) (.bool b66759) rfl (.tmp rfl .nil) rfl ?_
              by_cases c66760 : t66757 < 0
              · rw [if_pos c66760] at h
                obtain rfl : b66759 = true := hb66759.symm.trans (decide_eq_true c66760)
                refine VL.va (op_not rfl rfl (ltn rfl)) rfl ?_
                refine VL.done ?_
                refine VN.then ?_
                refine VC.cond_f rfl ?_
                refine VC.skip ?_
                refine VN.then ?_
                refine VC.seq ?_
                refine VC.region ?_
                refine VL.va (op_move rfl (ltn rfl)) rfl ?_
                refine VL.va (op_move rfl (ltn rfl)) rfl ?_
                refine VL.va (op_move rfl (ltn rfl)) rfl ?_
                replace h := Option.bind_eq_some_iff.1 h
                obtain ⟨r66761, hA66762, h⟩ := h
                refine VL.step1 (ope_ownd (vals := [(.slice (some ⟨g66176, 0, none⟩) l66157.length n66177), .int .i64 i66154, .int .i64 (wrap64 ((wrap64 (2 * i66154)) + 1))]) 0 rfl (ope_meth_v 0 1 MI42_Swap Try.underlying42 FO56 rfl rfl TI40 rfl (by decide) rfl rfl) (queue_waits_Swap.ok l66157 i66154 (wrap64 ((wrap64 (2 * i66154)) + 1)) (.slice (some ⟨g66176, 0, none⟩) l66157.length n66177) r66761 hA66762) (by simp) (ltn rfl)) rfl ?_
                refine VL.done ?_
                refine VN.then ?_
                refine VC.region ?_
                refine VL.va (op_move rfl (ltn rfl)) rfl ?_
                refine VL.va (op_assign rfl (ltn rfl)) rfl ?_
                refine VL.done ?_
                refine VN.block ?_
                refine VN.again [0] [0] (ihl53 (wrap64 ((wrap64 (2 * i66154)) + 1)) (.slice (some ⟨g66176, 0, none⟩) l66157.length n66177) r66761 h) ⟨rfl, ⟨rfl, rfl, rfl, rfl, rfl, trivial⟩, trivial, rfl, by decide, rfl, by decide⟩
              · rw [if_neg c66760] at h
                obtain rfl : b66759 = false := hb66759.symm.trans (decide_eq_false c66760)
                refine VL.va (op_not rfl rfl (ltn rfl)) rfl ?_
                refine VL.done ?_
                refine VN.then ?_
                refine VC.cond_t rfl ?_
                refine VC.exit ?_
                refine VX.then ?_
                refine VX.miss (by decide) ?_
                refine VX.then ?_
                refine VX.hit ?_
                refine VN.then ?_
                refine VC.seq ?_
                refine VC.region ?_
                refine VL.va (op_move rfl (ltn rfl)) rfl ?_
                refine VL.va (op_move rfl (ltn rfl)) rfl ?_
                refine VL.letter (decide (i66154 > i59579)) fun b66764 hb66764 => ?_
                refine VL.va (op_cmp rfl rfl (congrArg some hb66764) (ltn rfl)) rfl ?_
                refine VL.va (op_assign rfl (ltn rfl)) rfl ?_
                refine VL.done ?_
                refine VN.then ?_
                refine VC.ret ?_
                refine VR.inl (rs := [.tmp 6]) (.bool b66764) rfl (.tmp rfl .nil) rfl ?_
                refine VL.done ?_
                refine VN.block ?_
                refine VN.then ?_
                refine VC.region ?_
                refine VL.va (op_move rfl (ltn rfl)) rfl ?_
                refine VL.va (op_ari64 rfl rfl rfl (ltn rfl)) rfl ?_
                refine VL.va (op_assign rfl (ltn rfl)) rfl ?_
                refine VL.done ?_
                refine VN.again [0] [0] (ihl46 (wrap64 (i59579 - 1)) (.slice (some ⟨g66176, 0, none⟩) l66157.length n66177) l66157 h) ⟨rfl, ⟨rfl, rfl, rfl, trivial⟩, trivial, rfl, by decide, rfl, by decide⟩
            · rw [if_neg c66755] at h; cases h
          · rw [if_neg c66753] at h; cases h
    · rw [if_neg c63178] at h
      obtain rfl : b63177 = false := hb63177.symm.trans (decide_eq_false c63178)
      refine VC.cond_f rfl ?_
      refine VC.exit ?_
      refine VX.then ?_
      refine VX.then ?_
      refine VX.hit ?_
      refine VN.inl (rs := []) (.tuple #[]) rfl .nil rfl ?_
      refine VL.done ?_
      refine VN.then ?_
      refine VC.seq ?_
      refine VC.region ?_
      refine VL.va (op_load 0 1 rfl rfl TI40 rfl (by decide) (ltn rfl)) rfl ?_
      refine VL.va (op_assign rfl (ltn rfl)) rfl ?_
      refine VL.va (op_assign rfl (ltn rfl)) rfl ?_
      refine VL.done ?_
      refine VN.then ?_
      refine VC.ret ?_
      simp only [Option.some.injEq, Prod.mk.injEq] at h
      obtain ⟨rfl, rfl⟩ := h
      exact VR.fn (rs := [.tmp 2, .tmp 3]) [] [(v59581, 24, 3, l59582.map enc23)] [0] rfl (.tmp rfl (.tmp rfl .nil)) ⟨v59581, rfl, rfl, rfl⟩ trivial rfl (by decide)
set_option maxHeartbeats 4000000 in
set_option maxRecDepth 100000 in
theorem queue_Less.ok (k : Nat) (a0_0 : Int) (a0_1 : Int) (a0_2 : Int) (a1_0 : Int) (a1_1 : Int) (a1_2 : Int)  (r1 : Bool) (h : queue_Less.f k a0_0 a0_1 a0_2 a1_0 a1_1 a1_2 = some r1) :
    VCalls Try.prog 10 [.agg #[.int .i64 a0_0, .int .i64 a0_1, .int .i64 a0_2], .agg #[.int .i64 a1_0, .int .i64 a1_1, .int .i64 a1_2]] [] (fun v G own => v = .bool r1 ∧ G = [] ∧ own = []) := by
  refine VCalls.intro Try.func10 rfl (len rfl) fun E hC => ?_
  unfold queue_Less.f at h
  refine VC.seq ?_
  refine VC.region ?_
  refine VL.sG (o_box rfl (.agg (.of rfl)) (ltn rfl)) rfl ?_
  intro g66782
  refine VL.sG (o_box rfl (.agg (.of rfl)) (ltn rfl)) rfl ?_
  intro g66783
  refine VL.va (op_assign rfl (ltn rfl)) rfl ?_
  refine VL.done ?_
  refine VN.then ?_
  refine VC.seq ?_
  refine VC.region ?_
  refine VL.va (op_load 1 3 rfl rfl TI24 rfl (fun h => absurd h (by decide)) (ltn rfl)) rfl ?_
  refine VL.va (op_load 0 3 rfl rfl TI24 rfl (fun h => absurd h (by decide)) (ltn rfl)) rfl ?_
  replace h := Option.bind_eq_some_iff.1 h
  obtain ⟨t66784, hA66785, h⟩ := h
  refine VL.sC (o_call0 FO26 (queue_compare.ok k a0_0 a0_1 a0_2 a1_0 a1_1 a1_2 t66784 hA66785) rfl rfl (ltn rfl) (All_of .nil)) rfl ?_
  rintro _ _ _ ⟨rfl, rfl, rfl⟩
  refine VL.letter (decide (t66784 < 0)) fun b66786 hb66786 => ?_
  refine VL.va (op_cmp rfl rfl (congrArg some hb66786) (ltn rfl)) rfl ?_
  refine VL.va (op_assign rfl (ltn rfl)) rfl ?_
  refine VL.done ?_
  refine VN.then ?_
  refine VC.ret ?_
  obtain rfl := Option.some.inj h
  subst hb66786
  exact VR.fn (rs := [.tmp 4]) [] [] [] rfl (.tmp rfl .nil) ⟨rfl, rfl, rfl⟩ trivial rfl (by decide)
set_option maxHeartbeats 4000000 in
set_option maxRecDepth 100000 in
theorem queue_Right.ok (k : Nat) (l0 : List S23) (v0 : Value) (r1 : Bool) (h : queue_Right.f k l0 = some r1) :
    VCalls Try.prog 12 [v0] [.row v0 3 (l0.map enc23)] (fun v G own => v = .bool r1 ∧ G = [] ∧ own = []) := by
  refine VCalls.intro Try.func12 rfl (len rfl) fun E hC => ?_
  unfold queue_Right.f at h
  refine VC.seq ?_
  refine VC.region ?_
  refine VL.va (op_assign rfl (ltn rfl)) rfl ?_
  refine VL.done ?_
  refine VN.then ?_
  refine VC.seq ?_
  refine VC.seq ?_
  refine VC.region ?_
  refine VL.va (op_assign rfl (ltn rfl)) rfl ?_
  refine VL.done ?_
  refine VN.then ?_
  refine VC.block ?_
  refine VC.loop1 (fun (i66849 : Int) => ⟨23, [(0, v0), (2, .bool false), (3, .int .i64 i66849)], [.row v0 3 (l0.map enc23)], [], []⟩) (fun (ml1 : Nat) (i66849 : Int) => queue_Right.l1 k l0 ml1 i66849 = some r1) k 1 [] [] h ⟨rfl, ⟨rfl, rfl, rfl, trivial⟩, ⟨⟨0, rfl⟩, trivial⟩, rfl, by decide, rfl, by decide⟩ (by intros; simp [queue_Right.l1]) ?_
  clear h
  intro ml1 ihl1 i66849 h
  simp only [queue_Right.l1] at h
  refine VC.seq ?_
  refine VC.seq ?_
  refine VC.region ?_
  refine VL.va (op_move rfl (ltn rfl)) rfl ?_
  refine VL.va (op_move rfl (ltn rfl)) rfl ?_
  refine VL.va (op_len (m := l0.length) 0 lenm Try.underlying22 rfl rfl (ltn rfl)) rfl ?_
  refine VL.letter (decide (i66849 < (l0.length : Int))) fun b66872 hb66872 => ?_
  refine VL.va (op_cmp rfl rfl (congrArg some hb66872) (ltn rfl)) rfl ?_
  refine VL.done ?_
  refine VN.then ?_
  by_cases c66873 : i66849 < (l0.length : Int)
  · rw [if_pos c66873] at h
    obtain rfl : b66872 = true := hb66872.symm.trans (decide_eq_true c66873)
    refine VC.cond_t rfl ?_
    refine VC.skip ?_
    refine VN.then ?_
    refine VC.seq ?_
    refine VC.block ?_
    by_cases c66881 : 0 ≤ i66849
    · rw [if_pos c66881] at h
      replace h := Option.bind_eq_some_iff.1 h
      obtain ⟨x66882, hx66882, h⟩ := h
      by_cases c66883 : 0 ≤ IntKind.i64.wrap ((wrap64 (i66849 - 1)).tdiv 2)
      · rw [if_pos c66883] at h
        replace h := Option.bind_eq_some_iff.1 h
        obtain ⟨x66884, hx66884, h⟩ := h
        replace h := Option.bind_eq_some_iff.1 h
        obtain ⟨t66885, hA66886, h⟩ := h
        refine VC.open (m := l0.length) 0 lenm rfl (pos_get hx66882) ?_
        rintro ad66778 n66779 rfl
        refine VC.join0 (⟨23, [(0, (.slice (some ad66778) l0.length n66779)), (2, .bool false), (3, .int .i64 i66849), (4, .int .i64 i66849), (5, (.slice (some ad66778) l0.length n66779)), (6, .int .i64 (l0.length : Int)), (7, .bool true), (10, (.slice (some ad66778) l0.length n66779)), (11, .int .i64 i66849), (13, .agg #[.int .i64 x66882.f0, .int .i64 x66882.f1, .int .i64 x66882.f2]), (14, (.slice (some ad66778) l0.length n66779)), (15, .int .i64 i66849), (16, .int .i64 (wrap64 (i66849 - 1))), (17, .int .i64 (IntKind.i64.wrap ((wrap64 (i66849 - 1)).tdiv 2))), (19, .agg #[.int .i64 x66884.f0, .int .i64 x66884.f1, .int .i64 x66884.f2]), (20, .bool t66885)], [.row (.slice (some ad66778) l0.length n66779) 3 (l0.map enc23)], [], []⟩) (True) ?_ ?_
        · refine VC.draw ⟨0, [], [.row (.slice (some ad66778) l0.length n66779) 3 (l0.map enc23)], [], []⟩ (by kernel_rfl) rfl (by kernel_rfl) (n := 11) (listed := LB 11 0) ?_
          refine VA.va (i := 0) (listed' := LB 11 1) rfl (op_move rfl (ltn rfl)) rfl (by kernel_rfl) (by kernel_rfl) (by kernel_rfl) (by kernel_rfl) ⟨⟨⟨0, rfl⟩, trivial⟩, trivial, trivial⟩ (fun _ _ _ h => h) ?_
          refine VA.va (i := 1) (listed' := LB 11 3) rfl (op_move rfl (ltn rfl)) rfl (by kernel_rfl) (by kernel_rfl) (by kernel_rfl) (by kernel_rfl) ⟨⟨⟨0, rfl⟩, trivial⟩, trivial, trivial⟩ (fun _ _ _ h => h) ?_
          refine VA.va (i := 2) (listed' := LB 11 7) rfl (op_indexAddr Try.underlying22 TI24 rfl rfl c66881 (lt_get c66881 hx66882) rfl (ltn rfl)) rfl (by kernel_rfl) (by kernel_rfl) (by kernel_rfl) (by kernel_rfl) ⟨⟨⟨0, rfl⟩, trivial⟩, trivial, trivial⟩ (fun _ _ _ h => h) ?_
          refine VA.va (i := 3) (listed' := LB 11 15) rfl (op_load_row (sz := 3) (o := 0) 0 i66849.toNat 3 rfl rfl (get_map hx66882) TI24 rfl (fun h => absurd h (by decide)) (ltn rfl)) rfl (by kernel_rfl) (by kernel_rfl) (by kernel_rfl) (by kernel_rfl) ⟨⟨⟨0, rfl⟩, trivial⟩, trivial, trivial⟩ (fun _ _ _ h => h) ?_
          refine VA.va (i := 4) (listed' := LB 11 31) rfl (op_move rfl (ltn rfl)) rfl (by kernel_rfl) (by kernel_rfl) (by kernel_rfl) (by kernel_rfl) ⟨⟨⟨0, rfl⟩, trivial⟩, trivial, trivial⟩ (fun _ _ _ h => h) ?_
          refine VA.va (i := 5) (listed' := LB 11 63) rfl (op_move rfl (ltn rfl)) rfl (by kernel_rfl) (by kernel_rfl) (by kernel_rfl) (by kernel_rfl) ⟨⟨⟨0, rfl⟩, trivial⟩, trivial, trivial⟩ (fun _ _ _ h => h) ?_
          refine VA.va (i := 6) (listed' := LB 11 127) rfl (op_ari64 rfl rfl rfl (ltn rfl)) rfl (by kernel_rfl) (by kernel_rfl) (by kernel_rfl) (by kernel_rfl) ⟨⟨⟨0, rfl⟩, trivial⟩, trivial, trivial⟩ (fun _ _ _ h => h) ?_
          refine VA.va (i := 7) (listed' := LB 11 255) rfl (op_quo rfl rfl (by decide) rfl (ltn rfl)) rfl (by kernel_rfl) (by kernel_rfl) (by kernel_rfl) (by kernel_rfl) ⟨⟨⟨0, rfl⟩, trivial⟩, trivial, trivial⟩ (fun _ _ _ h => h) ?_
          refine VA.va (i := 8) (listed' := LB 11 511) rfl (op_indexAddr Try.underlying22 TI24 rfl rfl c66883 (lt_get c66883 hx66884) rfl (ltn rfl)) rfl (by kernel_rfl) (by kernel_rfl) (by kernel_rfl) (by kernel_rfl) ⟨⟨⟨0, rfl⟩, trivial⟩, trivial, trivial⟩ (fun _ _ _ h => h) ?_
          refine VA.va (i := 9) (listed' := LB 11 1023) rfl (op_load_row (sz := 3) (o := 0) 0 (IntKind.i64.wrap ((wrap64 (i66849 - 1)).tdiv 2)).toNat 3 rfl rfl (get_map hx66884) TI24 rfl (fun h => absurd h (by decide)) (ltn rfl)) rfl (by kernel_rfl) (by kernel_rfl) (by kernel_rfl) (by kernel_rfl) ⟨⟨⟨0, rfl⟩, trivial⟩, trivial, trivial⟩ (fun _ _ _ h => h) ?_
          refine VA.oneC (i := 10) (listed' := LB 11 2047) (by kernel_rfl) rfl (o_call0 FO10 (queue_Less.ok k x66882.f0 x66882.f1 x66882.f2 x66884.f0 x66884.f1 x66884.f2 t66885 hA66886) rfl rfl (ltn rfl) (All_of .nil)) rfl (by kernel_rfl) ?_
          rintro _ _ _ ⟨rfl, rfl, rfl⟩
          refine ⟨⟨⟨⟨0, rfl⟩, trivial⟩, trivial, trivial⟩, ?_⟩
          refine VA.done (by kernel_rfl) ?_
          exact VN.meet0  [] [] trivial ⟨rfl, ⟨rfl, rfl, rfl, rfl, rfl, rfl, rfl, rfl, rfl, rfl, rfl, rfl, rfl, rfl, rfl, rfl, trivial⟩, ⟨⟨0, rfl⟩, trivial⟩, rfl, by decide, rfl, by decide⟩
        intro _
        by_cases c66887 : t66885 = true
        · rw [if_pos c66887] at h
          obtain rfl := c66887
          refine VC.cond_t rfl ?_
          refine VC.seq ?_
          refine VC.region ?_
          refine VL.va (op_assign rfl (ltn rfl)) rfl ?_
          refine VL.done ?_
          refine VN.then ?_
          refine VC.ret ?_
          refine VR.block ?_
          refine VR.then ?_
          refine VR.then ?_
          refine VR.block ?_
          refine VR.then ?_
          obtain rfl := Option.some.inj h
          exact VR.fn (rs := [.tmp 2]) [] [] [] rfl (.tmp rfl .nil) ⟨rfl, rfl, rfl⟩ trivial rfl (by decide)
        · rw [if_neg c66887] at h
          obtain rfl := Bool.eq_false_iff.2 c66887
          refine VC.cond_f rfl ?_
          refine VC.skip ?_
          refine VN.block ?_
          refine VN.then ?_
          refine VC.region ?_
          refine VL.va (op_move rfl (ltn rfl)) rfl ?_
          refine VL.va (op_ari64 rfl rfl rfl (ltn rfl)) rfl ?_
          refine VL.va (op_assign rfl (ltn rfl)) rfl ?_
          refine VL.done ?_
          refine VN.again [] [] (ihl1 (wrap64 (i66849 + 1)) h) ⟨rfl, ⟨rfl, rfl, rfl, trivial⟩, ⟨⟨0, rfl⟩, trivial⟩, rfl, by decide, rfl, by decide⟩
      · rw [if_neg c66883] at h; cases h
    · rw [if_neg c66881] at h; cases h
  · rw [if_neg c66873] at h
    obtain rfl : b66872 = false := hb66872.symm.trans (decide_eq_false c66873)
    refine VC.cond_f rfl ?_
    refine VC.exit ?_
    refine VX.then ?_
    refine VX.then ?_
    refine VX.hit ?_
    refine VN.then ?_
    refine VC.seq ?_
    refine VC.region ?_
    refine VL.va (op_move rfl (ltn rfl)) rfl ?_
    replace h := Option.bind_eq_some_iff.1 h
    obtain ⟨t66888, hA66889, h⟩ := h
    refine VL.sC (o_call0 FO21 (queue_all.ok k l0 v0 t66888 hA66889) rfl rfl (ltn rfl) (All_of (.cons (List.mem_of_getElem? (i := 0) rfl) .nil))) rfl ?_
    rintro _ _ _ ⟨rfl, rfl, rfl⟩
    refine VL.va (op_assign rfl (ltn rfl)) rfl ?_
    refine VL.done ?_
    refine VN.then ?_
    refine VC.ret ?_
    obtain rfl := Option.some.inj h
    exact VR.fn (rs := [.tmp 2]) [] [] [] rfl (.tmp rfl .nil) ⟨rfl, rfl, rfl⟩ trivial rfl (by decide)

end Go.Proofs.Ythgoagnennjagaa.PQueueOrders
