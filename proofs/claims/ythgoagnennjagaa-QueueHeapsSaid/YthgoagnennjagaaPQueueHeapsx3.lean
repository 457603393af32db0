/- Written by a program of this repo: what the program's functions do, each as a Lean function, shown of the loaded code; or a statement's row over that; no condition of its own. -/
import Derived.Test.YthgoagnennjagaaPQueueHeapsx2
namespace Go.Proofs.Ythgoagnennjagaa.PQueueHeaps
open Go Go.RowKit Go.Proofs.YthgoagnennjagaaV
set_option linter.unusedVariables false
set_option linter.unusedSimpArgs false

set_option maxHeartbeats 4000000 in
set_option maxRecDepth 100000 in
theorem queue_Sorted.ok (k : Nat) (l0 : List S23) (v0 : Value) (r1 : List S23) (r2 : Int) (h : queue_Sorted.f k l0 = some (r1, r2)) :
    VCalls Try.prog 9 [v0] [.row v0 3 (l0.map enc23)] (fun v G own => ∃ w0 : Value, v = .tuple #[w0, .int .i64 r2] ∧ G = [] ∧ own = [(w0, 24, 3, r1.map enc23)]) := by
  refine VCalls.intro Try.func9 rfl (len rfl) fun E hC => ?_
  unfold queue_Sorted.f at h
  refine VC.seq ?_
  refine VC.region ?_
  refine VL.va (op_assign rfl (ltn rfl)) rfl ?_
  refine VL.va (op_assign rfl (ltn rfl)) rfl ?_
  refine VL.done ?_
  refine VN.then ?_
  refine VC.seq ?_
  refine VC.region ?_
  refine VL.va (op_move rfl (ltn rfl)) rfl ?_
  replace h := Option.bind_eq_some_iff.1 h
  obtain ⟨⟨r66779, t66780⟩, hA66781, h⟩ := h
  dsimp only at h
  refine VL.sC (o_call0 FO8 (queue_Make.ok k l0 v0 r66779 t66780 hA66781) rfl rfl (ltn rfl) (All_of (.cons (List.mem_of_getElem? (i := 0) rfl) .nil))) rfl ?_
  rintro _ _ _ ⟨v66783, rfl, rfl, rfl⟩
  refine VL.va (op_move rfl (ltn rfl)) rfl ?_
  refine VL.va (op_extract rfl rfl (ltn rfl)) rfl ?_
  refine VL.va (op_extract rfl rfl (ltn rfl)) rfl ?_
  refine VL.va (op_assign rfl (ltn rfl)) rfl ?_
  refine VL.va (op_assign rfl (ltn rfl)) rfl ?_
  refine VL.done ?_
  refine VN.then ?_
  refine VC.seq ?_
  refine VC.seq ?_
  refine VC.region ?_
  refine VL.va (op_move rfl (ltn rfl)) rfl ?_
  refine VL.letter ((t66780 != 0)) fun b66787 hb66787 => ?_
  refine VL.va (op_cmp rfl rfl (congrArg some hb66787) (ltn rfl)) rfl ?_
  refine VL.done ?_
  refine VN.then ?_
  by_cases c66788 : t66780 = 0
  · rw [if_pos c66788] at h
    obtain rfl : b66787 = false := hb66787.symm.trans (bne_eq_false_iff_eq.2 c66788)
    refine VC.cond_f rfl ?_
    refine VC.skip ?_
    refine VN.then ?_
    refine VC.seq ?_
    refine VC.region ?_
    refine VL.va (op_move rfl (ltn rfl)) rfl ?_
    refine VL.sG (o_alloc Z40 ZL40 (ltn rfl)) rfl ?_
    intro g66789
    refine VL.step1 (o_store 0 1 rfl rfl rfl TI40 (.r 0 rfl) rfl (len rfl)) rfl ?_
    refine VL.done ?_
    refine VN.then ?_
    refine VC.seq ?_
    refine VC.region ?_
    refine VL.va (op_assign rfl (ltn rfl)) rfl ?_
    refine VL.done ?_
    refine VN.then ?_
    refine VC.seq ?_
    refine VC.block ?_
    refine VC.nilRow' 24 3 ?_
    refine VC.loop4 (fun (v139995 : Value) (l139996 : List S23) (v139999 : Value) (l140000 : List S23) => ⟨33, [(2, .slice none 0 0), (3, .int .i64 0), (6, .pointer (some ⟨g66789, 0, none⟩)), (7, v139995)], [], [(g66789, 40, [v139999])], [(v139995, 24, 3, l139996.map enc23), (v139999, 24, 3, l140000.map enc23)]⟩) (fun (ml41 : Nat) (v139995 : Value) (l139996 : List S23) (v139999 : Value) (l140000 : List S23) => queue_Sorted.l41 k ml41 l139996 l140000 = some (r1, r2)) k (.slice none 0 0) ([] : List S23) v66783 r66779 [0] [0, 1] h ⟨rfl, ⟨rfl, rfl, rfl, rfl, trivial⟩, trivial, rfl, by decide, rfl, by decide⟩ (by intros; simp [queue_Sorted.l41]) ?_
    clear h
    intro ml41 ihl41 v139995 l139996 v139999 l140000 h
    simp only [queue_Sorted.l41] at h
    refine VC.seq ?_
    refine VC.seq ?_
    refine VC.region ?_
    refine VL.va (op_makeIface Try.underlying42 (fun _ h => by cases h) rfl (ltn rfl)) rfl ?_
    refine VL.inl (vals := [.iface 42 (.pointer (some ⟨g66789, 0, none⟩))]) (caps := []) Try.func24 FO24 rfl rfl rfl (len rfl) (ltn rfl) rfl ?_
    refine VC.seq ?_
    refine VC.region ?_
    refine VL.va (op_assign rfl (ltn rfl)) rfl ?_
    refine VL.done ?_
    refine VN.then ?_
    refine VC.seq ?_
    refine VC.region ?_
    refine VL.va (op_move rfl (ltn rfl)) rfl ?_
    refine VL.inle (vals := [v139999]) Try.func54 rfl (ope_meth_v 0 1 MI42_Len Try.underlying42 FO54 rfl rfl TI40 rfl (by decide) rfl rfl) (len rfl) (by rintro d ⟨⟩; exact ltn rfl) rfl ?_
    refine VC.seq ?_
    refine VC.region ?_
    refine VL.va (op_assign rfl (ltn rfl)) rfl ?_
    refine VL.done ?_
    refine VN.then ?_
    refine VC.seq ?_
    refine VC.region ?_
    refine VL.va (op_move rfl (ltn rfl)) rfl ?_
    refine VL.va (op_len_own (m := l140000.length) 1 lenm Try.underlying40 rfl rfl (ltn rfl)) rfl ?_
    refine VL.va (op_assign rfl (ltn rfl)) rfl ?_
    refine VL.done ?_
    refine VN.then ?_
    refine VC.ret ?_
    refine VR.inl (rs := [.tmp 2]) (.int .i64 (l140000.length : Int)) rfl (.tmp rfl .nil) rfl ?_
    refine VL.va (op_assign rfl (ltn rfl)) rfl ?_
    refine VL.done ?_
    refine VN.then ?_
    refine VC.ret ?_
    refine VR.inl (rs := [.tmp 2]) (.int .i64 (l140000.length : Int)) rfl (.tmp rfl .nil) rfl ?_
    refine VL.letter (decide ((l140000.length : Int) > 0)) fun b153882 hb153882 => ?_
    refine VL.va (op_cmp rfl rfl (congrArg some hb153882) (ltn rfl)) rfl ?_
    refine VL.done ?_
    refine VN.then ?_
    by_cases c153883 : (l140000.length : Int) > 0
    · rw [if_pos c153883] at h
      obtain rfl : b153882 = true := hb153882.symm.trans (decide_eq_true c153883)
      refine VC.cond_t rfl ?_
      refine VC.skip ?_
      refine VN.then ?_
      refine VC.block ?_
      refine VC.seq ?_
      refine VC.region ?_
      refine VL.va (op_makeIface Try.underlying42 (fun _ h => by cases h) rfl (ltn rfl)) rfl ?_
      refine VL.inl (vals := [.iface 42 (.pointer (some ⟨g66789, 0, none⟩))]) (caps := []) Try.func25 FO25 rfl rfl rfl (len rfl) (ltn rfl) rfl ?_
      refine VC.seq ?_
      refine VC.region ?_
      refine VL.va (op_assign rfl (ltn rfl)) rfl ?_
      refine VL.done ?_
      refine VN.then ?_
      refine VC.seq ?_
      refine VC.region ?_
      refine VL.va (op_move rfl (ltn rfl)) rfl ?_
      refine VL.inle (vals := [v139999]) Try.func54 rfl (ope_meth_v 0 1 MI42_Len Try.underlying42 FO54 rfl rfl TI40 rfl (by decide) rfl rfl) (len rfl) (by rintro d ⟨⟩; exact ltn rfl) rfl ?_
      refine VC.seq ?_
      refine VC.region ?_
      refine VL.va (op_assign rfl (ltn rfl)) rfl ?_
      refine VL.done ?_
      refine VN.then ?_
      refine VC.seq ?_
      refine VC.region ?_
      refine VL.va (op_move rfl (ltn rfl)) rfl ?_
      refine VL.va (op_len_own (m := l140000.length) 1 lenm Try.underlying40 rfl rfl (ltn rfl)) rfl ?_
      refine VL.va (op_assign rfl (ltn rfl)) rfl ?_
      refine VL.done ?_
      refine VN.then ?_
      refine VC.ret ?_
      refine VR.inl (rs := [.tmp 2]) (.int .i64 (l140000.length : Int)) rfl (.tmp rfl .nil) rfl ?_
      refine VL.va (op_ari64 rfl rfl rfl (ltn rfl)) rfl ?_
      refine VL.va (op_assign rfl (ltn rfl)) rfl ?_
      refine VL.done ?_
      refine VN.then ?_
      refine VC.seq ?_
      refine VC.region ?_
      refine VL.va (op_move rfl (ltn rfl)) rfl ?_
      refine VL.va (op_move rfl (ltn rfl)) rfl ?_
      replace h := Option.bind_eq_some_iff.1 h
      obtain ⟨r160742, hA160743, h⟩ := h
      refine VL.step1 (ope_ownd (vals := [v139999, .int .i64 0, .int .i64 (wrap64 ((l140000.length : Int) - 1))]) 1 rfl (ope_meth_v 0 1 MI42_Swap Try.underlying42 FO56 rfl rfl TI40 rfl (by decide) rfl rfl) (queue_waits_Swap.ok l140000 0 (wrap64 ((l140000.length : Int) - 1)) v139999 r160742 hA160743) (by simp) (ltn rfl)) rfl ?_
      refine VL.done ?_
      refine VN.then ?_
      refine VC.join2 (fun (v167731 : Value) (l167732 : List S23) => ⟨15, [(0, .iface 42 (.pointer (some ⟨g66789, 0, none⟩))), (2, .nilIface)], [], [(g66789, 40, [v167731])], [(v167731, 24, 3, l167732.map enc23), (v139995, 24, 3, l139996.map enc23)]⟩) (fun (v167731 : Value) (l167732 : List S23) => queue_Sorted.j77 k (queue_Sorted.l41 k ml41) l139996 l167732 = some (r1, r2)) ?_ ?_
      · refine VC.region ?_
        refine VL.va (op_move rfl (ltn rfl)) rfl ?_
        refine VL.va (op_move rfl (ltn rfl)) rfl ?_
        refine VL.inl (vals := [.iface 42 (.pointer (some ⟨g66789, 0, none⟩)), .int .i64 0, .int .i64 (wrap64 ((l140000.length : Int) - 1))]) (caps := []) Try.func31 FO31 rfl rfl rfl (len rfl) (ltn rfl) rfl ?_
        refine VC.seq ?_
        refine VC.region ?_
        refine VL.va (op_assign rfl (ltn rfl)) rfl ?_
        refine VL.done ?_
        refine VN.then ?_
        refine VC.seq ?_
        refine VC.region ?_
        refine VL.va (op_move rfl (ltn rfl)) rfl ?_
        refine VL.va (op_assign rfl (ltn rfl)) rfl ?_
        refine VL.done ?_
        refine VN.then ?_
        refine VC.seq ?_
        refine VC.block ?_
        refine VC.loop3 (fun (i167119 : Int) (v167121 : Value) (l167122 : List S23) => ⟨48, [(0, .iface 42 (.pointer (some ⟨g66789, 0, none⟩))), (1, .int .i64 0), (2, .int .i64 (wrap64 ((l140000.length : Int) - 1))), (6, .bool false), (7, .int .i64 i167119)], [], [(g66789, 40, [v167121])], [(v167121, 24, 3, l167122.map enc23), (v139995, 24, 3, l139996.map enc23)]⟩) (fun (ml80 : Nat) (i167119 : Int) (v167121 : Value) (l167122 : List S23) => queue_Sorted.l80 k (queue_Sorted.l41 k ml41) l139996 l140000 ml80 i167119 l167122 = some (r1, r2)) k 0 v139999 r160742 [0] [1, 0] h ⟨rfl, ⟨rfl, rfl, rfl, rfl, rfl, trivial⟩, trivial, rfl, by decide, rfl, by decide⟩ (by intros; simp [queue_Sorted.l80]) ?_
        clear h
        intro ml80 ihl80 i167119 v167121 l167122 h
        simp only [queue_Sorted.l80] at h
        refine VC.block ?_
        refine VC.seq ?_
        refine VC.region ?_
        refine VL.va (op_move rfl (ltn rfl)) rfl ?_
        refine VL.va (op_ari64 rfl rfl rfl (ltn rfl)) rfl ?_
        refine VL.va (op_ari64 rfl rfl rfl (ltn rfl)) rfl ?_
        refine VL.va (op_assign rfl (ltn rfl)) rfl ?_
        refine VL.done ?_
        refine VN.then ?_
        refine VC.seq ?_
        refine VC.join3 (fun (q167584 : Bool) (q167585 : Bool) (q167586 : Bool) => ⟨48, [(0, .iface 42 (.pointer (some ⟨g66789, 0, none⟩))), (1, .int .i64 0), (2, .int .i64 (wrap64 ((l140000.length : Int) - 1))), (6, .bool false), (7, .int .i64 i167119), (8, .int .i64 (wrap64 ((wrap64 (2 * i167119)) + 1))), (12, .int .i64 i167119), (13, .int .i64 (wrap64 (2 * i167119))), (14, .int .i64 (wrap64 ((wrap64 (2 * i167119)) + 1))), (15, .int .i64 (wrap64 ((wrap64 (2 * i167119)) + 1))), (16, .int .i64 (wrap64 ((l140000.length : Int) - 1))), (17, .bool q167584), (18, .bool q167585), (21, .bool q167586)], [], [(g66789, 40, [v167121])], [(v139995, 24, 3, l139996.map enc23), (v167121, 24, 3, l167122.map enc23)]⟩) (fun (q167584 : Bool) (q167585 : Bool) (q167586 : Bool) => queue_Sorted.j81 k (queue_Sorted.l41 k ml41) (queue_Sorted.l80 k (queue_Sorted.l41 k ml41) l139996 l140000 ml80) i167119 l139996 l140000 l167122 q167584 q167585 q167586 = some (r1, r2)) ?_ ?_
        · refine VC.region ?_
          refine VL.va (op_move rfl (ltn rfl)) rfl ?_
          refine VL.va (op_move rfl (ltn rfl)) rfl ?_
          refine VL.letter (decide ((wrap64 ((wrap64 (2 * i167119)) + 1)) ≥ (wrap64 ((l140000.length : Int) - 1)))) fun b167581 hb167581 => ?_
          refine VL.va (op_cmp rfl rfl (congrArg some hb167581) (ltn rfl)) rfl ?_
          refine VL.va (op_move rfl (ltn rfl)) rfl ?_
          by_cases c167582 : (wrap64 ((wrap64 (2 * i167119)) + 1)) ≥ (wrap64 ((l140000.length : Int) - 1))
          · rw [if_pos c167582] at h
            obtain rfl : b167581 = true := hb167581.symm.trans (decide_eq_true c167582)
            refine VL.un rfl rfl (ltn rfl) ?_
            refine VL.un rfl rfl (ltn rfl) ?_
            refine VL.va (op_pick rfl rfl (ltn rfl)) rfl ?_
            refine VL.done ?_
            refine VN.meet3 true true true [0] [1, 0] h ⟨rfl, ⟨rfl, rfl, rfl, rfl, rfl, rfl, rfl, rfl, rfl, rfl, rfl, rfl, rfl, rfl, trivial⟩, trivial, rfl, by decide, rfl, by decide⟩
          · rw [if_neg c167582] at h
            obtain rfl : b167581 = false := hb167581.symm.trans (decide_eq_false c167582)
            refine VL.va (op_move rfl (ltn rfl)) rfl ?_
            refine VL.letter (decide ((wrap64 ((wrap64 (2 * i167119)) + 1)) < 0)) fun b167583 hb167583 => ?_
            refine VL.va (op_cmp rfl rfl (congrArg some hb167583) (ltn rfl)) rfl ?_
            refine VL.va (op_pick rfl rfl (ltn rfl)) rfl ?_
            refine VL.done ?_
            subst hb167583
            refine VN.meet3 false false (decide ((wrap64 ((wrap64 (2 * i167119)) + 1)) < 0)) [0] [1, 0] h ⟨rfl, ⟨rfl, rfl, rfl, rfl, rfl, rfl, rfl, rfl, rfl, rfl, rfl, rfl, rfl, rfl, trivial⟩, trivial, rfl, by decide, rfl, by decide⟩
        clear h
        intro q167584 q167585 q167586 h
        unfold queue_Sorted.j81 at h
        by_cases c167587 : q167586 = true
        · rw [if_pos c167587] at h
          obtain rfl := c167587
          refine VC.cond_t rfl ?_
          refine VC.exit ?_
          refine VX.then ?_
          refine VX.miss (by decide) ?_
          refine VX.then ?_
          refine VX.hit ?_
          refine VN.then ?_
          refine VC.seq ?_
          refine VC.region ?_
          refine VL.va (op_move rfl (ltn rfl)) rfl ?_
          refine VL.va (op_move rfl (ltn rfl)) rfl ?_
          refine VL.letter (decide (i167119 > 0)) fun b167588 hb167588 => ?_
          refine VL.va (op_cmp rfl rfl (congrArg some hb167588) (ltn rfl)) rfl ?_
          refine VL.va (op_assign rfl (ltn rfl)) rfl ?_
          refine VL.done ?_
          refine VN.then ?_
          refine VC.ret ?_
          refine VR.inl (rs := [.tmp 6]) (.bool b167588) rfl (.tmp rfl .nil) rfl ?_
          refine VL.done ?_
          refine VN.meet2 v167121 l167122 [0] [1, 0] h ⟨rfl, ⟨rfl, rfl, trivial⟩, trivial, rfl, by decide, rfl, by decide⟩
        · rw [if_neg c167587] at h
          obtain rfl := Bool.eq_false_iff.2 c167587
          refine VC.cond_f rfl ?_
          refine VC.skip ?_
          refine VN.then ?_
          refine VC.seq ?_
          refine VC.region ?_
          refine VL.va (op_move rfl (ltn rfl)) rfl ?_
          refine VL.va (op_assign rfl (ltn rfl)) rfl ?_
          refine VL.done ?_
          refine VN.then ?_
          refine VC.seq ?_
          refine VC.seq ?_
          refine VC.region ?_
          refine VL.va (op_move rfl (ltn rfl)) rfl ?_
          refine VL.va (op_ari64 rfl rfl rfl (ltn rfl)) rfl ?_
          refine VL.va (op_assign rfl (ltn rfl)) rfl ?_
          refine VL.done ?_
          refine VN.then ?_
          refine VC.seq ?_
          refine VC.region ?_
          refine VL.va (op_move rfl (ltn rfl)) rfl ?_
          refine VL.va (op_move rfl (ltn rfl)) rfl ?_
          refine VL.letter (decide ((wrap64 ((wrap64 ((wrap64 (2 * i167119)) + 1)) + 1)) < (wrap64 ((l140000.length : Int) - 1)))) fun b167617 hb167617 => ?_
          refine VL.va (op_cmp rfl rfl (congrArg some hb167617) (ltn rfl)) rfl ?_
          refine VL.va (op_move rfl (ltn rfl)) rfl ?_
          by_cases c167618 : (wrap64 ((wrap64 ((wrap64 (2 * i167119)) + 1)) + 1)) < (wrap64 ((l140000.length : Int) - 1))
          · rw [if_pos c167618] at h
            obtain rfl : b167617 = true := hb167617.symm.trans (decide_eq_true c167618)
            refine VL.va (op_move rfl (ltn rfl)) rfl ?_
            refine VL.va (op_move rfl (ltn rfl)) rfl ?_
            refine VL.va (op_move rfl (ltn rfl)) rfl ?_
            refine VL.inle (vals := [v167121, .int .i64 (wrap64 ((wrap64 ((wrap64 (2 * i167119)) + 1)) + 1)), .int .i64 (wrap64 ((wrap64 (2 * i167119)) + 1))]) Try.func55 rfl (ope_meth_v 0 1 MI42_Less Try.underlying42 FO55 rfl rfl TI40 rfl (by decide) rfl rfl) (len rfl) (by rintro d ⟨⟩; exact ltn rfl) rfl ?_
            refine VC.seq ?_
            refine VC.region ?_
            refine VL.va (op_assign rfl (ltn rfl)) rfl ?_
            refine VL.done ?_
            refine VN.then ?_
            by_cases c167619 : 0 ≤ wrap64 ((wrap64 ((wrap64 (2 * i167119)) + 1)) + 1)
            · rw [if_pos c167619] at h
              replace h := Option.bind_eq_some_iff.1 h
              obtain ⟨x167620, hx167620, h⟩ := h
              by_cases c167621 : 0 ≤ wrap64 ((wrap64 (2 * i167119)) + 1)
              · rw [if_pos c167621] at h
                replace h := Option.bind_eq_some_iff.1 h
                obtain ⟨x167622, hx167622, h⟩ := h
                replace h := Option.bind_eq_some_iff.1 h
                obtain ⟨t167623, hA167624, h⟩ := h
                refine VC.letter (decide (t167623 < 0)) fun b167625 hb167625 => ?_
                refine VC.openR (m := l167122.length) 1 lenm rfl (pos_get hx167620) ?_
                rintro g167141 n167142 rfl
                refine VC.join0 (⟨17, [(6, .bool b167625)], [], [(g66789, 40, [(.slice (some ⟨g167141, 0, none⟩) l167122.length n167142)])], [(v139995, 24, 3, l139996.map enc23), ((.slice (some ⟨g167141, 0, none⟩) l167122.length n167142), 24, 3, l167122.map enc23)]⟩) (True) ?_ ?_
                · refine VC.draw ⟨0, [], [], [], [((.slice (some ⟨g167141, 0, none⟩) l167122.length n167142), 24, 3, l167122.map enc23)]⟩ (by kernel_rfl) rfl (by kernel_rfl) (n := 11) (listed := LB 11 0) ?_
                  refine VA.va (i := 0) (listed' := LB 11 1) rfl (op_move rfl (ltn rfl)) rfl (by kernel_rfl) (by kernel_rfl) (by kernel_rfl) (by kernel_rfl) ⟨trivial, trivial, ⟨⟨1, rfl⟩, trivial⟩⟩ (fun _ _ _ h => h) ?_
                  refine VA.va (i := 1) (listed' := LB 11 3) rfl (op_move rfl (ltn rfl)) rfl (by kernel_rfl) (by kernel_rfl) (by kernel_rfl) (by kernel_rfl) ⟨trivial, trivial, ⟨⟨1, rfl⟩, trivial⟩⟩ (fun _ _ _ h => h) ?_
                  refine VA.va (i := 2) (listed' := LB 11 7) rfl (op_indexAddr Try.underlying40 TI24 rfl rfl c167619 (lt_get c167619 hx167620) (add_zero_at _ _) (ltn rfl)) rfl (by kernel_rfl) (by kernel_rfl) (by kernel_rfl) (by kernel_rfl) ⟨trivial, trivial, ⟨⟨1, rfl⟩, trivial⟩⟩ (fun _ _ _ h => h) ?_
                  refine VA.va (i := 3) (listed' := LB 11 15) rfl (op_load_own (sz := 3) (o := 0) 0 (wrap64 ((wrap64 ((wrap64 (2 * i167119)) + 1)) + 1)).toNat 3 rfl rfl (get_map hx167620) TI24 rfl (fun h => absurd h (by decide)) (ltn rfl)) rfl (by kernel_rfl) (by kernel_rfl) (by kernel_rfl) (by kernel_rfl) ⟨trivial, trivial, ⟨⟨1, rfl⟩, trivial⟩⟩ (fun _ _ _ h => h) ?_
                  refine VA.va (i := 4) (listed' := LB 11 31) rfl (op_move rfl (ltn rfl)) rfl (by kernel_rfl) (by kernel_rfl) (by kernel_rfl) (by kernel_rfl) ⟨trivial, trivial, ⟨⟨1, rfl⟩, trivial⟩⟩ (fun _ _ _ h => h) ?_
                  refine VA.va (i := 5) (listed' := LB 11 63) rfl (op_move rfl (ltn rfl)) rfl (by kernel_rfl) (by kernel_rfl) (by kernel_rfl) (by kernel_rfl) ⟨trivial, trivial, ⟨⟨1, rfl⟩, trivial⟩⟩ (fun _ _ _ h => h) ?_
                  refine VA.va (i := 6) (listed' := LB 11 127) rfl (op_indexAddr Try.underlying40 TI24 rfl rfl c167621 (lt_get c167621 hx167622) (add_zero_at _ _) (ltn rfl)) rfl (by kernel_rfl) (by kernel_rfl) (by kernel_rfl) (by kernel_rfl) ⟨trivial, trivial, ⟨⟨1, rfl⟩, trivial⟩⟩ (fun _ _ _ h => h) ?_
                  refine VA.va (i := 7) (listed' := LB 11 255) rfl (op_load_own (sz := 3) (o := 0) 0 (wrap64 ((wrap64 (2 * i167119)) + 1)).toNat 3 rfl rfl (get_map hx167622) TI24 rfl (fun h => absurd h (by decide)) (ltn rfl)) rfl (by kernel_rfl) (by kernel_rfl) (by kernel_rfl) (by kernel_rfl) ⟨trivial, trivial, ⟨⟨1, rfl⟩, trivial⟩⟩ (fun _ _ _ h => h) ?_
                  refine VA.oneC (i := 8) (listed' := LB 11 511) (by kernel_rfl) rfl (o_call0 FO26 (queue_compare.ok k x167620.f0 x167620.f1 x167620.f2 x167622.f0 x167622.f1 x167622.f2 t167623 hA167624) rfl rfl (ltn rfl) (All_of .nil)) rfl (by kernel_rfl) ?_
                  rintro _ _ _ ⟨rfl, rfl, rfl⟩
                  refine ⟨⟨trivial, trivial, ⟨⟨1, rfl⟩, trivial⟩⟩, ?_⟩
                  refine VA.va (i := 9) (listed' := LB 11 1023) rfl (op_cmp rfl rfl (congrArg some hb167625) (ltn rfl)) rfl (by kernel_rfl) (by kernel_rfl) (by kernel_rfl) (by kernel_rfl) ⟨trivial, trivial, ⟨⟨1, rfl⟩, trivial⟩⟩ (fun _ _ _ h => h) ?_
                  refine VA.va (i := 10) (listed' := LB 11 2047) rfl (op_assign rfl (ltn rfl)) rfl (by kernel_rfl) (by kernel_rfl) (by kernel_rfl) (by kernel_rfl) ⟨trivial, trivial, ⟨⟨1, rfl⟩, trivial⟩⟩ (fun _ _ _ h => h) ?_
                  refine VA.done (by kernel_rfl) ?_
                  exact VN.meet0  [0] [0, 1] trivial ⟨rfl, ⟨rfl, trivial⟩, trivial, rfl, by decide, rfl, by decide⟩
                intro _
                refine VC.ret ?_
                refine VR.inl (rs := [.tmp 6]) (.bool b167625) rfl (.tmp rfl .nil) rfl ?_
                refine VL.va (op_pick rfl rfl (ltn rfl)) rfl ?_
                refine VL.done ?_
                refine VN.then ?_
                by_cases c167626 : t167623 < 0
                · rw [if_pos c167626] at h
                  obtain rfl : b167625 = true := hb167625.symm.trans (decide_eq_true c167626)
                  refine VC.cond_t rfl ?_
                  refine VC.region ?_
                  refine VL.va (op_move rfl (ltn rfl)) rfl ?_
                  refine VL.va (op_assign rfl (ltn rfl)) rfl ?_
                  refine VL.done ?_
                  refine VN.then ?_
                  refine VC.seq ?_
                  refine VC.seq ?_
                  refine VC.region ?_
                  refine VL.va (op_move rfl (ltn rfl)) rfl ?_
                  refine VL.va (op_move rfl (ltn rfl)) rfl ?_
                  refine VL.va (op_move rfl (ltn rfl)) rfl ?_
                  refine VL.inle (vals := [(.slice (some ⟨g167141, 0, none⟩) l167122.length n167142), .int .i64 (wrap64 ((wrap64 ((wrap64 (2 * i167119)) + 1)) + 1)), .int .i64 i167119]) Try.func55 rfl (ope_meth_v 0 1 MI42_Less Try.underlying42 FO55 rfl rfl TI40 rfl (by decide) rfl rfl) (len rfl) (by rintro d ⟨⟩; exact ltn rfl) rfl ?_
                  refine VC.seq ?_
                  refine VC.region ?_
                  refine VL.va (op_assign rfl (ltn rfl)) rfl ?_
                  refine VL.done ?_
                  refine VN.then ?_
                  replace h := Option.bind_eq_some_iff.1 h
                  obtain ⟨x167649, hx167649, h⟩ := h
                  by_cases c167650 : 0 ≤ i167119
                  · rw [if_pos c167650] at h
                    replace h := Option.bind_eq_some_iff.1 h
                    obtain ⟨x167651, hx167651, h⟩ := h
                    replace h := Option.bind_eq_some_iff.1 h
                    obtain ⟨t167652, hA167653, h⟩ := h
                    refine VC.letter (decide (t167652 < 0)) fun b167654 hb167654 => ?_
                    refine VC.join0 (⟨17, [(6, .bool b167654)], [], [(g66789, 40, [(.slice (some ⟨g167141, 0, none⟩) l167122.length n167142)])], [(v139995, 24, 3, l139996.map enc23), ((.slice (some ⟨g167141, 0, none⟩) l167122.length n167142), 24, 3, l167122.map enc23)]⟩) (True) ?_ ?_
                    · refine VC.draw ⟨0, [], [], [], [((.slice (some ⟨g167141, 0, none⟩) l167122.length n167142), 24, 3, l167122.map enc23)]⟩ (by kernel_rfl) rfl (by kernel_rfl) (n := 11) (listed := LB 11 0) ?_
                      refine VA.va (i := 0) (listed' := LB 11 1) rfl (op_move rfl (ltn rfl)) rfl (by kernel_rfl) (by kernel_rfl) (by kernel_rfl) (by kernel_rfl) ⟨trivial, trivial, ⟨⟨1, rfl⟩, trivial⟩⟩ (fun _ _ _ h => h) ?_
                      refine VA.va (i := 1) (listed' := LB 11 3) rfl (op_move rfl (ltn rfl)) rfl (by kernel_rfl) (by kernel_rfl) (by kernel_rfl) (by kernel_rfl) ⟨trivial, trivial, ⟨⟨1, rfl⟩, trivial⟩⟩ (fun _ _ _ h => h) ?_
                      refine VA.va (i := 2) (listed' := LB 11 7) rfl (op_indexAddr Try.underlying40 TI24 rfl rfl c167619 (lt_get c167619 hx167649) (add_zero_at _ _) (ltn rfl)) rfl (by kernel_rfl) (by kernel_rfl) (by kernel_rfl) (by kernel_rfl) ⟨trivial, trivial, ⟨⟨1, rfl⟩, trivial⟩⟩ (fun _ _ _ h => h) ?_
                      refine VA.va (i := 3) (listed' := LB 11 15) rfl (op_load_own (sz := 3) (o := 0) 0 (wrap64 ((wrap64 ((wrap64 (2 * i167119)) + 1)) + 1)).toNat 3 rfl rfl (get_map hx167649) TI24 rfl (fun h => absurd h (by decide)) (ltn rfl)) rfl (by kernel_rfl) (by kernel_rfl) (by kernel_rfl) (by kernel_rfl) ⟨trivial, trivial, ⟨⟨1, rfl⟩, trivial⟩⟩ (fun _ _ _ h => h) ?_
                      refine VA.va (i := 4) (listed' := LB 11 31) rfl (op_move rfl (ltn rfl)) rfl (by kernel_rfl) (by kernel_rfl) (by kernel_rfl) (by kernel_rfl) ⟨trivial, trivial, ⟨⟨1, rfl⟩, trivial⟩⟩ (fun _ _ _ h => h) ?_
                      refine VA.va (i := 5) (listed' := LB 11 63) rfl (op_move rfl (ltn rfl)) rfl (by kernel_rfl) (by kernel_rfl) (by kernel_rfl) (by kernel_rfl) ⟨trivial, trivial, ⟨⟨1, rfl⟩, trivial⟩⟩ (fun _ _ _ h => h) ?_
                      refine VA.va (i := 6) (listed' := LB 11 127) rfl (op_indexAddr Try.underlying40 TI24 rfl rfl c167650 (lt_get c167650 hx167651) (add_zero_at _ _) (ltn rfl)) rfl (by kernel_rfl) (by kernel_rfl) (by kernel_rfl) (by kernel_rfl) ⟨trivial, trivial, ⟨⟨1, rfl⟩, trivial⟩⟩ (fun _ _ _ h => h) ?_
                      refine VA.va (i := 7) (listed' := LB 11 255) rfl (op_load_own (sz := 3) (o := 0) 0 i167119.toNat 3 rfl rfl (get_map hx167651) TI24 rfl (fun h => absurd h (by decide)) (ltn rfl)) rfl (by kernel_rfl) (by kernel_rfl) (by kernel_rfl) (by kernel_rfl) ⟨trivial, trivial, ⟨⟨1, rfl⟩, trivial⟩⟩ (fun _ _ _ h => h) ?_
                      refine VA.oneC (i := 8) (listed' := LB 11 511) (by kernel_rfl) rfl (o_call0 FO26 (queue_compare.ok k x167649.f0 x167649.f1 x167649.f2 x167651.f0 x167651.f1 x167651.f2 t167652 hA167653) rfl rfl (ltn rfl) (All_of .nil)) rfl (by kernel_rfl) ?_
                      rintro _ _ _ ⟨rfl, rfl, rfl⟩
                      refine ⟨⟨trivial, trivial, ⟨⟨1, rfl⟩, trivial⟩⟩, ?_⟩
                      refine VA.va (i := 9) (listed' := LB 11 1023) rfl (op_cmp rfl rfl (congrArg some hb167654) (ltn rfl)) rfl (by kernel_rfl) (by kernel_rfl) (by kernel_rfl) (by kernel_rfl) ⟨trivial, trivial, ⟨⟨1, rfl⟩, trivial⟩⟩ (fun _ _ _ h => h) ?_
                      refine VA.va (i := 10) (listed' := LB 11 2047) rfl (op_assign rfl (ltn rfl)) rfl (by kernel_rfl) (by kernel_rfl) (by kernel_rfl) (by kernel_rfl) ⟨trivial, trivial, ⟨⟨1, rfl⟩, trivial⟩⟩ (fun _ _ _ h => h) ?_
                      refine VA.done (by kernel_rfl) ?_
                      exact VN.meet0  [0] [0, 1] trivial ⟨rfl, ⟨rfl, trivial⟩, trivial, rfl, by decide, rfl, by decide⟩
                    intro _
                    refine VC.ret ?_
                    refine VR.inl (rs := [.tmp 6]) (.bool b167654) rfl (.tmp rfl .nil) rfl ?_
                    by_cases c167655 : t167652 < 0
                    · rw [if_pos c167655] at h
                      obtain rfl : b167654 = true := hb167654.symm.trans (decide_eq_true c167655)
                      refine VL.va (op_not rfl rfl (ltn rfl)) rfl ?_
                      refine VL.done ?_
                      refine VN.then ?_
                      refine VC.cond_f rfl ?_
                      refine VC.skip ?_
                      refine VN.then ?_
                      refine VC.seq ?_
                      refine VC.region ?_
                      refine VL.va (op_move rfl (ltn rfl)) rfl ?_
                      refine VL.va (op_move rfl (ltn rfl)) rfl ?_
                      refine VL.va (op_move rfl (ltn rfl)) rfl ?_
                      replace h := Option.bind_eq_some_iff.1 h
                      obtain ⟨r167656, hA167657, h⟩ := h
                      refine VL.step1 (ope_ownd (vals := [(.slice (some ⟨g167141, 0, none⟩) l167122.length n167142), .int .i64 i167119, .int .i64 (wrap64 ((wrap64 ((wrap64 (2 * i167119)) + 1)) + 1))]) 1 rfl (ope_meth_v 0 1 MI42_Swap Try.underlying42 FO56 rfl rfl TI40 rfl (by decide) rfl rfl) (queue_waits_Swap.ok l167122 i167119 (wrap64 ((wrap64 ((wrap64 (2 * i167119)) + 1)) + 1)) (.slice (some ⟨g167141, 0, none⟩) l167122.length n167142) r167656 hA167657) (by simp) (ltn rfl)) rfl ?_
                      refine VL.done ?_
                      refine VN.then ?_
                      refine VC.region ?_
                      refine VL.va (op_move rfl (ltn rfl)) rfl ?_
                      refine VL.va (op_assign rfl (ltn rfl)) rfl ?_
                      refine VL.done ?_
                      refine VN.block ?_
                      refine VN.again [0] [1, 0] (ihl80 (wrap64 ((wrap64 ((wrap64 (2 * i167119)) + 1)) + 1)) (.slice (some ⟨g167141, 0, none⟩) l167122.length n167142) r167656 h) ⟨rfl, ⟨rfl, rfl, rfl, rfl, rfl, trivial⟩, trivial, rfl, by decide, rfl, by decide⟩
                    · rw [if_neg c167655] at h
                      obtain rfl : b167654 = false := hb167654.symm.trans (decide_eq_false c167655)
                      refine VL.va (op_not rfl rfl (ltn rfl)) rfl ?_
                      refine VL.done ?_
                      refine VN.then ?_
                      refine VC.cond_t rfl ?_
                      refine VC.exit ?_
                      refine VX.then ?_
                      refine VX.miss (by decide) ?_
                      refine VX.then ?_
                      refine VX.hit ?_
                      refine VN.then ?_
                      refine VC.seq ?_
                      refine VC.region ?_
                      refine VL.va (op_move rfl (ltn rfl)) rfl ?_
                      refine VL.va (op_move rfl (ltn rfl)) rfl ?_
                      refine VL.letter (decide (i167119 > 0)) fun b167659 hb167659 => ?_
                      refine VL.va (op_cmp rfl rfl (congrArg some hb167659) (ltn rfl)) rfl ?_
                      refine VL.va (op_assign rfl (ltn rfl)) rfl ?_
                      refine VL.done ?_
                      refine VN.then ?_
                      refine VC.ret ?_
                      refine VR.inl (rs := [.tmp 6]) (.bool b167659) rfl (.tmp rfl .nil) rfl ?_
                      refine VL.done ?_
                      refine VN.meet2 (.slice (some ⟨g167141, 0, none⟩) l167122.length n167142) l167122 [0] [1, 0] h ⟨rfl, ⟨rfl, rfl, trivial⟩, trivial, rfl, by decide, rfl, by decide⟩
                  · rw [if_neg c167650] at h; cases h
                · rw [if_neg c167626] at h
                  obtain rfl : b167625 = false := hb167625.symm.trans (decide_eq_false c167626)
                  refine VC.cond_f rfl ?_
                  refine VC.skip ?_
                  refine VN.then ?_
                  refine VC.seq ?_
                  refine VC.seq ?_
                  refine VC.region ?_
                  refine VL.va (op_move rfl (ltn rfl)) rfl ?_
                  refine VL.va (op_move rfl (ltn rfl)) rfl ?_
                  refine VL.va (op_move rfl (ltn rfl)) rfl ?_
                  refine VL.inle (vals := [(.slice (some ⟨g167141, 0, none⟩) l167122.length n167142), .int .i64 (wrap64 ((wrap64 (2 * i167119)) + 1)), .int .i64 i167119]) Try.func55 rfl (ope_meth_v 0 1 MI42_Less Try.underlying42 FO55 rfl rfl TI40 rfl (by decide) rfl rfl) (len rfl) (by rintro d ⟨⟩; exact ltn rfl) rfl ?_
                  refine VC.seq ?_
                  refine VC.region ?_
                  refine VL.va (op_assign rfl (ltn rfl)) rfl ?_
                  refine VL.done ?_
                  refine VN.then ?_
                  replace h := Option.bind_eq_some_iff.1 h
                  obtain ⟨x167682, hx167682, h⟩ := h
                  by_cases c167683 : 0 ≤ i167119
                  · rw [if_pos c167683] at h
                    replace h := Option.bind_eq_some_iff.1 h
                    obtain ⟨x167684, hx167684, h⟩ := h
                    replace h := Option.bind_eq_some_iff.1 h
                    obtain ⟨t167685, hA167686, h⟩ := h
                    refine VC.letter (decide (t167685 < 0)) fun b167687 hb167687 => ?_
                    refine VC.join0 (⟨17, [(6, .bool b167687)], [], [(g66789, 40, [(.slice (some ⟨g167141, 0, none⟩) l167122.length n167142)])], [(v139995, 24, 3, l139996.map enc23), ((.slice (some ⟨g167141, 0, none⟩) l167122.length n167142), 24, 3, l167122.map enc23)]⟩) (True) ?_ ?_
                    · refine VC.draw ⟨0, [], [], [], [((.slice (some ⟨g167141, 0, none⟩) l167122.length n167142), 24, 3, l167122.map enc23)]⟩ (by kernel_rfl) rfl (by kernel_rfl) (n := 11) (listed := LB 11 0) ?_
                      refine VA.va (i := 0) (listed' := LB 11 1) rfl (op_move rfl (ltn rfl)) rfl (by kernel_rfl) (by kernel_rfl) (by kernel_rfl) (by kernel_rfl) ⟨trivial, trivial, ⟨⟨1, rfl⟩, trivial⟩⟩ (fun _ _ _ h => h) ?_
                      refine VA.va (i := 1) (listed' := LB 11 3) rfl (op_move rfl (ltn rfl)) rfl (by kernel_rfl) (by kernel_rfl) (by kernel_rfl) (by kernel_rfl) ⟨trivial, trivial, ⟨⟨1, rfl⟩, trivial⟩⟩ (fun _ _ _ h => h) ?_
                      refine VA.va (i := 2) (listed' := LB 11 7) rfl (op_indexAddr Try.underlying40 TI24 rfl rfl c167621 (lt_get c167621 hx167682) (add_zero_at _ _) (ltn rfl)) rfl (by kernel_rfl) (by kernel_rfl) (by kernel_rfl) (by kernel_rfl) ⟨trivial, trivial, ⟨⟨1, rfl⟩, trivial⟩⟩ (fun _ _ _ h => h) ?_
                      refine VA.va (i := 3) (listed' := LB 11 15) rfl (op_load_own (sz := 3) (o := 0) 0 (wrap64 ((wrap64 (2 * i167119)) + 1)).toNat 3 rfl rfl (get_map hx167682) TI24 rfl (fun h => absurd h (by decide)) (ltn rfl)) rfl (by kernel_rfl) (by kernel_rfl) (by kernel_rfl) (by kernel_rfl) ⟨trivial, trivial, ⟨⟨1, rfl⟩, trivial⟩⟩ (fun _ _ _ h => h) ?_
                      refine VA.va (i := 4) (listed' := LB 11 31) rfl (op_move rfl (ltn rfl)) rfl (by kernel_rfl) (by kernel_rfl) (by kernel_rfl) (by kernel_rfl) ⟨trivial, trivial, ⟨⟨1, rfl⟩, trivial⟩⟩ (fun _ _ _ h => h) ?_
                      refine VA.va (i := 5) (listed' := LB 11 63) rfl (op_move rfl (ltn rfl)) rfl (by kernel_rfl) (by kernel_rfl) (by kernel_rfl) (by kernel_rfl) ⟨trivial, trivial, ⟨⟨1, rfl⟩, trivial⟩⟩ (fun _ _ _ h => h) ?_
                      refine VA.va (i := 6) (listed' := LB 11 127) rfl (op_indexAddr Try.underlying40 TI24 rfl rfl c167683 (lt_get c167683 hx167684) (add_zero_at _ _) (ltn rfl)) rfl (by kernel_rfl) (by kernel_rfl) (by kernel_rfl) (by kernel_rfl) ⟨trivial, trivial, ⟨⟨1, rfl⟩, trivial⟩⟩ (fun _ _ _ h => h) ?_
                      refine VA.va (i := 7) (listed' := LB 11 255) rfl (op_load_own (sz := 3) (o := 0) 0 i167119.toNat 3 rfl rfl (get_map hx167684) TI24 rfl (fun h => absurd h (by decide)) (ltn rfl)) rfl (by kernel_rfl) (by kernel_rfl) (by kernel_rfl) (by kernel_rfl) ⟨trivial, trivial, ⟨⟨1, rfl⟩, trivial⟩⟩ (fun _ _ _ h => h) ?_
                      refine VA.oneC (i := 8) (listed' := LB 11 511) (by kernel_rfl) rfl (o_call0 FO26 (queue_compare.ok k x167682.f0 x167682.f1 x167682.f2 x167684.f0 x167684.f1 x167684.f2 t167685 hA167686) rfl rfl (ltn rfl) (All_of .nil)) rfl (by kernel_rfl) ?_
                      rintro _ _ _ ⟨rfl, rfl, rfl⟩
                      refine ⟨⟨trivial, trivial, ⟨⟨1, rfl⟩, trivial⟩⟩, ?_⟩
                      refine VA.va (i := 9) (listed' := LB 11 1023) rfl (op_cmp rfl rfl (congrArg some hb167687) (ltn rfl)) rfl (by kernel_rfl) (by kernel_rfl) (by kernel_rfl) (by kernel_rfl) ⟨trivial, trivial, ⟨⟨1, rfl⟩, trivial⟩⟩ (fun _ _ _ h => h) ?_
                      refine VA.va (i := 10) (listed' := LB 11 2047) rfl (op_assign rfl (ltn rfl)) rfl (by kernel_rfl) (by kernel_rfl) (by kernel_rfl) (by kernel_rfl) ⟨trivial, trivial, ⟨⟨1, rfl⟩, trivial⟩⟩ (fun _ _ _ h => h) ?_
                      refine VA.done (by kernel_rfl) ?_
                      exact VN.meet0  [0] [0, 1] trivial ⟨rfl, ⟨rfl, trivial⟩, trivial, rfl, by decide, rfl, by decide⟩
                    intro _
                    refine VC.ret ?_
                    refine VR.inl (rs := [.tmp 6]) (.bool b167687) rfl (.tmp rfl .nil) rfl ?_
                    by_cases c167688 : t167685 < 0
                    · rw [if_pos c167688] at h
                      obtain rfl : b167687 = true := hb167687.symm.trans (decide_eq_true c167688)
                      refine VL.va (op_not rfl rfl (ltn rfl)) rfl ?_
                      refine VL.done ?_
                      refine VN.then ?_
                      refine VC.cond_f rfl ?_
                      refine VC.skip ?_
                      refine VN.then ?_
                      refine VC.seq ?_
                      refine VC.region ?_
                      refine VL.va (op_move rfl (ltn rfl)) rfl ?_
                      refine VL.va (op_move rfl (ltn rfl)) rfl ?_
                      refine VL.va (op_move rfl (ltn rfl)) rfl ?_
                      replace h := Option.bind_eq_some_iff.1 h
                      obtain ⟨r167689, hA167690, h⟩ := h
                      refine VL.step1 (ope_ownd (vals := [(.slice (some ⟨g167141, 0, none⟩) l167122.length n167142), .int .i64 i167119, .int .i64 (wrap64 ((wrap64 (2 * i167119)) + 1))]) 1 rfl (ope_meth_v 0 1 MI42_Swap Try.underlying42 FO56 rfl rfl TI40 rfl (by decide) rfl rfl) (queue_waits_Swap.ok l167122 i167119 (wrap64 ((wrap64 (2 * i167119)) + 1)) (.slice (some ⟨g167141, 0, none⟩) l167122.length n167142) r167689 hA167690) (by simp) (ltn rfl)) rfl ?_
                      refine VL.done ?_
                      refine VN.then ?_
                      refine VC.region ?_
                      refine VL.va (op_move rfl (ltn rfl)) rfl ?_
                      refine VL.va (op_assign rfl (ltn rfl)) rfl ?_
                      refine VL.done ?_
                      refine VN.block ?_
                      refine VN.again [0] [1, 0] (ihl80 (wrap64 ((wrap64 (2 * i167119)) + 1)) (.slice (some ⟨g167141, 0, none⟩) l167122.length n167142) r167689 h) ⟨rfl, ⟨rfl, rfl, rfl, rfl, rfl, trivial⟩, trivial, rfl, by decide, rfl, by decide⟩
                    · rw [if_neg c167688] at h
                      obtain rfl : b167687 = false := hb167687.symm.trans (decide_eq_false c167688)
                      refine VL.va (op_not rfl rfl (ltn rfl)) rfl ?_
                      refine VL.done ?_
                      refine VN.then ?_
                      refine VC.cond_t rfl ?_
                      refine VC.exit ?_
                      refine VX.then ?_
                      refine VX.miss (by decide) ?_
                      refine VX.then ?_
                      refine VX.hit ?_
                      refine VN.then ?_
                      refine VC.seq ?_
                      refine VC.region ?_
                      refine VL.va (op_move rfl (ltn rfl)) rfl ?_
                      refine VL.va (op_move rfl (ltn rfl)) rfl ?_
                      refine VL.letter (decide (i167119 > 0)) fun b167692 hb167692 => ?_
                      refine VL.va (op_cmp rfl rfl (congrArg some hb167692) (ltn rfl)) rfl ?_
                      refine VL.va (op_assign rfl (ltn rfl)) rfl ?_
                      refine VL.done ?_
                      refine VN.then ?_
                      refine VC.ret ?_
                      refine VR.inl (rs := [.tmp 6]) (.bool b167692) rfl (.tmp rfl .nil) rfl ?_
                      refine VL.done ?_
                      refine VN.meet2 (.slice (some ⟨g167141, 0, none⟩) l167122.length n167142) l167122 [0] [1, 0] h ⟨rfl, ⟨rfl, rfl, trivial⟩, trivial, rfl, by decide, rfl, by decide⟩
                  · rw [if_neg c167683] at h; cases h
              · rw [if_neg c167621] at h; cases h
            · rw [if_neg c167619] at h; cases h
          · rw [if_neg c167618] at h
            obtain rfl : b167617 = false := hb167617.symm.trans (decide_eq_false c167618)
            refine VL.un rfl rfl (ltn rfl) ?_
            refine VL.un rfl rfl (ltn rfl) ?_
            refine VL.un rfl rfl (ltn rfl) ?_
            refine VL.un rfl rfl (ltn rfl) ?_
            refine VL.va (op_pick rfl rfl (ltn rfl)) rfl ?_
            refine VL.done ?_
            refine VN.then ?_
            refine VC.cond_f rfl ?_
            refine VC.skip ?_
            refine VN.then ?_
            refine VC.seq ?_
            refine VC.seq ?_
            refine VC.region ?_
            refine VL.va (op_move rfl (ltn rfl)) rfl ?_
            refine VL.va (op_move rfl (ltn rfl)) rfl ?_
            refine VL.va (op_move rfl (ltn rfl)) rfl ?_
            refine VL.inle (vals := [v167121, .int .i64 (wrap64 ((wrap64 (2 * i167119)) + 1)), .int .i64 i167119]) Try.func55 rfl (ope_meth_v 0 1 MI42_Less Try.underlying42 FO55 rfl rfl TI40 rfl (by decide) rfl rfl) (len rfl) (by rintro d ⟨⟩; exact ltn rfl) rfl ?_
            refine VC.seq ?_
            refine VC.region ?_
            refine VL.va (op_assign rfl (ltn rfl)) rfl ?_
            refine VL.done ?_
            refine VN.then ?_
            by_cases c167718 : 0 ≤ wrap64 ((wrap64 (2 * i167119)) + 1)
            · rw [if_pos c167718] at h
              replace h := Option.bind_eq_some_iff.1 h
              obtain ⟨x167719, hx167719, h⟩ := h
              by_cases c167720 : 0 ≤ i167119
              · rw [if_pos c167720] at h
                replace h := Option.bind_eq_some_iff.1 h
                obtain ⟨x167721, hx167721, h⟩ := h
                replace h := Option.bind_eq_some_iff.1 h
                obtain ⟨t167722, hA167723, h⟩ := h
                refine VC.letter (decide (t167722 < 0)) fun b167724 hb167724 => ?_
                refine VC.openR (m := l167122.length) 1 lenm rfl (pos_get hx167719) ?_
                rintro g167141 n167142 rfl
                refine VC.join0 (⟨17, [(6, .bool b167724)], [], [(g66789, 40, [(.slice (some ⟨g167141, 0, none⟩) l167122.length n167142)])], [(v139995, 24, 3, l139996.map enc23), ((.slice (some ⟨g167141, 0, none⟩) l167122.length n167142), 24, 3, l167122.map enc23)]⟩) (True) ?_ ?_
                · refine VC.draw ⟨0, [], [], [], [((.slice (some ⟨g167141, 0, none⟩) l167122.length n167142), 24, 3, l167122.map enc23)]⟩ (by kernel_rfl) rfl (by kernel_rfl) (n := 11) (listed := LB 11 0) ?_
                  refine VA.va (i := 0) (listed' := LB 11 1) rfl (op_move rfl (ltn rfl)) rfl (by kernel_rfl) (by kernel_rfl) (by kernel_rfl) (by kernel_rfl) ⟨trivial, trivial, ⟨⟨1, rfl⟩, trivial⟩⟩ (fun _ _ _ h => h) ?_
                  refine VA.va (i := 1) (listed' := LB 11 3) rfl (op_move rfl (ltn rfl)) rfl (by kernel_rfl) (by kernel_rfl) (by kernel_rfl) (by kernel_rfl) ⟨trivial, trivial, ⟨⟨1, rfl⟩, trivial⟩⟩ (fun _ _ _ h => h) ?_
                  refine VA.va (i := 2) (listed' := LB 11 7) rfl (op_indexAddr Try.underlying40 TI24 rfl rfl c167718 (lt_get c167718 hx167719) (add_zero_at _ _) (ltn rfl)) rfl (by kernel_rfl) (by kernel_rfl) (by kernel_rfl) (by kernel_rfl) ⟨trivial, trivial, ⟨⟨1, rfl⟩, trivial⟩⟩ (fun _ _ _ h => h) ?_
                  refine VA.va (i := 3) (listed' := LB 11 15) rfl (op_load_own (sz := 3) (o := 0) 0 (wrap64 ((wrap64 (2 * i167119)) + 1)).toNat 3 rfl rfl (get_map hx167719) TI24 rfl (fun h => absurd h (by decide)) (ltn rfl)) rfl (by kernel_rfl) (by kernel_rfl) (by kernel_rfl) (by kernel_rfl) ⟨trivial, trivial, ⟨⟨1, rfl⟩, trivial⟩⟩ (fun _ _ _ h => h) ?_
                  refine VA.va (i := 4) (listed' := LB 11 31) rfl (op_move rfl (ltn rfl)) rfl (by kernel_rfl) (by kernel_rfl) (by kernel_rfl) (by kernel_rfl) ⟨trivial, trivial, ⟨⟨1, rfl⟩, trivial⟩⟩ (fun _ _ _ h => h) ?_
                  refine VA.va (i := 5) (listed' := LB 11 63) rfl (op_move rfl (ltn rfl)) rfl (by kernel_rfl) (by kernel_rfl) (by kernel_rfl) (by kernel_rfl) ⟨trivial, trivial, ⟨⟨1, rfl⟩, trivial⟩⟩ (fun _ _ _ h => h) ?_
                  refine VA.va (i := 6) (listed' := LB 11 127) rfl (op_indexAddr Try.underlying40 TI24 rfl rfl c167720 (lt_get c167720 hx167721) (add_zero_at _ _) (ltn rfl)) rfl (by kernel_rfl) (by kernel_rfl) (by kernel_rfl) (by kernel_rfl) ⟨trivial, trivial, ⟨⟨1, rfl⟩, trivial⟩⟩ (fun _ _ _ h => h) ?_
                  refine VA.va (i := 7) (listed' := LB 11 255) rfl (op_load_own (sz := 3) (o := 0) 0 i167119.toNat 3 rfl rfl (get_map hx167721) TI24 rfl (fun h => absurd h (by decide)) (ltn rfl)) rfl (by kernel_rfl) (by kernel_rfl) (by kernel_rfl) (by kernel_rfl) ⟨trivial, trivial, ⟨⟨1, rfl⟩, trivial⟩⟩ (fun _ _ _ h => h) ?_
                  refine VA.oneC (i := 8) (listed' := LB 11 511) (by kernel_rfl) rfl (o_call0 FO26 (queue_compare.ok k x167719.f0 x167719.f1 x167719.f2 x167721.f0 x167721.f1 x167721.f2 t167722 hA167723) rfl rfl (ltn rfl) (All_of .nil)) rfl (by kernel_rfl) ?_
                  rintro _ _ _ ⟨rfl, rfl, rfl⟩
                  refine ⟨⟨trivial, trivial, ⟨⟨1, rfl⟩, trivial⟩⟩, ?_⟩
                  refine VA.va (i := 9) (listed' := LB 11 1023) rfl (op_cmp rfl rfl (congrArg some hb167724) (ltn rfl)) rfl (by kernel_rfl) (by kernel_rfl) (by kernel_rfl) (by kernel_rfl) ⟨trivial, trivial, ⟨⟨1, rfl⟩, trivial⟩⟩ (fun _ _ _ h => h) ?_
                  refine VA.va (i := 10) (listed' := LB 11 2047) rfl (op_assign rfl (ltn rfl)) rfl (by kernel_rfl) (by kernel_rfl) (by kernel_rfl) (by kernel_rfl) ⟨trivial, trivial, ⟨⟨1, rfl⟩, trivial⟩⟩ (fun _ _ _ h => h) ?_
                  refine VA.done (by kernel_rfl) ?_
                  exact VN.meet0  [0] [0, 1] trivial ⟨rfl, ⟨rfl, trivial⟩, trivial, rfl, by decide, rfl, by decide⟩
                intro _
                refine VC.ret ?_
                refine VR.inl (rs := [.tmp 6]) (.bool b167724) rfl (.tmp rfl .nil) rfl ?_
                by_cases c167725 : t167722 < 0
                · rw [if_pos c167725] at h
                  obtain rfl : b167724 = true := hb167724.symm.trans (decide_eq_true c167725)
                  refine VL.va (op_not rfl rfl (ltn rfl)) rfl ?_
                  refine VL.done ?_
                  refine VN.then ?_
                  refine VC.cond_f rfl ?_
                  refine VC.skip ?_
                  refine VN.then ?_
                  refine VC.seq ?_
                  refine VC.region ?_
                  refine VL.va (op_move rfl (ltn rfl)) rfl ?_
                  refine VL.va (op_move rfl (ltn rfl)) rfl ?_
                  refine VL.va (op_move rfl (ltn rfl)) rfl ?_
                  replace h := Option.bind_eq_some_iff.1 h
                  obtain ⟨r167726, hA167727, h⟩ := h
                  refine VL.step1 (ope_ownd (vals := [(.slice (some ⟨g167141, 0, none⟩) l167122.length n167142), .int .i64 i167119, .int .i64 (wrap64 ((wrap64 (2 * i167119)) + 1))]) 1 rfl (ope_meth_v 0 1 MI42_Swap Try.underlying42 FO56 rfl rfl TI40 rfl (by decide) rfl rfl) (queue_waits_Swap.ok l167122 i167119 (wrap64 ((wrap64 (2 * i167119)) + 1)) (.slice (some ⟨g167141, 0, none⟩) l167122.length n167142) r167726 hA167727) (by simp) (ltn rfl)) rfl ?_
                  refine VL.done ?_
                  refine VN.then ?_
                  refine VC.region ?_
                  refine VL.va (op_move rfl (ltn rfl)) rfl ?_
                  refine VL.va (op_assign rfl (ltn rfl)) rfl ?_
                  refine VL.done ?_
                  refine VN.block ?_
                  refine VN.again [0] [1, 0] (ihl80 (wrap64 ((wrap64 (2 * i167119)) + 1)) (.slice (some ⟨g167141, 0, none⟩) l167122.length n167142) r167726 h) ⟨rfl, ⟨rfl, rfl, rfl, rfl, rfl, trivial⟩, trivial, rfl, by decide, rfl, by decide⟩
                · rw [if_neg c167725] at h
                  obtain rfl : b167724 = false := hb167724.symm.trans (decide_eq_false c167725)
                  refine VL.va (op_not rfl rfl (ltn rfl)) rfl ?_
                  refine VL.done ?_
                  refine VN.then ?_
                  refine VC.cond_t rfl ?_
                  refine VC.exit ?_
                  refine VX.then ?_
                  refine VX.miss (by decide) ?_
                  refine VX.then ?_
                  refine VX.hit ?_
                  refine VN.then ?_
                  refine VC.seq ?_
                  refine VC.region ?_
                  refine VL.va (op_move rfl (ltn rfl)) rfl ?_
                  refine VL.va (op_move rfl (ltn rfl)) rfl ?_
                  refine VL.letter (decide (i167119 > 0)) fun b167729 hb167729 => ?_
                  refine VL.va (op_cmp rfl rfl (congrArg some hb167729) (ltn rfl)) rfl ?_
                  refine VL.va (op_assign rfl (ltn rfl)) rfl ?_
                  refine VL.done ?_
                  refine VN.then ?_
                  refine VC.ret ?_
                  refine VR.inl (rs := [.tmp 6]) (.bool b167729) rfl (.tmp rfl .nil) rfl ?_
                  refine VL.done ?_
                  refine VN.meet2 (.slice (some ⟨g167141, 0, none⟩) l167122.length n167142) l167122 [0] [1, 0] h ⟨rfl, ⟨rfl, rfl, trivial⟩, trivial, rfl, by decide, rfl, by decide⟩
              · rw [if_neg c167720] at h; cases h
            · rw [if_neg c167718] at h; cases h
      clear h
      intro v167731 l167732 h
      unfold queue_Sorted.j77 at h
      refine VC.seq ?_
      refine VC.region ?_
      refine VL.va (op_move rfl (ltn rfl)) rfl ?_
      refine VL.inle (vals := [.pointer (some ⟨g66789, 0, none⟩)]) Try.func57 rfl (ope_meth_p MI42_Pop Try.underlying42 FO57 rfl rfl) (len rfl) (by rintro d ⟨⟩; exact ltn rfl) rfl ?_
      refine VC.seq ?_
      refine VC.region ?_
      refine VL.va (op_assign rfl (ltn rfl)) rfl ?_
      refine VL.done ?_
      refine VN.then ?_
      refine VC.seq ?_
      refine VC.region ?_
      refine VL.va (op_move rfl (ltn rfl)) rfl ?_
      refine VL.va (op_nilCheck rfl (ltn rfl)) rfl ?_
      refine VL.va (op_load 0 1 rfl rfl TI40 rfl (by decide) (ltn rfl)) rfl ?_
      refine VL.va (op_len_own (m := l167732.length) 0 lenm Try.underlying40 rfl rfl (ltn rfl)) rfl ?_
      refine VL.va (op_ari64 rfl rfl rfl (ltn rfl)) rfl ?_
      refine VL.va (op_assign rfl (ltn rfl)) rfl ?_
      refine VL.done ?_
      refine VN.then ?_
      refine VC.seq ?_
      refine VC.region ?_
      refine VL.va (op_move rfl (ltn rfl)) rfl ?_
      refine VL.va (op_nilCheck rfl (ltn rfl)) rfl ?_
      refine VL.va (op_load 0 1 rfl rfl TI40 rfl (by decide) (ltn rfl)) rfl ?_
      refine VL.va (op_move rfl (ltn rfl)) rfl ?_
      by_cases c167741 : 0 ≤ wrap64 ((l167732.length : Int) - 1)
      · rw [if_pos c167741] at h
        replace h := Option.bind_eq_some_iff.1 h
        obtain ⟨x167742, hx167742, h⟩ := h
        refine VL.openR (m := l167732.length) 0 lenm rfl (pos_get hx167742) ?_
        rintro g167743 n167744 rfl
        refine VL.va (op_indexAddr Try.underlying40 TI24 rfl rfl c167741 (lt_get c167741 hx167742) (add_zero_at _ _) (ltn rfl)) rfl ?_
        refine VL.va (op_load_own (sz := 3) (o := 0) 0 (wrap64 ((l167732.length : Int) - 1)).toNat 3 rfl rfl (get_map hx167742) TI24 rfl (fun h => absurd h (by decide)) (ltn rfl)) rfl ?_
        refine VL.sG (o_alloc Z24 ZL24 (ltn rfl)) rfl ?_
        intro g167745
        refine VL.step1 (o_store 0 3 rfl rfl rfl TI24 (.agg (.of rfl)) rfl (len rfl)) rfl ?_
        refine VL.done ?_
        refine VN.then ?_
        refine VC.seq ?_
        refine VC.region ?_
        refine VL.va (op_move rfl (ltn rfl)) rfl ?_
        refine VL.va (op_move rfl (ltn rfl)) rfl ?_
        refine VL.va (op_nilCheck rfl (ltn rfl)) rfl ?_
        refine VL.va (op_load 1 1 rfl rfl TI40 rfl (by decide) (ltn rfl)) rfl ?_
        refine VL.va (op_move rfl (ltn rfl)) rfl ?_
        by_cases c167746 : (wrap64 ((l167732.length : Int) - 1)) ≤ (l167732.length : Int)
        · rw [if_pos c167746] at h
          refine VL.sG (o_cutOwn (m := l167732.length) (h := ((wrap64 ((l167732.length : Int) - 1)).toNat)) (es3 := List.map enc23 (l167732.take ((wrap64 ((l167732.length : Int) - 1)).toNat))) 0 lenm (List.map_take.symm) Try.underlying40 TI24 rfl rfl ⟨rfl, ⟨_, _, rfl, c167741, rfl⟩, by omega, by omega⟩ (ltn rfl)) rfl ?_
          intro v167748
          refine VL.va (op_nilCheck rfl (ltn rfl)) rfl ?_
          refine VL.step1 (o_store 1 1 rfl rfl rfl TI40 (.r 0 rfl) rfl (len rfl)) rfl ?_
          refine VL.done ?_
          refine VN.then ?_
          refine VC.seq ?_
          refine VC.region ?_
          refine VL.va (op_load 0 3 rfl rfl TI24 rfl (fun h => absurd h (by decide)) (ltn rfl)) rfl ?_
          refine VL.va (op_makeIface Try.underlying24 (fun _ h => by cases h) rfl (ltn rfl)) rfl ?_
          refine VL.va (op_assign rfl (ltn rfl)) rfl ?_
          refine VL.done ?_
          refine VN.then ?_
          refine VC.ret ?_
          refine VR.inl (rs := [.tmp 2]) (.iface 24 (.agg #[.int .i64 x167742.f0, .int .i64 x167742.f1, .int .i64 x167742.f2])) rfl (.tmp rfl .nil) rfl ?_
          refine VL.va (op_assign rfl (ltn rfl)) rfl ?_
          refine VL.done ?_
          refine VN.then ?_
          refine VC.ret ?_
          refine VR.inl (rs := [.tmp 2]) (.iface 24 (.agg #[.int .i64 x167742.f0, .int .i64 x167742.f1, .int .i64 x167742.f2])) rfl (.tmp rfl .nil) rfl ?_
          refine VL.va (op_assertOk Try.underlying24 (fun _ h => by cases h) rfl (ltn rfl)) rfl ?_
          refine VL.va (op_move rfl (ltn rfl)) rfl ?_
          refine VL.va (op_extract rfl rfl (ltn rfl)) rfl ?_
          refine VL.va (op_extract rfl rfl (ltn rfl)) rfl ?_
          refine VL.sG (o_alloc Z24 ZL24 (ltn rfl)) rfl ?_
          intro g167749
          refine VL.step1 (o_store 0 3 rfl rfl rfl TI24 (.agg (.of rfl)) rfl (len rfl)) rfl ?_
          refine VL.va (op_assign rfl (ltn rfl)) rfl ?_
          refine VL.done ?_
          refine VN.then ?_
          refine VC.region ?_
          refine VL.va (op_move rfl (ltn rfl)) rfl ?_
          refine VL.va (op_load 0 3 rfl rfl TI24 rfl (fun h => absurd h (by decide)) (ltn rfl)) rfl ?_
          refine VL.sG (o_buildSlice (vals := [(0, .agg #[.int .i64 x167742.f0, .int .i64 x167742.f1, .int .i64 x167742.f2])]) (cells := #[.int .i64 x167742.f0, .int .i64 x167742.f1, .int .i64 x167742.f2]) (es := List.map enc23 ([x167742] : List S23)) Try.underlying22 TI24 Z24 rfl (by decide) (by decide) (by kernel_rfl) (by kernel_rfl) rfl (flat_map enc23_ok _) (ltn rfl)) rfl ?_
          intro v167751
          by_cases c167752 : (l139996.length + ([x167742] : List S23).length) * 24 ≤ 140737488355328
          · rw [if_pos c167752] at h
            refine VL.sG (o_append 2 appm Try.underlying22 EI24 rfl rfl rfl (.inr ⟨0, _, rfl⟩) (bndm c167752) (ltn rfl)) rfl ?_
            intro v167753
            refine VL.va (op_assign rfl (ltn rfl)) rfl ?_
            refine VL.done ?_
            refine VN.block ?_
            refine VN.again [2] [2, 1] (ihl41 v167753 (l139996 ++ ([x167742] : List S23)) v167748 (l167732.take ((wrap64 ((l167732.length : Int) - 1)).toNat)) h) ⟨rfl, ⟨rfl, rfl, rfl, rfl, trivial⟩, trivial, rfl, by decide, rfl, by decide⟩
          · rw [if_neg c167752] at h; cases h
        · rw [if_neg c167746] at h; cases h
      · rw [if_neg c167741] at h; cases h
    · rw [if_neg c153883] at h
      obtain rfl : b153882 = false := hb153882.symm.trans (decide_eq_false c153883)
      refine VC.cond_f rfl ?_
      refine VC.exit ?_
      refine VX.then ?_
      refine VX.then ?_
      refine VX.hit ?_
      refine VN.then ?_
      refine VC.seq ?_
      refine VC.region ?_
      refine VL.va (op_move rfl (ltn rfl)) rfl ?_
      refine VL.va (op_assign rfl (ltn rfl)) rfl ?_
      refine VL.va (op_assign rfl (ltn rfl)) rfl ?_
      refine VL.done ?_
      refine VN.then ?_
      refine VC.ret ?_
      simp only [Option.some.injEq, Prod.mk.injEq] at h
      obtain ⟨rfl, rfl⟩ := h
      exact VR.fn (rs := [.tmp 2, .tmp 3]) [] [(v139995, 24, 3, l139996.map enc23)] [0] rfl (.tmp rfl (.tmp rfl .nil)) ⟨v139995, rfl, rfl, rfl⟩ trivial rfl (by decide)
  · rw [if_neg c66788] at h
    obtain rfl : b66787 = true := hb66787.symm.trans (bne_iff_ne.2 c66788)
    refine VC.cond_t rfl ?_
    refine VC.seq ?_
    refine VC.region ?_
    refine VL.va (op_move rfl (ltn rfl)) rfl ?_
    refine VL.va (op_assign rfl (ltn rfl)) rfl ?_
    refine VL.va (op_assign rfl (ltn rfl)) rfl ?_
    refine VL.done ?_
    refine VN.then ?_
    refine VC.ret ?_
    refine VR.then ?_
    simp only [Option.some.injEq, Prod.mk.injEq] at h
    obtain ⟨rfl, rfl⟩ := h
    refine VR.nilRow' 24 3 ?_
    exact VR.fn (rs := [.tmp 2, .tmp 3]) [] [((.slice none 0 0), 24, 3, ([] : List S23).map enc23)] [0] rfl (.tmp rfl (.tmp rfl .nil)) ⟨(.slice none 0 0), rfl, rfl, rfl⟩ trivial rfl (by decide)
set_option maxHeartbeats 4000000 in
set_option maxRecDepth 100000 in
theorem queue_Less.ok (k : Nat) (a0_0 : Int) (a0_1 : Int) (a0_2 : Int) (a1_0 : Int) (a1_1 : Int) (a1_2 : Int)  (r1 : Bool) (h : queue_Less.f k a0_0 a0_1 a0_2 a1_0 a1_1 a1_2 = some r1) :
    VCalls Try.prog 10 [.agg #[.int .i64 a0_0, .int .i64 a0_1, .int .i64 a0_2], .agg #[.int .i64 a1_0, .int .i64 a1_1, .int .i64 a1_2]] [] (fun v G own => v = .bool r1 ∧ G = [] ∧ own = []) := by
  refine VCalls.intro Try.func10 rfl (len rfl) fun E hC => ?_
  unfold queue_Less.f at h
  refine VC.seq ?_
  refine VC.region ?_
  refine VL.sG (o_box rfl (.agg (.of rfl)) (ltn rfl)) rfl ?_
  intro g167761
  refine VL.sG (o_box rfl (.agg (.of rfl)) (ltn rfl)) rfl ?_
  intro g167762
  refine VL.va (op_assign rfl (ltn rfl)) rfl ?_
  refine VL.done ?_
  refine VN.then ?_
  refine VC.seq ?_
  refine VC.region ?_
  refine VL.va (op_load 1 3 rfl rfl TI24 rfl (fun h => absurd h (by decide)) (ltn rfl)) rfl ?_
  refine VL.va (op_load 0 3 rfl rfl TI24 rfl (fun h => absurd h (by decide)) (ltn rfl)) rfl ?_
  replace h := Option.bind_eq_some_iff.1 h
  obtain ⟨t167763, hA167764, h⟩ := h
  refine VL.sC (o_call0 FO26 (queue_compare.ok k a0_0 a0_1 a0_2 a1_0 a1_1 a1_2 t167763 hA167764) rfl rfl (ltn rfl) (All_of .nil)) rfl ?_
  rintro _ _ _ ⟨rfl, rfl, rfl⟩
  refine VL.letter (decide (t167763 < 0)) fun b167765 hb167765 => ?_
  refine VL.va (op_cmp rfl rfl (congrArg some hb167765) (ltn rfl)) rfl ?_
  refine VL.va (op_assign rfl (ltn rfl)) rfl ?_
  refine VL.done ?_
  refine VN.then ?_
  refine VC.ret ?_
  obtain rfl := Option.some.inj h
  subst hb167765
  exact VR.fn (rs := [.tmp 4]) [] [] [] rfl (.tmp rfl .nil) ⟨rfl, rfl, rfl⟩ trivial rfl (by decide)

end Go.Proofs.Ythgoagnennjagaa.PQueueHeaps
