/- Written by a program of this repo: what the program's functions do, each as a Lean function, shown of the loaded code; or a statement's row over that; no condition of its own. -/
import Derived.Test.YthgoagnennjagaaPQueueHeapsx7
namespace Go.Proofs.Ythgoagnennjagaa.PQueueHeaps
open Go Go.RowKit Go.Proofs.YthgoagnennjagaaV
set_option linter.unusedVariables false
set_option linter.unusedSimpArgs false

set_option maxHeartbeats 4000000 in
set_option maxRecDepth 100000 in
theorem tarrylaw06_QueueHeaps.ok (k : Nat) (l0 : List S23) (a1_0 : Int) (a1_1 : Int) (a1_2 : Int) (a2_0 : Int) (a2_1 : Int) (a2_2 : Int) (v0 : Value) (r1 : Bool) (h : tarrylaw06_QueueHeaps.f k l0 a1_0 a1_1 a1_2 a2_0 a2_1 a2_2 = some r1) :
    VCalls Try.prog 3 [v0, .agg #[.int .i64 a1_0, .int .i64 a1_1, .int .i64 a1_2], .agg #[.int .i64 a2_0, .int .i64 a2_1, .int .i64 a2_2]] [.row v0 3 (l0.map enc23)] (fun v G own => v = .bool r1 ∧ G = [] ∧ own = []) := by
  refine VCalls.intro Try.func3 rfl (len rfl) fun E hC => ?_
  unfold tarrylaw06_QueueHeaps.f at h
  refine VC.seq ?_
  refine VC.region ?_
  refine VL.sG (o_box rfl (.agg (.of rfl)) (ltn rfl)) rfl ?_
  intro g2
  refine VL.sG (o_box rfl (.agg (.of rfl)) (ltn rfl)) rfl ?_
  intro g3
  refine VL.va (op_assign rfl (ltn rfl)) rfl ?_
  refine VL.done ?_
  refine VN.then ?_
  refine VC.seq ?_
  refine VC.region ?_
  refine VL.va (op_move rfl (ltn rfl)) rfl ?_
  replace h := Option.bind_eq_some_iff.1 h
  obtain ⟨r14, hA15, h⟩ := h
  refine VL.sC (o_call0 FO7 (tarrylaw06_few.ok l0 v0 r14 hA15) rfl rfl (ltn rfl) (All_of (.cons (List.mem_of_getElem? (i := 0) rfl) .nil))) rfl ?_
  rintro v17 _ _ ⟨_, rfl, rfl, rfl⟩
  refine VL.va (op_assign rfl (ltn rfl)) rfl ?_
  refine VL.done ?_
  refine VN.then ?_
  refine VC.seq ?_
  refine VC.region ?_
  refine VL.va (op_move rfl (ltn rfl)) rfl ?_
  replace h := Option.bind_eq_some_iff.1 h
  obtain ⟨⟨r66773, t66774⟩, hA66775, h⟩ := h
  dsimp only at h
  refine VL.sC (o_call0 FO8 (queue_Make.ok k r14 v17 r66773 t66774 hA66775) rfl rfl (ltn rfl) (All_of (.cons (List.mem_of_getElem? (i := 0) rfl) .nil))) rfl ?_
  rintro _ _ _ ⟨v66777, rfl, rfl, rfl⟩
  refine VL.va (op_move rfl (ltn rfl)) rfl ?_
  refine VL.va (op_extract rfl rfl (ltn rfl)) rfl ?_
  refine VL.va (op_extract rfl rfl (ltn rfl)) rfl ?_
  refine VL.va (op_assign rfl (ltn rfl)) rfl ?_
  refine VL.va (op_assign rfl (ltn rfl)) rfl ?_
  refine VL.done ?_
  refine VN.then ?_
  refine VC.seq ?_
  refine VC.region ?_
  refine VL.va (op_move rfl (ltn rfl)) rfl ?_
  replace h := Option.bind_eq_some_iff.1 h
  obtain ⟨⟨r167756, t167757⟩, hA167758, h⟩ := h
  dsimp only at h
  refine VL.sC (o_call0 FO9 (queue_Sorted.ok k r14 v17 r167756 t167757 hA167758) rfl rfl (ltn rfl) (All_of (.cons (List.mem_of_getElem? (i := 0) rfl) .nil))) rfl ?_
  rintro _ _ _ ⟨v167760, rfl, rfl, rfl⟩
  refine VL.va (op_move rfl (ltn rfl)) rfl ?_
  refine VL.va (op_extract rfl rfl (ltn rfl)) rfl ?_
  refine VL.va (op_extract rfl rfl (ltn rfl)) rfl ?_
  refine VL.va (op_assign rfl (ltn rfl)) rfl ?_
  refine VL.va (op_assign rfl (ltn rfl)) rfl ?_
  refine VL.done ?_
  refine VN.then ?_
  refine VC.seq ?_
  replace h := Option.bind_eq_some_iff.1 h
  obtain ⟨t202776, hA202777, h⟩ := h
  replace h := Option.bind_eq_some_iff.1 h
  obtain ⟨t202778, hA202779, h⟩ := h
  refine VC.letter ((!(t202776 == t202778))) fun b202780 hb202780 => ?_
  by_cases c202781 : t202776 = t202778
  · rw [if_pos c202781] at h
    obtain rfl : b202780 = false := hb202780.symm.trans (by rw [c202781]; simp)
    replace h := Option.bind_eq_some_iff.1 h
    obtain ⟨t202782, hA202783, h⟩ := h
    replace h := Option.bind_eq_some_iff.1 h
    obtain ⟨t202784, hA202785, h⟩ := h
    refine VC.letter ((!(t202782 == t202784))) fun b202786 hb202786 => ?_
    by_cases c202787 : t202782 = t202784
    · rw [if_pos c202787] at h
      obtain rfl : b202786 = false := hb202786.symm.trans (by rw [c202787]; simp)
      replace h := Option.bind_eq_some_iff.1 h
      obtain ⟨t202788, hA202789, h⟩ := h
      by_cases c202790 : t202788 = true
      · rw [if_pos c202790] at h
        obtain rfl := c202790
        refine VC.join0 (⟨82, [(0, v17), (6, .bool false), (7, v66777), (8, .int .i64 t66774), (9, v167760), (10, .int .i64 t167757), (41, .bool false)], [.row v17 3 (r14.map enc23)], [], [(v167760, 24, 3, r167756.map enc23), (v66777, 24, 3, r66773.map enc23)]⟩) (True) ?_ ?_
        · refine VC.draw ⟨0, [], [.row v17 3 (r14.map enc23)], [(g3, 24, [.int .i64 a2_0, .int .i64 a2_1, .int .i64 a2_2]), (g2, 24, [.int .i64 a1_0, .int .i64 a1_1, .int .i64 a1_2])], []⟩ (by kernel_rfl) rfl (by kernel_rfl) (n := 18) (listed := LB 18 0) ?_
          refine VA.va (i := 0) (listed' := LB 18 1) rfl (op_load 1 3 rfl rfl TI24 rfl (fun h => absurd h (by decide)) (ltn rfl)) rfl (by kernel_rfl) (by kernel_rfl) (by kernel_rfl) (by kernel_rfl) ⟨⟨⟨0, rfl⟩, trivial⟩, ⟨⟨0, rfl⟩, ⟨1, rfl⟩, trivial⟩, trivial⟩ (fun _ _ _ h => h) ?_
          refine VA.va (i := 1) (listed' := LB 18 3) rfl (op_load 0 3 rfl rfl TI24 rfl (fun h => absurd h (by decide)) (ltn rfl)) rfl (by kernel_rfl) (by kernel_rfl) (by kernel_rfl) (by kernel_rfl) ⟨⟨⟨0, rfl⟩, trivial⟩, ⟨⟨0, rfl⟩, ⟨1, rfl⟩, trivial⟩, trivial⟩ (fun _ _ _ h => h) ?_
          refine VA.va (i := 3) (listed' := LB 18 11) rfl (op_load 1 3 rfl rfl TI24 rfl (fun h => absurd h (by decide)) (ltn rfl)) rfl (by kernel_rfl) (by kernel_rfl) (by kernel_rfl) (by kernel_rfl) ⟨⟨⟨0, rfl⟩, trivial⟩, ⟨⟨0, rfl⟩, ⟨1, rfl⟩, trivial⟩, trivial⟩ (fun _ _ _ h => h) ?_
          refine VA.va (i := 4) (listed' := LB 18 27) rfl (op_load 0 3 rfl rfl TI24 rfl (fun h => absurd h (by decide)) (ltn rfl)) rfl (by kernel_rfl) (by kernel_rfl) (by kernel_rfl) (by kernel_rfl) ⟨⟨⟨0, rfl⟩, trivial⟩, ⟨⟨0, rfl⟩, ⟨1, rfl⟩, trivial⟩, trivial⟩ (fun _ _ _ h => h) ?_
          refine VA.oneC (i := 2) (listed' := LB 18 31) (by kernel_rfl) rfl (o_call0 FO10 (queue_Less.ok k a1_0 a1_1 a1_2 a2_0 a2_1 a2_2 t202776 hA202777) rfl rfl (ltn rfl) (All_of .nil)) rfl (by kernel_rfl) ?_
          rintro _ _ _ ⟨rfl, rfl, rfl⟩
          refine ⟨⟨⟨⟨0, rfl⟩, trivial⟩, ⟨⟨0, rfl⟩, ⟨1, rfl⟩, trivial⟩, trivial⟩, ?_⟩
          refine VA.oneC (i := 5) (listed' := LB 18 63) (by kernel_rfl) rfl (o_call0 FO11 (tarryref06_Less.ok a1_0 a1_1 a1_2 a2_0 a2_1 a2_2 t202778 hA202779) rfl rfl (ltn rfl) (All_of .nil)) rfl (by kernel_rfl) ?_
          rintro _ _ _ ⟨rfl, rfl, rfl⟩
          refine ⟨⟨⟨⟨0, rfl⟩, trivial⟩, ⟨⟨0, rfl⟩, ⟨1, rfl⟩, trivial⟩, trivial⟩, ?_⟩
          refine VA.va (i := 6) (listed' := LB 18 127) rfl (op_eqb Try.underlying4 rfl rfl (congrArg some hb202780) (ltn rfl)) rfl (by kernel_rfl) (by kernel_rfl) (by kernel_rfl) (by kernel_rfl) ⟨⟨⟨0, rfl⟩, trivial⟩, ⟨⟨0, rfl⟩, ⟨1, rfl⟩, trivial⟩, trivial⟩ (fun _ _ _ h => h) ?_
          refine VA.va (i := 7) (listed' := LB 18 255) rfl (op_move rfl (ltn rfl)) rfl (by kernel_rfl) (by kernel_rfl) (by kernel_rfl) (by kernel_rfl) ⟨⟨⟨0, rfl⟩, trivial⟩, ⟨⟨0, rfl⟩, ⟨1, rfl⟩, trivial⟩, trivial⟩ (fun _ _ _ h => h) ?_
          refine VA.va (i := 8) (listed' := LB 18 511) rfl (op_move rfl (ltn rfl)) rfl (by kernel_rfl) (by kernel_rfl) (by kernel_rfl) (by kernel_rfl) ⟨⟨⟨0, rfl⟩, trivial⟩, ⟨⟨0, rfl⟩, ⟨1, rfl⟩, trivial⟩, trivial⟩ (fun _ _ _ h => h) ?_
          refine VA.va (i := 10) (listed' := LB 18 1535) rfl (op_move rfl (ltn rfl)) rfl (by kernel_rfl) (by kernel_rfl) (by kernel_rfl) (by kernel_rfl) ⟨⟨⟨0, rfl⟩, trivial⟩, ⟨⟨0, rfl⟩, ⟨1, rfl⟩, trivial⟩, trivial⟩ (fun _ _ _ h => h) ?_
          refine VA.oneC (i := 9) (listed' := LB 18 2047) (by kernel_rfl) rfl (o_call0 FO12 (queue_Right.ok k r14 v17 t202782 hA202783) rfl rfl (ltn rfl) (All_of (.cons (List.mem_of_getElem? (i := 0) rfl) .nil))) rfl (by kernel_rfl) ?_
          rintro _ _ _ ⟨rfl, rfl, rfl⟩
          refine ⟨⟨⟨⟨0, rfl⟩, trivial⟩, ⟨⟨0, rfl⟩, ⟨1, rfl⟩, trivial⟩, trivial⟩, ?_⟩
          refine VA.oneC (i := 11) (listed' := LB 18 4095) (by kernel_rfl) rfl (o_call0 FO13 (tarryref06_Heap.ok k r14 v17 t202784 hA202785) rfl rfl (ltn rfl) (All_of (.cons (List.mem_of_getElem? (i := 0) rfl) .nil))) rfl (by kernel_rfl) ?_
          rintro _ _ _ ⟨rfl, rfl, rfl⟩
          refine ⟨⟨⟨⟨0, rfl⟩, trivial⟩, ⟨⟨0, rfl⟩, ⟨1, rfl⟩, trivial⟩, trivial⟩, ?_⟩
          refine VA.va (i := 12) (listed' := LB 18 8191) rfl (op_eqb Try.underlying4 rfl rfl (congrArg some hb202786) (ltn rfl)) rfl (by kernel_rfl) (by kernel_rfl) (by kernel_rfl) (by kernel_rfl) ⟨⟨⟨0, rfl⟩, trivial⟩, ⟨⟨0, rfl⟩, ⟨1, rfl⟩, trivial⟩, trivial⟩ (fun _ _ _ h => h) ?_
          refine VA.va (i := 13) (listed' := LB 18 16383) rfl (op_pick rfl rfl (ltn rfl)) rfl (by kernel_rfl) (by kernel_rfl) (by kernel_rfl) (by kernel_rfl) ⟨⟨⟨0, rfl⟩, trivial⟩, ⟨⟨0, rfl⟩, ⟨1, rfl⟩, trivial⟩, trivial⟩ (fun _ _ _ h => h) ?_
          refine VA.va (i := 14) (listed' := LB 18 32767) rfl (op_move rfl (ltn rfl)) rfl (by kernel_rfl) (by kernel_rfl) (by kernel_rfl) (by kernel_rfl) ⟨⟨⟨0, rfl⟩, trivial⟩, ⟨⟨0, rfl⟩, ⟨1, rfl⟩, trivial⟩, trivial⟩ (fun _ _ _ h => h) ?_
          refine VA.oneC (i := 15) (listed' := LB 18 65535) (by kernel_rfl) rfl (o_call0 FO14 (tarrylaw06_alive.ok k true hA202789) rfl rfl (ltn rfl) (All_of .nil)) rfl (by kernel_rfl) ?_
          rintro _ _ _ ⟨rfl, rfl, rfl⟩
          refine ⟨⟨⟨⟨0, rfl⟩, trivial⟩, ⟨⟨0, rfl⟩, ⟨1, rfl⟩, trivial⟩, trivial⟩, ?_⟩
          refine VA.va (i := 16) (listed' := LB 18 131071) rfl (op_not rfl rfl (ltn rfl)) rfl (by kernel_rfl) (by kernel_rfl) (by kernel_rfl) (by kernel_rfl) ⟨⟨⟨0, rfl⟩, trivial⟩, ⟨⟨0, rfl⟩, ⟨1, rfl⟩, trivial⟩, trivial⟩ (fun _ _ _ h => h) ?_
          refine VA.va (i := 17) (listed' := LB 18 262143) rfl (op_pick rfl rfl (ltn rfl)) rfl (by kernel_rfl) (by kernel_rfl) (by kernel_rfl) (by kernel_rfl) ⟨⟨⟨0, rfl⟩, trivial⟩, ⟨⟨0, rfl⟩, ⟨1, rfl⟩, trivial⟩, trivial⟩ (fun _ _ _ h => h) ?_
          refine VA.done (by kernel_rfl) ?_
          exact VN.meet0  [] [0, 1] trivial ⟨rfl, ⟨rfl, rfl, rfl, rfl, rfl, rfl, rfl, trivial⟩, ⟨⟨0, rfl⟩, trivial⟩, rfl, by decide, rfl, by decide⟩
        intro _
        refine VC.cond_f rfl ?_
        refine VC.skip ?_
        refine VN.then ?_
        refine VC.seq ?_
        refine VC.seq ?_
        refine VC.region ?_
        refine VL.va (op_move rfl (ltn rfl)) rfl ?_
        replace h := Option.bind_eq_some_iff.1 h
        obtain ⟨t202810, hA202811, h⟩ := h
        refine VL.sC (o_call0 FO15 (tarryref06_All.ok k r14 v17 t202810 hA202811) rfl rfl (ltn rfl) (All_of (.cons (List.mem_of_getElem? (i := 0) rfl) .nil))) rfl ?_
        rintro _ _ _ ⟨rfl, rfl, rfl⟩
        by_cases c202812 : t202810 = true
        · rw [if_pos c202812] at h
          obtain rfl := c202812
          refine VL.va (op_not rfl rfl (ltn rfl)) rfl ?_
          refine VL.done ?_
          refine VN.then ?_
          refine VC.cond_f rfl ?_
          refine VC.skip ?_
          refine VN.then ?_
          refine VC.seq ?_
          refine VC.region ?_
          refine VL.va (op_move rfl (ltn rfl)) rfl ?_
          replace h := Option.bind_eq_some_iff.1 h
          obtain ⟨r204776, hA204777, h⟩ := h
          refine VL.sC (o_call0 FO16 (tarryref06_Sorted.ok k r14 v17 r204776 hA204777) rfl rfl (ltn rfl) (All_of (.cons (List.mem_of_getElem? (i := 0) rfl) .nil))) rfl ?_
          rintro v204779 _ _ ⟨_, rfl, rfl, rfl⟩
          refine VL.va (op_assign rfl (ltn rfl)) rfl ?_
          refine VL.done ?_
          refine VN.then ?_
          refine VC.seq ?_
          refine VC.region ?_
          refine VL.va (op_move rfl (ltn rfl)) rfl ?_
          refine VL.letter ((t66774 == 0)) fun b204882 hb204882 => ?_
          refine VL.va (op_cmp rfl rfl (congrArg some hb204882) (ltn rfl)) rfl ?_
          refine VL.va (op_move rfl (ltn rfl)) rfl ?_
          by_cases c204883 : t66774 = 0
          · rw [if_pos c204883] at h
            obtain rfl : b204882 = true := hb204882.symm.trans (beq_iff_eq.2 c204883)
            refine VL.va (op_move rfl (ltn rfl)) rfl ?_
            refine VL.letter ((t167757 == 0)) fun b204884 hb204884 => ?_
            refine VL.va (op_cmp rfl rfl (congrArg some hb204884) (ltn rfl)) rfl ?_
            refine VL.va (op_pick rfl rfl (ltn rfl)) rfl ?_
            refine VL.va (op_move rfl (ltn rfl)) rfl ?_
            by_cases c204885 : t167757 = 0
            · rw [if_pos c204885] at h
              obtain rfl : b204884 = true := hb204884.symm.trans (beq_iff_eq.2 c204885)
              refine VL.va (op_move rfl (ltn rfl)) rfl ?_
              refine VL.va (op_move rfl (ltn rfl)) rfl ?_
              replace h := Option.bind_eq_some_iff.1 h
              obtain ⟨t204886, hA204887, h⟩ := h
              refine VL.sC (o_call_b0 FO17 (tarryref06_Same.ok k r167756 r204776 v167760 v204779 t204886 hA204887) rfl rfl (ltn rfl) (All_of (.cons (.inr (.inl ⟨_, List.mem_of_getElem? (i := 1) rfl, rfl⟩)) (.cons (.inr (.inl ⟨_, List.mem_of_getElem? (i := 0) rfl, rfl⟩)) .nil))) (by rintro _ _ _ ⟨rfl, rfl, rfl⟩; rfl)) rfl ?_
              rintro _ _ _ ⟨rfl, rfl, rfl⟩
              refine VL.va (op_pick rfl rfl (ltn rfl)) rfl ?_
              refine VL.va (op_move rfl (ltn rfl)) rfl ?_
              by_cases c204888 : t204886 = true
              · rw [if_pos c204888] at h
                obtain rfl := c204888
                refine VL.va (op_move rfl (ltn rfl)) rfl ?_
                replace h := Option.bind_eq_some_iff.1 h
                obtain ⟨t204889, hA204890, h⟩ := h
                refine VL.sC (o_call_b0 FO13 (tarryref06_Heap.ok k r66773 v66777 t204889 hA204890) rfl rfl (ltn rfl) (All_of (.cons (.inr (.inl ⟨_, List.mem_of_getElem? (i := 2) rfl, rfl⟩)) .nil)) (by rintro _ _ _ ⟨rfl, rfl, rfl⟩; rfl)) rfl ?_
                rintro _ _ _ ⟨rfl, rfl, rfl⟩
                refine VL.va (op_pick rfl rfl (ltn rfl)) rfl ?_
                refine VL.va (op_move rfl (ltn rfl)) rfl ?_
                by_cases c204891 : t204889 = true
                · rw [if_pos c204891] at h
                  obtain rfl := c204891
                  refine VL.va (op_move rfl (ltn rfl)) rfl ?_
                  replace h := Option.bind_eq_some_iff.1 h
                  obtain ⟨r204892, hA204893, h⟩ := h
                  refine VL.sC (o_call_b0 FO16 (tarryref06_Sorted.ok k r66773 v66777 r204892 hA204893) rfl rfl (ltn rfl) (All_of (.cons (.inr (.inl ⟨_, List.mem_of_getElem? (i := 2) rfl, rfl⟩)) .nil)) (by rintro _ _ _ ⟨v204895, rfl, rfl, rfl⟩; rfl)) rfl ?_
                  rintro v204895 _ _ ⟨_, rfl, rfl, rfl⟩
                  refine VL.va (op_move rfl (ltn rfl)) rfl ?_
                  replace h := Option.bind_eq_some_iff.1 h
                  obtain ⟨t204896, hA204897, h⟩ := h
                  refine VL.sC (o_call_b0 FO17 (tarryref06_Same.ok k r204892 r204776 v204895 v204779 t204896 hA204897) rfl rfl (ltn rfl) (All_of (.cons (.inr (.inl ⟨_, List.mem_of_getElem? (i := 0) rfl, rfl⟩)) (.cons (.inr (.inl ⟨_, List.mem_of_getElem? (i := 1) rfl, rfl⟩)) .nil))) (by rintro _ _ _ ⟨rfl, rfl, rfl⟩; rfl)) rfl ?_
                  rintro _ _ _ ⟨rfl, rfl, rfl⟩
                  refine VL.va (op_pick rfl rfl (ltn rfl)) rfl ?_
                  refine VL.va (op_assign rfl (ltn rfl)) rfl ?_
                  refine VL.done ?_
                  refine VN.then ?_
                  refine VC.ret ?_
                  obtain rfl := Option.some.inj h
                  exact VR.fn (rs := [.tmp 6]) [] [] [] rfl (.tmp rfl .nil) ⟨rfl, rfl, rfl⟩ trivial rfl (by decide)
                · rw [if_neg c204891] at h
                  obtain rfl := Bool.eq_false_iff.2 c204891
                  refine VL.un rfl rfl (ltn rfl) ?_
                  refine VL.un rfl rfl (ltn rfl) ?_
                  refine VL.un rfl rfl (ltn rfl) ?_
                  refine VL.un rfl rfl (ltn rfl) ?_
                  refine VL.va (op_pick rfl rfl (ltn rfl)) rfl ?_
                  refine VL.va (op_assign rfl (ltn rfl)) rfl ?_
                  refine VL.done ?_
                  refine VN.then ?_
                  refine VC.ret ?_
                  cases h
              · rw [if_neg c204888] at h
                obtain rfl := Bool.eq_false_iff.2 c204888
                refine VL.un rfl rfl (ltn rfl) ?_
                refine VL.un rfl rfl (ltn rfl) ?_
                refine VL.va (op_pick rfl rfl (ltn rfl)) rfl ?_
                refine VL.va (op_move rfl (ltn rfl)) rfl ?_
                refine VL.un rfl rfl (ltn rfl) ?_
                refine VL.un rfl rfl (ltn rfl) ?_
                refine VL.un rfl rfl (ltn rfl) ?_
                refine VL.un rfl rfl (ltn rfl) ?_
                refine VL.va (op_pick rfl rfl (ltn rfl)) rfl ?_
                refine VL.va (op_assign rfl (ltn rfl)) rfl ?_
                refine VL.done ?_
                refine VN.then ?_
                refine VC.ret ?_
                cases h
            · rw [if_neg c204885] at h
              obtain rfl : b204884 = false := hb204884.symm.trans (beq_eq_false_iff_ne.2 c204885)
              refine VL.un rfl rfl (ltn rfl) ?_
              refine VL.un rfl rfl (ltn rfl) ?_
              refine VL.un rfl rfl (ltn rfl) ?_
              refine VL.va (op_pick rfl rfl (ltn rfl)) rfl ?_
              refine VL.va (op_move rfl (ltn rfl)) rfl ?_
              refine VL.un rfl rfl (ltn rfl) ?_
              refine VL.un rfl rfl (ltn rfl) ?_
              refine VL.va (op_pick rfl rfl (ltn rfl)) rfl ?_
              refine VL.va (op_move rfl (ltn rfl)) rfl ?_
              refine VL.un rfl rfl (ltn rfl) ?_
              refine VL.un rfl rfl (ltn rfl) ?_
              refine VL.un rfl rfl (ltn rfl) ?_
              refine VL.un rfl rfl (ltn rfl) ?_
              refine VL.va (op_pick rfl rfl (ltn rfl)) rfl ?_
              refine VL.va (op_assign rfl (ltn rfl)) rfl ?_
              refine VL.done ?_
              refine VN.then ?_
              refine VC.ret ?_
              cases h
          · rw [if_neg c204883] at h
            obtain rfl : b204882 = false := hb204882.symm.trans (beq_eq_false_iff_ne.2 c204883)
            refine VL.un rfl rfl (ltn rfl) ?_
            refine VL.un rfl rfl (ltn rfl) ?_
            refine VL.va (op_pick rfl rfl (ltn rfl)) rfl ?_
            refine VL.va (op_move rfl (ltn rfl)) rfl ?_
            refine VL.un rfl rfl (ltn rfl) ?_
            refine VL.un rfl rfl (ltn rfl) ?_
            refine VL.un rfl rfl (ltn rfl) ?_
            refine VL.va (op_pick rfl rfl (ltn rfl)) rfl ?_
            refine VL.va (op_move rfl (ltn rfl)) rfl ?_
            refine VL.un rfl rfl (ltn rfl) ?_
            refine VL.un rfl rfl (ltn rfl) ?_
            refine VL.va (op_pick rfl rfl (ltn rfl)) rfl ?_
            refine VL.va (op_move rfl (ltn rfl)) rfl ?_
            refine VL.un rfl rfl (ltn rfl) ?_
            refine VL.un rfl rfl (ltn rfl) ?_
            refine VL.un rfl rfl (ltn rfl) ?_
            refine VL.un rfl rfl (ltn rfl) ?_
            refine VL.va (op_pick rfl rfl (ltn rfl)) rfl ?_
            refine VL.va (op_assign rfl (ltn rfl)) rfl ?_
            refine VL.done ?_
            refine VN.then ?_
            refine VC.ret ?_
            cases h
        · rw [if_neg c202812] at h
          obtain rfl := Bool.eq_false_iff.2 c202812
          refine VL.va (op_not rfl rfl (ltn rfl)) rfl ?_
          refine VL.done ?_
          refine VN.then ?_
          refine VC.cond_t rfl ?_
          refine VC.seq ?_
          refine VC.region ?_
          refine VL.va (op_move rfl (ltn rfl)) rfl ?_
          refine VL.letter ((t66774 == 1)) fun b204903 hb204903 => ?_
          refine VL.va (op_cmp rfl rfl (congrArg some hb204903) (ltn rfl)) rfl ?_
          refine VL.va (op_move rfl (ltn rfl)) rfl ?_
          by_cases c204904 : t66774 = 1
          · rw [if_pos c204904] at h
            obtain rfl : b204903 = true := hb204903.symm.trans (beq_iff_eq.2 c204904)
            refine VL.va (op_move rfl (ltn rfl)) rfl ?_
            refine VL.letter ((t167757 == 1)) fun b204905 hb204905 => ?_
            refine VL.va (op_cmp rfl rfl (congrArg some hb204905) (ltn rfl)) rfl ?_
            refine VL.va (op_pick rfl rfl (ltn rfl)) rfl ?_
            refine VL.va (op_move rfl (ltn rfl)) rfl ?_
            by_cases c204906 : t167757 = 1
            · rw [if_pos c204906] at h
              obtain rfl : b204905 = true := hb204905.symm.trans (beq_iff_eq.2 c204906)
              refine VL.va (op_move rfl (ltn rfl)) rfl ?_
              refine VL.va (op_len_own (m := r66773.length) 1 lenm Try.underlying22 rfl rfl (ltn rfl)) rfl ?_
              refine VL.va (op_move rfl (ltn rfl)) rfl ?_
              refine VL.va (op_len_own (m := r167756.length) 0 lenm Try.underlying22 rfl rfl (ltn rfl)) rfl ?_
              refine VL.va (op_ari64 rfl rfl rfl (ltn rfl)) rfl ?_
              refine VL.letter (((wrap64 ((r66773.length : Int) + (r167756.length : Int))) == 0)) fun b204907 hb204907 => ?_
              refine VL.va (op_cmp rfl rfl (congrArg some hb204907) (ltn rfl)) rfl ?_
              refine VL.va (op_pick rfl rfl (ltn rfl)) rfl ?_
              refine VL.va (op_assign rfl (ltn rfl)) rfl ?_
              refine VL.done ?_
              refine VN.then ?_
              refine VC.ret ?_
              refine VR.then ?_
              obtain rfl := Option.some.inj h
              subst hb204907
              exact VR.fn (rs := [.tmp 6]) [] [] [] rfl (.tmp rfl .nil) ⟨rfl, rfl, rfl⟩ trivial rfl (by decide)
            · rw [if_neg c204906] at h
              obtain rfl : b204905 = false := hb204905.symm.trans (beq_eq_false_iff_ne.2 c204906)
              refine VL.un rfl rfl (ltn rfl) ?_
              refine VL.un rfl rfl (ltn rfl) ?_
              refine VL.un rfl rfl (ltn rfl) ?_
              refine VL.un rfl rfl (ltn rfl) ?_
              refine VL.un rfl rfl (ltn rfl) ?_
              refine VL.un rfl rfl (ltn rfl) ?_
              refine VL.va (op_pick rfl rfl (ltn rfl)) rfl ?_
              refine VL.va (op_assign rfl (ltn rfl)) rfl ?_
              refine VL.done ?_
              refine VN.then ?_
              refine VC.ret ?_
              refine VR.then ?_
              cases h
          · rw [if_neg c204904] at h
            obtain rfl : b204903 = false := hb204903.symm.trans (beq_eq_false_iff_ne.2 c204904)
            refine VL.un rfl rfl (ltn rfl) ?_
            refine VL.un rfl rfl (ltn rfl) ?_
            refine VL.va (op_pick rfl rfl (ltn rfl)) rfl ?_
            refine VL.va (op_move rfl (ltn rfl)) rfl ?_
            refine VL.un rfl rfl (ltn rfl) ?_
            refine VL.un rfl rfl (ltn rfl) ?_
            refine VL.un rfl rfl (ltn rfl) ?_
            refine VL.un rfl rfl (ltn rfl) ?_
            refine VL.un rfl rfl (ltn rfl) ?_
            refine VL.un rfl rfl (ltn rfl) ?_
            refine VL.va (op_pick rfl rfl (ltn rfl)) rfl ?_
            refine VL.va (op_assign rfl (ltn rfl)) rfl ?_
            refine VL.done ?_
            refine VN.then ?_
            refine VC.ret ?_
            refine VR.then ?_
            cases h
      · rw [if_neg c202790] at h
        obtain rfl := Bool.eq_false_iff.2 c202790
        refine VC.join0 (⟨82, [(0, v17), (6, .bool false), (7, v66777), (8, .int .i64 t66774), (9, v167760), (10, .int .i64 t167757), (41, .bool true)], [.row v17 3 (r14.map enc23)], [], [(v167760, 24, 3, r167756.map enc23), (v66777, 24, 3, r66773.map enc23)]⟩) (True) ?_ ?_
        · refine VC.draw ⟨0, [], [.row v17 3 (r14.map enc23)], [(g3, 24, [.int .i64 a2_0, .int .i64 a2_1, .int .i64 a2_2]), (g2, 24, [.int .i64 a1_0, .int .i64 a1_1, .int .i64 a1_2])], []⟩ (by kernel_rfl) rfl (by kernel_rfl) (n := 18) (listed := LB 18 0) ?_
          refine VA.va (i := 0) (listed' := LB 18 1) rfl (op_load 1 3 rfl rfl TI24 rfl (fun h => absurd h (by decide)) (ltn rfl)) rfl (by kernel_rfl) (by kernel_rfl) (by kernel_rfl) (by kernel_rfl) ⟨⟨⟨0, rfl⟩, trivial⟩, ⟨⟨0, rfl⟩, ⟨1, rfl⟩, trivial⟩, trivial⟩ (fun _ _ _ h => h) ?_
          refine VA.va (i := 1) (listed' := LB 18 3) rfl (op_load 0 3 rfl rfl TI24 rfl (fun h => absurd h (by decide)) (ltn rfl)) rfl (by kernel_rfl) (by kernel_rfl) (by kernel_rfl) (by kernel_rfl) ⟨⟨⟨0, rfl⟩, trivial⟩, ⟨⟨0, rfl⟩, ⟨1, rfl⟩, trivial⟩, trivial⟩ (fun _ _ _ h => h) ?_
          refine VA.va (i := 3) (listed' := LB 18 11) rfl (op_load 1 3 rfl rfl TI24 rfl (fun h => absurd h (by decide)) (ltn rfl)) rfl (by kernel_rfl) (by kernel_rfl) (by kernel_rfl) (by kernel_rfl) ⟨⟨⟨0, rfl⟩, trivial⟩, ⟨⟨0, rfl⟩, ⟨1, rfl⟩, trivial⟩, trivial⟩ (fun _ _ _ h => h) ?_
          refine VA.va (i := 4) (listed' := LB 18 27) rfl (op_load 0 3 rfl rfl TI24 rfl (fun h => absurd h (by decide)) (ltn rfl)) rfl (by kernel_rfl) (by kernel_rfl) (by kernel_rfl) (by kernel_rfl) ⟨⟨⟨0, rfl⟩, trivial⟩, ⟨⟨0, rfl⟩, ⟨1, rfl⟩, trivial⟩, trivial⟩ (fun _ _ _ h => h) ?_
          refine VA.oneC (i := 2) (listed' := LB 18 31) (by kernel_rfl) rfl (o_call0 FO10 (queue_Less.ok k a1_0 a1_1 a1_2 a2_0 a2_1 a2_2 t202776 hA202777) rfl rfl (ltn rfl) (All_of .nil)) rfl (by kernel_rfl) ?_
          rintro _ _ _ ⟨rfl, rfl, rfl⟩
          refine ⟨⟨⟨⟨0, rfl⟩, trivial⟩, ⟨⟨0, rfl⟩, ⟨1, rfl⟩, trivial⟩, trivial⟩, ?_⟩
          refine VA.oneC (i := 5) (listed' := LB 18 63) (by kernel_rfl) rfl (o_call0 FO11 (tarryref06_Less.ok a1_0 a1_1 a1_2 a2_0 a2_1 a2_2 t202778 hA202779) rfl rfl (ltn rfl) (All_of .nil)) rfl (by kernel_rfl) ?_
          rintro _ _ _ ⟨rfl, rfl, rfl⟩
          refine ⟨⟨⟨⟨0, rfl⟩, trivial⟩, ⟨⟨0, rfl⟩, ⟨1, rfl⟩, trivial⟩, trivial⟩, ?_⟩
          refine VA.va (i := 6) (listed' := LB 18 127) rfl (op_eqb Try.underlying4 rfl rfl (congrArg some hb202780) (ltn rfl)) rfl (by kernel_rfl) (by kernel_rfl) (by kernel_rfl) (by kernel_rfl) ⟨⟨⟨0, rfl⟩, trivial⟩, ⟨⟨0, rfl⟩, ⟨1, rfl⟩, trivial⟩, trivial⟩ (fun _ _ _ h => h) ?_
          refine VA.va (i := 7) (listed' := LB 18 255) rfl (op_move rfl (ltn rfl)) rfl (by kernel_rfl) (by kernel_rfl) (by kernel_rfl) (by kernel_rfl) ⟨⟨⟨0, rfl⟩, trivial⟩, ⟨⟨0, rfl⟩, ⟨1, rfl⟩, trivial⟩, trivial⟩ (fun _ _ _ h => h) ?_
          refine VA.va (i := 8) (listed' := LB 18 511) rfl (op_move rfl (ltn rfl)) rfl (by kernel_rfl) (by kernel_rfl) (by kernel_rfl) (by kernel_rfl) ⟨⟨⟨0, rfl⟩, trivial⟩, ⟨⟨0, rfl⟩, ⟨1, rfl⟩, trivial⟩, trivial⟩ (fun _ _ _ h => h) ?_
          refine VA.va (i := 10) (listed' := LB 18 1535) rfl (op_move rfl (ltn rfl)) rfl (by kernel_rfl) (by kernel_rfl) (by kernel_rfl) (by kernel_rfl) ⟨⟨⟨0, rfl⟩, trivial⟩, ⟨⟨0, rfl⟩, ⟨1, rfl⟩, trivial⟩, trivial⟩ (fun _ _ _ h => h) ?_
          refine VA.oneC (i := 9) (listed' := LB 18 2047) (by kernel_rfl) rfl (o_call0 FO12 (queue_Right.ok k r14 v17 t202782 hA202783) rfl rfl (ltn rfl) (All_of (.cons (List.mem_of_getElem? (i := 0) rfl) .nil))) rfl (by kernel_rfl) ?_
          rintro _ _ _ ⟨rfl, rfl, rfl⟩
          refine ⟨⟨⟨⟨0, rfl⟩, trivial⟩, ⟨⟨0, rfl⟩, ⟨1, rfl⟩, trivial⟩, trivial⟩, ?_⟩
          refine VA.oneC (i := 11) (listed' := LB 18 4095) (by kernel_rfl) rfl (o_call0 FO13 (tarryref06_Heap.ok k r14 v17 t202784 hA202785) rfl rfl (ltn rfl) (All_of (.cons (List.mem_of_getElem? (i := 0) rfl) .nil))) rfl (by kernel_rfl) ?_
          rintro _ _ _ ⟨rfl, rfl, rfl⟩
          refine ⟨⟨⟨⟨0, rfl⟩, trivial⟩, ⟨⟨0, rfl⟩, ⟨1, rfl⟩, trivial⟩, trivial⟩, ?_⟩
          refine VA.va (i := 12) (listed' := LB 18 8191) rfl (op_eqb Try.underlying4 rfl rfl (congrArg some hb202786) (ltn rfl)) rfl (by kernel_rfl) (by kernel_rfl) (by kernel_rfl) (by kernel_rfl) ⟨⟨⟨0, rfl⟩, trivial⟩, ⟨⟨0, rfl⟩, ⟨1, rfl⟩, trivial⟩, trivial⟩ (fun _ _ _ h => h) ?_
          refine VA.va (i := 13) (listed' := LB 18 16383) rfl (op_pick rfl rfl (ltn rfl)) rfl (by kernel_rfl) (by kernel_rfl) (by kernel_rfl) (by kernel_rfl) ⟨⟨⟨0, rfl⟩, trivial⟩, ⟨⟨0, rfl⟩, ⟨1, rfl⟩, trivial⟩, trivial⟩ (fun _ _ _ h => h) ?_
          refine VA.va (i := 14) (listed' := LB 18 32767) rfl (op_move rfl (ltn rfl)) rfl (by kernel_rfl) (by kernel_rfl) (by kernel_rfl) (by kernel_rfl) ⟨⟨⟨0, rfl⟩, trivial⟩, ⟨⟨0, rfl⟩, ⟨1, rfl⟩, trivial⟩, trivial⟩ (fun _ _ _ h => h) ?_
          refine VA.oneC (i := 15) (listed' := LB 18 65535) (by kernel_rfl) rfl (o_call0 FO14 (tarrylaw06_alive.ok k false hA202789) rfl rfl (ltn rfl) (All_of .nil)) rfl (by kernel_rfl) ?_
          rintro _ _ _ ⟨rfl, rfl, rfl⟩
          refine ⟨⟨⟨⟨0, rfl⟩, trivial⟩, ⟨⟨0, rfl⟩, ⟨1, rfl⟩, trivial⟩, trivial⟩, ?_⟩
          refine VA.va (i := 16) (listed' := LB 18 131071) rfl (op_not rfl rfl (ltn rfl)) rfl (by kernel_rfl) (by kernel_rfl) (by kernel_rfl) (by kernel_rfl) ⟨⟨⟨0, rfl⟩, trivial⟩, ⟨⟨0, rfl⟩, ⟨1, rfl⟩, trivial⟩, trivial⟩ (fun _ _ _ h => h) ?_
          refine VA.va (i := 17) (listed' := LB 18 262143) rfl (op_pick rfl rfl (ltn rfl)) rfl (by kernel_rfl) (by kernel_rfl) (by kernel_rfl) (by kernel_rfl) ⟨⟨⟨0, rfl⟩, trivial⟩, ⟨⟨0, rfl⟩, ⟨1, rfl⟩, trivial⟩, trivial⟩ (fun _ _ _ h => h) ?_
          refine VA.done (by kernel_rfl) ?_
          exact VN.meet0  [] [0, 1] trivial ⟨rfl, ⟨rfl, rfl, rfl, rfl, rfl, rfl, rfl, trivial⟩, ⟨⟨0, rfl⟩, trivial⟩, rfl, by decide, rfl, by decide⟩
        intro _
        refine VC.cond_t rfl ?_
        refine VC.seq ?_
        refine VC.region ?_
        refine VL.va (op_assign rfl (ltn rfl)) rfl ?_
        refine VL.done ?_
        refine VN.then ?_
        refine VC.ret ?_
        refine VR.then ?_
        cases h
    · rw [if_neg c202787] at h
      obtain rfl : b202786 = true := hb202786.symm.trans (by simpa using c202787)
      refine VC.join0 (⟨82, [(0, v17), (6, .bool false), (7, v66777), (8, .int .i64 t66774), (9, v167760), (10, .int .i64 t167757), (41, .bool true)], [.row v17 3 (r14.map enc23)], [], [(v167760, 24, 3, r167756.map enc23), (v66777, 24, 3, r66773.map enc23)]⟩) (True) ?_ ?_
      · refine VC.draw ⟨0, [], [.row v17 3 (r14.map enc23)], [(g3, 24, [.int .i64 a2_0, .int .i64 a2_1, .int .i64 a2_2]), (g2, 24, [.int .i64 a1_0, .int .i64 a1_1, .int .i64 a1_2])], []⟩ (by kernel_rfl) rfl (by kernel_rfl) (n := 18) (listed := LB 18 0) ?_
        refine VA.va (i := 0) (listed' := LB 18 1) rfl (op_load 1 3 rfl rfl TI24 rfl (fun h => absurd h (by decide)) (ltn rfl)) rfl (by kernel_rfl) (by kernel_rfl) (by kernel_rfl) (by kernel_rfl) ⟨⟨⟨0, rfl⟩, trivial⟩, ⟨⟨0, rfl⟩, ⟨1, rfl⟩, trivial⟩, trivial⟩ (fun _ _ _ h => h) ?_
        refine VA.va (i := 1) (listed' := LB 18 3) rfl (op_load 0 3 rfl rfl TI24 rfl (fun h => absurd h (by decide)) (ltn rfl)) rfl (by kernel_rfl) (by kernel_rfl) (by kernel_rfl) (by kernel_rfl) ⟨⟨⟨0, rfl⟩, trivial⟩, ⟨⟨0, rfl⟩, ⟨1, rfl⟩, trivial⟩, trivial⟩ (fun _ _ _ h => h) ?_
        refine VA.va (i := 3) (listed' := LB 18 11) rfl (op_load 1 3 rfl rfl TI24 rfl (fun h => absurd h (by decide)) (ltn rfl)) rfl (by kernel_rfl) (by kernel_rfl) (by kernel_rfl) (by kernel_rfl) ⟨⟨⟨0, rfl⟩, trivial⟩, ⟨⟨0, rfl⟩, ⟨1, rfl⟩, trivial⟩, trivial⟩ (fun _ _ _ h => h) ?_
        refine VA.va (i := 4) (listed' := LB 18 27) rfl (op_load 0 3 rfl rfl TI24 rfl (fun h => absurd h (by decide)) (ltn rfl)) rfl (by kernel_rfl) (by kernel_rfl) (by kernel_rfl) (by kernel_rfl) ⟨⟨⟨0, rfl⟩, trivial⟩, ⟨⟨0, rfl⟩, ⟨1, rfl⟩, trivial⟩, trivial⟩ (fun _ _ _ h => h) ?_
        refine VA.oneC (i := 2) (listed' := LB 18 31) (by kernel_rfl) rfl (o_call0 FO10 (queue_Less.ok k a1_0 a1_1 a1_2 a2_0 a2_1 a2_2 t202776 hA202777) rfl rfl (ltn rfl) (All_of .nil)) rfl (by kernel_rfl) ?_
        rintro _ _ _ ⟨rfl, rfl, rfl⟩
        refine ⟨⟨⟨⟨0, rfl⟩, trivial⟩, ⟨⟨0, rfl⟩, ⟨1, rfl⟩, trivial⟩, trivial⟩, ?_⟩
        refine VA.oneC (i := 5) (listed' := LB 18 63) (by kernel_rfl) rfl (o_call0 FO11 (tarryref06_Less.ok a1_0 a1_1 a1_2 a2_0 a2_1 a2_2 t202778 hA202779) rfl rfl (ltn rfl) (All_of .nil)) rfl (by kernel_rfl) ?_
        rintro _ _ _ ⟨rfl, rfl, rfl⟩
        refine ⟨⟨⟨⟨0, rfl⟩, trivial⟩, ⟨⟨0, rfl⟩, ⟨1, rfl⟩, trivial⟩, trivial⟩, ?_⟩
        refine VA.va (i := 6) (listed' := LB 18 127) rfl (op_eqb Try.underlying4 rfl rfl (congrArg some hb202780) (ltn rfl)) rfl (by kernel_rfl) (by kernel_rfl) (by kernel_rfl) (by kernel_rfl) ⟨⟨⟨0, rfl⟩, trivial⟩, ⟨⟨0, rfl⟩, ⟨1, rfl⟩, trivial⟩, trivial⟩ (fun _ _ _ h => h) ?_
        refine VA.va (i := 7) (listed' := LB 18 255) rfl (op_move rfl (ltn rfl)) rfl (by kernel_rfl) (by kernel_rfl) (by kernel_rfl) (by kernel_rfl) ⟨⟨⟨0, rfl⟩, trivial⟩, ⟨⟨0, rfl⟩, ⟨1, rfl⟩, trivial⟩, trivial⟩ (fun _ _ _ h => h) ?_
        refine VA.va (i := 8) (listed' := LB 18 511) rfl (op_move rfl (ltn rfl)) rfl (by kernel_rfl) (by kernel_rfl) (by kernel_rfl) (by kernel_rfl) ⟨⟨⟨0, rfl⟩, trivial⟩, ⟨⟨0, rfl⟩, ⟨1, rfl⟩, trivial⟩, trivial⟩ (fun _ _ _ h => h) ?_
        refine VA.va (i := 10) (listed' := LB 18 1535) rfl (op_move rfl (ltn rfl)) rfl (by kernel_rfl) (by kernel_rfl) (by kernel_rfl) (by kernel_rfl) ⟨⟨⟨0, rfl⟩, trivial⟩, ⟨⟨0, rfl⟩, ⟨1, rfl⟩, trivial⟩, trivial⟩ (fun _ _ _ h => h) ?_
        refine VA.oneC (i := 9) (listed' := LB 18 2047) (by kernel_rfl) rfl (o_call0 FO12 (queue_Right.ok k r14 v17 t202782 hA202783) rfl rfl (ltn rfl) (All_of (.cons (List.mem_of_getElem? (i := 0) rfl) .nil))) rfl (by kernel_rfl) ?_
        rintro _ _ _ ⟨rfl, rfl, rfl⟩
        refine ⟨⟨⟨⟨0, rfl⟩, trivial⟩, ⟨⟨0, rfl⟩, ⟨1, rfl⟩, trivial⟩, trivial⟩, ?_⟩
        refine VA.oneC (i := 11) (listed' := LB 18 4095) (by kernel_rfl) rfl (o_call0 FO13 (tarryref06_Heap.ok k r14 v17 t202784 hA202785) rfl rfl (ltn rfl) (All_of (.cons (List.mem_of_getElem? (i := 0) rfl) .nil))) rfl (by kernel_rfl) ?_
        rintro _ _ _ ⟨rfl, rfl, rfl⟩
        refine ⟨⟨⟨⟨0, rfl⟩, trivial⟩, ⟨⟨0, rfl⟩, ⟨1, rfl⟩, trivial⟩, trivial⟩, ?_⟩
        refine VA.va (i := 12) (listed' := LB 18 8191) rfl (op_eqb Try.underlying4 rfl rfl (congrArg some hb202786) (ltn rfl)) rfl (by kernel_rfl) (by kernel_rfl) (by kernel_rfl) (by kernel_rfl) ⟨⟨⟨0, rfl⟩, trivial⟩, ⟨⟨0, rfl⟩, ⟨1, rfl⟩, trivial⟩, trivial⟩ (fun _ _ _ h => h) ?_
        refine VA.va (i := 13) (listed' := LB 18 16383) rfl (op_pick rfl rfl (ltn rfl)) rfl (by kernel_rfl) (by kernel_rfl) (by kernel_rfl) (by kernel_rfl) ⟨⟨⟨0, rfl⟩, trivial⟩, ⟨⟨0, rfl⟩, ⟨1, rfl⟩, trivial⟩, trivial⟩ (fun _ _ _ h => h) ?_
        refine VA.va (i := 14) (listed' := LB 18 32767) rfl (op_move rfl (ltn rfl)) rfl (by kernel_rfl) (by kernel_rfl) (by kernel_rfl) (by kernel_rfl) ⟨⟨⟨0, rfl⟩, trivial⟩, ⟨⟨0, rfl⟩, ⟨1, rfl⟩, trivial⟩, trivial⟩ (fun _ _ _ h => h) ?_
        refine VA.un (i := 15) (listed' := LB 18 65535) rfl rfl rfl (ltn rfl) (by kernel_rfl) (by kernel_rfl) (by kernel_rfl) (by kernel_rfl) ⟨⟨⟨0, rfl⟩, trivial⟩, ⟨⟨0, rfl⟩, ⟨1, rfl⟩, trivial⟩, trivial⟩ (fun _ _ _ h => h) ?_
        refine VA.un (i := 16) (listed' := LB 18 131071) rfl rfl rfl (ltn rfl) (by kernel_rfl) (by kernel_rfl) (by kernel_rfl) (by kernel_rfl) ⟨⟨⟨0, rfl⟩, trivial⟩, ⟨⟨0, rfl⟩, ⟨1, rfl⟩, trivial⟩, trivial⟩ (fun _ _ _ h => h) ?_
        refine VA.va (i := 17) (listed' := LB 18 262143) rfl (op_pick rfl rfl (ltn rfl)) rfl (by kernel_rfl) (by kernel_rfl) (by kernel_rfl) (by kernel_rfl) ⟨⟨⟨0, rfl⟩, trivial⟩, ⟨⟨0, rfl⟩, ⟨1, rfl⟩, trivial⟩, trivial⟩ (fun _ _ _ h => h) ?_
        refine VA.done (by kernel_rfl) ?_
        exact VN.meet0  [] [0, 1] trivial ⟨rfl, ⟨rfl, rfl, rfl, rfl, rfl, rfl, rfl, trivial⟩, ⟨⟨0, rfl⟩, trivial⟩, rfl, by decide, rfl, by decide⟩
      intro _
      refine VC.cond_t rfl ?_
      refine VC.seq ?_
      refine VC.region ?_
      refine VL.va (op_assign rfl (ltn rfl)) rfl ?_
      refine VL.done ?_
      refine VN.then ?_
      refine VC.ret ?_
      refine VR.then ?_
      cases h
  · rw [if_neg c202781] at h
    obtain rfl : b202780 = true := hb202780.symm.trans (by simpa using c202781)
    refine VC.join0 (⟨82, [(0, v17), (6, .bool false), (7, v66777), (8, .int .i64 t66774), (9, v167760), (10, .int .i64 t167757), (41, .bool true)], [.row v17 3 (r14.map enc23)], [], [(v167760, 24, 3, r167756.map enc23), (v66777, 24, 3, r66773.map enc23)]⟩) (True) ?_ ?_
    · refine VC.draw ⟨0, [], [], [(g3, 24, [.int .i64 a2_0, .int .i64 a2_1, .int .i64 a2_2]), (g2, 24, [.int .i64 a1_0, .int .i64 a1_1, .int .i64 a1_2])], []⟩ (by kernel_rfl) rfl (by kernel_rfl) (n := 18) (listed := LB 18 0) ?_
      refine VA.va (i := 0) (listed' := LB 18 1) rfl (op_load 1 3 rfl rfl TI24 rfl (fun h => absurd h (by decide)) (ltn rfl)) rfl (by kernel_rfl) (by kernel_rfl) (by kernel_rfl) (by kernel_rfl) ⟨trivial, ⟨⟨0, rfl⟩, ⟨1, rfl⟩, trivial⟩, trivial⟩ (fun _ _ _ h => h) ?_
      refine VA.va (i := 1) (listed' := LB 18 3) rfl (op_load 0 3 rfl rfl TI24 rfl (fun h => absurd h (by decide)) (ltn rfl)) rfl (by kernel_rfl) (by kernel_rfl) (by kernel_rfl) (by kernel_rfl) ⟨trivial, ⟨⟨0, rfl⟩, ⟨1, rfl⟩, trivial⟩, trivial⟩ (fun _ _ _ h => h) ?_
      refine VA.va (i := 3) (listed' := LB 18 11) rfl (op_load 1 3 rfl rfl TI24 rfl (fun h => absurd h (by decide)) (ltn rfl)) rfl (by kernel_rfl) (by kernel_rfl) (by kernel_rfl) (by kernel_rfl) ⟨trivial, ⟨⟨0, rfl⟩, ⟨1, rfl⟩, trivial⟩, trivial⟩ (fun _ _ _ h => h) ?_
      refine VA.va (i := 4) (listed' := LB 18 27) rfl (op_load 0 3 rfl rfl TI24 rfl (fun h => absurd h (by decide)) (ltn rfl)) rfl (by kernel_rfl) (by kernel_rfl) (by kernel_rfl) (by kernel_rfl) ⟨trivial, ⟨⟨0, rfl⟩, ⟨1, rfl⟩, trivial⟩, trivial⟩ (fun _ _ _ h => h) ?_
      refine VA.oneC (i := 2) (listed' := LB 18 31) (by kernel_rfl) rfl (o_call0 FO10 (queue_Less.ok k a1_0 a1_1 a1_2 a2_0 a2_1 a2_2 t202776 hA202777) rfl rfl (ltn rfl) (All_of .nil)) rfl (by kernel_rfl) ?_
      rintro _ _ _ ⟨rfl, rfl, rfl⟩
      refine ⟨⟨trivial, ⟨⟨0, rfl⟩, ⟨1, rfl⟩, trivial⟩, trivial⟩, ?_⟩
      refine VA.oneC (i := 5) (listed' := LB 18 63) (by kernel_rfl) rfl (o_call0 FO11 (tarryref06_Less.ok a1_0 a1_1 a1_2 a2_0 a2_1 a2_2 t202778 hA202779) rfl rfl (ltn rfl) (All_of .nil)) rfl (by kernel_rfl) ?_
      rintro _ _ _ ⟨rfl, rfl, rfl⟩
      refine ⟨⟨trivial, ⟨⟨0, rfl⟩, ⟨1, rfl⟩, trivial⟩, trivial⟩, ?_⟩
      refine VA.va (i := 6) (listed' := LB 18 127) rfl (op_eqb Try.underlying4 rfl rfl (congrArg some hb202780) (ltn rfl)) rfl (by kernel_rfl) (by kernel_rfl) (by kernel_rfl) (by kernel_rfl) ⟨trivial, ⟨⟨0, rfl⟩, ⟨1, rfl⟩, trivial⟩, trivial⟩ (fun _ _ _ h => h) ?_
      refine VA.va (i := 7) (listed' := LB 18 255) rfl (op_move rfl (ltn rfl)) rfl (by kernel_rfl) (by kernel_rfl) (by kernel_rfl) (by kernel_rfl) ⟨trivial, ⟨⟨0, rfl⟩, ⟨1, rfl⟩, trivial⟩, trivial⟩ (fun _ _ _ h => h) ?_
      refine VA.un (i := 8) (listed' := LB 18 511) rfl rfl rfl (ltn rfl) (by kernel_rfl) (by kernel_rfl) (by kernel_rfl) (by kernel_rfl) ⟨trivial, ⟨⟨0, rfl⟩, ⟨1, rfl⟩, trivial⟩, trivial⟩ (fun _ _ _ h => h) ?_
      refine VA.un (i := 9) (listed' := LB 18 1023) rfl rfl rfl (ltn rfl) (by kernel_rfl) (by kernel_rfl) (by kernel_rfl) (by kernel_rfl) ⟨trivial, ⟨⟨0, rfl⟩, ⟨1, rfl⟩, trivial⟩, trivial⟩ (fun _ _ _ h => h) ?_
      refine VA.un (i := 10) (listed' := LB 18 2047) rfl rfl rfl (ltn rfl) (by kernel_rfl) (by kernel_rfl) (by kernel_rfl) (by kernel_rfl) ⟨trivial, ⟨⟨0, rfl⟩, ⟨1, rfl⟩, trivial⟩, trivial⟩ (fun _ _ _ h => h) ?_
      refine VA.un (i := 11) (listed' := LB 18 4095) rfl rfl rfl (ltn rfl) (by kernel_rfl) (by kernel_rfl) (by kernel_rfl) (by kernel_rfl) ⟨trivial, ⟨⟨0, rfl⟩, ⟨1, rfl⟩, trivial⟩, trivial⟩ (fun _ _ _ h => h) ?_
      refine VA.un (i := 12) (listed' := LB 18 8191) rfl rfl rfl (ltn rfl) (by kernel_rfl) (by kernel_rfl) (by kernel_rfl) (by kernel_rfl) ⟨trivial, ⟨⟨0, rfl⟩, ⟨1, rfl⟩, trivial⟩, trivial⟩ (fun _ _ _ h => h) ?_
      refine VA.va (i := 13) (listed' := LB 18 16383) rfl (op_pick rfl rfl (ltn rfl)) rfl (by kernel_rfl) (by kernel_rfl) (by kernel_rfl) (by kernel_rfl) ⟨trivial, ⟨⟨0, rfl⟩, ⟨1, rfl⟩, trivial⟩, trivial⟩ (fun _ _ _ h => h) ?_
      refine VA.va (i := 14) (listed' := LB 18 32767) rfl (op_move rfl (ltn rfl)) rfl (by kernel_rfl) (by kernel_rfl) (by kernel_rfl) (by kernel_rfl) ⟨trivial, ⟨⟨0, rfl⟩, ⟨1, rfl⟩, trivial⟩, trivial⟩ (fun _ _ _ h => h) ?_
      refine VA.un (i := 15) (listed' := LB 18 65535) rfl rfl rfl (ltn rfl) (by kernel_rfl) (by kernel_rfl) (by kernel_rfl) (by kernel_rfl) ⟨trivial, ⟨⟨0, rfl⟩, ⟨1, rfl⟩, trivial⟩, trivial⟩ (fun _ _ _ h => h) ?_
      refine VA.un (i := 16) (listed' := LB 18 131071) rfl rfl rfl (ltn rfl) (by kernel_rfl) (by kernel_rfl) (by kernel_rfl) (by kernel_rfl) ⟨trivial, ⟨⟨0, rfl⟩, ⟨1, rfl⟩, trivial⟩, trivial⟩ (fun _ _ _ h => h) ?_
      refine VA.va (i := 17) (listed' := LB 18 262143) rfl (op_pick rfl rfl (ltn rfl)) rfl (by kernel_rfl) (by kernel_rfl) (by kernel_rfl) (by kernel_rfl) ⟨trivial, ⟨⟨0, rfl⟩, ⟨1, rfl⟩, trivial⟩, trivial⟩ (fun _ _ _ h => h) ?_
      refine VA.done (by kernel_rfl) ?_
      exact VN.meet0  [] [0, 1] trivial ⟨rfl, ⟨rfl, rfl, rfl, rfl, rfl, rfl, rfl, trivial⟩, ⟨⟨0, rfl⟩, trivial⟩, rfl, by decide, rfl, by decide⟩
    intro _
    refine VC.cond_t rfl ?_
    refine VC.seq ?_
    refine VC.region ?_
    refine VL.va (op_assign rfl (ltn rfl)) rfl ?_
    refine VL.done ?_
    refine VN.then ?_
    refine VC.ret ?_
    refine VR.then ?_
    cases h

end Go.Proofs.Ythgoagnennjagaa.PQueueHeaps
