/- Written by a program of this repo: what the program's functions do, each as a Lean function, shown of the loaded code; or a statement's row over that; no condition of its own. -/
import Derived.Test.YtmcfgahjchkgaaaPTimerSetsx5
namespace Go.Proofs.Ytmcfgahjchkgaaa.PTimerSets
open Go Go.RowKit Go.Proofs.YtmcfgahjchkgaaaV
set_option linter.unusedVariables false
set_option linter.unusedSimpArgs false

set_option maxHeartbeats 4000000 in
set_option maxRecDepth 100000 in
theorem tarrylaw10_TimerSets.ok (k : Nat) (l0 : List S23) (a1_0 : Int) (a1_1 : Int) (a1_2 : Int) (a2 : Int) (a3 : Int) (a4 : Int) (v0 : Value) (r1 : Bool) (h : tarrylaw10_TimerSets.f k l0 a1_0 a1_1 a1_2 a2 a3 a4 = some r1) :
    VCalls Try.prog 5 [v0, .agg #[.int .i64 a1_0, .int .i64 a1_1, .int .i64 a1_2], .int .i64 a2, .int .i64 a3, .int .i64 a4] [.row v0 3 (l0.map enc23)] (fun v G own => v = .bool r1 ∧ G = [] ∧ own = []) := by
  refine VCalls.intro Try.func5 rfl (len rfl) fun E hC => ?_
  unfold tarrylaw10_TimerSets.f at h
  refine VC.seq ?_
  refine VC.region ?_
  refine VL.sG (o_box rfl (.agg (.c rfl (.c rfl (.c rfl .nil)))) (ltn rfl)) rfl ?_
  intro g2
  refine VL.va (op_assign rfl (ltn rfl)) rfl ?_
  refine VL.done ?_
  refine VN.then ?_
  refine VC.seq ?_
  refine VC.region ?_
  refine VL.va (op_move rfl (ltn rfl)) rfl ?_
  replace h := Option.bind_eq_some_iff.1 h
  obtain ⟨r13, hA14, h⟩ := h
  refine VL.sC (o_call0 FO6 (tarrylaw10_few.ok l0 v0 r13 hA14) rfl rfl (ltn rfl) (All_of (.cons (List.mem_of_getElem? (i := 0) rfl) .nil))) rfl ?_
  rintro v16 _ _ ⟨_, rfl, rfl, rfl⟩
  refine VL.va (op_assign rfl (ltn rfl)) rfl ?_
  refine VL.done ?_
  refine VN.then ?_
  refine VC.seq ?_
  refine VC.region ?_
  refine VL.va (op_move rfl (ltn rfl)) rfl ?_
  refine VL.va (op_load 0 3 rfl rfl TI24 rfl (fun h => absurd h (by decide)) (ltn rfl)) rfl ?_
  replace h := Option.bind_eq_some_iff.1 h
  obtain ⟨⟨r1060, t1061⟩, hA1062, h⟩ := h
  dsimp only at h
  refine VL.sC (o_call0 FO7 (timer_Set.ok k r13 a1_0 a1_1 a1_2 v16 r1060 t1061 hA1062) rfl rfl (ltn rfl) (All_of (.cons (List.mem_of_getElem? (i := 0) rfl) .nil))) rfl ?_
  rintro _ _ _ ⟨v1064, rfl, rfl, rfl⟩
  refine VL.va (op_move rfl (ltn rfl)) rfl ?_
  refine VL.va (op_extract rfl rfl (ltn rfl)) rfl ?_
  refine VL.va (op_extract rfl rfl (ltn rfl)) rfl ?_
  refine VL.va (op_assign rfl (ltn rfl)) rfl ?_
  refine VL.va (op_assign rfl (ltn rfl)) rfl ?_
  refine VL.done ?_
  refine VN.then ?_
  refine VC.seq ?_
  refine VC.region ?_
  refine VL.va (op_move rfl (ltn rfl)) rfl ?_
  refine VL.va (op_move rfl (ltn rfl)) rfl ?_
  refine VL.va (op_move rfl (ltn rfl)) rfl ?_
  replace h := Option.bind_eq_some_iff.1 h
  obtain ⟨⟨r1092, t1093⟩, hA1094, h⟩ := h
  dsimp only at h
  refine VL.sC (o_call0 FO9 (timer_Clear.ok k r13 a2 a3 v16 r1092 t1093 hA1094) rfl rfl (ltn rfl) (All_of (.cons (List.mem_of_getElem? (i := 0) rfl) .nil))) rfl ?_
  rintro _ _ _ ⟨v1096, rfl, rfl, rfl⟩
  refine VL.va (op_move rfl (ltn rfl)) rfl ?_
  refine VL.va (op_extract rfl rfl (ltn rfl)) rfl ?_
  refine VL.va (op_extract rfl rfl (ltn rfl)) rfl ?_
  refine VL.va (op_assign rfl (ltn rfl)) rfl ?_
  refine VL.va (op_assign rfl (ltn rfl)) rfl ?_
  refine VL.done ?_
  refine VN.then ?_
  refine VC.seq ?_
  refine VC.region ?_
  refine VL.va (op_move rfl (ltn rfl)) rfl ?_
  refine VL.va (op_move rfl (ltn rfl)) rfl ?_
  replace h := Option.bind_eq_some_iff.1 h
  obtain ⟨⟨r1381, r1382, t1383⟩, hA1384, h⟩ := h
  dsimp only at h
  refine VL.sC (o_call0 FO12 (timer_Due.ok k r13 a4 v16 r1381 r1382 t1383 hA1384) rfl rfl (ltn rfl) (All_of (.cons (List.mem_of_getElem? (i := 0) rfl) .nil))) rfl ?_
  rintro _ _ _ ⟨v1386, v1388, rfl, rfl, rfl⟩
  refine VL.va (op_move rfl (ltn rfl)) rfl ?_
  refine VL.va (op_extract rfl rfl (ltn rfl)) rfl ?_
  refine VL.va (op_extract rfl rfl (ltn rfl)) rfl ?_
  refine VL.va (op_extract rfl rfl (ltn rfl)) rfl ?_
  refine VL.va (op_assign rfl (ltn rfl)) rfl ?_
  refine VL.va (op_assign rfl (ltn rfl)) rfl ?_
  refine VL.va (op_assign rfl (ltn rfl)) rfl ?_
  refine VL.done ?_
  refine VN.then ?_
  refine VC.seq ?_
  refine VC.region ?_
  refine VL.va (op_move rfl (ltn rfl)) rfl ?_
  replace h := Option.bind_eq_some_iff.1 h
  obtain ⟨⟨t1409, t1410⟩, hA1411, h⟩ := h
  dsimp only at h
  refine VL.sC (o_call0 FO13 (timer_Next.ok k r13 v16 t1409 t1410 hA1411) rfl rfl (ltn rfl) (All_of (.cons (List.mem_of_getElem? (i := 0) rfl) .nil))) rfl ?_
  rintro _ _ _ ⟨rfl, rfl, rfl⟩
  refine VL.va (op_move rfl (ltn rfl)) rfl ?_
  refine VL.va (op_extract rfl rfl (ltn rfl)) rfl ?_
  refine VL.va (op_extract rfl rfl (ltn rfl)) rfl ?_
  refine VL.va (op_assign rfl (ltn rfl)) rfl ?_
  refine VL.va (op_assign rfl (ltn rfl)) rfl ?_
  refine VL.done ?_
  refine VN.then ?_
  refine VC.seq ?_
  refine VC.seq ?_
  refine VC.region ?_
  refine VL.va (op_move rfl (ltn rfl)) rfl ?_
  replace h := Option.bind_eq_some_iff.1 h
  obtain ⟨t3162, hA3163, h⟩ := h
  refine VL.sC (o_call0 FO11 (timer_Right.ok k r13 v16 t3162 hA3163) rfl rfl (ltn rfl) (All_of (.cons (List.mem_of_getElem? (i := 0) rfl) .nil))) rfl ?_
  rintro _ _ _ ⟨rfl, rfl, rfl⟩
  refine VL.va (op_move rfl (ltn rfl)) rfl ?_
  replace h := Option.bind_eq_some_iff.1 h
  obtain ⟨t3164, hA3165, h⟩ := h
  refine VL.sC (o_call0 FO14 (tarryref10_Right.ok k r13 v16 t3164 hA3165) rfl rfl (ltn rfl) (All_of (.cons (List.mem_of_getElem? (i := 0) rfl) .nil))) rfl ?_
  rintro _ _ _ ⟨rfl, rfl, rfl⟩
  refine VL.letter ((!(t3162 == t3164))) fun b3166 hb3166 => ?_
  refine VL.va (op_eqb Try.underlying4 rfl rfl (congrArg some hb3166) (ltn rfl)) rfl ?_
  refine VL.va (op_move rfl (ltn rfl)) rfl ?_
  by_cases c3167 : t3162 = t3164
  · rw [if_pos c3167] at h
    obtain rfl : b3166 = false := hb3166.symm.trans (by rw [c3167]; simp)
    replace h := Option.bind_eq_some_iff.1 h
    obtain ⟨t3168, hA3169, h⟩ := h
    refine VL.sC (o_call0 FO8 (tarrylaw10_alive.ok k t3168 hA3169) rfl rfl (ltn rfl) (All_of .nil)) rfl ?_
    rintro _ _ _ ⟨rfl, rfl, rfl⟩
    by_cases c3170 : t3168 = true
    · rw [if_pos c3170] at h
      obtain rfl := c3170
      refine VL.va (op_not rfl rfl (ltn rfl)) rfl ?_
      refine VL.va (op_pick rfl rfl (ltn rfl)) rfl ?_
      refine VL.done ?_
      refine VN.then ?_
      refine VC.cond_f rfl ?_
      refine VC.skip ?_
      refine VN.then ?_
      refine VC.seq ?_
      refine VC.join1 (fun (q4982 : Bool) => ⟨182, [(0, v16), (2, .int .i64 a2), (3, .int .i64 a3), (4, .int .i64 a4), (6, .pointer (some ⟨g2, 0, none⟩)), (10, .bool false), (11, v1064), (12, .int .i64 t1061), (13, v1096), (14, .int .i64 t1093), (15, v1386), (16, v1388), (17, .int .i64 t1383), (18, .int .i64 t1409), (19, .int .i64 t1410), (58, .bool q4982)], [.row v16 3 (r13.map enc23)], [(g2, 24, [.int .i64 a1_0, .int .i64 a1_1, .int .i64 a1_2])], [(v1064, 24, 3, r1060.map enc23), (v1096, 24, 3, r1092.map enc23), (v1386, 24, 3, r1381.map enc23), (v1388, 24, 3, r1382.map enc23)]⟩) (fun (q4982 : Bool) => tarrylaw10_TimerSets.j2 k a1_0 a1_1 a1_2 a2 a3 a4 r1060 r1092 r13 r1381 r1382 t1061 t1093 t1383 t1409 t1410 q4982 = some r1) ?_ ?_
      · refine VC.region ?_
        refine VL.va (op_move rfl (ltn rfl)) rfl ?_
        replace h := Option.bind_eq_some_iff.1 h
        obtain ⟨t4979, hA4980, h⟩ := h
        refine VL.sC (o_call0 FO14 (tarryref10_Right.ok k r13 v16 t4979 hA4980) rfl rfl (ltn rfl) (All_of (.cons (List.mem_of_getElem? (i := 0) rfl) .nil))) rfl ?_
        rintro _ _ _ ⟨rfl, rfl, rfl⟩
        by_cases c4981 : t4979 = true
        · rw [if_pos c4981] at h
          obtain rfl := c4981
          refine VL.va (op_not rfl rfl (ltn rfl)) rfl ?_
          refine VL.done ?_
          refine VN.meet1 false [0] [3, 2, 0, 1] h ⟨rfl, ⟨rfl, rfl, rfl, rfl, rfl, rfl, rfl, rfl, rfl, rfl, rfl, rfl, rfl, rfl, rfl, rfl, trivial⟩, ⟨⟨0, rfl⟩, trivial⟩, rfl, by decide, rfl, by decide⟩
        · rw [if_neg c4981] at h
          obtain rfl := Bool.eq_false_iff.2 c4981
          refine VL.va (op_not rfl rfl (ltn rfl)) rfl ?_
          refine VL.done ?_
          refine VN.meet1 true [0] [3, 2, 0, 1] h ⟨rfl, ⟨rfl, rfl, rfl, rfl, rfl, rfl, rfl, rfl, rfl, rfl, rfl, rfl, rfl, rfl, rfl, rfl, trivial⟩, ⟨⟨0, rfl⟩, trivial⟩, rfl, by decide, rfl, by decide⟩
      clear h
      intro q4982 h
      unfold tarrylaw10_TimerSets.j2 at h
      by_cases c4983 : q4982 = true
      · rw [if_pos c4983] at h
        obtain rfl := c4983
        refine VC.cond_t rfl ?_
        refine VC.seq ?_
        refine VC.region ?_
        refine VL.va (op_move rfl (ltn rfl)) rfl ?_
        refine VL.letter ((t1061 == 1)) fun b4993 hb4993 => ?_
        refine VL.va (op_cmp rfl rfl (congrArg some hb4993) (ltn rfl)) rfl ?_
        refine VL.va (op_move rfl (ltn rfl)) rfl ?_
        by_cases c4994 : t1061 = 1
        · rw [if_pos c4994] at h
          obtain rfl : b4993 = true := hb4993.symm.trans (beq_iff_eq.2 c4994)
          refine VL.va (op_move rfl (ltn rfl)) rfl ?_
          refine VL.letter ((t1093 == 1)) fun b4995 hb4995 => ?_
          refine VL.va (op_cmp rfl rfl (congrArg some hb4995) (ltn rfl)) rfl ?_
          refine VL.va (op_pick rfl rfl (ltn rfl)) rfl ?_
          refine VL.va (op_move rfl (ltn rfl)) rfl ?_
          by_cases c4996 : t1093 = 1
          · rw [if_pos c4996] at h
            obtain rfl : b4995 = true := hb4995.symm.trans (beq_iff_eq.2 c4996)
            refine VL.va (op_move rfl (ltn rfl)) rfl ?_
            refine VL.letter ((t1383 == 1)) fun b4997 hb4997 => ?_
            refine VL.va (op_cmp rfl rfl (congrArg some hb4997) (ltn rfl)) rfl ?_
            refine VL.va (op_pick rfl rfl (ltn rfl)) rfl ?_
            refine VL.va (op_move rfl (ltn rfl)) rfl ?_
            by_cases c4998 : t1383 = 1
            · rw [if_pos c4998] at h
              obtain rfl : b4997 = true := hb4997.symm.trans (beq_iff_eq.2 c4998)
              refine VL.va (op_move rfl (ltn rfl)) rfl ?_
              refine VL.letter ((t1410 == 1)) fun b4999 hb4999 => ?_
              refine VL.va (op_cmp rfl rfl (congrArg some hb4999) (ltn rfl)) rfl ?_
              refine VL.va (op_pick rfl rfl (ltn rfl)) rfl ?_
              refine VL.va (op_move rfl (ltn rfl)) rfl ?_
              by_cases c5000 : t1410 = 1
              · rw [if_pos c5000] at h
                obtain rfl : b4999 = true := hb4999.symm.trans (beq_iff_eq.2 c5000)
                refine VL.va (op_move rfl (ltn rfl)) rfl ?_
                refine VL.va (op_len_own (m := r1060.length) 0 lenm Try.underlying22 rfl rfl (ltn rfl)) rfl ?_
                refine VL.va (op_move rfl (ltn rfl)) rfl ?_
                refine VL.va (op_len_own (m := r1092.length) 1 lenm Try.underlying22 rfl rfl (ltn rfl)) rfl ?_
                refine VL.va (op_ari64 rfl rfl rfl (ltn rfl)) rfl ?_
                refine VL.va (op_move rfl (ltn rfl)) rfl ?_
                refine VL.va (op_len_own (m := r1381.length) 2 lenm Try.underlying22 rfl rfl (ltn rfl)) rfl ?_
                refine VL.va (op_ari64 rfl rfl rfl (ltn rfl)) rfl ?_
                refine VL.va (op_move rfl (ltn rfl)) rfl ?_
                refine VL.va (op_len_own (m := r1382.length) 3 lenm Try.underlying22 rfl rfl (ltn rfl)) rfl ?_
                refine VL.va (op_ari64 rfl rfl rfl (ltn rfl)) rfl ?_
                refine VL.va (op_move rfl (ltn rfl)) rfl ?_
                refine VL.va (op_ari64 rfl rfl rfl (ltn rfl)) rfl ?_
                refine VL.letter (((wrap64 ((wrap64 ((wrap64 ((wrap64 ((r1060.length : Int) + (r1092.length : Int))) + (r1381.length : Int))) + (r1382.length : Int))) + t1409)) == 0)) fun b5001 hb5001 => ?_
                refine VL.va (op_cmp rfl rfl (congrArg some hb5001) (ltn rfl)) rfl ?_
                refine VL.va (op_pick rfl rfl (ltn rfl)) rfl ?_
                refine VL.va (op_assign rfl (ltn rfl)) rfl ?_
                refine VL.done ?_
                refine VN.then ?_
                refine VC.ret ?_
                refine VR.then ?_
                obtain rfl := Option.some.inj h
                subst hb5001
                exact VR.fn (rs := [.tmp 10]) [] [] [] rfl (.tmp rfl .nil) ⟨rfl, rfl, rfl⟩ trivial rfl (by decide)
              · rw [if_neg c5000] at h
                obtain rfl : b4999 = false := hb4999.symm.trans (beq_eq_false_iff_ne.2 c5000)
                refine VL.un rfl rfl (ltn rfl) ?_
                refine VL.un rfl rfl (ltn rfl) ?_
                refine VL.un rfl rfl (ltn rfl) ?_
                refine VL.un rfl rfl (ltn rfl) ?_
                refine VL.un rfl rfl (ltn rfl) ?_
                refine VL.un rfl rfl (ltn rfl) ?_
                refine VL.un rfl rfl (ltn rfl) ?_
                refine VL.un rfl rfl (ltn rfl) ?_
                refine VL.un rfl rfl (ltn rfl) ?_
                refine VL.un rfl rfl (ltn rfl) ?_
                refine VL.un rfl rfl (ltn rfl) ?_
                refine VL.un rfl rfl (ltn rfl) ?_
                refine VL.un rfl rfl (ltn rfl) ?_
                refine VL.un rfl rfl (ltn rfl) ?_
                refine VL.va (op_pick rfl rfl (ltn rfl)) rfl ?_
                refine VL.va (op_assign rfl (ltn rfl)) rfl ?_
                refine VL.done ?_
                refine VN.then ?_
                refine VC.ret ?_
                refine VR.then ?_
                cases h
            · rw [if_neg c4998] at h
              obtain rfl : b4997 = false := hb4997.symm.trans (beq_eq_false_iff_ne.2 c4998)
              refine VL.un rfl rfl (ltn rfl) ?_
              refine VL.un rfl rfl (ltn rfl) ?_
              refine VL.va (op_pick rfl rfl (ltn rfl)) rfl ?_
              refine VL.va (op_move rfl (ltn rfl)) rfl ?_
              refine VL.un rfl rfl (ltn rfl) ?_
              refine VL.un rfl rfl (ltn rfl) ?_
              refine VL.un rfl rfl (ltn rfl) ?_
              refine VL.un rfl rfl (ltn rfl) ?_
              refine VL.un rfl rfl (ltn rfl) ?_
              refine VL.un rfl rfl (ltn rfl) ?_
              refine VL.un rfl rfl (ltn rfl) ?_
              refine VL.un rfl rfl (ltn rfl) ?_
              refine VL.un rfl rfl (ltn rfl) ?_
              refine VL.un rfl rfl (ltn rfl) ?_
              refine VL.un rfl rfl (ltn rfl) ?_
              refine VL.un rfl rfl (ltn rfl) ?_
              refine VL.un rfl rfl (ltn rfl) ?_
              refine VL.un rfl rfl (ltn rfl) ?_
              refine VL.va (op_pick rfl rfl (ltn rfl)) rfl ?_
              refine VL.va (op_assign rfl (ltn rfl)) rfl ?_
              refine VL.done ?_
              refine VN.then ?_
              refine VC.ret ?_
              refine VR.then ?_
              cases h
          · rw [if_neg c4996] at h
            obtain rfl : b4995 = false := hb4995.symm.trans (beq_eq_false_iff_ne.2 c4996)
            refine VL.un rfl rfl (ltn rfl) ?_
            refine VL.un rfl rfl (ltn rfl) ?_
            refine VL.va (op_pick rfl rfl (ltn rfl)) rfl ?_
            refine VL.va (op_move rfl (ltn rfl)) rfl ?_
            refine VL.un rfl rfl (ltn rfl) ?_
            refine VL.un rfl rfl (ltn rfl) ?_
            refine VL.va (op_pick rfl rfl (ltn rfl)) rfl ?_
            refine VL.va (op_move rfl (ltn rfl)) rfl ?_
            refine VL.un rfl rfl (ltn rfl) ?_
            refine VL.un rfl rfl (ltn rfl) ?_
            refine VL.un rfl rfl (ltn rfl) ?_
            refine VL.un rfl rfl (ltn rfl) ?_
            refine VL.un rfl rfl (ltn rfl) ?_
            refine VL.un rfl rfl (ltn rfl) ?_
            refine VL.un rfl rfl (ltn rfl) ?_
            refine VL.un rfl rfl (ltn rfl) ?_
            refine VL.un rfl rfl (ltn rfl) ?_
            refine VL.un rfl rfl (ltn rfl) ?_
            refine VL.un rfl rfl (ltn rfl) ?_
            refine VL.un rfl rfl (ltn rfl) ?_
            refine VL.un rfl rfl (ltn rfl) ?_
            refine VL.un rfl rfl (ltn rfl) ?_
            refine VL.va (op_pick rfl rfl (ltn rfl)) rfl ?_
            refine VL.va (op_assign rfl (ltn rfl)) rfl ?_
            refine VL.done ?_
            refine VN.then ?_
            refine VC.ret ?_
            refine VR.then ?_
            cases h
        · rw [if_neg c4994] at h
          obtain rfl : b4993 = false := hb4993.symm.trans (beq_eq_false_iff_ne.2 c4994)
          refine VL.un rfl rfl (ltn rfl) ?_
          refine VL.un rfl rfl (ltn rfl) ?_
          refine VL.va (op_pick rfl rfl (ltn rfl)) rfl ?_
          refine VL.va (op_move rfl (ltn rfl)) rfl ?_
          refine VL.un rfl rfl (ltn rfl) ?_
          refine VL.un rfl rfl (ltn rfl) ?_
          refine VL.va (op_pick rfl rfl (ltn rfl)) rfl ?_
          refine VL.va (op_move rfl (ltn rfl)) rfl ?_
          refine VL.un rfl rfl (ltn rfl) ?_
          refine VL.un rfl rfl (ltn rfl) ?_
          refine VL.va (op_pick rfl rfl (ltn rfl)) rfl ?_
          refine VL.va (op_move rfl (ltn rfl)) rfl ?_
          refine VL.un rfl rfl (ltn rfl) ?_
          refine VL.un rfl rfl (ltn rfl) ?_
          refine VL.un rfl rfl (ltn rfl) ?_
          refine VL.un rfl rfl (ltn rfl) ?_
          refine VL.un rfl rfl (ltn rfl) ?_
          refine VL.un rfl rfl (ltn rfl) ?_
          refine VL.un rfl rfl (ltn rfl) ?_
          refine VL.un rfl rfl (ltn rfl) ?_
          refine VL.un rfl rfl (ltn rfl) ?_
          refine VL.un rfl rfl (ltn rfl) ?_
          refine VL.un rfl rfl (ltn rfl) ?_
          refine VL.un rfl rfl (ltn rfl) ?_
          refine VL.un rfl rfl (ltn rfl) ?_
          refine VL.un rfl rfl (ltn rfl) ?_
          refine VL.va (op_pick rfl rfl (ltn rfl)) rfl ?_
          refine VL.va (op_assign rfl (ltn rfl)) rfl ?_
          refine VL.done ?_
          refine VN.then ?_
          refine VC.ret ?_
          refine VR.then ?_
          cases h
      · rw [if_neg c4983] at h
        obtain rfl := Bool.eq_false_iff.2 c4983
        refine VC.cond_f rfl ?_
        refine VC.skip ?_
        refine VN.then ?_
        refine VC.seq ?_
        refine VC.seq ?_
        refine VC.region ?_
        refine VL.va (op_move rfl (ltn rfl)) rfl ?_
        refine VL.letter ((t1093 != 0)) fun b5077 hb5077 => ?_
        refine VL.va (op_cmp rfl rfl (congrArg some hb5077) (ltn rfl)) rfl ?_
        refine VL.va (op_move rfl (ltn rfl)) rfl ?_
        by_cases c5078 : t1093 = 0
        · rw [if_pos c5078] at h
          obtain rfl : b5077 = false := hb5077.symm.trans (bne_eq_false_iff_eq.2 c5078)
          refine VL.va (op_move rfl (ltn rfl)) rfl ?_
          refine VL.va (op_move rfl (ltn rfl)) rfl ?_
          refine VL.va (op_move rfl (ltn rfl)) rfl ?_
          refine VL.va (op_move rfl (ltn rfl)) rfl ?_
          replace h := Option.bind_eq_some_iff.1 h
          obtain ⟨r5079, hA5080, h⟩ := h
          refine VL.sC (o_call0 FO15 (tarryref10_Clear.ok k r13 a2 a3 v16 r5079 hA5080) rfl rfl (ltn rfl) (All_of (.cons (List.mem_of_getElem? (i := 0) rfl) .nil))) rfl ?_
          rintro v5082 _ _ ⟨_, rfl, rfl, rfl⟩
          replace h := Option.bind_eq_some_iff.1 h
          obtain ⟨t5083, hA5084, h⟩ := h
          refine VL.sC (o_call_b0 FO10 (tarryref10_Same.ok k r1092 r5079 v1096 v5082 t5083 hA5084) rfl rfl (ltn rfl) (All_of (.cons (.inr (.inl ⟨_, List.mem_of_getElem? (i := 2) rfl, rfl⟩)) (.cons (.inr (.inl ⟨_, List.mem_of_getElem? (i := 0) rfl, rfl⟩)) .nil))) (by rintro _ _ _ ⟨rfl, rfl, rfl⟩; rfl)) rfl ?_
          rintro _ _ _ ⟨rfl, rfl, rfl⟩
          by_cases c5085 : t5083 = true
          · rw [if_pos c5085] at h
            obtain rfl := c5085
            refine VL.va (op_not rfl rfl (ltn rfl)) rfl ?_
            refine VL.va (op_pick rfl rfl (ltn rfl)) rfl ?_
            refine VL.va (op_move rfl (ltn rfl)) rfl ?_
            refine VL.va (op_move rfl (ltn rfl)) rfl ?_
            refine VL.letter ((t1383 != 0)) fun b5086 hb5086 => ?_
            refine VL.va (op_cmp rfl rfl (congrArg some hb5086) (ltn rfl)) rfl ?_
            refine VL.va (op_pick rfl rfl (ltn rfl)) rfl ?_
            refine VL.va (op_move rfl (ltn rfl)) rfl ?_
            by_cases c5087 : t1383 = 0
            · rw [if_pos c5087] at h
              obtain rfl : b5086 = false := hb5086.symm.trans (bne_eq_false_iff_eq.2 c5087)
              refine VL.va (op_move rfl (ltn rfl)) rfl ?_
              refine VL.va (op_move rfl (ltn rfl)) rfl ?_
              refine VL.va (op_move rfl (ltn rfl)) rfl ?_
              replace h := Option.bind_eq_some_iff.1 h
              obtain ⟨r5088, hA5089, h⟩ := h
              refine VL.sC (o_call0 FO16 (tarryref10_Due.ok k r13 a4 true v16 r5088 hA5089) rfl rfl (ltn rfl) (All_of (.cons (List.mem_of_getElem? (i := 0) rfl) .nil))) rfl ?_
              rintro v5091 _ _ ⟨_, rfl, rfl, rfl⟩
              replace h := Option.bind_eq_some_iff.1 h
              obtain ⟨t5092, hA5093, h⟩ := h
              refine VL.sC (o_call_b0 FO10 (tarryref10_Same.ok k r1381 r5088 v1386 v5091 t5092 hA5093) rfl rfl (ltn rfl) (All_of (.cons (.inr (.inl ⟨_, List.mem_of_getElem? (i := 4) rfl, rfl⟩)) (.cons (.inr (.inl ⟨_, List.mem_of_getElem? (i := 0) rfl, rfl⟩)) .nil))) (by rintro _ _ _ ⟨rfl, rfl, rfl⟩; rfl)) rfl ?_
              rintro _ _ _ ⟨rfl, rfl, rfl⟩
              by_cases c5094 : t5092 = true
              · rw [if_pos c5094] at h
                obtain rfl := c5094
                refine VL.va (op_not rfl rfl (ltn rfl)) rfl ?_
                refine VL.va (op_pick rfl rfl (ltn rfl)) rfl ?_
                refine VL.va (op_move rfl (ltn rfl)) rfl ?_
                refine VL.va (op_move rfl (ltn rfl)) rfl ?_
                refine VL.va (op_move rfl (ltn rfl)) rfl ?_
                refine VL.va (op_move rfl (ltn rfl)) rfl ?_
                replace h := Option.bind_eq_some_iff.1 h
                obtain ⟨r5095, hA5096, h⟩ := h
                refine VL.sC (o_call0 FO16 (tarryref10_Due.ok k r13 a4 false v16 r5095 hA5096) rfl rfl (ltn rfl) (All_of (.cons (List.mem_of_getElem? (i := 0) rfl) .nil))) rfl ?_
                rintro v5098 _ _ ⟨_, rfl, rfl, rfl⟩
                replace h := Option.bind_eq_some_iff.1 h
                obtain ⟨t5099, hA5100, h⟩ := h
                refine VL.sC (o_call_b0 FO10 (tarryref10_Same.ok k r1382 r5095 v1388 v5098 t5099 hA5100) rfl rfl (ltn rfl) (All_of (.cons (.inr (.inl ⟨_, List.mem_of_getElem? (i := 6) rfl, rfl⟩)) (.cons (.inr (.inl ⟨_, List.mem_of_getElem? (i := 0) rfl, rfl⟩)) .nil))) (by rintro _ _ _ ⟨rfl, rfl, rfl⟩; rfl)) rfl ?_
                rintro _ _ _ ⟨rfl, rfl, rfl⟩
                by_cases c5101 : t5099 = true
                · rw [if_pos c5101] at h
                  obtain rfl := c5101
                  refine VL.va (op_not rfl rfl (ltn rfl)) rfl ?_
                  refine VL.va (op_pick rfl rfl (ltn rfl)) rfl ?_
                  refine VL.done ?_
                  refine VN.then ?_
                  refine VC.cond_f rfl ?_
                  refine VC.skip ?_
                  refine VN.then ?_
                  refine VC.join0 (⟨182, [(0, v16), (6, .pointer (some ⟨g2, 0, none⟩)), (10, .bool false), (11, v1064), (12, .int .i64 t1061)], [.row v16 3 (r13.map enc23)], [(g2, 24, [.int .i64 a1_0, .int .i64 a1_1, .int .i64 a1_2])], [(v1064, 24, 3, r1060.map enc23)]⟩) (tarrylaw10_TimerSets.j4 k a1_0 a1_1 a1_2 r1060 r13 t1061 = some r1) ?_ ?_
                  · refine VC.seq ?_
                    refine VC.region ?_
                    refine VL.va (op_move rfl (ltn rfl)) rfl ?_
                    refine VL.va (op_len (m := r13.length) 0 lenm Try.underlying22 rfl rfl (ltn rfl)) rfl ?_
                    refine VL.letter (((r13.length : Int) == 0)) fun b5561 hb5561 => ?_
                    refine VL.va (op_cmp rfl rfl (congrArg some hb5561) (ltn rfl)) rfl ?_
                    refine VL.va (op_move rfl (ltn rfl)) rfl ?_
                    by_cases c5562 : (r13.length : Int) = 0
                    · rw [if_pos c5562] at h
                      obtain rfl : b5561 = true := hb5561.symm.trans (beq_iff_eq.2 c5562)
                      refine VL.va (op_move rfl (ltn rfl)) rfl ?_
                      refine VL.letter ((t1410 != 8)) fun b5563 hb5563 => ?_
                      refine VL.va (op_cmp rfl rfl (congrArg some hb5563) (ltn rfl)) rfl ?_
                      refine VL.va (op_move rfl (ltn rfl)) rfl ?_
                      by_cases c5564 : t1410 = 8
                      · rw [if_pos c5564] at h
                        obtain rfl : b5563 = false := hb5563.symm.trans (bne_eq_false_iff_eq.2 c5564)
                        refine VL.va (op_move rfl (ltn rfl)) rfl ?_
                        refine VL.letter ((t1409 != 0)) fun b5565 hb5565 => ?_
                        refine VL.va (op_cmp rfl rfl (congrArg some hb5565) (ltn rfl)) rfl ?_
                        refine VL.va (op_pick rfl rfl (ltn rfl)) rfl ?_
                        refine VL.va (op_pick rfl rfl (ltn rfl)) rfl ?_
                        refine VL.va (op_move rfl (ltn rfl)) rfl ?_
                        by_cases c5566 : t1409 = 0
                        · rw [if_pos c5566] at h
                          obtain rfl : b5565 = false := hb5565.symm.trans (bne_eq_false_iff_eq.2 c5566)
                          refine VL.va (op_move rfl (ltn rfl)) rfl ?_
                          refine VL.va (op_len (m := r13.length) 0 lenm Try.underlying22 rfl rfl (ltn rfl)) rfl ?_
                          refine VL.letter (decide ((r13.length : Int) > 0)) fun b5567 hb5567 => ?_
                          refine VL.va (op_cmp rfl rfl (congrArg some hb5567) (ltn rfl)) rfl ?_
                          refine VL.va (op_move rfl (ltn rfl)) rfl ?_
                          by_cases c5568 : (r13.length : Int) > 0
                          · rw [if_pos c5568] at h
                            obtain rfl : b5567 = true := hb5567.symm.trans (decide_eq_true c5568)
                            refine VL.va (op_move rfl (ltn rfl)) rfl ?_
                            refine VL.letter ((t1410 != 0)) fun b5569 hb5569 => ?_
                            refine VL.va (op_cmp rfl rfl (congrArg some hb5569) (ltn rfl)) rfl ?_
                            refine VL.va (op_move rfl (ltn rfl)) rfl ?_
                            by_cases c5570 : t1410 = 0
                            · rw [if_pos c5570] at h
                              obtain rfl : b5569 = false := hb5569.symm.trans (bne_eq_false_iff_eq.2 c5570)
                              refine VL.va (op_move rfl (ltn rfl)) rfl ?_
                              refine VL.va (op_move rfl (ltn rfl)) rfl ?_
                              replace h := Option.bind_eq_some_iff.1 h
                              obtain ⟨x5571, hx5571, h⟩ := h
                              refine VL.open (m := r13.length) 0 lenm rfl (pos_get hx5571) ?_
                              rintro ad5572 n5573 rfl
                              refine VL.va (op_indexAddr Try.underlying22 TI24 rfl rfl (by decide) (lt_get (by decide) hx5571) rfl (ltn rfl)) rfl ?_
                              refine VL.va (op_fieldAddr FI24_0 rfl (add_add _ _ _) (ltn rfl)) rfl ?_
                              refine VL.va (op_load_row (o := 0) 0 0 1 rfl rfl (get_map hx5571) TI3 rfl (by decide) (ltn rfl)) rfl ?_
                              refine VL.letter ((t1409 != x5571.f0)) fun b5574 hb5574 => ?_
                              refine VL.va (op_cmp rfl rfl (congrArg some hb5574) (ltn rfl)) rfl ?_
                              refine VL.va (op_pick rfl rfl (ltn rfl)) rfl ?_
                              refine VL.va (op_pick rfl rfl (ltn rfl)) rfl ?_
                              refine VL.va (op_pick rfl rfl (ltn rfl)) rfl ?_
                              refine VL.done ?_
                              refine VN.then ?_
                              by_cases c5575 : t1409 = x5571.f0
                              · rw [if_pos c5575] at h
                                obtain rfl : b5574 = false := hb5574.symm.trans (bne_eq_false_iff_eq.2 c5575)
                                refine VC.cond_f rfl ?_
                                refine VC.skip ?_
                                refine VN.meet0  [0] [3] h ⟨rfl, ⟨rfl, rfl, rfl, rfl, rfl, trivial⟩, ⟨⟨0, rfl⟩, trivial⟩, rfl, by decide, rfl, by decide⟩
                              · rw [if_neg c5575] at h
                                obtain rfl : b5574 = true := hb5574.symm.trans (bne_iff_ne.2 c5575)
                                refine VC.cond_t rfl ?_
                                refine VC.seq ?_
                                refine VC.region ?_
                                refine VL.va (op_assign rfl (ltn rfl)) rfl ?_
                                refine VL.done ?_
                                refine VN.then ?_
                                refine VC.ret ?_
                                refine VR.then ?_
                                cases h
                            · rw [if_neg c5570] at h
                              obtain rfl : b5569 = true := hb5569.symm.trans (bne_iff_ne.2 c5570)
                              refine VL.un rfl rfl (ltn rfl) ?_
                              refine VL.un rfl rfl (ltn rfl) ?_
                              refine VL.un rfl rfl (ltn rfl) ?_
                              refine VL.un rfl rfl (ltn rfl) ?_
                              refine VL.un rfl rfl (ltn rfl) ?_
                              refine VL.un rfl rfl (ltn rfl) ?_
                              refine VL.va (op_pick rfl rfl (ltn rfl)) rfl ?_
                              refine VL.va (op_pick rfl rfl (ltn rfl)) rfl ?_
                              refine VL.va (op_pick rfl rfl (ltn rfl)) rfl ?_
                              refine VL.done ?_
                              refine VN.then ?_
                              refine VC.cond_t rfl ?_
                              refine VC.seq ?_
                              refine VC.region ?_
                              refine VL.va (op_assign rfl (ltn rfl)) rfl ?_
                              refine VL.done ?_
                              refine VN.then ?_
                              refine VC.ret ?_
                              refine VR.then ?_
                              cases h
                          · rw [if_neg c5568] at h
                            obtain rfl : b5567 = false := hb5567.symm.trans (decide_eq_false c5568)
                            refine VL.un rfl rfl (ltn rfl) ?_
                            refine VL.un rfl rfl (ltn rfl) ?_
                            refine VL.un rfl rfl (ltn rfl) ?_
                            refine VL.un rfl rfl (ltn rfl) ?_
                            refine VL.un rfl rfl (ltn rfl) ?_
                            refine VL.un rfl rfl (ltn rfl) ?_
                            refine VL.un rfl rfl (ltn rfl) ?_
                            refine VL.un rfl rfl (ltn rfl) ?_
                            refine VL.un rfl rfl (ltn rfl) ?_
                            refine VL.un rfl rfl (ltn rfl) ?_
                            refine VL.va (op_pick rfl rfl (ltn rfl)) rfl ?_
                            refine VL.va (op_pick rfl rfl (ltn rfl)) rfl ?_
                            refine VL.done ?_
                            refine VN.then ?_
                            refine VC.cond_f rfl ?_
                            refine VC.skip ?_
                            refine VN.meet0  [0] [3] h ⟨rfl, ⟨rfl, rfl, rfl, rfl, rfl, trivial⟩, ⟨⟨0, rfl⟩, trivial⟩, rfl, by decide, rfl, by decide⟩
                        · rw [if_neg c5566] at h
                          obtain rfl : b5565 = true := hb5565.symm.trans (bne_iff_ne.2 c5566)
                          refine VL.un rfl rfl (ltn rfl) ?_
                          refine VL.un rfl rfl (ltn rfl) ?_
                          refine VL.un rfl rfl (ltn rfl) ?_
                          refine VL.un rfl rfl (ltn rfl) ?_
                          refine VL.un rfl rfl (ltn rfl) ?_
                          refine VL.un rfl rfl (ltn rfl) ?_
                          refine VL.un rfl rfl (ltn rfl) ?_
                          refine VL.un rfl rfl (ltn rfl) ?_
                          refine VL.un rfl rfl (ltn rfl) ?_
                          refine VL.un rfl rfl (ltn rfl) ?_
                          refine VL.un rfl rfl (ltn rfl) ?_
                          refine VL.un rfl rfl (ltn rfl) ?_
                          refine VL.un rfl rfl (ltn rfl) ?_
                          refine VL.un rfl rfl (ltn rfl) ?_
                          refine VL.un rfl rfl (ltn rfl) ?_
                          refine VL.va (op_pick rfl rfl (ltn rfl)) rfl ?_
                          refine VL.done ?_
                          refine VN.then ?_
                          refine VC.cond_t rfl ?_
                          refine VC.seq ?_
                          refine VC.region ?_
                          refine VL.va (op_assign rfl (ltn rfl)) rfl ?_
                          refine VL.done ?_
                          refine VN.then ?_
                          refine VC.ret ?_
                          refine VR.then ?_
                          cases h
                      · rw [if_neg c5564] at h
                        obtain rfl : b5563 = true := hb5563.symm.trans (bne_iff_ne.2 c5564)
                        refine VL.un rfl rfl (ltn rfl) ?_
                        refine VL.un rfl rfl (ltn rfl) ?_
                        refine VL.va (op_pick rfl rfl (ltn rfl)) rfl ?_
                        refine VL.va (op_pick rfl rfl (ltn rfl)) rfl ?_
                        refine VL.va (op_move rfl (ltn rfl)) rfl ?_
                        refine VL.un rfl rfl (ltn rfl) ?_
                        refine VL.un rfl rfl (ltn rfl) ?_
                        refine VL.un rfl rfl (ltn rfl) ?_
                        refine VL.un rfl rfl (ltn rfl) ?_
                        refine VL.un rfl rfl (ltn rfl) ?_
                        refine VL.un rfl rfl (ltn rfl) ?_
                        refine VL.un rfl rfl (ltn rfl) ?_
                        refine VL.un rfl rfl (ltn rfl) ?_
                        refine VL.un rfl rfl (ltn rfl) ?_
                        refine VL.un rfl rfl (ltn rfl) ?_
                        refine VL.un rfl rfl (ltn rfl) ?_
                        refine VL.un rfl rfl (ltn rfl) ?_
                        refine VL.un rfl rfl (ltn rfl) ?_
                        refine VL.un rfl rfl (ltn rfl) ?_
                        refine VL.un rfl rfl (ltn rfl) ?_
                        refine VL.va (op_pick rfl rfl (ltn rfl)) rfl ?_
                        refine VL.done ?_
                        refine VN.then ?_
                        refine VC.cond_t rfl ?_
                        refine VC.seq ?_
                        refine VC.region ?_
                        refine VL.va (op_assign rfl (ltn rfl)) rfl ?_
                        refine VL.done ?_
                        refine VN.then ?_
                        refine VC.ret ?_
                        refine VR.then ?_
                        cases h
                    · rw [if_neg c5562] at h
                      obtain rfl : b5561 = false := hb5561.symm.trans (beq_eq_false_iff_ne.2 c5562)
                      refine VL.un rfl rfl (ltn rfl) ?_
                      refine VL.un rfl rfl (ltn rfl) ?_
                      refine VL.un rfl rfl (ltn rfl) ?_
                      refine VL.un rfl rfl (ltn rfl) ?_
                      refine VL.un rfl rfl (ltn rfl) ?_
                      refine VL.un rfl rfl (ltn rfl) ?_
                      refine VL.va (op_pick rfl rfl (ltn rfl)) rfl ?_
                      refine VL.va (op_move rfl (ltn rfl)) rfl ?_
                      refine VL.va (op_move rfl (ltn rfl)) rfl ?_
                      refine VL.va (op_len (m := r13.length) 0 lenm Try.underlying22 rfl rfl (ltn rfl)) rfl ?_
                      refine VL.letter (decide ((r13.length : Int) > 0)) fun b5576 hb5576 => ?_
                      refine VL.va (op_cmp rfl rfl (congrArg some hb5576) (ltn rfl)) rfl ?_
                      refine VL.va (op_move rfl (ltn rfl)) rfl ?_
                      by_cases c5577 : (r13.length : Int) > 0
                      · rw [if_pos c5577] at h
                        obtain rfl : b5576 = true := hb5576.symm.trans (decide_eq_true c5577)
                        refine VL.va (op_move rfl (ltn rfl)) rfl ?_
                        refine VL.letter ((t1410 != 0)) fun b5578 hb5578 => ?_
                        refine VL.va (op_cmp rfl rfl (congrArg some hb5578) (ltn rfl)) rfl ?_
                        refine VL.va (op_move rfl (ltn rfl)) rfl ?_
                        by_cases c5579 : t1410 = 0
                        · rw [if_pos c5579] at h
                          obtain rfl : b5578 = false := hb5578.symm.trans (bne_eq_false_iff_eq.2 c5579)
                          refine VL.va (op_move rfl (ltn rfl)) rfl ?_
                          refine VL.va (op_move rfl (ltn rfl)) rfl ?_
                          replace h := Option.bind_eq_some_iff.1 h
                          obtain ⟨x5580, hx5580, h⟩ := h
                          refine VL.open (m := r13.length) 0 lenm rfl (pos_get hx5580) ?_
                          rintro ad5581 n5582 rfl
                          refine VL.va (op_indexAddr Try.underlying22 TI24 rfl rfl (by decide) (lt_get (by decide) hx5580) rfl (ltn rfl)) rfl ?_
                          refine VL.va (op_fieldAddr FI24_0 rfl (add_add _ _ _) (ltn rfl)) rfl ?_
                          refine VL.va (op_load_row (o := 0) 0 0 1 rfl rfl (get_map hx5580) TI3 rfl (by decide) (ltn rfl)) rfl ?_
                          refine VL.letter ((t1409 != x5580.f0)) fun b5583 hb5583 => ?_
                          refine VL.va (op_cmp rfl rfl (congrArg some hb5583) (ltn rfl)) rfl ?_
                          refine VL.va (op_pick rfl rfl (ltn rfl)) rfl ?_
                          refine VL.va (op_pick rfl rfl (ltn rfl)) rfl ?_
                          refine VL.va (op_pick rfl rfl (ltn rfl)) rfl ?_
                          refine VL.done ?_
                          refine VN.then ?_
                          by_cases c5584 : t1409 = x5580.f0
                          · rw [if_pos c5584] at h
                            obtain rfl : b5583 = false := hb5583.symm.trans (bne_eq_false_iff_eq.2 c5584)
                            refine VC.cond_f rfl ?_
                            refine VC.skip ?_
                            refine VN.meet0  [0] [3] h ⟨rfl, ⟨rfl, rfl, rfl, rfl, rfl, trivial⟩, ⟨⟨0, rfl⟩, trivial⟩, rfl, by decide, rfl, by decide⟩
                          · rw [if_neg c5584] at h
                            obtain rfl : b5583 = true := hb5583.symm.trans (bne_iff_ne.2 c5584)
                            refine VC.cond_t rfl ?_
                            refine VC.seq ?_
                            refine VC.region ?_
                            refine VL.va (op_assign rfl (ltn rfl)) rfl ?_
                            refine VL.done ?_
                            refine VN.then ?_
                            refine VC.ret ?_
                            refine VR.then ?_
                            cases h
                        · rw [if_neg c5579] at h
                          obtain rfl : b5578 = true := hb5578.symm.trans (bne_iff_ne.2 c5579)
                          refine VL.un rfl rfl (ltn rfl) ?_
                          refine VL.un rfl rfl (ltn rfl) ?_
                          refine VL.un rfl rfl (ltn rfl) ?_
                          refine VL.un rfl rfl (ltn rfl) ?_
                          refine VL.un rfl rfl (ltn rfl) ?_
                          refine VL.un rfl rfl (ltn rfl) ?_
                          refine VL.va (op_pick rfl rfl (ltn rfl)) rfl ?_
                          refine VL.va (op_pick rfl rfl (ltn rfl)) rfl ?_
                          refine VL.va (op_pick rfl rfl (ltn rfl)) rfl ?_
                          refine VL.done ?_
                          refine VN.then ?_
                          refine VC.cond_t rfl ?_
                          refine VC.seq ?_
                          refine VC.region ?_
                          refine VL.va (op_assign rfl (ltn rfl)) rfl ?_
                          refine VL.done ?_
                          refine VN.then ?_
                          refine VC.ret ?_
                          refine VR.then ?_
                          cases h
                      · rw [if_neg c5577] at h
                        obtain rfl : b5576 = false := hb5576.symm.trans (decide_eq_false c5577)
                        refine VL.un rfl rfl (ltn rfl) ?_
                        refine VL.un rfl rfl (ltn rfl) ?_
                        refine VL.un rfl rfl (ltn rfl) ?_
                        refine VL.un rfl rfl (ltn rfl) ?_
                        refine VL.un rfl rfl (ltn rfl) ?_
                        refine VL.un rfl rfl (ltn rfl) ?_
                        refine VL.un rfl rfl (ltn rfl) ?_
                        refine VL.un rfl rfl (ltn rfl) ?_
                        refine VL.un rfl rfl (ltn rfl) ?_
                        refine VL.un rfl rfl (ltn rfl) ?_
                        refine VL.va (op_pick rfl rfl (ltn rfl)) rfl ?_
                        refine VL.va (op_pick rfl rfl (ltn rfl)) rfl ?_
                        refine VL.done ?_
                        refine VN.then ?_
                        refine VC.cond_f rfl ?_
                        refine VC.skip ?_
                        refine VN.meet0  [0] [3] h ⟨rfl, ⟨rfl, rfl, rfl, rfl, rfl, trivial⟩, ⟨⟨0, rfl⟩, trivial⟩, rfl, by decide, rfl, by decide⟩
                  clear h
                  intro  h
                  unfold tarrylaw10_TimerSets.j4 at h
                  refine VC.seq ?_
                  refine VC.seq ?_
                  refine VC.region ?_
                  refine VL.va (op_load 0 3 rfl rfl TI24 rfl (fun h => absurd h (by decide)) (ltn rfl)) rfl ?_
                  replace h := Option.bind_eq_some_iff.1 h
                  obtain ⟨t5600, hA5601, h⟩ := h
                  refine VL.sC (o_call0 FO17 (tarryref10_May.ok a1_0 a1_1 a1_2 t5600 hA5601) rfl rfl (ltn rfl) (All_of .nil)) rfl ?_
                  rintro _ _ _ ⟨rfl, rfl, rfl⟩
                  by_cases c5602 : t5600 = true
                  · rw [if_pos c5602] at h
                    obtain rfl := c5602
                    refine VL.va (op_not rfl rfl (ltn rfl)) rfl ?_
                    refine VL.done ?_
                    refine VN.then ?_
                    refine VC.cond_f rfl ?_
                    refine VC.skip ?_
                    refine VN.then ?_
                    refine VC.seq ?_
                    refine VC.seq ?_
                    refine VC.region ?_
                    refine VL.va (op_move rfl (ltn rfl)) rfl ?_
                    refine VL.va (op_fieldAddr FI24_1 rfl (add_at _ _ _) (ltn rfl)) rfl ?_
                    refine VL.va (op_load 0 1 rfl rfl TI3 rfl (by decide) (ltn rfl)) rfl ?_
                    refine VL.va (op_fieldAddr FI24_2 rfl (add_at _ _ _) (ltn rfl)) rfl ?_
                    refine VL.va (op_load 0 1 rfl rfl TI3 rfl (by decide) (ltn rfl)) rfl ?_
                    replace h := Option.bind_eq_some_iff.1 h
                    obtain ⟨r5615, hA5616, h⟩ := h
                    refine VL.sC (o_call0 FO15 (tarryref10_Clear.ok k r13 a1_1 a1_2 v16 r5615 hA5616) rfl rfl (ltn rfl) (All_of (.cons (List.mem_of_getElem? (i := 0) rfl) .nil))) rfl ?_
                    rintro v5618 _ _ ⟨_, rfl, rfl, rfl⟩
                    refine VL.va (op_len_own (m := r5615.length) 0 lenm Try.underlying22 rfl rfl (ltn rfl)) rfl ?_
                    refine VL.letter (((r5615.length : Int) == 96)) fun b5619 hb5619 => ?_
                    refine VL.va (op_cmp rfl rfl (congrArg some hb5619) (ltn rfl)) rfl ?_
                    refine VL.done ?_
                    refine VN.then ?_
                    by_cases c5620 : (r5615.length : Int) = 96
                    · rw [if_pos c5620] at h
                      obtain rfl : b5619 = true := hb5619.symm.trans (beq_iff_eq.2 c5620)
                      refine VC.cond_t rfl ?_
                      refine VC.seq ?_
                      refine VC.region ?_
                      refine VL.va (op_move rfl (ltn rfl)) rfl ?_
                      refine VL.letter ((t1061 == 7)) fun b5624 hb5624 => ?_
                      refine VL.va (op_cmp rfl rfl (congrArg some hb5624) (ltn rfl)) rfl ?_
                      refine VL.va (op_move rfl (ltn rfl)) rfl ?_
                      by_cases c5625 : t1061 = 7
                      · rw [if_pos c5625] at h
                        obtain rfl : b5624 = true := hb5624.symm.trans (beq_iff_eq.2 c5625)
                        refine VL.va (op_move rfl (ltn rfl)) rfl ?_
                        refine VL.va (op_len_own (m := r1060.length) 1 lenm Try.underlying22 rfl rfl (ltn rfl)) rfl ?_
                        refine VL.letter (((r1060.length : Int) == 0)) fun b5626 hb5626 => ?_
                        refine VL.va (op_cmp rfl rfl (congrArg some hb5626) (ltn rfl)) rfl ?_
                        refine VL.va (op_pick rfl rfl (ltn rfl)) rfl ?_
                        refine VL.va (op_assign rfl (ltn rfl)) rfl ?_
                        refine VL.done ?_
                        refine VN.then ?_
                        refine VC.ret ?_
                        refine VR.then ?_
                        obtain rfl := Option.some.inj h
                        subst hb5626
                        exact VR.fn (rs := [.tmp 10]) [] [] [] rfl (.tmp rfl .nil) ⟨rfl, rfl, rfl⟩ trivial rfl (by decide)
                      · rw [if_neg c5625] at h
                        obtain rfl : b5624 = false := hb5624.symm.trans (beq_eq_false_iff_ne.2 c5625)
                        refine VL.un rfl rfl (ltn rfl) ?_
                        refine VL.un rfl rfl (ltn rfl) ?_
                        refine VL.un rfl rfl (ltn rfl) ?_
                        refine VL.va (op_pick rfl rfl (ltn rfl)) rfl ?_
                        refine VL.va (op_assign rfl (ltn rfl)) rfl ?_
                        refine VL.done ?_
                        refine VN.then ?_
                        refine VC.ret ?_
                        refine VR.then ?_
                        cases h
                    · rw [if_neg c5620] at h
                      obtain rfl : b5619 = false := hb5619.symm.trans (beq_eq_false_iff_ne.2 c5620)
                      refine VC.cond_f rfl ?_
                      refine VC.skip ?_
                      refine VN.then ?_
                      refine VC.seq ?_
                      refine VC.region ?_
                      refine VL.va (op_move rfl (ltn rfl)) rfl ?_
                      refine VL.letter ((t1061 == 0)) fun b5635 hb5635 => ?_
                      refine VL.va (op_cmp rfl rfl (congrArg some hb5635) (ltn rfl)) rfl ?_
                      refine VL.va (op_move rfl (ltn rfl)) rfl ?_
                      by_cases c5636 : t1061 = 0
                      · rw [if_pos c5636] at h
                        obtain rfl : b5635 = true := hb5635.symm.trans (beq_iff_eq.2 c5636)
                        refine VL.va (op_move rfl (ltn rfl)) rfl ?_
                        refine VL.va (op_move rfl (ltn rfl)) rfl ?_
                        refine VL.va (op_load 0 3 rfl rfl TI24 rfl (fun h => absurd h (by decide)) (ltn rfl)) rfl ?_
                        replace h := Option.bind_eq_some_iff.1 h
                        obtain ⟨r5637, hA5638, h⟩ := h
                        refine VL.sC (o_call0 FO18 (tarryref10_Set.ok k r13 a1_0 a1_1 a1_2 v16 r5637 hA5638) rfl rfl (ltn rfl) (All_of (.cons (List.mem_of_getElem? (i := 0) rfl) .nil))) rfl ?_
                        rintro v5640 _ _ ⟨_, rfl, rfl, rfl⟩
                        replace h := Option.bind_eq_some_iff.1 h
                        obtain ⟨t5641, hA5642, h⟩ := h
                        refine VL.sC (o_call_b0 FO10 (tarryref10_Same.ok k r1060 r5637 v1064 v5640 t5641 hA5642) rfl rfl (ltn rfl) (All_of (.cons (.inr (.inl ⟨_, List.mem_of_getElem? (i := 2) rfl, rfl⟩)) (.cons (.inr (.inl ⟨_, List.mem_of_getElem? (i := 0) rfl, rfl⟩)) .nil))) (by rintro _ _ _ ⟨rfl, rfl, rfl⟩; rfl)) rfl ?_
                        rintro _ _ _ ⟨rfl, rfl, rfl⟩
                        refine VL.va (op_pick rfl rfl (ltn rfl)) rfl ?_
                        refine VL.va (op_assign rfl (ltn rfl)) rfl ?_
                        refine VL.done ?_
                        refine VN.then ?_
                        refine VC.ret ?_
                        obtain rfl := Option.some.inj h
                        exact VR.fn (rs := [.tmp 10]) [] [] [] rfl (.tmp rfl .nil) ⟨rfl, rfl, rfl⟩ trivial rfl (by decide)
                      · rw [if_neg c5636] at h
                        obtain rfl : b5635 = false := hb5635.symm.trans (beq_eq_false_iff_ne.2 c5636)
                        refine VL.un rfl rfl (ltn rfl) ?_
                        refine VL.un rfl rfl (ltn rfl) ?_
                        refine VL.un rfl rfl (ltn rfl) ?_
                        refine VL.un rfl rfl (ltn rfl) ?_
                        refine VL.un rfl rfl (ltn rfl) ?_
                        refine VL.va (op_pick rfl rfl (ltn rfl)) rfl ?_
                        refine VL.va (op_assign rfl (ltn rfl)) rfl ?_
                        refine VL.done ?_
                        refine VN.then ?_
                        refine VC.ret ?_
                        cases h
                  · rw [if_neg c5602] at h
                    obtain rfl := Bool.eq_false_iff.2 c5602
                    refine VL.va (op_not rfl rfl (ltn rfl)) rfl ?_
                    refine VL.done ?_
                    refine VN.then ?_
                    refine VC.cond_t rfl ?_
                    refine VC.seq ?_
                    refine VC.region ?_
                    refine VL.va (op_move rfl (ltn rfl)) rfl ?_
                    refine VL.letter ((t1061 == 1)) fun b5646 hb5646 => ?_
                    refine VL.va (op_cmp rfl rfl (congrArg some hb5646) (ltn rfl)) rfl ?_
                    refine VL.va (op_move rfl (ltn rfl)) rfl ?_
                    by_cases c5647 : t1061 = 1
                    · rw [if_pos c5647] at h
                      obtain rfl : b5646 = true := hb5646.symm.trans (beq_iff_eq.2 c5647)
                      refine VL.va (op_move rfl (ltn rfl)) rfl ?_
                      refine VL.va (op_len_own (m := r1060.length) 0 lenm Try.underlying22 rfl rfl (ltn rfl)) rfl ?_
                      refine VL.letter (((r1060.length : Int) == 0)) fun b5648 hb5648 => ?_
                      refine VL.va (op_cmp rfl rfl (congrArg some hb5648) (ltn rfl)) rfl ?_
                      refine VL.va (op_pick rfl rfl (ltn rfl)) rfl ?_
                      refine VL.va (op_assign rfl (ltn rfl)) rfl ?_
                      refine VL.done ?_
                      refine VN.then ?_
                      refine VC.ret ?_
                      refine VR.then ?_
                      obtain rfl := Option.some.inj h
                      subst hb5648
                      exact VR.fn (rs := [.tmp 10]) [] [] [] rfl (.tmp rfl .nil) ⟨rfl, rfl, rfl⟩ trivial rfl (by decide)
                    · rw [if_neg c5647] at h
                      obtain rfl : b5646 = false := hb5646.symm.trans (beq_eq_false_iff_ne.2 c5647)
                      refine VL.un rfl rfl (ltn rfl) ?_
                      refine VL.un rfl rfl (ltn rfl) ?_
                      refine VL.un rfl rfl (ltn rfl) ?_
                      refine VL.va (op_pick rfl rfl (ltn rfl)) rfl ?_
                      refine VL.va (op_assign rfl (ltn rfl)) rfl ?_
                      refine VL.done ?_
                      refine VN.then ?_
                      refine VC.ret ?_
                      refine VR.then ?_
                      cases h
                · rw [if_neg c5101] at h
                  obtain rfl := Bool.eq_false_iff.2 c5101
                  refine VL.va (op_not rfl rfl (ltn rfl)) rfl ?_
                  refine VL.va (op_pick rfl rfl (ltn rfl)) rfl ?_
                  refine VL.done ?_
                  refine VN.then ?_
                  refine VC.cond_t rfl ?_
                  refine VC.seq ?_
                  refine VC.region ?_
                  refine VL.va (op_assign rfl (ltn rfl)) rfl ?_
                  refine VL.done ?_
                  refine VN.then ?_
                  refine VC.ret ?_
                  refine VR.then ?_
                  cases h
              · rw [if_neg c5094] at h
                obtain rfl := Bool.eq_false_iff.2 c5094
                refine VL.va (op_not rfl rfl (ltn rfl)) rfl ?_
                refine VL.va (op_pick rfl rfl (ltn rfl)) rfl ?_
                refine VL.va (op_move rfl (ltn rfl)) rfl ?_
                refine VL.un rfl rfl (ltn rfl) ?_
                refine VL.un rfl rfl (ltn rfl) ?_
                refine VL.un rfl rfl (ltn rfl) ?_
                refine VL.un rfl rfl (ltn rfl) ?_
                refine VL.un rfl rfl (ltn rfl) ?_
                refine VL.un rfl rfl (ltn rfl) ?_
                refine VL.va (op_pick rfl rfl (ltn rfl)) rfl ?_
                refine VL.done ?_
                refine VN.then ?_
                refine VC.cond_t rfl ?_
                refine VC.seq ?_
                refine VC.region ?_
                refine VL.va (op_assign rfl (ltn rfl)) rfl ?_
                refine VL.done ?_
                refine VN.then ?_
                refine VC.ret ?_
                refine VR.then ?_
                cases h
            · rw [if_neg c5087] at h
              obtain rfl : b5086 = true := hb5086.symm.trans (bne_iff_ne.2 c5087)
              refine VL.un rfl rfl (ltn rfl) ?_
              refine VL.un rfl rfl (ltn rfl) ?_
              refine VL.un rfl rfl (ltn rfl) ?_
              refine VL.un rfl rfl (ltn rfl) ?_
              refine VL.un rfl rfl (ltn rfl) ?_
              refine VL.un rfl rfl (ltn rfl) ?_
              refine VL.va (op_pick rfl rfl (ltn rfl)) rfl ?_
              refine VL.va (op_move rfl (ltn rfl)) rfl ?_
              refine VL.un rfl rfl (ltn rfl) ?_
              refine VL.un rfl rfl (ltn rfl) ?_
              refine VL.un rfl rfl (ltn rfl) ?_
              refine VL.un rfl rfl (ltn rfl) ?_
              refine VL.un rfl rfl (ltn rfl) ?_
              refine VL.un rfl rfl (ltn rfl) ?_
              refine VL.va (op_pick rfl rfl (ltn rfl)) rfl ?_
              refine VL.done ?_
              refine VN.then ?_
              refine VC.cond_t rfl ?_
              refine VC.seq ?_
              refine VC.region ?_
              refine VL.va (op_assign rfl (ltn rfl)) rfl ?_
              refine VL.done ?_
              refine VN.then ?_
              refine VC.ret ?_
              refine VR.then ?_
              cases h
          · rw [if_neg c5085] at h
            obtain rfl := Bool.eq_false_iff.2 c5085
            refine VL.va (op_not rfl rfl (ltn rfl)) rfl ?_
            refine VL.va (op_pick rfl rfl (ltn rfl)) rfl ?_
            refine VL.va (op_move rfl (ltn rfl)) rfl ?_
            refine VL.un rfl rfl (ltn rfl) ?_
            refine VL.un rfl rfl (ltn rfl) ?_
            refine VL.va (op_pick rfl rfl (ltn rfl)) rfl ?_
            refine VL.va (op_move rfl (ltn rfl)) rfl ?_
            refine VL.un rfl rfl (ltn rfl) ?_
            refine VL.un rfl rfl (ltn rfl) ?_
            refine VL.un rfl rfl (ltn rfl) ?_
            refine VL.un rfl rfl (ltn rfl) ?_
            refine VL.un rfl rfl (ltn rfl) ?_
            refine VL.un rfl rfl (ltn rfl) ?_
            refine VL.va (op_pick rfl rfl (ltn rfl)) rfl ?_
            refine VL.va (op_move rfl (ltn rfl)) rfl ?_
            refine VL.un rfl rfl (ltn rfl) ?_
            refine VL.un rfl rfl (ltn rfl) ?_
            refine VL.un rfl rfl (ltn rfl) ?_
            refine VL.un rfl rfl (ltn rfl) ?_
            refine VL.un rfl rfl (ltn rfl) ?_
            refine VL.un rfl rfl (ltn rfl) ?_
            refine VL.va (op_pick rfl rfl (ltn rfl)) rfl ?_
            refine VL.done ?_
            refine VN.then ?_
            refine VC.cond_t rfl ?_
            refine VC.seq ?_
            refine VC.region ?_
            refine VL.va (op_assign rfl (ltn rfl)) rfl ?_
            refine VL.done ?_
            refine VN.then ?_
            refine VC.ret ?_
            refine VR.then ?_
            cases h
        · rw [if_neg c5078] at h
          obtain rfl : b5077 = true := hb5077.symm.trans (bne_iff_ne.2 c5078)
          refine VL.un rfl rfl (ltn rfl) ?_
          refine VL.un rfl rfl (ltn rfl) ?_
          refine VL.un rfl rfl (ltn rfl) ?_
          refine VL.un rfl rfl (ltn rfl) ?_
          refine VL.un rfl rfl (ltn rfl) ?_
          refine VL.un rfl rfl (ltn rfl) ?_
          refine VL.un rfl rfl (ltn rfl) ?_
          refine VL.va (op_pick rfl rfl (ltn rfl)) rfl ?_
          refine VL.va (op_move rfl (ltn rfl)) rfl ?_
          refine VL.un rfl rfl (ltn rfl) ?_
          refine VL.un rfl rfl (ltn rfl) ?_
          refine VL.va (op_pick rfl rfl (ltn rfl)) rfl ?_
          refine VL.va (op_move rfl (ltn rfl)) rfl ?_
          refine VL.un rfl rfl (ltn rfl) ?_
          refine VL.un rfl rfl (ltn rfl) ?_
          refine VL.un rfl rfl (ltn rfl) ?_
          refine VL.un rfl rfl (ltn rfl) ?_
          refine VL.un rfl rfl (ltn rfl) ?_
          refine VL.un rfl rfl (ltn rfl) ?_
          refine VL.va (op_pick rfl rfl (ltn rfl)) rfl ?_
          refine VL.va (op_move rfl (ltn rfl)) rfl ?_
          refine VL.un rfl rfl (ltn rfl) ?_
          refine VL.un rfl rfl (ltn rfl) ?_
          refine VL.un rfl rfl (ltn rfl) ?_
          refine VL.un rfl rfl (ltn rfl) ?_
          refine VL.un rfl rfl (ltn rfl) ?_
          refine VL.un rfl rfl (ltn rfl) ?_
          refine VL.va (op_pick rfl rfl (ltn rfl)) rfl ?_
          refine VL.done ?_
          refine VN.then ?_
          refine VC.cond_t rfl ?_
          refine VC.seq ?_
          refine VC.region ?_
          refine VL.va (op_assign rfl (ltn rfl)) rfl ?_
          refine VL.done ?_
          refine VN.then ?_
          refine VC.ret ?_
          refine VR.then ?_
          cases h
    · rw [if_neg c3170] at h
      obtain rfl := Bool.eq_false_iff.2 c3170
      refine VL.va (op_not rfl rfl (ltn rfl)) rfl ?_
      refine VL.va (op_pick rfl rfl (ltn rfl)) rfl ?_
      refine VL.done ?_
      refine VN.then ?_
      refine VC.cond_t rfl ?_
      refine VC.seq ?_
      refine VC.region ?_
      refine VL.va (op_assign rfl (ltn rfl)) rfl ?_
      refine VL.done ?_
      refine VN.then ?_
      refine VC.ret ?_
      refine VR.then ?_
      cases h
  · rw [if_neg c3167] at h
    obtain rfl : b3166 = true := hb3166.symm.trans (by simpa using c3167)
    refine VL.un rfl rfl (ltn rfl) ?_
    refine VL.un rfl rfl (ltn rfl) ?_
    refine VL.va (op_pick rfl rfl (ltn rfl)) rfl ?_
    refine VL.done ?_
    refine VN.then ?_
    refine VC.cond_t rfl ?_
    refine VC.seq ?_
    refine VC.region ?_
    refine VL.va (op_assign rfl (ltn rfl)) rfl ?_
    refine VL.done ?_
    refine VN.then ?_
    refine VC.ret ?_
    refine VR.then ?_
    cases h

end Go.Proofs.Ytmcfgahjchkgaaa.PTimerSets
