/- Written by a program of this repo: what the program's functions do, each as a Lean function, shown of the loaded code; or a statement's row over that; no condition of its own. -/
import Derived.Test.YtagclnkmndgeoaaGPayGoesx0
namespace Go.Proofs.Ytagclnkmndgeoaa.PPayGoes
open Go Go.RowKit Go.Proofs.YtagclnkmndgeoaaV
set_option linter.unusedVariables false
set_option linter.unusedSimpArgs false

set_option maxHeartbeats 4000000 in
set_option maxRecDepth 100000 in
theorem tarrylaw11_PayGoes.ok (k : Nat) (a0_0 : Int) (a0_1 : Int) (a0_2 : Int) (a0_3 : Int) (a1 : Int) (a2 : Int) (a3 : Int)  (r1 : Bool) (h : tarrylaw11_PayGoes.f k a0_0 a0_1 a0_2 a0_3 a1 a2 a3 = some r1) :
    VCalls Try.prog 5 [.agg #[.int .i64 a0_0, .int .i64 a0_1, .int .i64 a0_2, .int .i64 a0_3], .int .i64 a1, .int .i64 a2, .int .i64 a3] [] (fun v G own => v = .bool r1 ∧ G = [] ∧ own = []) := by
  refine VCalls.intro Try.func5 rfl (len rfl) fun E hC => ?_
  unfold tarrylaw11_PayGoes.f at h
  refine VC.seq ?_
  refine VC.region ?_
  refine VL.sG (o_box rfl (.agg (.c rfl (.c rfl (.c rfl (.c rfl .nil))))) (ltn rfl)) rfl ?_
  intro g1
  refine VL.va (op_assign rfl (ltn rfl)) rfl ?_
  refine VL.done ?_
  refine VN.then ?_
  refine VC.seq ?_
  refine VC.region ?_
  refine VL.va (op_load 0 4 rfl rfl TI23 rfl (fun h => absurd h (by decide)) (ltn rfl)) rfl ?_
  refine VL.va (op_move rfl (ltn rfl)) rfl ?_
  replace h := Option.bind_eq_some_iff.1 h
  obtain ⟨⟨t2, t3, t4, t5, t6, t7⟩, hA8, h⟩ := h
  dsimp only at h
  refine VL.sC (o_call0 FO14 (pay_Lapse.ok a0_0 a0_1 a0_2 a0_3 a1 t2 t3 t4 t5 t6 t7 hA8) rfl rfl (ltn rfl) (All_of .nil)) rfl ?_
  rintro _ _ _ ⟨rfl, rfl, rfl⟩
  refine VL.va (op_move rfl (ltn rfl)) rfl ?_
  refine VL.va (op_extract rfl rfl (ltn rfl)) rfl ?_
  refine VL.va (op_extract rfl rfl (ltn rfl)) rfl ?_
  refine VL.va (op_extract rfl rfl (ltn rfl)) rfl ?_
  refine VL.sG (o_alloc (us := [.int .i64 0, .int .i64 0, .int .i64 0, .int .i64 0]) Z23 rfl (ltn rfl)) rfl ?_
  intro g9
  refine VL.step1 (o_store 0 4 rfl rfl rfl TI23 (.agg (.c rfl (.c rfl (.c rfl (.c rfl .nil))))) rfl (len rfl)) rfl ?_
  refine VL.va (op_assign rfl (ltn rfl)) rfl ?_
  refine VL.va (op_assign rfl (ltn rfl)) rfl ?_
  refine VL.done ?_
  refine VN.then ?_
  refine VC.seq ?_
  refine VC.region ?_
  refine VL.va (op_load 1 4 rfl rfl TI23 rfl (fun h => absurd h (by decide)) (ltn rfl)) rfl ?_
  refine VL.va (op_move rfl (ltn rfl)) rfl ?_
  replace h := Option.bind_eq_some_iff.1 h
  obtain ⟨⟨t10, t11, t12, t13, t14⟩, hA15, h⟩ := h
  dsimp only at h
  refine VL.sC (o_call0 FO16 (pay_Renew.ok a0_0 a0_1 a0_2 a0_3 a2 t10 t11 t12 t13 t14 hA15) rfl rfl (ltn rfl) (All_of .nil)) rfl ?_
  rintro _ _ _ ⟨rfl, rfl, rfl⟩
  refine VL.va (op_move rfl (ltn rfl)) rfl ?_
  refine VL.va (op_extract rfl rfl (ltn rfl)) rfl ?_
  refine VL.va (op_extract rfl rfl (ltn rfl)) rfl ?_
  refine VL.sG (o_alloc (us := [.int .i64 0, .int .i64 0, .int .i64 0, .int .i64 0]) Z23 rfl (ltn rfl)) rfl ?_
  intro g16
  refine VL.step1 (o_store 0 4 rfl rfl rfl TI23 (.agg (.c rfl (.c rfl (.c rfl (.c rfl .nil))))) rfl (len rfl)) rfl ?_
  refine VL.va (op_assign rfl (ltn rfl)) rfl ?_
  refine VL.done ?_
  refine VN.then ?_
  refine VC.seq ?_
  refine VC.region ?_
  refine VL.va (op_load 2 4 rfl rfl TI23 rfl (fun h => absurd h (by decide)) (ltn rfl)) rfl ?_
  refine VL.va (op_move rfl (ltn rfl)) rfl ?_
  replace h := Option.bind_eq_some_iff.1 h
  obtain ⟨⟨t17, t18, t19, t20, t21⟩, hA22, h⟩ := h
  dsimp only at h
  refine VL.sC (o_call0 FO13 (pay_Catch.ok a0_0 a0_1 a0_2 a0_3 a3 t17 t18 t19 t20 t21 hA22) rfl rfl (ltn rfl) (All_of .nil)) rfl ?_
  rintro _ _ _ ⟨rfl, rfl, rfl⟩
  refine VL.va (op_move rfl (ltn rfl)) rfl ?_
  refine VL.va (op_extract rfl rfl (ltn rfl)) rfl ?_
  refine VL.va (op_extract rfl rfl (ltn rfl)) rfl ?_
  refine VL.sG (o_alloc (us := [.int .i64 0, .int .i64 0, .int .i64 0, .int .i64 0]) Z23 rfl (ltn rfl)) rfl ?_
  intro g23
  refine VL.step1 (o_store 0 4 rfl rfl rfl TI23 (.agg (.c rfl (.c rfl (.c rfl (.c rfl .nil))))) rfl (len rfl)) rfl ?_
  refine VL.va (op_assign rfl (ltn rfl)) rfl ?_
  refine VL.done ?_
  refine VN.then ?_
  refine VC.seq ?_
  refine VC.region ?_
  refine VL.va (op_load 3 4 rfl rfl TI23 rfl (fun h => absurd h (by decide)) (ltn rfl)) rfl ?_
  replace h := Option.bind_eq_some_iff.1 h
  obtain ⟨⟨t24, t25, t26, t27, t28⟩, hA29, h⟩ := h
  dsimp only at h
  refine VL.sC (o_call0 FO15 (pay_Close.ok a0_0 a0_1 a0_2 a0_3 t24 t25 t26 t27 t28 hA29) rfl rfl (ltn rfl) (All_of .nil)) rfl ?_
  rintro _ _ _ ⟨rfl, rfl, rfl⟩
  refine VL.va (op_move rfl (ltn rfl)) rfl ?_
  refine VL.va (op_extract rfl rfl (ltn rfl)) rfl ?_
  refine VL.va (op_extract rfl rfl (ltn rfl)) rfl ?_
  refine VL.sG (o_alloc (us := [.int .i64 0, .int .i64 0, .int .i64 0, .int .i64 0]) Z23 rfl (ltn rfl)) rfl ?_
  intro g30
  refine VL.step1 (o_store 0 4 rfl rfl rfl TI23 (.agg (.c rfl (.c rfl (.c rfl (.c rfl .nil))))) rfl (len rfl)) rfl ?_
  refine VL.va (op_assign rfl (ltn rfl)) rfl ?_
  refine VL.done ?_
  refine VN.then ?_
  refine VC.seq ?_
  refine VC.region ?_
  refine VL.va (op_build (vals := []) (vcs := []) (cells := [.int .i64 0, .int .i64 0, .int .i64 0, .int .i64 0]) SI23 rfl .nil (by kernel_rfl) (ltn rfl)) rfl ?_
  refine VL.sG (o_alloc (us := [.int .i64 0, .int .i64 0, .int .i64 0, .int .i64 0]) Z23 rfl (ltn rfl)) rfl ?_
  intro g31
  refine VL.step1 (o_store 0 4 rfl rfl rfl TI23 (.agg (.c rfl (.c rfl (.c rfl (.c rfl .nil))))) rfl (len rfl)) rfl ?_
  refine VL.done ?_
  refine VN.then ?_
  refine VC.seq ?_
  refine VC.seq ?_
  refine VC.region ?_
  replace h := Option.bind_eq_some_iff.1 h
  obtain ⟨t41, hA42, h⟩ := h
  refine VL.sC (o_call0 FO11 (tarrylaw11_alive.ok k t41 hA42) rfl rfl (ltn rfl) (All_of .nil)) rfl ?_
  rintro _ _ _ ⟨rfl, rfl, rfl⟩
  by_cases c43 : t41 = true
  · rw [if_pos c43] at h
    obtain rfl := c43
    refine VL.va (op_not rfl rfl (ltn rfl)) rfl ?_
    refine VL.done ?_
    refine VN.then ?_
    refine VC.cond_f rfl ?_
    refine VC.skip ?_
    refine VN.then ?_
    refine VC.seq ?_
    refine VC.join1 (fun (q24286 : Bool) => ⟨209, [(1, .int .i64 a1), (2, .int .i64 a2), (3, .int .i64 a3), (4, .pointer (some ⟨g1, 0, none⟩)), (8, .bool false), (9, .pointer (some ⟨g9, 0, none⟩)), (10, .bool t6), (11, .int .i64 t7), (12, .pointer (some ⟨g16, 0, none⟩)), (13, .int .i64 t14), (14, .pointer (some ⟨g23, 0, none⟩)), (15, .int .i64 t21), (16, .pointer (some ⟨g30, 0, none⟩)), (17, .int .i64 t28), (18, .pointer (some ⟨g31, 0, none⟩)), (53, .bool q24286)], [], [(g31, 23, [.int .i64 0, .int .i64 0, .int .i64 0, .int .i64 0]), (g30, 23, [.int .i64 t24, .int .i64 t25, .int .i64 t26, .int .i64 t27]), (g23, 23, [.int .i64 t17, .int .i64 t18, .int .i64 t19, .int .i64 t20]), (g16, 23, [.int .i64 t10, .int .i64 t11, .int .i64 t12, .int .i64 t13]), (g9, 23, [.int .i64 t2, .int .i64 t3, .int .i64 t4, .int .i64 t5]), (g1, 23, [.int .i64 a0_0, .int .i64 a0_1, .int .i64 a0_2, .int .i64 a0_3])], []⟩) (fun (q24286 : Bool) => tarrylaw11_PayGoes.j98 k a0_0 a0_1 a0_2 a0_3 a1 a2 a3 t10 t11 t12 t13 t14 t17 t18 t19 t2 t20 t21 t24 t25 t26 t27 t28 t3 t4 t5 t6 t7 q24286 = some r1) ?_ ?_
    · refine VC.region ?_
      refine VL.va (op_load 5 4 rfl rfl TI23 rfl (fun h => absurd h (by decide)) (ltn rfl)) rfl ?_
      replace h := Option.bind_eq_some_iff.1 h
      obtain ⟨t24283, hA24284, h⟩ := h
      refine VL.sC (o_call0 FO9 (tarrylaw11_right.ok a0_0 a0_1 a0_2 a0_3 t24283 hA24284) rfl rfl (ltn rfl) (All_of .nil)) rfl ?_
      rintro _ _ _ ⟨rfl, rfl, rfl⟩
      by_cases c24285 : t24283 = true
      · rw [if_pos c24285] at h
        obtain rfl := c24285
        refine VL.va (op_not rfl rfl (ltn rfl)) rfl ?_
        refine VL.done ?_
        refine VN.meet1 false [0, 1, 2, 3, 4, 5] [] h ⟨rfl, ⟨rfl, rfl, rfl, rfl, rfl, rfl, rfl, rfl, rfl, rfl, rfl, rfl, rfl, rfl, rfl, rfl, trivial⟩, trivial, rfl, by decide, rfl, by decide⟩
      · rw [if_neg c24285] at h
        obtain rfl := Bool.eq_false_iff.2 c24285
        refine VL.va (op_not rfl rfl (ltn rfl)) rfl ?_
        refine VL.done ?_
        refine VN.meet1 true [0, 1, 2, 3, 4, 5] [] h ⟨rfl, ⟨rfl, rfl, rfl, rfl, rfl, rfl, rfl, rfl, rfl, rfl, rfl, rfl, rfl, rfl, rfl, rfl, trivial⟩, trivial, rfl, by decide, rfl, by decide⟩
    clear h
    intro q24286 h
    unfold tarrylaw11_PayGoes.j98 at h
    by_cases c24287 : q24286 = true
    · rw [if_pos c24287] at h
      obtain rfl := c24287
      refine VC.cond_t rfl ?_
      refine VC.seq ?_
      refine VC.region ?_
      refine VL.va (op_move rfl (ltn rfl)) rfl ?_
      refine VL.letter ((t7 == 1)) fun b24304 hb24304 => ?_
      refine VL.va (op_cmp rfl rfl (congrArg some hb24304) (ltn rfl)) rfl ?_
      refine VL.va (op_move rfl (ltn rfl)) rfl ?_
      by_cases c24305 : t7 = 1
      · rw [if_pos c24305] at h
        obtain rfl : b24304 = true := hb24304.symm.trans (beq_iff_eq.2 c24305)
        refine VL.va (op_move rfl (ltn rfl)) rfl ?_
        refine VL.letter ((t14 == 1)) fun b24306 hb24306 => ?_
        refine VL.va (op_cmp rfl rfl (congrArg some hb24306) (ltn rfl)) rfl ?_
        refine VL.va (op_pick rfl rfl (ltn rfl)) rfl ?_
        refine VL.va (op_move rfl (ltn rfl)) rfl ?_
        by_cases c24307 : t14 = 1
        · rw [if_pos c24307] at h
          obtain rfl : b24306 = true := hb24306.symm.trans (beq_iff_eq.2 c24307)
          refine VL.va (op_move rfl (ltn rfl)) rfl ?_
          refine VL.letter ((t21 == 1)) fun b24308 hb24308 => ?_
          refine VL.va (op_cmp rfl rfl (congrArg some hb24308) (ltn rfl)) rfl ?_
          refine VL.va (op_pick rfl rfl (ltn rfl)) rfl ?_
          refine VL.va (op_move rfl (ltn rfl)) rfl ?_
          by_cases c24309 : t21 = 1
          · rw [if_pos c24309] at h
            obtain rfl : b24308 = true := hb24308.symm.trans (beq_iff_eq.2 c24309)
            refine VL.va (op_move rfl (ltn rfl)) rfl ?_
            refine VL.letter ((t28 == 1)) fun b24310 hb24310 => ?_
            refine VL.va (op_cmp rfl rfl (congrArg some hb24310) (ltn rfl)) rfl ?_
            refine VL.va (op_pick rfl rfl (ltn rfl)) rfl ?_
            refine VL.va (op_move rfl (ltn rfl)) rfl ?_
            by_cases c24311 : t28 = 1
            · rw [if_pos c24311] at h
              obtain rfl : b24310 = true := hb24310.symm.trans (beq_iff_eq.2 c24311)
              refine VL.va (op_move rfl (ltn rfl)) rfl ?_
              by_cases c24312 : t6 = true
              · rw [if_pos c24312] at h
                obtain rfl := c24312
                refine VL.va (op_not rfl rfl (ltn rfl)) rfl ?_
                refine VL.va (op_pick rfl rfl (ltn rfl)) rfl ?_
                refine VL.va (op_move rfl (ltn rfl)) rfl ?_
                refine VL.un rfl rfl (ltn rfl) ?_
                refine VL.un rfl rfl (ltn rfl) ?_
                refine VL.un rfl rfl (ltn rfl) ?_
                refine VL.va (op_pick rfl rfl (ltn rfl)) rfl ?_
                refine VL.va (op_move rfl (ltn rfl)) rfl ?_
                refine VL.un rfl rfl (ltn rfl) ?_
                refine VL.un rfl rfl (ltn rfl) ?_
                refine VL.un rfl rfl (ltn rfl) ?_
                refine VL.va (op_pick rfl rfl (ltn rfl)) rfl ?_
                refine VL.va (op_move rfl (ltn rfl)) rfl ?_
                refine VL.un rfl rfl (ltn rfl) ?_
                refine VL.un rfl rfl (ltn rfl) ?_
                refine VL.un rfl rfl (ltn rfl) ?_
                refine VL.va (op_pick rfl rfl (ltn rfl)) rfl ?_
                refine VL.va (op_move rfl (ltn rfl)) rfl ?_
                refine VL.un rfl rfl (ltn rfl) ?_
                refine VL.un rfl rfl (ltn rfl) ?_
                refine VL.un rfl rfl (ltn rfl) ?_
                refine VL.va (op_pick rfl rfl (ltn rfl)) rfl ?_
                refine VL.va (op_assign rfl (ltn rfl)) rfl ?_
                refine VL.done ?_
                refine VN.then ?_
                refine VC.ret ?_
                refine VR.then ?_
                cases h
              · rw [if_neg c24312] at h
                obtain rfl := Bool.eq_false_iff.2 c24312
                refine VL.va (op_not rfl rfl (ltn rfl)) rfl ?_
                refine VL.va (op_pick rfl rfl (ltn rfl)) rfl ?_
                refine VL.va (op_move rfl (ltn rfl)) rfl ?_
                refine VL.va (op_load 4 4 rfl rfl TI23 rfl (fun h => absurd h (by decide)) (ltn rfl)) rfl ?_
                refine VL.va (op_load 0 4 rfl rfl TI23 rfl (fun h => absurd h (by decide)) (ltn rfl)) rfl ?_
                refine VL.letter ((((t2 == 0) && ((t3 == 0) && ((t4 == 0) && (t5 == 0)))))) fun b24313 hb24313 => ?_
                refine VL.va (op_eqS rfl rfl EG23 (EQ23 t2 t3 t4 t5 0 0 0 0) hb24313 (ltn rfl)) rfl ?_
                refine VL.va (op_pick rfl rfl (ltn rfl)) rfl ?_
                refine VL.va (op_move rfl (ltn rfl)) rfl ?_
                by_cases c24314 : (((t2 == 0) && ((t3 == 0) && ((t4 == 0) && (t5 == 0))))) = true
                · rw [if_pos c24314] at h
                  obtain rfl : b24313 = true := hb24313.symm.trans (c24314)
                  refine VL.va (op_load 3 4 rfl rfl TI23 rfl (fun h => absurd h (by decide)) (ltn rfl)) rfl ?_
                  refine VL.va (op_load 0 4 rfl rfl TI23 rfl (fun h => absurd h (by decide)) (ltn rfl)) rfl ?_
                  refine VL.letter ((((t10 == 0) && ((t11 == 0) && ((t12 == 0) && (t13 == 0)))))) fun b24315 hb24315 => ?_
                  refine VL.va (op_eqS rfl rfl EG23 (EQ23 t10 t11 t12 t13 0 0 0 0) hb24315 (ltn rfl)) rfl ?_
                  refine VL.va (op_pick rfl rfl (ltn rfl)) rfl ?_
                  refine VL.va (op_move rfl (ltn rfl)) rfl ?_
                  by_cases c24316 : (((t10 == 0) && ((t11 == 0) && ((t12 == 0) && (t13 == 0))))) = true
                  · rw [if_pos c24316] at h
                    obtain rfl : b24315 = true := hb24315.symm.trans (c24316)
                    refine VL.va (op_load 2 4 rfl rfl TI23 rfl (fun h => absurd h (by decide)) (ltn rfl)) rfl ?_
                    refine VL.va (op_load 0 4 rfl rfl TI23 rfl (fun h => absurd h (by decide)) (ltn rfl)) rfl ?_
                    refine VL.letter ((((t17 == 0) && ((t18 == 0) && ((t19 == 0) && (t20 == 0)))))) fun b24317 hb24317 => ?_
                    refine VL.va (op_eqS rfl rfl EG23 (EQ23 t17 t18 t19 t20 0 0 0 0) hb24317 (ltn rfl)) rfl ?_
                    refine VL.va (op_pick rfl rfl (ltn rfl)) rfl ?_
                    refine VL.va (op_move rfl (ltn rfl)) rfl ?_
                    by_cases c24318 : (((t17 == 0) && ((t18 == 0) && ((t19 == 0) && (t20 == 0))))) = true
                    · rw [if_pos c24318] at h
                      obtain rfl : b24317 = true := hb24317.symm.trans (c24318)
                      refine VL.va (op_load 1 4 rfl rfl TI23 rfl (fun h => absurd h (by decide)) (ltn rfl)) rfl ?_
                      refine VL.va (op_load 0 4 rfl rfl TI23 rfl (fun h => absurd h (by decide)) (ltn rfl)) rfl ?_
                      refine VL.letter ((((t24 == 0) && ((t25 == 0) && ((t26 == 0) && (t27 == 0)))))) fun b24319 hb24319 => ?_
                      refine VL.va (op_eqS rfl rfl EG23 (EQ23 t24 t25 t26 t27 0 0 0 0) hb24319 (ltn rfl)) rfl ?_
                      refine VL.va (op_pick rfl rfl (ltn rfl)) rfl ?_
                      refine VL.va (op_assign rfl (ltn rfl)) rfl ?_
                      refine VL.done ?_
                      refine VN.then ?_
                      refine VC.ret ?_
                      refine VR.then ?_
                      obtain rfl := Option.some.inj h
                      subst hb24319
                      exact VR.fn (rs := [.tmp 8]) [] [] [] rfl (.tmp rfl .nil) ⟨rfl, rfl, rfl⟩ trivial rfl (by decide)
                    · rw [if_neg c24318] at h
                      obtain rfl : b24317 = false := hb24317.symm.trans (Bool.eq_false_iff.2 c24318)
                      refine VL.un rfl rfl (ltn rfl) ?_
                      refine VL.un rfl rfl (ltn rfl) ?_
                      refine VL.un rfl rfl (ltn rfl) ?_
                      refine VL.va (op_pick rfl rfl (ltn rfl)) rfl ?_
                      refine VL.va (op_assign rfl (ltn rfl)) rfl ?_
                      refine VL.done ?_
                      refine VN.then ?_
                      refine VC.ret ?_
                      refine VR.then ?_
                      cases h
                  · rw [if_neg c24316] at h
                    obtain rfl : b24315 = false := hb24315.symm.trans (Bool.eq_false_iff.2 c24316)
                    refine VL.un rfl rfl (ltn rfl) ?_
                    refine VL.un rfl rfl (ltn rfl) ?_
                    refine VL.un rfl rfl (ltn rfl) ?_
                    refine VL.va (op_pick rfl rfl (ltn rfl)) rfl ?_
                    refine VL.va (op_move rfl (ltn rfl)) rfl ?_
                    refine VL.un rfl rfl (ltn rfl) ?_
                    refine VL.un rfl rfl (ltn rfl) ?_
                    refine VL.un rfl rfl (ltn rfl) ?_
                    refine VL.va (op_pick rfl rfl (ltn rfl)) rfl ?_
                    refine VL.va (op_assign rfl (ltn rfl)) rfl ?_
                    refine VL.done ?_
                    refine VN.then ?_
                    refine VC.ret ?_
                    refine VR.then ?_
                    cases h
                · rw [if_neg c24314] at h
                  obtain rfl : b24313 = false := hb24313.symm.trans (Bool.eq_false_iff.2 c24314)
                  refine VL.un rfl rfl (ltn rfl) ?_
                  refine VL.un rfl rfl (ltn rfl) ?_
                  refine VL.un rfl rfl (ltn rfl) ?_
                  refine VL.va (op_pick rfl rfl (ltn rfl)) rfl ?_
                  refine VL.va (op_move rfl (ltn rfl)) rfl ?_
                  refine VL.un rfl rfl (ltn rfl) ?_
                  refine VL.un rfl rfl (ltn rfl) ?_
                  refine VL.un rfl rfl (ltn rfl) ?_
                  refine VL.va (op_pick rfl rfl (ltn rfl)) rfl ?_
                  refine VL.va (op_move rfl (ltn rfl)) rfl ?_
                  refine VL.un rfl rfl (ltn rfl) ?_
                  refine VL.un rfl rfl (ltn rfl) ?_
                  refine VL.un rfl rfl (ltn rfl) ?_
                  refine VL.va (op_pick rfl rfl (ltn rfl)) rfl ?_
                  refine VL.va (op_assign rfl (ltn rfl)) rfl ?_
                  refine VL.done ?_
                  refine VN.then ?_
                  refine VC.ret ?_
                  refine VR.then ?_
                  cases h
            · rw [if_neg c24311] at h
              obtain rfl : b24310 = false := hb24310.symm.trans (beq_eq_false_iff_ne.2 c24311)
              refine VL.un rfl rfl (ltn rfl) ?_
              refine VL.un rfl rfl (ltn rfl) ?_
              refine VL.va (op_pick rfl rfl (ltn rfl)) rfl ?_
              refine VL.va (op_move rfl (ltn rfl)) rfl ?_
              refine VL.un rfl rfl (ltn rfl) ?_
              refine VL.un rfl rfl (ltn rfl) ?_
              refine VL.un rfl rfl (ltn rfl) ?_
              refine VL.va (op_pick rfl rfl (ltn rfl)) rfl ?_
              refine VL.va (op_move rfl (ltn rfl)) rfl ?_
              refine VL.un rfl rfl (ltn rfl) ?_
              refine VL.un rfl rfl (ltn rfl) ?_
              refine VL.un rfl rfl (ltn rfl) ?_
              refine VL.va (op_pick rfl rfl (ltn rfl)) rfl ?_
              refine VL.va (op_move rfl (ltn rfl)) rfl ?_
              refine VL.un rfl rfl (ltn rfl) ?_
              refine VL.un rfl rfl (ltn rfl) ?_
              refine VL.un rfl rfl (ltn rfl) ?_
              refine VL.va (op_pick rfl rfl (ltn rfl)) rfl ?_
              refine VL.va (op_move rfl (ltn rfl)) rfl ?_
              refine VL.un rfl rfl (ltn rfl) ?_
              refine VL.un rfl rfl (ltn rfl) ?_
              refine VL.un rfl rfl (ltn rfl) ?_
              refine VL.va (op_pick rfl rfl (ltn rfl)) rfl ?_
              refine VL.va (op_assign rfl (ltn rfl)) rfl ?_
              refine VL.done ?_
              refine VN.then ?_
              refine VC.ret ?_
              refine VR.then ?_
              cases h
          · rw [if_neg c24309] at h
            obtain rfl : b24308 = false := hb24308.symm.trans (beq_eq_false_iff_ne.2 c24309)
            refine VL.un rfl rfl (ltn rfl) ?_
            refine VL.un rfl rfl (ltn rfl) ?_
            refine VL.va (op_pick rfl rfl (ltn rfl)) rfl ?_
            refine VL.va (op_move rfl (ltn rfl)) rfl ?_
            refine VL.un rfl rfl (ltn rfl) ?_
            refine VL.un rfl rfl (ltn rfl) ?_
            refine VL.va (op_pick rfl rfl (ltn rfl)) rfl ?_
            refine VL.va (op_move rfl (ltn rfl)) rfl ?_
            refine VL.un rfl rfl (ltn rfl) ?_
            refine VL.un rfl rfl (ltn rfl) ?_
            refine VL.un rfl rfl (ltn rfl) ?_
            refine VL.va (op_pick rfl rfl (ltn rfl)) rfl ?_
            refine VL.va (op_move rfl (ltn rfl)) rfl ?_
            refine VL.un rfl rfl (ltn rfl) ?_
            refine VL.un rfl rfl (ltn rfl) ?_
            refine VL.un rfl rfl (ltn rfl) ?_
            refine VL.va (op_pick rfl rfl (ltn rfl)) rfl ?_
            refine VL.va (op_move rfl (ltn rfl)) rfl ?_
            refine VL.un rfl rfl (ltn rfl) ?_
            refine VL.un rfl rfl (ltn rfl) ?_
            refine VL.un rfl rfl (ltn rfl) ?_
            refine VL.va (op_pick rfl rfl (ltn rfl)) rfl ?_
            refine VL.va (op_move rfl (ltn rfl)) rfl ?_
            refine VL.un rfl rfl (ltn rfl) ?_
            refine VL.un rfl rfl (ltn rfl) ?_
            refine VL.un rfl rfl (ltn rfl) ?_
            refine VL.va (op_pick rfl rfl (ltn rfl)) rfl ?_
            refine VL.va (op_assign rfl (ltn rfl)) rfl ?_
            refine VL.done ?_
            refine VN.then ?_
            refine VC.ret ?_
            refine VR.then ?_
            cases h
        · rw [if_neg c24307] at h
          obtain rfl : b24306 = false := hb24306.symm.trans (beq_eq_false_iff_ne.2 c24307)
          refine VL.un rfl rfl (ltn rfl) ?_
          refine VL.un rfl rfl (ltn rfl) ?_
          refine VL.va (op_pick rfl rfl (ltn rfl)) rfl ?_
          refine VL.va (op_move rfl (ltn rfl)) rfl ?_
          refine VL.un rfl rfl (ltn rfl) ?_
          refine VL.un rfl rfl (ltn rfl) ?_
          refine VL.va (op_pick rfl rfl (ltn rfl)) rfl ?_
          refine VL.va (op_move rfl (ltn rfl)) rfl ?_
          refine VL.un rfl rfl (ltn rfl) ?_
          refine VL.un rfl rfl (ltn rfl) ?_
          refine VL.va (op_pick rfl rfl (ltn rfl)) rfl ?_
          refine VL.va (op_move rfl (ltn rfl)) rfl ?_
          refine VL.un rfl rfl (ltn rfl) ?_
          refine VL.un rfl rfl (ltn rfl) ?_
          refine VL.un rfl rfl (ltn rfl) ?_
          refine VL.va (op_pick rfl rfl (ltn rfl)) rfl ?_
          refine VL.va (op_move rfl (ltn rfl)) rfl ?_
          refine VL.un rfl rfl (ltn rfl) ?_
          refine VL.un rfl rfl (ltn rfl) ?_
          refine VL.un rfl rfl (ltn rfl) ?_
          refine VL.va (op_pick rfl rfl (ltn rfl)) rfl ?_
          refine VL.va (op_move rfl (ltn rfl)) rfl ?_
          refine VL.un rfl rfl (ltn rfl) ?_
          refine VL.un rfl rfl (ltn rfl) ?_
          refine VL.un rfl rfl (ltn rfl) ?_
          refine VL.va (op_pick rfl rfl (ltn rfl)) rfl ?_
          refine VL.va (op_move rfl (ltn rfl)) rfl ?_
          refine VL.un rfl rfl (ltn rfl) ?_
          refine VL.un rfl rfl (ltn rfl) ?_
          refine VL.un rfl rfl (ltn rfl) ?_
          refine VL.va (op_pick rfl rfl (ltn rfl)) rfl ?_
          refine VL.va (op_assign rfl (ltn rfl)) rfl ?_
          refine VL.done ?_
          refine VN.then ?_
          refine VC.ret ?_
          refine VR.then ?_
          cases h
      · rw [if_neg c24305] at h
        obtain rfl : b24304 = false := hb24304.symm.trans (beq_eq_false_iff_ne.2 c24305)
        refine VL.un rfl rfl (ltn rfl) ?_
        refine VL.un rfl rfl (ltn rfl) ?_
        refine VL.va (op_pick rfl rfl (ltn rfl)) rfl ?_
        refine VL.va (op_move rfl (ltn rfl)) rfl ?_
        refine VL.un rfl rfl (ltn rfl) ?_
        refine VL.un rfl rfl (ltn rfl) ?_
        refine VL.va (op_pick rfl rfl (ltn rfl)) rfl ?_
        refine VL.va (op_move rfl (ltn rfl)) rfl ?_
        refine VL.un rfl rfl (ltn rfl) ?_
        refine VL.un rfl rfl (ltn rfl) ?_
        refine VL.va (op_pick rfl rfl (ltn rfl)) rfl ?_
        refine VL.va (op_move rfl (ltn rfl)) rfl ?_
        refine VL.un rfl rfl (ltn rfl) ?_
        refine VL.un rfl rfl (ltn rfl) ?_
        refine VL.va (op_pick rfl rfl (ltn rfl)) rfl ?_
        refine VL.va (op_move rfl (ltn rfl)) rfl ?_
        refine VL.un rfl rfl (ltn rfl) ?_
        refine VL.un rfl rfl (ltn rfl) ?_
        refine VL.un rfl rfl (ltn rfl) ?_
        refine VL.va (op_pick rfl rfl (ltn rfl)) rfl ?_
        refine VL.va (op_move rfl (ltn rfl)) rfl ?_
        refine VL.un rfl rfl (ltn rfl) ?_
        refine VL.un rfl rfl (ltn rfl) ?_
        refine VL.un rfl rfl (ltn rfl) ?_
        refine VL.va (op_pick rfl rfl (ltn rfl)) rfl ?_
        refine VL.va (op_move rfl (ltn rfl)) rfl ?_
        refine VL.un rfl rfl (ltn rfl) ?_
        refine VL.un rfl rfl (ltn rfl) ?_
        refine VL.un rfl rfl (ltn rfl) ?_
        refine VL.va (op_pick rfl rfl (ltn rfl)) rfl ?_
        refine VL.va (op_move rfl (ltn rfl)) rfl ?_
        refine VL.un rfl rfl (ltn rfl) ?_
        refine VL.un rfl rfl (ltn rfl) ?_
        refine VL.un rfl rfl (ltn rfl) ?_
        refine VL.va (op_pick rfl rfl (ltn rfl)) rfl ?_
        refine VL.va (op_assign rfl (ltn rfl)) rfl ?_
        refine VL.done ?_
        refine VN.then ?_
        refine VC.ret ?_
        refine VR.then ?_
        cases h
    · rw [if_neg c24287] at h
      obtain rfl := Bool.eq_false_iff.2 c24287
      refine VC.cond_f rfl ?_
      refine VC.skip ?_
      refine VN.then ?_
      refine VC.seq ?_
      refine VC.region ?_
      refine VL.va (op_load 5 4 rfl rfl TI23 rfl (fun h => absurd h (by decide)) (ltn rfl)) rfl ?_
      refine VL.sG (o_alloc (us := [.int .i64 0, .int .i64 0, .int .i64 0, .int .i64 0]) Z23 rfl (ltn rfl)) rfl ?_
      intro g24320
      refine VL.step1 (o_store 0 4 rfl rfl rfl TI23 (.agg (.c rfl (.c rfl (.c rfl (.c rfl .nil))))) rfl (len rfl)) rfl ?_
      refine VL.done ?_
      refine VN.then ?_
      refine VC.join1 (fun (i44459 : Int) => ⟨209, [(2, .int .i64 a2), (3, .int .i64 a3), (4, .pointer (some ⟨g1, 0, none⟩)), (8, .bool false), (9, .pointer (some ⟨g9, 0, none⟩)), (10, .bool t6), (11, .int .i64 t7), (12, .pointer (some ⟨g16, 0, none⟩)), (13, .int .i64 t14), (14, .pointer (some ⟨g23, 0, none⟩)), (15, .int .i64 t21), (16, .pointer (some ⟨g30, 0, none⟩)), (17, .int .i64 t28), (18, .pointer (some ⟨g31, 0, none⟩)), (19, .pointer (some ⟨g24320, 0, none⟩))], [], [(g24320, 23, [.int .i64 a0_0, .int .i64 a0_1, .int .i64 a0_2, .int .i64 i44459]), (g31, 23, [.int .i64 0, .int .i64 0, .int .i64 0, .int .i64 0]), (g30, 23, [.int .i64 t24, .int .i64 t25, .int .i64 t26, .int .i64 t27]), (g23, 23, [.int .i64 t17, .int .i64 t18, .int .i64 t19, .int .i64 t20]), (g16, 23, [.int .i64 t10, .int .i64 t11, .int .i64 t12, .int .i64 t13]), (g9, 23, [.int .i64 t2, .int .i64 t3, .int .i64 t4, .int .i64 t5]), (g1, 23, [.int .i64 a0_0, .int .i64 a0_1, .int .i64 a0_2, .int .i64 a0_3])], []⟩) (fun (i44459 : Int) => tarrylaw11_PayGoes.j180 k a0_0 a0_1 a0_2 a0_3 a2 a3 t10 t11 t12 t13 t14 t17 t18 t19 t2 t20 t21 t24 t25 t26 t27 t28 t3 t4 t5 t6 t7 i44459 = some r1) ?_ ?_
      · refine VC.seq ?_
        refine VC.region ?_
        refine VL.va (op_fieldAddr FI23_3 rfl (add_at _ _ _) (ltn rfl)) rfl ?_
        refine VL.va (op_load 6 1 rfl rfl TI3 rfl (by decide) (ltn rfl)) rfl ?_
        refine VL.letter ((a0_3 == 1)) fun b44455 hb44455 => ?_
        refine VL.va (op_cmp rfl rfl (congrArg some hb44455) (ltn rfl)) rfl ?_
        refine VL.va (op_move rfl (ltn rfl)) rfl ?_
        by_cases c44456 : a0_3 = 1
        · rw [if_pos c44456] at h
          obtain rfl : b44455 = true := hb44455.symm.trans (beq_iff_eq.2 c44456)
          refine VL.va (op_fieldAddr FI23_2 rfl (add_at _ _ _) (ltn rfl)) rfl ?_
          refine VL.va (op_load 6 1 rfl rfl TI3 rfl (by decide) (ltn rfl)) rfl ?_
          refine VL.va (op_move rfl (ltn rfl)) rfl ?_
          refine VL.letter (decide (a0_2 ≤ a1)) fun b44457 hb44457 => ?_
          refine VL.va (op_cmp rfl rfl (congrArg some hb44457) (ltn rfl)) rfl ?_
          refine VL.va (op_pick rfl rfl (ltn rfl)) rfl ?_
          refine VL.done ?_
          refine VN.then ?_
          by_cases c44458 : a0_2 ≤ a1
          · rw [if_pos c44458] at h
            obtain rfl : b44457 = true := hb44457.symm.trans (decide_eq_true c44458)
            refine VC.cond_t rfl ?_
            refine VC.region ?_
            refine VL.va (op_fieldAddr FI23_3 rfl (add_at _ _ _) (ltn rfl)) rfl ?_
            refine VL.step1 (o_store 0 1 rfl rfl rfl TI3 (.c rfl) rfl (len rfl)) rfl ?_
            refine VL.done ?_
            refine VN.meet1 2 [0, 1, 2, 3, 4, 5, 6] [] h ⟨rfl, ⟨rfl, rfl, rfl, rfl, rfl, rfl, rfl, rfl, rfl, rfl, rfl, rfl, rfl, rfl, rfl, trivial⟩, trivial, rfl, by decide, rfl, by decide⟩
          · rw [if_neg c44458] at h
            obtain rfl : b44457 = false := hb44457.symm.trans (decide_eq_false c44458)
            refine VC.cond_f rfl ?_
            refine VC.skip ?_
            refine VN.meet1 a0_3 [0, 1, 2, 3, 4, 5, 6] [] h ⟨rfl, ⟨rfl, rfl, rfl, rfl, rfl, rfl, rfl, rfl, rfl, rfl, rfl, rfl, rfl, rfl, rfl, trivial⟩, trivial, rfl, by decide, rfl, by decide⟩
        · rw [if_neg c44456] at h
          obtain rfl : b44455 = false := hb44455.symm.trans (beq_eq_false_iff_ne.2 c44456)
          refine VL.un rfl rfl (ltn rfl) ?_
          refine VL.un rfl rfl (ltn rfl) ?_
          refine VL.un rfl rfl (ltn rfl) ?_
          refine VL.un rfl rfl (ltn rfl) ?_
          refine VL.va (op_pick rfl rfl (ltn rfl)) rfl ?_
          refine VL.done ?_
          refine VN.then ?_
          refine VC.cond_f rfl ?_
          refine VC.skip ?_
          refine VN.meet1 a0_3 [0, 1, 2, 3, 4, 5, 6] [] h ⟨rfl, ⟨rfl, rfl, rfl, rfl, rfl, rfl, rfl, rfl, rfl, rfl, rfl, rfl, rfl, rfl, rfl, trivial⟩, trivial, rfl, by decide, rfl, by decide⟩
      clear h
      intro i44459 h
      unfold tarrylaw11_PayGoes.j180 at h
      refine VC.seq ?_
      refine VC.seq ?_
      refine VC.region ?_
      refine VL.va (op_move rfl (ltn rfl)) rfl ?_
      refine VL.letter ((t7 != 0)) fun b44479 hb44479 => ?_
      refine VL.va (op_cmp rfl rfl (congrArg some hb44479) (ltn rfl)) rfl ?_
      refine VL.va (op_move rfl (ltn rfl)) rfl ?_
      by_cases c44480 : t7 = 0
      · rw [if_pos c44480] at h
        obtain rfl : b44479 = false := hb44479.symm.trans (bne_eq_false_iff_eq.2 c44480)
        refine VL.va (op_load 5 4 rfl rfl TI23 rfl (fun h => absurd h (by decide)) (ltn rfl)) rfl ?_
        refine VL.va (op_load 0 4 rfl rfl TI23 rfl (fun h => absurd h (by decide)) (ltn rfl)) rfl ?_
        refine VL.letter ((!(((t2 == a0_0) && ((t3 == a0_1) && ((t4 == a0_2) && (t5 == i44459))))))) fun b44481 hb44481 => ?_
        refine VL.va (op_neS rfl rfl EG23 (EQ23 t2 t3 t4 t5 a0_0 a0_1 a0_2 i44459) hb44481 (ltn rfl)) rfl ?_
        refine VL.va (op_pick rfl rfl (ltn rfl)) rfl ?_
        refine VL.va (op_move rfl (ltn rfl)) rfl ?_
        by_cases c44482 : (((t2 == a0_0) && ((t3 == a0_1) && ((t4 == a0_2) && (t5 == i44459))))) = true
        · rw [if_pos c44482] at h
          obtain rfl : b44481 = false := hb44481.symm.trans (not_t c44482)
          refine VL.va (op_move rfl (ltn rfl)) rfl ?_
          refine VL.va (op_load 0 4 rfl rfl TI23 rfl (fun h => absurd h (by decide)) (ltn rfl)) rfl ?_
          refine VL.va (op_load 6 4 rfl rfl TI23 rfl (fun h => absurd h (by decide)) (ltn rfl)) rfl ?_
          refine VL.letter ((!(((a0_0 == a0_0) && ((a0_1 == a0_1) && ((a0_2 == a0_2) && (i44459 == a0_3))))))) fun b44483 hb44483 => ?_
          refine VL.va (op_neS rfl rfl EG23 (EQ23 a0_0 a0_1 a0_2 i44459 a0_0 a0_1 a0_2 a0_3) hb44483 (ltn rfl)) rfl ?_
          subst hb44483
          refine VL.letter ((!(t6 == (!(((a0_0 == a0_0) && ((a0_1 == a0_1) && ((a0_2 == a0_2) && (i44459 == a0_3))))))))) fun b44484 hb44484 => ?_
          refine VL.va (op_eqb Try.underlying4 rfl rfl (congrArg some hb44484) (ltn rfl)) rfl ?_
          refine VL.va (op_pick rfl rfl (ltn rfl)) rfl ?_
          refine VL.done ?_
          refine VN.then ?_
          by_cases c44485 : t6 = (!(((a0_0 == a0_0) && ((a0_1 == a0_1) && ((a0_2 == a0_2) && (i44459 == a0_3))))))
          · rw [if_pos c44485] at h
            obtain rfl : b44484 = false := hb44484.symm.trans (by rw [c44485]; simp)
            refine VC.cond_f rfl ?_
            refine VC.skip ?_
            refine VN.then ?_
            refine VC.seq ?_
            refine VC.region ?_
            refine VL.va (op_load 6 4 rfl rfl TI23 rfl (fun h => absurd h (by decide)) (ltn rfl)) rfl ?_
            refine VL.sG (o_alloc (us := [.int .i64 0, .int .i64 0, .int .i64 0, .int .i64 0]) Z23 rfl (ltn rfl)) rfl ?_
            intro g44486
            refine VL.step1 (o_store 0 4 rfl rfl rfl TI23 (.agg (.c rfl (.c rfl (.c rfl (.c rfl .nil))))) rfl (len rfl)) rfl ?_
            refine VL.va (op_assign rfl (ltn rfl)) rfl ?_
            refine VL.done ?_
            refine VN.then ?_
            refine VC.seq ?_
            refine VC.region ?_
            refine VL.va (op_move rfl (ltn rfl)) rfl ?_
            refine VL.va (op_fieldAddr FI23_3 rfl (add_at _ _ _) (ltn rfl)) rfl ?_
            refine VL.step1 (o_store 0 1 rfl rfl rfl TI3 (.c rfl) rfl (len rfl)) rfl ?_
            refine VL.va (op_fieldAddr FI23_2 rfl (add_at _ _ _) (ltn rfl)) rfl ?_
            refine VL.step1 (o_store 0 1 rfl rfl rfl TI3 (.c rfl) rfl (len rfl)) rfl ?_
            refine VL.done ?_
            refine VN.then ?_
            refine VC.join1 (fun (i46498 : Int) => ⟨209, [(3, .int .i64 a3), (4, .pointer (some ⟨g1, 0, none⟩)), (8, .bool false), (12, .pointer (some ⟨g16, 0, none⟩)), (13, .int .i64 t14), (14, .pointer (some ⟨g23, 0, none⟩)), (15, .int .i64 t21), (16, .pointer (some ⟨g30, 0, none⟩)), (17, .int .i64 t28), (18, .pointer (some ⟨g31, 0, none⟩)), (20, .pointer (some ⟨g44486, 0, none⟩)), (21, .int .i64 i46498)], [], [(g44486, 23, [.int .i64 a0_0, .int .i64 a0_1, .int .i64 a2, .int .i64 1]), (g31, 23, [.int .i64 0, .int .i64 0, .int .i64 0, .int .i64 0]), (g30, 23, [.int .i64 t24, .int .i64 t25, .int .i64 t26, .int .i64 t27]), (g23, 23, [.int .i64 t17, .int .i64 t18, .int .i64 t19, .int .i64 t20]), (g16, 23, [.int .i64 t10, .int .i64 t11, .int .i64 t12, .int .i64 t13]), (g1, 23, [.int .i64 a0_0, .int .i64 a0_1, .int .i64 a0_2, .int .i64 a0_3])], []⟩) (fun (i46498 : Int) => tarrylaw11_PayGoes.j188 k a0_0 a0_1 a0_2 a0_3 a2 a3 t10 t11 t12 t13 t14 t17 t18 t19 t20 t21 t24 t25 t26 t27 t28 i46498 = some r1) ?_ ?_
            · refine VC.seq ?_
              refine VC.region ?_
              refine VL.va (op_move rfl (ltn rfl)) rfl ?_
              replace h := Option.bind_eq_some_iff.1 h
              obtain ⟨t46493, hA46494, h⟩ := h
              refine VL.sC (o_call0 FO12 (tarrylaw11_in.ok a2 0 1099511627776 t46493 hA46494) rfl rfl (ltn rfl) (All_of .nil)) rfl ?_
              rintro _ _ _ ⟨rfl, rfl, rfl⟩
              by_cases c46495 : t46493 = true
              · rw [if_pos c46495] at h
                obtain rfl := c46495
                refine VL.va (op_not rfl rfl (ltn rfl)) rfl ?_
                refine VL.done ?_
                refine VN.then ?_
                refine VC.cond_f rfl ?_
                refine VC.seq ?_
                refine VC.region ?_
                refine VL.va (op_fieldAddr FI23_3 rfl (add_at _ _ _) (ltn rfl)) rfl ?_
                refine VL.va (op_load 7 1 rfl rfl TI3 rfl (by decide) (ltn rfl)) rfl ?_
                refine VL.letter ((a0_3 != 2)) fun b46496 hb46496 => ?_
                refine VL.va (op_cmp rfl rfl (congrArg some hb46496) (ltn rfl)) rfl ?_
                refine VL.done ?_
                refine VN.then ?_
                by_cases c46497 : a0_3 = 2
                · rw [if_pos c46497] at h
                  obtain rfl : b46496 = false := hb46496.symm.trans (bne_eq_false_iff_eq.2 c46497)
                  refine VC.cond_f rfl ?_
                  refine VC.skip ?_
                  refine VN.meet1 0 [0, 2, 3, 4, 5, 7] [] h ⟨rfl, ⟨rfl, rfl, rfl, rfl, rfl, rfl, rfl, rfl, rfl, rfl, rfl, rfl, trivial⟩, trivial, rfl, by decide, rfl, by decide⟩
                · rw [if_neg c46497] at h
                  obtain rfl : b46496 = true := hb46496.symm.trans (bne_iff_ne.2 c46497)
                  refine VC.cond_t rfl ?_
                  refine VC.region ?_
                  refine VL.va (op_assign rfl (ltn rfl)) rfl ?_
                  refine VL.done ?_
                  refine VN.meet1 10 [0, 2, 3, 4, 5, 7] [] h ⟨rfl, ⟨rfl, rfl, rfl, rfl, rfl, rfl, rfl, rfl, rfl, rfl, rfl, rfl, trivial⟩, trivial, rfl, by decide, rfl, by decide⟩
              · rw [if_neg c46495] at h
                obtain rfl := Bool.eq_false_iff.2 c46495
                refine VL.va (op_not rfl rfl (ltn rfl)) rfl ?_
                refine VL.done ?_
                refine VN.then ?_
                refine VC.cond_t rfl ?_
                refine VC.region ?_
                refine VL.va (op_assign rfl (ltn rfl)) rfl ?_
                refine VL.done ?_
                refine VN.meet1 1 [0, 2, 3, 4, 5, 7] [] h ⟨rfl, ⟨rfl, rfl, rfl, rfl, rfl, rfl, rfl, rfl, rfl, rfl, rfl, rfl, trivial⟩, trivial, rfl, by decide, rfl, by decide⟩
            clear h
            intro i46498 h
            unfold tarrylaw11_PayGoes.j188 at h
            refine VC.join0 (⟨209, [(3, .int .i64 a3), (4, .pointer (some ⟨g1, 0, none⟩)), (8, .bool false), (14, .pointer (some ⟨g23, 0, none⟩)), (15, .int .i64 t21), (16, .pointer (some ⟨g30, 0, none⟩)), (17, .int .i64 t28), (18, .pointer (some ⟨g31, 0, none⟩)), (21, .int .i64 i46498)], [], [(g31, 23, [.int .i64 0, .int .i64 0, .int .i64 0, .int .i64 0]), (g30, 23, [.int .i64 t24, .int .i64 t25, .int .i64 t26, .int .i64 t27]), (g23, 23, [.int .i64 t17, .int .i64 t18, .int .i64 t19, .int .i64 t20]), (g1, 23, [.int .i64 a0_0, .int .i64 a0_1, .int .i64 a0_2, .int .i64 a0_3])], []⟩) (tarrylaw11_PayGoes.j195 k a0_0 a0_1 a0_2 a0_3 a3 t17 t18 t19 t20 t21 t24 t25 t26 t27 t28 = some r1) ?_ ?_
            · refine VC.seq ?_
              refine VC.region ?_
              refine VL.va (op_move rfl (ltn rfl)) rfl ?_
              refine VL.va (op_move rfl (ltn rfl)) rfl ?_
              refine VL.letter ((t14 != i46498)) fun b48153 hb48153 => ?_
              refine VL.va (op_cmp rfl rfl (congrArg some hb48153) (ltn rfl)) rfl ?_
              refine VL.va (op_move rfl (ltn rfl)) rfl ?_
              by_cases c48154 : t14 = i46498
              · rw [if_pos c48154] at h
                obtain rfl : b48153 = false := hb48153.symm.trans (bne_eq_false_iff_eq.2 c48154)
                refine VL.va (op_move rfl (ltn rfl)) rfl ?_
                refine VL.letter ((i46498 == 0)) fun b48155 hb48155 => ?_
                refine VL.va (op_cmp rfl rfl (congrArg some hb48155) (ltn rfl)) rfl ?_
                refine VL.va (op_move rfl (ltn rfl)) rfl ?_
                by_cases c48156 : i46498 = 0
                · rw [if_pos c48156] at h
                  obtain rfl : b48155 = true := hb48155.symm.trans (beq_iff_eq.2 c48156)
                  refine VL.va (op_load 4 4 rfl rfl TI23 rfl (fun h => absurd h (by decide)) (ltn rfl)) rfl ?_
                  refine VL.va (op_load 0 4 rfl rfl TI23 rfl (fun h => absurd h (by decide)) (ltn rfl)) rfl ?_
                  refine VL.letter ((!(((t10 == a0_0) && ((t11 == a0_1) && ((t12 == a2) && (t13 == 1))))))) fun b48157 hb48157 => ?_
                  refine VL.va (op_neS rfl rfl EG23 (EQ23 t10 t11 t12 t13 a0_0 a0_1 a2 1) hb48157 (ltn rfl)) rfl ?_
                  refine VL.va (op_pick rfl rfl (ltn rfl)) rfl ?_
                  refine VL.va (op_pick rfl rfl (ltn rfl)) rfl ?_
                  refine VL.va (op_move rfl (ltn rfl)) rfl ?_
                  by_cases c48158 : (((t10 == a0_0) && ((t11 == a0_1) && ((t12 == a2) && (t13 == 1))))) = true
                  · rw [if_pos c48158] at h
                    obtain rfl : b48157 = false := hb48157.symm.trans (not_t c48158)
                    refine VL.va (op_move rfl (ltn rfl)) rfl ?_
                    refine VL.letter ((i46498 != 0)) fun b48159 hb48159 => ?_
                    refine VL.va (op_cmp rfl rfl (congrArg some hb48159) (ltn rfl)) rfl ?_
                    refine VL.va (op_move rfl (ltn rfl)) rfl ?_
                    by_cases c48160 : i46498 = 0
                    · rw [if_pos c48160] at h
                      obtain rfl : b48159 = false := hb48159.symm.trans (bne_eq_false_iff_eq.2 c48160)
                      refine VL.un rfl rfl (ltn rfl) ?_
                      refine VL.un rfl rfl (ltn rfl) ?_
                      refine VL.un rfl rfl (ltn rfl) ?_
                      refine VL.va (op_pick rfl rfl (ltn rfl)) rfl ?_
                      refine VL.va (op_pick rfl rfl (ltn rfl)) rfl ?_
                      refine VL.done ?_
                      refine VN.then ?_
                      refine VC.cond_f rfl ?_
                      refine VC.skip ?_
                      refine VN.meet0  [1, 2, 3, 5] [] h ⟨rfl, ⟨rfl, rfl, rfl, rfl, rfl, rfl, rfl, rfl, rfl, trivial⟩, trivial, rfl, by decide, rfl, by decide⟩
                    · rw [if_neg c48160] at h
                      obtain rfl : b48159 = true := hb48159.symm.trans (bne_iff_ne.2 c48160)
                      refine VL.va (op_load 4 4 rfl rfl TI23 rfl (fun h => absurd h (by decide)) (ltn rfl)) rfl ?_
                      refine VL.va (op_load 1 4 rfl rfl TI23 rfl (fun h => absurd h (by decide)) (ltn rfl)) rfl ?_
                      refine VL.letter ((!(((t10 == 0) && ((t11 == 0) && ((t12 == 0) && (t13 == 0))))))) fun b48161 hb48161 => ?_
                      refine VL.va (op_neS rfl rfl EG23 (EQ23 t10 t11 t12 t13 0 0 0 0) hb48161 (ltn rfl)) rfl ?_
                      refine VL.va (op_pick rfl rfl (ltn rfl)) rfl ?_
                      refine VL.va (op_pick rfl rfl (ltn rfl)) rfl ?_
                      refine VL.done ?_
                      refine VN.then ?_
                      by_cases c48162 : (((t10 == 0) && ((t11 == 0) && ((t12 == 0) && (t13 == 0))))) = true
                      · rw [if_pos c48162] at h
                        obtain rfl : b48161 = false := hb48161.symm.trans (not_t c48162)
                        refine VC.cond_f rfl ?_
                        refine VC.skip ?_
                        refine VN.meet0  [1, 2, 3, 5] [] h ⟨rfl, ⟨rfl, rfl, rfl, rfl, rfl, rfl, rfl, rfl, rfl, trivial⟩, trivial, rfl, by decide, rfl, by decide⟩
                      · rw [if_neg c48162] at h
                        obtain rfl : b48161 = true := hb48161.symm.trans (not_f c48162)
                        refine VC.cond_t rfl ?_
                        refine VC.seq ?_
                        refine VC.region ?_
                        refine VL.va (op_assign rfl (ltn rfl)) rfl ?_
                        refine VL.done ?_
                        refine VN.then ?_
                        refine VC.ret ?_
                        refine VR.then ?_
                        cases h
                  · rw [if_neg c48158] at h
                    obtain rfl : b48157 = true := hb48157.symm.trans (not_f c48158)
                    refine VL.un rfl rfl (ltn rfl) ?_
                    refine VL.un rfl rfl (ltn rfl) ?_
                    refine VL.un rfl rfl (ltn rfl) ?_
                    refine VL.un rfl rfl (ltn rfl) ?_
                    refine VL.un rfl rfl (ltn rfl) ?_
                    refine VL.un rfl rfl (ltn rfl) ?_
                    refine VL.un rfl rfl (ltn rfl) ?_
                    refine VL.va (op_pick rfl rfl (ltn rfl)) rfl ?_
                    refine VL.done ?_
                    refine VN.then ?_
                    refine VC.cond_t rfl ?_
                    refine VC.seq ?_
                    refine VC.region ?_
                    refine VL.va (op_assign rfl (ltn rfl)) rfl ?_
                    refine VL.done ?_
                    refine VN.then ?_
                    refine VC.ret ?_
                    refine VR.then ?_
                    cases h
                · rw [if_neg c48156] at h
                  obtain rfl : b48155 = false := hb48155.symm.trans (beq_eq_false_iff_ne.2 c48156)
                  refine VL.un rfl rfl (ltn rfl) ?_
                  refine VL.un rfl rfl (ltn rfl) ?_
                  refine VL.un rfl rfl (ltn rfl) ?_
                  refine VL.va (op_pick rfl rfl (ltn rfl)) rfl ?_
                  refine VL.va (op_pick rfl rfl (ltn rfl)) rfl ?_
                  refine VL.va (op_move rfl (ltn rfl)) rfl ?_
                  refine VL.va (op_move rfl (ltn rfl)) rfl ?_
                  refine VL.letter ((i46498 != 0)) fun b48163 hb48163 => ?_
                  refine VL.va (op_cmp rfl rfl (congrArg some hb48163) (ltn rfl)) rfl ?_
                  refine VL.va (op_move rfl (ltn rfl)) rfl ?_
                  by_cases c48164 : i46498 = 0
                  · rw [if_pos c48164] at h
                    obtain rfl : b48163 = false := hb48163.symm.trans (bne_eq_false_iff_eq.2 c48164)
                    refine VL.un rfl rfl (ltn rfl) ?_
                    refine VL.un rfl rfl (ltn rfl) ?_
                    refine VL.un rfl rfl (ltn rfl) ?_
                    refine VL.va (op_pick rfl rfl (ltn rfl)) rfl ?_
                    refine VL.va (op_pick rfl rfl (ltn rfl)) rfl ?_
                    refine VL.done ?_
                    refine VN.then ?_
                    refine VC.cond_f rfl ?_
                    refine VC.skip ?_
                    refine VN.meet0  [1, 2, 3, 5] [] h ⟨rfl, ⟨rfl, rfl, rfl, rfl, rfl, rfl, rfl, rfl, rfl, trivial⟩, trivial, rfl, by decide, rfl, by decide⟩
                  · rw [if_neg c48164] at h
                    obtain rfl : b48163 = true := hb48163.symm.trans (bne_iff_ne.2 c48164)
                    refine VL.va (op_load 4 4 rfl rfl TI23 rfl (fun h => absurd h (by decide)) (ltn rfl)) rfl ?_
                    refine VL.va (op_load 1 4 rfl rfl TI23 rfl (fun h => absurd h (by decide)) (ltn rfl)) rfl ?_
                    refine VL.letter ((!(((t10 == 0) && ((t11 == 0) && ((t12 == 0) && (t13 == 0))))))) fun b48165 hb48165 => ?_
                    refine VL.va (op_neS rfl rfl EG23 (EQ23 t10 t11 t12 t13 0 0 0 0) hb48165 (ltn rfl)) rfl ?_
                    refine VL.va (op_pick rfl rfl (ltn rfl)) rfl ?_
                    refine VL.va (op_pick rfl rfl (ltn rfl)) rfl ?_
                    refine VL.done ?_
                    refine VN.then ?_
                    by_cases c48166 : (((t10 == 0) && ((t11 == 0) && ((t12 == 0) && (t13 == 0))))) = true
                    · rw [if_pos c48166] at h
                      obtain rfl : b48165 = false := hb48165.symm.trans (not_t c48166)
                      refine VC.cond_f rfl ?_
                      refine VC.skip ?_
                      refine VN.meet0  [1, 2, 3, 5] [] h ⟨rfl, ⟨rfl, rfl, rfl, rfl, rfl, rfl, rfl, rfl, rfl, trivial⟩, trivial, rfl, by decide, rfl, by decide⟩
                    · rw [if_neg c48166] at h
                      obtain rfl : b48165 = true := hb48165.symm.trans (not_f c48166)
                      refine VC.cond_t rfl ?_
                      refine VC.seq ?_
                      refine VC.region ?_
                      refine VL.va (op_assign rfl (ltn rfl)) rfl ?_
                      refine VL.done ?_
                      refine VN.then ?_
                      refine VC.ret ?_
                      refine VR.then ?_
                      cases h
              · rw [if_neg c48154] at h
                obtain rfl : b48153 = true := hb48153.symm.trans (bne_iff_ne.2 c48154)
                refine VL.un rfl rfl (ltn rfl) ?_
                refine VL.un rfl rfl (ltn rfl) ?_
                refine VL.un rfl rfl (ltn rfl) ?_
                refine VL.un rfl rfl (ltn rfl) ?_
                refine VL.un rfl rfl (ltn rfl) ?_
                refine VL.un rfl rfl (ltn rfl) ?_
                refine VL.un rfl rfl (ltn rfl) ?_
                refine VL.va (op_pick rfl rfl (ltn rfl)) rfl ?_
                refine VL.va (op_move rfl (ltn rfl)) rfl ?_
                refine VL.un rfl rfl (ltn rfl) ?_
                refine VL.un rfl rfl (ltn rfl) ?_
                refine VL.un rfl rfl (ltn rfl) ?_
                refine VL.un rfl rfl (ltn rfl) ?_
                refine VL.un rfl rfl (ltn rfl) ?_
                refine VL.un rfl rfl (ltn rfl) ?_
                refine VL.un rfl rfl (ltn rfl) ?_
                refine VL.va (op_pick rfl rfl (ltn rfl)) rfl ?_
                refine VL.done ?_
                refine VN.then ?_
                refine VC.cond_t rfl ?_
                refine VC.seq ?_
                refine VC.region ?_
                refine VL.va (op_assign rfl (ltn rfl)) rfl ?_
                refine VL.done ?_
                refine VN.then ?_
                refine VC.ret ?_
                refine VR.then ?_
                cases h
            clear h
            intro  h
            unfold tarrylaw11_PayGoes.j195 at h
            refine VC.seq ?_
            refine VC.region ?_
            refine VL.va (op_load 3 4 rfl rfl TI23 rfl (fun h => absurd h (by decide)) (ltn rfl)) rfl ?_
            refine VL.sG (o_alloc (us := [.int .i64 0, .int .i64 0, .int .i64 0, .int .i64 0]) Z23 rfl (ltn rfl)) rfl ?_
            intro g48167
            refine VL.step1 (o_store 0 4 rfl rfl rfl TI23 (.agg (.c rfl (.c rfl (.c rfl (.c rfl .nil))))) rfl (len rfl)) rfl ?_
            refine VL.done ?_
            refine VN.then ?_
            refine VC.seq ?_
            refine VC.region ?_
            refine VL.va (op_fieldAddr FI23_1 rfl (add_at _ _ _) (ltn rfl)) rfl ?_
            refine VL.va (op_load 0 1 rfl rfl TI3 rfl (by decide) (ltn rfl)) rfl ?_
            refine VL.va (op_move rfl (ltn rfl)) rfl ?_
            refine VL.va (op_ari64 rfl rfl rfl (ltn rfl)) rfl ?_
            refine VL.va (op_fieldAddr FI23_1 rfl (add_at _ _ _) (ltn rfl)) rfl ?_
            refine VL.step1 (o_store 0 1 rfl rfl rfl TI3 (.c rfl) rfl (len rfl)) rfl ?_
            refine VL.done ?_
            refine VN.then ?_
            refine VC.seq ?_
            refine VC.region ?_
            refine VL.va (op_assign rfl (ltn rfl)) rfl ?_
            refine VL.done ?_
            refine VN.then ?_
            refine VC.join1 (fun (i48337 : Int) => ⟨209, [(4, .pointer (some ⟨g1, 0, none⟩)), (8, .bool false), (14, .pointer (some ⟨g23, 0, none⟩)), (15, .int .i64 t21), (16, .pointer (some ⟨g30, 0, none⟩)), (17, .int .i64 t28), (18, .pointer (some ⟨g31, 0, none⟩)), (21, .int .i64 i48337), (22, .pointer (some ⟨g48167, 0, none⟩))], [], [(g48167, 23, [.int .i64 a0_0, .int .i64 (wrap64 (a0_1 + a3)), .int .i64 a0_2, .int .i64 a0_3]), (g31, 23, [.int .i64 0, .int .i64 0, .int .i64 0, .int .i64 0]), (g30, 23, [.int .i64 t24, .int .i64 t25, .int .i64 t26, .int .i64 t27]), (g23, 23, [.int .i64 t17, .int .i64 t18, .int .i64 t19, .int .i64 t20]), (g1, 23, [.int .i64 a0_0, .int .i64 a0_1, .int .i64 a0_2, .int .i64 a0_3])], []⟩) (fun (i48337 : Int) => tarrylaw11_PayGoes.j196 k a0_0 a0_1 a0_2 a0_3 a3 t17 t18 t19 t20 t21 t24 t25 t26 t27 t28 i48337 = some r1) ?_ ?_
            · refine VC.block ?_
              refine VC.seq ?_
              refine VC.region ?_
              refine VL.va (op_move rfl (ltn rfl)) rfl ?_
              refine VL.letter (decide (a3 < 0)) fun b48331 hb48331 => ?_
              refine VL.va (op_cmp rfl rfl (congrArg some hb48331) (ltn rfl)) rfl ?_
              refine VL.va (op_assign rfl (ltn rfl)) rfl ?_
              refine VL.done ?_
              refine VN.then ?_
              by_cases c48332 : a3 < 0
              · rw [if_pos c48332] at h
                obtain rfl : b48331 = true := hb48331.symm.trans (decide_eq_true c48332)
                refine VC.cond_t rfl ?_
                refine VC.region ?_
                refine VL.va (op_assign rfl (ltn rfl)) rfl ?_
                refine VL.done ?_
                refine VN.block ?_
                refine VN.meet1 1 [0, 1, 2, 3, 4] [] h ⟨rfl, ⟨rfl, rfl, rfl, rfl, rfl, rfl, rfl, rfl, rfl, trivial⟩, trivial, rfl, by decide, rfl, by decide⟩
              · rw [if_neg c48332] at h
                obtain rfl : b48331 = false := hb48331.symm.trans (decide_eq_false c48332)
                refine VC.cond_f rfl ?_
                refine VC.seq ?_
                refine VC.region ?_
                refine VL.va (op_fieldAddr FI23_3 rfl (add_at _ _ _) (ltn rfl)) rfl ?_
                refine VL.va (op_load 4 1 rfl rfl TI3 rfl (by decide) (ltn rfl)) rfl ?_
                refine VL.letter ((a0_3 == 3)) fun b48333 hb48333 => ?_
                refine VL.va (op_cmp rfl rfl (congrArg some hb48333) (ltn rfl)) rfl ?_
                refine VL.va (op_assign rfl (ltn rfl)) rfl ?_
                refine VL.done ?_
                refine VN.then ?_
                by_cases c48334 : a0_3 = 3
                · rw [if_pos c48334] at h
                  obtain rfl : b48333 = true := hb48333.symm.trans (beq_iff_eq.2 c48334)
                  refine VC.cond_t rfl ?_
                  refine VC.region ?_
                  refine VL.va (op_assign rfl (ltn rfl)) rfl ?_
                  refine VL.done ?_
                  refine VN.block ?_
                  refine VN.meet1 10 [0, 1, 2, 3, 4] [] h ⟨rfl, ⟨rfl, rfl, rfl, rfl, rfl, rfl, rfl, rfl, rfl, trivial⟩, trivial, rfl, by decide, rfl, by decide⟩
                · rw [if_neg c48334] at h
                  obtain rfl : b48333 = false := hb48333.symm.trans (beq_eq_false_iff_ne.2 c48334)
                  refine VC.cond_f rfl ?_
                  refine VC.seq ?_
                  refine VC.region ?_
                  refine VL.va (op_move rfl (ltn rfl)) rfl ?_
                  refine VL.va (op_fieldAddr FI23_0 rfl (add_at _ _ _) (ltn rfl)) rfl ?_
                  refine VL.va (op_load 4 1 rfl rfl TI3 rfl (by decide) (ltn rfl)) rfl ?_
                  refine VL.va (op_fieldAddr FI23_1 rfl (add_at _ _ _) (ltn rfl)) rfl ?_
                  refine VL.va (op_load 4 1 rfl rfl TI3 rfl (by decide) (ltn rfl)) rfl ?_
                  refine VL.va (op_ari64 rfl rfl rfl (ltn rfl)) rfl ?_
                  refine VL.letter (decide (a3 > (wrap64 (a0_0 - a0_1)))) fun b48335 hb48335 => ?_
                  refine VL.va (op_cmp rfl rfl (congrArg some hb48335) (ltn rfl)) rfl ?_
                  refine VL.va (op_assign rfl (ltn rfl)) rfl ?_
                  refine VL.done ?_
                  refine VN.then ?_
                  by_cases c48336 : a3 > (wrap64 (a0_0 - a0_1))
                  · rw [if_pos c48336] at h
                    obtain rfl : b48335 = true := hb48335.symm.trans (decide_eq_true c48336)
                    refine VC.cond_t rfl ?_
                    refine VC.region ?_
                    refine VL.va (op_assign rfl (ltn rfl)) rfl ?_
                    refine VL.done ?_
                    refine VN.block ?_
                    refine VN.meet1 2 [0, 1, 2, 3, 4] [] h ⟨rfl, ⟨rfl, rfl, rfl, rfl, rfl, rfl, rfl, rfl, rfl, trivial⟩, trivial, rfl, by decide, rfl, by decide⟩
                  · rw [if_neg c48336] at h
                    obtain rfl : b48335 = false := hb48335.symm.trans (decide_eq_false c48336)
                    refine VC.cond_f rfl ?_
                    refine VC.skip ?_
                    refine VN.block ?_
                    refine VN.meet1 0 [0, 1, 2, 3, 4] [] h ⟨rfl, ⟨rfl, rfl, rfl, rfl, rfl, rfl, rfl, rfl, rfl, trivial⟩, trivial, rfl, by decide, rfl, by decide⟩
            clear h
            intro i48337 h
            unfold tarrylaw11_PayGoes.j196 at h
            refine VC.seq ?_
            refine VC.seq ?_
            refine VC.region ?_
            refine VL.va (op_move rfl (ltn rfl)) rfl ?_
            refine VL.va (op_move rfl (ltn rfl)) rfl ?_
            refine VL.letter ((t21 != i48337)) fun b48376 hb48376 => ?_
            refine VL.va (op_cmp rfl rfl (congrArg some hb48376) (ltn rfl)) rfl ?_
            refine VL.va (op_move rfl (ltn rfl)) rfl ?_
            by_cases c48377 : t21 = i48337
            · rw [if_pos c48377] at h
              obtain rfl : b48376 = false := hb48376.symm.trans (bne_eq_false_iff_eq.2 c48377)
              refine VL.va (op_move rfl (ltn rfl)) rfl ?_
              refine VL.letter ((i48337 == 0)) fun b48378 hb48378 => ?_
              refine VL.va (op_cmp rfl rfl (congrArg some hb48378) (ltn rfl)) rfl ?_
              refine VL.va (op_move rfl (ltn rfl)) rfl ?_
              by_cases c48379 : i48337 = 0
              · rw [if_pos c48379] at h
                obtain rfl : b48378 = true := hb48378.symm.trans (beq_iff_eq.2 c48379)
                refine VL.va (op_load 3 4 rfl rfl TI23 rfl (fun h => absurd h (by decide)) (ltn rfl)) rfl ?_
                refine VL.va (op_load 0 4 rfl rfl TI23 rfl (fun h => absurd h (by decide)) (ltn rfl)) rfl ?_
                refine VL.letter ((!(((t17 == a0_0) && ((t18 == (wrap64 (a0_1 + a3))) && ((t19 == a0_2) && (t20 == a0_3))))))) fun b48380 hb48380 => ?_
                refine VL.va (op_neS rfl rfl EG23 (EQ23 t17 t18 t19 t20 a0_0 (wrap64 (a0_1 + a3)) a0_2 a0_3) hb48380 (ltn rfl)) rfl ?_
                refine VL.va (op_pick rfl rfl (ltn rfl)) rfl ?_
                refine VL.va (op_pick rfl rfl (ltn rfl)) rfl ?_
                refine VL.va (op_move rfl (ltn rfl)) rfl ?_
                by_cases c48381 : (((t17 == a0_0) && ((t18 == (wrap64 (a0_1 + a3))) && ((t19 == a0_2) && (t20 == a0_3))))) = true
                · rw [if_pos c48381] at h
                  obtain rfl : b48380 = false := hb48380.symm.trans (not_t c48381)
                  refine VL.va (op_move rfl (ltn rfl)) rfl ?_
                  refine VL.letter ((i48337 != 0)) fun b48382 hb48382 => ?_
                  refine VL.va (op_cmp rfl rfl (congrArg some hb48382) (ltn rfl)) rfl ?_
                  refine VL.va (op_move rfl (ltn rfl)) rfl ?_
                  by_cases c48383 : i48337 = 0
                  · rw [if_pos c48383] at h
                    obtain rfl : b48382 = false := hb48382.symm.trans (bne_eq_false_iff_eq.2 c48383)
                    refine VL.un rfl rfl (ltn rfl) ?_
                    refine VL.un rfl rfl (ltn rfl) ?_
                    refine VL.un rfl rfl (ltn rfl) ?_
                    refine VL.va (op_pick rfl rfl (ltn rfl)) rfl ?_
                    refine VL.va (op_pick rfl rfl (ltn rfl)) rfl ?_
                    refine VL.done ?_
                    refine VN.then ?_
                    refine VC.cond_f rfl ?_
                    refine VC.skip ?_
                    refine VN.then ?_
                    refine VC.seq ?_
                    refine VC.region ?_
                    refine VL.va (op_load 4 4 rfl rfl TI23 rfl (fun h => absurd h (by decide)) (ltn rfl)) rfl ?_
                    refine VL.sG (o_alloc (us := [.int .i64 0, .int .i64 0, .int .i64 0, .int .i64 0]) Z23 rfl (ltn rfl)) rfl ?_
                    intro g48384
                    refine VL.step1 (o_store 0 4 rfl rfl rfl TI23 (.agg (.c rfl (.c rfl (.c rfl (.c rfl .nil))))) rfl (len rfl)) rfl ?_
                    refine VL.done ?_
                    refine VN.then ?_
                    refine VC.seq ?_
                    refine VC.region ?_
                    refine VL.va (op_fieldAddr FI23_3 rfl (add_at _ _ _) (ltn rfl)) rfl ?_
                    refine VL.step1 (o_store 0 1 rfl rfl rfl TI3 (.c rfl) rfl (len rfl)) rfl ?_
                    refine VL.done ?_
                    refine VN.then ?_
                    refine VC.seq ?_
                    refine VC.seq ?_
                    refine VC.region ?_
                    refine VL.va (op_fieldAddr FI23_3 rfl (add_at _ _ _) (ltn rfl)) rfl ?_
                    refine VL.va (op_load 5 1 rfl rfl TI3 rfl (by decide) (ltn rfl)) rfl ?_
                    refine VL.letter ((a0_3 == 3)) fun b48393 hb48393 => ?_
                    refine VL.va (op_cmp rfl rfl (congrArg some hb48393) (ltn rfl)) rfl ?_
                    refine VL.done ?_
                    refine VN.then ?_
                    by_cases c48394 : a0_3 = 3
                    · rw [if_pos c48394] at h
                      obtain rfl : b48393 = true := hb48393.symm.trans (beq_iff_eq.2 c48394)
                      refine VC.cond_t rfl ?_
                      refine VC.seq ?_
                      refine VC.region ?_
                      refine VL.va (op_move rfl (ltn rfl)) rfl ?_
                      refine VL.letter ((t28 == 10)) fun b48398 hb48398 => ?_
                      refine VL.va (op_cmp rfl rfl (congrArg some hb48398) (ltn rfl)) rfl ?_
                      refine VL.va (op_move rfl (ltn rfl)) rfl ?_
                      by_cases c48399 : t28 = 10
                      · rw [if_pos c48399] at h
                        obtain rfl : b48398 = true := hb48398.symm.trans (beq_iff_eq.2 c48399)
                        refine VL.va (op_load 3 4 rfl rfl TI23 rfl (fun h => absurd h (by decide)) (ltn rfl)) rfl ?_
                        refine VL.va (op_load 2 4 rfl rfl TI23 rfl (fun h => absurd h (by decide)) (ltn rfl)) rfl ?_
                        refine VL.letter ((((t24 == 0) && ((t25 == 0) && ((t26 == 0) && (t27 == 0)))))) fun b48400 hb48400 => ?_
                        refine VL.va (op_eqS rfl rfl EG23 (EQ23 t24 t25 t26 t27 0 0 0 0) hb48400 (ltn rfl)) rfl ?_
                        refine VL.va (op_pick rfl rfl (ltn rfl)) rfl ?_
                        refine VL.va (op_assign rfl (ltn rfl)) rfl ?_
                        refine VL.done ?_
                        refine VN.then ?_
                        refine VC.ret ?_
                        refine VR.then ?_
                        obtain rfl := Option.some.inj h
                        subst hb48400
                        exact VR.fn (rs := [.tmp 8]) [] [] [] rfl (.tmp rfl .nil) ⟨rfl, rfl, rfl⟩ trivial rfl (by decide)
                      · rw [if_neg c48399] at h
                        obtain rfl : b48398 = false := hb48398.symm.trans (beq_eq_false_iff_ne.2 c48399)
                        refine VL.un rfl rfl (ltn rfl) ?_
                        refine VL.un rfl rfl (ltn rfl) ?_
                        refine VL.un rfl rfl (ltn rfl) ?_
                        refine VL.va (op_pick rfl rfl (ltn rfl)) rfl ?_
                        refine VL.va (op_assign rfl (ltn rfl)) rfl ?_
                        refine VL.done ?_
                        refine VN.then ?_
                        refine VC.ret ?_
                        refine VR.then ?_
                        cases h
                    · rw [if_neg c48394] at h
                      obtain rfl : b48393 = false := hb48393.symm.trans (beq_eq_false_iff_ne.2 c48394)
                      refine VC.cond_f rfl ?_
                      refine VC.skip ?_
                      refine VN.then ?_
                      refine VC.seq ?_
                      refine VC.region ?_
                      refine VL.va (op_move rfl (ltn rfl)) rfl ?_
                      refine VL.letter ((t28 == 0)) fun b48404 hb48404 => ?_
                      refine VL.va (op_cmp rfl rfl (congrArg some hb48404) (ltn rfl)) rfl ?_
                      refine VL.va (op_move rfl (ltn rfl)) rfl ?_
                      by_cases c48405 : t28 = 0
                      · rw [if_pos c48405] at h
                        obtain rfl : b48404 = true := hb48404.symm.trans (beq_iff_eq.2 c48405)
                        refine VL.va (op_load 3 4 rfl rfl TI23 rfl (fun h => absurd h (by decide)) (ltn rfl)) rfl ?_
                        refine VL.va (op_load 0 4 rfl rfl TI23 rfl (fun h => absurd h (by decide)) (ltn rfl)) rfl ?_
                        refine VL.letter ((((t24 == a0_0) && ((t25 == a0_1) && ((t26 == a0_2) && (t27 == 3)))))) fun b48406 hb48406 => ?_
                        refine VL.va (op_eqS rfl rfl EG23 (EQ23 t24 t25 t26 t27 a0_0 a0_1 a0_2 3) hb48406 (ltn rfl)) rfl ?_
                        refine VL.va (op_pick rfl rfl (ltn rfl)) rfl ?_
                        refine VL.va (op_assign rfl (ltn rfl)) rfl ?_
                        refine VL.done ?_
                        refine VN.then ?_
                        refine VC.ret ?_
                        obtain rfl := Option.some.inj h
                        subst hb48406
                        exact VR.fn (rs := [.tmp 8]) [] [] [] rfl (.tmp rfl .nil) ⟨rfl, rfl, rfl⟩ trivial rfl (by decide)
                      · rw [if_neg c48405] at h
                        obtain rfl : b48404 = false := hb48404.symm.trans (beq_eq_false_iff_ne.2 c48405)
                        refine VL.un rfl rfl (ltn rfl) ?_
                        refine VL.un rfl rfl (ltn rfl) ?_
                        refine VL.un rfl rfl (ltn rfl) ?_
                        refine VL.va (op_pick rfl rfl (ltn rfl)) rfl ?_
                        refine VL.va (op_assign rfl (ltn rfl)) rfl ?_
                        refine VL.done ?_
                        refine VN.then ?_
                        refine VC.ret ?_
                        cases h
                  · rw [if_neg c48383] at h
                    obtain rfl : b48382 = true := hb48382.symm.trans (bne_iff_ne.2 c48383)
                    refine VL.va (op_load 3 4 rfl rfl TI23 rfl (fun h => absurd h (by decide)) (ltn rfl)) rfl ?_
                    refine VL.va (op_load 1 4 rfl rfl TI23 rfl (fun h => absurd h (by decide)) (ltn rfl)) rfl ?_
                    refine VL.letter ((!(((t17 == 0) && ((t18 == 0) && ((t19 == 0) && (t20 == 0))))))) fun b48407 hb48407 => ?_
                    refine VL.va (op_neS rfl rfl EG23 (EQ23 t17 t18 t19 t20 0 0 0 0) hb48407 (ltn rfl)) rfl ?_
                    refine VL.va (op_pick rfl rfl (ltn rfl)) rfl ?_
                    refine VL.va (op_pick rfl rfl (ltn rfl)) rfl ?_
                    refine VL.done ?_
                    refine VN.then ?_
                    by_cases c48408 : (((t17 == 0) && ((t18 == 0) && ((t19 == 0) && (t20 == 0))))) = true
                    · rw [if_pos c48408] at h
                      obtain rfl : b48407 = false := hb48407.symm.trans (not_t c48408)
                      refine VC.cond_f rfl ?_
                      refine VC.skip ?_
                      refine VN.then ?_
                      refine VC.seq ?_
                      refine VC.region ?_
                      refine VL.va (op_load 4 4 rfl rfl TI23 rfl (fun h => absurd h (by decide)) (ltn rfl)) rfl ?_
                      refine VL.sG (o_alloc (us := [.int .i64 0, .int .i64 0, .int .i64 0, .int .i64 0]) Z23 rfl (ltn rfl)) rfl ?_
                      intro g48409
                      refine VL.step1 (o_store 0 4 rfl rfl rfl TI23 (.agg (.c rfl (.c rfl (.c rfl (.c rfl .nil))))) rfl (len rfl)) rfl ?_
                      refine VL.done ?_
                      refine VN.then ?_
                      refine VC.seq ?_
                      refine VC.region ?_
                      refine VL.va (op_fieldAddr FI23_3 rfl (add_at _ _ _) (ltn rfl)) rfl ?_
                      refine VL.step1 (o_store 0 1 rfl rfl rfl TI3 (.c rfl) rfl (len rfl)) rfl ?_
                      refine VL.done ?_
                      refine VN.then ?_
                      refine VC.seq ?_
                      refine VC.seq ?_
                      refine VC.region ?_
                      refine VL.va (op_fieldAddr FI23_3 rfl (add_at _ _ _) (ltn rfl)) rfl ?_
                      refine VL.va (op_load 5 1 rfl rfl TI3 rfl (by decide) (ltn rfl)) rfl ?_
                      refine VL.letter ((a0_3 == 3)) fun b48418 hb48418 => ?_
                      refine VL.va (op_cmp rfl rfl (congrArg some hb48418) (ltn rfl)) rfl ?_
                      refine VL.done ?_
                      refine VN.then ?_
                      by_cases c48419 : a0_3 = 3
                      · rw [if_pos c48419] at h
                        obtain rfl : b48418 = true := hb48418.symm.trans (beq_iff_eq.2 c48419)
                        refine VC.cond_t rfl ?_
                        refine VC.seq ?_
                        refine VC.region ?_
                        refine VL.va (op_move rfl (ltn rfl)) rfl ?_
                        refine VL.letter ((t28 == 10)) fun b48423 hb48423 => ?_
                        refine VL.va (op_cmp rfl rfl (congrArg some hb48423) (ltn rfl)) rfl ?_
                        refine VL.va (op_move rfl (ltn rfl)) rfl ?_
                        by_cases c48424 : t28 = 10
                        · rw [if_pos c48424] at h
                          obtain rfl : b48423 = true := hb48423.symm.trans (beq_iff_eq.2 c48424)
                          refine VL.va (op_load 3 4 rfl rfl TI23 rfl (fun h => absurd h (by decide)) (ltn rfl)) rfl ?_
                          refine VL.va (op_load 2 4 rfl rfl TI23 rfl (fun h => absurd h (by decide)) (ltn rfl)) rfl ?_
                          refine VL.letter ((((t24 == 0) && ((t25 == 0) && ((t26 == 0) && (t27 == 0)))))) fun b48425 hb48425 => ?_
                          refine VL.va (op_eqS rfl rfl EG23 (EQ23 t24 t25 t26 t27 0 0 0 0) hb48425 (ltn rfl)) rfl ?_
                          refine VL.va (op_pick rfl rfl (ltn rfl)) rfl ?_
                          refine VL.va (op_assign rfl (ltn rfl)) rfl ?_
                          refine VL.done ?_
                          refine VN.then ?_
                          refine VC.ret ?_
                          refine VR.then ?_
                          obtain rfl := Option.some.inj h
                          subst hb48425
                          exact VR.fn (rs := [.tmp 8]) [] [] [] rfl (.tmp rfl .nil) ⟨rfl, rfl, rfl⟩ trivial rfl (by decide)
                        · rw [if_neg c48424] at h
                          obtain rfl : b48423 = false := hb48423.symm.trans (beq_eq_false_iff_ne.2 c48424)
                          refine VL.un rfl rfl (ltn rfl) ?_
                          refine VL.un rfl rfl (ltn rfl) ?_
                          refine VL.un rfl rfl (ltn rfl) ?_
                          refine VL.va (op_pick rfl rfl (ltn rfl)) rfl ?_
                          refine VL.va (op_assign rfl (ltn rfl)) rfl ?_
                          refine VL.done ?_
                          refine VN.then ?_
                          refine VC.ret ?_
                          refine VR.then ?_
                          cases h
                      · rw [if_neg c48419] at h
                        obtain rfl : b48418 = false := hb48418.symm.trans (beq_eq_false_iff_ne.2 c48419)
                        refine VC.cond_f rfl ?_
                        refine VC.skip ?_
                        refine VN.then ?_
                        refine VC.seq ?_
                        refine VC.region ?_
                        refine VL.va (op_move rfl (ltn rfl)) rfl ?_
                        refine VL.letter ((t28 == 0)) fun b48429 hb48429 => ?_
                        refine VL.va (op_cmp rfl rfl (congrArg some hb48429) (ltn rfl)) rfl ?_
                        refine VL.va (op_move rfl (ltn rfl)) rfl ?_
                        by_cases c48430 : t28 = 0
                        · rw [if_pos c48430] at h
                          obtain rfl : b48429 = true := hb48429.symm.trans (beq_iff_eq.2 c48430)
                          refine VL.va (op_load 3 4 rfl rfl TI23 rfl (fun h => absurd h (by decide)) (ltn rfl)) rfl ?_
                          refine VL.va (op_load 0 4 rfl rfl TI23 rfl (fun h => absurd h (by decide)) (ltn rfl)) rfl ?_
                          refine VL.letter ((((t24 == a0_0) && ((t25 == a0_1) && ((t26 == a0_2) && (t27 == 3)))))) fun b48431 hb48431 => ?_
                          refine VL.va (op_eqS rfl rfl EG23 (EQ23 t24 t25 t26 t27 a0_0 a0_1 a0_2 3) hb48431 (ltn rfl)) rfl ?_
                          refine VL.va (op_pick rfl rfl (ltn rfl)) rfl ?_
                          refine VL.va (op_assign rfl (ltn rfl)) rfl ?_
                          refine VL.done ?_
                          refine VN.then ?_
                          refine VC.ret ?_
                          obtain rfl := Option.some.inj h
                          subst hb48431
                          exact VR.fn (rs := [.tmp 8]) [] [] [] rfl (.tmp rfl .nil) ⟨rfl, rfl, rfl⟩ trivial rfl (by decide)
                        · rw [if_neg c48430] at h
                          obtain rfl : b48429 = false := hb48429.symm.trans (beq_eq_false_iff_ne.2 c48430)
                          refine VL.un rfl rfl (ltn rfl) ?_
                          refine VL.un rfl rfl (ltn rfl) ?_
                          refine VL.un rfl rfl (ltn rfl) ?_
                          refine VL.va (op_pick rfl rfl (ltn rfl)) rfl ?_
                          refine VL.va (op_assign rfl (ltn rfl)) rfl ?_
                          refine VL.done ?_
                          refine VN.then ?_
                          refine VC.ret ?_
                          cases h
                    · rw [if_neg c48408] at h
                      obtain rfl : b48407 = true := hb48407.symm.trans (not_f c48408)
                      refine VC.cond_t rfl ?_
                      refine VC.seq ?_
                      refine VC.region ?_
                      refine VL.va (op_assign rfl (ltn rfl)) rfl ?_
                      refine VL.done ?_
                      refine VN.then ?_
                      refine VC.ret ?_
                      refine VR.then ?_
                      cases h
                · rw [if_neg c48381] at h
                  obtain rfl : b48380 = true := hb48380.symm.trans (not_f c48381)
                  refine VL.un rfl rfl (ltn rfl) ?_
                  refine VL.un rfl rfl (ltn rfl) ?_
                  refine VL.un rfl rfl (ltn rfl) ?_
                  refine VL.un rfl rfl (ltn rfl) ?_
                  refine VL.un rfl rfl (ltn rfl) ?_
                  refine VL.un rfl rfl (ltn rfl) ?_
                  refine VL.un rfl rfl (ltn rfl) ?_
                  refine VL.va (op_pick rfl rfl (ltn rfl)) rfl ?_
                  refine VL.done ?_
                  refine VN.then ?_
                  refine VC.cond_t rfl ?_
                  refine VC.seq ?_
                  refine VC.region ?_
                  refine VL.va (op_assign rfl (ltn rfl)) rfl ?_
                  refine VL.done ?_
                  refine VN.then ?_
                  refine VC.ret ?_
                  refine VR.then ?_
                  cases h
              · rw [if_neg c48379] at h
                obtain rfl : b48378 = false := hb48378.symm.trans (beq_eq_false_iff_ne.2 c48379)
                refine VL.un rfl rfl (ltn rfl) ?_
                refine VL.un rfl rfl (ltn rfl) ?_
                refine VL.un rfl rfl (ltn rfl) ?_
                refine VL.va (op_pick rfl rfl (ltn rfl)) rfl ?_
                refine VL.va (op_pick rfl rfl (ltn rfl)) rfl ?_
                refine VL.va (op_move rfl (ltn rfl)) rfl ?_
                refine VL.va (op_move rfl (ltn rfl)) rfl ?_
                refine VL.letter ((i48337 != 0)) fun b48432 hb48432 => ?_
                refine VL.va (op_cmp rfl rfl (congrArg some hb48432) (ltn rfl)) rfl ?_
                refine VL.va (op_move rfl (ltn rfl)) rfl ?_
                by_cases c48433 : i48337 = 0
                · rw [if_pos c48433] at h
                  obtain rfl : b48432 = false := hb48432.symm.trans (bne_eq_false_iff_eq.2 c48433)
                  refine VL.un rfl rfl (ltn rfl) ?_
                  refine VL.un rfl rfl (ltn rfl) ?_
                  refine VL.un rfl rfl (ltn rfl) ?_
                  refine VL.va (op_pick rfl rfl (ltn rfl)) rfl ?_
                  refine VL.va (op_pick rfl rfl (ltn rfl)) rfl ?_
                  refine VL.done ?_
                  refine VN.then ?_
                  refine VC.cond_f rfl ?_
                  refine VC.skip ?_
                  refine VN.then ?_
                  refine VC.seq ?_
                  refine VC.region ?_
                  refine VL.va (op_load 4 4 rfl rfl TI23 rfl (fun h => absurd h (by decide)) (ltn rfl)) rfl ?_
                  refine VL.sG (o_alloc (us := [.int .i64 0, .int .i64 0, .int .i64 0, .int .i64 0]) Z23 rfl (ltn rfl)) rfl ?_
                  intro g48434
                  refine VL.step1 (o_store 0 4 rfl rfl rfl TI23 (.agg (.c rfl (.c rfl (.c rfl (.c rfl .nil))))) rfl (len rfl)) rfl ?_
                  refine VL.done ?_
                  refine VN.then ?_
                  refine VC.seq ?_
                  refine VC.region ?_
                  refine VL.va (op_fieldAddr FI23_3 rfl (add_at _ _ _) (ltn rfl)) rfl ?_
                  refine VL.step1 (o_store 0 1 rfl rfl rfl TI3 (.c rfl) rfl (len rfl)) rfl ?_
                  refine VL.done ?_
                  refine VN.then ?_
                  refine VC.seq ?_
                  refine VC.seq ?_
                  refine VC.region ?_
                  refine VL.va (op_fieldAddr FI23_3 rfl (add_at _ _ _) (ltn rfl)) rfl ?_
                  refine VL.va (op_load 5 1 rfl rfl TI3 rfl (by decide) (ltn rfl)) rfl ?_
                  refine VL.letter ((a0_3 == 3)) fun b48443 hb48443 => ?_
                  refine VL.va (op_cmp rfl rfl (congrArg some hb48443) (ltn rfl)) rfl ?_
                  refine VL.done ?_
                  refine VN.then ?_
                  by_cases c48444 : a0_3 = 3
                  · rw [if_pos c48444] at h
                    obtain rfl : b48443 = true := hb48443.symm.trans (beq_iff_eq.2 c48444)
                    refine VC.cond_t rfl ?_
                    refine VC.seq ?_
                    refine VC.region ?_
                    refine VL.va (op_move rfl (ltn rfl)) rfl ?_
                    refine VL.letter ((t28 == 10)) fun b48448 hb48448 => ?_
                    refine VL.va (op_cmp rfl rfl (congrArg some hb48448) (ltn rfl)) rfl ?_
                    refine VL.va (op_move rfl (ltn rfl)) rfl ?_
                    by_cases c48449 : t28 = 10
                    · rw [if_pos c48449] at h
                      obtain rfl : b48448 = true := hb48448.symm.trans (beq_iff_eq.2 c48449)
                      refine VL.va (op_load 3 4 rfl rfl TI23 rfl (fun h => absurd h (by decide)) (ltn rfl)) rfl ?_
                      refine VL.va (op_load 2 4 rfl rfl TI23 rfl (fun h => absurd h (by decide)) (ltn rfl)) rfl ?_
                      refine VL.letter ((((t24 == 0) && ((t25 == 0) && ((t26 == 0) && (t27 == 0)))))) fun b48450 hb48450 => ?_
                      refine VL.va (op_eqS rfl rfl EG23 (EQ23 t24 t25 t26 t27 0 0 0 0) hb48450 (ltn rfl)) rfl ?_
                      refine VL.va (op_pick rfl rfl (ltn rfl)) rfl ?_
                      refine VL.va (op_assign rfl (ltn rfl)) rfl ?_
                      refine VL.done ?_
                      refine VN.then ?_
                      refine VC.ret ?_
                      refine VR.then ?_
                      obtain rfl := Option.some.inj h
                      subst hb48450
                      exact VR.fn (rs := [.tmp 8]) [] [] [] rfl (.tmp rfl .nil) ⟨rfl, rfl, rfl⟩ trivial rfl (by decide)
                    · rw [if_neg c48449] at h
                      obtain rfl : b48448 = false := hb48448.symm.trans (beq_eq_false_iff_ne.2 c48449)
                      refine VL.un rfl rfl (ltn rfl) ?_
                      refine VL.un rfl rfl (ltn rfl) ?_
                      refine VL.un rfl rfl (ltn rfl) ?_
                      refine VL.va (op_pick rfl rfl (ltn rfl)) rfl ?_
                      refine VL.va (op_assign rfl (ltn rfl)) rfl ?_
                      refine VL.done ?_
                      refine VN.then ?_
                      refine VC.ret ?_
                      refine VR.then ?_
                      cases h
                  · rw [if_neg c48444] at h
                    obtain rfl : b48443 = false := hb48443.symm.trans (beq_eq_false_iff_ne.2 c48444)
                    refine VC.cond_f rfl ?_
                    refine VC.skip ?_
                    refine VN.then ?_
                    refine VC.seq ?_
                    refine VC.region ?_
                    refine VL.va (op_move rfl (ltn rfl)) rfl ?_
                    refine VL.letter ((t28 == 0)) fun b48454 hb48454 => ?_
                    refine VL.va (op_cmp rfl rfl (congrArg some hb48454) (ltn rfl)) rfl ?_
                    refine VL.va (op_move rfl (ltn rfl)) rfl ?_
                    by_cases c48455 : t28 = 0
                    · rw [if_pos c48455] at h
                      obtain rfl : b48454 = true := hb48454.symm.trans (beq_iff_eq.2 c48455)
                      refine VL.va (op_load 3 4 rfl rfl TI23 rfl (fun h => absurd h (by decide)) (ltn rfl)) rfl ?_
                      refine VL.va (op_load 0 4 rfl rfl TI23 rfl (fun h => absurd h (by decide)) (ltn rfl)) rfl ?_
                      refine VL.letter ((((t24 == a0_0) && ((t25 == a0_1) && ((t26 == a0_2) && (t27 == 3)))))) fun b48456 hb48456 => ?_
                      refine VL.va (op_eqS rfl rfl EG23 (EQ23 t24 t25 t26 t27 a0_0 a0_1 a0_2 3) hb48456 (ltn rfl)) rfl ?_
                      refine VL.va (op_pick rfl rfl (ltn rfl)) rfl ?_
                      refine VL.va (op_assign rfl (ltn rfl)) rfl ?_
                      refine VL.done ?_
                      refine VN.then ?_
                      refine VC.ret ?_
                      obtain rfl := Option.some.inj h
                      subst hb48456
                      exact VR.fn (rs := [.tmp 8]) [] [] [] rfl (.tmp rfl .nil) ⟨rfl, rfl, rfl⟩ trivial rfl (by decide)
                    · rw [if_neg c48455] at h
                      obtain rfl : b48454 = false := hb48454.symm.trans (beq_eq_false_iff_ne.2 c48455)
                      refine VL.un rfl rfl (ltn rfl) ?_
                      refine VL.un rfl rfl (ltn rfl) ?_
                      refine VL.un rfl rfl (ltn rfl) ?_
                      refine VL.va (op_pick rfl rfl (ltn rfl)) rfl ?_
                      refine VL.va (op_assign rfl (ltn rfl)) rfl ?_
                      refine VL.done ?_
                      refine VN.then ?_
                      refine VC.ret ?_
                      cases h
                · rw [if_neg c48433] at h
                  obtain rfl : b48432 = true := hb48432.symm.trans (bne_iff_ne.2 c48433)
                  refine VL.va (op_load 3 4 rfl rfl TI23 rfl (fun h => absurd h (by decide)) (ltn rfl)) rfl ?_
                  refine VL.va (op_load 1 4 rfl rfl TI23 rfl (fun h => absurd h (by decide)) (ltn rfl)) rfl ?_
                  refine VL.letter ((!(((t17 == 0) && ((t18 == 0) && ((t19 == 0) && (t20 == 0))))))) fun b48457 hb48457 => ?_
                  refine VL.va (op_neS rfl rfl EG23 (EQ23 t17 t18 t19 t20 0 0 0 0) hb48457 (ltn rfl)) rfl ?_
                  refine VL.va (op_pick rfl rfl (ltn rfl)) rfl ?_
                  refine VL.va (op_pick rfl rfl (ltn rfl)) rfl ?_
                  refine VL.done ?_
                  refine VN.then ?_
                  by_cases c48458 : (((t17 == 0) && ((t18 == 0) && ((t19 == 0) && (t20 == 0))))) = true
                  · rw [if_pos c48458] at h
                    obtain rfl : b48457 = false := hb48457.symm.trans (not_t c48458)
                    refine VC.cond_f rfl ?_
                    refine VC.skip ?_
                    refine VN.then ?_
                    refine VC.seq ?_
                    refine VC.region ?_
                    refine VL.va (op_load 4 4 rfl rfl TI23 rfl (fun h => absurd h (by decide)) (ltn rfl)) rfl ?_
                    refine VL.sG (o_alloc (us := [.int .i64 0, .int .i64 0, .int .i64 0, .int .i64 0]) Z23 rfl (ltn rfl)) rfl ?_
                    intro g48459
                    refine VL.step1 (o_store 0 4 rfl rfl rfl TI23 (.agg (.c rfl (.c rfl (.c rfl (.c rfl .nil))))) rfl (len rfl)) rfl ?_
                    refine VL.done ?_
                    refine VN.then ?_
                    refine VC.seq ?_
                    refine VC.region ?_
                    refine VL.va (op_fieldAddr FI23_3 rfl (add_at _ _ _) (ltn rfl)) rfl ?_
                    refine VL.step1 (o_store 0 1 rfl rfl rfl TI3 (.c rfl) rfl (len rfl)) rfl ?_
                    refine VL.done ?_
                    refine VN.then ?_
                    refine VC.seq ?_
                    refine VC.seq ?_
                    refine VC.region ?_
                    refine VL.va (op_fieldAddr FI23_3 rfl (add_at _ _ _) (ltn rfl)) rfl ?_
                    refine VL.va (op_load 5 1 rfl rfl TI3 rfl (by decide) (ltn rfl)) rfl ?_
                    refine VL.letter ((a0_3 == 3)) fun b48468 hb48468 => ?_
                    refine VL.va (op_cmp rfl rfl (congrArg some hb48468) (ltn rfl)) rfl ?_
                    refine VL.done ?_
                    refine VN.then ?_
                    by_cases c48469 : a0_3 = 3
                    · rw [if_pos c48469] at h
                      obtain rfl : b48468 = true := hb48468.symm.trans (beq_iff_eq.2 c48469)
                      refine VC.cond_t rfl ?_
                      refine VC.seq ?_
                      refine VC.region ?_
                      refine VL.va (op_move rfl (ltn rfl)) rfl ?_
                      refine VL.letter ((t28 == 10)) fun b48473 hb48473 => ?_
                      refine VL.va (op_cmp rfl rfl (congrArg some hb48473) (ltn rfl)) rfl ?_
                      refine VL.va (op_move rfl (ltn rfl)) rfl ?_
                      by_cases c48474 : t28 = 10
                      · rw [if_pos c48474] at h
                        obtain rfl : b48473 = true := hb48473.symm.trans (beq_iff_eq.2 c48474)
                        refine VL.va (op_load 3 4 rfl rfl TI23 rfl (fun h => absurd h (by decide)) (ltn rfl)) rfl ?_
                        refine VL.va (op_load 2 4 rfl rfl TI23 rfl (fun h => absurd h (by decide)) (ltn rfl)) rfl ?_
                        refine VL.letter ((((t24 == 0) && ((t25 == 0) && ((t26 == 0) && (t27 == 0)))))) fun b48475 hb48475 => ?_
                        refine VL.va (op_eqS rfl rfl EG23 (EQ23 t24 t25 t26 t27 0 0 0 0) hb48475 (ltn rfl)) rfl ?_
                        refine VL.va (op_pick rfl rfl (ltn rfl)) rfl ?_
                        refine VL.va (op_assign rfl (ltn rfl)) rfl ?_
                        refine VL.done ?_
                        refine VN.then ?_
                        refine VC.ret ?_
                        refine VR.then ?_
                        obtain rfl := Option.some.inj h
                        subst hb48475
                        exact VR.fn (rs := [.tmp 8]) [] [] [] rfl (.tmp rfl .nil) ⟨rfl, rfl, rfl⟩ trivial rfl (by decide)
                      · rw [if_neg c48474] at h
                        obtain rfl : b48473 = false := hb48473.symm.trans (beq_eq_false_iff_ne.2 c48474)
                        refine VL.un rfl rfl (ltn rfl) ?_
                        refine VL.un rfl rfl (ltn rfl) ?_
                        refine VL.un rfl rfl (ltn rfl) ?_
                        refine VL.va (op_pick rfl rfl (ltn rfl)) rfl ?_
                        refine VL.va (op_assign rfl (ltn rfl)) rfl ?_
                        refine VL.done ?_
                        refine VN.then ?_
                        refine VC.ret ?_
                        refine VR.then ?_
                        cases h
                    · rw [if_neg c48469] at h
                      obtain rfl : b48468 = false := hb48468.symm.trans (beq_eq_false_iff_ne.2 c48469)
                      refine VC.cond_f rfl ?_
                      refine VC.skip ?_
                      refine VN.then ?_
                      refine VC.seq ?_
                      refine VC.region ?_
                      refine VL.va (op_move rfl (ltn rfl)) rfl ?_
                      refine VL.letter ((t28 == 0)) fun b48479 hb48479 => ?_
                      refine VL.va (op_cmp rfl rfl (congrArg some hb48479) (ltn rfl)) rfl ?_
                      refine VL.va (op_move rfl (ltn rfl)) rfl ?_
                      by_cases c48480 : t28 = 0
                      · rw [if_pos c48480] at h
                        obtain rfl : b48479 = true := hb48479.symm.trans (beq_iff_eq.2 c48480)
                        refine VL.va (op_load 3 4 rfl rfl TI23 rfl (fun h => absurd h (by decide)) (ltn rfl)) rfl ?_
                        refine VL.va (op_load 0 4 rfl rfl TI23 rfl (fun h => absurd h (by decide)) (ltn rfl)) rfl ?_
                        refine VL.letter ((((t24 == a0_0) && ((t25 == a0_1) && ((t26 == a0_2) && (t27 == 3)))))) fun b48481 hb48481 => ?_
                        refine VL.va (op_eqS rfl rfl EG23 (EQ23 t24 t25 t26 t27 a0_0 a0_1 a0_2 3) hb48481 (ltn rfl)) rfl ?_
                        refine VL.va (op_pick rfl rfl (ltn rfl)) rfl ?_
                        refine VL.va (op_assign rfl (ltn rfl)) rfl ?_
                        refine VL.done ?_
                        refine VN.then ?_
                        refine VC.ret ?_
                        obtain rfl := Option.some.inj h
                        subst hb48481
                        exact VR.fn (rs := [.tmp 8]) [] [] [] rfl (.tmp rfl .nil) ⟨rfl, rfl, rfl⟩ trivial rfl (by decide)
                      · rw [if_neg c48480] at h
                        obtain rfl : b48479 = false := hb48479.symm.trans (beq_eq_false_iff_ne.2 c48480)
                        refine VL.un rfl rfl (ltn rfl) ?_
                        refine VL.un rfl rfl (ltn rfl) ?_
                        refine VL.un rfl rfl (ltn rfl) ?_
                        refine VL.va (op_pick rfl rfl (ltn rfl)) rfl ?_
                        refine VL.va (op_assign rfl (ltn rfl)) rfl ?_
                        refine VL.done ?_
                        refine VN.then ?_
                        refine VC.ret ?_
                        cases h
                  · rw [if_neg c48458] at h
                    obtain rfl : b48457 = true := hb48457.symm.trans (not_f c48458)
                    refine VC.cond_t rfl ?_
                    refine VC.seq ?_
                    refine VC.region ?_
                    refine VL.va (op_assign rfl (ltn rfl)) rfl ?_
                    refine VL.done ?_
                    refine VN.then ?_
                    refine VC.ret ?_
                    refine VR.then ?_
                    cases h
            · rw [if_neg c48377] at h
              obtain rfl : b48376 = true := hb48376.symm.trans (bne_iff_ne.2 c48377)
              refine VL.un rfl rfl (ltn rfl) ?_
              refine VL.un rfl rfl (ltn rfl) ?_
              refine VL.un rfl rfl (ltn rfl) ?_
              refine VL.un rfl rfl (ltn rfl) ?_
              refine VL.un rfl rfl (ltn rfl) ?_
              refine VL.un rfl rfl (ltn rfl) ?_
              refine VL.un rfl rfl (ltn rfl) ?_
              refine VL.va (op_pick rfl rfl (ltn rfl)) rfl ?_
              refine VL.va (op_move rfl (ltn rfl)) rfl ?_
              refine VL.un rfl rfl (ltn rfl) ?_
              refine VL.un rfl rfl (ltn rfl) ?_
              refine VL.un rfl rfl (ltn rfl) ?_
              refine VL.un rfl rfl (ltn rfl) ?_
              refine VL.un rfl rfl (ltn rfl) ?_
              refine VL.un rfl rfl (ltn rfl) ?_
              refine VL.un rfl rfl (ltn rfl) ?_
              refine VL.va (op_pick rfl rfl (ltn rfl)) rfl ?_
              refine VL.done ?_
              refine VN.then ?_
              refine VC.cond_t rfl ?_
              refine VC.seq ?_
              refine VC.region ?_
              refine VL.va (op_assign rfl (ltn rfl)) rfl ?_
              refine VL.done ?_
              refine VN.then ?_
              refine VC.ret ?_
              refine VR.then ?_
              cases h
          · rw [if_neg c44485] at h
            obtain rfl : b44484 = true := hb44484.symm.trans (by simpa using c44485)
            refine VC.cond_t rfl ?_
            refine VC.seq ?_
            refine VC.region ?_
            refine VL.va (op_assign rfl (ltn rfl)) rfl ?_
            refine VL.done ?_
            refine VN.then ?_
            refine VC.ret ?_
            refine VR.then ?_
            cases h
        · rw [if_neg c44482] at h
          obtain rfl : b44481 = true := hb44481.symm.trans (not_f c44482)
          refine VL.un rfl rfl (ltn rfl) ?_
          refine VL.un rfl rfl (ltn rfl) ?_
          refine VL.un rfl rfl (ltn rfl) ?_
          refine VL.un rfl rfl (ltn rfl) ?_
          refine VL.un rfl rfl (ltn rfl) ?_
          refine VL.va (op_pick rfl rfl (ltn rfl)) rfl ?_
          refine VL.done ?_
          refine VN.then ?_
          refine VC.cond_t rfl ?_
          refine VC.seq ?_
          refine VC.region ?_
          refine VL.va (op_assign rfl (ltn rfl)) rfl ?_
          refine VL.done ?_
          refine VN.then ?_
          refine VC.ret ?_
          refine VR.then ?_
          cases h
      · rw [if_neg c44480] at h
        obtain rfl : b44479 = true := hb44479.symm.trans (bne_iff_ne.2 c44480)
        refine VL.un rfl rfl (ltn rfl) ?_
        refine VL.un rfl rfl (ltn rfl) ?_
        refine VL.un rfl rfl (ltn rfl) ?_
        refine VL.va (op_pick rfl rfl (ltn rfl)) rfl ?_
        refine VL.va (op_move rfl (ltn rfl)) rfl ?_
        refine VL.un rfl rfl (ltn rfl) ?_
        refine VL.un rfl rfl (ltn rfl) ?_
        refine VL.un rfl rfl (ltn rfl) ?_
        refine VL.un rfl rfl (ltn rfl) ?_
        refine VL.un rfl rfl (ltn rfl) ?_
        refine VL.va (op_pick rfl rfl (ltn rfl)) rfl ?_
        refine VL.done ?_
        refine VN.then ?_
        refine VC.cond_t rfl ?_
        refine VC.seq ?_
        refine VC.region ?_
        refine VL.va (op_assign rfl (ltn rfl)) rfl ?_
        refine VL.done ?_
        refine VN.then ?_
        refine VC.ret ?_
        refine VR.then ?_
        cases h
  · rw [if_neg c43] at h
    obtain rfl := Bool.eq_false_iff.2 c43
    refine VL.va (op_not rfl rfl (ltn rfl)) rfl ?_
    refine VL.done ?_
    refine VN.then ?_
    refine VC.cond_t rfl ?_
    refine VC.seq ?_
    refine VC.region ?_
    refine VL.va (op_assign rfl (ltn rfl)) rfl ?_
    refine VL.done ?_
    refine VN.then ?_
    refine VC.ret ?_
    refine VR.then ?_
    cases h

end Go.Proofs.Ytagclnkmndgeoaa.PPayGoes
