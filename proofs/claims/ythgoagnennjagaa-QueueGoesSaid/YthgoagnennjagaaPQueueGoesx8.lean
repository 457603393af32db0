/- Written by a program of this repo: what the program's functions do, each as a Lean function, shown of the loaded code; or a statement's row over that; no condition of its own. -/
import Derived.Test.YthgoagnennjagaaPQueueGoesx7
namespace Go.Proofs.Ythgoagnennjagaa.PQueueGoes
open Go Go.RowKit Go.Proofs.YthgoagnennjagaaV
set_option linter.unusedVariables false
set_option linter.unusedSimpArgs false

set_option maxHeartbeats 4000000 in
set_option maxRecDepth 100000 in
theorem tarrylaw06_QueueGoes.ok (k : Nat) (l0 : List S23) (a1_0 : Int) (a1_1 : Int) (a1_2 : Int) (v0 : Value) (r1 : Bool) (h : tarrylaw06_QueueGoes.f k l0 a1_0 a1_1 a1_2 = some r1) :
    VCalls Try.prog 4 [v0, .agg #[.int .i64 a1_0, .int .i64 a1_1, .int .i64 a1_2]] [.row v0 3 (l0.map enc23)] (fun v G own => v = .bool r1 ∧ G = [] ∧ own = []) := by
  refine VCalls.intro Try.func4 rfl (len rfl) fun E hC => ?_
  unfold tarrylaw06_QueueGoes.f at h
  refine VC.seq ?_
  refine VC.region ?_
  refine VL.sG (o_box rfl (.agg (.of rfl)) (ltn rfl)) rfl ?_
  intro g2
  refine VL.va (op_assign rfl (ltn rfl)) rfl ?_
  refine VL.done ?_
  refine VN.then ?_
  refine VC.seq ?_
  refine VC.region ?_
  refine VL.va (op_move rfl (ltn rfl)) rfl ?_
  replace h := Option.bind_eq_some_iff.1 h
  obtain ⟨r13, hA14, h⟩ := h
  refine VL.sC (o_call0 FO7 (tarrylaw06_few.ok l0 v0 r13 hA14) rfl rfl (ltn rfl) (All_of (.cons (List.mem_of_getElem? (i := 0) rfl) .nil))) rfl ?_
  rintro v16 _ _ ⟨_, rfl, rfl, rfl⟩
  refine VL.va (op_assign rfl (ltn rfl)) rfl ?_
  refine VL.done ?_
  refine VN.then ?_
  refine VC.seq ?_
  refine VC.region ?_
  refine VL.va (op_move rfl (ltn rfl)) rfl ?_
  refine VL.va (op_load 0 3 rfl rfl TI24 rfl (fun h => absurd h (by decide)) (ltn rfl)) rfl ?_
  replace h := Option.bind_eq_some_iff.1 h
  obtain ⟨⟨r1036, t1037⟩, hA1038, h⟩ := h
  dsimp only at h
  refine VL.sC (o_call0 FO18 (queue_Push.ok k r13 a1_0 a1_1 a1_2 v16 r1036 t1037 hA1038) rfl rfl (ltn rfl) (All_of (.cons (List.mem_of_getElem? (i := 0) rfl) .nil))) rfl ?_
  rintro _ _ _ ⟨v1040, rfl, rfl, rfl⟩
  refine VL.va (op_move rfl (ltn rfl)) rfl ?_
  refine VL.va (op_extract rfl rfl (ltn rfl)) rfl ?_
  refine VL.va (op_extract rfl rfl (ltn rfl)) rfl ?_
  refine VL.va (op_assign rfl (ltn rfl)) rfl ?_
  refine VL.va (op_assign rfl (ltn rfl)) rfl ?_
  refine VL.done ?_
  refine VN.then ?_
  refine VC.seq ?_
  refine VC.region ?_
  refine VL.va (op_move rfl (ltn rfl)) rfl ?_
  replace h := Option.bind_eq_some_iff.1 h
  obtain ⟨⟨r45580, t45581, t45582, t45583, t45584⟩, hA45585, h⟩ := h
  dsimp only at h
  refine VL.sC (o_call0 FO19 (queue_Pop.ok k r13 v16 r45580 t45581 t45582 t45583 t45584 hA45585) rfl rfl (ltn rfl) (All_of (.cons (List.mem_of_getElem? (i := 0) rfl) .nil))) rfl ?_
  rintro _ _ _ ⟨v45587, rfl, rfl, rfl⟩
  refine VL.va (op_move rfl (ltn rfl)) rfl ?_
  refine VL.va (op_extract rfl rfl (ltn rfl)) rfl ?_
  refine VL.va (op_extract rfl rfl (ltn rfl)) rfl ?_
  refine VL.va (op_extract rfl rfl (ltn rfl)) rfl ?_
  refine VL.sG (o_alloc Z24 ZL24 (ltn rfl)) rfl ?_
  intro g45588
  refine VL.va (op_assign rfl (ltn rfl)) rfl ?_
  refine VL.step1 (o_store 0 3 rfl rfl rfl TI24 (.agg (.of rfl)) rfl (len rfl)) rfl ?_
  refine VL.va (op_assign rfl (ltn rfl)) rfl ?_
  refine VL.done ?_
  refine VN.then ?_
  refine VC.seq ?_
  refine VC.seq ?_
  refine VC.region ?_
  replace h := Option.bind_eq_some_iff.1 h
  obtain ⟨t112113, hA112114, h⟩ := h
  refine VL.sC (o_call0 FO14 (tarrylaw06_alive.ok k t112113 hA112114) rfl rfl (ltn rfl) (All_of .nil)) rfl ?_
  rintro _ _ _ ⟨rfl, rfl, rfl⟩
  by_cases c112115 : t112113 = true
  · rw [if_pos c112115] at h
    obtain rfl := c112115
    refine VL.va (op_not rfl rfl (ltn rfl)) rfl ?_
    refine VL.done ?_
    refine VN.then ?_
    refine VC.cond_f rfl ?_
    refine VC.skip ?_
    refine VN.then ?_
    refine VC.seq ?_
    refine VC.join1 (fun (q115023 : Bool) => ⟨126, [(0, v16), (3, .pointer (some ⟨g2, 0, none⟩)), (4, .bool false), (5, v1040), (6, .int .i64 t1037), (7, v45587), (8, .pointer (some ⟨g45588, 0, none⟩)), (9, .int .i64 t45584), (29, .bool q115023)], [.row v16 3 (r13.map enc23)], [(g45588, 24, [.int .i64 t45581, .int .i64 t45582, .int .i64 t45583]), (g2, 24, [.int .i64 a1_0, .int .i64 a1_1, .int .i64 a1_2])], [(v1040, 24, 3, r1036.map enc23), (v45587, 24, 3, r45580.map enc23)]⟩) (fun (q115023 : Bool) => tarrylaw06_QueueGoes.j1 k a1_0 a1_1 a1_2 r1036 r13 r45580 t1037 t45581 t45582 t45583 t45584 q115023 = some r1) ?_ ?_
    · refine VC.region ?_
      refine VL.va (op_move rfl (ltn rfl)) rfl ?_
      replace h := Option.bind_eq_some_iff.1 h
      obtain ⟨t115020, hA115021, h⟩ := h
      refine VL.sC (o_call0 FO13 (tarryref06_Heap.ok k r13 v16 t115020 hA115021) rfl rfl (ltn rfl) (All_of (.cons (List.mem_of_getElem? (i := 0) rfl) .nil))) rfl ?_
      rintro _ _ _ ⟨rfl, rfl, rfl⟩
      by_cases c115022 : t115020 = true
      · rw [if_pos c115022] at h
        obtain rfl := c115022
        refine VL.va (op_not rfl rfl (ltn rfl)) rfl ?_
        refine VL.done ?_
        refine VN.meet1 false [0, 1] [1, 0] h ⟨rfl, ⟨rfl, rfl, rfl, rfl, rfl, rfl, rfl, rfl, rfl, trivial⟩, ⟨⟨0, rfl⟩, trivial⟩, rfl, by decide, rfl, by decide⟩
      · rw [if_neg c115022] at h
        obtain rfl := Bool.eq_false_iff.2 c115022
        refine VL.va (op_not rfl rfl (ltn rfl)) rfl ?_
        refine VL.done ?_
        refine VN.meet1 true [0, 1] [1, 0] h ⟨rfl, ⟨rfl, rfl, rfl, rfl, rfl, rfl, rfl, rfl, rfl, trivial⟩, ⟨⟨0, rfl⟩, trivial⟩, rfl, by decide, rfl, by decide⟩
    clear h
    intro q115023 h
    unfold tarrylaw06_QueueGoes.j1 at h
    by_cases c115024 : q115023 = true
    · rw [if_pos c115024] at h
      obtain rfl := c115024
      refine VC.cond_t rfl ?_
      refine VC.seq ?_
      refine VC.region ?_
      refine VL.va (op_move rfl (ltn rfl)) rfl ?_
      refine VL.letter ((t1037 == 1)) fun b115032 hb115032 => ?_
      refine VL.va (op_cmp rfl rfl (congrArg some hb115032) (ltn rfl)) rfl ?_
      refine VL.va (op_move rfl (ltn rfl)) rfl ?_
      by_cases c115033 : t1037 = 1
      · rw [if_pos c115033] at h
        obtain rfl : b115032 = true := hb115032.symm.trans (beq_iff_eq.2 c115033)
        refine VL.va (op_move rfl (ltn rfl)) rfl ?_
        refine VL.letter ((t45584 == 1)) fun b115034 hb115034 => ?_
        refine VL.va (op_cmp rfl rfl (congrArg some hb115034) (ltn rfl)) rfl ?_
        refine VL.va (op_pick rfl rfl (ltn rfl)) rfl ?_
        refine VL.va (op_move rfl (ltn rfl)) rfl ?_
        by_cases c115035 : t45584 = 1
        · rw [if_pos c115035] at h
          obtain rfl : b115034 = true := hb115034.symm.trans (beq_iff_eq.2 c115035)
          refine VL.va (op_move rfl (ltn rfl)) rfl ?_
          refine VL.va (op_len_own (m := r1036.length) 0 lenm Try.underlying22 rfl rfl (ltn rfl)) rfl ?_
          refine VL.va (op_move rfl (ltn rfl)) rfl ?_
          refine VL.va (op_len_own (m := r45580.length) 1 lenm Try.underlying22 rfl rfl (ltn rfl)) rfl ?_
          refine VL.va (op_ari64 rfl rfl rfl (ltn rfl)) rfl ?_
          refine VL.letter (((wrap64 ((r1036.length : Int) + (r45580.length : Int))) == 0)) fun b115036 hb115036 => ?_
          refine VL.va (op_cmp rfl rfl (congrArg some hb115036) (ltn rfl)) rfl ?_
          refine VL.va (op_pick rfl rfl (ltn rfl)) rfl ?_
          refine VL.va (op_move rfl (ltn rfl)) rfl ?_
          by_cases c115037 : (wrap64 ((r1036.length : Int) + (r45580.length : Int))) = 0
          · rw [if_pos c115037] at h
            obtain rfl : b115036 = true := hb115036.symm.trans (beq_iff_eq.2 c115037)
            refine VL.va (op_load 0 3 rfl rfl TI24 rfl (fun h => absurd h (by decide)) (ltn rfl)) rfl ?_
            refine VL.va (op_build (vals := []) (vcs := []) (cells := [.int .i64 0, .int .i64 0, .int .i64 0]) SI24 rfl .nil (by kernel_rfl) (ltn rfl)) rfl ?_
            refine VL.letter ((((t45581 == 0) && ((t45582 == 0) && (t45583 == 0))))) fun b115038 hb115038 => ?_
            refine VL.va (op_eqS rfl rfl EG24 (EQ24 t45581 t45582 t45583 0 0 0) hb115038 (ltn rfl)) rfl ?_
            refine VL.va (op_pick rfl rfl (ltn rfl)) rfl ?_
            refine VL.va (op_assign rfl (ltn rfl)) rfl ?_
            refine VL.done ?_
            refine VN.then ?_
            refine VC.ret ?_
            refine VR.then ?_
            obtain rfl := Option.some.inj h
            subst hb115038
            exact VR.fn (rs := [.tmp 4]) [] [] [] rfl (.tmp rfl .nil) ⟨rfl, rfl, rfl⟩ trivial rfl (by decide)
          · rw [if_neg c115037] at h
            obtain rfl : b115036 = false := hb115036.symm.trans (beq_eq_false_iff_ne.2 c115037)
            refine VL.un rfl rfl (ltn rfl) ?_
            refine VL.un rfl rfl (ltn rfl) ?_
            refine VL.un rfl rfl (ltn rfl) ?_
            refine VL.va (op_pick rfl rfl (ltn rfl)) rfl ?_
            refine VL.va (op_assign rfl (ltn rfl)) rfl ?_
            refine VL.done ?_
            refine VN.then ?_
            refine VC.ret ?_
            refine VR.then ?_
            cases h
        · rw [if_neg c115035] at h
          obtain rfl : b115034 = false := hb115034.symm.trans (beq_eq_false_iff_ne.2 c115035)
          refine VL.un rfl rfl (ltn rfl) ?_
          refine VL.un rfl rfl (ltn rfl) ?_
          refine VL.un rfl rfl (ltn rfl) ?_
          refine VL.un rfl rfl (ltn rfl) ?_
          refine VL.un rfl rfl (ltn rfl) ?_
          refine VL.un rfl rfl (ltn rfl) ?_
          refine VL.va (op_pick rfl rfl (ltn rfl)) rfl ?_
          refine VL.va (op_move rfl (ltn rfl)) rfl ?_
          refine VL.un rfl rfl (ltn rfl) ?_
          refine VL.un rfl rfl (ltn rfl) ?_
          refine VL.un rfl rfl (ltn rfl) ?_
          refine VL.va (op_pick rfl rfl (ltn rfl)) rfl ?_
          refine VL.va (op_assign rfl (ltn rfl)) rfl ?_
          refine VL.done ?_
          refine VN.then ?_
          refine VC.ret ?_
          refine VR.then ?_
          cases h
      · rw [if_neg c115033] at h
        obtain rfl : b115032 = false := hb115032.symm.trans (beq_eq_false_iff_ne.2 c115033)
        refine VL.un rfl rfl (ltn rfl) ?_
        refine VL.un rfl rfl (ltn rfl) ?_
        refine VL.va (op_pick rfl rfl (ltn rfl)) rfl ?_
        refine VL.va (op_move rfl (ltn rfl)) rfl ?_
        refine VL.un rfl rfl (ltn rfl) ?_
        refine VL.un rfl rfl (ltn rfl) ?_
        refine VL.un rfl rfl (ltn rfl) ?_
        refine VL.un rfl rfl (ltn rfl) ?_
        refine VL.un rfl rfl (ltn rfl) ?_
        refine VL.un rfl rfl (ltn rfl) ?_
        refine VL.va (op_pick rfl rfl (ltn rfl)) rfl ?_
        refine VL.va (op_move rfl (ltn rfl)) rfl ?_
        refine VL.un rfl rfl (ltn rfl) ?_
        refine VL.un rfl rfl (ltn rfl) ?_
        refine VL.un rfl rfl (ltn rfl) ?_
        refine VL.va (op_pick rfl rfl (ltn rfl)) rfl ?_
        refine VL.va (op_assign rfl (ltn rfl)) rfl ?_
        refine VL.done ?_
        refine VN.then ?_
        refine VC.ret ?_
        refine VR.then ?_
        cases h
    · rw [if_neg c115024] at h
      obtain rfl := Bool.eq_false_iff.2 c115024
      refine VC.cond_f rfl ?_
      refine VC.skip ?_
      refine VN.then ?_
      refine VC.seq ?_
      refine VC.region ?_
      refine VL.va (op_move rfl (ltn rfl)) rfl ?_
      replace h := Option.bind_eq_some_iff.1 h
      obtain ⟨r115039, hA115040, h⟩ := h
      refine VL.sC (o_call0 FO16 (tarryref06_Sorted.ok k r13 v16 r115039 hA115040) rfl rfl (ltn rfl) (All_of (.cons (List.mem_of_getElem? (i := 0) rfl) .nil))) rfl ?_
      rintro v115042 _ _ ⟨_, rfl, rfl, rfl⟩
      refine VL.va (op_assign rfl (ltn rfl)) rfl ?_
      refine VL.done ?_
      refine VN.then ?_
      refine VC.join0 (⟨126, [(0, v16), (3, .pointer (some ⟨g2, 0, none⟩)), (4, .bool false), (5, v1040), (6, .int .i64 t1037)], [.row v16 3 (r13.map enc23)], [(g2, 24, [.int .i64 a1_0, .int .i64 a1_1, .int .i64 a1_2])], [(v1040, 24, 3, r1036.map enc23)]⟩) (tarrylaw06_QueueGoes.j2 k a1_0 a1_1 a1_2 r1036 r13 t1037 = some r1) ?_ ?_
      · refine VC.seq ?_
        refine VC.region ?_
        refine VL.va (op_move rfl (ltn rfl)) rfl ?_
        refine VL.va (op_len (m := r13.length) 0 lenm Try.underlying22 rfl rfl (ltn rfl)) rfl ?_
        refine VL.letter (((r13.length : Int) == 0)) fun b115237 hb115237 => ?_
        refine VL.va (op_cmp rfl rfl (congrArg some hb115237) (ltn rfl)) rfl ?_
        refine VL.done ?_
        refine VN.then ?_
        by_cases c115238 : (r13.length : Int) = 0
        · rw [if_pos c115238] at h
          obtain rfl : b115237 = true := hb115237.symm.trans (beq_iff_eq.2 c115238)
          refine VC.cond_t rfl ?_
          refine VC.seq ?_
          refine VC.region ?_
          refine VL.va (op_move rfl (ltn rfl)) rfl ?_
          refine VL.letter ((t45584 != 8)) fun b115244 hb115244 => ?_
          refine VL.va (op_cmp rfl rfl (congrArg some hb115244) (ltn rfl)) rfl ?_
          refine VL.va (op_move rfl (ltn rfl)) rfl ?_
          by_cases c115245 : t45584 = 8
          · rw [if_pos c115245] at h
            obtain rfl : b115244 = false := hb115244.symm.trans (bne_eq_false_iff_eq.2 c115245)
            refine VL.va (op_move rfl (ltn rfl)) rfl ?_
            refine VL.va (op_len_own (m := r45580.length) 2 lenm Try.underlying22 rfl rfl (ltn rfl)) rfl ?_
            refine VL.letter (((r45580.length : Int) != 0)) fun b115246 hb115246 => ?_
            refine VL.va (op_cmp rfl rfl (congrArg some hb115246) (ltn rfl)) rfl ?_
            refine VL.va (op_pick rfl rfl (ltn rfl)) rfl ?_
            refine VL.va (op_move rfl (ltn rfl)) rfl ?_
            by_cases c115247 : (r45580.length : Int) = 0
            · rw [if_pos c115247] at h
              obtain rfl : b115246 = false := hb115246.symm.trans (bne_eq_false_iff_eq.2 c115247)
              refine VL.va (op_load 0 3 rfl rfl TI24 rfl (fun h => absurd h (by decide)) (ltn rfl)) rfl ?_
              refine VL.va (op_build (vals := []) (vcs := []) (cells := [.int .i64 0, .int .i64 0, .int .i64 0]) SI24 rfl .nil (by kernel_rfl) (ltn rfl)) rfl ?_
              refine VL.letter ((!(((t45581 == 0) && ((t45582 == 0) && (t45583 == 0)))))) fun b115248 hb115248 => ?_
              refine VL.va (op_neS rfl rfl EG24 (EQ24 t45581 t45582 t45583 0 0 0) hb115248 (ltn rfl)) rfl ?_
              refine VL.va (op_pick rfl rfl (ltn rfl)) rfl ?_
              refine VL.done ?_
              refine VN.then ?_
              by_cases c115249 : (((t45581 == 0) && ((t45582 == 0) && (t45583 == 0)))) = true
              · rw [if_pos c115249] at h
                obtain rfl : b115248 = false := hb115248.symm.trans (not_t c115249)
                refine VC.cond_f rfl ?_
                refine VC.skip ?_
                refine VN.meet0  [1] [1] h ⟨rfl, ⟨rfl, rfl, rfl, rfl, rfl, trivial⟩, ⟨⟨0, rfl⟩, trivial⟩, rfl, by decide, rfl, by decide⟩
              · rw [if_neg c115249] at h
                obtain rfl : b115248 = true := hb115248.symm.trans (not_f c115249)
                refine VC.cond_t rfl ?_
                refine VC.seq ?_
                refine VC.region ?_
                refine VL.va (op_assign rfl (ltn rfl)) rfl ?_
                refine VL.done ?_
                refine VN.then ?_
                refine VC.ret ?_
                refine VR.then ?_
                cases h
            · rw [if_neg c115247] at h
              obtain rfl : b115246 = true := hb115246.symm.trans (bne_iff_ne.2 c115247)
              refine VL.un rfl rfl (ltn rfl) ?_
              refine VL.un rfl rfl (ltn rfl) ?_
              refine VL.un rfl rfl (ltn rfl) ?_
              refine VL.va (op_pick rfl rfl (ltn rfl)) rfl ?_
              refine VL.done ?_
              refine VN.then ?_
              refine VC.cond_t rfl ?_
              refine VC.seq ?_
              refine VC.region ?_
              refine VL.va (op_assign rfl (ltn rfl)) rfl ?_
              refine VL.done ?_
              refine VN.then ?_
              refine VC.ret ?_
              refine VR.then ?_
              cases h
          · rw [if_neg c115245] at h
            obtain rfl : b115244 = true := hb115244.symm.trans (bne_iff_ne.2 c115245)
            refine VL.un rfl rfl (ltn rfl) ?_
            refine VL.un rfl rfl (ltn rfl) ?_
            refine VL.un rfl rfl (ltn rfl) ?_
            refine VL.va (op_pick rfl rfl (ltn rfl)) rfl ?_
            refine VL.va (op_move rfl (ltn rfl)) rfl ?_
            refine VL.un rfl rfl (ltn rfl) ?_
            refine VL.un rfl rfl (ltn rfl) ?_
            refine VL.un rfl rfl (ltn rfl) ?_
            refine VL.va (op_pick rfl rfl (ltn rfl)) rfl ?_
            refine VL.done ?_
            refine VN.then ?_
            refine VC.cond_t rfl ?_
            refine VC.seq ?_
            refine VC.region ?_
            refine VL.va (op_assign rfl (ltn rfl)) rfl ?_
            refine VL.done ?_
            refine VN.then ?_
            refine VC.ret ?_
            refine VR.then ?_
            cases h
        · rw [if_neg c115238] at h
          obtain rfl : b115237 = false := hb115237.symm.trans (beq_eq_false_iff_ne.2 c115238)
          refine VC.cond_f rfl ?_
          refine VC.letter ((t45584 != 0)) fun b115250 hb115250 => ?_
          by_cases c115251 : t45584 = 0
          · rw [if_pos c115251] at h
            obtain rfl : b115250 = false := hb115250.symm.trans (bne_eq_false_iff_eq.2 c115251)
            replace h := Option.bind_eq_some_iff.1 h
            obtain ⟨x115252, hx115252, h⟩ := h
            refine VC.letter ((!(((t45581 == x115252.f0) && ((t45582 == x115252.f1) && (t45583 == x115252.f2)))))) fun b115253 hb115253 => ?_
            by_cases c115254 : (((t45581 == x115252.f0) && ((t45582 == x115252.f1) && (t45583 == x115252.f2)))) = true
            · rw [if_pos c115254] at h
              obtain rfl : b115253 = false := hb115253.symm.trans (not_t c115254)
              replace h := Option.bind_eq_some_iff.1 h
              obtain ⟨t115255, hA115256, h⟩ := h
              by_cases c115257 : t115255 = true
              · rw [if_pos c115257] at h
                obtain rfl := c115257
                replace h := Option.bind_eq_some_iff.1 h
                obtain ⟨r115258, hA115259, h⟩ := h
                by_cases c115262 : 1 ≤ (r115039.length : Int)
                · rw [if_pos c115262] at h
                  replace h := Option.bind_eq_some_iff.1 h
                  obtain ⟨t115265, hA115266, h⟩ := h
                  by_cases c115267 : t115265 = true
                  · rw [if_pos c115267] at h
                    obtain rfl := c115267
                    refine VC.openR (m := r115039.length) 0 lenm rfl (pos_get hx115252) ?_
                    rintro g115059 n115060 rfl
                    refine VC.freezeRow' 0 rfl ?_
                    refine VC.join0 (⟨126, [(0, v16), (3, .pointer (some ⟨g2, 0, none⟩)), (4, .bool false), (5, v1040), (6, .int .i64 t1037), (87, .bool false)], [.row v16 3 (r13.map enc23)], [(g2, 24, [.int .i64 a1_0, .int .i64 a1_1, .int .i64 a1_2])], [(v1040, 24, 3, r1036.map enc23)]⟩) (True) ?_ ?_
                    · refine VC.draw ⟨0, [], [.row (.slice (some ⟨g115059, 0, none⟩) r115039.length n115060) 3 (r115039.map enc23)], [(g45588, 24, [.int .i64 t45581, .int .i64 t45582, .int .i64 t45583])], [(v45587, 24, 3, r45580.map enc23)]⟩ (by kernel_rfl) rfl (by kernel_rfl) (n := 22) (listed := LB 22 0) ?_
                      refine VA.va (i := 0) (listed' := LB 22 1) rfl (op_move rfl (ltn rfl)) rfl (by kernel_rfl) (by kernel_rfl) (by kernel_rfl) (by kernel_rfl) ⟨⟨⟨0, rfl⟩, trivial⟩, ⟨⟨0, rfl⟩, trivial⟩, ⟨⟨1, rfl⟩, trivial⟩⟩ (fun _ _ _ h => h) ?_
                      refine VA.va (i := 1) (listed' := LB 22 3) rfl (op_cmp rfl rfl (congrArg some hb115250) (ltn rfl)) rfl (by kernel_rfl) (by kernel_rfl) (by kernel_rfl) (by kernel_rfl) ⟨⟨⟨0, rfl⟩, trivial⟩, ⟨⟨0, rfl⟩, trivial⟩, ⟨⟨1, rfl⟩, trivial⟩⟩ (fun _ _ _ h => h) ?_
                      refine VA.va (i := 2) (listed' := LB 22 7) rfl (op_move rfl (ltn rfl)) rfl (by kernel_rfl) (by kernel_rfl) (by kernel_rfl) (by kernel_rfl) ⟨⟨⟨0, rfl⟩, trivial⟩, ⟨⟨0, rfl⟩, trivial⟩, ⟨⟨1, rfl⟩, trivial⟩⟩ (fun _ _ _ h => h) ?_
                      refine VA.va (i := 3) (listed' := LB 22 15) rfl (op_load 0 3 rfl rfl TI24 rfl (fun h => absurd h (by decide)) (ltn rfl)) rfl (by kernel_rfl) (by kernel_rfl) (by kernel_rfl) (by kernel_rfl) ⟨⟨⟨0, rfl⟩, trivial⟩, ⟨⟨0, rfl⟩, trivial⟩, ⟨⟨1, rfl⟩, trivial⟩⟩ (fun _ _ _ h => h) ?_
                      refine VA.va (i := 4) (listed' := LB 22 31) rfl (op_move rfl (ltn rfl)) rfl (by kernel_rfl) (by kernel_rfl) (by kernel_rfl) (by kernel_rfl) ⟨⟨⟨0, rfl⟩, trivial⟩, ⟨⟨0, rfl⟩, trivial⟩, ⟨⟨1, rfl⟩, trivial⟩⟩ (fun _ _ _ h => h) ?_
                      refine VA.va (i := 5) (listed' := LB 22 63) rfl (op_indexAddr Try.underlying22 TI24 rfl rfl (by decide) (lt_get (by decide) hx115252) rfl (ltn rfl)) rfl (by kernel_rfl) (by kernel_rfl) (by kernel_rfl) (by kernel_rfl) ⟨⟨⟨0, rfl⟩, trivial⟩, ⟨⟨0, rfl⟩, trivial⟩, ⟨⟨1, rfl⟩, trivial⟩⟩ (fun _ _ _ h => h) ?_
                      refine VA.va (i := 6) (listed' := LB 22 127) rfl (op_load_row (sz := 3) (o := 0) 0 0 3 rfl rfl (get_map hx115252) TI24 rfl (fun h => absurd h (by decide)) (ltn rfl)) rfl (by kernel_rfl) (by kernel_rfl) (by kernel_rfl) (by kernel_rfl) ⟨⟨⟨0, rfl⟩, trivial⟩, ⟨⟨0, rfl⟩, trivial⟩, ⟨⟨1, rfl⟩, trivial⟩⟩ (fun _ _ _ h => h) ?_
                      refine VA.va (i := 7) (listed' := LB 22 255) rfl (op_neS rfl rfl EG24 (EQ24 t45581 t45582 t45583 x115252.f0 x115252.f1 x115252.f2) hb115253 (ltn rfl)) rfl (by kernel_rfl) (by kernel_rfl) (by kernel_rfl) (by kernel_rfl) ⟨⟨⟨0, rfl⟩, trivial⟩, ⟨⟨0, rfl⟩, trivial⟩, ⟨⟨1, rfl⟩, trivial⟩⟩ (fun _ _ _ h => h) ?_
                      refine VA.va (i := 8) (listed' := LB 22 511) rfl (op_pick rfl rfl (ltn rfl)) rfl (by kernel_rfl) (by kernel_rfl) (by kernel_rfl) (by kernel_rfl) ⟨⟨⟨0, rfl⟩, trivial⟩, ⟨⟨0, rfl⟩, trivial⟩, ⟨⟨1, rfl⟩, trivial⟩⟩ (fun _ _ _ h => h) ?_
                      refine VA.va (i := 9) (listed' := LB 22 1023) rfl (op_move rfl (ltn rfl)) rfl (by kernel_rfl) (by kernel_rfl) (by kernel_rfl) (by kernel_rfl) ⟨⟨⟨0, rfl⟩, trivial⟩, ⟨⟨0, rfl⟩, trivial⟩, ⟨⟨1, rfl⟩, trivial⟩⟩ (fun _ _ _ h => h) ?_
                      refine VA.va (i := 10) (listed' := LB 22 2047) rfl (op_move rfl (ltn rfl)) rfl (by kernel_rfl) (by kernel_rfl) (by kernel_rfl) (by kernel_rfl) ⟨⟨⟨0, rfl⟩, trivial⟩, ⟨⟨0, rfl⟩, trivial⟩, ⟨⟨1, rfl⟩, trivial⟩⟩ (fun _ _ _ h => h) ?_
                      refine VA.oneC (i := 11) (listed' := LB 22 4095) (by kernel_rfl) rfl (o_call_b0 FO13 (tarryref06_Heap.ok k r45580 v45587 true hA115256) rfl rfl (ltn rfl) (All_of (.cons (.inr (.inl ⟨_, List.mem_of_getElem? (i := 1) rfl, rfl⟩)) .nil)) (by rintro _ _ _ ⟨rfl, rfl, rfl⟩; rfl)) rfl (by kernel_rfl) ?_
                      rintro _ _ _ ⟨rfl, rfl, rfl⟩
                      refine ⟨⟨⟨⟨0, rfl⟩, trivial⟩, ⟨⟨0, rfl⟩, trivial⟩, ⟨⟨1, rfl⟩, trivial⟩⟩, ?_⟩
                      refine VA.va (i := 12) (listed' := LB 22 8191) rfl (op_not rfl rfl (ltn rfl)) rfl (by kernel_rfl) (by kernel_rfl) (by kernel_rfl) (by kernel_rfl) ⟨⟨⟨0, rfl⟩, trivial⟩, ⟨⟨0, rfl⟩, trivial⟩, ⟨⟨1, rfl⟩, trivial⟩⟩ (fun _ _ _ h => h) ?_
                      refine VA.va (i := 13) (listed' := LB 22 16383) rfl (op_pick rfl rfl (ltn rfl)) rfl (by kernel_rfl) (by kernel_rfl) (by kernel_rfl) (by kernel_rfl) ⟨⟨⟨0, rfl⟩, trivial⟩, ⟨⟨0, rfl⟩, trivial⟩, ⟨⟨1, rfl⟩, trivial⟩⟩ (fun _ _ _ h => h) ?_
                      refine VA.va (i := 14) (listed' := LB 22 32767) rfl (op_move rfl (ltn rfl)) rfl (by kernel_rfl) (by kernel_rfl) (by kernel_rfl) (by kernel_rfl) ⟨⟨⟨0, rfl⟩, trivial⟩, ⟨⟨0, rfl⟩, trivial⟩, ⟨⟨1, rfl⟩, trivial⟩⟩ (fun _ _ _ h => h) ?_
                      refine VA.va (i := 15) (listed' := LB 22 65535) rfl (op_move rfl (ltn rfl)) rfl (by kernel_rfl) (by kernel_rfl) (by kernel_rfl) (by kernel_rfl) ⟨⟨⟨0, rfl⟩, trivial⟩, ⟨⟨0, rfl⟩, trivial⟩, ⟨⟨1, rfl⟩, trivial⟩⟩ (fun _ _ _ h => h) ?_
                      refine VA.va (i := 17) (listed' := LB 22 196607) rfl (op_move rfl (ltn rfl)) rfl (by kernel_rfl) (by kernel_rfl) (by kernel_rfl) (by kernel_rfl) ⟨⟨⟨0, rfl⟩, trivial⟩, ⟨⟨0, rfl⟩, trivial⟩, ⟨⟨1, rfl⟩, trivial⟩⟩ (fun _ _ _ h => h) ?_
                      refine VA.cut (i := 18) (listed' := LB 22 458751) rfl (m := r115039.length) 0 1 r115039.length lenm cutm Try.underlying22 TI24 rfl rfl ⟨⟨_, _, rfl, (by decide), rfl⟩, rfl, by omega, by omega⟩ (ltn rfl) rfl (by kernel_rfl) (by kernel_rfl) (by kernel_rfl) (by kernel_rfl) ⟨⟨⟨0, rfl⟩, trivial⟩, ⟨⟨0, rfl⟩, trivial⟩, ⟨⟨1, rfl⟩, trivial⟩⟩ (fun _ _ _ _ h => h) ?_
                      intro v115264
                      refine VA.oneC (i := 16) (listed' := LB 22 524287) (by kernel_rfl) rfl (o_call_b0 FO16 (tarryref06_Sorted.ok k r45580 v45587 r115258 hA115259) rfl rfl (ltn rfl) (All_of (.cons (.inr (.inl ⟨_, List.mem_of_getElem? (i := 1) rfl, rfl⟩)) .nil)) (by rintro _ _ _ ⟨v115261, rfl, rfl, rfl⟩; rfl)) rfl (by kernel_rfl) ?_
                      rintro v115261 _ _ ⟨_, rfl, rfl, rfl⟩
                      refine ⟨⟨⟨⟨1, rfl⟩, trivial⟩, ⟨⟨0, rfl⟩, trivial⟩, ⟨⟨2, rfl⟩, trivial⟩⟩, ?_⟩
                      refine VA.oneC (i := 19) (listed' := LB 22 1048575) (by kernel_rfl) rfl (o_call_b0 FO17 (tarryref06_Same.ok k r115258 ((r115039.take r115039.length).drop 1) v115261 v115264 true hA115266) rfl rfl (ltn rfl) (All_of (.cons (.inr (.inl ⟨_, List.mem_of_getElem? (i := 0) rfl, rfl⟩)) (.cons (.inl (List.mem_of_getElem? (i := 0) rfl)) .nil))) (by rintro _ _ _ ⟨rfl, rfl, rfl⟩; rfl)) rfl (by kernel_rfl) ?_
                      rintro _ _ _ ⟨rfl, rfl, rfl⟩
                      refine ⟨⟨⟨⟨1, rfl⟩, trivial⟩, ⟨⟨0, rfl⟩, trivial⟩, ⟨⟨2, rfl⟩, trivial⟩⟩, ?_⟩
                      refine VA.va (i := 20) (listed' := LB 22 2097151) rfl (op_not rfl rfl (ltn rfl)) rfl (by kernel_rfl) (by kernel_rfl) (by kernel_rfl) (by kernel_rfl) ⟨⟨⟨1, rfl⟩, trivial⟩, ⟨⟨0, rfl⟩, trivial⟩, ⟨⟨2, rfl⟩, trivial⟩⟩ (fun _ _ _ h => h) ?_
                      refine VA.va (i := 21) (listed' := LB 22 4194303) rfl (op_pick rfl rfl (ltn rfl)) rfl (by kernel_rfl) (by kernel_rfl) (by kernel_rfl) (by kernel_rfl) ⟨⟨⟨1, rfl⟩, trivial⟩, ⟨⟨0, rfl⟩, trivial⟩, ⟨⟨2, rfl⟩, trivial⟩⟩ (fun _ _ _ h => h) ?_
                      refine VA.done (by kernel_rfl) ?_
                      exact VN.meet0  [1] [1] trivial ⟨rfl, ⟨rfl, rfl, rfl, rfl, rfl, rfl, trivial⟩, ⟨⟨2, rfl⟩, trivial⟩, rfl, by decide, rfl, by decide⟩
                    intro _
                    refine VC.cond_f rfl ?_
                    refine VC.skip ?_
                    refine VN.meet0  [0] [0] h ⟨rfl, ⟨rfl, rfl, rfl, rfl, rfl, trivial⟩, ⟨⟨0, rfl⟩, trivial⟩, rfl, by decide, rfl, by decide⟩
                  · rw [if_neg c115267] at h
                    obtain rfl := Bool.eq_false_iff.2 c115267
                    refine VC.openR (m := r115039.length) 0 lenm rfl (pos_get hx115252) ?_
                    rintro g115059 n115060 rfl
                    refine VC.freezeRow' 0 rfl ?_
                    refine VC.join0 (⟨126, [(0, v16), (3, .pointer (some ⟨g2, 0, none⟩)), (4, .bool false), (5, v1040), (6, .int .i64 t1037), (87, .bool true)], [.row v16 3 (r13.map enc23)], [(g2, 24, [.int .i64 a1_0, .int .i64 a1_1, .int .i64 a1_2])], [(v1040, 24, 3, r1036.map enc23)]⟩) (True) ?_ ?_
                    · refine VC.draw ⟨0, [], [.row (.slice (some ⟨g115059, 0, none⟩) r115039.length n115060) 3 (r115039.map enc23)], [(g45588, 24, [.int .i64 t45581, .int .i64 t45582, .int .i64 t45583])], [(v45587, 24, 3, r45580.map enc23)]⟩ (by kernel_rfl) rfl (by kernel_rfl) (n := 22) (listed := LB 22 0) ?_
                      refine VA.va (i := 0) (listed' := LB 22 1) rfl (op_move rfl (ltn rfl)) rfl (by kernel_rfl) (by kernel_rfl) (by kernel_rfl) (by kernel_rfl) ⟨⟨⟨0, rfl⟩, trivial⟩, ⟨⟨0, rfl⟩, trivial⟩, ⟨⟨1, rfl⟩, trivial⟩⟩ (fun _ _ _ h => h) ?_
                      refine VA.va (i := 1) (listed' := LB 22 3) rfl (op_cmp rfl rfl (congrArg some hb115250) (ltn rfl)) rfl (by kernel_rfl) (by kernel_rfl) (by kernel_rfl) (by kernel_rfl) ⟨⟨⟨0, rfl⟩, trivial⟩, ⟨⟨0, rfl⟩, trivial⟩, ⟨⟨1, rfl⟩, trivial⟩⟩ (fun _ _ _ h => h) ?_
                      refine VA.va (i := 2) (listed' := LB 22 7) rfl (op_move rfl (ltn rfl)) rfl (by kernel_rfl) (by kernel_rfl) (by kernel_rfl) (by kernel_rfl) ⟨⟨⟨0, rfl⟩, trivial⟩, ⟨⟨0, rfl⟩, trivial⟩, ⟨⟨1, rfl⟩, trivial⟩⟩ (fun _ _ _ h => h) ?_
                      refine VA.va (i := 3) (listed' := LB 22 15) rfl (op_load 0 3 rfl rfl TI24 rfl (fun h => absurd h (by decide)) (ltn rfl)) rfl (by kernel_rfl) (by kernel_rfl) (by kernel_rfl) (by kernel_rfl) ⟨⟨⟨0, rfl⟩, trivial⟩, ⟨⟨0, rfl⟩, trivial⟩, ⟨⟨1, rfl⟩, trivial⟩⟩ (fun _ _ _ h => h) ?_
                      refine VA.va (i := 4) (listed' := LB 22 31) rfl (op_move rfl (ltn rfl)) rfl (by kernel_rfl) (by kernel_rfl) (by kernel_rfl) (by kernel_rfl) ⟨⟨⟨0, rfl⟩, trivial⟩, ⟨⟨0, rfl⟩, trivial⟩, ⟨⟨1, rfl⟩, trivial⟩⟩ (fun _ _ _ h => h) ?_
                      refine VA.va (i := 5) (listed' := LB 22 63) rfl (op_indexAddr Try.underlying22 TI24 rfl rfl (by decide) (lt_get (by decide) hx115252) rfl (ltn rfl)) rfl (by kernel_rfl) (by kernel_rfl) (by kernel_rfl) (by kernel_rfl) ⟨⟨⟨0, rfl⟩, trivial⟩, ⟨⟨0, rfl⟩, trivial⟩, ⟨⟨1, rfl⟩, trivial⟩⟩ (fun _ _ _ h => h) ?_
                      refine VA.va (i := 6) (listed' := LB 22 127) rfl (op_load_row (sz := 3) (o := 0) 0 0 3 rfl rfl (get_map hx115252) TI24 rfl (fun h => absurd h (by decide)) (ltn rfl)) rfl (by kernel_rfl) (by kernel_rfl) (by kernel_rfl) (by kernel_rfl) ⟨⟨⟨0, rfl⟩, trivial⟩, ⟨⟨0, rfl⟩, trivial⟩, ⟨⟨1, rfl⟩, trivial⟩⟩ (fun _ _ _ h => h) ?_
                      refine VA.va (i := 7) (listed' := LB 22 255) rfl (op_neS rfl rfl EG24 (EQ24 t45581 t45582 t45583 x115252.f0 x115252.f1 x115252.f2) hb115253 (ltn rfl)) rfl (by kernel_rfl) (by kernel_rfl) (by kernel_rfl) (by kernel_rfl) ⟨⟨⟨0, rfl⟩, trivial⟩, ⟨⟨0, rfl⟩, trivial⟩, ⟨⟨1, rfl⟩, trivial⟩⟩ (fun _ _ _ h => h) ?_
                      refine VA.va (i := 8) (listed' := LB 22 511) rfl (op_pick rfl rfl (ltn rfl)) rfl (by kernel_rfl) (by kernel_rfl) (by kernel_rfl) (by kernel_rfl) ⟨⟨⟨0, rfl⟩, trivial⟩, ⟨⟨0, rfl⟩, trivial⟩, ⟨⟨1, rfl⟩, trivial⟩⟩ (fun _ _ _ h => h) ?_
                      refine VA.va (i := 9) (listed' := LB 22 1023) rfl (op_move rfl (ltn rfl)) rfl (by kernel_rfl) (by kernel_rfl) (by kernel_rfl) (by kernel_rfl) ⟨⟨⟨0, rfl⟩, trivial⟩, ⟨⟨0, rfl⟩, trivial⟩, ⟨⟨1, rfl⟩, trivial⟩⟩ (fun _ _ _ h => h) ?_
                      refine VA.va (i := 10) (listed' := LB 22 2047) rfl (op_move rfl (ltn rfl)) rfl (by kernel_rfl) (by kernel_rfl) (by kernel_rfl) (by kernel_rfl) ⟨⟨⟨0, rfl⟩, trivial⟩, ⟨⟨0, rfl⟩, trivial⟩, ⟨⟨1, rfl⟩, trivial⟩⟩ (fun _ _ _ h => h) ?_
                      refine VA.oneC (i := 11) (listed' := LB 22 4095) (by kernel_rfl) rfl (o_call_b0 FO13 (tarryref06_Heap.ok k r45580 v45587 true hA115256) rfl rfl (ltn rfl) (All_of (.cons (.inr (.inl ⟨_, List.mem_of_getElem? (i := 1) rfl, rfl⟩)) .nil)) (by rintro _ _ _ ⟨rfl, rfl, rfl⟩; rfl)) rfl (by kernel_rfl) ?_
                      rintro _ _ _ ⟨rfl, rfl, rfl⟩
                      refine ⟨⟨⟨⟨0, rfl⟩, trivial⟩, ⟨⟨0, rfl⟩, trivial⟩, ⟨⟨1, rfl⟩, trivial⟩⟩, ?_⟩
                      refine VA.va (i := 12) (listed' := LB 22 8191) rfl (op_not rfl rfl (ltn rfl)) rfl (by kernel_rfl) (by kernel_rfl) (by kernel_rfl) (by kernel_rfl) ⟨⟨⟨0, rfl⟩, trivial⟩, ⟨⟨0, rfl⟩, trivial⟩, ⟨⟨1, rfl⟩, trivial⟩⟩ (fun _ _ _ h => h) ?_
                      refine VA.va (i := 13) (listed' := LB 22 16383) rfl (op_pick rfl rfl (ltn rfl)) rfl (by kernel_rfl) (by kernel_rfl) (by kernel_rfl) (by kernel_rfl) ⟨⟨⟨0, rfl⟩, trivial⟩, ⟨⟨0, rfl⟩, trivial⟩, ⟨⟨1, rfl⟩, trivial⟩⟩ (fun _ _ _ h => h) ?_
                      refine VA.va (i := 14) (listed' := LB 22 32767) rfl (op_move rfl (ltn rfl)) rfl (by kernel_rfl) (by kernel_rfl) (by kernel_rfl) (by kernel_rfl) ⟨⟨⟨0, rfl⟩, trivial⟩, ⟨⟨0, rfl⟩, trivial⟩, ⟨⟨1, rfl⟩, trivial⟩⟩ (fun _ _ _ h => h) ?_
                      refine VA.va (i := 15) (listed' := LB 22 65535) rfl (op_move rfl (ltn rfl)) rfl (by kernel_rfl) (by kernel_rfl) (by kernel_rfl) (by kernel_rfl) ⟨⟨⟨0, rfl⟩, trivial⟩, ⟨⟨0, rfl⟩, trivial⟩, ⟨⟨1, rfl⟩, trivial⟩⟩ (fun _ _ _ h => h) ?_
                      refine VA.va (i := 17) (listed' := LB 22 196607) rfl (op_move rfl (ltn rfl)) rfl (by kernel_rfl) (by kernel_rfl) (by kernel_rfl) (by kernel_rfl) ⟨⟨⟨0, rfl⟩, trivial⟩, ⟨⟨0, rfl⟩, trivial⟩, ⟨⟨1, rfl⟩, trivial⟩⟩ (fun _ _ _ h => h) ?_
                      refine VA.cut (i := 18) (listed' := LB 22 458751) rfl (m := r115039.length) 0 1 r115039.length lenm cutm Try.underlying22 TI24 rfl rfl ⟨⟨_, _, rfl, (by decide), rfl⟩, rfl, by omega, by omega⟩ (ltn rfl) rfl (by kernel_rfl) (by kernel_rfl) (by kernel_rfl) (by kernel_rfl) ⟨⟨⟨0, rfl⟩, trivial⟩, ⟨⟨0, rfl⟩, trivial⟩, ⟨⟨1, rfl⟩, trivial⟩⟩ (fun _ _ _ _ h => h) ?_
                      intro v115264
                      refine VA.oneC (i := 16) (listed' := LB 22 524287) (by kernel_rfl) rfl (o_call_b0 FO16 (tarryref06_Sorted.ok k r45580 v45587 r115258 hA115259) rfl rfl (ltn rfl) (All_of (.cons (.inr (.inl ⟨_, List.mem_of_getElem? (i := 1) rfl, rfl⟩)) .nil)) (by rintro _ _ _ ⟨v115261, rfl, rfl, rfl⟩; rfl)) rfl (by kernel_rfl) ?_
                      rintro v115261 _ _ ⟨_, rfl, rfl, rfl⟩
                      refine ⟨⟨⟨⟨1, rfl⟩, trivial⟩, ⟨⟨0, rfl⟩, trivial⟩, ⟨⟨2, rfl⟩, trivial⟩⟩, ?_⟩
                      refine VA.oneC (i := 19) (listed' := LB 22 1048575) (by kernel_rfl) rfl (o_call_b0 FO17 (tarryref06_Same.ok k r115258 ((r115039.take r115039.length).drop 1) v115261 v115264 false hA115266) rfl rfl (ltn rfl) (All_of (.cons (.inr (.inl ⟨_, List.mem_of_getElem? (i := 0) rfl, rfl⟩)) (.cons (.inl (List.mem_of_getElem? (i := 0) rfl)) .nil))) (by rintro _ _ _ ⟨rfl, rfl, rfl⟩; rfl)) rfl (by kernel_rfl) ?_
                      rintro _ _ _ ⟨rfl, rfl, rfl⟩
                      refine ⟨⟨⟨⟨1, rfl⟩, trivial⟩, ⟨⟨0, rfl⟩, trivial⟩, ⟨⟨2, rfl⟩, trivial⟩⟩, ?_⟩
                      refine VA.va (i := 20) (listed' := LB 22 2097151) rfl (op_not rfl rfl (ltn rfl)) rfl (by kernel_rfl) (by kernel_rfl) (by kernel_rfl) (by kernel_rfl) ⟨⟨⟨1, rfl⟩, trivial⟩, ⟨⟨0, rfl⟩, trivial⟩, ⟨⟨2, rfl⟩, trivial⟩⟩ (fun _ _ _ h => h) ?_
                      refine VA.va (i := 21) (listed' := LB 22 4194303) rfl (op_pick rfl rfl (ltn rfl)) rfl (by kernel_rfl) (by kernel_rfl) (by kernel_rfl) (by kernel_rfl) ⟨⟨⟨1, rfl⟩, trivial⟩, ⟨⟨0, rfl⟩, trivial⟩, ⟨⟨2, rfl⟩, trivial⟩⟩ (fun _ _ _ h => h) ?_
                      refine VA.done (by kernel_rfl) ?_
                      exact VN.meet0  [1] [1] trivial ⟨rfl, ⟨rfl, rfl, rfl, rfl, rfl, rfl, trivial⟩, ⟨⟨2, rfl⟩, trivial⟩, rfl, by decide, rfl, by decide⟩
                    intro _
                    refine VC.cond_t rfl ?_
                    refine VC.seq ?_
                    refine VC.region ?_
                    refine VL.va (op_assign rfl (ltn rfl)) rfl ?_
                    refine VL.done ?_
                    refine VN.then ?_
                    refine VC.ret ?_
                    refine VR.then ?_
                    cases h
                · rw [if_neg c115262] at h; cases h
              · rw [if_neg c115257] at h
                obtain rfl := Bool.eq_false_iff.2 c115257
                refine VC.openR (m := r115039.length) 0 lenm rfl (pos_get hx115252) ?_
                rintro g115059 n115060 rfl
                refine VC.join0 (⟨126, [(0, v16), (3, .pointer (some ⟨g2, 0, none⟩)), (4, .bool false), (5, v1040), (6, .int .i64 t1037), (87, .bool true)], [.row v16 3 (r13.map enc23)], [(g2, 24, [.int .i64 a1_0, .int .i64 a1_1, .int .i64 a1_2])], [(v1040, 24, 3, r1036.map enc23)]⟩) (True) ?_ ?_
                · refine VC.draw ⟨0, [], [], [(g45588, 24, [.int .i64 t45581, .int .i64 t45582, .int .i64 t45583])], [((.slice (some ⟨g115059, 0, none⟩) r115039.length n115060), 24, 3, r115039.map enc23), (v45587, 24, 3, r45580.map enc23)]⟩ (by kernel_rfl) rfl (by kernel_rfl) (n := 22) (listed := LB 22 0) ?_
                  refine VA.va (i := 0) (listed' := LB 22 1) rfl (op_move rfl (ltn rfl)) rfl (by kernel_rfl) (by kernel_rfl) (by kernel_rfl) (by kernel_rfl) ⟨trivial, ⟨⟨0, rfl⟩, trivial⟩, ⟨⟨0, rfl⟩, ⟨2, rfl⟩, trivial⟩⟩ (fun _ _ _ h => h) ?_
                  refine VA.va (i := 1) (listed' := LB 22 3) rfl (op_cmp rfl rfl (congrArg some hb115250) (ltn rfl)) rfl (by kernel_rfl) (by kernel_rfl) (by kernel_rfl) (by kernel_rfl) ⟨trivial, ⟨⟨0, rfl⟩, trivial⟩, ⟨⟨0, rfl⟩, ⟨2, rfl⟩, trivial⟩⟩ (fun _ _ _ h => h) ?_
                  refine VA.va (i := 2) (listed' := LB 22 7) rfl (op_move rfl (ltn rfl)) rfl (by kernel_rfl) (by kernel_rfl) (by kernel_rfl) (by kernel_rfl) ⟨trivial, ⟨⟨0, rfl⟩, trivial⟩, ⟨⟨0, rfl⟩, ⟨2, rfl⟩, trivial⟩⟩ (fun _ _ _ h => h) ?_
                  refine VA.va (i := 3) (listed' := LB 22 15) rfl (op_load 0 3 rfl rfl TI24 rfl (fun h => absurd h (by decide)) (ltn rfl)) rfl (by kernel_rfl) (by kernel_rfl) (by kernel_rfl) (by kernel_rfl) ⟨trivial, ⟨⟨0, rfl⟩, trivial⟩, ⟨⟨0, rfl⟩, ⟨2, rfl⟩, trivial⟩⟩ (fun _ _ _ h => h) ?_
                  refine VA.va (i := 4) (listed' := LB 22 31) rfl (op_move rfl (ltn rfl)) rfl (by kernel_rfl) (by kernel_rfl) (by kernel_rfl) (by kernel_rfl) ⟨trivial, ⟨⟨0, rfl⟩, trivial⟩, ⟨⟨0, rfl⟩, ⟨2, rfl⟩, trivial⟩⟩ (fun _ _ _ h => h) ?_
                  refine VA.va (i := 5) (listed' := LB 22 63) rfl (op_indexAddr Try.underlying22 TI24 rfl rfl (by decide) (lt_get (by decide) hx115252) (add_zero_at _ _) (ltn rfl)) rfl (by kernel_rfl) (by kernel_rfl) (by kernel_rfl) (by kernel_rfl) ⟨trivial, ⟨⟨0, rfl⟩, trivial⟩, ⟨⟨0, rfl⟩, ⟨2, rfl⟩, trivial⟩⟩ (fun _ _ _ h => h) ?_
                  refine VA.va (i := 6) (listed' := LB 22 127) rfl (op_load_own (sz := 3) (o := 0) 0 0 3 rfl rfl (get_map hx115252) TI24 rfl (fun h => absurd h (by decide)) (ltn rfl)) rfl (by kernel_rfl) (by kernel_rfl) (by kernel_rfl) (by kernel_rfl) ⟨trivial, ⟨⟨0, rfl⟩, trivial⟩, ⟨⟨0, rfl⟩, ⟨2, rfl⟩, trivial⟩⟩ (fun _ _ _ h => h) ?_
                  refine VA.va (i := 7) (listed' := LB 22 255) rfl (op_neS rfl rfl EG24 (EQ24 t45581 t45582 t45583 x115252.f0 x115252.f1 x115252.f2) hb115253 (ltn rfl)) rfl (by kernel_rfl) (by kernel_rfl) (by kernel_rfl) (by kernel_rfl) ⟨trivial, ⟨⟨0, rfl⟩, trivial⟩, ⟨⟨0, rfl⟩, ⟨2, rfl⟩, trivial⟩⟩ (fun _ _ _ h => h) ?_
                  refine VA.va (i := 8) (listed' := LB 22 511) rfl (op_pick rfl rfl (ltn rfl)) rfl (by kernel_rfl) (by kernel_rfl) (by kernel_rfl) (by kernel_rfl) ⟨trivial, ⟨⟨0, rfl⟩, trivial⟩, ⟨⟨0, rfl⟩, ⟨2, rfl⟩, trivial⟩⟩ (fun _ _ _ h => h) ?_
                  refine VA.va (i := 9) (listed' := LB 22 1023) rfl (op_move rfl (ltn rfl)) rfl (by kernel_rfl) (by kernel_rfl) (by kernel_rfl) (by kernel_rfl) ⟨trivial, ⟨⟨0, rfl⟩, trivial⟩, ⟨⟨0, rfl⟩, ⟨2, rfl⟩, trivial⟩⟩ (fun _ _ _ h => h) ?_
                  refine VA.va (i := 10) (listed' := LB 22 2047) rfl (op_move rfl (ltn rfl)) rfl (by kernel_rfl) (by kernel_rfl) (by kernel_rfl) (by kernel_rfl) ⟨trivial, ⟨⟨0, rfl⟩, trivial⟩, ⟨⟨0, rfl⟩, ⟨2, rfl⟩, trivial⟩⟩ (fun _ _ _ h => h) ?_
                  refine VA.oneC (i := 11) (listed' := LB 22 4095) (by kernel_rfl) rfl (o_call_b0 FO13 (tarryref06_Heap.ok k r45580 v45587 false hA115256) rfl rfl (ltn rfl) (All_of (.cons (.inr (.inl ⟨_, List.mem_of_getElem? (i := 2) rfl, rfl⟩)) .nil)) (by rintro _ _ _ ⟨rfl, rfl, rfl⟩; rfl)) rfl (by kernel_rfl) ?_
                  rintro _ _ _ ⟨rfl, rfl, rfl⟩
                  refine ⟨⟨trivial, ⟨⟨0, rfl⟩, trivial⟩, ⟨⟨0, rfl⟩, ⟨2, rfl⟩, trivial⟩⟩, ?_⟩
                  refine VA.va (i := 12) (listed' := LB 22 8191) rfl (op_not rfl rfl (ltn rfl)) rfl (by kernel_rfl) (by kernel_rfl) (by kernel_rfl) (by kernel_rfl) ⟨trivial, ⟨⟨0, rfl⟩, trivial⟩, ⟨⟨0, rfl⟩, ⟨2, rfl⟩, trivial⟩⟩ (fun _ _ _ h => h) ?_
                  refine VA.va (i := 13) (listed' := LB 22 16383) rfl (op_pick rfl rfl (ltn rfl)) rfl (by kernel_rfl) (by kernel_rfl) (by kernel_rfl) (by kernel_rfl) ⟨trivial, ⟨⟨0, rfl⟩, trivial⟩, ⟨⟨0, rfl⟩, ⟨2, rfl⟩, trivial⟩⟩ (fun _ _ _ h => h) ?_
                  refine VA.va (i := 14) (listed' := LB 22 32767) rfl (op_move rfl (ltn rfl)) rfl (by kernel_rfl) (by kernel_rfl) (by kernel_rfl) (by kernel_rfl) ⟨trivial, ⟨⟨0, rfl⟩, trivial⟩, ⟨⟨0, rfl⟩, ⟨2, rfl⟩, trivial⟩⟩ (fun _ _ _ h => h) ?_
                  refine VA.un (i := 15) (listed' := LB 22 65535) rfl rfl rfl (ltn rfl) (by kernel_rfl) (by kernel_rfl) (by kernel_rfl) (by kernel_rfl) ⟨trivial, ⟨⟨0, rfl⟩, trivial⟩, ⟨⟨0, rfl⟩, ⟨2, rfl⟩, trivial⟩⟩ (fun _ _ _ h => h) ?_
                  refine VA.un (i := 16) (listed' := LB 22 131071) rfl rfl rfl (ltn rfl) (by kernel_rfl) (by kernel_rfl) (by kernel_rfl) (by kernel_rfl) ⟨trivial, ⟨⟨0, rfl⟩, trivial⟩, ⟨⟨0, rfl⟩, ⟨2, rfl⟩, trivial⟩⟩ (fun _ _ _ h => h) ?_
                  refine VA.un (i := 17) (listed' := LB 22 262143) rfl rfl rfl (ltn rfl) (by kernel_rfl) (by kernel_rfl) (by kernel_rfl) (by kernel_rfl) ⟨trivial, ⟨⟨0, rfl⟩, trivial⟩, ⟨⟨0, rfl⟩, ⟨2, rfl⟩, trivial⟩⟩ (fun _ _ _ h => h) ?_
                  refine VA.un (i := 18) (listed' := LB 22 524287) rfl rfl rfl (ltn rfl) (by kernel_rfl) (by kernel_rfl) (by kernel_rfl) (by kernel_rfl) ⟨trivial, ⟨⟨0, rfl⟩, trivial⟩, ⟨⟨0, rfl⟩, ⟨2, rfl⟩, trivial⟩⟩ (fun _ _ _ h => h) ?_
                  refine VA.un (i := 19) (listed' := LB 22 1048575) rfl rfl rfl (ltn rfl) (by kernel_rfl) (by kernel_rfl) (by kernel_rfl) (by kernel_rfl) ⟨trivial, ⟨⟨0, rfl⟩, trivial⟩, ⟨⟨0, rfl⟩, ⟨2, rfl⟩, trivial⟩⟩ (fun _ _ _ h => h) ?_
                  refine VA.un (i := 20) (listed' := LB 22 2097151) rfl rfl rfl (ltn rfl) (by kernel_rfl) (by kernel_rfl) (by kernel_rfl) (by kernel_rfl) ⟨trivial, ⟨⟨0, rfl⟩, trivial⟩, ⟨⟨0, rfl⟩, ⟨2, rfl⟩, trivial⟩⟩ (fun _ _ _ h => h) ?_
                  refine VA.va (i := 21) (listed' := LB 22 4194303) rfl (op_pick rfl rfl (ltn rfl)) rfl (by kernel_rfl) (by kernel_rfl) (by kernel_rfl) (by kernel_rfl) ⟨trivial, ⟨⟨0, rfl⟩, trivial⟩, ⟨⟨0, rfl⟩, ⟨2, rfl⟩, trivial⟩⟩ (fun _ _ _ h => h) ?_
                  refine VA.done (by kernel_rfl) ?_
                  exact VN.meet0  [1] [1] trivial ⟨rfl, ⟨rfl, rfl, rfl, rfl, rfl, rfl, trivial⟩, ⟨⟨0, rfl⟩, trivial⟩, rfl, by decide, rfl, by decide⟩
                intro _
                refine VC.cond_t rfl ?_
                refine VC.seq ?_
                refine VC.region ?_
                refine VL.va (op_assign rfl (ltn rfl)) rfl ?_
                refine VL.done ?_
                refine VN.then ?_
                refine VC.ret ?_
                refine VR.then ?_
                cases h
            · rw [if_neg c115254] at h
              obtain rfl : b115253 = true := hb115253.symm.trans (not_f c115254)
              refine VC.openR (m := r115039.length) 0 lenm rfl (pos_get hx115252) ?_
              rintro g115059 n115060 rfl
              refine VC.join0 (⟨126, [(0, v16), (3, .pointer (some ⟨g2, 0, none⟩)), (4, .bool false), (5, v1040), (6, .int .i64 t1037), (87, .bool true)], [.row v16 3 (r13.map enc23)], [(g2, 24, [.int .i64 a1_0, .int .i64 a1_1, .int .i64 a1_2])], [(v1040, 24, 3, r1036.map enc23)]⟩) (True) ?_ ?_
              · refine VC.draw ⟨0, [], [], [(g45588, 24, [.int .i64 t45581, .int .i64 t45582, .int .i64 t45583])], [((.slice (some ⟨g115059, 0, none⟩) r115039.length n115060), 24, 3, r115039.map enc23)]⟩ (by kernel_rfl) rfl (by kernel_rfl) (n := 22) (listed := LB 22 0) ?_
                refine VA.va (i := 0) (listed' := LB 22 1) rfl (op_move rfl (ltn rfl)) rfl (by kernel_rfl) (by kernel_rfl) (by kernel_rfl) (by kernel_rfl) ⟨trivial, ⟨⟨0, rfl⟩, trivial⟩, ⟨⟨0, rfl⟩, trivial⟩⟩ (fun _ _ _ h => h) ?_
                refine VA.va (i := 1) (listed' := LB 22 3) rfl (op_cmp rfl rfl (congrArg some hb115250) (ltn rfl)) rfl (by kernel_rfl) (by kernel_rfl) (by kernel_rfl) (by kernel_rfl) ⟨trivial, ⟨⟨0, rfl⟩, trivial⟩, ⟨⟨0, rfl⟩, trivial⟩⟩ (fun _ _ _ h => h) ?_
                refine VA.va (i := 2) (listed' := LB 22 7) rfl (op_move rfl (ltn rfl)) rfl (by kernel_rfl) (by kernel_rfl) (by kernel_rfl) (by kernel_rfl) ⟨trivial, ⟨⟨0, rfl⟩, trivial⟩, ⟨⟨0, rfl⟩, trivial⟩⟩ (fun _ _ _ h => h) ?_
                refine VA.va (i := 3) (listed' := LB 22 15) rfl (op_load 0 3 rfl rfl TI24 rfl (fun h => absurd h (by decide)) (ltn rfl)) rfl (by kernel_rfl) (by kernel_rfl) (by kernel_rfl) (by kernel_rfl) ⟨trivial, ⟨⟨0, rfl⟩, trivial⟩, ⟨⟨0, rfl⟩, trivial⟩⟩ (fun _ _ _ h => h) ?_
                refine VA.va (i := 4) (listed' := LB 22 31) rfl (op_move rfl (ltn rfl)) rfl (by kernel_rfl) (by kernel_rfl) (by kernel_rfl) (by kernel_rfl) ⟨trivial, ⟨⟨0, rfl⟩, trivial⟩, ⟨⟨0, rfl⟩, trivial⟩⟩ (fun _ _ _ h => h) ?_
                refine VA.va (i := 5) (listed' := LB 22 63) rfl (op_indexAddr Try.underlying22 TI24 rfl rfl (by decide) (lt_get (by decide) hx115252) (add_zero_at _ _) (ltn rfl)) rfl (by kernel_rfl) (by kernel_rfl) (by kernel_rfl) (by kernel_rfl) ⟨trivial, ⟨⟨0, rfl⟩, trivial⟩, ⟨⟨0, rfl⟩, trivial⟩⟩ (fun _ _ _ h => h) ?_
                refine VA.va (i := 6) (listed' := LB 22 127) rfl (op_load_own (sz := 3) (o := 0) 0 0 3 rfl rfl (get_map hx115252) TI24 rfl (fun h => absurd h (by decide)) (ltn rfl)) rfl (by kernel_rfl) (by kernel_rfl) (by kernel_rfl) (by kernel_rfl) ⟨trivial, ⟨⟨0, rfl⟩, trivial⟩, ⟨⟨0, rfl⟩, trivial⟩⟩ (fun _ _ _ h => h) ?_
                refine VA.va (i := 7) (listed' := LB 22 255) rfl (op_neS rfl rfl EG24 (EQ24 t45581 t45582 t45583 x115252.f0 x115252.f1 x115252.f2) hb115253 (ltn rfl)) rfl (by kernel_rfl) (by kernel_rfl) (by kernel_rfl) (by kernel_rfl) ⟨trivial, ⟨⟨0, rfl⟩, trivial⟩, ⟨⟨0, rfl⟩, trivial⟩⟩ (fun _ _ _ h => h) ?_
                refine VA.va (i := 8) (listed' := LB 22 511) rfl (op_pick rfl rfl (ltn rfl)) rfl (by kernel_rfl) (by kernel_rfl) (by kernel_rfl) (by kernel_rfl) ⟨trivial, ⟨⟨0, rfl⟩, trivial⟩, ⟨⟨0, rfl⟩, trivial⟩⟩ (fun _ _ _ h => h) ?_
                refine VA.va (i := 9) (listed' := LB 22 1023) rfl (op_move rfl (ltn rfl)) rfl (by kernel_rfl) (by kernel_rfl) (by kernel_rfl) (by kernel_rfl) ⟨trivial, ⟨⟨0, rfl⟩, trivial⟩, ⟨⟨0, rfl⟩, trivial⟩⟩ (fun _ _ _ h => h) ?_
                refine VA.un (i := 10) (listed' := LB 22 2047) rfl rfl rfl (ltn rfl) (by kernel_rfl) (by kernel_rfl) (by kernel_rfl) (by kernel_rfl) ⟨trivial, ⟨⟨0, rfl⟩, trivial⟩, ⟨⟨0, rfl⟩, trivial⟩⟩ (fun _ _ _ h => h) ?_
                refine VA.un (i := 11) (listed' := LB 22 4095) rfl rfl rfl (ltn rfl) (by kernel_rfl) (by kernel_rfl) (by kernel_rfl) (by kernel_rfl) ⟨trivial, ⟨⟨0, rfl⟩, trivial⟩, ⟨⟨0, rfl⟩, trivial⟩⟩ (fun _ _ _ h => h) ?_
                refine VA.un (i := 12) (listed' := LB 22 8191) rfl rfl rfl (ltn rfl) (by kernel_rfl) (by kernel_rfl) (by kernel_rfl) (by kernel_rfl) ⟨trivial, ⟨⟨0, rfl⟩, trivial⟩, ⟨⟨0, rfl⟩, trivial⟩⟩ (fun _ _ _ h => h) ?_
                refine VA.va (i := 13) (listed' := LB 22 16383) rfl (op_pick rfl rfl (ltn rfl)) rfl (by kernel_rfl) (by kernel_rfl) (by kernel_rfl) (by kernel_rfl) ⟨trivial, ⟨⟨0, rfl⟩, trivial⟩, ⟨⟨0, rfl⟩, trivial⟩⟩ (fun _ _ _ h => h) ?_
                refine VA.va (i := 14) (listed' := LB 22 32767) rfl (op_move rfl (ltn rfl)) rfl (by kernel_rfl) (by kernel_rfl) (by kernel_rfl) (by kernel_rfl) ⟨trivial, ⟨⟨0, rfl⟩, trivial⟩, ⟨⟨0, rfl⟩, trivial⟩⟩ (fun _ _ _ h => h) ?_
                refine VA.un (i := 15) (listed' := LB 22 65535) rfl rfl rfl (ltn rfl) (by kernel_rfl) (by kernel_rfl) (by kernel_rfl) (by kernel_rfl) ⟨trivial, ⟨⟨0, rfl⟩, trivial⟩, ⟨⟨0, rfl⟩, trivial⟩⟩ (fun _ _ _ h => h) ?_
                refine VA.un (i := 16) (listed' := LB 22 131071) rfl rfl rfl (ltn rfl) (by kernel_rfl) (by kernel_rfl) (by kernel_rfl) (by kernel_rfl) ⟨trivial, ⟨⟨0, rfl⟩, trivial⟩, ⟨⟨0, rfl⟩, trivial⟩⟩ (fun _ _ _ h => h) ?_
                refine VA.un (i := 17) (listed' := LB 22 262143) rfl rfl rfl (ltn rfl) (by kernel_rfl) (by kernel_rfl) (by kernel_rfl) (by kernel_rfl) ⟨trivial, ⟨⟨0, rfl⟩, trivial⟩, ⟨⟨0, rfl⟩, trivial⟩⟩ (fun _ _ _ h => h) ?_
                refine VA.un (i := 18) (listed' := LB 22 524287) rfl rfl rfl (ltn rfl) (by kernel_rfl) (by kernel_rfl) (by kernel_rfl) (by kernel_rfl) ⟨trivial, ⟨⟨0, rfl⟩, trivial⟩, ⟨⟨0, rfl⟩, trivial⟩⟩ (fun _ _ _ h => h) ?_
                refine VA.un (i := 19) (listed' := LB 22 1048575) rfl rfl rfl (ltn rfl) (by kernel_rfl) (by kernel_rfl) (by kernel_rfl) (by kernel_rfl) ⟨trivial, ⟨⟨0, rfl⟩, trivial⟩, ⟨⟨0, rfl⟩, trivial⟩⟩ (fun _ _ _ h => h) ?_
                refine VA.un (i := 20) (listed' := LB 22 2097151) rfl rfl rfl (ltn rfl) (by kernel_rfl) (by kernel_rfl) (by kernel_rfl) (by kernel_rfl) ⟨trivial, ⟨⟨0, rfl⟩, trivial⟩, ⟨⟨0, rfl⟩, trivial⟩⟩ (fun _ _ _ h => h) ?_
                refine VA.va (i := 21) (listed' := LB 22 4194303) rfl (op_pick rfl rfl (ltn rfl)) rfl (by kernel_rfl) (by kernel_rfl) (by kernel_rfl) (by kernel_rfl) ⟨trivial, ⟨⟨0, rfl⟩, trivial⟩, ⟨⟨0, rfl⟩, trivial⟩⟩ (fun _ _ _ h => h) ?_
                refine VA.done (by kernel_rfl) ?_
                exact VN.meet0  [1] [1] trivial ⟨rfl, ⟨rfl, rfl, rfl, rfl, rfl, rfl, trivial⟩, ⟨⟨0, rfl⟩, trivial⟩, rfl, by decide, rfl, by decide⟩
              intro _
              refine VC.cond_t rfl ?_
              refine VC.seq ?_
              refine VC.region ?_
              refine VL.va (op_assign rfl (ltn rfl)) rfl ?_
              refine VL.done ?_
              refine VN.then ?_
              refine VC.ret ?_
              refine VR.then ?_
              cases h
          · rw [if_neg c115251] at h
            obtain rfl : b115250 = true := hb115250.symm.trans (bne_iff_ne.2 c115251)
            refine VC.join0 (⟨126, [(0, v16), (3, .pointer (some ⟨g2, 0, none⟩)), (4, .bool false), (5, v1040), (6, .int .i64 t1037), (87, .bool true)], [.row v16 3 (r13.map enc23)], [(g2, 24, [.int .i64 a1_0, .int .i64 a1_1, .int .i64 a1_2])], [(v1040, 24, 3, r1036.map enc23)]⟩) (True) ?_ ?_
            · refine VC.draw ⟨0, [], [], [], []⟩ (by kernel_rfl) rfl (by kernel_rfl) (n := 22) (listed := LB 22 0) ?_
              refine VA.va (i := 0) (listed' := LB 22 1) rfl (op_move rfl (ltn rfl)) rfl (by kernel_rfl) (by kernel_rfl) (by kernel_rfl) (by kernel_rfl) ⟨trivial, trivial, trivial⟩ (fun _ _ _ h => h) ?_
              refine VA.va (i := 1) (listed' := LB 22 3) rfl (op_cmp rfl rfl (congrArg some hb115250) (ltn rfl)) rfl (by kernel_rfl) (by kernel_rfl) (by kernel_rfl) (by kernel_rfl) ⟨trivial, trivial, trivial⟩ (fun _ _ _ h => h) ?_
              refine VA.va (i := 2) (listed' := LB 22 7) rfl (op_move rfl (ltn rfl)) rfl (by kernel_rfl) (by kernel_rfl) (by kernel_rfl) (by kernel_rfl) ⟨trivial, trivial, trivial⟩ (fun _ _ _ h => h) ?_
              refine VA.un (i := 3) (listed' := LB 22 15) rfl rfl rfl (ltn rfl) (by kernel_rfl) (by kernel_rfl) (by kernel_rfl) (by kernel_rfl) ⟨trivial, trivial, trivial⟩ (fun _ _ _ h => h) ?_
              refine VA.un (i := 4) (listed' := LB 22 31) rfl rfl rfl (ltn rfl) (by kernel_rfl) (by kernel_rfl) (by kernel_rfl) (by kernel_rfl) ⟨trivial, trivial, trivial⟩ (fun _ _ _ h => h) ?_
              refine VA.un (i := 5) (listed' := LB 22 63) rfl rfl rfl (ltn rfl) (by kernel_rfl) (by kernel_rfl) (by kernel_rfl) (by kernel_rfl) ⟨trivial, trivial, trivial⟩ (fun _ _ _ h => h) ?_
              refine VA.un (i := 6) (listed' := LB 22 127) rfl rfl rfl (ltn rfl) (by kernel_rfl) (by kernel_rfl) (by kernel_rfl) (by kernel_rfl) ⟨trivial, trivial, trivial⟩ (fun _ _ _ h => h) ?_
              refine VA.un (i := 7) (listed' := LB 22 255) rfl rfl rfl (ltn rfl) (by kernel_rfl) (by kernel_rfl) (by kernel_rfl) (by kernel_rfl) ⟨trivial, trivial, trivial⟩ (fun _ _ _ h => h) ?_
              refine VA.va (i := 8) (listed' := LB 22 511) rfl (op_pick rfl rfl (ltn rfl)) rfl (by kernel_rfl) (by kernel_rfl) (by kernel_rfl) (by kernel_rfl) ⟨trivial, trivial, trivial⟩ (fun _ _ _ h => h) ?_
              refine VA.va (i := 9) (listed' := LB 22 1023) rfl (op_move rfl (ltn rfl)) rfl (by kernel_rfl) (by kernel_rfl) (by kernel_rfl) (by kernel_rfl) ⟨trivial, trivial, trivial⟩ (fun _ _ _ h => h) ?_
              refine VA.un (i := 10) (listed' := LB 22 2047) rfl rfl rfl (ltn rfl) (by kernel_rfl) (by kernel_rfl) (by kernel_rfl) (by kernel_rfl) ⟨trivial, trivial, trivial⟩ (fun _ _ _ h => h) ?_
              refine VA.un (i := 11) (listed' := LB 22 4095) rfl rfl rfl (ltn rfl) (by kernel_rfl) (by kernel_rfl) (by kernel_rfl) (by kernel_rfl) ⟨trivial, trivial, trivial⟩ (fun _ _ _ h => h) ?_
              refine VA.un (i := 12) (listed' := LB 22 8191) rfl rfl rfl (ltn rfl) (by kernel_rfl) (by kernel_rfl) (by kernel_rfl) (by kernel_rfl) ⟨trivial, trivial, trivial⟩ (fun _ _ _ h => h) ?_
              refine VA.va (i := 13) (listed' := LB 22 16383) rfl (op_pick rfl rfl (ltn rfl)) rfl (by kernel_rfl) (by kernel_rfl) (by kernel_rfl) (by kernel_rfl) ⟨trivial, trivial, trivial⟩ (fun _ _ _ h => h) ?_
              refine VA.va (i := 14) (listed' := LB 22 32767) rfl (op_move rfl (ltn rfl)) rfl (by kernel_rfl) (by kernel_rfl) (by kernel_rfl) (by kernel_rfl) ⟨trivial, trivial, trivial⟩ (fun _ _ _ h => h) ?_
              refine VA.un (i := 15) (listed' := LB 22 65535) rfl rfl rfl (ltn rfl) (by kernel_rfl) (by kernel_rfl) (by kernel_rfl) (by kernel_rfl) ⟨trivial, trivial, trivial⟩ (fun _ _ _ h => h) ?_
              refine VA.un (i := 16) (listed' := LB 22 131071) rfl rfl rfl (ltn rfl) (by kernel_rfl) (by kernel_rfl) (by kernel_rfl) (by kernel_rfl) ⟨trivial, trivial, trivial⟩ (fun _ _ _ h => h) ?_
              refine VA.un (i := 17) (listed' := LB 22 262143) rfl rfl rfl (ltn rfl) (by kernel_rfl) (by kernel_rfl) (by kernel_rfl) (by kernel_rfl) ⟨trivial, trivial, trivial⟩ (fun _ _ _ h => h) ?_
              refine VA.un (i := 18) (listed' := LB 22 524287) rfl rfl rfl (ltn rfl) (by kernel_rfl) (by kernel_rfl) (by kernel_rfl) (by kernel_rfl) ⟨trivial, trivial, trivial⟩ (fun _ _ _ h => h) ?_
              refine VA.un (i := 19) (listed' := LB 22 1048575) rfl rfl rfl (ltn rfl) (by kernel_rfl) (by kernel_rfl) (by kernel_rfl) (by kernel_rfl) ⟨trivial, trivial, trivial⟩ (fun _ _ _ h => h) ?_
              refine VA.un (i := 20) (listed' := LB 22 2097151) rfl rfl rfl (ltn rfl) (by kernel_rfl) (by kernel_rfl) (by kernel_rfl) (by kernel_rfl) ⟨trivial, trivial, trivial⟩ (fun _ _ _ h => h) ?_
              refine VA.va (i := 21) (listed' := LB 22 4194303) rfl (op_pick rfl rfl (ltn rfl)) rfl (by kernel_rfl) (by kernel_rfl) (by kernel_rfl) (by kernel_rfl) ⟨trivial, trivial, trivial⟩ (fun _ _ _ h => h) ?_
              refine VA.done (by kernel_rfl) ?_
              exact VN.meet0  [1] [1] trivial ⟨rfl, ⟨rfl, rfl, rfl, rfl, rfl, rfl, trivial⟩, ⟨⟨0, rfl⟩, trivial⟩, rfl, by decide, rfl, by decide⟩
            intro _
            refine VC.cond_t rfl ?_
            refine VC.seq ?_
            refine VC.region ?_
            refine VL.va (op_assign rfl (ltn rfl)) rfl ?_
            refine VL.done ?_
            refine VN.then ?_
            refine VC.ret ?_
            refine VR.then ?_
            cases h
      clear h
      intro  h
      unfold tarrylaw06_QueueGoes.j2 at h
      refine VC.seq ?_
      refine VC.seq ?_
      refine VC.region ?_
      refine VL.va (op_load 0 3 rfl rfl TI24 rfl (fun h => absurd h (by decide)) (ltn rfl)) rfl ?_
      replace h := Option.bind_eq_some_iff.1 h
      obtain ⟨t115283, hA115284, h⟩ := h
      refine VL.sC (o_call0 FO20 (tarryref06_May.ok a1_0 a1_1 a1_2 t115283 hA115284) rfl rfl (ltn rfl) (All_of .nil)) rfl ?_
      rintro _ _ _ ⟨rfl, rfl, rfl⟩
      by_cases c115285 : t115283 = true
      · rw [if_pos c115285] at h
        obtain rfl := c115285
        refine VL.va (op_not rfl rfl (ltn rfl)) rfl ?_
        refine VL.done ?_
        refine VN.then ?_
        refine VC.cond_f rfl ?_
        refine VC.skip ?_
        refine VN.then ?_
        refine VC.seq ?_
        refine VC.seq ?_
        refine VC.region ?_
        refine VL.va (op_move rfl (ltn rfl)) rfl ?_
        refine VL.va (op_len (m := r13.length) 0 lenm Try.underlying22 rfl rfl (ltn rfl)) rfl ?_
        refine VL.letter (((r13.length : Int) == 64)) fun b115294 hb115294 => ?_
        refine VL.va (op_cmp rfl rfl (congrArg some hb115294) (ltn rfl)) rfl ?_
        refine VL.done ?_
        refine VN.then ?_
        by_cases c115295 : (r13.length : Int) = 64
        · rw [if_pos c115295] at h
          obtain rfl : b115294 = true := hb115294.symm.trans (beq_iff_eq.2 c115295)
          refine VC.cond_t rfl ?_
          refine VC.seq ?_
          refine VC.region ?_
          refine VL.va (op_move rfl (ltn rfl)) rfl ?_
          refine VL.letter ((t1037 == 7)) fun b115299 hb115299 => ?_
          refine VL.va (op_cmp rfl rfl (congrArg some hb115299) (ltn rfl)) rfl ?_
          refine VL.va (op_move rfl (ltn rfl)) rfl ?_
          by_cases c115300 : t1037 = 7
          · rw [if_pos c115300] at h
            obtain rfl : b115299 = true := hb115299.symm.trans (beq_iff_eq.2 c115300)
            refine VL.va (op_move rfl (ltn rfl)) rfl ?_
            refine VL.va (op_len_own (m := r1036.length) 0 lenm Try.underlying22 rfl rfl (ltn rfl)) rfl ?_
            refine VL.letter (((r1036.length : Int) == 0)) fun b115301 hb115301 => ?_
            refine VL.va (op_cmp rfl rfl (congrArg some hb115301) (ltn rfl)) rfl ?_
            refine VL.va (op_pick rfl rfl (ltn rfl)) rfl ?_
            refine VL.va (op_assign rfl (ltn rfl)) rfl ?_
            refine VL.done ?_
            refine VN.then ?_
            refine VC.ret ?_
            refine VR.then ?_
            obtain rfl := Option.some.inj h
            subst hb115301
            exact VR.fn (rs := [.tmp 4]) [] [] [] rfl (.tmp rfl .nil) ⟨rfl, rfl, rfl⟩ trivial rfl (by decide)
          · rw [if_neg c115300] at h
            obtain rfl : b115299 = false := hb115299.symm.trans (beq_eq_false_iff_ne.2 c115300)
            refine VL.un rfl rfl (ltn rfl) ?_
            refine VL.un rfl rfl (ltn rfl) ?_
            refine VL.un rfl rfl (ltn rfl) ?_
            refine VL.va (op_pick rfl rfl (ltn rfl)) rfl ?_
            refine VL.va (op_assign rfl (ltn rfl)) rfl ?_
            refine VL.done ?_
            refine VN.then ?_
            refine VC.ret ?_
            refine VR.then ?_
            cases h
        · rw [if_neg c115295] at h
          obtain rfl : b115294 = false := hb115294.symm.trans (beq_eq_false_iff_ne.2 c115295)
          refine VC.cond_f rfl ?_
          refine VC.skip ?_
          refine VN.then ?_
          refine VC.letter ((t1037 == 0)) fun b115302 hb115302 => ?_
          by_cases c115303 : t1037 = 0
          · rw [if_pos c115303] at h
            obtain rfl : b115302 = true := hb115302.symm.trans (beq_iff_eq.2 c115303)
            replace h := Option.bind_eq_some_iff.1 h
            obtain ⟨t115304, hA115305, h⟩ := h
            by_cases c115306 : t115304 = true
            · rw [if_pos c115306] at h
              obtain rfl := c115306
              replace h := Option.bind_eq_some_iff.1 h
              obtain ⟨r115307, hA115308, h⟩ := h
              by_cases c115313 : (([] : List S23).length + r13.length) * 24 ≤ 140737488355328
              · rw [if_pos c115313] at h
                by_cases c115318 : ((([] : List S23) ++ r13).length + ([(⟨a1_0, a1_1, a1_2⟩ : S23)] : List S23).length) * 24 ≤ 140737488355328
                · rw [if_pos c115318] at h
                  replace h := Option.bind_eq_some_iff.1 h
                  obtain ⟨r115321, hA115322, h⟩ := h
                  replace h := Option.bind_eq_some_iff.1 h
                  obtain ⟨t115325, hA115326, h⟩ := h
                  refine VC.join0 (⟨126, [(4, .bool t115325)], [], [], []⟩) (True) ?_ ?_
                  · refine VC.draw ⟨0, [], [.row v16 3 (r13.map enc23)], [(g2, 24, [.int .i64 a1_0, .int .i64 a1_1, .int .i64 a1_2])], [(v1040, 24, 3, r1036.map enc23)]⟩ (by kernel_rfl) rfl (by kernel_rfl) (n := 19) (listed := LB 19 0) ?_
                    refine VA.va (i := 0) (listed' := LB 19 1) rfl (op_move rfl (ltn rfl)) rfl (by kernel_rfl) (by kernel_rfl) (by kernel_rfl) (by kernel_rfl) ⟨⟨⟨0, rfl⟩, trivial⟩, ⟨⟨0, rfl⟩, trivial⟩, ⟨⟨0, rfl⟩, trivial⟩⟩ (fun _ _ _ h => h) ?_
                    refine VA.va (i := 1) (listed' := LB 19 3) rfl (op_cmp rfl rfl (congrArg some hb115302) (ltn rfl)) rfl (by kernel_rfl) (by kernel_rfl) (by kernel_rfl) (by kernel_rfl) ⟨⟨⟨0, rfl⟩, trivial⟩, ⟨⟨0, rfl⟩, trivial⟩, ⟨⟨0, rfl⟩, trivial⟩⟩ (fun _ _ _ h => h) ?_
                    refine VA.va (i := 2) (listed' := LB 19 7) rfl (op_move rfl (ltn rfl)) rfl (by kernel_rfl) (by kernel_rfl) (by kernel_rfl) (by kernel_rfl) ⟨⟨⟨0, rfl⟩, trivial⟩, ⟨⟨0, rfl⟩, trivial⟩, ⟨⟨0, rfl⟩, trivial⟩⟩ (fun _ _ _ h => h) ?_
                    refine VA.va (i := 3) (listed' := LB 19 15) rfl (op_move rfl (ltn rfl)) rfl (by kernel_rfl) (by kernel_rfl) (by kernel_rfl) (by kernel_rfl) ⟨⟨⟨0, rfl⟩, trivial⟩, ⟨⟨0, rfl⟩, trivial⟩, ⟨⟨0, rfl⟩, trivial⟩⟩ (fun _ _ _ h => h) ?_
                    refine VA.oneC (i := 4) (listed' := LB 19 31) (by kernel_rfl) rfl (o_call_b0 FO13 (tarryref06_Heap.ok k r1036 v1040 true hA115305) rfl rfl (ltn rfl) (All_of (.cons (.inr (.inl ⟨_, List.mem_of_getElem? (i := 0) rfl, rfl⟩)) .nil)) (by rintro _ _ _ ⟨rfl, rfl, rfl⟩; rfl)) rfl (by kernel_rfl) ?_
                    rintro _ _ _ ⟨rfl, rfl, rfl⟩
                    refine ⟨⟨⟨⟨0, rfl⟩, trivial⟩, ⟨⟨0, rfl⟩, trivial⟩, ⟨⟨0, rfl⟩, trivial⟩⟩, ?_⟩
                    refine VA.va (i := 5) (listed' := LB 19 63) rfl (op_pick rfl rfl (ltn rfl)) rfl (by kernel_rfl) (by kernel_rfl) (by kernel_rfl) (by kernel_rfl) ⟨⟨⟨0, rfl⟩, trivial⟩, ⟨⟨0, rfl⟩, trivial⟩, ⟨⟨0, rfl⟩, trivial⟩⟩ (fun _ _ _ h => h) ?_
                    refine VA.va (i := 6) (listed' := LB 19 127) rfl (op_move rfl (ltn rfl)) rfl (by kernel_rfl) (by kernel_rfl) (by kernel_rfl) (by kernel_rfl) ⟨⟨⟨0, rfl⟩, trivial⟩, ⟨⟨0, rfl⟩, trivial⟩, ⟨⟨0, rfl⟩, trivial⟩⟩ (fun _ _ _ h => h) ?_
                    refine VA.va (i := 7) (listed' := LB 19 255) rfl (op_move rfl (ltn rfl)) rfl (by kernel_rfl) (by kernel_rfl) (by kernel_rfl) (by kernel_rfl) ⟨⟨⟨0, rfl⟩, trivial⟩, ⟨⟨0, rfl⟩, trivial⟩, ⟨⟨0, rfl⟩, trivial⟩⟩ (fun _ _ _ h => h) ?_
                    refine VA.va (i := 10) (listed' := LB 19 1279) rfl (op_move rfl (ltn rfl)) rfl (by kernel_rfl) (by kernel_rfl) (by kernel_rfl) (by kernel_rfl) ⟨⟨⟨0, rfl⟩, trivial⟩, ⟨⟨0, rfl⟩, trivial⟩, ⟨⟨0, rfl⟩, trivial⟩⟩ (fun _ _ _ h => h) ?_
                    refine VA.va (i := 12) (listed' := LB 19 5375) rfl (op_load 0 3 rfl rfl TI24 rfl (fun h => absurd h (by decide)) (ltn rfl)) rfl (by kernel_rfl) (by kernel_rfl) (by kernel_rfl) (by kernel_rfl) ⟨⟨⟨0, rfl⟩, trivial⟩, ⟨⟨0, rfl⟩, trivial⟩, ⟨⟨0, rfl⟩, trivial⟩⟩ (fun _ _ _ h => h) ?_
                    refine VA.all [8, 9, 13] (by kernel_rfl) (by simp) ?_
                    refine VAll.consC (listed' := LB 19 5631) rfl (o_call_b0 FO16 (tarryref06_Sorted.ok k r1036 v1040 r115307 hA115308) rfl rfl (ltn rfl) (All_of (.cons (.inr (.inl ⟨_, List.mem_of_getElem? (i := 0) rfl, rfl⟩)) .nil)) (by rintro _ _ _ ⟨v115310, rfl, rfl, rfl⟩; rfl)) rfl (by kernel_rfl) ?_ ?_
                    · rintro v115310 _ _ ⟨_, rfl, rfl, rfl⟩
                      refine ⟨⟨⟨⟨0, rfl⟩, trivial⟩, ⟨⟨0, rfl⟩, trivial⟩, ⟨⟨1, rfl⟩, trivial⟩⟩, ?_⟩
                      refine VA.all [9, 13] (by kernel_rfl) (by simp) ?_
                      refine VAll.consG (listed' := LB 19 6143) rfl (o_buildSlice (vals := []) (cells := #[]) (es := List.map enc23 ([] : List S23)) Try.underlying22 TI24 Z24 rfl (by decide) (by decide) (by kernel_rfl) (by kernel_rfl) rfl (flat_map enc23_ok _) (ltn rfl)) rfl (by kernel_rfl) (fun _ => ⟨⟨⟨0, rfl⟩, trivial⟩, ⟨⟨0, rfl⟩, trivial⟩, ⟨⟨2, rfl⟩, trivial⟩⟩) ?_ ?_
                      · intro v115312
                        refine VA.all [11, 13] (by kernel_rfl) (by simp) ?_
                        refine VAll.consG (listed' := LB 19 8191) rfl (o_append 0 appm Try.underlying22 EI24 rfl rfl rfl (.inl ⟨0, rfl⟩) (bndm c115313) (ltn rfl)) rfl (by kernel_rfl) (fun _ => ⟨⟨⟨0, rfl⟩, trivial⟩, ⟨⟨0, rfl⟩, trivial⟩, ⟨⟨2, rfl⟩, trivial⟩⟩) ?_ ?_
                        · intro v115314
                          refine VA.oneG (i := 13) (listed' := LB 19 16383) (by kernel_rfl) rfl (o_buildSlice (vals := [(0, .agg #[.int .i64 a1_0, .int .i64 a1_1, .int .i64 a1_2])]) (cells := #[.int .i64 a1_0, .int .i64 a1_1, .int .i64 a1_2]) (es := List.map enc23 ([(⟨a1_0, a1_1, a1_2⟩ : S23)] : List S23)) Try.underlying22 TI24 Z24 rfl (by decide) (by decide) (by kernel_rfl) (by kernel_rfl) rfl (flat_map enc23_ok _) (ltn rfl)) rfl (by kernel_rfl) (fun _ => ⟨⟨⟨0, rfl⟩, trivial⟩, ⟨⟨0, rfl⟩, trivial⟩, ⟨⟨3, rfl⟩, trivial⟩⟩) ?_
                          intro v115317
                          refine VA.oneG (i := 14) (listed' := LB 19 32767) (by kernel_rfl) rfl (o_append 1 appm Try.underlying22 EI24 rfl rfl rfl (.inr ⟨0, _, rfl⟩) (bndm c115318) (ltn rfl)) rfl (by kernel_rfl) (fun _ => ⟨⟨⟨0, rfl⟩, trivial⟩, ⟨⟨0, rfl⟩, trivial⟩, ⟨⟨3, rfl⟩, trivial⟩⟩) ?_
                          intro v115319
                          refine VA.oneC (i := 15) (listed' := LB 19 65535) (by kernel_rfl) rfl (o_call_b0 FO16 (tarryref06_Sorted.ok k ((([] : List S23) ++ r13) ++ ([(⟨a1_0, a1_1, a1_2⟩ : S23)] : List S23)) v115319 r115321 hA115322) rfl rfl (ltn rfl) (All_of (.cons (.inr (.inl ⟨_, List.mem_of_getElem? (i := 1) rfl, rfl⟩)) .nil)) (by rintro _ _ _ ⟨v115324, rfl, rfl, rfl⟩; rfl)) rfl (by kernel_rfl) ?_
                          rintro v115324 _ _ ⟨_, rfl, rfl, rfl⟩
                          refine ⟨⟨⟨⟨0, rfl⟩, trivial⟩, ⟨⟨0, rfl⟩, trivial⟩, ⟨⟨4, rfl⟩, trivial⟩⟩, ?_⟩
                          refine VA.oneC (i := 16) (listed' := LB 19 131071) (by kernel_rfl) rfl (o_call_b0 FO17 (tarryref06_Same.ok k r115307 r115321 v115310 v115324 t115325 hA115326) rfl rfl (ltn rfl) (All_of (.cons (.inr (.inl ⟨_, List.mem_of_getElem? (i := 3) rfl, rfl⟩)) (.cons (.inr (.inl ⟨_, List.mem_of_getElem? (i := 0) rfl, rfl⟩)) .nil))) (by rintro _ _ _ ⟨rfl, rfl, rfl⟩; rfl)) rfl (by kernel_rfl) ?_
                          rintro _ _ _ ⟨rfl, rfl, rfl⟩
                          refine ⟨⟨⟨⟨0, rfl⟩, trivial⟩, ⟨⟨0, rfl⟩, trivial⟩, ⟨⟨4, rfl⟩, trivial⟩⟩, ?_⟩
                          refine VA.va (i := 17) (listed' := LB 19 262143) rfl (op_pick rfl rfl (ltn rfl)) rfl (by kernel_rfl) (by kernel_rfl) (by kernel_rfl) (by kernel_rfl) ⟨⟨⟨0, rfl⟩, trivial⟩, ⟨⟨0, rfl⟩, trivial⟩, ⟨⟨4, rfl⟩, trivial⟩⟩ (fun _ _ _ h => h) ?_
                          refine VA.va (i := 18) (listed' := LB 19 524287) rfl (op_assign rfl (ltn rfl)) rfl (by kernel_rfl) (by kernel_rfl) (by kernel_rfl) (by kernel_rfl) ⟨⟨⟨0, rfl⟩, trivial⟩, ⟨⟨0, rfl⟩, trivial⟩, ⟨⟨4, rfl⟩, trivial⟩⟩ (fun _ _ _ h => h) ?_
                          refine VA.done (by kernel_rfl) ?_
                          exact VN.meet0  [] [] trivial ⟨rfl, ⟨rfl, trivial⟩, trivial, rfl, by decide, rfl, by decide⟩
                        refine VAll.consG (listed' := LB 19 14335) rfl (o_buildSlice (vals := [(0, .agg #[.int .i64 a1_0, .int .i64 a1_1, .int .i64 a1_2])]) (cells := #[.int .i64 a1_0, .int .i64 a1_1, .int .i64 a1_2]) (es := List.map enc23 ([(⟨a1_0, a1_1, a1_2⟩ : S23)] : List S23)) Try.underlying22 TI24 Z24 rfl (by decide) (by decide) (by kernel_rfl) (by kernel_rfl) rfl (flat_map enc23_ok _) (ltn rfl)) rfl (by kernel_rfl) (fun _ => ⟨⟨⟨0, rfl⟩, trivial⟩, ⟨⟨0, rfl⟩, trivial⟩, ⟨⟨3, rfl⟩, trivial⟩⟩) ?_ VAll.nil
                        intro v115317
                        refine VA.oneG (i := 11) (listed' := LB 19 16383) (by kernel_rfl) rfl (o_append 1 appm Try.underlying22 EI24 rfl rfl rfl (.inl ⟨0, rfl⟩) (bndm c115313) (ltn rfl)) rfl (by kernel_rfl) (fun _ => ⟨⟨⟨0, rfl⟩, trivial⟩, ⟨⟨0, rfl⟩, trivial⟩, ⟨⟨3, rfl⟩, trivial⟩⟩) ?_
                        intro v115314
                        refine VA.oneG (i := 14) (listed' := LB 19 32767) (by kernel_rfl) rfl (o_append 1 appm Try.underlying22 EI24 rfl rfl rfl (.inr ⟨0, _, rfl⟩) (bndm c115318) (ltn rfl)) rfl (by kernel_rfl) (fun _ => ⟨⟨⟨0, rfl⟩, trivial⟩, ⟨⟨0, rfl⟩, trivial⟩, ⟨⟨3, rfl⟩, trivial⟩⟩) ?_
                        intro v115319
                        refine VA.oneC (i := 15) (listed' := LB 19 65535) (by kernel_rfl) rfl (o_call_b0 FO16 (tarryref06_Sorted.ok k ((([] : List S23) ++ r13) ++ ([(⟨a1_0, a1_1, a1_2⟩ : S23)] : List S23)) v115319 r115321 hA115322) rfl rfl (ltn rfl) (All_of (.cons (.inr (.inl ⟨_, List.mem_of_getElem? (i := 1) rfl, rfl⟩)) .nil)) (by rintro _ _ _ ⟨v115324, rfl, rfl, rfl⟩; rfl)) rfl (by kernel_rfl) ?_
                        rintro v115324 _ _ ⟨_, rfl, rfl, rfl⟩
                        refine ⟨⟨⟨⟨0, rfl⟩, trivial⟩, ⟨⟨0, rfl⟩, trivial⟩, ⟨⟨4, rfl⟩, trivial⟩⟩, ?_⟩
                        refine VA.oneC (i := 16) (listed' := LB 19 131071) (by kernel_rfl) rfl (o_call_b0 FO17 (tarryref06_Same.ok k r115307 r115321 v115310 v115324 t115325 hA115326) rfl rfl (ltn rfl) (All_of (.cons (.inr (.inl ⟨_, List.mem_of_getElem? (i := 3) rfl, rfl⟩)) (.cons (.inr (.inl ⟨_, List.mem_of_getElem? (i := 0) rfl, rfl⟩)) .nil))) (by rintro _ _ _ ⟨rfl, rfl, rfl⟩; rfl)) rfl (by kernel_rfl) ?_
                        rintro _ _ _ ⟨rfl, rfl, rfl⟩
                        refine ⟨⟨⟨⟨0, rfl⟩, trivial⟩, ⟨⟨0, rfl⟩, trivial⟩, ⟨⟨4, rfl⟩, trivial⟩⟩, ?_⟩
                        refine VA.va (i := 17) (listed' := LB 19 262143) rfl (op_pick rfl rfl (ltn rfl)) rfl (by kernel_rfl) (by kernel_rfl) (by kernel_rfl) (by kernel_rfl) ⟨⟨⟨0, rfl⟩, trivial⟩, ⟨⟨0, rfl⟩, trivial⟩, ⟨⟨4, rfl⟩, trivial⟩⟩ (fun _ _ _ h => h) ?_
                        refine VA.va (i := 18) (listed' := LB 19 524287) rfl (op_assign rfl (ltn rfl)) rfl (by kernel_rfl) (by kernel_rfl) (by kernel_rfl) (by kernel_rfl) ⟨⟨⟨0, rfl⟩, trivial⟩, ⟨⟨0, rfl⟩, trivial⟩, ⟨⟨4, rfl⟩, trivial⟩⟩ (fun _ _ _ h => h) ?_
                        refine VA.done (by kernel_rfl) ?_
                        exact VN.meet0  [] [] trivial ⟨rfl, ⟨rfl, trivial⟩, trivial, rfl, by decide, rfl, by decide⟩
                      refine VAll.consG (listed' := LB 19 13823) rfl (o_buildSlice (vals := [(0, .agg #[.int .i64 a1_0, .int .i64 a1_1, .int .i64 a1_2])]) (cells := #[.int .i64 a1_0, .int .i64 a1_1, .int .i64 a1_2]) (es := List.map enc23 ([(⟨a1_0, a1_1, a1_2⟩ : S23)] : List S23)) Try.underlying22 TI24 Z24 rfl (by decide) (by decide) (by kernel_rfl) (by kernel_rfl) rfl (flat_map enc23_ok _) (ltn rfl)) rfl (by kernel_rfl) (fun _ => ⟨⟨⟨0, rfl⟩, trivial⟩, ⟨⟨0, rfl⟩, trivial⟩, ⟨⟨2, rfl⟩, trivial⟩⟩) ?_ VAll.nil
                      intro v115317
                      refine VA.oneG (i := 9) (listed' := LB 19 14335) (by kernel_rfl) rfl (o_buildSlice (vals := []) (cells := #[]) (es := List.map enc23 ([] : List S23)) Try.underlying22 TI24 Z24 rfl (by decide) (by decide) (by kernel_rfl) (by kernel_rfl) rfl (flat_map enc23_ok _) (ltn rfl)) rfl (by kernel_rfl) (fun _ => ⟨⟨⟨0, rfl⟩, trivial⟩, ⟨⟨0, rfl⟩, trivial⟩, ⟨⟨3, rfl⟩, trivial⟩⟩) ?_
                      intro v115312
                      refine VA.oneG (i := 11) (listed' := LB 19 16383) (by kernel_rfl) rfl (o_append 0 appm Try.underlying22 EI24 rfl rfl rfl (.inl ⟨0, rfl⟩) (bndm c115313) (ltn rfl)) rfl (by kernel_rfl) (fun _ => ⟨⟨⟨0, rfl⟩, trivial⟩, ⟨⟨0, rfl⟩, trivial⟩, ⟨⟨3, rfl⟩, trivial⟩⟩) ?_
                      intro v115314
                      refine VA.oneG (i := 14) (listed' := LB 19 32767) (by kernel_rfl) rfl (o_append 0 appm Try.underlying22 EI24 rfl rfl rfl (.inr ⟨1, _, rfl⟩) (bndm c115318) (ltn rfl)) rfl (by kernel_rfl) (fun _ => ⟨⟨⟨0, rfl⟩, trivial⟩, ⟨⟨0, rfl⟩, trivial⟩, ⟨⟨3, rfl⟩, trivial⟩⟩) ?_
                      intro v115319
                      refine VA.oneC (i := 15) (listed' := LB 19 65535) (by kernel_rfl) rfl (o_call_b0 FO16 (tarryref06_Sorted.ok k ((([] : List S23) ++ r13) ++ ([(⟨a1_0, a1_1, a1_2⟩ : S23)] : List S23)) v115319 r115321 hA115322) rfl rfl (ltn rfl) (All_of (.cons (.inr (.inl ⟨_, List.mem_of_getElem? (i := 0) rfl, rfl⟩)) .nil)) (by rintro _ _ _ ⟨v115324, rfl, rfl, rfl⟩; rfl)) rfl (by kernel_rfl) ?_
                      rintro v115324 _ _ ⟨_, rfl, rfl, rfl⟩
                      refine ⟨⟨⟨⟨0, rfl⟩, trivial⟩, ⟨⟨0, rfl⟩, trivial⟩, ⟨⟨4, rfl⟩, trivial⟩⟩, ?_⟩
                      refine VA.oneC (i := 16) (listed' := LB 19 131071) (by kernel_rfl) rfl (o_call_b0 FO17 (tarryref06_Same.ok k r115307 r115321 v115310 v115324 t115325 hA115326) rfl rfl (ltn rfl) (All_of (.cons (.inr (.inl ⟨_, List.mem_of_getElem? (i := 3) rfl, rfl⟩)) (.cons (.inr (.inl ⟨_, List.mem_of_getElem? (i := 0) rfl, rfl⟩)) .nil))) (by rintro _ _ _ ⟨rfl, rfl, rfl⟩; rfl)) rfl (by kernel_rfl) ?_
                      rintro _ _ _ ⟨rfl, rfl, rfl⟩
                      refine ⟨⟨⟨⟨0, rfl⟩, trivial⟩, ⟨⟨0, rfl⟩, trivial⟩, ⟨⟨4, rfl⟩, trivial⟩⟩, ?_⟩
                      refine VA.va (i := 17) (listed' := LB 19 262143) rfl (op_pick rfl rfl (ltn rfl)) rfl (by kernel_rfl) (by kernel_rfl) (by kernel_rfl) (by kernel_rfl) ⟨⟨⟨0, rfl⟩, trivial⟩, ⟨⟨0, rfl⟩, trivial⟩, ⟨⟨4, rfl⟩, trivial⟩⟩ (fun _ _ _ h => h) ?_
                      refine VA.va (i := 18) (listed' := LB 19 524287) rfl (op_assign rfl (ltn rfl)) rfl (by kernel_rfl) (by kernel_rfl) (by kernel_rfl) (by kernel_rfl) ⟨⟨⟨0, rfl⟩, trivial⟩, ⟨⟨0, rfl⟩, trivial⟩, ⟨⟨4, rfl⟩, trivial⟩⟩ (fun _ _ _ h => h) ?_
                      refine VA.done (by kernel_rfl) ?_
                      exact VN.meet0  [] [] trivial ⟨rfl, ⟨rfl, trivial⟩, trivial, rfl, by decide, rfl, by decide⟩
                    refine VAll.consG (listed' := LB 19 5887) rfl (o_buildSlice (vals := []) (cells := #[]) (es := List.map enc23 ([] : List S23)) Try.underlying22 TI24 Z24 rfl (by decide) (by decide) (by kernel_rfl) (by kernel_rfl) rfl (flat_map enc23_ok _) (ltn rfl)) rfl (by kernel_rfl) (fun _ => ⟨⟨⟨0, rfl⟩, trivial⟩, ⟨⟨0, rfl⟩, trivial⟩, ⟨⟨1, rfl⟩, trivial⟩⟩) ?_ ?_
                    · intro v115312
                      refine VA.all [8, 13] (by kernel_rfl) (by simp) ?_
                      refine VAll.consC (listed' := LB 19 6143) rfl (o_call_b0 FO16 (tarryref06_Sorted.ok k r1036 v1040 r115307 hA115308) rfl rfl (ltn rfl) (All_of (.cons (.inr (.inl ⟨_, List.mem_of_getElem? (i := 1) rfl, rfl⟩)) .nil)) (by rintro _ _ _ ⟨v115310, rfl, rfl, rfl⟩; rfl)) rfl (by kernel_rfl) ?_ ?_
                      · rintro v115310 _ _ ⟨_, rfl, rfl, rfl⟩
                        refine ⟨⟨⟨⟨0, rfl⟩, trivial⟩, ⟨⟨0, rfl⟩, trivial⟩, ⟨⟨2, rfl⟩, trivial⟩⟩, ?_⟩
                        refine VA.all [11, 13] (by kernel_rfl) (by simp) ?_
                        refine VAll.consG (listed' := LB 19 8191) rfl (o_append 1 appm Try.underlying22 EI24 rfl rfl rfl (.inl ⟨0, rfl⟩) (bndm c115313) (ltn rfl)) rfl (by kernel_rfl) (fun _ => ⟨⟨⟨0, rfl⟩, trivial⟩, ⟨⟨0, rfl⟩, trivial⟩, ⟨⟨2, rfl⟩, trivial⟩⟩) ?_ ?_
                        · intro v115314
                          refine VA.oneG (i := 13) (listed' := LB 19 16383) (by kernel_rfl) rfl (o_buildSlice (vals := [(0, .agg #[.int .i64 a1_0, .int .i64 a1_1, .int .i64 a1_2])]) (cells := #[.int .i64 a1_0, .int .i64 a1_1, .int .i64 a1_2]) (es := List.map enc23 ([(⟨a1_0, a1_1, a1_2⟩ : S23)] : List S23)) Try.underlying22 TI24 Z24 rfl (by decide) (by decide) (by kernel_rfl) (by kernel_rfl) rfl (flat_map enc23_ok _) (ltn rfl)) rfl (by kernel_rfl) (fun _ => ⟨⟨⟨0, rfl⟩, trivial⟩, ⟨⟨0, rfl⟩, trivial⟩, ⟨⟨3, rfl⟩, trivial⟩⟩) ?_
                          intro v115317
                          refine VA.oneG (i := 14) (listed' := LB 19 32767) (by kernel_rfl) rfl (o_append 2 appm Try.underlying22 EI24 rfl rfl rfl (.inr ⟨0, _, rfl⟩) (bndm c115318) (ltn rfl)) rfl (by kernel_rfl) (fun _ => ⟨⟨⟨0, rfl⟩, trivial⟩, ⟨⟨0, rfl⟩, trivial⟩, ⟨⟨3, rfl⟩, trivial⟩⟩) ?_
                          intro v115319
                          refine VA.oneC (i := 15) (listed' := LB 19 65535) (by kernel_rfl) rfl (o_call_b0 FO16 (tarryref06_Sorted.ok k ((([] : List S23) ++ r13) ++ ([(⟨a1_0, a1_1, a1_2⟩ : S23)] : List S23)) v115319 r115321 hA115322) rfl rfl (ltn rfl) (All_of (.cons (.inr (.inl ⟨_, List.mem_of_getElem? (i := 2) rfl, rfl⟩)) .nil)) (by rintro _ _ _ ⟨v115324, rfl, rfl, rfl⟩; rfl)) rfl (by kernel_rfl) ?_
                          rintro v115324 _ _ ⟨_, rfl, rfl, rfl⟩
                          refine ⟨⟨⟨⟨0, rfl⟩, trivial⟩, ⟨⟨0, rfl⟩, trivial⟩, ⟨⟨4, rfl⟩, trivial⟩⟩, ?_⟩
                          refine VA.oneC (i := 16) (listed' := LB 19 131071) (by kernel_rfl) rfl (o_call_b0 FO17 (tarryref06_Same.ok k r115307 r115321 v115310 v115324 t115325 hA115326) rfl rfl (ltn rfl) (All_of (.cons (.inr (.inl ⟨_, List.mem_of_getElem? (i := 2) rfl, rfl⟩)) (.cons (.inr (.inl ⟨_, List.mem_of_getElem? (i := 0) rfl, rfl⟩)) .nil))) (by rintro _ _ _ ⟨rfl, rfl, rfl⟩; rfl)) rfl (by kernel_rfl) ?_
                          rintro _ _ _ ⟨rfl, rfl, rfl⟩
                          refine ⟨⟨⟨⟨0, rfl⟩, trivial⟩, ⟨⟨0, rfl⟩, trivial⟩, ⟨⟨4, rfl⟩, trivial⟩⟩, ?_⟩
                          refine VA.va (i := 17) (listed' := LB 19 262143) rfl (op_pick rfl rfl (ltn rfl)) rfl (by kernel_rfl) (by kernel_rfl) (by kernel_rfl) (by kernel_rfl) ⟨⟨⟨0, rfl⟩, trivial⟩, ⟨⟨0, rfl⟩, trivial⟩, ⟨⟨4, rfl⟩, trivial⟩⟩ (fun _ _ _ h => h) ?_
                          refine VA.va (i := 18) (listed' := LB 19 524287) rfl (op_assign rfl (ltn rfl)) rfl (by kernel_rfl) (by kernel_rfl) (by kernel_rfl) (by kernel_rfl) ⟨⟨⟨0, rfl⟩, trivial⟩, ⟨⟨0, rfl⟩, trivial⟩, ⟨⟨4, rfl⟩, trivial⟩⟩ (fun _ _ _ h => h) ?_
                          refine VA.done (by kernel_rfl) ?_
                          exact VN.meet0  [] [] trivial ⟨rfl, ⟨rfl, trivial⟩, trivial, rfl, by decide, rfl, by decide⟩
                        refine VAll.consG (listed' := LB 19 14335) rfl (o_buildSlice (vals := [(0, .agg #[.int .i64 a1_0, .int .i64 a1_1, .int .i64 a1_2])]) (cells := #[.int .i64 a1_0, .int .i64 a1_1, .int .i64 a1_2]) (es := List.map enc23 ([(⟨a1_0, a1_1, a1_2⟩ : S23)] : List S23)) Try.underlying22 TI24 Z24 rfl (by decide) (by decide) (by kernel_rfl) (by kernel_rfl) rfl (flat_map enc23_ok _) (ltn rfl)) rfl (by kernel_rfl) (fun _ => ⟨⟨⟨0, rfl⟩, trivial⟩, ⟨⟨0, rfl⟩, trivial⟩, ⟨⟨3, rfl⟩, trivial⟩⟩) ?_ VAll.nil
                        intro v115317
                        refine VA.oneG (i := 11) (listed' := LB 19 16383) (by kernel_rfl) rfl (o_append 2 appm Try.underlying22 EI24 rfl rfl rfl (.inl ⟨0, rfl⟩) (bndm c115313) (ltn rfl)) rfl (by kernel_rfl) (fun _ => ⟨⟨⟨0, rfl⟩, trivial⟩, ⟨⟨0, rfl⟩, trivial⟩, ⟨⟨3, rfl⟩, trivial⟩⟩) ?_
                        intro v115314
                        refine VA.oneG (i := 14) (listed' := LB 19 32767) (by kernel_rfl) rfl (o_append 2 appm Try.underlying22 EI24 rfl rfl rfl (.inr ⟨0, _, rfl⟩) (bndm c115318) (ltn rfl)) rfl (by kernel_rfl) (fun _ => ⟨⟨⟨0, rfl⟩, trivial⟩, ⟨⟨0, rfl⟩, trivial⟩, ⟨⟨3, rfl⟩, trivial⟩⟩) ?_
                        intro v115319
                        refine VA.oneC (i := 15) (listed' := LB 19 65535) (by kernel_rfl) rfl (o_call_b0 FO16 (tarryref06_Sorted.ok k ((([] : List S23) ++ r13) ++ ([(⟨a1_0, a1_1, a1_2⟩ : S23)] : List S23)) v115319 r115321 hA115322) rfl rfl (ltn rfl) (All_of (.cons (.inr (.inl ⟨_, List.mem_of_getElem? (i := 2) rfl, rfl⟩)) .nil)) (by rintro _ _ _ ⟨v115324, rfl, rfl, rfl⟩; rfl)) rfl (by kernel_rfl) ?_
                        rintro v115324 _ _ ⟨_, rfl, rfl, rfl⟩
                        refine ⟨⟨⟨⟨0, rfl⟩, trivial⟩, ⟨⟨0, rfl⟩, trivial⟩, ⟨⟨4, rfl⟩, trivial⟩⟩, ?_⟩
                        refine VA.oneC (i := 16) (listed' := LB 19 131071) (by kernel_rfl) rfl (o_call_b0 FO17 (tarryref06_Same.ok k r115307 r115321 v115310 v115324 t115325 hA115326) rfl rfl (ltn rfl) (All_of (.cons (.inr (.inl ⟨_, List.mem_of_getElem? (i := 2) rfl, rfl⟩)) (.cons (.inr (.inl ⟨_, List.mem_of_getElem? (i := 0) rfl, rfl⟩)) .nil))) (by rintro _ _ _ ⟨rfl, rfl, rfl⟩; rfl)) rfl (by kernel_rfl) ?_
                        rintro _ _ _ ⟨rfl, rfl, rfl⟩
                        refine ⟨⟨⟨⟨0, rfl⟩, trivial⟩, ⟨⟨0, rfl⟩, trivial⟩, ⟨⟨4, rfl⟩, trivial⟩⟩, ?_⟩
                        refine VA.va (i := 17) (listed' := LB 19 262143) rfl (op_pick rfl rfl (ltn rfl)) rfl (by kernel_rfl) (by kernel_rfl) (by kernel_rfl) (by kernel_rfl) ⟨⟨⟨0, rfl⟩, trivial⟩, ⟨⟨0, rfl⟩, trivial⟩, ⟨⟨4, rfl⟩, trivial⟩⟩ (fun _ _ _ h => h) ?_
                        refine VA.va (i := 18) (listed' := LB 19 524287) rfl (op_assign rfl (ltn rfl)) rfl (by kernel_rfl) (by kernel_rfl) (by kernel_rfl) (by kernel_rfl) ⟨⟨⟨0, rfl⟩, trivial⟩, ⟨⟨0, rfl⟩, trivial⟩, ⟨⟨4, rfl⟩, trivial⟩⟩ (fun _ _ _ h => h) ?_
                        refine VA.done (by kernel_rfl) ?_
                        exact VN.meet0  [] [] trivial ⟨rfl, ⟨rfl, trivial⟩, trivial, rfl, by decide, rfl, by decide⟩
                      refine VAll.consG (listed' := LB 19 14079) rfl (o_buildSlice (vals := [(0, .agg #[.int .i64 a1_0, .int .i64 a1_1, .int .i64 a1_2])]) (cells := #[.int .i64 a1_0, .int .i64 a1_1, .int .i64 a1_2]) (es := List.map enc23 ([(⟨a1_0, a1_1, a1_2⟩ : S23)] : List S23)) Try.underlying22 TI24 Z24 rfl (by decide) (by decide) (by kernel_rfl) (by kernel_rfl) rfl (flat_map enc23_ok _) (ltn rfl)) rfl (by kernel_rfl) (fun _ => ⟨⟨⟨0, rfl⟩, trivial⟩, ⟨⟨0, rfl⟩, trivial⟩, ⟨⟨2, rfl⟩, trivial⟩⟩) ?_ VAll.nil
                      intro v115317
                      refine VA.oneC (i := 8) (listed' := LB 19 14335) (by kernel_rfl) rfl (o_call_b0 FO16 (tarryref06_Sorted.ok k r1036 v1040 r115307 hA115308) rfl rfl (ltn rfl) (All_of (.cons (.inr (.inl ⟨_, List.mem_of_getElem? (i := 2) rfl, rfl⟩)) .nil)) (by rintro _ _ _ ⟨v115310, rfl, rfl, rfl⟩; rfl)) rfl (by kernel_rfl) ?_
                      rintro v115310 _ _ ⟨_, rfl, rfl, rfl⟩
                      refine ⟨⟨⟨⟨0, rfl⟩, trivial⟩, ⟨⟨0, rfl⟩, trivial⟩, ⟨⟨3, rfl⟩, trivial⟩⟩, ?_⟩
                      refine VA.oneG (i := 11) (listed' := LB 19 16383) (by kernel_rfl) rfl (o_append 2 appm Try.underlying22 EI24 rfl rfl rfl (.inl ⟨0, rfl⟩) (bndm c115313) (ltn rfl)) rfl (by kernel_rfl) (fun _ => ⟨⟨⟨0, rfl⟩, trivial⟩, ⟨⟨0, rfl⟩, trivial⟩, ⟨⟨3, rfl⟩, trivial⟩⟩) ?_
                      intro v115314
                      refine VA.oneG (i := 14) (listed' := LB 19 32767) (by kernel_rfl) rfl (o_append 2 appm Try.underlying22 EI24 rfl rfl rfl (.inr ⟨1, _, rfl⟩) (bndm c115318) (ltn rfl)) rfl (by kernel_rfl) (fun _ => ⟨⟨⟨0, rfl⟩, trivial⟩, ⟨⟨0, rfl⟩, trivial⟩, ⟨⟨3, rfl⟩, trivial⟩⟩) ?_
                      intro v115319
                      refine VA.oneC (i := 15) (listed' := LB 19 65535) (by kernel_rfl) rfl (o_call_b0 FO16 (tarryref06_Sorted.ok k ((([] : List S23) ++ r13) ++ ([(⟨a1_0, a1_1, a1_2⟩ : S23)] : List S23)) v115319 r115321 hA115322) rfl rfl (ltn rfl) (All_of (.cons (.inr (.inl ⟨_, List.mem_of_getElem? (i := 2) rfl, rfl⟩)) .nil)) (by rintro _ _ _ ⟨v115324, rfl, rfl, rfl⟩; rfl)) rfl (by kernel_rfl) ?_
                      rintro v115324 _ _ ⟨_, rfl, rfl, rfl⟩
                      refine ⟨⟨⟨⟨0, rfl⟩, trivial⟩, ⟨⟨0, rfl⟩, trivial⟩, ⟨⟨4, rfl⟩, trivial⟩⟩, ?_⟩
                      refine VA.oneC (i := 16) (listed' := LB 19 131071) (by kernel_rfl) rfl (o_call_b0 FO17 (tarryref06_Same.ok k r115307 r115321 v115310 v115324 t115325 hA115326) rfl rfl (ltn rfl) (All_of (.cons (.inr (.inl ⟨_, List.mem_of_getElem? (i := 1) rfl, rfl⟩)) (.cons (.inr (.inl ⟨_, List.mem_of_getElem? (i := 0) rfl, rfl⟩)) .nil))) (by rintro _ _ _ ⟨rfl, rfl, rfl⟩; rfl)) rfl (by kernel_rfl) ?_
                      rintro _ _ _ ⟨rfl, rfl, rfl⟩
                      refine ⟨⟨⟨⟨0, rfl⟩, trivial⟩, ⟨⟨0, rfl⟩, trivial⟩, ⟨⟨4, rfl⟩, trivial⟩⟩, ?_⟩
                      refine VA.va (i := 17) (listed' := LB 19 262143) rfl (op_pick rfl rfl (ltn rfl)) rfl (by kernel_rfl) (by kernel_rfl) (by kernel_rfl) (by kernel_rfl) ⟨⟨⟨0, rfl⟩, trivial⟩, ⟨⟨0, rfl⟩, trivial⟩, ⟨⟨4, rfl⟩, trivial⟩⟩ (fun _ _ _ h => h) ?_
                      refine VA.va (i := 18) (listed' := LB 19 524287) rfl (op_assign rfl (ltn rfl)) rfl (by kernel_rfl) (by kernel_rfl) (by kernel_rfl) (by kernel_rfl) ⟨⟨⟨0, rfl⟩, trivial⟩, ⟨⟨0, rfl⟩, trivial⟩, ⟨⟨4, rfl⟩, trivial⟩⟩ (fun _ _ _ h => h) ?_
                      refine VA.done (by kernel_rfl) ?_
                      exact VN.meet0  [] [] trivial ⟨rfl, ⟨rfl, trivial⟩, trivial, rfl, by decide, rfl, by decide⟩
                    refine VAll.consG (listed' := LB 19 13567) rfl (o_buildSlice (vals := [(0, .agg #[.int .i64 a1_0, .int .i64 a1_1, .int .i64 a1_2])]) (cells := #[.int .i64 a1_0, .int .i64 a1_1, .int .i64 a1_2]) (es := List.map enc23 ([(⟨a1_0, a1_1, a1_2⟩ : S23)] : List S23)) Try.underlying22 TI24 Z24 rfl (by decide) (by decide) (by kernel_rfl) (by kernel_rfl) rfl (flat_map enc23_ok _) (ltn rfl)) rfl (by kernel_rfl) (fun _ => ⟨⟨⟨0, rfl⟩, trivial⟩, ⟨⟨0, rfl⟩, trivial⟩, ⟨⟨1, rfl⟩, trivial⟩⟩) ?_ VAll.nil
                    intro v115317
                    refine VA.all [8, 9] (by kernel_rfl) (by simp) ?_
                    refine VAll.consC (listed' := LB 19 13823) rfl (o_call_b0 FO16 (tarryref06_Sorted.ok k r1036 v1040 r115307 hA115308) rfl rfl (ltn rfl) (All_of (.cons (.inr (.inl ⟨_, List.mem_of_getElem? (i := 1) rfl, rfl⟩)) .nil)) (by rintro _ _ _ ⟨v115310, rfl, rfl, rfl⟩; rfl)) rfl (by kernel_rfl) ?_ ?_
                    · rintro v115310 _ _ ⟨_, rfl, rfl, rfl⟩
                      refine ⟨⟨⟨⟨0, rfl⟩, trivial⟩, ⟨⟨0, rfl⟩, trivial⟩, ⟨⟨2, rfl⟩, trivial⟩⟩, ?_⟩
                      refine VA.oneG (i := 9) (listed' := LB 19 14335) (by kernel_rfl) rfl (o_buildSlice (vals := []) (cells := #[]) (es := List.map enc23 ([] : List S23)) Try.underlying22 TI24 Z24 rfl (by decide) (by decide) (by kernel_rfl) (by kernel_rfl) rfl (flat_map enc23_ok _) (ltn rfl)) rfl (by kernel_rfl) (fun _ => ⟨⟨⟨0, rfl⟩, trivial⟩, ⟨⟨0, rfl⟩, trivial⟩, ⟨⟨3, rfl⟩, trivial⟩⟩) ?_
                      intro v115312
                      refine VA.oneG (i := 11) (listed' := LB 19 16383) (by kernel_rfl) rfl (o_append 0 appm Try.underlying22 EI24 rfl rfl rfl (.inl ⟨0, rfl⟩) (bndm c115313) (ltn rfl)) rfl (by kernel_rfl) (fun _ => ⟨⟨⟨0, rfl⟩, trivial⟩, ⟨⟨0, rfl⟩, trivial⟩, ⟨⟨3, rfl⟩, trivial⟩⟩) ?_
                      intro v115314
                      refine VA.oneG (i := 14) (listed' := LB 19 32767) (by kernel_rfl) rfl (o_append 0 appm Try.underlying22 EI24 rfl rfl rfl (.inr ⟨2, _, rfl⟩) (bndm c115318) (ltn rfl)) rfl (by kernel_rfl) (fun _ => ⟨⟨⟨0, rfl⟩, trivial⟩, ⟨⟨0, rfl⟩, trivial⟩, ⟨⟨3, rfl⟩, trivial⟩⟩) ?_
                      intro v115319
                      refine VA.oneC (i := 15) (listed' := LB 19 65535) (by kernel_rfl) rfl (o_call_b0 FO16 (tarryref06_Sorted.ok k ((([] : List S23) ++ r13) ++ ([(⟨a1_0, a1_1, a1_2⟩ : S23)] : List S23)) v115319 r115321 hA115322) rfl rfl (ltn rfl) (All_of (.cons (.inr (.inl ⟨_, List.mem_of_getElem? (i := 0) rfl, rfl⟩)) .nil)) (by rintro _ _ _ ⟨v115324, rfl, rfl, rfl⟩; rfl)) rfl (by kernel_rfl) ?_
                      rintro v115324 _ _ ⟨_, rfl, rfl, rfl⟩
                      refine ⟨⟨⟨⟨0, rfl⟩, trivial⟩, ⟨⟨0, rfl⟩, trivial⟩, ⟨⟨4, rfl⟩, trivial⟩⟩, ?_⟩
                      refine VA.oneC (i := 16) (listed' := LB 19 131071) (by kernel_rfl) rfl (o_call_b0 FO17 (tarryref06_Same.ok k r115307 r115321 v115310 v115324 t115325 hA115326) rfl rfl (ltn rfl) (All_of (.cons (.inr (.inl ⟨_, List.mem_of_getElem? (i := 2) rfl, rfl⟩)) (.cons (.inr (.inl ⟨_, List.mem_of_getElem? (i := 0) rfl, rfl⟩)) .nil))) (by rintro _ _ _ ⟨rfl, rfl, rfl⟩; rfl)) rfl (by kernel_rfl) ?_
                      rintro _ _ _ ⟨rfl, rfl, rfl⟩
                      refine ⟨⟨⟨⟨0, rfl⟩, trivial⟩, ⟨⟨0, rfl⟩, trivial⟩, ⟨⟨4, rfl⟩, trivial⟩⟩, ?_⟩
                      refine VA.va (i := 17) (listed' := LB 19 262143) rfl (op_pick rfl rfl (ltn rfl)) rfl (by kernel_rfl) (by kernel_rfl) (by kernel_rfl) (by kernel_rfl) ⟨⟨⟨0, rfl⟩, trivial⟩, ⟨⟨0, rfl⟩, trivial⟩, ⟨⟨4, rfl⟩, trivial⟩⟩ (fun _ _ _ h => h) ?_
                      refine VA.va (i := 18) (listed' := LB 19 524287) rfl (op_assign rfl (ltn rfl)) rfl (by kernel_rfl) (by kernel_rfl) (by kernel_rfl) (by kernel_rfl) ⟨⟨⟨0, rfl⟩, trivial⟩, ⟨⟨0, rfl⟩, trivial⟩, ⟨⟨4, rfl⟩, trivial⟩⟩ (fun _ _ _ h => h) ?_
                      refine VA.done (by kernel_rfl) ?_
                      exact VN.meet0  [] [] trivial ⟨rfl, ⟨rfl, trivial⟩, trivial, rfl, by decide, rfl, by decide⟩
                    refine VAll.consG (listed' := LB 19 14079) rfl (o_buildSlice (vals := []) (cells := #[]) (es := List.map enc23 ([] : List S23)) Try.underlying22 TI24 Z24 rfl (by decide) (by decide) (by kernel_rfl) (by kernel_rfl) rfl (flat_map enc23_ok _) (ltn rfl)) rfl (by kernel_rfl) (fun _ => ⟨⟨⟨0, rfl⟩, trivial⟩, ⟨⟨0, rfl⟩, trivial⟩, ⟨⟨2, rfl⟩, trivial⟩⟩) ?_ VAll.nil
                    intro v115312
                    refine VA.oneC (i := 8) (listed' := LB 19 14335) (by kernel_rfl) rfl (o_call_b0 FO16 (tarryref06_Sorted.ok k r1036 v1040 r115307 hA115308) rfl rfl (ltn rfl) (All_of (.cons (.inr (.inl ⟨_, List.mem_of_getElem? (i := 2) rfl, rfl⟩)) .nil)) (by rintro _ _ _ ⟨v115310, rfl, rfl, rfl⟩; rfl)) rfl (by kernel_rfl) ?_
                    rintro v115310 _ _ ⟨_, rfl, rfl, rfl⟩
                    refine ⟨⟨⟨⟨0, rfl⟩, trivial⟩, ⟨⟨0, rfl⟩, trivial⟩, ⟨⟨3, rfl⟩, trivial⟩⟩, ?_⟩
                    refine VA.oneG (i := 11) (listed' := LB 19 16383) (by kernel_rfl) rfl (o_append 1 appm Try.underlying22 EI24 rfl rfl rfl (.inl ⟨0, rfl⟩) (bndm c115313) (ltn rfl)) rfl (by kernel_rfl) (fun _ => ⟨⟨⟨0, rfl⟩, trivial⟩, ⟨⟨0, rfl⟩, trivial⟩, ⟨⟨3, rfl⟩, trivial⟩⟩) ?_
                    intro v115314
                    refine VA.oneG (i := 14) (listed' := LB 19 32767) (by kernel_rfl) rfl (o_append 1 appm Try.underlying22 EI24 rfl rfl rfl (.inr ⟨2, _, rfl⟩) (bndm c115318) (ltn rfl)) rfl (by kernel_rfl) (fun _ => ⟨⟨⟨0, rfl⟩, trivial⟩, ⟨⟨0, rfl⟩, trivial⟩, ⟨⟨3, rfl⟩, trivial⟩⟩) ?_
                    intro v115319
                    refine VA.oneC (i := 15) (listed' := LB 19 65535) (by kernel_rfl) rfl (o_call_b0 FO16 (tarryref06_Sorted.ok k ((([] : List S23) ++ r13) ++ ([(⟨a1_0, a1_1, a1_2⟩ : S23)] : List S23)) v115319 r115321 hA115322) rfl rfl (ltn rfl) (All_of (.cons (.inr (.inl ⟨_, List.mem_of_getElem? (i := 1) rfl, rfl⟩)) .nil)) (by rintro _ _ _ ⟨v115324, rfl, rfl, rfl⟩; rfl)) rfl (by kernel_rfl) ?_
                    rintro v115324 _ _ ⟨_, rfl, rfl, rfl⟩
                    refine ⟨⟨⟨⟨0, rfl⟩, trivial⟩, ⟨⟨0, rfl⟩, trivial⟩, ⟨⟨4, rfl⟩, trivial⟩⟩, ?_⟩
                    refine VA.oneC (i := 16) (listed' := LB 19 131071) (by kernel_rfl) rfl (o_call_b0 FO17 (tarryref06_Same.ok k r115307 r115321 v115310 v115324 t115325 hA115326) rfl rfl (ltn rfl) (All_of (.cons (.inr (.inl ⟨_, List.mem_of_getElem? (i := 1) rfl, rfl⟩)) (.cons (.inr (.inl ⟨_, List.mem_of_getElem? (i := 0) rfl, rfl⟩)) .nil))) (by rintro _ _ _ ⟨rfl, rfl, rfl⟩; rfl)) rfl (by kernel_rfl) ?_
                    rintro _ _ _ ⟨rfl, rfl, rfl⟩
                    refine ⟨⟨⟨⟨0, rfl⟩, trivial⟩, ⟨⟨0, rfl⟩, trivial⟩, ⟨⟨4, rfl⟩, trivial⟩⟩, ?_⟩
                    refine VA.va (i := 17) (listed' := LB 19 262143) rfl (op_pick rfl rfl (ltn rfl)) rfl (by kernel_rfl) (by kernel_rfl) (by kernel_rfl) (by kernel_rfl) ⟨⟨⟨0, rfl⟩, trivial⟩, ⟨⟨0, rfl⟩, trivial⟩, ⟨⟨4, rfl⟩, trivial⟩⟩ (fun _ _ _ h => h) ?_
                    refine VA.va (i := 18) (listed' := LB 19 524287) rfl (op_assign rfl (ltn rfl)) rfl (by kernel_rfl) (by kernel_rfl) (by kernel_rfl) (by kernel_rfl) ⟨⟨⟨0, rfl⟩, trivial⟩, ⟨⟨0, rfl⟩, trivial⟩, ⟨⟨4, rfl⟩, trivial⟩⟩ (fun _ _ _ h => h) ?_
                    refine VA.done (by kernel_rfl) ?_
                    exact VN.meet0  [] [] trivial ⟨rfl, ⟨rfl, trivial⟩, trivial, rfl, by decide, rfl, by decide⟩
                  intro _
                  refine VC.ret ?_
                  obtain rfl := Option.some.inj h
                  exact VR.fn (rs := [.tmp 4]) [] [] [] rfl (.tmp rfl .nil) ⟨rfl, rfl, rfl⟩ trivial rfl (by decide)
                · rw [if_neg c115318] at h; cases h
              · rw [if_neg c115313] at h; cases h
            · rw [if_neg c115306] at h
              obtain rfl := Bool.eq_false_iff.2 c115306
              refine VC.join0 (⟨126, [(4, .bool false)], [], [], []⟩) (True) ?_ ?_
              · refine VC.draw ⟨0, [], [], [], [(v1040, 24, 3, r1036.map enc23)]⟩ (by kernel_rfl) rfl (by kernel_rfl) (n := 19) (listed := LB 19 0) ?_
                refine VA.va (i := 0) (listed' := LB 19 1) rfl (op_move rfl (ltn rfl)) rfl (by kernel_rfl) (by kernel_rfl) (by kernel_rfl) (by kernel_rfl) ⟨trivial, trivial, ⟨⟨0, rfl⟩, trivial⟩⟩ (fun _ _ _ h => h) ?_
                refine VA.va (i := 1) (listed' := LB 19 3) rfl (op_cmp rfl rfl (congrArg some hb115302) (ltn rfl)) rfl (by kernel_rfl) (by kernel_rfl) (by kernel_rfl) (by kernel_rfl) ⟨trivial, trivial, ⟨⟨0, rfl⟩, trivial⟩⟩ (fun _ _ _ h => h) ?_
                refine VA.va (i := 2) (listed' := LB 19 7) rfl (op_move rfl (ltn rfl)) rfl (by kernel_rfl) (by kernel_rfl) (by kernel_rfl) (by kernel_rfl) ⟨trivial, trivial, ⟨⟨0, rfl⟩, trivial⟩⟩ (fun _ _ _ h => h) ?_
                refine VA.va (i := 3) (listed' := LB 19 15) rfl (op_move rfl (ltn rfl)) rfl (by kernel_rfl) (by kernel_rfl) (by kernel_rfl) (by kernel_rfl) ⟨trivial, trivial, ⟨⟨0, rfl⟩, trivial⟩⟩ (fun _ _ _ h => h) ?_
                refine VA.oneC (i := 4) (listed' := LB 19 31) (by kernel_rfl) rfl (o_call_b0 FO13 (tarryref06_Heap.ok k r1036 v1040 false hA115305) rfl rfl (ltn rfl) (All_of (.cons (.inr (.inl ⟨_, List.mem_of_getElem? (i := 0) rfl, rfl⟩)) .nil)) (by rintro _ _ _ ⟨rfl, rfl, rfl⟩; rfl)) rfl (by kernel_rfl) ?_
                rintro _ _ _ ⟨rfl, rfl, rfl⟩
                refine ⟨⟨trivial, trivial, ⟨⟨0, rfl⟩, trivial⟩⟩, ?_⟩
                refine VA.va (i := 5) (listed' := LB 19 63) rfl (op_pick rfl rfl (ltn rfl)) rfl (by kernel_rfl) (by kernel_rfl) (by kernel_rfl) (by kernel_rfl) ⟨trivial, trivial, ⟨⟨0, rfl⟩, trivial⟩⟩ (fun _ _ _ h => h) ?_
                refine VA.va (i := 6) (listed' := LB 19 127) rfl (op_move rfl (ltn rfl)) rfl (by kernel_rfl) (by kernel_rfl) (by kernel_rfl) (by kernel_rfl) ⟨trivial, trivial, ⟨⟨0, rfl⟩, trivial⟩⟩ (fun _ _ _ h => h) ?_
                refine VA.un (i := 7) (listed' := LB 19 255) rfl rfl rfl (ltn rfl) (by kernel_rfl) (by kernel_rfl) (by kernel_rfl) (by kernel_rfl) ⟨trivial, trivial, ⟨⟨0, rfl⟩, trivial⟩⟩ (fun _ _ _ h => h) ?_
                refine VA.un (i := 8) (listed' := LB 19 511) rfl rfl rfl (ltn rfl) (by kernel_rfl) (by kernel_rfl) (by kernel_rfl) (by kernel_rfl) ⟨trivial, trivial, ⟨⟨0, rfl⟩, trivial⟩⟩ (fun _ _ _ h => h) ?_
                refine VA.un (i := 9) (listed' := LB 19 1023) rfl rfl rfl (ltn rfl) (by kernel_rfl) (by kernel_rfl) (by kernel_rfl) (by kernel_rfl) ⟨trivial, trivial, ⟨⟨0, rfl⟩, trivial⟩⟩ (fun _ _ _ h => h) ?_
                refine VA.un (i := 10) (listed' := LB 19 2047) rfl rfl rfl (ltn rfl) (by kernel_rfl) (by kernel_rfl) (by kernel_rfl) (by kernel_rfl) ⟨trivial, trivial, ⟨⟨0, rfl⟩, trivial⟩⟩ (fun _ _ _ h => h) ?_
                refine VA.un (i := 11) (listed' := LB 19 4095) rfl rfl rfl (ltn rfl) (by kernel_rfl) (by kernel_rfl) (by kernel_rfl) (by kernel_rfl) ⟨trivial, trivial, ⟨⟨0, rfl⟩, trivial⟩⟩ (fun _ _ _ h => h) ?_
                refine VA.un (i := 12) (listed' := LB 19 8191) rfl rfl rfl (ltn rfl) (by kernel_rfl) (by kernel_rfl) (by kernel_rfl) (by kernel_rfl) ⟨trivial, trivial, ⟨⟨0, rfl⟩, trivial⟩⟩ (fun _ _ _ h => h) ?_
                refine VA.un (i := 13) (listed' := LB 19 16383) rfl rfl rfl (ltn rfl) (by kernel_rfl) (by kernel_rfl) (by kernel_rfl) (by kernel_rfl) ⟨trivial, trivial, ⟨⟨0, rfl⟩, trivial⟩⟩ (fun _ _ _ h => h) ?_
                refine VA.un (i := 14) (listed' := LB 19 32767) rfl rfl rfl (ltn rfl) (by kernel_rfl) (by kernel_rfl) (by kernel_rfl) (by kernel_rfl) ⟨trivial, trivial, ⟨⟨0, rfl⟩, trivial⟩⟩ (fun _ _ _ h => h) ?_
                refine VA.un (i := 15) (listed' := LB 19 65535) rfl rfl rfl (ltn rfl) (by kernel_rfl) (by kernel_rfl) (by kernel_rfl) (by kernel_rfl) ⟨trivial, trivial, ⟨⟨0, rfl⟩, trivial⟩⟩ (fun _ _ _ h => h) ?_
                refine VA.un (i := 16) (listed' := LB 19 131071) rfl rfl rfl (ltn rfl) (by kernel_rfl) (by kernel_rfl) (by kernel_rfl) (by kernel_rfl) ⟨trivial, trivial, ⟨⟨0, rfl⟩, trivial⟩⟩ (fun _ _ _ h => h) ?_
                refine VA.va (i := 17) (listed' := LB 19 262143) rfl (op_pick rfl rfl (ltn rfl)) rfl (by kernel_rfl) (by kernel_rfl) (by kernel_rfl) (by kernel_rfl) ⟨trivial, trivial, ⟨⟨0, rfl⟩, trivial⟩⟩ (fun _ _ _ h => h) ?_
                refine VA.va (i := 18) (listed' := LB 19 524287) rfl (op_assign rfl (ltn rfl)) rfl (by kernel_rfl) (by kernel_rfl) (by kernel_rfl) (by kernel_rfl) ⟨trivial, trivial, ⟨⟨0, rfl⟩, trivial⟩⟩ (fun _ _ _ h => h) ?_
                refine VA.done (by kernel_rfl) ?_
                exact VN.meet0  [] [] trivial ⟨rfl, ⟨rfl, trivial⟩, trivial, rfl, by decide, rfl, by decide⟩
              intro _
              refine VC.ret ?_
              cases h
          · rw [if_neg c115303] at h
            obtain rfl : b115302 = false := hb115302.symm.trans (beq_eq_false_iff_ne.2 c115303)
            refine VC.join0 (⟨126, [(4, .bool false)], [], [], []⟩) (True) ?_ ?_
            · refine VC.draw ⟨0, [], [], [], []⟩ (by kernel_rfl) rfl (by kernel_rfl) (n := 19) (listed := LB 19 0) ?_
              refine VA.va (i := 0) (listed' := LB 19 1) rfl (op_move rfl (ltn rfl)) rfl (by kernel_rfl) (by kernel_rfl) (by kernel_rfl) (by kernel_rfl) ⟨trivial, trivial, trivial⟩ (fun _ _ _ h => h) ?_
              refine VA.va (i := 1) (listed' := LB 19 3) rfl (op_cmp rfl rfl (congrArg some hb115302) (ltn rfl)) rfl (by kernel_rfl) (by kernel_rfl) (by kernel_rfl) (by kernel_rfl) ⟨trivial, trivial, trivial⟩ (fun _ _ _ h => h) ?_
              refine VA.va (i := 2) (listed' := LB 19 7) rfl (op_move rfl (ltn rfl)) rfl (by kernel_rfl) (by kernel_rfl) (by kernel_rfl) (by kernel_rfl) ⟨trivial, trivial, trivial⟩ (fun _ _ _ h => h) ?_
              refine VA.un (i := 3) (listed' := LB 19 15) rfl rfl rfl (ltn rfl) (by kernel_rfl) (by kernel_rfl) (by kernel_rfl) (by kernel_rfl) ⟨trivial, trivial, trivial⟩ (fun _ _ _ h => h) ?_
              refine VA.un (i := 4) (listed' := LB 19 31) rfl rfl rfl (ltn rfl) (by kernel_rfl) (by kernel_rfl) (by kernel_rfl) (by kernel_rfl) ⟨trivial, trivial, trivial⟩ (fun _ _ _ h => h) ?_
              refine VA.va (i := 5) (listed' := LB 19 63) rfl (op_pick rfl rfl (ltn rfl)) rfl (by kernel_rfl) (by kernel_rfl) (by kernel_rfl) (by kernel_rfl) ⟨trivial, trivial, trivial⟩ (fun _ _ _ h => h) ?_
              refine VA.va (i := 6) (listed' := LB 19 127) rfl (op_move rfl (ltn rfl)) rfl (by kernel_rfl) (by kernel_rfl) (by kernel_rfl) (by kernel_rfl) ⟨trivial, trivial, trivial⟩ (fun _ _ _ h => h) ?_
              refine VA.un (i := 7) (listed' := LB 19 255) rfl rfl rfl (ltn rfl) (by kernel_rfl) (by kernel_rfl) (by kernel_rfl) (by kernel_rfl) ⟨trivial, trivial, trivial⟩ (fun _ _ _ h => h) ?_
              refine VA.un (i := 8) (listed' := LB 19 511) rfl rfl rfl (ltn rfl) (by kernel_rfl) (by kernel_rfl) (by kernel_rfl) (by kernel_rfl) ⟨trivial, trivial, trivial⟩ (fun _ _ _ h => h) ?_
              refine VA.un (i := 9) (listed' := LB 19 1023) rfl rfl rfl (ltn rfl) (by kernel_rfl) (by kernel_rfl) (by kernel_rfl) (by kernel_rfl) ⟨trivial, trivial, trivial⟩ (fun _ _ _ h => h) ?_
              refine VA.un (i := 10) (listed' := LB 19 2047) rfl rfl rfl (ltn rfl) (by kernel_rfl) (by kernel_rfl) (by kernel_rfl) (by kernel_rfl) ⟨trivial, trivial, trivial⟩ (fun _ _ _ h => h) ?_
              refine VA.un (i := 11) (listed' := LB 19 4095) rfl rfl rfl (ltn rfl) (by kernel_rfl) (by kernel_rfl) (by kernel_rfl) (by kernel_rfl) ⟨trivial, trivial, trivial⟩ (fun _ _ _ h => h) ?_
              refine VA.un (i := 12) (listed' := LB 19 8191) rfl rfl rfl (ltn rfl) (by kernel_rfl) (by kernel_rfl) (by kernel_rfl) (by kernel_rfl) ⟨trivial, trivial, trivial⟩ (fun _ _ _ h => h) ?_
              refine VA.un (i := 13) (listed' := LB 19 16383) rfl rfl rfl (ltn rfl) (by kernel_rfl) (by kernel_rfl) (by kernel_rfl) (by kernel_rfl) ⟨trivial, trivial, trivial⟩ (fun _ _ _ h => h) ?_
              refine VA.un (i := 14) (listed' := LB 19 32767) rfl rfl rfl (ltn rfl) (by kernel_rfl) (by kernel_rfl) (by kernel_rfl) (by kernel_rfl) ⟨trivial, trivial, trivial⟩ (fun _ _ _ h => h) ?_
              refine VA.un (i := 15) (listed' := LB 19 65535) rfl rfl rfl (ltn rfl) (by kernel_rfl) (by kernel_rfl) (by kernel_rfl) (by kernel_rfl) ⟨trivial, trivial, trivial⟩ (fun _ _ _ h => h) ?_
              refine VA.un (i := 16) (listed' := LB 19 131071) rfl rfl rfl (ltn rfl) (by kernel_rfl) (by kernel_rfl) (by kernel_rfl) (by kernel_rfl) ⟨trivial, trivial, trivial⟩ (fun _ _ _ h => h) ?_
              refine VA.va (i := 17) (listed' := LB 19 262143) rfl (op_pick rfl rfl (ltn rfl)) rfl (by kernel_rfl) (by kernel_rfl) (by kernel_rfl) (by kernel_rfl) ⟨trivial, trivial, trivial⟩ (fun _ _ _ h => h) ?_
              refine VA.va (i := 18) (listed' := LB 19 524287) rfl (op_assign rfl (ltn rfl)) rfl (by kernel_rfl) (by kernel_rfl) (by kernel_rfl) (by kernel_rfl) ⟨trivial, trivial, trivial⟩ (fun _ _ _ h => h) ?_
              refine VA.done (by kernel_rfl) ?_
              exact VN.meet0  [] [] trivial ⟨rfl, ⟨rfl, trivial⟩, trivial, rfl, by decide, rfl, by decide⟩
            intro _
            refine VC.ret ?_
            cases h
      · rw [if_neg c115285] at h
        obtain rfl := Bool.eq_false_iff.2 c115285
        refine VL.va (op_not rfl rfl (ltn rfl)) rfl ?_
        refine VL.done ?_
        refine VN.then ?_
        refine VC.cond_t rfl ?_
        refine VC.seq ?_
        refine VC.region ?_
        refine VL.va (op_move rfl (ltn rfl)) rfl ?_
        refine VL.letter ((t1037 == 1)) fun b115330 hb115330 => ?_
        refine VL.va (op_cmp rfl rfl (congrArg some hb115330) (ltn rfl)) rfl ?_
        refine VL.va (op_move rfl (ltn rfl)) rfl ?_
        by_cases c115331 : t1037 = 1
        · rw [if_pos c115331] at h
          obtain rfl : b115330 = true := hb115330.symm.trans (beq_iff_eq.2 c115331)
          refine VL.va (op_move rfl (ltn rfl)) rfl ?_
          refine VL.va (op_len_own (m := r1036.length) 0 lenm Try.underlying22 rfl rfl (ltn rfl)) rfl ?_
          refine VL.letter (((r1036.length : Int) == 0)) fun b115332 hb115332 => ?_
          refine VL.va (op_cmp rfl rfl (congrArg some hb115332) (ltn rfl)) rfl ?_
          refine VL.va (op_pick rfl rfl (ltn rfl)) rfl ?_
          refine VL.va (op_assign rfl (ltn rfl)) rfl ?_
          refine VL.done ?_
          refine VN.then ?_
          refine VC.ret ?_
          refine VR.then ?_
          obtain rfl := Option.some.inj h
          subst hb115332
          exact VR.fn (rs := [.tmp 4]) [] [] [] rfl (.tmp rfl .nil) ⟨rfl, rfl, rfl⟩ trivial rfl (by decide)
        · rw [if_neg c115331] at h
          obtain rfl : b115330 = false := hb115330.symm.trans (beq_eq_false_iff_ne.2 c115331)
          refine VL.un rfl rfl (ltn rfl) ?_
          refine VL.un rfl rfl (ltn rfl) ?_
          refine VL.un rfl rfl (ltn rfl) ?_
          refine VL.va (op_pick rfl rfl (ltn rfl)) rfl ?_
          refine VL.va (op_assign rfl (ltn rfl)) rfl ?_
          refine VL.done ?_
          refine VN.then ?_
          refine VC.ret ?_
          refine VR.then ?_
          cases h
  · rw [if_neg c112115] at h
    obtain rfl := Bool.eq_false_iff.2 c112115
    refine VL.va (op_not rfl rfl (ltn rfl)) rfl ?_
    refine VL.done ?_
    refine VN.then ?_
    refine VC.cond_t rfl ?_
    refine VC.seq ?_
    refine VC.region ?_
    refine VL.va (op_assign rfl (ltn rfl)) rfl ?_
    refine VL.done ?_
    refine VN.then ?_
    refine VC.ret ?_
    refine VR.then ?_
    cases h

end Go.Proofs.Ythgoagnennjagaa.PQueueGoes
