/- Written by a program of this repo: what the program's functions do, each as a Lean function, shown of the loaded code; or a statement's row over that; no condition of its own. -/
import Derived.Test.YtmcfgahjchkgaaaPTimerSetsx4
namespace Go.Proofs.Ytmcfgahjchkgaaa.PTimerSets
open Go Go.RowKit Go.Proofs.YtmcfgahjchkgaaaV
set_option linter.unusedVariables false
set_option linter.unusedSimpArgs false

set_option maxHeartbeats 4000000 in
set_option maxRecDepth 100000 in
theorem tarryref10_Set.ok (k : Nat) (l0 : List S23) (a1_0 : Int) (a1_1 : Int) (a1_2 : Int) (v0 : Value) (r1 : List S23) (h : tarryref10_Set.f k l0 a1_0 a1_1 a1_2 = some r1) :
    VCalls Try.prog 18 [v0, .agg #[.int .i64 a1_0, .int .i64 a1_1, .int .i64 a1_2]] [.row v0 3 (l0.map enc23)] (fun v G own => ∃ w0 : Value, v = w0 ∧ G = [] ∧ own = [(w0, 24, 3, r1.map enc23)]) := by
  refine VCalls.intro Try.func18 rfl (len rfl) fun E hC => ?_
  unfold tarryref10_Set.f at h
  refine VC.seq ?_
  refine VC.region ?_
  refine VL.sG (o_box rfl (.agg (.c rfl (.c rfl (.c rfl .nil)))) (ltn rfl)) rfl ?_
  intro g3985
  refine VL.va (op_assign rfl (ltn rfl)) rfl ?_
  refine VL.done ?_
  refine VN.then ?_
  refine VC.seq ?_
  refine VC.region ?_
  refine VL.sG (o_buildSlice (vals := []) (cells := #[]) (es := List.map enc23 ([] : List S23)) Try.underlying22 TI24 Z24 rfl (by decide) (by decide) (by kernel_rfl) (by kernel_rfl) rfl (flat_map enc23_ok _) (ltn rfl)) rfl ?_
  intro v3987
  refine VL.va (op_assign rfl (ltn rfl)) rfl ?_
  refine VL.done ?_
  refine VN.then ?_
  refine VC.seq ?_
  refine VC.region ?_
  refine VL.va (op_assign rfl (ltn rfl)) rfl ?_
  refine VL.done ?_
  refine VN.then ?_
  refine VC.seq ?_
  refine VC.seq ?_
  refine VC.region ?_
  refine VL.va (op_move rfl (ltn rfl)) rfl ?_
  refine VL.va (op_fieldAddr FI24_1 rfl (add_at _ _ _) (ltn rfl)) rfl ?_
  refine VL.va (op_load 0 1 rfl rfl TI3 rfl (by decide) (ltn rfl)) rfl ?_
  refine VL.va (op_fieldAddr FI24_2 rfl (add_at _ _ _) (ltn rfl)) rfl ?_
  refine VL.va (op_load 0 1 rfl rfl TI3 rfl (by decide) (ltn rfl)) rfl ?_
  replace h := Option.bind_eq_some_iff.1 h
  obtain ⟨r4250, hA4251, h⟩ := h
  refine VL.sC (o_call0 FO15 (tarryref10_Clear.ok k l0 a1_1 a1_2 v0 r4250 hA4251) rfl rfl (ltn rfl) (All_of (.cons (List.mem_of_getElem? (i := 0) rfl) .nil))) rfl ?_
  rintro v4253 _ _ ⟨_, rfl, rfl, rfl⟩
  refine VL.va (op_len_own (m := r4250.length) 0 lenm Try.underlying22 rfl rfl (ltn rfl)) rfl ?_
  refine VL.va (op_move rfl (ltn rfl)) rfl ?_
  refine VL.done ?_
  refine VN.then ?_
  refine VC.block ?_
  refine VC.loop4 (fun (v4326 : Value) (l4327 : List S23) (q4328 : Bool) (i4329 : Int) => ⟨44, [(3, .pointer (some ⟨g3985, 0, none⟩)), (4, .slice none 0 0), (5, v4326), (6, .bool q4328), (15, v4253), (16, .int .i64 (r4250.length : Int)), (17, .int .i64 i4329)], [], [(g3985, 24, [.int .i64 a1_0, .int .i64 a1_1, .int .i64 a1_2])], [(v4326, 24, 3, l4327.map enc23), (v4253, 24, 3, r4250.map enc23)]⟩) (fun (ml1 : Nat) (v4326 : Value) (l4327 : List S23) (q4328 : Bool) (i4329 : Int) => tarryref10_Set.l1 k a1_0 a1_1 a1_2 r4250 ml1 l4327 q4328 i4329 = some r1) k v3987 ([] : List S23) false 0 [0] [1, 0] h ⟨rfl, ⟨rfl, rfl, rfl, rfl, rfl, rfl, rfl, trivial⟩, trivial, rfl, by decide, rfl, by decide⟩ (by intros; simp [tarryref10_Set.l1]) ?_
  clear h
  intro ml1 ihl1 v4326 l4327 q4328 i4329 h
  simp only [tarryref10_Set.l1] at h
  refine VC.seq ?_
  refine VC.region ?_
  refine VL.letter (decide (i4329 < (r4250.length : Int))) fun b4421 hb4421 => ?_
  refine VL.va (op_cmp rfl rfl (congrArg some hb4421) (ltn rfl)) rfl ?_
  refine VL.done ?_
  refine VN.then ?_
  refine VC.seq ?_
  by_cases c4437 : i4329 < (r4250.length : Int)
  · rw [if_pos c4437] at h
    obtain rfl : b4421 = true := hb4421.symm.trans (decide_eq_true c4437)
    refine VC.cond_t rfl ?_
    refine VC.skip ?_
    refine VN.then ?_
    refine VC.seq ?_
    refine VC.block ?_
    refine VC.seq ?_
    refine VC.region ?_
    by_cases c4482 : 0 ≤ i4329
    · rw [if_pos c4482] at h
      replace h := Option.bind_eq_some_iff.1 h
      obtain ⟨x4483, hx4483, h⟩ := h
      refine VL.openR (m := r4250.length) 1 lenm rfl (pos_get hx4483) ?_
      rintro g4484 n4485 rfl
      refine VL.va (op_indexAddr Try.underlying22 TI24 rfl rfl c4482 (lt_get c4482 hx4483) (add_zero_at _ _) (ltn rfl)) rfl ?_
      refine VL.va (op_load_own (o := 0) 1 i4329.toNat 3 rfl rfl (get_map hx4483) TI24 rfl (fun h => absurd h (by decide)) (ltn rfl)) rfl ?_
      refine VL.sG (o_alloc (us := [.int .i64 0, .int .i64 0, .int .i64 0]) Z24 rfl (ltn rfl)) rfl ?_
      intro g4486
      refine VL.step1 (o_store 0 3 rfl rfl rfl TI24 (.agg (.c rfl (.c rfl (.c rfl .nil)))) rfl (len rfl)) rfl ?_
      refine VL.done ?_
      refine VN.then ?_
      refine VC.seq ?_
      refine VC.seq ?_
      refine VC.region ?_
      refine VL.va (op_move rfl (ltn rfl)) rfl ?_
      by_cases c4502 : q4328 = true
      · rw [if_pos c4502] at h
        obtain rfl := c4502
        refine VL.va (op_not rfl rfl (ltn rfl)) rfl ?_
        refine VL.va (op_move rfl (ltn rfl)) rfl ?_
        refine VL.un rfl rfl (ltn rfl) ?_
        refine VL.un rfl rfl (ltn rfl) ?_
        refine VL.un rfl rfl (ltn rfl) ?_
        refine VL.va (op_pick rfl rfl (ltn rfl)) rfl ?_
        refine VL.done ?_
        refine VN.then ?_
        refine VC.cond_f rfl ?_
        refine VC.skip ?_
        refine VN.then ?_
        refine VC.region ?_
        refine VL.va (op_move rfl (ltn rfl)) rfl ?_
        refine VL.va (op_load 0 3 rfl rfl TI24 rfl (fun h => absurd h (by decide)) (ltn rfl)) rfl ?_
        refine VL.sG (o_buildSlice (vals := [(0, .agg #[.int .i64 x4483.f0, .int .i64 x4483.f1, .int .i64 x4483.f2])]) (cells := #[.int .i64 x4483.f0, .int .i64 x4483.f1, .int .i64 x4483.f2]) (es := List.map enc23 ([x4483] : List S23)) Try.underlying22 TI24 Z24 rfl (by decide) (by decide) (by kernel_rfl) (by kernel_rfl) rfl (flat_map enc23_ok _) (ltn rfl)) rfl ?_
        intro v4504
        by_cases c4505 : (l4327.length + ([x4483] : List S23).length) * 24 ≤ 140737488355328
        · rw [if_pos c4505] at h
          refine VL.sG (o_append 1 appm Try.underlying22 EI24 rfl rfl rfl (.inr ⟨0, _, rfl⟩) (bndm c4505) (ltn rfl)) rfl ?_
          intro v4506
          refine VL.va (op_assign rfl (ltn rfl)) rfl ?_
          refine VL.done ?_
          refine VN.block ?_
          refine VN.then ?_
          refine VC.region ?_
          refine VL.va (op_ari64 rfl rfl rfl (ltn rfl)) rfl ?_
          refine VL.va (op_move rfl (ltn rfl)) rfl ?_
          refine VL.done ?_
          refine VN.again [1] [1, 2] (ihl1 v4506 (l4327 ++ ([x4483] : List S23)) true (wrap64 (i4329 + 1)) h) ⟨rfl, ⟨rfl, rfl, rfl, rfl, rfl, rfl, rfl, trivial⟩, trivial, rfl, by decide, rfl, by decide⟩
        · rw [if_neg c4505] at h; cases h
      · rw [if_neg c4502] at h
        obtain rfl := Bool.eq_false_iff.2 c4502
        refine VL.va (op_not rfl rfl (ltn rfl)) rfl ?_
        refine VL.va (op_move rfl (ltn rfl)) rfl ?_
        refine VL.va (op_load 1 3 rfl rfl TI24 rfl (fun h => absurd h (by decide)) (ltn rfl)) rfl ?_
        refine VL.va (op_load 0 3 rfl rfl TI24 rfl (fun h => absurd h (by decide)) (ltn rfl)) rfl ?_
        replace h := Option.bind_eq_some_iff.1 h
        obtain ⟨t4508, hA4509, h⟩ := h
        refine VL.sC (o_call0 FO28 (tarryref10_Less.ok a1_0 a1_1 a1_2 x4483.f0 x4483.f1 x4483.f2 t4508 hA4509) rfl rfl (ltn rfl) (All_of .nil)) rfl ?_
        rintro _ _ _ ⟨rfl, rfl, rfl⟩
        refine VL.va (op_pick rfl rfl (ltn rfl)) rfl ?_
        refine VL.done ?_
        refine VN.then ?_
        by_cases c4510 : t4508 = true
        · rw [if_pos c4510] at h
          obtain rfl := c4510
          refine VC.cond_t rfl ?_
          refine VC.seq ?_
          refine VC.region ?_
          refine VL.va (op_move rfl (ltn rfl)) rfl ?_
          refine VL.va (op_load 1 3 rfl rfl TI24 rfl (fun h => absurd h (by decide)) (ltn rfl)) rfl ?_
          refine VL.sG (o_buildSlice (vals := [(0, .agg #[.int .i64 a1_0, .int .i64 a1_1, .int .i64 a1_2])]) (cells := #[.int .i64 a1_0, .int .i64 a1_1, .int .i64 a1_2]) (es := List.map enc23 ([(⟨a1_0, a1_1, a1_2⟩ : S23)] : List S23)) Try.underlying22 TI24 Z24 rfl (by decide) (by decide) (by kernel_rfl) (by kernel_rfl) rfl (flat_map enc23_ok _) (ltn rfl)) rfl ?_
          intro v4512
          by_cases c4513 : (l4327.length + ([(⟨a1_0, a1_1, a1_2⟩ : S23)] : List S23).length) * 24 ≤ 140737488355328
          · rw [if_pos c4513] at h
            refine VL.sG (o_append 1 appm Try.underlying22 EI24 rfl rfl rfl (.inr ⟨0, _, rfl⟩) (bndm c4513) (ltn rfl)) rfl ?_
            intro v4514
            refine VL.va (op_assign rfl (ltn rfl)) rfl ?_
            refine VL.done ?_
            refine VN.then ?_
            refine VC.region ?_
            refine VL.va (op_assign rfl (ltn rfl)) rfl ?_
            refine VL.done ?_
            refine VN.then ?_
            refine VC.region ?_
            refine VL.va (op_move rfl (ltn rfl)) rfl ?_
            refine VL.va (op_load 0 3 rfl rfl TI24 rfl (fun h => absurd h (by decide)) (ltn rfl)) rfl ?_
            refine VL.sG (o_buildSlice (vals := [(0, .agg #[.int .i64 x4483.f0, .int .i64 x4483.f1, .int .i64 x4483.f2])]) (cells := #[.int .i64 x4483.f0, .int .i64 x4483.f1, .int .i64 x4483.f2]) (es := List.map enc23 ([x4483] : List S23)) Try.underlying22 TI24 Z24 rfl (by decide) (by decide) (by kernel_rfl) (by kernel_rfl) rfl (flat_map enc23_ok _) (ltn rfl)) rfl ?_
            intro v4517
            by_cases c4518 : ((l4327 ++ ([(⟨a1_0, a1_1, a1_2⟩ : S23)] : List S23)).length + ([x4483] : List S23).length) * 24 ≤ 140737488355328
            · rw [if_pos c4518] at h
              refine VL.sG (o_append 2 appm Try.underlying22 EI24 rfl rfl rfl (.inr ⟨0, _, rfl⟩) (bndm c4518) (ltn rfl)) rfl ?_
              intro v4519
              refine VL.va (op_assign rfl (ltn rfl)) rfl ?_
              refine VL.done ?_
              refine VN.block ?_
              refine VN.then ?_
              refine VC.region ?_
              refine VL.va (op_ari64 rfl rfl rfl (ltn rfl)) rfl ?_
              refine VL.va (op_move rfl (ltn rfl)) rfl ?_
              refine VL.done ?_
              refine VN.again [1] [2, 3] (ihl1 v4519 ((l4327 ++ ([(⟨a1_0, a1_1, a1_2⟩ : S23)] : List S23)) ++ ([x4483] : List S23)) true (wrap64 (i4329 + 1)) h) ⟨rfl, ⟨rfl, rfl, rfl, rfl, rfl, rfl, rfl, trivial⟩, trivial, rfl, by decide, rfl, by decide⟩
            · rw [if_neg c4518] at h; cases h
          · rw [if_neg c4513] at h; cases h
        · rw [if_neg c4510] at h
          obtain rfl := Bool.eq_false_iff.2 c4510
          refine VC.cond_f rfl ?_
          refine VC.skip ?_
          refine VN.then ?_
          refine VC.region ?_
          refine VL.va (op_move rfl (ltn rfl)) rfl ?_
          refine VL.va (op_load 0 3 rfl rfl TI24 rfl (fun h => absurd h (by decide)) (ltn rfl)) rfl ?_
          refine VL.sG (o_buildSlice (vals := [(0, .agg #[.int .i64 x4483.f0, .int .i64 x4483.f1, .int .i64 x4483.f2])]) (cells := #[.int .i64 x4483.f0, .int .i64 x4483.f1, .int .i64 x4483.f2]) (es := List.map enc23 ([x4483] : List S23)) Try.underlying22 TI24 Z24 rfl (by decide) (by decide) (by kernel_rfl) (by kernel_rfl) rfl (flat_map enc23_ok _) (ltn rfl)) rfl ?_
          intro v4522
          by_cases c4523 : (l4327.length + ([x4483] : List S23).length) * 24 ≤ 140737488355328
          · rw [if_pos c4523] at h
            refine VL.sG (o_append 1 appm Try.underlying22 EI24 rfl rfl rfl (.inr ⟨0, _, rfl⟩) (bndm c4523) (ltn rfl)) rfl ?_
            intro v4524
            refine VL.va (op_assign rfl (ltn rfl)) rfl ?_
            refine VL.done ?_
            refine VN.block ?_
            refine VN.then ?_
            refine VC.region ?_
            refine VL.va (op_ari64 rfl rfl rfl (ltn rfl)) rfl ?_
            refine VL.va (op_move rfl (ltn rfl)) rfl ?_
            refine VL.done ?_
            refine VN.again [1] [1, 2] (ihl1 v4524 (l4327 ++ ([x4483] : List S23)) false (wrap64 (i4329 + 1)) h) ⟨rfl, ⟨rfl, rfl, rfl, rfl, rfl, rfl, rfl, trivial⟩, trivial, rfl, by decide, rfl, by decide⟩
          · rw [if_neg c4523] at h; cases h
    · rw [if_neg c4482] at h; cases h
  · rw [if_neg c4437] at h
    obtain rfl : b4421 = false := hb4421.symm.trans (decide_eq_false c4437)
    refine VC.cond_f rfl ?_
    refine VC.exit ?_
    refine VX.then ?_
    refine VX.then ?_
    refine VX.hit ?_
    refine VN.then ?_
    refine VC.seq ?_
    refine VC.seq ?_
    refine VC.region ?_
    refine VL.va (op_move rfl (ltn rfl)) rfl ?_
    by_cases c4534 : q4328 = true
    · rw [if_pos c4534] at h
      obtain rfl := c4534
      refine VL.va (op_not rfl rfl (ltn rfl)) rfl ?_
      refine VL.done ?_
      refine VN.then ?_
      refine VC.cond_f rfl ?_
      refine VC.skip ?_
      refine VN.then ?_
      refine VC.seq ?_
      refine VC.region ?_
      refine VL.va (op_move rfl (ltn rfl)) rfl ?_
      refine VL.va (op_assign rfl (ltn rfl)) rfl ?_
      refine VL.done ?_
      refine VN.then ?_
      refine VC.ret ?_
      obtain rfl := Option.some.inj h
      exact VR.fn (rs := [.tmp 4]) [] [(v4326, 24, 3, l4327.map enc23)] [0] rfl (.tmp rfl .nil) ⟨v4326, rfl, rfl, rfl⟩ trivial rfl (by decide)
    · rw [if_neg c4534] at h
      obtain rfl := Bool.eq_false_iff.2 c4534
      refine VL.va (op_not rfl rfl (ltn rfl)) rfl ?_
      refine VL.done ?_
      refine VN.then ?_
      refine VC.cond_t rfl ?_
      refine VC.region ?_
      refine VL.va (op_move rfl (ltn rfl)) rfl ?_
      refine VL.va (op_load 0 3 rfl rfl TI24 rfl (fun h => absurd h (by decide)) (ltn rfl)) rfl ?_
      refine VL.sG (o_buildSlice (vals := [(0, .agg #[.int .i64 a1_0, .int .i64 a1_1, .int .i64 a1_2])]) (cells := #[.int .i64 a1_0, .int .i64 a1_1, .int .i64 a1_2]) (es := List.map enc23 ([(⟨a1_0, a1_1, a1_2⟩ : S23)] : List S23)) Try.underlying22 TI24 Z24 rfl (by decide) (by decide) (by kernel_rfl) (by kernel_rfl) rfl (flat_map enc23_ok _) (ltn rfl)) rfl ?_
      intro v4536
      by_cases c4537 : (l4327.length + ([(⟨a1_0, a1_1, a1_2⟩ : S23)] : List S23).length) * 24 ≤ 140737488355328
      · rw [if_pos c4537] at h
        refine VL.sG (o_append 1 appm Try.underlying22 EI24 rfl rfl rfl (.inr ⟨0, _, rfl⟩) (bndm c4537) (ltn rfl)) rfl ?_
        intro v4538
        refine VL.va (op_assign rfl (ltn rfl)) rfl ?_
        refine VL.done ?_
        refine VN.then ?_
        refine VC.seq ?_
        refine VC.region ?_
        refine VL.va (op_move rfl (ltn rfl)) rfl ?_
        refine VL.va (op_assign rfl (ltn rfl)) rfl ?_
        refine VL.done ?_
        refine VN.then ?_
        refine VC.ret ?_
        obtain rfl := Option.some.inj h
        exact VR.fn (rs := [.tmp 4]) [] [(v4538, 24, 3, (l4327 ++ ([(⟨a1_0, a1_1, a1_2⟩ : S23)] : List S23)).map enc23)] [1] rfl (.tmp rfl .nil) ⟨v4538, rfl, rfl, rfl⟩ trivial rfl (by decide)
      · rw [if_neg c4537] at h; cases h

end Go.Proofs.Ytmcfgahjchkgaaa.PTimerSets
