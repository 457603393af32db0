/- Written by a program of this repo: what the program's functions do, each as a Lean function, shown of the loaded code; or a statement's row over that; no condition of its own. -/
import Derived.Test.YtdofmkbffffbpaaPWaitsFairx6
namespace Go.Proofs.Ytdofmkbffffbpaa.PWaitsFair
open Go Go.RowKit Go.Proofs.YtdofmkbffffbpaaV
set_option linter.unusedVariables false
set_option linter.unusedSimpArgs false

set_option maxHeartbeats 4000000 in
set_option maxRecDepth 100000 in
theorem tarrylaw09_WaitsFair.ok (k : Nat) (l0 : List S25) (a1 : Int) (a2 : Int) (v0 : Value) (r1 : Bool) (h : tarrylaw09_WaitsFair.f k l0 a1 a2 = some r1) :
    VCalls Try.prog 4 [v0, .int .i64 a1, .int .i64 a2] [.row v0 4 (l0.map enc25)] (fun v G own => v = .bool r1 ∧ G = [] ∧ own = []) := by
  refine VCalls.intro Try.func4 rfl (len rfl) fun E hC hW hD hU => ?_
  unfold tarrylaw09_WaitsFair.f at h
  refine VC.seq ?_
  refine VC.region ?_
  refine VL.va (op_assign rfl (ltn rfl)) rfl ?_
  refine VL.done ?_
  refine VN.then ?_
  refine VC.seq ?_
  refine VC.region ?_
  refine VL.va (op_move rfl (ltn rfl)) rfl ?_
  replace h := Option.bind_eq_some_iff.1 h
  obtain ⟨r133, hA134, h⟩ := h
  refine VL.sC (o_call0 FO7 (tarrylaw09_few.ok k l0 v0 r133 hA134) rfl rfl (ltn rfl) (All_of (.cons (List.mem_of_getElem? (i := 0) rfl) .nil))) rfl ?_
  rintro v136 _ _ ⟨_, rfl, rfl, rfl⟩
  refine VL.va (op_assign rfl (ltn rfl)) rfl ?_
  refine VL.done ?_
  refine VN.then ?_
  refine VC.seq ?_
  refine VC.region ?_
  refine VL.va (op_move rfl (ltn rfl)) rfl ?_
  refine VL.va (op_move rfl (ltn rfl)) rfl ?_
  refine VL.va (op_move rfl (ltn rfl)) rfl ?_
  replace h := Option.bind_eq_some_iff.1 h
  obtain ⟨⟨r2383, t2384⟩, hA2385, h⟩ := h
  dsimp only at h
  refine VL.sC (o_call_b0 FO20 (waits_Move.ok k r133 a1 a2 v136 r2383 t2384 hA2385) rfl rfl (ltn rfl) (All_of (.cons (.inr (.inl ⟨_, List.mem_of_getElem? (i := 0) rfl, rfl⟩)) .nil)) (by rintro _ _ _ ⟨v2387, rfl, rfl, rfl⟩; rfl)) rfl ?_
  rintro _ _ _ ⟨v2387, rfl, rfl, rfl⟩
  refine VL.va (op_move rfl (ltn rfl)) rfl ?_
  refine VL.va (op_extract rfl rfl (ltn rfl)) rfl ?_
  refine VL.va (op_extract rfl rfl (ltn rfl)) rfl ?_
  refine VL.va (op_assign rfl (ltn rfl)) rfl ?_
  refine VL.va (op_assign rfl (ltn rfl)) rfl ?_
  refine VL.done ?_
  refine VN.then ?_
  refine VC.seq ?_
  refine VC.seq ?_
  refine VC.region ?_
  refine VL.va (op_move rfl (ltn rfl)) rfl ?_
  refine VL.letter ((t2384 != 0)) fun b2617 hb2617 => ?_
  refine VL.va (op_cmp rfl rfl (congrArg some hb2617) (ltn rfl)) rfl ?_
  refine VL.done ?_
  refine VN.then ?_
  by_cases c2618 : t2384 = 0
  · rw [if_pos c2618] at h
    obtain rfl : b2617 = false := hb2617.symm.trans (bne_eq_false_iff_eq.2 c2618)
    refine VC.cond_f rfl ?_
    refine VC.skip ?_
    refine VN.then ?_
    refine VC.seq ?_
    refine VC.region ?_
    refine VL.va (op_move rfl (ltn rfl)) rfl ?_
    refine VL.va (op_move rfl (ltn rfl)) rfl ?_
    replace h := Option.bind_eq_some_iff.1 h
    obtain ⟨⟨t2632, t2633, t2634, t2635, t2636⟩, hA2637, h⟩ := h
    dsimp only at h
    refine VL.sC (o_call_b0 FO21 (waits_Find.ok k r2383 a1 v2387 t2632 t2633 t2634 t2635 t2636 hA2637) rfl rfl (ltn rfl) (All_of (.cons (.inr (.inl ⟨_, List.mem_of_getElem? (i := 0) rfl, rfl⟩)) .nil)) (by rintro _ _ _ ⟨rfl, rfl, rfl⟩; rfl)) rfl ?_
    rintro _ _ _ ⟨rfl, rfl, rfl⟩
    refine VL.va (op_move rfl (ltn rfl)) rfl ?_
    refine VL.va (op_extract rfl rfl (ltn rfl)) rfl ?_
    refine VL.va (op_extract rfl rfl (ltn rfl)) rfl ?_
    refine VL.sG (o_alloc Z26 ZL26 (ltn rfl)) rfl ?_
    intro g2638
    refine VL.step1 (o_store 0 4 rfl rfl rfl TI26 (.agg (.of rfl)) rfl (len rfl)) rfl ?_
    refine VL.va (op_assign rfl (ltn rfl)) rfl ?_
    refine VL.done ?_
    refine VN.then ?_
    refine VC.seq ?_
    refine VC.region ?_
    refine VL.va (op_move rfl (ltn rfl)) rfl ?_
    refine VL.va (op_fieldAddr FI26_0 rfl (add_at _ _ _) (ltn rfl)) rfl ?_
    refine VL.va (op_load 0 1 rfl rfl TI9 rfl (by decide) (ltn rfl)) rfl ?_
    replace h := Option.bind_eq_some_iff.1 h
    obtain ⟨⟨r2639, t2640⟩, hA2641, h⟩ := h
    dsimp only at h
    refine VL.sC (o_call_b0 FO22 (waits_Of.ok k r2383 t2632 v2387 r2639 t2640 hA2641) rfl rfl (ltn rfl) (All_of (.cons (.inr (.inl ⟨_, List.mem_of_getElem? (i := 0) rfl, rfl⟩)) .nil)) (by rintro _ _ _ ⟨v2643, rfl, rfl, rfl⟩; rfl)) rfl ?_
    rintro _ _ _ ⟨v2643, rfl, rfl, rfl⟩
    refine VL.va (op_move rfl (ltn rfl)) rfl ?_
    refine VL.va (op_extract rfl rfl (ltn rfl)) rfl ?_
    refine VL.va (op_extract rfl rfl (ltn rfl)) rfl ?_
    refine VL.va (op_assign rfl (ltn rfl)) rfl ?_
    refine VL.va (op_assign rfl (ltn rfl)) rfl ?_
    refine VL.done ?_
    refine VN.then ?_
    refine VC.seq ?_
    refine VC.seq ?_
    refine VC.region ?_
    refine VL.va (op_move rfl (ltn rfl)) rfl ?_
    refine VL.letter ((t2636 != 0)) fun b2671 hb2671 => ?_
    refine VL.va (op_cmp rfl rfl (congrArg some hb2671) (ltn rfl)) rfl ?_
    refine VL.va (op_move rfl (ltn rfl)) rfl ?_
    by_cases c2672 : t2636 = 0
    · rw [if_pos c2672] at h
      obtain rfl : b2671 = false := hb2671.symm.trans (bne_eq_false_iff_eq.2 c2672)
      refine VL.va (op_move rfl (ltn rfl)) rfl ?_
      refine VL.letter ((t2640 != 0)) fun b2673 hb2673 => ?_
      refine VL.va (op_cmp rfl rfl (congrArg some hb2673) (ltn rfl)) rfl ?_
      refine VL.va (op_pick rfl rfl (ltn rfl)) rfl ?_
      refine VL.va (op_move rfl (ltn rfl)) rfl ?_
      by_cases c2674 : t2640 = 0
      · rw [if_pos c2674] at h
        obtain rfl : b2673 = false := hb2673.symm.trans (bne_eq_false_iff_eq.2 c2674)
        refine VL.va (op_fieldAddr FI26_1 rfl (add_at _ _ _) (ltn rfl)) rfl ?_
        refine VL.va (op_fieldAddr FI24_0 rfl (add_at _ _ _) (ltn rfl)) rfl ?_
        refine VL.va (op_load 0 1 rfl rfl TI3 rfl (by decide) (ltn rfl)) rfl ?_
        refine VL.va (op_move rfl (ltn rfl)) rfl ?_
        refine VL.letter ((t2633 != a2)) fun b2675 hb2675 => ?_
        refine VL.va (op_cmp rfl rfl (congrArg some hb2675) (ltn rfl)) rfl ?_
        refine VL.va (op_pick rfl rfl (ltn rfl)) rfl ?_
        refine VL.va (op_move rfl (ltn rfl)) rfl ?_
        by_cases c2676 : t2633 = a2
        · rw [if_pos c2676] at h
          obtain rfl : b2675 = false := hb2675.symm.trans (bne_eq_false_iff_eq.2 c2676)
          replace h := Option.bind_eq_some_iff.1 h
          obtain ⟨t2677, hA2678, h⟩ := h
          refine VL.sC (o_call0 FO13 (tarrylaw09_alive.ok k t2677 hA2678) rfl rfl (ltn rfl) (All_of .nil)) rfl ?_
          rintro _ _ _ ⟨rfl, rfl, rfl⟩
          by_cases c2679 : t2677 = true
          · rw [if_pos c2679] at h
            obtain rfl := c2679
            refine VL.va (op_not rfl rfl (ltn rfl)) rfl ?_
            refine VL.va (op_pick rfl rfl (ltn rfl)) rfl ?_
            refine VL.done ?_
            refine VN.then ?_
            refine VC.cond_f rfl ?_
            refine VC.skip ?_
            refine VN.then ?_
            refine VC.seq ?_
            refine VC.region ?_
            refine VL.va (op_assign rfl (ltn rfl)) rfl ?_
            refine VL.done ?_
            refine VN.then ?_
            refine VC.seq ?_
            refine VC.seq ?_
            refine VC.region ?_
            refine VL.va (op_move rfl (ltn rfl)) rfl ?_
            refine VL.va (op_len_own (m := r2639.length) 0 lenm Try.underlying42 rfl rfl (ltn rfl)) rfl ?_
            refine VL.va (op_move rfl (ltn rfl)) rfl ?_
            refine VL.done ?_
            refine VN.then ?_
            refine VC.block ?_
            refine VC.loop2 (fun (q3026 : Bool) (i3027 : Int) => ⟨110, [(1, .int .i64 a1), (2, .int .i64 a2), (6, .bool false), (9, .pointer (some ⟨g2638, 0, none⟩)), (11, v2643), (13, .bool q3026), (64, v2643), (65, .int .i64 (r2639.length : Int)), (66, .int .i64 i3027)], [], [(g2638, 26, [.string t2632, .int .i64 t2633, .int .i64 t2634, .int .i64 t2635])], [(v2643, 24, 3, r2639.map enc23)]⟩) (fun (ml1 : Nat) (q3026 : Bool) (i3027 : Int) => tarrylaw09_WaitsFair.l1 k a1 a2 r2639 t2634 ml1 q3026 i3027 = some r1) k false 0 [0] [0] h ⟨rfl, ⟨rfl, rfl, rfl, rfl, rfl, rfl, rfl, rfl, rfl, trivial⟩, trivial, rfl, by decide, rfl, by decide⟩ (by intros; simp [tarrylaw09_WaitsFair.l1]) ?_
            clear h
            intro ml1 ihl1 q3026 i3027 h
            simp only [tarrylaw09_WaitsFair.l1] at h
            refine VC.seq ?_
            refine VC.region ?_
            refine VL.letter (decide (i3027 < (r2639.length : Int))) fun b3149 hb3149 => ?_
            refine VL.va (op_cmp rfl rfl (congrArg some hb3149) (ltn rfl)) rfl ?_
            refine VL.done ?_
            refine VN.then ?_
            refine VC.seq ?_
            by_cases c3151 : i3027 < (r2639.length : Int)
            · rw [if_pos c3151] at h
              obtain rfl : b3149 = true := hb3149.symm.trans (decide_eq_true c3151)
              refine VC.cond_t rfl ?_
              refine VC.skip ?_
              refine VN.then ?_
              refine VC.seq ?_
              refine VC.block ?_
              refine VC.seq ?_
              refine VC.region ?_
              refine VL.va (op_move rfl (ltn rfl)) rfl ?_
              by_cases c3211 : 0 ≤ i3027
              · rw [if_pos c3211] at h
                replace h := Option.bind_eq_some_iff.1 h
                obtain ⟨x3212, hx3212, h⟩ := h
                refine VL.openR (m := r2639.length) 0 lenm rfl (pos_get hx3212) ?_
                rintro g3213 n3214 rfl
                refine VL.va (op_indexAddr Try.underlying42 TI24 rfl rfl c3211 (lt_get c3211 hx3212) (add_zero_at _ _) (ltn rfl)) rfl ?_
                refine VL.va (op_load_own (sz := 3) (o := 0) 0 i3027.toNat 3 rfl rfl (get_map hx3212) TI24 rfl (fun h => absurd h (by decide)) (ltn rfl)) rfl ?_
                refine VL.sG (o_alloc Z24 ZL24 (ltn rfl)) rfl ?_
                intro g3215
                refine VL.va (op_assign rfl (ltn rfl)) rfl ?_
                refine VL.step1 (o_store 0 3 rfl rfl rfl TI24 (.agg (.of rfl)) rfl (len rfl)) rfl ?_
                refine VL.done ?_
                refine VN.then ?_
                refine VC.seq ?_
                refine VC.letter (decide (i3027 > 0)) fun b3223 hb3223 => ?_
                by_cases c3224 : i3027 > 0
                · rw [if_pos c3224] at h
                  obtain rfl : b3223 = true := hb3223.symm.trans (decide_eq_true c3224)
                  by_cases c3225 : 0 ≤ wrap64 (i3027 - 1)
                  · rw [if_pos c3225] at h
                    replace h := Option.bind_eq_some_iff.1 h
                    obtain ⟨x3226, hx3226, h⟩ := h
                    replace h := Option.bind_eq_some_iff.1 h
                    obtain ⟨t3227, hA3228, h⟩ := h
                    by_cases c3229 : t3227 = true
                    · rw [if_pos c3229] at h
                      obtain rfl := c3229
                      refine VC.join0 (⟨110, [(1, .int .i64 a1), (2, .int .i64 a2), (6, .bool false), (9, .pointer (some ⟨g2638, 0, none⟩)), (11, (.slice (some ⟨g3213, 0, none⟩) r2639.length n3214)), (13, .bool q3026), (14, .int .i64 i3027), (15, .pointer (some ⟨g3215, 0, none⟩)), (64, (.slice (some ⟨g3213, 0, none⟩) r2639.length n3214)), (65, .int .i64 (r2639.length : Int)), (66, .int .i64 i3027), (67, .bool true), (68, .int .i64 i3027), (70, .agg #[.int .i64 x3212.f0, .int .i64 x3212.f1, .int .i64 x3212.f2]), (71, .int .i64 i3027), (72, .bool true), (73, .bool true), (74, (.slice (some ⟨g3213, 0, none⟩) r2639.length n3214)), (75, .int .i64 i3027), (76, .int .i64 (wrap64 (i3027 - 1))), (78, .agg #[.int .i64 x3226.f0, .int .i64 x3226.f1, .int .i64 x3226.f2]), (79, .agg #[.int .i64 x3212.f0, .int .i64 x3212.f1, .int .i64 x3212.f2]), (80, .bool true), (81, .bool false), (82, .bool false)], [], [(g3215, 24, [.int .i64 x3212.f0, .int .i64 x3212.f1, .int .i64 x3212.f2]), (g2638, 26, [.string t2632, .int .i64 t2633, .int .i64 t2634, .int .i64 t2635])], [((.slice (some ⟨g3213, 0, none⟩) r2639.length n3214), 24, 3, r2639.map enc23)]⟩) (True) ?_ ?_
                      · refine VC.draw ⟨0, [], [], [(g3215, 24, [.int .i64 x3212.f0, .int .i64 x3212.f1, .int .i64 x3212.f2])], [((.slice (some ⟨g3213, 0, none⟩) r2639.length n3214), 24, 3, r2639.map enc23)]⟩ (by kernel_rfl) rfl (by kernel_rfl) (n := 12) (listed := LB 12 0) ?_
                        refine VA.va (i := 0) (listed' := LB 12 1) rfl (op_move rfl (ltn rfl)) rfl (by kernel_rfl) (by kernel_rfl) (by kernel_rfl) (by kernel_rfl) ⟨trivial, ⟨⟨0, rfl⟩, trivial⟩, ⟨⟨0, rfl⟩, trivial⟩⟩ (fun _ _ _ h => h) ?_
                        refine VA.va (i := 1) (listed' := LB 12 3) rfl (op_cmp rfl rfl (congrArg some hb3223) (ltn rfl)) rfl (by kernel_rfl) (by kernel_rfl) (by kernel_rfl) (by kernel_rfl) ⟨trivial, ⟨⟨0, rfl⟩, trivial⟩, ⟨⟨0, rfl⟩, trivial⟩⟩ (fun _ _ _ h => h) ?_
                        refine VA.va (i := 2) (listed' := LB 12 7) rfl (op_move rfl (ltn rfl)) rfl (by kernel_rfl) (by kernel_rfl) (by kernel_rfl) (by kernel_rfl) ⟨trivial, ⟨⟨0, rfl⟩, trivial⟩, ⟨⟨0, rfl⟩, trivial⟩⟩ (fun _ _ _ h => h) ?_
                        refine VA.va (i := 3) (listed' := LB 12 15) rfl (op_move rfl (ltn rfl)) rfl (by kernel_rfl) (by kernel_rfl) (by kernel_rfl) (by kernel_rfl) ⟨trivial, ⟨⟨0, rfl⟩, trivial⟩, ⟨⟨0, rfl⟩, trivial⟩⟩ (fun _ _ _ h => h) ?_
                        refine VA.va (i := 4) (listed' := LB 12 31) rfl (op_move rfl (ltn rfl)) rfl (by kernel_rfl) (by kernel_rfl) (by kernel_rfl) (by kernel_rfl) ⟨trivial, ⟨⟨0, rfl⟩, trivial⟩, ⟨⟨0, rfl⟩, trivial⟩⟩ (fun _ _ _ h => h) ?_
                        refine VA.va (i := 5) (listed' := LB 12 63) rfl (op_ari64 rfl rfl rfl (ltn rfl)) rfl (by kernel_rfl) (by kernel_rfl) (by kernel_rfl) (by kernel_rfl) ⟨trivial, ⟨⟨0, rfl⟩, trivial⟩, ⟨⟨0, rfl⟩, trivial⟩⟩ (fun _ _ _ h => h) ?_
                        refine VA.va (i := 6) (listed' := LB 12 127) rfl (op_indexAddr Try.underlying42 TI24 rfl rfl c3225 (lt_get c3225 hx3226) (add_zero_at _ _) (ltn rfl)) rfl (by kernel_rfl) (by kernel_rfl) (by kernel_rfl) (by kernel_rfl) ⟨trivial, ⟨⟨0, rfl⟩, trivial⟩, ⟨⟨0, rfl⟩, trivial⟩⟩ (fun _ _ _ h => h) ?_
                        refine VA.va (i := 7) (listed' := LB 12 255) rfl (op_load_own (sz := 3) (o := 0) 0 (wrap64 (i3027 - 1)).toNat 3 rfl rfl (get_map hx3226) TI24 rfl (fun h => absurd h (by decide)) (ltn rfl)) rfl (by kernel_rfl) (by kernel_rfl) (by kernel_rfl) (by kernel_rfl) ⟨trivial, ⟨⟨0, rfl⟩, trivial⟩, ⟨⟨0, rfl⟩, trivial⟩⟩ (fun _ _ _ h => h) ?_
                        refine VA.va (i := 8) (listed' := LB 12 511) rfl (op_load 0 3 rfl rfl TI24 rfl (fun h => absurd h (by decide)) (ltn rfl)) rfl (by kernel_rfl) (by kernel_rfl) (by kernel_rfl) (by kernel_rfl) ⟨trivial, ⟨⟨0, rfl⟩, trivial⟩, ⟨⟨0, rfl⟩, trivial⟩⟩ (fun _ _ _ h => h) ?_
                        refine VA.oneC (i := 9) (listed' := LB 12 1023) (by kernel_rfl) rfl (o_call0 FO23 (queue_Less.ok k x3226.f0 x3226.f1 x3226.f2 x3212.f0 x3212.f1 x3212.f2 true hA3228) rfl rfl (ltn rfl) (All_of .nil)) rfl (by kernel_rfl) ?_
                        rintro _ _ _ ⟨rfl, rfl, rfl⟩
                        refine ⟨⟨trivial, ⟨⟨0, rfl⟩, trivial⟩, ⟨⟨0, rfl⟩, trivial⟩⟩, ?_⟩
                        refine VA.va (i := 10) (listed' := LB 12 2047) rfl (op_not rfl rfl (ltn rfl)) rfl (by kernel_rfl) (by kernel_rfl) (by kernel_rfl) (by kernel_rfl) ⟨trivial, ⟨⟨0, rfl⟩, trivial⟩, ⟨⟨0, rfl⟩, trivial⟩⟩ (fun _ _ _ h => h) ?_
                        refine VA.va (i := 11) (listed' := LB 12 4095) rfl (op_pick rfl rfl (ltn rfl)) rfl (by kernel_rfl) (by kernel_rfl) (by kernel_rfl) (by kernel_rfl) ⟨trivial, ⟨⟨0, rfl⟩, trivial⟩, ⟨⟨0, rfl⟩, trivial⟩⟩ (fun _ _ _ h => h) ?_
                        refine VA.done (by kernel_rfl) ?_
                        exact VN.meet0  [0, 1] [0] trivial ⟨rfl, ⟨rfl, rfl, rfl, rfl, rfl, rfl, rfl, rfl, rfl, rfl, rfl, rfl, rfl, rfl, rfl, rfl, rfl, rfl, rfl, rfl, rfl, rfl, rfl, rfl, rfl, trivial⟩, trivial, rfl, by decide, rfl, by decide⟩
                      intro _
                      refine VC.cond_f rfl ?_
                      refine VC.skip ?_
                      refine VN.then ?_
                      refine VC.seq ?_
                      refine VC.seq ?_
                      refine VC.region ?_
                      refine VL.va (op_fieldAddr FI24_2 rfl (add_at _ _ _) (ltn rfl)) rfl ?_
                      refine VL.va (op_load 0 1 rfl rfl TI3 rfl (by decide) (ltn rfl)) rfl ?_
                      refine VL.va (op_move rfl (ltn rfl)) rfl ?_
                      refine VL.letter ((x3212.f2 == a1)) fun b3232 hb3232 => ?_
                      refine VL.va (op_cmp rfl rfl (congrArg some hb3232) (ltn rfl)) rfl ?_
                      refine VL.done ?_
                      refine VN.then ?_
                      by_cases c3233 : x3212.f2 = a1
                      · rw [if_pos c3233] at h
                        obtain rfl : b3232 = true := hb3232.symm.trans (beq_iff_eq.2 c3233)
                        refine VC.cond_t rfl ?_
                        refine VC.seq ?_
                        refine VC.region ?_
                        refine VL.va (op_assign rfl (ltn rfl)) rfl ?_
                        refine VL.done ?_
                        refine VN.then ?_
                        refine VC.exit ?_
                        refine VX.then ?_
                        refine VX.hit ?_
                        refine VN.then ?_
                        refine VC.region ?_
                        refine VL.va (op_ari64 rfl rfl rfl (ltn rfl)) rfl ?_
                        refine VL.va (op_move rfl (ltn rfl)) rfl ?_
                        refine VL.done ?_
                        refine VN.again [1] [0] (ihl1 true (wrap64 (i3027 + 1)) h) ⟨rfl, ⟨rfl, rfl, rfl, rfl, rfl, rfl, rfl, rfl, rfl, trivial⟩, trivial, rfl, by decide, rfl, by decide⟩
                      · rw [if_neg c3233] at h
                        obtain rfl : b3232 = false := hb3232.symm.trans (beq_eq_false_iff_ne.2 c3233)
                        refine VC.cond_f rfl ?_
                        refine VC.skip ?_
                        refine VN.then ?_
                        refine VC.seq ?_
                        refine VC.region ?_
                        refine VL.va (op_fieldAddr FI24_0 rfl (add_at _ _ _) (ltn rfl)) rfl ?_
                        refine VL.va (op_load 0 1 rfl rfl TI3 rfl (by decide) (ltn rfl)) rfl ?_
                        refine VL.va (op_move rfl (ltn rfl)) rfl ?_
                        refine VL.letter (decide (x3212.f0 > a2)) fun b3239 hb3239 => ?_
                        refine VL.va (op_cmp rfl rfl (congrArg some hb3239) (ltn rfl)) rfl ?_
                        refine VL.va (op_move rfl (ltn rfl)) rfl ?_
                        by_cases c3240 : x3212.f0 > a2
                        · rw [if_pos c3240] at h
                          obtain rfl : b3239 = true := hb3239.symm.trans (decide_eq_true c3240)
                          refine VL.un rfl rfl (ltn rfl) ?_
                          refine VL.un rfl rfl (ltn rfl) ?_
                          refine VL.un rfl rfl (ltn rfl) ?_
                          refine VL.un rfl rfl (ltn rfl) ?_
                          refine VL.un rfl rfl (ltn rfl) ?_
                          refine VL.un rfl rfl (ltn rfl) ?_
                          refine VL.un rfl rfl (ltn rfl) ?_
                          refine VL.un rfl rfl (ltn rfl) ?_
                          refine VL.un rfl rfl (ltn rfl) ?_
                          refine VL.un rfl rfl (ltn rfl) ?_
                          refine VL.un rfl rfl (ltn rfl) ?_
                          refine VL.un rfl rfl (ltn rfl) ?_
                          refine VL.va (op_pick rfl rfl (ltn rfl)) rfl ?_
                          refine VL.va (op_assign rfl (ltn rfl)) rfl ?_
                          refine VL.done ?_
                          refine VN.then ?_
                          refine VC.seq ?_
                          refine VC.region ?_
                          refine VL.va (op_move rfl (ltn rfl)) rfl ?_
                          refine VL.va (op_move rfl (ltn rfl)) rfl ?_
                          refine VL.letter ((!(true == q3026))) fun b3241 hb3241 => ?_
                          refine VL.va (op_eqb Try.underlying4 rfl rfl (congrArg some hb3241) (ltn rfl)) rfl ?_
                          refine VL.done ?_
                          refine VN.then ?_
                          by_cases c3242 : true = q3026
                          · rw [if_pos c3242] at h
                            obtain rfl : b3241 = false := hb3241.symm.trans (by rw [← c3242]; simp)
                            refine VC.cond_f rfl ?_
                            refine VC.skip ?_
                            refine VN.block ?_
                            refine VN.then ?_
                            refine VC.region ?_
                            refine VL.va (op_ari64 rfl rfl rfl (ltn rfl)) rfl ?_
                            refine VL.va (op_move rfl (ltn rfl)) rfl ?_
                            refine VL.done ?_
                            refine VN.again [1] [0] (ihl1 q3026 (wrap64 (i3027 + 1)) h) ⟨rfl, ⟨rfl, rfl, rfl, rfl, rfl, rfl, rfl, rfl, rfl, trivial⟩, trivial, rfl, by decide, rfl, by decide⟩
                          · rw [if_neg c3242] at h
                            obtain rfl : b3241 = true := hb3241.symm.trans (by simpa using c3242)
                            refine VC.cond_t rfl ?_
                            refine VC.seq ?_
                            refine VC.region ?_
                            refine VL.va (op_assign rfl (ltn rfl)) rfl ?_
                            refine VL.done ?_
                            refine VN.then ?_
                            refine VC.ret ?_
                            refine VR.block ?_
                            refine VR.then ?_
                            refine VR.then ?_
                            refine VR.block ?_
                            refine VR.then ?_
                            cases h
                        · rw [if_neg c3240] at h
                          obtain rfl : b3239 = false := hb3239.symm.trans (decide_eq_false c3240)
                          refine VL.va (op_fieldAddr FI24_0 rfl (add_at _ _ _) (ltn rfl)) rfl ?_
                          refine VL.va (op_load 0 1 rfl rfl TI3 rfl (by decide) (ltn rfl)) rfl ?_
                          refine VL.va (op_move rfl (ltn rfl)) rfl ?_
                          refine VL.letter ((x3212.f0 == a2)) fun b3243 hb3243 => ?_
                          refine VL.va (op_cmp rfl rfl (congrArg some hb3243) (ltn rfl)) rfl ?_
                          refine VL.va (op_move rfl (ltn rfl)) rfl ?_
                          by_cases c3244 : x3212.f0 = a2
                          · rw [if_pos c3244] at h
                            obtain rfl : b3243 = true := hb3243.symm.trans (beq_iff_eq.2 c3244)
                            refine VL.va (op_fieldAddr FI24_1 rfl (add_at _ _ _) (ltn rfl)) rfl ?_
                            refine VL.va (op_load 0 1 rfl rfl TI3 rfl (by decide) (ltn rfl)) rfl ?_
                            refine VL.va (op_fieldAddr FI26_1 rfl (add_at _ _ _) (ltn rfl)) rfl ?_
                            refine VL.va (op_fieldAddr FI24_1 rfl (add_at _ _ _) (ltn rfl)) rfl ?_
                            refine VL.va (op_load 1 1 rfl rfl TI3 rfl (by decide) (ltn rfl)) rfl ?_
                            refine VL.letter (decide (x3212.f1 > t2634)) fun b3245 hb3245 => ?_
                            refine VL.va (op_cmp rfl rfl (congrArg some hb3245) (ltn rfl)) rfl ?_
                            refine VL.va (op_pick rfl rfl (ltn rfl)) rfl ?_
                            refine VL.va (op_pick rfl rfl (ltn rfl)) rfl ?_
                            refine VL.va (op_assign rfl (ltn rfl)) rfl ?_
                            refine VL.done ?_
                            refine VN.then ?_
                            refine VC.seq ?_
                            refine VC.region ?_
                            refine VL.va (op_move rfl (ltn rfl)) rfl ?_
                            refine VL.va (op_move rfl (ltn rfl)) rfl ?_
                            subst hb3245
                            refine VL.letter ((!((decide (x3212.f1 > t2634)) == q3026))) fun b3246 hb3246 => ?_
                            refine VL.va (op_eqb Try.underlying4 rfl rfl (congrArg some hb3246) (ltn rfl)) rfl ?_
                            refine VL.done ?_
                            refine VN.then ?_
                            by_cases c3247 : (decide (x3212.f1 > t2634)) = q3026
                            · rw [if_pos c3247] at h
                              obtain rfl : b3246 = false := hb3246.symm.trans (by rw [c3247]; simp)
                              refine VC.cond_f rfl ?_
                              refine VC.skip ?_
                              refine VN.block ?_
                              refine VN.then ?_
                              refine VC.region ?_
                              refine VL.va (op_ari64 rfl rfl rfl (ltn rfl)) rfl ?_
                              refine VL.va (op_move rfl (ltn rfl)) rfl ?_
                              refine VL.done ?_
                              refine VN.again [1] [0] (ihl1 q3026 (wrap64 (i3027 + 1)) h) ⟨rfl, ⟨rfl, rfl, rfl, rfl, rfl, rfl, rfl, rfl, rfl, trivial⟩, trivial, rfl, by decide, rfl, by decide⟩
                            · rw [if_neg c3247] at h
                              obtain rfl : b3246 = true := hb3246.symm.trans (by simpa using c3247)
                              refine VC.cond_t rfl ?_
                              refine VC.seq ?_
                              refine VC.region ?_
                              refine VL.va (op_assign rfl (ltn rfl)) rfl ?_
                              refine VL.done ?_
                              refine VN.then ?_
                              refine VC.ret ?_
                              refine VR.block ?_
                              refine VR.then ?_
                              refine VR.then ?_
                              refine VR.block ?_
                              refine VR.then ?_
                              cases h
                          · rw [if_neg c3244] at h
                            obtain rfl : b3243 = false := hb3243.symm.trans (beq_eq_false_iff_ne.2 c3244)
                            refine VL.un rfl rfl (ltn rfl) ?_
                            refine VL.un rfl rfl (ltn rfl) ?_
                            refine VL.un rfl rfl (ltn rfl) ?_
                            refine VL.un rfl rfl (ltn rfl) ?_
                            refine VL.un rfl rfl (ltn rfl) ?_
                            refine VL.un rfl rfl (ltn rfl) ?_
                            refine VL.va (op_pick rfl rfl (ltn rfl)) rfl ?_
                            refine VL.va (op_pick rfl rfl (ltn rfl)) rfl ?_
                            refine VL.va (op_assign rfl (ltn rfl)) rfl ?_
                            refine VL.done ?_
                            refine VN.then ?_
                            refine VC.seq ?_
                            refine VC.region ?_
                            refine VL.va (op_move rfl (ltn rfl)) rfl ?_
                            refine VL.va (op_move rfl (ltn rfl)) rfl ?_
                            refine VL.letter ((!(false == q3026))) fun b3248 hb3248 => ?_
                            refine VL.va (op_eqb Try.underlying4 rfl rfl (congrArg some hb3248) (ltn rfl)) rfl ?_
                            refine VL.done ?_
                            refine VN.then ?_
                            by_cases c3249 : false = q3026
                            · rw [if_pos c3249] at h
                              obtain rfl : b3248 = false := hb3248.symm.trans (by rw [← c3249]; simp)
                              refine VC.cond_f rfl ?_
                              refine VC.skip ?_
                              refine VN.block ?_
                              refine VN.then ?_
                              refine VC.region ?_
                              refine VL.va (op_ari64 rfl rfl rfl (ltn rfl)) rfl ?_
                              refine VL.va (op_move rfl (ltn rfl)) rfl ?_
                              refine VL.done ?_
                              refine VN.again [1] [0] (ihl1 q3026 (wrap64 (i3027 + 1)) h) ⟨rfl, ⟨rfl, rfl, rfl, rfl, rfl, rfl, rfl, rfl, rfl, trivial⟩, trivial, rfl, by decide, rfl, by decide⟩
                            · rw [if_neg c3249] at h
                              obtain rfl : b3248 = true := hb3248.symm.trans (by simpa using c3249)
                              refine VC.cond_t rfl ?_
                              refine VC.seq ?_
                              refine VC.region ?_
                              refine VL.va (op_assign rfl (ltn rfl)) rfl ?_
                              refine VL.done ?_
                              refine VN.then ?_
                              refine VC.ret ?_
                              refine VR.block ?_
                              refine VR.then ?_
                              refine VR.then ?_
                              refine VR.block ?_
                              refine VR.then ?_
                              cases h
                    · rw [if_neg c3229] at h
                      obtain rfl := Bool.eq_false_iff.2 c3229
                      refine VC.join0 (⟨110, [(1, .int .i64 a1), (2, .int .i64 a2), (6, .bool false), (9, .pointer (some ⟨g2638, 0, none⟩)), (11, (.slice (some ⟨g3213, 0, none⟩) r2639.length n3214)), (13, .bool q3026), (14, .int .i64 i3027), (15, .pointer (some ⟨g3215, 0, none⟩)), (64, (.slice (some ⟨g3213, 0, none⟩) r2639.length n3214)), (65, .int .i64 (r2639.length : Int)), (66, .int .i64 i3027), (67, .bool true), (68, .int .i64 i3027), (70, .agg #[.int .i64 x3212.f0, .int .i64 x3212.f1, .int .i64 x3212.f2]), (71, .int .i64 i3027), (72, .bool true), (73, .bool true), (74, (.slice (some ⟨g3213, 0, none⟩) r2639.length n3214)), (75, .int .i64 i3027), (76, .int .i64 (wrap64 (i3027 - 1))), (78, .agg #[.int .i64 x3226.f0, .int .i64 x3226.f1, .int .i64 x3226.f2]), (79, .agg #[.int .i64 x3212.f0, .int .i64 x3212.f1, .int .i64 x3212.f2]), (80, .bool false), (81, .bool true), (82, .bool true)], [], [(g3215, 24, [.int .i64 x3212.f0, .int .i64 x3212.f1, .int .i64 x3212.f2]), (g2638, 26, [.string t2632, .int .i64 t2633, .int .i64 t2634, .int .i64 t2635])], [((.slice (some ⟨g3213, 0, none⟩) r2639.length n3214), 24, 3, r2639.map enc23)]⟩) (True) ?_ ?_
                      · refine VC.draw ⟨0, [], [], [(g3215, 24, [.int .i64 x3212.f0, .int .i64 x3212.f1, .int .i64 x3212.f2])], [((.slice (some ⟨g3213, 0, none⟩) r2639.length n3214), 24, 3, r2639.map enc23)]⟩ (by kernel_rfl) rfl (by kernel_rfl) (n := 12) (listed := LB 12 0) ?_
                        refine VA.va (i := 0) (listed' := LB 12 1) rfl (op_move rfl (ltn rfl)) rfl (by kernel_rfl) (by kernel_rfl) (by kernel_rfl) (by kernel_rfl) ⟨trivial, ⟨⟨0, rfl⟩, trivial⟩, ⟨⟨0, rfl⟩, trivial⟩⟩ (fun _ _ _ h => h) ?_
                        refine VA.va (i := 1) (listed' := LB 12 3) rfl (op_cmp rfl rfl (congrArg some hb3223) (ltn rfl)) rfl (by kernel_rfl) (by kernel_rfl) (by kernel_rfl) (by kernel_rfl) ⟨trivial, ⟨⟨0, rfl⟩, trivial⟩, ⟨⟨0, rfl⟩, trivial⟩⟩ (fun _ _ _ h => h) ?_
                        refine VA.va (i := 2) (listed' := LB 12 7) rfl (op_move rfl (ltn rfl)) rfl (by kernel_rfl) (by kernel_rfl) (by kernel_rfl) (by kernel_rfl) ⟨trivial, ⟨⟨0, rfl⟩, trivial⟩, ⟨⟨0, rfl⟩, trivial⟩⟩ (fun _ _ _ h => h) ?_
                        refine VA.va (i := 3) (listed' := LB 12 15) rfl (op_move rfl (ltn rfl)) rfl (by kernel_rfl) (by kernel_rfl) (by kernel_rfl) (by kernel_rfl) ⟨trivial, ⟨⟨0, rfl⟩, trivial⟩, ⟨⟨0, rfl⟩, trivial⟩⟩ (fun _ _ _ h => h) ?_
                        refine VA.va (i := 4) (listed' := LB 12 31) rfl (op_move rfl (ltn rfl)) rfl (by kernel_rfl) (by kernel_rfl) (by kernel_rfl) (by kernel_rfl) ⟨trivial, ⟨⟨0, rfl⟩, trivial⟩, ⟨⟨0, rfl⟩, trivial⟩⟩ (fun _ _ _ h => h) ?_
                        refine VA.va (i := 5) (listed' := LB 12 63) rfl (op_ari64 rfl rfl rfl (ltn rfl)) rfl (by kernel_rfl) (by kernel_rfl) (by kernel_rfl) (by kernel_rfl) ⟨trivial, ⟨⟨0, rfl⟩, trivial⟩, ⟨⟨0, rfl⟩, trivial⟩⟩ (fun _ _ _ h => h) ?_
                        refine VA.va (i := 6) (listed' := LB 12 127) rfl (op_indexAddr Try.underlying42 TI24 rfl rfl c3225 (lt_get c3225 hx3226) (add_zero_at _ _) (ltn rfl)) rfl (by kernel_rfl) (by kernel_rfl) (by kernel_rfl) (by kernel_rfl) ⟨trivial, ⟨⟨0, rfl⟩, trivial⟩, ⟨⟨0, rfl⟩, trivial⟩⟩ (fun _ _ _ h => h) ?_
                        refine VA.va (i := 7) (listed' := LB 12 255) rfl (op_load_own (sz := 3) (o := 0) 0 (wrap64 (i3027 - 1)).toNat 3 rfl rfl (get_map hx3226) TI24 rfl (fun h => absurd h (by decide)) (ltn rfl)) rfl (by kernel_rfl) (by kernel_rfl) (by kernel_rfl) (by kernel_rfl) ⟨trivial, ⟨⟨0, rfl⟩, trivial⟩, ⟨⟨0, rfl⟩, trivial⟩⟩ (fun _ _ _ h => h) ?_
                        refine VA.va (i := 8) (listed' := LB 12 511) rfl (op_load 0 3 rfl rfl TI24 rfl (fun h => absurd h (by decide)) (ltn rfl)) rfl (by kernel_rfl) (by kernel_rfl) (by kernel_rfl) (by kernel_rfl) ⟨trivial, ⟨⟨0, rfl⟩, trivial⟩, ⟨⟨0, rfl⟩, trivial⟩⟩ (fun _ _ _ h => h) ?_
                        refine VA.oneC (i := 9) (listed' := LB 12 1023) (by kernel_rfl) rfl (o_call0 FO23 (queue_Less.ok k x3226.f0 x3226.f1 x3226.f2 x3212.f0 x3212.f1 x3212.f2 false hA3228) rfl rfl (ltn rfl) (All_of .nil)) rfl (by kernel_rfl) ?_
                        rintro _ _ _ ⟨rfl, rfl, rfl⟩
                        refine ⟨⟨trivial, ⟨⟨0, rfl⟩, trivial⟩, ⟨⟨0, rfl⟩, trivial⟩⟩, ?_⟩
                        refine VA.va (i := 10) (listed' := LB 12 2047) rfl (op_not rfl rfl (ltn rfl)) rfl (by kernel_rfl) (by kernel_rfl) (by kernel_rfl) (by kernel_rfl) ⟨trivial, ⟨⟨0, rfl⟩, trivial⟩, ⟨⟨0, rfl⟩, trivial⟩⟩ (fun _ _ _ h => h) ?_
                        refine VA.va (i := 11) (listed' := LB 12 4095) rfl (op_pick rfl rfl (ltn rfl)) rfl (by kernel_rfl) (by kernel_rfl) (by kernel_rfl) (by kernel_rfl) ⟨trivial, ⟨⟨0, rfl⟩, trivial⟩, ⟨⟨0, rfl⟩, trivial⟩⟩ (fun _ _ _ h => h) ?_
                        refine VA.done (by kernel_rfl) ?_
                        exact VN.meet0  [0, 1] [0] trivial ⟨rfl, ⟨rfl, rfl, rfl, rfl, rfl, rfl, rfl, rfl, rfl, rfl, rfl, rfl, rfl, rfl, rfl, rfl, rfl, rfl, rfl, rfl, rfl, rfl, rfl, rfl, rfl, trivial⟩, trivial, rfl, by decide, rfl, by decide⟩
                      intro _
                      refine VC.cond_t rfl ?_
                      refine VC.seq ?_
                      refine VC.region ?_
                      refine VL.va (op_assign rfl (ltn rfl)) rfl ?_
                      refine VL.done ?_
                      refine VN.then ?_
                      refine VC.ret ?_
                      refine VR.then ?_
                      refine VR.block ?_
                      refine VR.then ?_
                      refine VR.then ?_
                      refine VR.block ?_
                      refine VR.then ?_
                      cases h
                  · rw [if_neg c3225] at h; cases h
                · rw [if_neg c3224] at h
                  obtain rfl : b3223 = false := hb3223.symm.trans (decide_eq_false c3224)
                  refine VC.join0 (⟨110, [(1, .int .i64 a1), (2, .int .i64 a2), (6, .bool false), (9, .pointer (some ⟨g2638, 0, none⟩)), (11, (.slice (some ⟨g3213, 0, none⟩) r2639.length n3214)), (13, .bool q3026), (14, .int .i64 i3027), (15, .pointer (some ⟨g3215, 0, none⟩)), (64, (.slice (some ⟨g3213, 0, none⟩) r2639.length n3214)), (65, .int .i64 (r2639.length : Int)), (66, .int .i64 i3027), (67, .bool true), (68, .int .i64 i3027), (70, .agg #[.int .i64 x3212.f0, .int .i64 x3212.f1, .int .i64 x3212.f2]), (71, .int .i64 i3027), (72, .bool false), (73, .bool false), (74, undef), (75, undef), (76, undef), (77, undef), (78, undef), (79, undef), (80, undef), (81, undef), (82, .bool false)], [], [(g3215, 24, [.int .i64 x3212.f0, .int .i64 x3212.f1, .int .i64 x3212.f2]), (g2638, 26, [.string t2632, .int .i64 t2633, .int .i64 t2634, .int .i64 t2635])], [((.slice (some ⟨g3213, 0, none⟩) r2639.length n3214), 24, 3, r2639.map enc23)]⟩) (True) ?_ ?_
                  · refine VC.draw ⟨0, [], [], [], []⟩ (by kernel_rfl) rfl (by kernel_rfl) (n := 12) (listed := LB 12 0) ?_
                    refine VA.va (i := 0) (listed' := LB 12 1) rfl (op_move rfl (ltn rfl)) rfl (by kernel_rfl) (by kernel_rfl) (by kernel_rfl) (by kernel_rfl) ⟨trivial, trivial, trivial⟩ (fun _ _ _ h => h) ?_
                    refine VA.va (i := 1) (listed' := LB 12 3) rfl (op_cmp rfl rfl (congrArg some hb3223) (ltn rfl)) rfl (by kernel_rfl) (by kernel_rfl) (by kernel_rfl) (by kernel_rfl) ⟨trivial, trivial, trivial⟩ (fun _ _ _ h => h) ?_
                    refine VA.va (i := 2) (listed' := LB 12 7) rfl (op_move rfl (ltn rfl)) rfl (by kernel_rfl) (by kernel_rfl) (by kernel_rfl) (by kernel_rfl) ⟨trivial, trivial, trivial⟩ (fun _ _ _ h => h) ?_
                    refine VA.un (i := 3) (listed' := LB 12 15) rfl rfl rfl (ltn rfl) (by kernel_rfl) (by kernel_rfl) (by kernel_rfl) (by kernel_rfl) ⟨trivial, trivial, trivial⟩ (fun _ _ _ h => h) ?_
                    refine VA.un (i := 4) (listed' := LB 12 31) rfl rfl rfl (ltn rfl) (by kernel_rfl) (by kernel_rfl) (by kernel_rfl) (by kernel_rfl) ⟨trivial, trivial, trivial⟩ (fun _ _ _ h => h) ?_
                    refine VA.un (i := 5) (listed' := LB 12 63) rfl rfl rfl (ltn rfl) (by kernel_rfl) (by kernel_rfl) (by kernel_rfl) (by kernel_rfl) ⟨trivial, trivial, trivial⟩ (fun _ _ _ h => h) ?_
                    refine VA.un (i := 6) (listed' := LB 12 127) rfl rfl rfl (ltn rfl) (by kernel_rfl) (by kernel_rfl) (by kernel_rfl) (by kernel_rfl) ⟨trivial, trivial, trivial⟩ (fun _ _ _ h => h) ?_
                    refine VA.un (i := 7) (listed' := LB 12 255) rfl rfl rfl (ltn rfl) (by kernel_rfl) (by kernel_rfl) (by kernel_rfl) (by kernel_rfl) ⟨trivial, trivial, trivial⟩ (fun _ _ _ h => h) ?_
                    refine VA.un (i := 8) (listed' := LB 12 511) rfl rfl rfl (ltn rfl) (by kernel_rfl) (by kernel_rfl) (by kernel_rfl) (by kernel_rfl) ⟨trivial, trivial, trivial⟩ (fun _ _ _ h => h) ?_
                    refine VA.un (i := 9) (listed' := LB 12 1023) rfl rfl rfl (ltn rfl) (by kernel_rfl) (by kernel_rfl) (by kernel_rfl) (by kernel_rfl) ⟨trivial, trivial, trivial⟩ (fun _ _ _ h => h) ?_
                    refine VA.un (i := 10) (listed' := LB 12 2047) rfl rfl rfl (ltn rfl) (by kernel_rfl) (by kernel_rfl) (by kernel_rfl) (by kernel_rfl) ⟨trivial, trivial, trivial⟩ (fun _ _ _ h => h) ?_
                    refine VA.va (i := 11) (listed' := LB 12 4095) rfl (op_pick rfl rfl (ltn rfl)) rfl (by kernel_rfl) (by kernel_rfl) (by kernel_rfl) (by kernel_rfl) ⟨trivial, trivial, trivial⟩ (fun _ _ _ h => h) ?_
                    refine VA.done (by kernel_rfl) ?_
                    exact VN.meet0  [0, 1] [0] trivial ⟨rfl, ⟨rfl, rfl, rfl, rfl, rfl, rfl, rfl, rfl, rfl, rfl, rfl, rfl, rfl, rfl, rfl, rfl, rfl, rfl, rfl, rfl, rfl, rfl, rfl, rfl, rfl, rfl, trivial⟩, trivial, rfl, by decide, rfl, by decide⟩
                  intro _
                  refine VC.cond_f rfl ?_
                  refine VC.skip ?_
                  refine VN.then ?_
                  refine VC.seq ?_
                  refine VC.seq ?_
                  refine VC.region ?_
                  refine VL.va (op_fieldAddr FI24_2 rfl (add_at _ _ _) (ltn rfl)) rfl ?_
                  refine VL.va (op_load 0 1 rfl rfl TI3 rfl (by decide) (ltn rfl)) rfl ?_
                  refine VL.va (op_move rfl (ltn rfl)) rfl ?_
                  refine VL.letter ((x3212.f2 == a1)) fun b3252 hb3252 => ?_
                  refine VL.va (op_cmp rfl rfl (congrArg some hb3252) (ltn rfl)) rfl ?_
                  refine VL.done ?_
                  refine VN.then ?_
                  by_cases c3253 : x3212.f2 = a1
                  · rw [if_pos c3253] at h
                    obtain rfl : b3252 = true := hb3252.symm.trans (beq_iff_eq.2 c3253)
                    refine VC.cond_t rfl ?_
                    refine VC.seq ?_
                    refine VC.region ?_
                    refine VL.va (op_assign rfl (ltn rfl)) rfl ?_
                    refine VL.done ?_
                    refine VN.then ?_
                    refine VC.exit ?_
                    refine VX.then ?_
                    refine VX.hit ?_
                    refine VN.then ?_
                    refine VC.region ?_
                    refine VL.va (op_ari64 rfl rfl rfl (ltn rfl)) rfl ?_
                    refine VL.va (op_move rfl (ltn rfl)) rfl ?_
                    refine VL.done ?_
                    refine VN.again [1] [0] (ihl1 true (wrap64 (i3027 + 1)) h) ⟨rfl, ⟨rfl, rfl, rfl, rfl, rfl, rfl, rfl, rfl, rfl, trivial⟩, trivial, rfl, by decide, rfl, by decide⟩
                  · rw [if_neg c3253] at h
                    obtain rfl : b3252 = false := hb3252.symm.trans (beq_eq_false_iff_ne.2 c3253)
                    refine VC.cond_f rfl ?_
                    refine VC.skip ?_
                    refine VN.then ?_
                    refine VC.seq ?_
                    refine VC.region ?_
                    refine VL.va (op_fieldAddr FI24_0 rfl (add_at _ _ _) (ltn rfl)) rfl ?_
                    refine VL.va (op_load 0 1 rfl rfl TI3 rfl (by decide) (ltn rfl)) rfl ?_
                    refine VL.va (op_move rfl (ltn rfl)) rfl ?_
                    refine VL.letter (decide (x3212.f0 > a2)) fun b3259 hb3259 => ?_
                    refine VL.va (op_cmp rfl rfl (congrArg some hb3259) (ltn rfl)) rfl ?_
                    refine VL.va (op_move rfl (ltn rfl)) rfl ?_
                    by_cases c3260 : x3212.f0 > a2
                    · rw [if_pos c3260] at h
                      obtain rfl : b3259 = true := hb3259.symm.trans (decide_eq_true c3260)
                      refine VL.un rfl rfl (ltn rfl) ?_
                      refine VL.un rfl rfl (ltn rfl) ?_
                      refine VL.un rfl rfl (ltn rfl) ?_
                      refine VL.un rfl rfl (ltn rfl) ?_
                      refine VL.un rfl rfl (ltn rfl) ?_
                      refine VL.un rfl rfl (ltn rfl) ?_
                      refine VL.un rfl rfl (ltn rfl) ?_
                      refine VL.un rfl rfl (ltn rfl) ?_
                      refine VL.un rfl rfl (ltn rfl) ?_
                      refine VL.un rfl rfl (ltn rfl) ?_
                      refine VL.un rfl rfl (ltn rfl) ?_
                      refine VL.un rfl rfl (ltn rfl) ?_
                      refine VL.va (op_pick rfl rfl (ltn rfl)) rfl ?_
                      refine VL.va (op_assign rfl (ltn rfl)) rfl ?_
                      refine VL.done ?_
                      refine VN.then ?_
                      refine VC.seq ?_
                      refine VC.region ?_
                      refine VL.va (op_move rfl (ltn rfl)) rfl ?_
                      refine VL.va (op_move rfl (ltn rfl)) rfl ?_
                      refine VL.letter ((!(true == q3026))) fun b3261 hb3261 => ?_
                      refine VL.va (op_eqb Try.underlying4 rfl rfl (congrArg some hb3261) (ltn rfl)) rfl ?_
                      refine VL.done ?_
                      refine VN.then ?_
                      by_cases c3262 : true = q3026
                      · rw [if_pos c3262] at h
                        obtain rfl : b3261 = false := hb3261.symm.trans (by rw [← c3262]; simp)
                        refine VC.cond_f rfl ?_
                        refine VC.skip ?_
                        refine VN.block ?_
                        refine VN.then ?_
                        refine VC.region ?_
                        refine VL.va (op_ari64 rfl rfl rfl (ltn rfl)) rfl ?_
                        refine VL.va (op_move rfl (ltn rfl)) rfl ?_
                        refine VL.done ?_
                        refine VN.again [1] [0] (ihl1 q3026 (wrap64 (i3027 + 1)) h) ⟨rfl, ⟨rfl, rfl, rfl, rfl, rfl, rfl, rfl, rfl, rfl, trivial⟩, trivial, rfl, by decide, rfl, by decide⟩
                      · rw [if_neg c3262] at h
                        obtain rfl : b3261 = true := hb3261.symm.trans (by simpa using c3262)
                        refine VC.cond_t rfl ?_
                        refine VC.seq ?_
                        refine VC.region ?_
                        refine VL.va (op_assign rfl (ltn rfl)) rfl ?_
                        refine VL.done ?_
                        refine VN.then ?_
                        refine VC.ret ?_
                        refine VR.block ?_
                        refine VR.then ?_
                        refine VR.then ?_
                        refine VR.block ?_
                        refine VR.then ?_
                        cases h
                    · rw [if_neg c3260] at h
                      obtain rfl : b3259 = false := hb3259.symm.trans (decide_eq_false c3260)
                      refine VL.va (op_fieldAddr FI24_0 rfl (add_at _ _ _) (ltn rfl)) rfl ?_
                      refine VL.va (op_load 0 1 rfl rfl TI3 rfl (by decide) (ltn rfl)) rfl ?_
                      refine VL.va (op_move rfl (ltn rfl)) rfl ?_
                      refine VL.letter ((x3212.f0 == a2)) fun b3263 hb3263 => ?_
                      refine VL.va (op_cmp rfl rfl (congrArg some hb3263) (ltn rfl)) rfl ?_
                      refine VL.va (op_move rfl (ltn rfl)) rfl ?_
                      by_cases c3264 : x3212.f0 = a2
                      · rw [if_pos c3264] at h
                        obtain rfl : b3263 = true := hb3263.symm.trans (beq_iff_eq.2 c3264)
                        refine VL.va (op_fieldAddr FI24_1 rfl (add_at _ _ _) (ltn rfl)) rfl ?_
                        refine VL.va (op_load 0 1 rfl rfl TI3 rfl (by decide) (ltn rfl)) rfl ?_
                        refine VL.va (op_fieldAddr FI26_1 rfl (add_at _ _ _) (ltn rfl)) rfl ?_
                        refine VL.va (op_fieldAddr FI24_1 rfl (add_at _ _ _) (ltn rfl)) rfl ?_
                        refine VL.va (op_load 1 1 rfl rfl TI3 rfl (by decide) (ltn rfl)) rfl ?_
                        refine VL.letter (decide (x3212.f1 > t2634)) fun b3265 hb3265 => ?_
                        refine VL.va (op_cmp rfl rfl (congrArg some hb3265) (ltn rfl)) rfl ?_
                        refine VL.va (op_pick rfl rfl (ltn rfl)) rfl ?_
                        refine VL.va (op_pick rfl rfl (ltn rfl)) rfl ?_
                        refine VL.va (op_assign rfl (ltn rfl)) rfl ?_
                        refine VL.done ?_
                        refine VN.then ?_
                        refine VC.seq ?_
                        refine VC.region ?_
                        refine VL.va (op_move rfl (ltn rfl)) rfl ?_
                        refine VL.va (op_move rfl (ltn rfl)) rfl ?_
                        subst hb3265
                        refine VL.letter ((!((decide (x3212.f1 > t2634)) == q3026))) fun b3266 hb3266 => ?_
                        refine VL.va (op_eqb Try.underlying4 rfl rfl (congrArg some hb3266) (ltn rfl)) rfl ?_
                        refine VL.done ?_
                        refine VN.then ?_
                        by_cases c3267 : (decide (x3212.f1 > t2634)) = q3026
                        · rw [if_pos c3267] at h
                          obtain rfl : b3266 = false := hb3266.symm.trans (by rw [c3267]; simp)
                          refine VC.cond_f rfl ?_
                          refine VC.skip ?_
                          refine VN.block ?_
                          refine VN.then ?_
                          refine VC.region ?_
                          refine VL.va (op_ari64 rfl rfl rfl (ltn rfl)) rfl ?_
                          refine VL.va (op_move rfl (ltn rfl)) rfl ?_
                          refine VL.done ?_
                          refine VN.again [1] [0] (ihl1 q3026 (wrap64 (i3027 + 1)) h) ⟨rfl, ⟨rfl, rfl, rfl, rfl, rfl, rfl, rfl, rfl, rfl, trivial⟩, trivial, rfl, by decide, rfl, by decide⟩
                        · rw [if_neg c3267] at h
                          obtain rfl : b3266 = true := hb3266.symm.trans (by simpa using c3267)
                          refine VC.cond_t rfl ?_
                          refine VC.seq ?_
                          refine VC.region ?_
                          refine VL.va (op_assign rfl (ltn rfl)) rfl ?_
                          refine VL.done ?_
                          refine VN.then ?_
                          refine VC.ret ?_
                          refine VR.block ?_
                          refine VR.then ?_
                          refine VR.then ?_
                          refine VR.block ?_
                          refine VR.then ?_
                          cases h
                      · rw [if_neg c3264] at h
                        obtain rfl : b3263 = false := hb3263.symm.trans (beq_eq_false_iff_ne.2 c3264)
                        refine VL.un rfl rfl (ltn rfl) ?_
                        refine VL.un rfl rfl (ltn rfl) ?_
                        refine VL.un rfl rfl (ltn rfl) ?_
                        refine VL.un rfl rfl (ltn rfl) ?_
                        refine VL.un rfl rfl (ltn rfl) ?_
                        refine VL.un rfl rfl (ltn rfl) ?_
                        refine VL.va (op_pick rfl rfl (ltn rfl)) rfl ?_
                        refine VL.va (op_pick rfl rfl (ltn rfl)) rfl ?_
                        refine VL.va (op_assign rfl (ltn rfl)) rfl ?_
                        refine VL.done ?_
                        refine VN.then ?_
                        refine VC.seq ?_
                        refine VC.region ?_
                        refine VL.va (op_move rfl (ltn rfl)) rfl ?_
                        refine VL.va (op_move rfl (ltn rfl)) rfl ?_
                        refine VL.letter ((!(false == q3026))) fun b3268 hb3268 => ?_
                        refine VL.va (op_eqb Try.underlying4 rfl rfl (congrArg some hb3268) (ltn rfl)) rfl ?_
                        refine VL.done ?_
                        refine VN.then ?_
                        by_cases c3269 : false = q3026
                        · rw [if_pos c3269] at h
                          obtain rfl : b3268 = false := hb3268.symm.trans (by rw [← c3269]; simp)
                          refine VC.cond_f rfl ?_
                          refine VC.skip ?_
                          refine VN.block ?_
                          refine VN.then ?_
                          refine VC.region ?_
                          refine VL.va (op_ari64 rfl rfl rfl (ltn rfl)) rfl ?_
                          refine VL.va (op_move rfl (ltn rfl)) rfl ?_
                          refine VL.done ?_
                          refine VN.again [1] [0] (ihl1 q3026 (wrap64 (i3027 + 1)) h) ⟨rfl, ⟨rfl, rfl, rfl, rfl, rfl, rfl, rfl, rfl, rfl, trivial⟩, trivial, rfl, by decide, rfl, by decide⟩
                        · rw [if_neg c3269] at h
                          obtain rfl : b3268 = true := hb3268.symm.trans (by simpa using c3269)
                          refine VC.cond_t rfl ?_
                          refine VC.seq ?_
                          refine VC.region ?_
                          refine VL.va (op_assign rfl (ltn rfl)) rfl ?_
                          refine VL.done ?_
                          refine VN.then ?_
                          refine VC.ret ?_
                          refine VR.block ?_
                          refine VR.then ?_
                          refine VR.then ?_
                          refine VR.block ?_
                          refine VR.then ?_
                          cases h
              · rw [if_neg c3211] at h; cases h
            · rw [if_neg c3151] at h
              obtain rfl : b3149 = false := hb3149.symm.trans (decide_eq_false c3151)
              refine VC.cond_f rfl ?_
              refine VC.exit ?_
              refine VX.then ?_
              refine VX.then ?_
              refine VX.hit ?_
              refine VN.then ?_
              refine VC.seq ?_
              refine VC.region ?_
              refine VL.va (op_move rfl (ltn rfl)) rfl ?_
              refine VL.va (op_assign rfl (ltn rfl)) rfl ?_
              refine VL.done ?_
              refine VN.then ?_
              refine VC.ret ?_
              obtain rfl := Option.some.inj h
              exact VR.fn (rs := [.tmp 6]) [] [] [] rfl (.tmp rfl .nil) ⟨rfl, rfl, rfl⟩ trivial rfl (by decide)
          · rw [if_neg c2679] at h
            obtain rfl := Bool.eq_false_iff.2 c2679
            refine VL.va (op_not rfl rfl (ltn rfl)) rfl ?_
            refine VL.va (op_pick rfl rfl (ltn rfl)) rfl ?_
            refine VL.done ?_
            refine VN.then ?_
            refine VC.cond_t rfl ?_
            refine VC.seq ?_
            refine VC.region ?_
            refine VL.va (op_assign rfl (ltn rfl)) rfl ?_
            refine VL.done ?_
            refine VN.then ?_
            refine VC.ret ?_
            refine VR.then ?_
            cases h
        · rw [if_neg c2676] at h
          obtain rfl : b2675 = true := hb2675.symm.trans (bne_iff_ne.2 c2676)
          refine VL.un rfl rfl (ltn rfl) ?_
          refine VL.un rfl rfl (ltn rfl) ?_
          refine VL.va (op_pick rfl rfl (ltn rfl)) rfl ?_
          refine VL.done ?_
          refine VN.then ?_
          refine VC.cond_t rfl ?_
          refine VC.seq ?_
          refine VC.region ?_
          refine VL.va (op_assign rfl (ltn rfl)) rfl ?_
          refine VL.done ?_
          refine VN.then ?_
          refine VC.ret ?_
          refine VR.then ?_
          cases h
      · rw [if_neg c2674] at h
        obtain rfl : b2673 = true := hb2673.symm.trans (bne_iff_ne.2 c2674)
        refine VL.un rfl rfl (ltn rfl) ?_
        refine VL.un rfl rfl (ltn rfl) ?_
        refine VL.un rfl rfl (ltn rfl) ?_
        refine VL.un rfl rfl (ltn rfl) ?_
        refine VL.un rfl rfl (ltn rfl) ?_
        refine VL.va (op_pick rfl rfl (ltn rfl)) rfl ?_
        refine VL.va (op_move rfl (ltn rfl)) rfl ?_
        refine VL.un rfl rfl (ltn rfl) ?_
        refine VL.un rfl rfl (ltn rfl) ?_
        refine VL.va (op_pick rfl rfl (ltn rfl)) rfl ?_
        refine VL.done ?_
        refine VN.then ?_
        refine VC.cond_t rfl ?_
        refine VC.seq ?_
        refine VC.region ?_
        refine VL.va (op_assign rfl (ltn rfl)) rfl ?_
        refine VL.done ?_
        refine VN.then ?_
        refine VC.ret ?_
        refine VR.then ?_
        cases h
    · rw [if_neg c2672] at h
      obtain rfl : b2671 = true := hb2671.symm.trans (bne_iff_ne.2 c2672)
      refine VL.un rfl rfl (ltn rfl) ?_
      refine VL.un rfl rfl (ltn rfl) ?_
      refine VL.va (op_pick rfl rfl (ltn rfl)) rfl ?_
      refine VL.va (op_move rfl (ltn rfl)) rfl ?_
      refine VL.un rfl rfl (ltn rfl) ?_
      refine VL.un rfl rfl (ltn rfl) ?_
      refine VL.un rfl rfl (ltn rfl) ?_
      refine VL.un rfl rfl (ltn rfl) ?_
      refine VL.un rfl rfl (ltn rfl) ?_
      refine VL.va (op_pick rfl rfl (ltn rfl)) rfl ?_
      refine VL.va (op_move rfl (ltn rfl)) rfl ?_
      refine VL.un rfl rfl (ltn rfl) ?_
      refine VL.un rfl rfl (ltn rfl) ?_
      refine VL.va (op_pick rfl rfl (ltn rfl)) rfl ?_
      refine VL.done ?_
      refine VN.then ?_
      refine VC.cond_t rfl ?_
      refine VC.seq ?_
      refine VC.region ?_
      refine VL.va (op_assign rfl (ltn rfl)) rfl ?_
      refine VL.done ?_
      refine VN.then ?_
      refine VC.ret ?_
      refine VR.then ?_
      cases h
  · rw [if_neg c2618] at h
    obtain rfl : b2617 = true := hb2617.symm.trans (bne_iff_ne.2 c2618)
    refine VC.cond_t rfl ?_
    refine VC.seq ?_
    refine VC.region ?_
    replace h := Option.bind_eq_some_iff.1 h
    obtain ⟨t3274, hA3275, h⟩ := h
    refine VL.sC (o_call0 FO13 (tarrylaw09_alive.ok k t3274 hA3275) rfl rfl (ltn rfl) (All_of .nil)) rfl ?_
    rintro _ _ _ ⟨rfl, rfl, rfl⟩
    refine VL.va (op_move rfl (ltn rfl)) rfl ?_
    by_cases c3276 : t3274 = true
    · rw [if_pos c3276] at h
      obtain rfl := c3276
      refine VL.va (op_move rfl (ltn rfl)) rfl ?_
      refine VL.va (op_len_own (m := r2383.length) 0 lenm Try.underlying22 rfl rfl (ltn rfl)) rfl ?_
      refine VL.letter (((r2383.length : Int) == 0)) fun b3277 hb3277 => ?_
      refine VL.va (op_cmp rfl rfl (congrArg some hb3277) (ltn rfl)) rfl ?_
      refine VL.va (op_pick rfl rfl (ltn rfl)) rfl ?_
      refine VL.va (op_assign rfl (ltn rfl)) rfl ?_
      refine VL.done ?_
      refine VN.then ?_
      refine VC.ret ?_
      refine VR.then ?_
      obtain rfl := Option.some.inj h
      subst hb3277
      exact VR.fn (rs := [.tmp 6]) [] [] [] rfl (.tmp rfl .nil) ⟨rfl, rfl, rfl⟩ trivial rfl (by decide)
    · rw [if_neg c3276] at h
      obtain rfl := Bool.eq_false_iff.2 c3276
      refine VL.un rfl rfl (ltn rfl) ?_
      refine VL.un rfl rfl (ltn rfl) ?_
      refine VL.un rfl rfl (ltn rfl) ?_
      refine VL.va (op_pick rfl rfl (ltn rfl)) rfl ?_
      refine VL.va (op_assign rfl (ltn rfl)) rfl ?_
      refine VL.done ?_
      refine VN.then ?_
      refine VC.ret ?_
      refine VR.then ?_
      cases h

end Go.Proofs.Ytdofmkbffffbpaa.PWaitsFair
