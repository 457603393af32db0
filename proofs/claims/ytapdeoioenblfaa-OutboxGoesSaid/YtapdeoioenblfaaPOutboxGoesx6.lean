/- Written by a program of this repo: what the program's functions do, each as a Lean function, shown of the loaded code; or a statement's row over that; no condition of its own. -/
import Derived.Test.YtapdeoioenblfaaPOutboxGoesx5
namespace Go.Proofs.Ytapdeoioenblfaa.POutboxGoes
open Go Go.RowKit Go.Proofs.YtapdeoioenblfaaV
set_option linter.unusedVariables false
set_option linter.unusedSimpArgs false

set_option maxHeartbeats 4000000 in
set_option maxRecDepth 100000 in
theorem tarryref14_Put.ok (k : Nat) (a0_0 : Int) (l0_1 : List S33) (a1 : Int) (a2 : Int) (a3 : Int) (v0_1 : Value) (r1 : Int) (r2 : List S33) (r3 : Int) (r4 : Int) (h : tarryref14_Put.f k a0_0 l0_1 a1 a2 a3 = some (r1, r2, r3, r4)) :
    VCalls Try.prog 12 [.agg #[.int .i64 a0_0, v0_1], .int .i64 a1, .int .i64 a2, .int .i64 a3] [.row v0_1 4 (l0_1.map enc33)] (fun v G own => ∃ w1 : Value, v = .agg #[.int .i64 r1, w1, .int .i64 r3, .int .i64 r4] ∧ G = [] ∧ own = [(w1, 34, 4, r2.map enc33)]) := by
  refine VCalls.intro Try.func12 rfl (len rfl) fun E hC hW hD => ?_
  unfold tarryref14_Put.f at h
  refine VC.seq ?_
  refine VC.region ?_
  refine VL.sG (o_box rfl (.agg (.c rfl (.f 0 rfl .nil))) (ltn rfl)) rfl ?_
  intro g1499
  refine VL.sG (o_alloc Z46 ZL46 (ltn rfl)) rfl ?_
  intro g1500
  refine VL.done ?_
  refine VN.then ?_
  refine VC.seq ?_
  refine VC.seq ?_
  refine VC.region ?_
  refine VL.va (op_load 1 2 rfl rfl TI25 rfl (fun h => absurd h (by decide)) (ltn rfl)) rfl ?_
  replace h := Option.bind_eq_some_iff.1 h
  obtain ⟨t3625, hA3626, h⟩ := h
  refine VL.sC (o_call0 FO13 (tarryref14_Right.ok k a0_0 l0_1 v0_1 t3625 hA3626) rfl rfl (ltn rfl) (All_of (.cons (List.mem_of_getElem? (i := 0) rfl) .nil))) rfl ?_
  rintro _ _ _ ⟨rfl, rfl, rfl⟩
  by_cases c3627 : t3625 = true
  · rw [if_pos c3627] at h
    obtain rfl := c3627
    refine VL.va (op_not rfl rfl (ltn rfl)) rfl ?_
    refine VL.va (op_move rfl (ltn rfl)) rfl ?_
    refine VL.va (op_move rfl (ltn rfl)) rfl ?_
    refine VL.letter (decide (a1 < 1)) fun b3628 hb3628 => ?_
    refine VL.va (op_cmp rfl rfl (congrArg some hb3628) (ltn rfl)) rfl ?_
    refine VL.va (op_pick rfl rfl (ltn rfl)) rfl ?_
    refine VL.va (op_move rfl (ltn rfl)) rfl ?_
    by_cases c3629 : a1 < 1
    · rw [if_pos c3629] at h
      obtain rfl : b3628 = true := hb3628.symm.trans (decide_eq_true c3629)
      refine VL.un rfl rfl (ltn rfl) ?_
      refine VL.un rfl rfl (ltn rfl) ?_
      refine VL.va (op_pick rfl rfl (ltn rfl)) rfl ?_
      refine VL.va (op_move rfl (ltn rfl)) rfl ?_
      refine VL.un rfl rfl (ltn rfl) ?_
      refine VL.un rfl rfl (ltn rfl) ?_
      refine VL.un rfl rfl (ltn rfl) ?_
      refine VL.va (op_pick rfl rfl (ltn rfl)) rfl ?_
      refine VL.va (op_move rfl (ltn rfl)) rfl ?_
      refine VL.un rfl rfl (ltn rfl) ?_
      refine VL.un rfl rfl (ltn rfl) ?_
      refine VL.un rfl rfl (ltn rfl) ?_
      refine VL.va (op_pick rfl rfl (ltn rfl)) rfl ?_
      refine VL.done ?_
      refine VN.then ?_
      refine VC.cond_t rfl ?_
      refine VC.seq ?_
      refine VC.region ?_
      refine VL.va (op_build (vals := [(2, .int .i64 1)]) (vcs := [(2, [.int .i64 1])]) (cells := [.int .i64 0, .slice none 0 0, .int .i64 0, .int .i64 1]) SI46 rfl (.cons ⟨rfl, (.c rfl)⟩ .nil) (by kernel_rfl) (ltn rfl)) rfl ?_
      refine VL.step1 (o_store 0 4 rfl rfl rfl TI46 (.agg (.of rfl)) rfl (len rfl)) rfl ?_
      refine VL.done ?_
      refine VN.then ?_
      refine VC.ret ?_
      refine VR.then ?_
      simp only [Option.some.injEq, Prod.mk.injEq] at h
      obtain ⟨rfl, rfl, rfl, rfl⟩ := h
      refine VR.nilRow' 34 4 ?_
      exact VR.fn (rs := [.cell 8 46]) [] [((.slice none 0 0), 34, 4, ([] : List S33).map enc33)] [0] rfl (.cell 0 rfl rfl TI46 (fun h => absurd h (by decide)) .nil) ⟨(.slice none 0 0), rfl, rfl, rfl⟩ trivial rfl (by decide)
    · rw [if_neg c3629] at h
      obtain rfl : b3628 = false := hb3628.symm.trans (decide_eq_false c3629)
      refine VL.va (op_move rfl (ltn rfl)) rfl ?_
      refine VL.letter (decide (a1 > 3)) fun b3631 hb3631 => ?_
      refine VL.va (op_cmp rfl rfl (congrArg some hb3631) (ltn rfl)) rfl ?_
      refine VL.va (op_pick rfl rfl (ltn rfl)) rfl ?_
      refine VL.va (op_move rfl (ltn rfl)) rfl ?_
      by_cases c3632 : a1 > 3
      · rw [if_pos c3632] at h
        obtain rfl : b3631 = true := hb3631.symm.trans (decide_eq_true c3632)
        refine VL.un rfl rfl (ltn rfl) ?_
        refine VL.un rfl rfl (ltn rfl) ?_
        refine VL.un rfl rfl (ltn rfl) ?_
        refine VL.va (op_pick rfl rfl (ltn rfl)) rfl ?_
        refine VL.va (op_move rfl (ltn rfl)) rfl ?_
        refine VL.un rfl rfl (ltn rfl) ?_
        refine VL.un rfl rfl (ltn rfl) ?_
        refine VL.un rfl rfl (ltn rfl) ?_
        refine VL.va (op_pick rfl rfl (ltn rfl)) rfl ?_
        refine VL.done ?_
        refine VN.then ?_
        refine VC.cond_t rfl ?_
        refine VC.seq ?_
        refine VC.region ?_
        refine VL.va (op_build (vals := [(2, .int .i64 1)]) (vcs := [(2, [.int .i64 1])]) (cells := [.int .i64 0, .slice none 0 0, .int .i64 0, .int .i64 1]) SI46 rfl (.cons ⟨rfl, (.c rfl)⟩ .nil) (by kernel_rfl) (ltn rfl)) rfl ?_
        refine VL.step1 (o_store 0 4 rfl rfl rfl TI46 (.agg (.of rfl)) rfl (len rfl)) rfl ?_
        refine VL.done ?_
        refine VN.then ?_
        refine VC.ret ?_
        refine VR.then ?_
        simp only [Option.some.injEq, Prod.mk.injEq] at h
        obtain ⟨rfl, rfl, rfl, rfl⟩ := h
        refine VR.nilRow' 34 4 ?_
        exact VR.fn (rs := [.cell 8 46]) [] [((.slice none 0 0), 34, 4, ([] : List S33).map enc33)] [0] rfl (.cell 0 rfl rfl TI46 (fun h => absurd h (by decide)) .nil) ⟨(.slice none 0 0), rfl, rfl, rfl⟩ trivial rfl (by decide)
      · rw [if_neg c3632] at h
        obtain rfl : b3631 = false := hb3631.symm.trans (decide_eq_false c3632)
        refine VL.va (op_move rfl (ltn rfl)) rfl ?_
        replace h := Option.bind_eq_some_iff.1 h
        obtain ⟨t3634, hA3635, h⟩ := h
        refine VL.sC (o_call0 FO31 (tarryref14_in.ok a2 1 t3634 hA3635) rfl rfl (ltn rfl) (All_of .nil)) rfl ?_
        rintro _ _ _ ⟨rfl, rfl, rfl⟩
        by_cases c3636 : t3634 = true
        · rw [if_pos c3636] at h
          obtain rfl := c3636
          refine VL.va (op_not rfl rfl (ltn rfl)) rfl ?_
          refine VL.va (op_pick rfl rfl (ltn rfl)) rfl ?_
          refine VL.va (op_move rfl (ltn rfl)) rfl ?_
          refine VL.va (op_move rfl (ltn rfl)) rfl ?_
          replace h := Option.bind_eq_some_iff.1 h
          obtain ⟨t3637, hA3638, h⟩ := h
          refine VL.sC (o_call0 FO31 (tarryref14_in.ok a3 0 t3637 hA3638) rfl rfl (ltn rfl) (All_of .nil)) rfl ?_
          rintro _ _ _ ⟨rfl, rfl, rfl⟩
          by_cases c3639 : t3637 = true
          · rw [if_pos c3639] at h
            obtain rfl := c3639
            refine VL.va (op_not rfl rfl (ltn rfl)) rfl ?_
            refine VL.va (op_pick rfl rfl (ltn rfl)) rfl ?_
            refine VL.done ?_
            refine VN.then ?_
            refine VC.cond_f rfl ?_
            refine VC.skip ?_
            refine VN.then ?_
            refine VC.seq ?_
            refine VC.seq ?_
            refine VC.region ?_
            refine VL.va (op_load 1 2 rfl rfl TI25 rfl (fun h => absurd h (by decide)) (ltn rfl)) rfl ?_
            refine VL.va (op_move rfl (ltn rfl)) rfl ?_
            refine VL.va (op_move rfl (ltn rfl)) rfl ?_
            replace h := Option.bind_eq_some_iff.1 h
            obtain ⟨⟨t3811, t3812, t3813, t3814⟩, hA3815, h⟩ := h
            dsimp only at h
            refine VL.sC (o_call0 FO15 (tarryref14_Find.ok k a0_0 l0_1 a1 a2 v0_1 t3811 t3812 t3813 t3814 hA3815) rfl rfl (ltn rfl) (All_of (.cons (List.mem_of_getElem? (i := 0) rfl) .nil))) rfl ?_
            rintro _ _ _ ⟨rfl, rfl, rfl⟩
            refine VL.va (op_field (off := 0) (k := 1) ⟨_, _, Try.underlying34, rfl, rfl, TI3⟩ rfl rfl (by decide) (ltn rfl)) rfl ?_
            refine VL.letter (decide (t3811 > 0)) fun b3816 hb3816 => ?_
            refine VL.va (op_cmp rfl rfl (congrArg some hb3816) (ltn rfl)) rfl ?_
            refine VL.done ?_
            refine VN.then ?_
            by_cases c3817 : t3811 > 0
            · rw [if_pos c3817] at h
              obtain rfl : b3816 = true := hb3816.symm.trans (decide_eq_true c3817)
              refine VC.cond_t rfl ?_
              refine VC.seq ?_
              refine VC.region ?_
              refine VL.va (op_build (vals := [(2, .int .i64 9)]) (vcs := [(2, [.int .i64 9])]) (cells := [.int .i64 0, .slice none 0 0, .int .i64 0, .int .i64 9]) SI46 rfl (.cons ⟨rfl, (.c rfl)⟩ .nil) (by kernel_rfl) (ltn rfl)) rfl ?_
              refine VL.step1 (o_store 0 4 rfl rfl rfl TI46 (.agg (.of rfl)) rfl (len rfl)) rfl ?_
              refine VL.done ?_
              refine VN.then ?_
              refine VC.ret ?_
              refine VR.then ?_
              simp only [Option.some.injEq, Prod.mk.injEq] at h
              obtain ⟨rfl, rfl, rfl, rfl⟩ := h
              refine VR.nilRow' 34 4 ?_
              exact VR.fn (rs := [.cell 8 46]) [] [((.slice none 0 0), 34, 4, ([] : List S33).map enc33)] [0] rfl (.cell 0 rfl rfl TI46 (fun h => absurd h (by decide)) .nil) ⟨(.slice none 0 0), rfl, rfl, rfl⟩ trivial rfl (by decide)
            · rw [if_neg c3817] at h
              obtain rfl : b3816 = false := hb3816.symm.trans (decide_eq_false c3817)
              refine VC.cond_f rfl ?_
              refine VC.skip ?_
              refine VN.then ?_
              refine VC.seq ?_
              refine VC.seq ?_
              refine VC.region ?_
              refine VL.va (op_fieldAddr FI25_1 rfl (add_at _ _ _) (ltn rfl)) rfl ?_
              refine VL.va (op_load 1 1 rfl rfl TI23 rfl (by decide) (ltn rfl)) rfl ?_
              refine VL.va (op_len (m := l0_1.length) 0 lenm Try.underlying23 rfl rfl (ltn rfl)) rfl ?_
              refine VL.letter (((l0_1.length : Int) == 96)) fun b3831 hb3831 => ?_
              refine VL.va (op_cmp rfl rfl (congrArg some hb3831) (ltn rfl)) rfl ?_
              refine VL.va (op_move rfl (ltn rfl)) rfl ?_
              by_cases c3832 : (l0_1.length : Int) = 96
              · rw [if_pos c3832] at h
                obtain rfl : b3831 = true := hb3831.symm.trans (beq_iff_eq.2 c3832)
                refine VL.un rfl rfl (ltn rfl) ?_
                refine VL.un rfl rfl (ltn rfl) ?_
                refine VL.un rfl rfl (ltn rfl) ?_
                refine VL.va (op_pick rfl rfl (ltn rfl)) rfl ?_
                refine VL.done ?_
                refine VN.then ?_
                refine VC.cond_t rfl ?_
                refine VC.seq ?_
                refine VC.region ?_
                refine VL.va (op_build (vals := [(2, .int .i64 7)]) (vcs := [(2, [.int .i64 7])]) (cells := [.int .i64 0, .slice none 0 0, .int .i64 0, .int .i64 7]) SI46 rfl (.cons ⟨rfl, (.c rfl)⟩ .nil) (by kernel_rfl) (ltn rfl)) rfl ?_
                refine VL.step1 (o_store 0 4 rfl rfl rfl TI46 (.agg (.of rfl)) rfl (len rfl)) rfl ?_
                refine VL.done ?_
                refine VN.then ?_
                refine VC.ret ?_
                refine VR.then ?_
                simp only [Option.some.injEq, Prod.mk.injEq] at h
                obtain ⟨rfl, rfl, rfl, rfl⟩ := h
                refine VR.nilRow' 34 4 ?_
                exact VR.fn (rs := [.cell 8 46]) [] [((.slice none 0 0), 34, 4, ([] : List S33).map enc33)] [0] rfl (.cell 0 rfl rfl TI46 (fun h => absurd h (by decide)) .nil) ⟨(.slice none 0 0), rfl, rfl, rfl⟩ trivial rfl (by decide)
              · rw [if_neg c3832] at h
                obtain rfl : b3831 = false := hb3831.symm.trans (beq_eq_false_iff_ne.2 c3832)
                refine VL.va (op_fieldAddr FI25_0 rfl (add_at _ _ _) (ltn rfl)) rfl ?_
                refine VL.va (op_load 1 1 rfl rfl TI3 rfl (by decide) (ltn rfl)) rfl ?_
                refine VL.letter ((a0_0 == 1099511627776)) fun b3834 hb3834 => ?_
                refine VL.va (op_cmp rfl rfl (congrArg some hb3834) (ltn rfl)) rfl ?_
                refine VL.va (op_pick rfl rfl (ltn rfl)) rfl ?_
                refine VL.done ?_
                refine VN.then ?_
                by_cases c3835 : a0_0 = 1099511627776
                · rw [if_pos c3835] at h
                  obtain rfl : b3834 = true := hb3834.symm.trans (beq_iff_eq.2 c3835)
                  refine VC.cond_t rfl ?_
                  refine VC.seq ?_
                  refine VC.region ?_
                  refine VL.va (op_build (vals := [(2, .int .i64 7)]) (vcs := [(2, [.int .i64 7])]) (cells := [.int .i64 0, .slice none 0 0, .int .i64 0, .int .i64 7]) SI46 rfl (.cons ⟨rfl, (.c rfl)⟩ .nil) (by kernel_rfl) (ltn rfl)) rfl ?_
                  refine VL.step1 (o_store 0 4 rfl rfl rfl TI46 (.agg (.of rfl)) rfl (len rfl)) rfl ?_
                  refine VL.done ?_
                  refine VN.then ?_
                  refine VC.ret ?_
                  refine VR.then ?_
                  simp only [Option.some.injEq, Prod.mk.injEq] at h
                  obtain ⟨rfl, rfl, rfl, rfl⟩ := h
                  refine VR.nilRow' 34 4 ?_
                  exact VR.fn (rs := [.cell 8 46]) [] [((.slice none 0 0), 34, 4, ([] : List S33).map enc33)] [0] rfl (.cell 0 rfl rfl TI46 (fun h => absurd h (by decide)) .nil) ⟨(.slice none 0 0), rfl, rfl, rfl⟩ trivial rfl (by decide)
                · rw [if_neg c3835] at h
                  obtain rfl : b3834 = false := hb3834.symm.trans (beq_eq_false_iff_ne.2 c3835)
                  refine VC.cond_f rfl ?_
                  refine VC.skip ?_
                  refine VN.then ?_
                  refine VC.seq ?_
                  refine VC.region ?_
                  refine VL.va (op_fieldAddr FI25_0 rfl (add_at _ _ _) (ltn rfl)) rfl ?_
                  refine VL.va (op_load 1 1 rfl rfl TI3 rfl (by decide) (ltn rfl)) rfl ?_
                  refine VL.va (op_ari64 rfl rfl rfl (ltn rfl)) rfl ?_
                  refine VL.va (op_build (vals := [(0, .int .i64 (wrap64 (a0_0 + 1)))]) (vcs := [(0, [.int .i64 (wrap64 (a0_0 + 1))])]) (cells := [.int .i64 (wrap64 (a0_0 + 1)), .slice none 0 0]) SI25 rfl (.cons ⟨rfl, (.c rfl)⟩ .nil) (by kernel_rfl) (ltn rfl)) rfl ?_
                  refine VL.sG (o_alloc Z25 ZL25 (ltn rfl)) rfl ?_
                  intro g3837
                  refine VL.step1 (o_store 0 2 rfl rfl rfl TI25 (.agg (.of rfl)) rfl (len rfl)) rfl ?_
                  refine VL.done ?_
                  refine VN.then ?_
                  refine VC.seq ?_
                  refine VC.region ?_
                  refine VL.va (op_fieldAddr FI25_1 rfl (add_at _ _ _) (ltn rfl)) rfl ?_
                  refine VL.va (op_load 0 1 rfl rfl TI23 rfl (by decide) (ltn rfl)) rfl ?_
                  refine VL.va (op_fieldAddr FI25_1 rfl (add_at _ _ _) (ltn rfl)) rfl ?_
                  refine VL.va (op_load 2 1 rfl rfl TI23 rfl (by decide) (ltn rfl)) rfl ?_
                  refine VL.nilRow' 34 4 ?_
                  by_cases c3839 : (([] : List S33).length + l0_1.length) * 32 ≤ 140737488355328
                  · rw [if_pos c3839] at h
                    refine VL.sG (o_append 0 appm Try.underlying23 EI34 rfl rfl rfl (.inl ⟨0, rfl⟩) (bndm c3839) (ltn rfl)) rfl ?_
                    intro v3840
                    refine VL.va (op_fieldAddr FI25_1 rfl (add_at _ _ _) (ltn rfl)) rfl ?_
                    refine VL.step1 (o_store 0 1 rfl rfl rfl TI23 (.r 0 rfl) rfl (len rfl)) rfl ?_
                    refine VL.done ?_
                    refine VN.then ?_
                    refine VC.seq ?_
                    refine VC.region ?_
                    refine VL.va (op_fieldAddr FI25_1 rfl (add_at _ _ _) (ltn rfl)) rfl ?_
                    refine VL.va (op_load 0 1 rfl rfl TI23 rfl (by decide) (ltn rfl)) rfl ?_
                    refine VL.va (op_fieldAddr FI25_0 rfl (add_at _ _ _) (ltn rfl)) rfl ?_
                    refine VL.va (op_load 0 1 rfl rfl TI3 rfl (by decide) (ltn rfl)) rfl ?_
                    refine VL.va (op_move rfl (ltn rfl)) rfl ?_
                    refine VL.va (op_move rfl (ltn rfl)) rfl ?_
                    refine VL.va (op_move rfl (ltn rfl)) rfl ?_
                    refine VL.va (op_build (vals := [(0, .int .i64 (wrap64 (a0_0 + 1))), (1, .int .i64 a1), (2, .int .i64 a2), (3, .int .i64 a3)]) (vcs := [(0, [.int .i64 (wrap64 (a0_0 + 1))]), (1, [.int .i64 a1]), (2, [.int .i64 a2]), (3, [.int .i64 a3])]) (cells := [.int .i64 (wrap64 (a0_0 + 1)), .int .i64 a1, .int .i64 a2, .int .i64 a3]) SI34 rfl (.cons ⟨rfl, (.c rfl)⟩ (.cons ⟨rfl, (.c rfl)⟩ (.cons ⟨rfl, (.c rfl)⟩ (.cons ⟨rfl, (.c rfl)⟩ .nil)))) (by kernel_rfl) (ltn rfl)) rfl ?_
                    refine VL.sG (o_buildSlice (vals := [(0, .agg #[.int .i64 (wrap64 (a0_0 + 1)), .int .i64 a1, .int .i64 a2, .int .i64 a3])]) (cells := #[.int .i64 (wrap64 (a0_0 + 1)), .int .i64 a1, .int .i64 a2, .int .i64 a3]) (es := List.map enc33 ([(⟨wrap64 (a0_0 + 1), a1, a2, a3⟩ : S33)] : List S33)) Try.underlying23 TI34 Z34 rfl (by decide) (by decide) (by kernel_rfl) (by kernel_rfl) rfl (flat_map enc33_ok _) (ltn rfl)) rfl ?_
                    intro v3843
                    by_cases c3844 : ((([] : List S33) ++ l0_1).length + ([(⟨wrap64 (a0_0 + 1), a1, a2, a3⟩ : S33)] : List S33).length) * 32 ≤ 140737488355328
                    · rw [if_pos c3844] at h
                      refine VL.sG (o_append 1 appm Try.underlying23 EI34 rfl rfl rfl (.inr ⟨0, _, rfl⟩) (bndm c3844) (ltn rfl)) rfl ?_
                      intro v3845
                      refine VL.va (op_fieldAddr FI25_1 rfl (add_at _ _ _) (ltn rfl)) rfl ?_
                      refine VL.step1 (o_store 0 1 rfl rfl rfl TI23 (.r 1 rfl) rfl (len rfl)) rfl ?_
                      refine VL.done ?_
                      refine VN.then ?_
                      refine VC.seq ?_
                      refine VC.region ?_
                      refine VL.va (op_load 0 2 rfl rfl TI25 rfl (fun h => absurd h (by decide)) (ltn rfl)) rfl ?_
                      refine VL.va (op_fieldAddr FI25_0 rfl (add_at _ _ _) (ltn rfl)) rfl ?_
                      refine VL.va (op_load 0 1 rfl rfl TI3 rfl (by decide) (ltn rfl)) rfl ?_
                      refine VL.va (op_build (vals := [(0, .agg #[.int .i64 (wrap64 (a0_0 + 1)), v3845]), (1, .int .i64 (wrap64 (a0_0 + 1)))]) (vcs := [(0, [.int .i64 (wrap64 (a0_0 + 1)), v3845]), (1, [.int .i64 (wrap64 (a0_0 + 1))])]) (cells := [.int .i64 (wrap64 (a0_0 + 1)), v3845, .int .i64 (wrap64 (a0_0 + 1)), .int .i64 0]) SI46 rfl (.cons ⟨rfl, (.agg (.c rfl (.r 1 rfl .nil)))⟩ (.cons ⟨rfl, (.c rfl)⟩ .nil)) (by kernel_rfl) (ltn rfl)) rfl ?_
                      refine VL.step1 (o_store 1 4 rfl rfl rfl TI46 (.agg (.c rfl (.r 1 rfl (.c rfl (.c rfl .nil))))) rfl (len rfl)) rfl ?_
                      refine VL.done ?_
                      refine VN.then ?_
                      refine VC.ret ?_
                      simp only [Option.some.injEq, Prod.mk.injEq] at h
                      obtain ⟨rfl, rfl, rfl, rfl⟩ := h
                      exact VR.fn (rs := [.cell 8 46]) [] [(v3845, 34, 4, ((([] : List S33) ++ l0_1) ++ ([(⟨wrap64 (a0_0 + 1), a1, a2, a3⟩ : S33)] : List S33)).map enc33)] [1] rfl (.cell 1 rfl rfl TI46 (fun h => absurd h (by decide)) .nil) ⟨v3845, rfl, rfl, rfl⟩ trivial rfl (by decide)
                    · rw [if_neg c3844] at h; cases h
                  · rw [if_neg c3839] at h; cases h
          · rw [if_neg c3639] at h
            obtain rfl := Bool.eq_false_iff.2 c3639
            refine VL.va (op_not rfl rfl (ltn rfl)) rfl ?_
            refine VL.va (op_pick rfl rfl (ltn rfl)) rfl ?_
            refine VL.done ?_
            refine VN.then ?_
            refine VC.cond_t rfl ?_
            refine VC.seq ?_
            refine VC.region ?_
            refine VL.va (op_build (vals := [(2, .int .i64 1)]) (vcs := [(2, [.int .i64 1])]) (cells := [.int .i64 0, .slice none 0 0, .int .i64 0, .int .i64 1]) SI46 rfl (.cons ⟨rfl, (.c rfl)⟩ .nil) (by kernel_rfl) (ltn rfl)) rfl ?_
            refine VL.step1 (o_store 0 4 rfl rfl rfl TI46 (.agg (.of rfl)) rfl (len rfl)) rfl ?_
            refine VL.done ?_
            refine VN.then ?_
            refine VC.ret ?_
            refine VR.then ?_
            simp only [Option.some.injEq, Prod.mk.injEq] at h
            obtain ⟨rfl, rfl, rfl, rfl⟩ := h
            refine VR.nilRow' 34 4 ?_
            exact VR.fn (rs := [.cell 8 46]) [] [((.slice none 0 0), 34, 4, ([] : List S33).map enc33)] [0] rfl (.cell 0 rfl rfl TI46 (fun h => absurd h (by decide)) .nil) ⟨(.slice none 0 0), rfl, rfl, rfl⟩ trivial rfl (by decide)
        · rw [if_neg c3636] at h
          obtain rfl := Bool.eq_false_iff.2 c3636
          refine VL.va (op_not rfl rfl (ltn rfl)) rfl ?_
          refine VL.va (op_pick rfl rfl (ltn rfl)) rfl ?_
          refine VL.va (op_move rfl (ltn rfl)) rfl ?_
          refine VL.un rfl rfl (ltn rfl) ?_
          refine VL.un rfl rfl (ltn rfl) ?_
          refine VL.un rfl rfl (ltn rfl) ?_
          refine VL.va (op_pick rfl rfl (ltn rfl)) rfl ?_
          refine VL.done ?_
          refine VN.then ?_
          refine VC.cond_t rfl ?_
          refine VC.seq ?_
          refine VC.region ?_
          refine VL.va (op_build (vals := [(2, .int .i64 1)]) (vcs := [(2, [.int .i64 1])]) (cells := [.int .i64 0, .slice none 0 0, .int .i64 0, .int .i64 1]) SI46 rfl (.cons ⟨rfl, (.c rfl)⟩ .nil) (by kernel_rfl) (ltn rfl)) rfl ?_
          refine VL.step1 (o_store 0 4 rfl rfl rfl TI46 (.agg (.of rfl)) rfl (len rfl)) rfl ?_
          refine VL.done ?_
          refine VN.then ?_
          refine VC.ret ?_
          refine VR.then ?_
          simp only [Option.some.injEq, Prod.mk.injEq] at h
          obtain ⟨rfl, rfl, rfl, rfl⟩ := h
          refine VR.nilRow' 34 4 ?_
          exact VR.fn (rs := [.cell 8 46]) [] [((.slice none 0 0), 34, 4, ([] : List S33).map enc33)] [0] rfl (.cell 0 rfl rfl TI46 (fun h => absurd h (by decide)) .nil) ⟨(.slice none 0 0), rfl, rfl, rfl⟩ trivial rfl (by decide)
  · rw [if_neg c3627] at h
    obtain rfl := Bool.eq_false_iff.2 c3627
    refine VL.va (op_not rfl rfl (ltn rfl)) rfl ?_
    refine VL.va (op_move rfl (ltn rfl)) rfl ?_
    refine VL.un rfl rfl (ltn rfl) ?_
    refine VL.un rfl rfl (ltn rfl) ?_
    refine VL.va (op_pick rfl rfl (ltn rfl)) rfl ?_
    refine VL.va (op_move rfl (ltn rfl)) rfl ?_
    refine VL.un rfl rfl (ltn rfl) ?_
    refine VL.un rfl rfl (ltn rfl) ?_
    refine VL.va (op_pick rfl rfl (ltn rfl)) rfl ?_
    refine VL.va (op_move rfl (ltn rfl)) rfl ?_
    refine VL.un rfl rfl (ltn rfl) ?_
    refine VL.un rfl rfl (ltn rfl) ?_
    refine VL.un rfl rfl (ltn rfl) ?_
    refine VL.va (op_pick rfl rfl (ltn rfl)) rfl ?_
    refine VL.va (op_move rfl (ltn rfl)) rfl ?_
    refine VL.un rfl rfl (ltn rfl) ?_
    refine VL.un rfl rfl (ltn rfl) ?_
    refine VL.un rfl rfl (ltn rfl) ?_
    refine VL.va (op_pick rfl rfl (ltn rfl)) rfl ?_
    refine VL.done ?_
    refine VN.then ?_
    refine VC.cond_t rfl ?_
    refine VC.seq ?_
    refine VC.region ?_
    refine VL.va (op_build (vals := [(2, .int .i64 1)]) (vcs := [(2, [.int .i64 1])]) (cells := [.int .i64 0, .slice none 0 0, .int .i64 0, .int .i64 1]) SI46 rfl (.cons ⟨rfl, (.c rfl)⟩ .nil) (by kernel_rfl) (ltn rfl)) rfl ?_
    refine VL.step1 (o_store 0 4 rfl rfl rfl TI46 (.agg (.of rfl)) rfl (len rfl)) rfl ?_
    refine VL.done ?_
    refine VN.then ?_
    refine VC.ret ?_
    refine VR.then ?_
    simp only [Option.some.injEq, Prod.mk.injEq] at h
    obtain ⟨rfl, rfl, rfl, rfl⟩ := h
    refine VR.nilRow' 34 4 ?_
    exact VR.fn (rs := [.cell 8 46]) [] [((.slice none 0 0), 34, 4, ([] : List S33).map enc33)] [0] rfl (.cell 0 rfl rfl TI46 (fun h => absurd h (by decide)) .nil) ⟨(.slice none 0 0), rfl, rfl, rfl⟩ trivial rfl (by decide)
set_option maxHeartbeats 4000000 in
set_option maxRecDepth 100000 in
theorem tarryref14_Same.ok (k : Nat) (l0 : List S33) (l1 : List S33) (v0 : Value) (v1 : Value) (r1 : Bool) (h : tarryref14_Same.f k l0 l1 = some r1) :
    VCalls Try.prog 17 [v0, v1] [.row v0 4 (l0.map enc33), .row v1 4 (l1.map enc33)] (fun v G own => v = .bool r1 ∧ G = [] ∧ own = []) := by
  refine VCalls.intro Try.func17 rfl (len rfl) fun E hC hW hD => ?_
  unfold tarryref14_Same.f at h
  refine VC.seq ?_
  refine VC.region ?_
  refine VL.va (op_assign rfl (ltn rfl)) rfl ?_
  refine VL.done ?_
  refine VN.then ?_
  refine VC.seq ?_
  refine VC.seq ?_
  refine VC.region ?_
  refine VL.va (op_move rfl (ltn rfl)) rfl ?_
  refine VL.va (op_len (m := l0.length) 0 lenm Try.underlying23 rfl rfl (ltn rfl)) rfl ?_
  refine VL.va (op_move rfl (ltn rfl)) rfl ?_
  refine VL.va (op_len (m := l1.length) 1 lenm Try.underlying23 rfl rfl (ltn rfl)) rfl ?_
  refine VL.letter (((l0.length : Int) != (l1.length : Int))) fun b3878 hb3878 => ?_
  refine VL.va (op_cmp rfl rfl (congrArg some hb3878) (ltn rfl)) rfl ?_
  refine VL.done ?_
  refine VN.then ?_
  by_cases c3879 : (l0.length : Int) = (l1.length : Int)
  · rw [if_pos c3879] at h
    obtain rfl : b3878 = false := hb3878.symm.trans (bne_eq_false_iff_eq.2 c3879)
    refine VC.cond_f rfl ?_
    refine VC.skip ?_
    refine VN.then ?_
    refine VC.seq ?_
    refine VC.seq ?_
    refine VC.region ?_
    refine VL.va (op_move rfl (ltn rfl)) rfl ?_
    refine VL.va (op_len (m := l0.length) 0 lenm Try.underlying23 rfl rfl (ltn rfl)) rfl ?_
    refine VL.va (op_move rfl (ltn rfl)) rfl ?_
    refine VL.done ?_
    refine VN.then ?_
    refine VC.block ?_
    refine VC.loop1 (fun (i3933 : Int) => ⟨26, [(0, v0), (1, v1), (4, .bool false), (12, .int .i64 (l0.length : Int)), (13, .int .i64 i3933)], [.row v0 4 (l0.map enc33), .row v1 4 (l1.map enc33)], [], []⟩) (fun (ml1 : Nat) (i3933 : Int) => tarryref14_Same.l1 k l0 l1 ml1 i3933 = some r1) k 0 [] [] h ⟨rfl, ⟨rfl, rfl, rfl, rfl, rfl, trivial⟩, ⟨⟨0, rfl⟩, ⟨1, rfl⟩, trivial⟩, rfl, by decide, rfl, by decide⟩ (by intros; simp [tarryref14_Same.l1]) ?_
    clear h
    intro ml1 ihl1 i3933 h
    simp only [tarryref14_Same.l1] at h
    refine VC.seq ?_
    refine VC.region ?_
    refine VL.letter (decide (i3933 < (l0.length : Int))) fun b3947 hb3947 => ?_
    refine VL.va (op_cmp rfl rfl (congrArg some hb3947) (ltn rfl)) rfl ?_
    refine VL.done ?_
    refine VN.then ?_
    refine VC.seq ?_
    by_cases c3949 : i3933 < (l0.length : Int)
    · rw [if_pos c3949] at h
      obtain rfl : b3947 = true := hb3947.symm.trans (decide_eq_true c3949)
      refine VC.cond_t rfl ?_
      refine VC.skip ?_
      refine VN.then ?_
      refine VC.seq ?_
      refine VC.block ?_
      refine VC.seq ?_
      refine VC.region ?_
      refine VL.va (op_move rfl (ltn rfl)) rfl ?_
      refine VL.va (op_assign rfl (ltn rfl)) rfl ?_
      refine VL.done ?_
      refine VN.then ?_
      by_cases c3955 : 0 ≤ i3933
      · rw [if_pos c3955] at h
        replace h := Option.bind_eq_some_iff.1 h
        obtain ⟨x3956, hx3956, h⟩ := h
        replace h := Option.bind_eq_some_iff.1 h
        obtain ⟨x3957, hx3957, h⟩ := h
        refine VC.letter ((!(((x3956.f0 == x3957.f0) && ((x3956.f1 == x3957.f1) && ((x3956.f2 == x3957.f2) && (x3956.f3 == x3957.f3))))))) fun b3958 hb3958 => ?_
        refine VC.open (m := l0.length) 0 lenm rfl (pos_get hx3956) ?_
        rintro ad3884 n3885 rfl
        refine VC.open (m := l1.length) 1 lenm rfl (pos_get hx3957) ?_
        rintro ad3887 n3888 rfl
        refine VC.join0 (⟨26, [(0, (.slice (some ad3884) l0.length n3885)), (1, (.slice (some ad3887) l1.length n3888)), (4, .bool false), (5, .int .i64 i3933), (12, .int .i64 (l0.length : Int)), (13, .int .i64 i3933), (14, .bool true), (15, .int .i64 i3933), (16, (.slice (some ad3884) l0.length n3885)), (17, .int .i64 i3933), (19, .agg #[.int .i64 x3956.f0, .int .i64 x3956.f1, .int .i64 x3956.f2, .int .i64 x3956.f3]), (20, (.slice (some ad3887) l1.length n3888)), (21, .int .i64 i3933), (23, .agg #[.int .i64 x3957.f0, .int .i64 x3957.f1, .int .i64 x3957.f2, .int .i64 x3957.f3]), (24, .bool b3958)], [.row (.slice (some ad3884) l0.length n3885) 4 (l0.map enc33), .row (.slice (some ad3887) l1.length n3888) 4 (l1.map enc33)], [], []⟩) (True) ?_ ?_
        · refine VC.draw ⟨0, [], [.row (.slice (some ad3884) l0.length n3885) 4 (l0.map enc33), .row (.slice (some ad3887) l1.length n3888) 4 (l1.map enc33)], [], []⟩ (by kernel_rfl) rfl (by kernel_rfl) (n := 9) (listed := LB 9 0) ?_
          refine VA.va (i := 0) (listed' := LB 9 1) rfl (op_move rfl (ltn rfl)) rfl (by kernel_rfl) (by kernel_rfl) (by kernel_rfl) (by kernel_rfl) ⟨⟨⟨0, rfl⟩, ⟨1, rfl⟩, trivial⟩, trivial, trivial⟩ (fun _ _ _ h => h) ?_
          refine VA.va (i := 1) (listed' := LB 9 3) rfl (op_move rfl (ltn rfl)) rfl (by kernel_rfl) (by kernel_rfl) (by kernel_rfl) (by kernel_rfl) ⟨⟨⟨0, rfl⟩, ⟨1, rfl⟩, trivial⟩, trivial, trivial⟩ (fun _ _ _ h => h) ?_
          refine VA.va (i := 2) (listed' := LB 9 7) rfl (op_indexAddr Try.underlying23 TI34 rfl rfl c3955 (lt_get c3955 hx3956) rfl (ltn rfl)) rfl (by kernel_rfl) (by kernel_rfl) (by kernel_rfl) (by kernel_rfl) ⟨⟨⟨0, rfl⟩, ⟨1, rfl⟩, trivial⟩, trivial, trivial⟩ (fun _ _ _ h => h) ?_
          refine VA.va (i := 3) (listed' := LB 9 15) rfl (op_load_row (sz := 4) (o := 0) 0 i3933.toNat 4 rfl rfl (get_map hx3956) TI34 rfl (fun h => absurd h (by decide)) (ltn rfl)) rfl (by kernel_rfl) (by kernel_rfl) (by kernel_rfl) (by kernel_rfl) ⟨⟨⟨0, rfl⟩, ⟨1, rfl⟩, trivial⟩, trivial, trivial⟩ (fun _ _ _ h => h) ?_
          refine VA.va (i := 4) (listed' := LB 9 31) rfl (op_move rfl (ltn rfl)) rfl (by kernel_rfl) (by kernel_rfl) (by kernel_rfl) (by kernel_rfl) ⟨⟨⟨0, rfl⟩, ⟨1, rfl⟩, trivial⟩, trivial, trivial⟩ (fun _ _ _ h => h) ?_
          refine VA.va (i := 5) (listed' := LB 9 63) rfl (op_move rfl (ltn rfl)) rfl (by kernel_rfl) (by kernel_rfl) (by kernel_rfl) (by kernel_rfl) ⟨⟨⟨0, rfl⟩, ⟨1, rfl⟩, trivial⟩, trivial, trivial⟩ (fun _ _ _ h => h) ?_
          refine VA.va (i := 6) (listed' := LB 9 127) rfl (op_indexAddr Try.underlying23 TI34 rfl rfl c3955 (lt_get c3955 hx3957) rfl (ltn rfl)) rfl (by kernel_rfl) (by kernel_rfl) (by kernel_rfl) (by kernel_rfl) ⟨⟨⟨0, rfl⟩, ⟨1, rfl⟩, trivial⟩, trivial, trivial⟩ (fun _ _ _ h => h) ?_
          refine VA.va (i := 7) (listed' := LB 9 255) rfl (op_load_row (sz := 4) (o := 0) 1 i3933.toNat 4 rfl rfl (get_map hx3957) TI34 rfl (fun h => absurd h (by decide)) (ltn rfl)) rfl (by kernel_rfl) (by kernel_rfl) (by kernel_rfl) (by kernel_rfl) ⟨⟨⟨0, rfl⟩, ⟨1, rfl⟩, trivial⟩, trivial, trivial⟩ (fun _ _ _ h => h) ?_
          refine VA.va (i := 8) (listed' := LB 9 511) rfl (op_neS rfl rfl EG34 (EQ34 x3956.f0 x3956.f1 x3956.f2 x3956.f3 x3957.f0 x3957.f1 x3957.f2 x3957.f3) hb3958 (ltn rfl)) rfl (by kernel_rfl) (by kernel_rfl) (by kernel_rfl) (by kernel_rfl) ⟨⟨⟨0, rfl⟩, ⟨1, rfl⟩, trivial⟩, trivial, trivial⟩ (fun _ _ _ h => h) ?_
          refine VA.done (by kernel_rfl) ?_
          exact VN.meet0  [] [] trivial ⟨rfl, ⟨rfl, rfl, rfl, rfl, rfl, rfl, rfl, rfl, rfl, rfl, rfl, rfl, rfl, rfl, rfl, trivial⟩, ⟨⟨0, rfl⟩, ⟨1, rfl⟩, trivial⟩, rfl, by decide, rfl, by decide⟩
        intro _
        by_cases c3959 : (((x3956.f0 == x3957.f0) && ((x3956.f1 == x3957.f1) && ((x3956.f2 == x3957.f2) && (x3956.f3 == x3957.f3))))) = true
        · rw [if_pos c3959] at h
          obtain rfl : b3958 = false := hb3958.symm.trans (not_t c3959)
          refine VC.cond_f rfl ?_
          refine VC.skip ?_
          refine VN.block ?_
          refine VN.then ?_
          refine VC.region ?_
          refine VL.va (op_ari64 rfl rfl rfl (ltn rfl)) rfl ?_
          refine VL.va (op_move rfl (ltn rfl)) rfl ?_
          refine VL.done ?_
          refine VN.again [] [] (ihl1 (wrap64 (i3933 + 1)) h) ⟨rfl, ⟨rfl, rfl, rfl, rfl, rfl, trivial⟩, ⟨⟨0, rfl⟩, ⟨1, rfl⟩, trivial⟩, rfl, by decide, rfl, by decide⟩
        · rw [if_neg c3959] at h
          obtain rfl : b3958 = true := hb3958.symm.trans (not_f c3959)
          refine VC.cond_t rfl ?_
          refine VC.seq ?_
          refine VC.region ?_
          refine VL.va (op_assign rfl (ltn rfl)) rfl ?_
          refine VL.done ?_
          refine VN.then ?_
          refine VC.ret ?_
          refine VR.block ?_
          refine VR.then ?_
          refine VR.then ?_
          refine VR.block ?_
          refine VR.then ?_
          obtain rfl := Option.some.inj h
          exact VR.fn (rs := [.tmp 4]) [] [] [] rfl (.tmp rfl .nil) ⟨rfl, rfl, rfl⟩ trivial rfl (by decide)
      · rw [if_neg c3955] at h; cases h
    · rw [if_neg c3949] at h
      obtain rfl : b3947 = false := hb3947.symm.trans (decide_eq_false c3949)
      refine VC.cond_f rfl ?_
      refine VC.exit ?_
      refine VX.then ?_
      refine VX.then ?_
      refine VX.hit ?_
      refine VN.then ?_
      refine VC.seq ?_
      refine VC.region ?_
      refine VL.va (op_assign rfl (ltn rfl)) rfl ?_
      refine VL.done ?_
      refine VN.then ?_
      refine VC.ret ?_
      obtain rfl := Option.some.inj h
      exact VR.fn (rs := [.tmp 4]) [] [] [] rfl (.tmp rfl .nil) ⟨rfl, rfl, rfl⟩ trivial rfl (by decide)
  · rw [if_neg c3879] at h
    obtain rfl : b3878 = true := hb3878.symm.trans (bne_iff_ne.2 c3879)
    refine VC.cond_t rfl ?_
    refine VC.seq ?_
    refine VC.region ?_
    refine VL.va (op_assign rfl (ltn rfl)) rfl ?_
    refine VL.done ?_
    refine VN.then ?_
    refine VC.ret ?_
    refine VR.then ?_
    obtain rfl := Option.some.inj h
    exact VR.fn (rs := [.tmp 4]) [] [] [] rfl (.tmp rfl .nil) ⟨rfl, rfl, rfl⟩ trivial rfl (by decide)
set_option maxHeartbeats 4000000 in
set_option maxRecDepth 100000 in
theorem tarryref14_Like.ok (k : Nat) (a0_0 : Int) (l0_1 : List S33) (a1_0 : Int) (l1_1 : List S33) (v0_1 : Value) (v1_1 : Value) (r1 : Bool) (h : tarryref14_Like.f k a0_0 l0_1 a1_0 l1_1 = some r1) :
    VCalls Try.prog 14 [.agg #[.int .i64 a0_0, v0_1], .agg #[.int .i64 a1_0, v1_1]] [.row v0_1 4 (l0_1.map enc33), .row v1_1 4 (l1_1.map enc33)] (fun v G own => v = .bool r1 ∧ G = [] ∧ own = []) := by
  refine VCalls.intro Try.func14 rfl (len rfl) fun E hC hW hD => ?_
  unfold tarryref14_Like.f at h
  refine VC.seq ?_
  refine VC.region ?_
  refine VL.sG (o_box rfl (.agg (.c rfl (.f 0 rfl .nil))) (ltn rfl)) rfl ?_
  intro g3870
  refine VL.sG (o_box rfl (.agg (.c rfl (.f 1 rfl .nil))) (ltn rfl)) rfl ?_
  intro g3871
  refine VL.va (op_assign rfl (ltn rfl)) rfl ?_
  refine VL.done ?_
  refine VN.then ?_
  refine VC.seq ?_
  refine VC.region ?_
  refine VL.va (op_fieldAddr FI25_0 rfl (add_at _ _ _) (ltn rfl)) rfl ?_
  refine VL.va (op_load 1 1 rfl rfl TI3 rfl (by decide) (ltn rfl)) rfl ?_
  refine VL.va (op_fieldAddr FI25_0 rfl (add_at _ _ _) (ltn rfl)) rfl ?_
  refine VL.va (op_load 0 1 rfl rfl TI3 rfl (by decide) (ltn rfl)) rfl ?_
  refine VL.letter ((a0_0 == a1_0)) fun b3962 hb3962 => ?_
  refine VL.va (op_cmp rfl rfl (congrArg some hb3962) (ltn rfl)) rfl ?_
  refine VL.va (op_move rfl (ltn rfl)) rfl ?_
  by_cases c3963 : a0_0 = a1_0
  · rw [if_pos c3963] at h
    obtain rfl : b3962 = true := hb3962.symm.trans (beq_iff_eq.2 c3963)
    refine VL.va (op_fieldAddr FI25_1 rfl (add_at _ _ _) (ltn rfl)) rfl ?_
    refine VL.va (op_load 1 1 rfl rfl TI23 rfl (by decide) (ltn rfl)) rfl ?_
    refine VL.va (op_fieldAddr FI25_1 rfl (add_at _ _ _) (ltn rfl)) rfl ?_
    refine VL.va (op_load 0 1 rfl rfl TI23 rfl (by decide) (ltn rfl)) rfl ?_
    replace h := Option.bind_eq_some_iff.1 h
    obtain ⟨t3964, hA3965, h⟩ := h
    refine VL.sC (o_call0 FO17 (tarryref14_Same.ok k l0_1 l1_1 v0_1 v1_1 t3964 hA3965) rfl rfl (ltn rfl) (All_of (.cons (List.mem_of_getElem? (i := 0) rfl) (.cons (List.mem_of_getElem? (i := 1) rfl) .nil)))) rfl ?_
    rintro _ _ _ ⟨rfl, rfl, rfl⟩
    refine VL.va (op_pick rfl rfl (ltn rfl)) rfl ?_
    refine VL.va (op_assign rfl (ltn rfl)) rfl ?_
    refine VL.done ?_
    refine VN.then ?_
    refine VC.ret ?_
    obtain rfl := Option.some.inj h
    exact VR.fn (rs := [.tmp 4]) [] [] [] rfl (.tmp rfl .nil) ⟨rfl, rfl, rfl⟩ trivial rfl (by decide)
  · rw [if_neg c3963] at h
    obtain rfl : b3962 = false := hb3962.symm.trans (beq_eq_false_iff_ne.2 c3963)
    refine VL.un rfl rfl (ltn rfl) ?_
    refine VL.un rfl rfl (ltn rfl) ?_
    refine VL.un rfl rfl (ltn rfl) ?_
    refine VL.un rfl rfl (ltn rfl) ?_
    refine VL.un rfl rfl (ltn rfl) ?_
    refine VL.va (op_pick rfl rfl (ltn rfl)) rfl ?_
    refine VL.va (op_assign rfl (ltn rfl)) rfl ?_
    refine VL.done ?_
    refine VN.then ?_
    refine VC.ret ?_
    obtain rfl := Option.some.inj h
    exact VR.fn (rs := [.tmp 4]) [] [] [] rfl (.tmp rfl .nil) ⟨rfl, rfl, rfl⟩ trivial rfl (by decide)
set_option maxHeartbeats 4000000 in
set_option maxRecDepth 100000 in
theorem tarrylaw14_alive.ok (k : Nat)   (r1 : Bool) (h : tarrylaw14_alive.f k = some r1) :
    VCalls Try.prog 9 [] [] (fun v G own => v = .bool r1 ∧ G = [] ∧ own = []) := by
  refine VCalls.intro Try.func9 rfl (len rfl) fun E hC hW hD => ?_
  unfold tarrylaw14_alive.f at h
  refine VC.seq ?_
  refine VC.region ?_
  refine VL.va (op_assign rfl (ltn rfl)) rfl ?_
  refine VL.done ?_
  refine VN.then ?_
  refine VC.seq ?_
  refine VC.region ?_
  refine VL.va (op_build (vals := []) (vcs := []) (cells := [.int .i64 0, .slice none 0 0]) SI25 rfl .nil (by kernel_rfl) (ltn rfl)) rfl ?_
  refine VL.nilFact' 4 ?_
  replace h := Option.bind_eq_some_iff.1 h
  obtain ⟨⟨t3970, r3971, t3972, t3973⟩, hA3974, h⟩ := h
  dsimp only at h
  refine VL.sC (o_call0 FO5 (outbox_Put.ok k 0 [] 3 7 0 (.slice none 0 0) t3970 r3971 t3972 t3973 hA3974) rfl rfl (ltn rfl) (All_of (.cons (List.mem_of_getElem? (i := 0) rfl) .nil))) rfl ?_
  rintro _ _ _ ⟨v3976, rfl, rfl, rfl⟩
  refine VL.va (op_move rfl (ltn rfl)) rfl ?_
  refine VL.va (op_extract rfl rfl (ltn rfl)) rfl ?_
  refine VL.va (op_extract rfl rfl (ltn rfl)) rfl ?_
  refine VL.va (op_extract rfl rfl (ltn rfl)) rfl ?_
  refine VL.sG (o_alloc Z25 ZL25 (ltn rfl)) rfl ?_
  intro g3977
  refine VL.step1 (o_store 0 2 rfl rfl rfl TI25 (.agg (.c rfl (.f 0 rfl .nil))) rfl (len rfl)) rfl ?_
  refine VL.va (op_assign rfl (ltn rfl)) rfl ?_
  refine VL.va (op_assign rfl (ltn rfl)) rfl ?_
  refine VL.done ?_
  refine VN.then ?_
  refine VC.seq ?_
  refine VC.region ?_
  refine VL.va (op_load 0 2 rfl rfl TI25 rfl (fun h => absurd h (by decide)) (ltn rfl)) rfl ?_
  replace h := Option.bind_eq_some_iff.1 h
  obtain ⟨⟨t3978, r3979, r3980, t3981⟩, hA3982, h⟩ := h
  dsimp only at h
  refine VL.sC (o_call0 FO7 (outbox_Tell.ok k t3970 r3971 0 v3976 t3978 r3979 r3980 t3981 hA3982) rfl rfl (ltn rfl) (All_of (.cons (List.mem_of_getElem? (i := 0) rfl) .nil))) rfl ?_
  rintro _ _ _ ⟨v3984, v3986, rfl, rfl, rfl⟩
  refine VL.va (op_move rfl (ltn rfl)) rfl ?_
  refine VL.va (op_extract rfl rfl (ltn rfl)) rfl ?_
  refine VL.va (op_extract rfl rfl (ltn rfl)) rfl ?_
  refine VL.va (op_extract rfl rfl (ltn rfl)) rfl ?_
  refine VL.sG (o_alloc Z25 ZL25 (ltn rfl)) rfl ?_
  intro g3987
  refine VL.step1 (o_store 0 2 rfl rfl rfl TI25 (.agg (.c rfl (.r 0 rfl .nil))) rfl (len rfl)) rfl ?_
  refine VL.va (op_assign rfl (ltn rfl)) rfl ?_
  refine VL.va (op_assign rfl (ltn rfl)) rfl ?_
  refine VL.done ?_
  refine VN.then ?_
  refine VC.seq ?_
  refine VC.region ?_
  refine VL.va (op_move rfl (ltn rfl)) rfl ?_
  refine VL.letter ((t3973 == 0)) fun b4000 hb4000 => ?_
  refine VL.va (op_cmp rfl rfl (congrArg some hb4000) (ltn rfl)) rfl ?_
  refine VL.va (op_move rfl (ltn rfl)) rfl ?_
  by_cases c4001 : t3973 = 0
  · rw [if_pos c4001] at h
    obtain rfl : b4000 = true := hb4000.symm.trans (beq_iff_eq.2 c4001)
    refine VL.va (op_move rfl (ltn rfl)) rfl ?_
    refine VL.letter ((t3981 == 0)) fun b4002 hb4002 => ?_
    refine VL.va (op_cmp rfl rfl (congrArg some hb4002) (ltn rfl)) rfl ?_
    refine VL.va (op_pick rfl rfl (ltn rfl)) rfl ?_
    refine VL.va (op_move rfl (ltn rfl)) rfl ?_
    by_cases c4003 : t3981 = 0
    · rw [if_pos c4003] at h
      obtain rfl : b4002 = true := hb4002.symm.trans (beq_iff_eq.2 c4003)
      refine VL.va (op_move rfl (ltn rfl)) rfl ?_
      refine VL.letter ((t3972 == 1)) fun b4004 hb4004 => ?_
      refine VL.va (op_cmp rfl rfl (congrArg some hb4004) (ltn rfl)) rfl ?_
      refine VL.va (op_pick rfl rfl (ltn rfl)) rfl ?_
      refine VL.va (op_move rfl (ltn rfl)) rfl ?_
      by_cases c4005 : t3972 = 1
      · rw [if_pos c4005] at h
        obtain rfl : b4004 = true := hb4004.symm.trans (beq_iff_eq.2 c4005)
        refine VL.va (op_move rfl (ltn rfl)) rfl ?_
        refine VL.va (op_len_own (m := r3980.length) 1 lenm Try.underlying23 rfl rfl (ltn rfl)) rfl ?_
        refine VL.letter (((r3980.length : Int) == 1)) fun b4006 hb4006 => ?_
        refine VL.va (op_cmp rfl rfl (congrArg some hb4006) (ltn rfl)) rfl ?_
        refine VL.va (op_pick rfl rfl (ltn rfl)) rfl ?_
        refine VL.va (op_move rfl (ltn rfl)) rfl ?_
        by_cases c4007 : (r3980.length : Int) = 1
        · rw [if_pos c4007] at h
          obtain rfl : b4006 = true := hb4006.symm.trans (beq_iff_eq.2 c4007)
          refine VL.va (op_move rfl (ltn rfl)) rfl ?_
          replace h := Option.bind_eq_some_iff.1 h
          obtain ⟨x4008, hx4008, h⟩ := h
          refine VL.openR (m := r3980.length) 1 lenm rfl (pos_get hx4008) ?_
          rintro g4009 n4010 rfl
          refine VL.va (op_indexAddr Try.underlying23 TI34 rfl rfl (by decide) (lt_get (by decide) hx4008) (add_zero_at _ _) (ltn rfl)) rfl ?_
          refine VL.va (op_fieldAddr FI34_2 rfl (add_at _ _ _) (ltn rfl)) rfl ?_
          refine VL.va (op_load_own (sz := 4) (o := 2) 1 0 1 rfl rfl (get_map hx4008) TI3 rfl (by decide) (ltn rfl)) rfl ?_
          refine VL.letter ((x4008.f2 == 7)) fun b4011 hb4011 => ?_
          refine VL.va (op_cmp rfl rfl (congrArg some hb4011) (ltn rfl)) rfl ?_
          refine VL.va (op_pick rfl rfl (ltn rfl)) rfl ?_
          refine VL.va (op_assign rfl (ltn rfl)) rfl ?_
          refine VL.done ?_
          refine VN.then ?_
          refine VC.ret ?_
          obtain rfl := Option.some.inj h
          subst hb4011
          exact VR.fn (rs := [.tmp 0]) [] [] [] rfl (.tmp rfl .nil) ⟨rfl, rfl, rfl⟩ trivial rfl (by decide)
        · rw [if_neg c4007] at h
          obtain rfl : b4006 = false := hb4006.symm.trans (beq_eq_false_iff_ne.2 c4007)
          refine VL.un rfl rfl (ltn rfl) ?_
          refine VL.un rfl rfl (ltn rfl) ?_
          refine VL.un rfl rfl (ltn rfl) ?_
          refine VL.un rfl rfl (ltn rfl) ?_
          refine VL.un rfl rfl (ltn rfl) ?_
          refine VL.va (op_pick rfl rfl (ltn rfl)) rfl ?_
          refine VL.va (op_assign rfl (ltn rfl)) rfl ?_
          refine VL.done ?_
          refine VN.then ?_
          refine VC.ret ?_
          obtain rfl := Option.some.inj h
          exact VR.fn (rs := [.tmp 0]) [] [] [] rfl (.tmp rfl .nil) ⟨rfl, rfl, rfl⟩ trivial rfl (by decide)
      · rw [if_neg c4005] at h
        obtain rfl : b4004 = false := hb4004.symm.trans (beq_eq_false_iff_ne.2 c4005)
        refine VL.un rfl rfl (ltn rfl) ?_
        refine VL.un rfl rfl (ltn rfl) ?_
        refine VL.un rfl rfl (ltn rfl) ?_
        refine VL.va (op_pick rfl rfl (ltn rfl)) rfl ?_
        refine VL.va (op_move rfl (ltn rfl)) rfl ?_
        refine VL.un rfl rfl (ltn rfl) ?_
        refine VL.un rfl rfl (ltn rfl) ?_
        refine VL.un rfl rfl (ltn rfl) ?_
        refine VL.un rfl rfl (ltn rfl) ?_
        refine VL.un rfl rfl (ltn rfl) ?_
        refine VL.va (op_pick rfl rfl (ltn rfl)) rfl ?_
        refine VL.va (op_assign rfl (ltn rfl)) rfl ?_
        refine VL.done ?_
        refine VN.then ?_
        refine VC.ret ?_
        obtain rfl := Option.some.inj h
        exact VR.fn (rs := [.tmp 0]) [] [] [] rfl (.tmp rfl .nil) ⟨rfl, rfl, rfl⟩ trivial rfl (by decide)
    · rw [if_neg c4003] at h
      obtain rfl : b4002 = false := hb4002.symm.trans (beq_eq_false_iff_ne.2 c4003)
      refine VL.un rfl rfl (ltn rfl) ?_
      refine VL.un rfl rfl (ltn rfl) ?_
      refine VL.va (op_pick rfl rfl (ltn rfl)) rfl ?_
      refine VL.va (op_move rfl (ltn rfl)) rfl ?_
      refine VL.un rfl rfl (ltn rfl) ?_
      refine VL.un rfl rfl (ltn rfl) ?_
      refine VL.un rfl rfl (ltn rfl) ?_
      refine VL.va (op_pick rfl rfl (ltn rfl)) rfl ?_
      refine VL.va (op_move rfl (ltn rfl)) rfl ?_
      refine VL.un rfl rfl (ltn rfl) ?_
      refine VL.un rfl rfl (ltn rfl) ?_
      refine VL.un rfl rfl (ltn rfl) ?_
      refine VL.un rfl rfl (ltn rfl) ?_
      refine VL.un rfl rfl (ltn rfl) ?_
      refine VL.va (op_pick rfl rfl (ltn rfl)) rfl ?_
      refine VL.va (op_assign rfl (ltn rfl)) rfl ?_
      refine VL.done ?_
      refine VN.then ?_
      refine VC.ret ?_
      obtain rfl := Option.some.inj h
      exact VR.fn (rs := [.tmp 0]) [] [] [] rfl (.tmp rfl .nil) ⟨rfl, rfl, rfl⟩ trivial rfl (by decide)
  · rw [if_neg c4001] at h
    obtain rfl : b4000 = false := hb4000.symm.trans (beq_eq_false_iff_ne.2 c4001)
    refine VL.un rfl rfl (ltn rfl) ?_
    refine VL.un rfl rfl (ltn rfl) ?_
    refine VL.va (op_pick rfl rfl (ltn rfl)) rfl ?_
    refine VL.va (op_move rfl (ltn rfl)) rfl ?_
    refine VL.un rfl rfl (ltn rfl) ?_
    refine VL.un rfl rfl (ltn rfl) ?_
    refine VL.va (op_pick rfl rfl (ltn rfl)) rfl ?_
    refine VL.va (op_move rfl (ltn rfl)) rfl ?_
    refine VL.un rfl rfl (ltn rfl) ?_
    refine VL.un rfl rfl (ltn rfl) ?_
    refine VL.un rfl rfl (ltn rfl) ?_
    refine VL.va (op_pick rfl rfl (ltn rfl)) rfl ?_
    refine VL.va (op_move rfl (ltn rfl)) rfl ?_
    refine VL.un rfl rfl (ltn rfl) ?_
    refine VL.un rfl rfl (ltn rfl) ?_
    refine VL.un rfl rfl (ltn rfl) ?_
    refine VL.un rfl rfl (ltn rfl) ?_
    refine VL.un rfl rfl (ltn rfl) ?_
    refine VL.va (op_pick rfl rfl (ltn rfl)) rfl ?_
    refine VL.va (op_assign rfl (ltn rfl)) rfl ?_
    refine VL.done ?_
    refine VN.then ?_
    refine VC.ret ?_
    obtain rfl := Option.some.inj h
    exact VR.fn (rs := [.tmp 0]) [] [] [] rfl (.tmp rfl .nil) ⟨rfl, rfl, rfl⟩ trivial rfl (by decide)

end Go.Proofs.Ytapdeoioenblfaa.POutboxGoes
