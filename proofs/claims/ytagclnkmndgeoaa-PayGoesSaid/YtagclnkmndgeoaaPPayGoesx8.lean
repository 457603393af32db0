/- Written by a program of this repo over the kit's print program: what the program's functions do, each as a Lean function, shown of the loaded code; or a statement's row over that; no condition of its own. -/
import Derived.Test.YtagclnkmndgeoaaPPayGoesx0
import Derived.Test.YtagclnkmndgeoaaPPayGoesx5
namespace Go.Proofs.Ytagclnkmndgeoaa.PPayGoes
open Go.RowKit Go.Proofs.YtagclnkmndgeoaaW.PrintWords Go.Proofs.YtagclnkmndgeoaaW.PrintLast Go.Proofs.YtagclnkmndgeoaaW.PrintMore
attribute [local go_sem] max2_int min2_int max_two min_two max_three min_three max_four min_four   -- for this text's walks alone
set_option linter.unusedVariables false
set_option linter.unusedSimpArgs false

/-! ### pay_Renew (by hand: function values) -/
def pay_Renew.f (a0_0 : Int) (a0_1 : Int) (a0_2 : Int) (a0_3 : Int) (a1 : Int) : Option (Int × Int × Int × Int × Int) :=
  if a1 < 0 then some (0, 0, 0, 0, 1) else if a1 > 1099511627776 then some (0, 0, 0, 0, 1) else (pay_Right.f a0_0 a0_1 a0_2 a0_3).bind fun t => if t = true then (if a0_3 = 2 then some (a0_0, a0_1, a1, 1, 0) else some (0, 0, 0, 0, 10)) else some (0, 0, 0, 0, 1)
set_option maxHeartbeats 8000000 in
set_option maxRecDepth 100000 in
theorem pay_Renew.calls (a0_0 : Int) (a0_1 : Int) (a0_2 : Int) (a0_3 : Int) (a1 : Int) (r1 : Int) (r2 : Int) (r3 : Int) (r4 : Int) (r5 : Int) (w : World) (h : pay_Renew.f a0_0 a0_1 a0_2 a0_3 a1 = some (r1, r2, r3, r4, r5)) :
    Calls Try.prog 16 #[.agg #[.int .i64 a0_0, .int .i64 a0_1, .int .i64 a0_2, .int .i64 a0_3], .int .i64 a1] w fun e w' => e = .returned (.tuple #[.agg #[.int .i64 r1, .int .i64 r2, .int .i64 r3, .int .i64 r4], .int .i64 r5]) ∧ Below w.heap.size w w' := by
  have hu23 := Try.underlying23
  unfold pay_Renew.f at h
  by_cases c0 : a1 < 0
  · rw [if_pos c0] at h
    simp only [Option.some.injEq, Prod.mk.injEq] at h
    obtain ⟨rfl, rfl, rfl, rfl, rfl⟩ := h
    go_enter Try.func16, Try.ntmps16
    go_wp2
    all_goals refine bodyPost_ret (v := .tuple #[.agg #[.int .i64 0, .int .i64 0, .int .i64 0, .int .i64 0], .int .i64 1]) (by (simp [results, Try.results16, go_sem]) <;> omega) rfl ⟨rfl, ?_⟩
    all_goals repeat (first | (with_reducible exact Below.refl _ _) | (with_reducible apply below_alloc) | (with_reducible apply pw_below_drewN) | (with_reducible apply below_drew1) | (with_reducible refine below_set ?_ (by first | omega | (simp; done))))
  rw [if_neg c0] at h
  have c0' : 0 ≤ a1 := by omega
  clear c0
  by_cases c9 : a1 > 1099511627776
  · rw [if_pos c9] at h
    simp only [Option.some.injEq, Prod.mk.injEq] at h
    obtain ⟨rfl, rfl, rfl, rfl, rfl⟩ := h
    have c9' : 1099511627776 < a1 := by omega
    have c9d : decide (a1 ≤ 1099511627776) = false := decide_eq_false (by omega)
    clear c9
    go_enter Try.func16, Try.ntmps16
    go_wp2
    all_goals refine bodyPost_ret (v := .tuple #[.agg #[.int .i64 0, .int .i64 0, .int .i64 0, .int .i64 0], .int .i64 1]) (by (simp [results, Try.results16, go_sem]) <;> omega) rfl ⟨rfl, ?_⟩
    all_goals repeat (first | (with_reducible exact Below.refl _ _) | (with_reducible apply below_alloc) | (with_reducible apply pw_below_drewN) | (with_reducible apply below_drew1) | (with_reducible refine below_set ?_ (by first | omega | (simp; done))))
  rw [if_neg c9] at h
  have c9' : a1 ≤ 1099511627776 := by omega
  clear c9
  have h0 := h
  clear h
  obtain ⟨t, hA, h⟩ := Option.bind_eq_some_iff.mp h0
  clear h0
  by_cases c1 : t = true
  · subst c1
    rw [if_pos rfl] at h
    obtain ⟨q1, q2, q3, q4, q5, q6, q7, q8⟩ := pay_asked.right hA
    clear hA
    by_cases c2 : a0_3 = 2
    · rw [if_pos c2] at h
      simp only [Option.some.injEq, Prod.mk.injEq] at h
      obtain ⟨rfl, rfl, rfl, rfl, rfl⟩ := h
      obtain rfl := c2
      clear q7 q8
      go_enter Try.func16, Try.ntmps16
      go_wp2
      go_region
      all_goals go_wp2
      all_goals (first | (refine bodyPost_ret (v := .tuple #[.agg #[.int .i64 a0_0, .int .i64 a0_1, .int .i64 a1, .int .i64 1], .int .i64 0]) (by simp [results, Try.results20, go_sem]) rfl ?_) | ((first | go_end0 | ((try simp only [Exit.inBlock, Exit.then]); refine bodyPost_ret (results_none rfl _ _ _) rfl ?_)); (try dsimp only); go_wp2; refine bodyPost_ret (v := .tuple #[.agg #[.int .i64 a0_0, .int .i64 a0_1, .int .i64 a1, .int .i64 1], .int .i64 0]) (by simp [results, Try.results20, go_sem]) rfl ?_))
      all_goals (try dsimp only)
      all_goals go_wp2
      all_goals refine bodyPost_ret (v := .tuple #[.agg #[.int .i64 a0_0, .int .i64 a0_1, .int .i64 a1, .int .i64 1], .int .i64 0]) (by (simp [results, Try.results16, go_sem]) <;> omega) rfl ⟨rfl, ?_⟩
      all_goals repeat (first | (with_reducible exact Below.refl _ _) | (with_reducible apply below_alloc) | (with_reducible apply pw_below_drewN) | (with_reducible apply below_drew1) | (with_reducible refine below_set ?_ (by first | omega | (simp; done))))
    rw [if_neg c2] at h
    simp only [Option.some.injEq, Prod.mk.injEq] at h
    obtain ⟨rfl, rfl, rfl, rfl, rfl⟩ := h
    have c2b : (a0_3 == 2) = false := by simpa using c2
    clear c2
    go_enter Try.func16, Try.ntmps16
    go_wp2
    all_goals (first | (refine bodyPost_ret (v := .tuple #[.agg #[.int .i64 0, .int .i64 0, .int .i64 0, .int .i64 0], .int .i64 10]) (by simp [results, Try.results20, go_sem]) rfl ?_) | ((first | go_end0 | ((try simp only [Exit.inBlock, Exit.then]); refine bodyPost_ret (results_none rfl _ _ _) rfl ?_)); (try dsimp only); go_wp2; refine bodyPost_ret (v := .tuple #[.agg #[.int .i64 0, .int .i64 0, .int .i64 0, .int .i64 0], .int .i64 10]) (by simp [results, Try.results20, go_sem]) rfl ?_))
    all_goals (try dsimp only)
    all_goals go_wp2
    all_goals refine bodyPost_ret (v := .tuple #[.agg #[.int .i64 0, .int .i64 0, .int .i64 0, .int .i64 0], .int .i64 10]) (by (simp [results, Try.results16, go_sem]) <;> omega) rfl ⟨rfl, ?_⟩
    all_goals repeat (first | (with_reducible exact Below.refl _ _) | (with_reducible apply below_alloc) | (with_reducible apply pw_below_drewN) | (with_reducible apply below_drew1) | (with_reducible refine below_set ?_ (by first | omega | (simp; done))))
  rw [if_neg c1] at h
  replace c1 := Bool.eq_false_iff.mpr c1
  subst c1
  simp only [Option.some.injEq, Prod.mk.injEq] at h
  obtain ⟨rfl, rfl, rfl, rfl, rfl⟩ := h
  have HA := Aside0.mk hA
  clear hA
  go_enter Try.func16, Try.ntmps16
  go_wp2_with (first | (go_at_call 20; (with_reducible refine (pay_asked.no _ _ _ _ _ _ _ HA.out).mono ?_); rintro e w1 ⟨rfl, hb⟩; obtain ⟨hc, hf⟩ := pay_asked.bcell hb; have hz : w.heap.size + 2 < w1.heap.size := (by have := hb.size; simp at this; omega); have HB := Aside0.mk hb; clear hb) | go_in)
  refine bodyPost_ret (v := .tuple #[.agg #[.int .i64 0, .int .i64 0, .int .i64 0, .int .i64 0], .int .i64 1]) (by simp [results, Try.results16, go_sem, hc, hz]) rfl ⟨rfl, ?_⟩
  repeat (first | (with_reducible apply below_drew1) | (with_reducible apply pw_below_drewN) | (with_reducible refine below_set ?_ (by first | omega | (simp; done))))
  refine pay_asked.trans HB.out ?_
  repeat (first | (with_reducible exact Below.refl _ _) | (with_reducible apply below_alloc) | (with_reducible apply pw_below_drewN) | (with_reducible apply below_drew1) | (with_reducible refine below_set ?_ (by first | omega | (simp; done))))

end Go.Proofs.Ytagclnkmndgeoaa.PPayGoes
