/- Written by a program of this repo over the kit's print program: what the program's functions do, each as a Lean function, shown of the loaded code; or a statement's row over that; no condition of its own. -/
import Derived.Test.YtagclnkmndgeoaaPPayGoesx0
import Derived.Test.YtagclnkmndgeoaaPPayGoesx5
namespace Go.Proofs.Ytagclnkmndgeoaa.PPayGoes
open Go.RowKit Go.Proofs.YtagclnkmndgeoaaW.PrintWords Go.Proofs.YtagclnkmndgeoaaW.PrintLast Go.Proofs.YtagclnkmndgeoaaW.PrintMore
attribute [local go_sem] max2_int min2_int max_two min_two max_three min_three max_four min_four   -- for this text's walks alone
set_option linter.unusedVariables false
set_option linter.unusedSimpArgs false

/-! ### pay_Lapse (by hand: function values) -/
def pay_Lapse.f (a0_0 : Int) (a0_1 : Int) (a0_2 : Int) (a0_3 : Int) (a1 : Int) : Option (Int × Int × Int × Int × Bool × Int) :=
  (pay_Right.f a0_0 a0_1 a0_2 a0_3).bind fun t => if t = true then (if a0_3 = 1 then (if a0_2 ≤ a1 then some (a0_0, a0_1, a0_2, 2, true, 0) else some (a0_0, a0_1, a0_2, 1, false, 0)) else some (a0_0, a0_1, a0_2, a0_3, false, 0)) else some (0, 0, 0, 0, false, 1)
set_option maxHeartbeats 8000000 in
set_option maxRecDepth 100000 in
theorem pay_Lapse.calls (a0_0 : Int) (a0_1 : Int) (a0_2 : Int) (a0_3 : Int) (a1 : Int) (r1 : Int) (r2 : Int) (r3 : Int) (r4 : Int) (r5 : Bool) (r6 : Int) (w : World) (h : pay_Lapse.f a0_0 a0_1 a0_2 a0_3 a1 = some (r1, r2, r3, r4, r5, r6)) :
    Calls Try.prog 14 #[.agg #[.int .i64 a0_0, .int .i64 a0_1, .int .i64 a0_2, .int .i64 a0_3], .int .i64 a1] w fun e w' => e = .returned (.tuple #[.agg #[.int .i64 r1, .int .i64 r2, .int .i64 r3, .int .i64 r4], .bool r5, .int .i64 r6]) ∧ Below w.heap.size w w' := by
  have hu23 := Try.underlying23
  unfold pay_Lapse.f at h
  have h0 := h
  clear h
  obtain ⟨t, hA, h⟩ := Option.bind_eq_some_iff.mp h0
  clear h0
  by_cases c1 : t = true
  · subst c1
    rw [if_pos rfl] at h
    obtain ⟨q1, q2, q3, q4, q5, q6, q7, q8⟩ := pay_asked.right hA
    clear hA
    by_cases c2 : a0_3 = 1
    · rw [if_pos c2] at h
      obtain rfl := c2
      clear q7 q8
      by_cases c3 : a0_2 ≤ a1
      · rw [if_pos c3] at h
        simp only [Option.some.injEq, Prod.mk.injEq] at h
        obtain ⟨rfl, rfl, rfl, rfl, rfl, rfl⟩ := h
        go_enter Try.func14, Try.ntmps14
        go_wp2
        go_region
        all_goals go_wp2
        all_goals (first | (refine bodyPost_ret (v := .tuple #[.agg #[.int .i64 a0_0, .int .i64 a0_1, .int .i64 a0_2, .int .i64 2], .int .i64 0]) (by simp [results, Try.results20, go_sem]) rfl ?_) | ((first | go_end0 | ((try simp only [Exit.inBlock, Exit.then]); refine bodyPost_ret (results_none rfl _ _ _) rfl ?_)); (try dsimp only); go_wp2; refine bodyPost_ret (v := .tuple #[.agg #[.int .i64 a0_0, .int .i64 a0_1, .int .i64 a0_2, .int .i64 2], .int .i64 0]) (by simp [results, Try.results20, go_sem]) rfl ?_))
        all_goals (try dsimp only)
        all_goals go_wp2
        all_goals go_region
        all_goals go_wp2
        all_goals refine bodyPost_ret (v := .tuple #[.agg #[.int .i64 a0_0, .int .i64 a0_1, .int .i64 a0_2, .int .i64 2], .bool true, .int .i64 0]) (by (simp [results, Try.results14, go_sem]) <;> omega) rfl ⟨rfl, ?_⟩
        all_goals repeat (first | (with_reducible exact Below.refl _ _) | (with_reducible apply below_alloc) | (with_reducible apply pw_below_drewN) | (with_reducible apply below_drew1) | (with_reducible refine below_set ?_ (by first | omega | (simp; done))))
      rw [if_neg c3] at h
      simp only [Option.some.injEq, Prod.mk.injEq] at h
      obtain ⟨rfl, rfl, rfl, rfl, rfl, rfl⟩ := h
      have c3' : a1 < a0_2 := by omega
      clear c3
      go_enter Try.func14, Try.ntmps14
      go_wp2
      go_region
      all_goals go_wp2
      all_goals (first | (refine bodyPost_ret (v := .tuple #[.agg #[.int .i64 a0_0, .int .i64 a0_1, .int .i64 a0_2, .int .i64 1], .int .i64 0]) (by simp [results, Try.results20, go_sem]) rfl ?_) | ((first | go_end0 | ((try simp only [Exit.inBlock, Exit.then]); refine bodyPost_ret (results_none rfl _ _ _) rfl ?_)); (try dsimp only); go_wp2; refine bodyPost_ret (v := .tuple #[.agg #[.int .i64 a0_0, .int .i64 a0_1, .int .i64 a0_2, .int .i64 1], .int .i64 0]) (by simp [results, Try.results20, go_sem]) rfl ?_))
      all_goals (try dsimp only)
      all_goals go_wp2
      all_goals go_region
      all_goals go_wp2
      all_goals refine bodyPost_ret (v := .tuple #[.agg #[.int .i64 a0_0, .int .i64 a0_1, .int .i64 a0_2, .int .i64 1], .bool false, .int .i64 0]) (by (simp [results, Try.results14, go_sem]) <;> omega) rfl ⟨rfl, ?_⟩
      all_goals repeat (first | (with_reducible exact Below.refl _ _) | (with_reducible apply below_alloc) | (with_reducible apply pw_below_drewN) | (with_reducible apply below_drew1) | (with_reducible refine below_set ?_ (by first | omega | (simp; done))))
    rw [if_neg c2] at h
    simp only [Option.some.injEq, Prod.mk.injEq] at h
    obtain ⟨rfl, rfl, rfl, rfl, rfl, rfl⟩ := h
    have c2b : (a0_3 == 1) = false := by simpa using c2
    clear c2
    go_enter Try.func14, Try.ntmps14
    go_wp2
    go_region
    all_goals go_wp2
    all_goals (first | (refine bodyPost_ret (v := .tuple #[.agg #[.int .i64 a0_0, .int .i64 a0_1, .int .i64 a0_2, .int .i64 a0_3], .int .i64 0]) (by simp [results, Try.results20, go_sem]) rfl ?_) | ((first | go_end0 | ((try simp only [Exit.inBlock, Exit.then]); refine bodyPost_ret (results_none rfl _ _ _) rfl ?_)); (try dsimp only); go_wp2; refine bodyPost_ret (v := .tuple #[.agg #[.int .i64 a0_0, .int .i64 a0_1, .int .i64 a0_2, .int .i64 a0_3], .int .i64 0]) (by simp [results, Try.results20, go_sem]) rfl ?_))
    all_goals (try dsimp only)
    all_goals go_wp2
    all_goals go_region
    all_goals go_wp2
    all_goals refine bodyPost_ret (v := .tuple #[.agg #[.int .i64 a0_0, .int .i64 a0_1, .int .i64 a0_2, .int .i64 a0_3], .bool false, .int .i64 0]) (by (simp [results, Try.results14, go_sem]) <;> omega) rfl ⟨rfl, ?_⟩
    all_goals repeat (first | (with_reducible exact Below.refl _ _) | (with_reducible apply below_alloc) | (with_reducible apply pw_below_drewN) | (with_reducible apply below_drew1) | (with_reducible refine below_set ?_ (by first | omega | (simp; done))))
  rw [if_neg c1] at h
  replace c1 := Bool.eq_false_iff.mpr c1
  subst c1
  simp only [Option.some.injEq, Prod.mk.injEq] at h
  obtain ⟨rfl, rfl, rfl, rfl, rfl, rfl⟩ := h
  have HA := Aside0.mk hA
  clear hA
  go_enter Try.func14, Try.ntmps14
  go_wp2_with (first | (go_at_call 20; (with_reducible refine (pay_asked.no _ _ _ _ _ _ _ HA.out).mono ?_); rintro e w1 ⟨rfl, hb⟩; obtain ⟨hc, hf⟩ := pay_asked.bcell hb; have hz : w.heap.size + 3 < w1.heap.size := (by have := hb.size; simp at this; omega); have HB := Aside0.mk hb; clear hb; have k0 : w1.cell? ⟨w.heap.size, 0, none⟩ = some (.int .i64 a0_0) := (hc _ _ (by first | (simp; done) | (simp; omega))).trans (by go_simp); have k1 : w1.cell? ⟨w.heap.size, 1, none⟩ = some (.int .i64 a0_1) := (hc _ _ (by first | (simp; done) | (simp; omega))).trans (by go_simp); have k2 : w1.cell? ⟨w.heap.size, 2, none⟩ = some (.int .i64 a0_2) := (hc _ _ (by first | (simp; done) | (simp; omega))).trans (by go_simp); have k3 : w1.cell? ⟨w.heap.size, 3, none⟩ = some (.int .i64 a0_3) := (hc _ _ (by first | (simp; done) | (simp; omega))).trans (by go_simp); have k10 : w1.cell? ⟨w.heap.size + 1 + 1, 0, none⟩ = some (.int .i64 0) := (hc _ _ (by first | (simp; done) | (simp; omega))).trans (by go_simp); have k11 : w1.cell? ⟨w.heap.size + 1 + 1, 1, none⟩ = some (.int .i64 0) := (hc _ _ (by first | (simp; done) | (simp; omega))).trans (by go_simp); have k12 : w1.cell? ⟨w.heap.size + 1 + 1, 2, none⟩ = some (.int .i64 0) := (hc _ _ (by first | (simp; done) | (simp; omega))).trans (by go_simp); have k13 : w1.cell? ⟨w.heap.size + 1 + 1, 3, none⟩ = some (.int .i64 0) := (hc _ _ (by first | (simp; done) | (simp; omega))).trans (by go_simp); have k7 : w1.cell? ⟨w.heap.size + 1 + 1 + 1, 0, none⟩ = some (.bool false) := (hc _ _ (by first | (simp; done) | (simp; omega))).trans (by go_simp); clear hc) | go_in)
  go_region
  all_goals go_wp2
  refine bodyPost_ret (v := .tuple #[.agg #[.int .i64 0, .int .i64 0, .int .i64 0, .int .i64 0], .bool false, .int .i64 1]) (by simp [results, Try.results14, go_sem, k10, k11, k12, k13]) rfl ⟨rfl, ?_⟩
  repeat (first | (with_reducible apply below_drew1) | (with_reducible apply pw_below_drewN) | (with_reducible refine below_set ?_ (by first | omega | (simp; done))))
  refine pay_asked.trans HB.out ?_
  repeat (first | (with_reducible exact Below.refl _ _) | (with_reducible apply below_alloc) | (with_reducible apply pw_below_drewN) | (with_reducible apply below_drew1) | (with_reducible refine below_set ?_ (by first | omega | (simp; done))))

/-! ### pay_Close (by hand: function values) -/
def pay_Close.f (a0_0 : Int) (a0_1 : Int) (a0_2 : Int) (a0_3 : Int) : Option (Int × Int × Int × Int × Int) :=
  (pay_Right.f a0_0 a0_1 a0_2 a0_3).bind fun t => if t = true then (if a0_3 = 3 then some (0, 0, 0, 0, 10) else some (a0_0, a0_1, a0_2, 3, 0)) else some (0, 0, 0, 0, 1)
set_option maxHeartbeats 8000000 in
set_option maxRecDepth 100000 in
theorem pay_Close.calls (a0_0 : Int) (a0_1 : Int) (a0_2 : Int) (a0_3 : Int) (r1 : Int) (r2 : Int) (r3 : Int) (r4 : Int) (r5 : Int) (w : World) (h : pay_Close.f a0_0 a0_1 a0_2 a0_3 = some (r1, r2, r3, r4, r5)) :
    Calls Try.prog 15 #[.agg #[.int .i64 a0_0, .int .i64 a0_1, .int .i64 a0_2, .int .i64 a0_3]] w fun e w' => e = .returned (.tuple #[.agg #[.int .i64 r1, .int .i64 r2, .int .i64 r3, .int .i64 r4], .int .i64 r5]) ∧ Below w.heap.size w w' := by
  have hu23 := Try.underlying23
  unfold pay_Close.f at h
  have h0 := h
  clear h
  obtain ⟨t, hA, h⟩ := Option.bind_eq_some_iff.mp h0
  clear h0
  by_cases c1 : t = true
  · subst c1
    rw [if_pos rfl] at h
    obtain ⟨q1, q2, q3, q4, q5, q6, q7, q8⟩ := pay_asked.right hA
    clear hA
    by_cases c2 : a0_3 = 3
    · rw [if_pos c2] at h
      simp only [Option.some.injEq, Prod.mk.injEq] at h
      obtain ⟨rfl, rfl, rfl, rfl, rfl⟩ := h
      obtain rfl := c2
      clear q7 q8
      go_enter Try.func15, Try.ntmps15
      go_wp2
      all_goals (first | (refine bodyPost_ret (v := .tuple #[.agg #[.int .i64 0, .int .i64 0, .int .i64 0, .int .i64 0], .int .i64 10]) (by simp [results, Try.results20, go_sem]) rfl ?_) | ((first | go_end0 | ((try simp only [Exit.inBlock, Exit.then]); refine bodyPost_ret (results_none rfl _ _ _) rfl ?_)); (try dsimp only); go_wp2; refine bodyPost_ret (v := .tuple #[.agg #[.int .i64 0, .int .i64 0, .int .i64 0, .int .i64 0], .int .i64 10]) (by simp [results, Try.results20, go_sem]) rfl ?_))
      all_goals (try dsimp only)
      all_goals go_wp2
      all_goals refine bodyPost_ret (v := .tuple #[.agg #[.int .i64 0, .int .i64 0, .int .i64 0, .int .i64 0], .int .i64 10]) (by (simp [results, Try.results15, go_sem]) <;> omega) rfl ⟨rfl, ?_⟩
      all_goals repeat (first | (with_reducible exact Below.refl _ _) | (with_reducible apply below_alloc) | (with_reducible apply pw_below_drewN) | (with_reducible apply below_drew1) | (with_reducible refine below_set ?_ (by first | omega | (simp; done))))
    rw [if_neg c2] at h
    simp only [Option.some.injEq, Prod.mk.injEq] at h
    obtain ⟨rfl, rfl, rfl, rfl, rfl⟩ := h
    have c2b : (a0_3 == 3) = false := by simpa using c2
    have c2c : (a0_3 != 3) = true := by simpa using c2
    clear c2
    go_enter Try.func15, Try.ntmps15
    go_wp2
    all_goals (first | (refine bodyPost_ret (v := .tuple #[.agg #[.int .i64 a0_0, .int .i64 a0_1, .int .i64 a0_2, .int .i64 3], .int .i64 0]) (by simp [results, Try.results20, go_sem]) rfl ?_) | ((first | go_end0 | ((try simp only [Exit.inBlock, Exit.then]); refine bodyPost_ret (results_none rfl _ _ _) rfl ?_)); (try dsimp only); go_wp2; refine bodyPost_ret (v := .tuple #[.agg #[.int .i64 a0_0, .int .i64 a0_1, .int .i64 a0_2, .int .i64 3], .int .i64 0]) (by simp [results, Try.results20, go_sem]) rfl ?_))
    all_goals (try dsimp only)
    all_goals go_wp2
    all_goals refine bodyPost_ret (v := .tuple #[.agg #[.int .i64 a0_0, .int .i64 a0_1, .int .i64 a0_2, .int .i64 3], .int .i64 0]) (by (simp [results, Try.results15, go_sem]) <;> omega) rfl ⟨rfl, ?_⟩
    all_goals repeat (first | (with_reducible exact Below.refl _ _) | (with_reducible apply below_alloc) | (with_reducible apply pw_below_drewN) | (with_reducible apply below_drew1) | (with_reducible refine below_set ?_ (by first | omega | (simp; done))))
  rw [if_neg c1] at h
  replace c1 := Bool.eq_false_iff.mpr c1
  subst c1
  simp only [Option.some.injEq, Prod.mk.injEq] at h
  obtain ⟨rfl, rfl, rfl, rfl, rfl⟩ := h
  have HA := Aside0.mk hA
  clear hA
  go_enter Try.func15, Try.ntmps15
  go_wp2_with (first | (go_at_call 20; (with_reducible refine (pay_asked.no _ _ _ _ _ _ _ HA.out).mono ?_); rintro e w1 ⟨rfl, hb⟩; obtain ⟨hc, hf⟩ := pay_asked.bcell hb; have hz : w.heap.size + 1 < w1.heap.size := (by have := hb.size; simp at this; omega); have HB := Aside0.mk hb; clear hb) | go_in)
  refine bodyPost_ret (v := .tuple #[.agg #[.int .i64 0, .int .i64 0, .int .i64 0, .int .i64 0], .int .i64 1]) (by simp [results, Try.results15, go_sem, hc, hz]) rfl ⟨rfl, ?_⟩
  repeat (first | (with_reducible apply below_drew1) | (with_reducible apply pw_below_drewN) | (with_reducible refine below_set ?_ (by first | omega | (simp; done))))
  refine pay_asked.trans HB.out ?_
  repeat (first | (with_reducible exact Below.refl _ _) | (with_reducible apply below_alloc) | (with_reducible apply pw_below_drewN) | (with_reducible apply below_drew1) | (with_reducible refine below_set ?_ (by first | omega | (simp; done))))

end Go.Proofs.Ytagclnkmndgeoaa.PPayGoes
