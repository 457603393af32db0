/- Written by a program of this repo over the kit's print program: what the program's functions do, each as a Lean function, shown of the loaded code; or a statement's row over that; no condition of its own. -/
import Derived.Test.YtlmpfogfgefngaaPOrderPartsx0
import Derived.Test.YtlmpfogfgefngaaPOrderPartsx10
namespace Go.Proofs.Ytlmpfogfgefngaa.POrderParts
open Go.RowKit Go.Proofs.YtlmpfogfgefngaaW.PrintWords Go.Proofs.YtlmpfogfgefngaaW.PrintLast Go.Proofs.YtlmpfogfgefngaaW.PrintMore
attribute [local go_sem] max2_int min2_int max_two min_two max_three min_three max_four min_four   -- for this text's walks alone
set_option linter.unusedVariables false
set_option linter.unusedSimpArgs false

/-! ### pay_asked (by hand: what is asked of money that may not be) -/
theorem pay_asked.bcell {W w1 : World} (hb : Below W.heap.size W w1) : (∀ b o, b < W.heap.size → w1.cell? ⟨b, o, none⟩ = W.cell? ⟨b, o, none⟩) ∧ (∀ b o, b < W.heap.size → w1.frozen? ⟨b, o, none⟩ = W.frozen? ⟨b, o, none⟩) :=
  ⟨fun b o h => hb.cell (p := ⟨b, o, none⟩) h, fun b o h => hb.frozen (p := ⟨b, o, none⟩) h⟩
theorem pay_asked.trans {w W w2 : World} (hb : Below W.heap.size W w2) (h : Below w.heap.size w W) : Below w.heap.size w w2 := h.trans (hb.mono h.size)
theorem pay_asked.right {a b c d : Int} (h : pay_Right.f a b c d = some true) : 0 ≤ a ∧ a ≤ 1125899906842624 ∧ 0 ≤ b ∧ b ≤ a ∧ 0 ≤ c ∧ c ≤ 1099511627776 ∧ 1 ≤ d ∧ d ≤ 3 := by
  unfold pay_Right.f pay_time.f at h
  repeat' split at h
  all_goals simp at h
  all_goals (repeat' split at h)
  all_goals simp at h
  all_goals omega
set_option maxHeartbeats 1000000 in
set_option maxRecDepth 100000 in
theorem pay_asked.no (a0 a1 a2 a3 : Int) (x y : Value) (w : World) (h : pay_Right.f a0 a1 a2 a3 = some false) :
    Calls Try.prog 54 #[.agg #[.int .i64 a0, .int .i64 a1, .int .i64 a2, .int .i64 a3], .func (.func 33) #[] #[], x, y] w fun e w' => e = .returned (.tuple #[.agg #[.int .i64 0, .int .i64 0, .int .i64 0, .int .i64 0], .int .i64 1]) ∧ Below w.heap.size w w' := by
  have hu23 := Try.underlying25
  have HA := Aside0.mk h
  clear h
  go_enter Try.func54, Try.ntmps54
  go_wp2_with ((go_at_call 33; (with_reducible refine (pay_Right.calls _ _ _ _ _ _ HA.out).mono ?_); rintro e w1 ⟨rfl, hb⟩; obtain ⟨hc, hf⟩ := pay_asked.bcell hb; have hz : w.heap.size + 2 < w1.heap.size := (by have := hb.size; simp at this; omega); have HB := Aside0.mk hb; clear hb))
  refine bodyPost_ret (v := .tuple #[.agg #[.int .i64 0, .int .i64 0, .int .i64 0, .int .i64 0], .int .i64 1]) (by simp [results, Try.results54, go_sem, hc, hz]) rfl ⟨rfl, ?_⟩
  repeat (first | exact Below.refl _ _ | exact pay_asked.trans HB.out (by repeat (first | exact Below.refl _ _ | apply below_alloc)) | refine below_set ?_ (by first | omega | (simp; done) | (simp; omega)))

/-! ### pay_Catch (by hand: function values) -/
def pay_Catch.f (a0_0 : Int) (a0_1 : Int) (a0_2 : Int) (a0_3 : Int) (a1 : Int) : Option (Int × Int × Int × Int × Int) :=
  if a1 < 0 then some (0, 0, 0, 0, 1) else (pay_Right.f a0_0 a0_1 a0_2 a0_3).bind fun t => if t = true then (if a0_3 = 3 then some (0, 0, 0, 0, 10) else if a1 ≤ a0_0 - a0_1 then some (a0_0, a0_1 + a1, a0_2, a0_3, 0) else some (0, 0, 0, 0, 2)) else some (0, 0, 0, 0, 1)
set_option maxHeartbeats 8000000 in
set_option maxRecDepth 100000 in
theorem pay_Catch.calls (a0_0 : Int) (a0_1 : Int) (a0_2 : Int) (a0_3 : Int) (a1 : Int) (r1 : Int) (r2 : Int) (r3 : Int) (r4 : Int) (r5 : Int) (w : World) (h : pay_Catch.f a0_0 a0_1 a0_2 a0_3 a1 = some (r1, r2, r3, r4, r5)) :
    Calls Try.prog 38 #[.agg #[.int .i64 a0_0, .int .i64 a0_1, .int .i64 a0_2, .int .i64 a0_3], .int .i64 a1] w fun e w' => e = .returned (.tuple #[.agg #[.int .i64 r1, .int .i64 r2, .int .i64 r3, .int .i64 r4], .int .i64 r5]) ∧ Below w.heap.size w w' := by
  have hu23 := Try.underlying25
  unfold pay_Catch.f at h
  by_cases c0 : a1 < 0
  · rw [if_pos c0] at h
    simp only [Option.some.injEq, Prod.mk.injEq] at h
    obtain ⟨rfl, rfl, rfl, rfl, rfl⟩ := h
    go_enter Try.func38, Try.ntmps38
    go_wp2
    all_goals refine bodyPost_ret (v := .tuple #[.agg #[.int .i64 0, .int .i64 0, .int .i64 0, .int .i64 0], .int .i64 1]) (by (simp [results, Try.results38, go_sem]) <;> omega) rfl ⟨rfl, ?_⟩
    all_goals repeat (first | (with_reducible exact Below.refl _ _) | (with_reducible apply below_alloc) | (with_reducible apply pw_below_drewN) | (with_reducible apply below_drew1) | (with_reducible refine below_set ?_ (by first | omega | (simp; done))))
  rw [if_neg c0] at h
  have c0' : 0 ≤ a1 := by omega
  clear c0
  have h0 := h
  clear h
  obtain ⟨t, hA, h⟩ := Option.bind_eq_some_iff.mp h0
  clear h0
  by_cases c1 : t = true
  · subst c1
    rw [if_pos rfl] at h
    obtain ⟨q1, q2, q3, q4, q5, q6, q7, q8⟩ := pay_asked.right hA
    clear hA
    by_cases c2 : a0_3 = 3
    · rw [if_pos c2] at h
      simp only [Option.some.injEq, Prod.mk.injEq] at h
      obtain ⟨rfl, rfl, rfl, rfl, rfl⟩ := h
      obtain rfl := c2
      clear q7 q8
      go_enter Try.func38, Try.ntmps38
      go_wp2
      all_goals (first | (refine bodyPost_ret (v := .tuple #[.agg #[.int .i64 0, .int .i64 0, .int .i64 0, .int .i64 0], .int .i64 10]) (by simp [results, Try.results54, go_sem]) rfl ?_) | ((first | go_end0 | ((try simp only [Exit.inBlock, Exit.then]); refine bodyPost_ret (results_none rfl _ _ _) rfl ?_)); (try dsimp only); go_wp2; refine bodyPost_ret (v := .tuple #[.agg #[.int .i64 0, .int .i64 0, .int .i64 0, .int .i64 0], .int .i64 10]) (by simp [results, Try.results54, go_sem]) rfl ?_))
      all_goals (try dsimp only)
      all_goals go_wp2
      all_goals refine bodyPost_ret (v := .tuple #[.agg #[.int .i64 0, .int .i64 0, .int .i64 0, .int .i64 0], .int .i64 10]) (by (simp [results, Try.results38, go_sem]) <;> omega) rfl ⟨rfl, ?_⟩
      all_goals repeat (first | (with_reducible exact Below.refl _ _) | (with_reducible apply below_alloc) | (with_reducible apply pw_below_drewN) | (with_reducible apply below_drew1) | (with_reducible refine below_set ?_ (by first | omega | (simp; done))))
    rw [if_neg c2] at h
    have c2b : (a0_3 == 3) = false := by simpa using c2
    have e1 : IntKind.i64.wrap (a0_0 - a0_1) = a0_0 - a0_1 := IntWalk.i64_in _ (by omega)
    have q9 : 0 ≤ a0_0 - a0_1 := by omega
    have q10 : a0_0 - a0_1 ≤ 1125899906842624 := by omega
    clear c2
    by_cases c3 : a1 ≤ a0_0 - a0_1
    · rw [if_pos c3] at h
      simp only [Option.some.injEq, Prod.mk.injEq] at h
      obtain ⟨rfl, rfl, rfl, rfl, rfl⟩ := h
      have q11 : 0 ≤ a0_1 + a1 := by omega
      have q12 : a0_1 + a1 ≤ 1125899906842624 := by omega
      have e2 : IntKind.i64.wrap (a0_1 + a1) = a0_1 + a1 := IntWalk.i64_in _ (by omega)
      go_enter Try.func38, Try.ntmps38
      go_wp2
      go_region
      all_goals go_wp2
      all_goals (first | (refine bodyPost_ret (v := .tuple #[.agg #[.int .i64 a0_0, .int .i64 (a0_1 + a1), .int .i64 a0_2, .int .i64 a0_3], .int .i64 0]) (by simp [results, Try.results54, go_sem]) rfl ?_) | ((first | go_end0 | ((try simp only [Exit.inBlock, Exit.then]); refine bodyPost_ret (results_none rfl _ _ _) rfl ?_)); (try dsimp only); go_wp2; refine bodyPost_ret (v := .tuple #[.agg #[.int .i64 a0_0, .int .i64 (a0_1 + a1), .int .i64 a0_2, .int .i64 a0_3], .int .i64 0]) (by simp [results, Try.results54, go_sem]) rfl ?_))
      all_goals (try dsimp only)
      all_goals go_wp2
      all_goals refine bodyPost_ret (v := .tuple #[.agg #[.int .i64 a0_0, .int .i64 (a0_1 + a1), .int .i64 a0_2, .int .i64 a0_3], .int .i64 0]) (by (simp [results, Try.results38, go_sem]) <;> omega) rfl ⟨rfl, ?_⟩
      all_goals repeat (first | (with_reducible exact Below.refl _ _) | (with_reducible apply below_alloc) | (with_reducible apply pw_below_drewN) | (with_reducible apply below_drew1) | (with_reducible refine below_set ?_ (by first | omega | (simp; done))))
    rw [if_neg c3] at h
    simp only [Option.some.injEq, Prod.mk.injEq] at h
    obtain ⟨rfl, rfl, rfl, rfl, rfl⟩ := h
    have c3' : a0_0 - a0_1 < a1 := by omega
    clear c3
    go_enter Try.func38, Try.ntmps38
    go_wp2
    all_goals (first | (refine bodyPost_ret (v := .tuple #[.agg #[.int .i64 0, .int .i64 0, .int .i64 0, .int .i64 0], .int .i64 2]) (by simp [results, Try.results54, go_sem]) rfl ?_) | ((first | go_end0 | ((try simp only [Exit.inBlock, Exit.then]); refine bodyPost_ret (results_none rfl _ _ _) rfl ?_)); (try dsimp only); go_wp2; refine bodyPost_ret (v := .tuple #[.agg #[.int .i64 0, .int .i64 0, .int .i64 0, .int .i64 0], .int .i64 2]) (by simp [results, Try.results54, go_sem]) rfl ?_))
    all_goals (try dsimp only)
    all_goals go_wp2
    all_goals refine bodyPost_ret (v := .tuple #[.agg #[.int .i64 0, .int .i64 0, .int .i64 0, .int .i64 0], .int .i64 2]) (by (simp [results, Try.results38, go_sem]) <;> omega) rfl ⟨rfl, ?_⟩
    all_goals repeat (first | (with_reducible exact Below.refl _ _) | (with_reducible apply below_alloc) | (with_reducible apply pw_below_drewN) | (with_reducible apply below_drew1) | (with_reducible refine below_set ?_ (by first | omega | (simp; done))))
  rw [if_neg c1] at h
  replace c1 := Bool.eq_false_iff.mpr c1
  subst c1
  simp only [Option.some.injEq, Prod.mk.injEq] at h
  obtain ⟨rfl, rfl, rfl, rfl, rfl⟩ := h
  have HA := Aside0.mk hA
  clear hA
  go_enter Try.func38, Try.ntmps38
  go_wp2_with (first | (go_at_call 54; (with_reducible refine (pay_asked.no _ _ _ _ _ _ _ HA.out).mono ?_); rintro e w1 ⟨rfl, hb⟩; obtain ⟨hc, hf⟩ := pay_asked.bcell hb; have hz : w.heap.size + 2 < w1.heap.size := (by have := hb.size; simp at this; omega); have HB := Aside0.mk hb; clear hb) | go_in)
  refine bodyPost_ret (v := .tuple #[.agg #[.int .i64 0, .int .i64 0, .int .i64 0, .int .i64 0], .int .i64 1]) (by simp [results, Try.results38, go_sem, hc, hz]) rfl ⟨rfl, ?_⟩
  repeat (first | (with_reducible apply below_drew1) | (with_reducible apply pw_below_drewN) | (with_reducible refine below_set ?_ (by first | omega | (simp; done))))
  refine pay_asked.trans HB.out ?_
  repeat (first | (with_reducible exact Below.refl _ _) | (with_reducible apply below_alloc) | (with_reducible apply pw_below_drewN) | (with_reducible apply below_drew1) | (with_reducible refine below_set ?_ (by first | omega | (simp; done))))

/-! ### pay_Close (by hand: function values) -/
def pay_Close.f (a0_0 : Int) (a0_1 : Int) (a0_2 : Int) (a0_3 : Int) : Option (Int × Int × Int × Int × Int) :=
  (pay_Right.f a0_0 a0_1 a0_2 a0_3).bind fun t => if t = true then (if a0_3 = 3 then some (0, 0, 0, 0, 10) else some (a0_0, a0_1, a0_2, 3, 0)) else some (0, 0, 0, 0, 1)
set_option maxHeartbeats 8000000 in
set_option maxRecDepth 100000 in
theorem pay_Close.calls (a0_0 : Int) (a0_1 : Int) (a0_2 : Int) (a0_3 : Int) (r1 : Int) (r2 : Int) (r3 : Int) (r4 : Int) (r5 : Int) (w : World) (h : pay_Close.f a0_0 a0_1 a0_2 a0_3 = some (r1, r2, r3, r4, r5)) :
    Calls Try.prog 58 #[.agg #[.int .i64 a0_0, .int .i64 a0_1, .int .i64 a0_2, .int .i64 a0_3]] w fun e w' => e = .returned (.tuple #[.agg #[.int .i64 r1, .int .i64 r2, .int .i64 r3, .int .i64 r4], .int .i64 r5]) ∧ Below w.heap.size w w' := by
  have hu23 := Try.underlying25
  unfold pay_Close.f at h
  have h0 := h
  clear h
  obtain ⟨t, hA, h⟩ := Option.bind_eq_some_iff.mp h0
  clear h0
  by_cases c1 : t = true
  · subst c1
    rw [if_pos rfl] at h
    obtain ⟨q1, q2, q3, q4, q5, q6, q7, q8⟩ := pay_asked.right hA
    clear hA
    by_cases c2 : a0_3 = 3
    · rw [if_pos c2] at h
      simp only [Option.some.injEq, Prod.mk.injEq] at h
      obtain ⟨rfl, rfl, rfl, rfl, rfl⟩ := h
      obtain rfl := c2
      clear q7 q8
      go_enter Try.func58, Try.ntmps58
      go_wp2
      all_goals (first | (refine bodyPost_ret (v := .tuple #[.agg #[.int .i64 0, .int .i64 0, .int .i64 0, .int .i64 0], .int .i64 10]) (by simp [results, Try.results54, go_sem]) rfl ?_) | ((first | go_end0 | ((try simp only [Exit.inBlock, Exit.then]); refine bodyPost_ret (results_none rfl _ _ _) rfl ?_)); (try dsimp only); go_wp2; refine bodyPost_ret (v := .tuple #[.agg #[.int .i64 0, .int .i64 0, .int .i64 0, .int .i64 0], .int .i64 10]) (by simp [results, Try.results54, go_sem]) rfl ?_))
      all_goals (try dsimp only)
      all_goals go_wp2
      all_goals refine bodyPost_ret (v := .tuple #[.agg #[.int .i64 0, .int .i64 0, .int .i64 0, .int .i64 0], .int .i64 10]) (by (simp [results, Try.results58, go_sem]) <;> omega) rfl ⟨rfl, ?_⟩
      all_goals repeat (first | (with_reducible exact Below.refl _ _) | (with_reducible apply below_alloc) | (with_reducible apply pw_below_drewN) | (with_reducible apply below_drew1) | (with_reducible refine below_set ?_ (by first | omega | (simp; done))))
    rw [if_neg c2] at h
    simp only [Option.some.injEq, Prod.mk.injEq] at h
    obtain ⟨rfl, rfl, rfl, rfl, rfl⟩ := h
    have c2b : (a0_3 == 3) = false := by simpa using c2
    have c2c : (a0_3 != 3) = true := by simpa using c2
    clear c2
    go_enter Try.func58, Try.ntmps58
    go_wp2
    all_goals (first | (refine bodyPost_ret (v := .tuple #[.agg #[.int .i64 a0_0, .int .i64 a0_1, .int .i64 a0_2, .int .i64 3], .int .i64 0]) (by simp [results, Try.results54, go_sem]) rfl ?_) | ((first | go_end0 | ((try simp only [Exit.inBlock, Exit.then]); refine bodyPost_ret (results_none rfl _ _ _) rfl ?_)); (try dsimp only); go_wp2; refine bodyPost_ret (v := .tuple #[.agg #[.int .i64 a0_0, .int .i64 a0_1, .int .i64 a0_2, .int .i64 3], .int .i64 0]) (by simp [results, Try.results54, go_sem]) rfl ?_))
    all_goals (try dsimp only)
    all_goals go_wp2
    all_goals refine bodyPost_ret (v := .tuple #[.agg #[.int .i64 a0_0, .int .i64 a0_1, .int .i64 a0_2, .int .i64 3], .int .i64 0]) (by (simp [results, Try.results58, go_sem]) <;> omega) rfl ⟨rfl, ?_⟩
    all_goals repeat (first | (with_reducible exact Below.refl _ _) | (with_reducible apply below_alloc) | (with_reducible apply pw_below_drewN) | (with_reducible apply below_drew1) | (with_reducible refine below_set ?_ (by first | omega | (simp; done))))
  rw [if_neg c1] at h
  replace c1 := Bool.eq_false_iff.mpr c1
  subst c1
  simp only [Option.some.injEq, Prod.mk.injEq] at h
  obtain ⟨rfl, rfl, rfl, rfl, rfl⟩ := h
  have HA := Aside0.mk hA
  clear hA
  go_enter Try.func58, Try.ntmps58
  go_wp2_with (first | (go_at_call 54; (with_reducible refine (pay_asked.no _ _ _ _ _ _ _ HA.out).mono ?_); rintro e w1 ⟨rfl, hb⟩; obtain ⟨hc, hf⟩ := pay_asked.bcell hb; have hz : w.heap.size + 1 < w1.heap.size := (by have := hb.size; simp at this; omega); have HB := Aside0.mk hb; clear hb) | go_in)
  refine bodyPost_ret (v := .tuple #[.agg #[.int .i64 0, .int .i64 0, .int .i64 0, .int .i64 0], .int .i64 1]) (by simp [results, Try.results58, go_sem, hc, hz]) rfl ⟨rfl, ?_⟩
  repeat (first | (with_reducible apply below_drew1) | (with_reducible apply pw_below_drewN) | (with_reducible refine below_set ?_ (by first | omega | (simp; done))))
  refine pay_asked.trans HB.out ?_
  repeat (first | (with_reducible exact Below.refl _ _) | (with_reducible apply below_alloc) | (with_reducible apply pw_below_drewN) | (with_reducible apply below_drew1) | (with_reducible refine below_set ?_ (by first | omega | (simp; done))))

end Go.Proofs.Ytlmpfogfgefngaa.POrderParts
