/- AskGoes: which asking may be, and what beginning, answering and time makes of any, is as told: the statement's Go function answers true at every input; no further condition. -/
import Derived.Test.YtlkcagbkempaeaaPAskGoesx4
namespace Go.Proofs.Ytlkcagbkempaeaa.Pure
open Go.RowKit Go.Proofs.Ytlkcagbkempaeaa.PAskGoes Go.Proofs.YtlkcagbkempaeaaW.PrintWords Go.Proofs.YtlkcagbkempaeaaW.PrintLast Go.Proofs.YtlkcagbkempaeaaW.PrintMore
set_option linter.unusedSimpArgs false
theorem wf64 {a : Int} (h : (Lit.int .i64 a).wf = true) : -9223372036854775808 ≤ a ∧ a ≤ 9223372036854775807 := by
  simpa [Lit.wf, IntKind.min, IntKind.max, IntKind.signed, IntKind.bits] using h
theorem wrap64_id {a : Int} (h : -9223372036854775808 ≤ a) (h' : a ≤ 9223372036854775807) : wrap64 a = a := by
  unfold wrap64
  omega
/-- Which asking may be. -/
def Rt (s u : Int) : Prop := (s = 0 ∧ u = 0) ∨ (1 ≤ s ∧ s ≤ 3 ∧ 0 ≤ u ∧ u ≤ 1099511627776)
instance (s u : Int) : Decidable (Rt s u) := by unfold Rt; exact inferInstance
theorem time_tells (a : Int) : ask_time.f a = some (decide (0 ≤ a ∧ a ≤ 1099511627776)) := by
  unfold ask_time.f
  split <;> simp <;> omega
theorem right_tells (s u : Int) : ask_Right.f s u = some (decide (Rt s u)) := by
  unfold ask_Right.f Rt
  simp only [time_tells, Option.bind_some, Bool.and_eq_true, beq_iff_eq]
  by_cases h0 : s = 0 ∧ u = 0
  · rw [if_pos h0]
    simp [h0]
  · rw [if_neg h0]
    by_cases h1 : s ≥ 1
    · rw [if_pos h1]
      by_cases h2 : s ≤ 3
      · rw [if_pos h2]
        congr 1
        apply decide_eq_decide.2
        omega
      · rw [if_neg h2]
        congr 1
        symm
        apply decide_eq_false
        omega
    · rw [if_neg h1]
      congr 1
      symm
      apply decide_eq_false
      omega
theorem begin_tells (k : Nat) (s u t : Int) : ask_Begin.f (k + 1) s u t = some (if Rt s u ∧ 0 ≤ t ∧ t ≤ 1099511627776 then (if s = 0 then (1, t, 0) else (0, 0, 10)) else (0, 0, 1)) := by
  simp only [ask_Begin.f, right_tells, time_tells, Option.bind_some, decide_eq_true_eq, ask_Begin.j0]
  by_cases h1 : Rt s u
  · by_cases h2 : 0 ≤ t ∧ t ≤ 1099511627776
    · by_cases h3 : s = 0 <;> simp [h1, h2, h3] <;> split <;> rfl
    · simp [h1, h2]
  · simp [h1]
theorem answer_tells (s u : Int) (y : Bool) (t : Int) : ask_Answer.f s u y t = some (if Rt s u then (if s = 1 then (if u ≤ t then (0, 0, 12) else ((if y = true then 2 else 3), u, 0)) else (0, 0, 10)) else (0, 0, 1)) := by
  simp only [ask_Answer.f, right_tells, Option.bind_some, decide_eq_true_eq]
  by_cases h1 : Rt s u <;> by_cases h2 : s = 1 <;> by_cases h3 : u ≤ t <;> simp [h1, h2, h3] <;> split <;> rfl
theorem lapse_tells (s u t : Int) : ask_Lapse.f s u t = some (if Rt s u then (if (s = 1 ∨ s = 2) ∧ u ≤ t then (3, u, true, 0) else (s, u, false, 0)) else (0, 0, false, 1)) := by
  simp only [ask_Lapse.f, right_tells, Option.bind_some, decide_eq_true_eq]
  by_cases h1 : Rt s u
  · by_cases h2 : s = 1
    · by_cases h3 : u ≤ t <;> simp [h2, h3] <;> split <;> rfl
    · by_cases h4 : s = 2 <;> by_cases h3 : u ≤ t <;> simp [h1, h2, h3, h4] <;> (try split) <;> (try rfl)
  · simp [h1]
theorem may_tells (s u t : Int) : ask_May.f s u t = some (decide (Rt s u ∧ s = 2 ∧ t < u)) := by
  simp only [ask_May.f, right_tells, Option.bind_some, decide_eq_true_eq]
  by_cases h1 : Rt s u
  · rw [if_pos h1]
    by_cases h2 : s = 2
    · rw [if_pos h2]
      congr 1
      exact decide_eq_decide.2 ⟨fun h => ⟨h1, h2, h⟩, fun h => h.2.2⟩
    · rw [if_neg h2]
      congr 1
      exact (decide_eq_false fun h => h2 h.2.1).symm
  · rw [if_neg h1]
    congr 1
    exact (decide_eq_false fun h => h1 h.1).symm
theorem alive_tells (k : Nat) : tarrylaw12_alive.f (k + 2) = some true := by
  simp only [tarrylaw12_alive.f, begin_tells, answer_tells, may_tells, Option.bind_some]
  decide
theorem lright_tells (s u : Int) : tarrylaw12_right.f s u = some (decide (Rt s u)) := by
  unfold tarrylaw12_right.f Rt
  repeat' split
  all_goals (congr 1; first | (symm; apply decide_eq_true; omega) | (symm; apply decide_eq_false; omega) | (apply decide_eq_decide.2; omega))
theorem AskGoes : tarrylaw12_AskGoes.Pure := by
  intro s u t n y hs hu ht hn
  refine ⟨20, ?_⟩
  rw [tarrylaw12_AskGoes.f, begin_tells 19, answer_tells, lapse_tells, right_tells, lright_tells, may_tells, alive_tells 18]
  simp only [Option.bind_some, bne_self_eq_false, Bool.false_eq_true, if_false]
  by_cases hR : Rt s u
  · have hR' := hR
    unfold Rt at hR'
    have hc : s = 0 ∨ s = 1 ∨ s = 2 ∨ s = 3 := by omega
    obtain rfl | rfl | rfl | rfl := hc
    all_goals by_cases h1 : u ≤ n
    all_goals (have h1' : (n < u) = ¬ (u ≤ n) := by simp)
    all_goals by_cases h2 : t < 0
    all_goals by_cases h3 : t > 1099511627776
    all_goals (first | (exfalso; omega) | skip)
    all_goals (have h4 : (0 ≤ t) = ¬ (t < 0) := by simp)
    all_goals (have h5 : (t ≤ 1099511627776) = ¬ (t > 1099511627776) := by simp)
    all_goals cases y
    all_goals simp [hR, h1, h1', h2, h3, h4, h5, tarrylaw12_AskGoes.j0, tarrylaw12_AskGoes.j1, tarrylaw12_AskGoes.j2, tarrylaw12_AskGoes.j3, tarrylaw12_AskGoes.j4, tarrylaw12_AskGoes.j5, tarrylaw12_AskGoes.j6, lright_tells, -gt_iff_lt]
  · simp [hR, tarrylaw12_AskGoes.j0, lright_tells]
end Go.Proofs.Ytlkcagbkempaeaa.Pure
