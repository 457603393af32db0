import Derived.Test.YtadmbihghbfdbaaPCheckSumsx2
namespace Go.Proofs.Ytadmbihghbfdbaa.Pure
open Go.RowKit Go.Proofs.Ytadmbihghbfdbaa.PCheckSums Go.Proofs.YtadmbihghbfdbaaW.PrintWords Go.Proofs.YtadmbihghbfdbaaW.PrintLast Go.Proofs.YtadmbihghbfdbaaW.PrintMore
theorem CheckSums : tarrylaw02_CheckSums.Pure := by
  intro a0 a1 w0 _
  have h : 0 ≤ a0 ∧ a0 < 4294967296 := by
    have h2 : (decide ((0 : Int) ≤ a0) && decide (a0 ≤ 4294967295)) = true := w0
    rw [Bool.and_eq_true, decide_eq_true_eq, decide_eq_true_eq] at h2
    omega
  exact if_pos h
end Go.Proofs.Ytadmbihghbfdbaa.Pure
