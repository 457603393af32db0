import Derived.Test.YtadmbihghbfdbaaPCheckBurstsx2
namespace Go.Proofs.Ytadmbihghbfdbaa.Pure
open Go.RowKit Go.Proofs.Ytadmbihghbfdbaa.PCheckBursts Go.Proofs.YtadmbihghbfdbaaW.PrintWords Go.Proofs.YtadmbihghbfdbaaW.PrintLast Go.Proofs.YtadmbihghbfdbaaW.PrintMore

theorem CheckBursts : tarrylaw02_CheckBursts.Pure := by
  intro a0 a1 a2 _ _ w2
  have h : 0 ≤ a2 ∧ a2 < 4294967296 := by
    have h2 : (decide ((0 : Int) ≤ a2) && decide (a2 ≤ 4294967295)) = true := w2
    rw [Bool.and_eq_true, decide_eq_true_eq, decide_eq_true_eq] at h2
    omega
  exact if_pos h

end Go.Proofs.Ytadmbihghbfdbaa.Pure
