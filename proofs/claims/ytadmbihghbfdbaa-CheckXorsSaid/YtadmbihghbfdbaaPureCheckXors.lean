import Derived.Test.YtadmbihghbfdbaaPCheckXorsx1
namespace Go.Proofs.Ytadmbihghbfdbaa.Pure
open Go.RowKit Go.Proofs.Ytadmbihghbfdbaa.PCheckXors Go.Proofs.YtadmbihghbfdbaaW.PrintWords Go.Proofs.YtadmbihghbfdbaaW.PrintLast Go.Proofs.YtadmbihghbfdbaaW.PrintMore

theorem CheckXors : tarrylaw02_CheckXors.Pure := by
  exact fun _ _ _ _ _ _ => rfl

end Go.Proofs.Ytadmbihghbfdbaa.Pure
