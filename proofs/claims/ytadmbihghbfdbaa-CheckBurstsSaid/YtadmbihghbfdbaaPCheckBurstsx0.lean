/- Written by a program of this repo over the kit's print program: what the program's functions do, each as a Lean function, shown of the loaded code; or a statement's row over that; no condition of its own. -/
import Derived.Test.YtadmbihghbfdbaaProg
import Derived.Below
import Derived.Deep.Draws
import Derived.Deep.AppendLies
import Derived.Maps.AppendAt
import Derived.OwnWalk
import Derived.Laws.BytesArg
import Derived.Laws.MakeOwn
import Derived.Laws.OwnMore
import Derived.Deep.OwnRows
import Derived.Tactics
import Derived.Lib.ConvBytes
import Derived.Laws.Slices
import Derived.WalkKit
import Derived.KernelRfl
import Derived.RowKit3
import Derived.Deep.LoopGhost
import Derived.Deep.QuietTactic
import Derived.BigQuiet
import Derived.WideLaws
import Derived.Deep.DeepCutAuto
import Derived.Deep.CutBlock
import Derived.Deep.RegionHeld3
import Derived.Laws.Rows
import Derived.Lib.AppendStr
import Derived.ArgAppend
import Derived.Laws.IdiomCopy
import Derived.OrdersHeld
import Derived.Laws.BitsLemmas
import Derived.RowKit
import Derived.Laws.Tables
import Derived.Deep.RegionHeld3
import Derived.Test.YtadmbihghbfdbaaWWords
import Derived.Test.YtadmbihghbfdbaaWLast
import Derived.Test.YtadmbihghbfdbaaWTab
import Derived.Test.YtadmbihghbfdbaaWFour
import Derived.Test.YtadmbihghbfdbaaWQPut
import Derived.Test.YtadmbihghbfdbaaWApart
import Derived.Test.YtadmbihghbfdbaaWArr
import Derived.Test.YtadmbihghbfdbaaWZeros
import Derived.Test.YtadmbihghbfdbaaWFoot
import Derived.Test.YtadmbihghbfdbaaWKept
import Derived.Test.YtadmbihghbfdbaaWShare
import Derived.Test.YtadmbihghbfdbaaWN
import Derived.Test.YtadmbihghbfdbaaWFootNe
import Derived.Test.YtadmbihghbfdbaaWAt
import Derived.Test.YtadmbihghbfdbaaWEqStruct
import Derived.Test.YtadmbihghbfdbaaWRepsOne
import Derived.Test.YtadmbihghbfdbaaWInv
import Derived.Test.YtadmbihghbfdbaaWInvWords
import Derived.Test.YtadmbihghbfdbaaWGuard
import Derived.Test.YtadmbihghbfdbaaWNEv
import Derived.Test.YtadmbihghbfdbaaWMore
namespace Go.Proofs.Ytadmbihghbfdbaa.PCheckBursts
open Go.RowKit Go.Proofs.YtadmbihghbfdbaaW.PrintWords Go.Proofs.YtadmbihghbfdbaaW.PrintLast Go.Proofs.YtadmbihghbfdbaaW.PrintMore
attribute [local go_sem] max2_int min2_int max_two min_two max_three min_three max_four min_four   -- for this text's walks alone
set_option linter.unusedVariables false
set_option linter.unusedSimpArgs false



def errW : Option Int → Value
  | none => .nilIface
  | some c => .iface 0 (.int .i64 c)
theorem errW_none : errW none = .nilIface := rfl
theorem errW_some (c : Int) : errW (some c) = .iface 0 (.int .i64 c) := rfl

-- the values' own types

end Go.Proofs.Ytadmbihghbfdbaa.PCheckBursts
