-- PRINTED by print.py (a twelfth state) out of the translation. Not trusted: Lean checks it.
import Derived.Test.YtfjfgcnbokefbaaProg
import Derived.Below
import Derived.Deep.Draws
import Derived.Deep.AppendLies
import Derived.Maps.AppendAt
import Derived.OwnWalk
import Derived.Laws.BytesArg
import Derived.Laws.MakeOwn
import Derived.Laws.OwnMore
import Derived.Deep.OwnRows
import Derived.Tactics
import Derived.Lib.ConvBytes
import Derived.Laws.Slices
import Derived.WalkKit
import Derived.KernelRfl
import Derived.RowKit3
import Derived.Deep.LoopGhost
import Derived.Deep.QuietTactic
import Derived.BigQuiet
import Derived.WideLaws
import Derived.Deep.DeepCutAuto
import Derived.Deep.CutBlock
import Derived.Deep.RegionHeld3
import Derived.Laws.Rows
import Derived.Lib.AppendStr
import Derived.ArgAppend
import Derived.Laws.IdiomCopy
import Derived.OrdersHeld
import Derived.Laws.BitsLemmas
import Derived.RowKit
import Derived.Test.YtfjfgcnbokefbaaFlt
import Derived.Test.YtfjfgcnbokefbaaWWords
import Derived.Test.YtfjfgcnbokefbaaWLast
import Derived.Test.YtfjfgcnbokefbaaWTab
import Derived.Test.YtfjfgcnbokefbaaWFour
import Derived.Test.YtfjfgcnbokefbaaWQPut
import Derived.Test.YtfjfgcnbokefbaaWApart
import Derived.Test.YtfjfgcnbokefbaaWArr
import Derived.Test.YtfjfgcnbokefbaaWZeros
import Derived.Test.YtfjfgcnbokefbaaWFoot
import Derived.Test.YtfjfgcnbokefbaaWKept
import Derived.Test.YtfjfgcnbokefbaaWShare
import Derived.Test.YtfjfgcnbokefbaaWN
import Derived.Test.YtfjfgcnbokefbaaWFootNe
import Derived.Test.YtfjfgcnbokefbaaWAt
import Derived.Test.YtfjfgcnbokefbaaWEqStruct
import Derived.Test.YtfjfgcnbokefbaaWRepsOne
import Derived.Test.YtfjfgcnbokefbaaWInv
import Derived.Test.YtfjfgcnbokefbaaWInvWords
import Derived.Test.YtfjfgcnbokefbaaWGuard
import Derived.Test.YtfjfgcnbokefbaaWNEv
import Derived.Test.YtfjfgcnbokefbaaWMore
namespace Go.Proofs.Ytfjfgcnbokefbaa.X
open Go.Proofs.Ytfjfgcnbokefbaa.Flt Go.Proofs.Ytfjfgcnbokefbaa.H Go.RowKit Go.Proofs.YtfjfgcnbokefbaaW.PrintWords Go.Proofs.YtfjfgcnbokefbaaW.PrintLast Go.Proofs.YtfjfgcnbokefbaaW.PrintMore
attribute [local go_sem] max2_int min2_int max_two min_two max_three min_three max_four min_four   -- for this text's walks alone
set_option linter.unusedVariables false
set_option linter.unusedSimpArgs false



def errW : Option Int → Value
  | none => .nilIface
  | some c => .iface 0 (.int .i64 c)
theorem errW_none : errW none = .nilIface := rfl
theorem errW_some (c : Int) : errW (some c) = .iface 0 (.int .i64 c) := rfl

-- the values' own types

end Go.Proofs.Ytfjfgcnbokefbaa.X
