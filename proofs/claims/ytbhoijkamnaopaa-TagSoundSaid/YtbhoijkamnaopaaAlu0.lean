/- What alu's functions answer (its lines began as print.sh's). -/
import Derived.Test.YtbhoijkamnaopaaProg
import Derived.Below
import Derived.Deep.Draws
import Derived.Deep.AppendLies
import Derived.Maps.AppendAt
import Derived.OwnWalk
import Derived.Laws.BytesArg
import Derived.Laws.MakeOwn
import Derived.Laws.OwnMore
import Derived.Deep.OwnRows
import Derived.Tactics
import Derived.Lib.ConvBytes
import Derived.Laws.Slices
import Derived.WalkKit
import Derived.KernelRfl
import Derived.RowKit3
import Derived.Deep.LoopGhost
import Derived.Deep.QuietTactic
import Derived.BigQuiet
import Derived.WideLaws
import Derived.Deep.DeepCutAuto
import Derived.Deep.CutBlock
import Derived.Deep.RegionHeld3
import Derived.Laws.Rows
import Derived.Lib.AppendStr
import Derived.ArgAppend
import Derived.Laws.IdiomCopy
import Derived.OrdersHeld
import Derived.Laws.BitsLemmas
import Derived.RowKit
import Derived.Test.YtbhoijkamnaopaaWWords
import Derived.Test.YtbhoijkamnaopaaWLast
import Derived.Test.YtbhoijkamnaopaaWTab
import Derived.Test.YtbhoijkamnaopaaWFour
import Derived.Test.YtbhoijkamnaopaaWQPut
import Derived.Test.YtbhoijkamnaopaaWApart
import Derived.Test.YtbhoijkamnaopaaWArr
import Derived.Test.YtbhoijkamnaopaaWZeros
import Derived.Test.YtbhoijkamnaopaaWFoot
import Derived.Test.YtbhoijkamnaopaaWKept
import Derived.Test.YtbhoijkamnaopaaWShare
import Derived.Test.YtbhoijkamnaopaaWN
import Derived.Test.YtbhoijkamnaopaaWFootNe
import Derived.Test.YtbhoijkamnaopaaWAt
import Derived.Test.YtbhoijkamnaopaaWEqStruct
import Derived.Test.YtbhoijkamnaopaaWRepsOne
import Derived.Test.YtbhoijkamnaopaaWInv
import Derived.Test.YtbhoijkamnaopaaWInvWords
import Derived.Test.YtbhoijkamnaopaaWGuard
import Derived.Test.YtbhoijkamnaopaaWNEv
import Derived.Test.YtbhoijkamnaopaaWMore
namespace Go.Proofs.Ytbhoijkamnaopaa.Alu
open Go.RowKit Go.Proofs.YtbhoijkamnaopaaW.PrintWords Go.Proofs.YtbhoijkamnaopaaW.PrintLast Go.Proofs.YtbhoijkamnaopaaW.PrintMore
attribute [local go_sem] max2_int min2_int max_two min_two max_three min_three max_four min_four   -- for this text's walks alone
set_option linter.unusedVariables false
set_option linter.unusedSimpArgs false
def errW : Option Int → Value
  | none => .nilIface
  | some c => .iface 0 (.int .i64 c)
theorem errW_none : errW none = .nilIface := rfl
theorem errW_some (c : Int) : errW (some c) = .iface 0 (.int .i64 c) := rfl
-- the values' own types
end Go.Proofs.Ytbhoijkamnaopaa.Alu
