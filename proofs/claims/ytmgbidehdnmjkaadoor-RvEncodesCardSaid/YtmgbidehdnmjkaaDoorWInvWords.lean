/- Words of print.sh, those that are named here (its lines began as print.sh's). -/
import Derived.Test.YtmgbidehdnmjkaaDoorWInv
import Derived.Test.YtmgbidehdnmjkaaDoorWFootNe
namespace Go.Proofs.YtmgbidehdnmjkaaDoorW.PrintWords
open Go.RowKit
end Go.Proofs.YtmgbidehdnmjkaaDoorW.PrintWords
namespace Go.Proofs.YtmgbidehdnmjkaaDoorW.PrintLast
section
variable {ops : Array Oper} {a : Act} {o og : Oper} {g : Nat} {t : Tmp} {u : Bool}
end
end Go.Proofs.YtmgbidehdnmjkaaDoorW.PrintLast
