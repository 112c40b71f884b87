/- Words of print.sh, those that are named here (its lines began as print.sh's). -/
import Derived.Test.YtlhoaejkjhdlgaaWInv
import Derived.Test.YtlhoaejkjhdlgaaWFootNe
namespace Go.Proofs.YtlhoaejkjhdlgaaW.PrintWords
open Go.RowKit
end Go.Proofs.YtlhoaejkjhdlgaaW.PrintWords
namespace Go.Proofs.YtlhoaejkjhdlgaaW.PrintLast
section
variable {ops : Array Oper} {a : Act} {o og : Oper} {g : Nat} {t : Tmp} {u : Bool}
end
end Go.Proofs.YtlhoaejkjhdlgaaW.PrintLast
