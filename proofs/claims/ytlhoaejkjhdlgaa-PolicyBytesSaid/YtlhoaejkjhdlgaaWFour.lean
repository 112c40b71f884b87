/- Words of print.sh, those that are named here (its lines began as print.sh's). -/
import Derived.Test.YtlhoaejkjhdlgaaWTab
namespace Go.Proofs.YtlhoaejkjhdlgaaW.PrintLast
section
variable {P : Program} {ops : Array Oper} {Q : Exit → Act → World → Prop} {md : Region.Mode} {S : World → Prop} {ds : List Nat} {T : Bool × List (List Nat × List Nat)}
end
end Go.Proofs.YtlhoaejkjhdlgaaW.PrintLast
