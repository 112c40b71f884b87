/- Words of print.sh, those that are named here (its lines began as print.sh's). -/
import Derived.Test.YtlhoaejkjhdlgaaWApart
import Derived.Test.YtlhoaejkjhdlgaaWArr
namespace Go.Proofs.YtlhoaejkjhdlgaaW.PrintWords
open Go.RowKit
section
variable {P : Program}
end
namespace Kd
section
variable {P : Program} {ops : Array Oper} {rest : List Oper} {o : Oper} {a : Act} {Q : Exit → Act → World → Prop} {Kc : Act → World → Prop} {α : Type}
end
section
variable {α : Type} {d : Kd α} {e : Nat} {w : World} {base : Nat} {ok : Nat → Prop} {v : Value} {xs : List α}
end
section
variable {P : Program} {ops : Array Oper} {rest : List Oper} {o : Oper} {a : Act} {Q : Exit → Act → World → Prop} {Kc : Act → World → Prop} {α : Type}
end
end Kd
end Go.Proofs.YtlhoaejkjhdlgaaW.PrintWords
