/- Words of print.sh, those that are named here (its lines began as print.sh's). -/
import Derived.Test.YtlhoaejkjhdlgaaWN
namespace Go.Proofs.YtlhoaejkjhdlgaaW.PrintWords
open Go.RowKit
namespace Kd
section
variable {α : Type} {d : Kd α} {W : World} {g n : Nat} {S ok : Nat → Prop} {A : Option Addr} {ad : Addr} {xs : List α}
end
end Kd
end Go.Proofs.YtlhoaejkjhdlgaaW.PrintWords
