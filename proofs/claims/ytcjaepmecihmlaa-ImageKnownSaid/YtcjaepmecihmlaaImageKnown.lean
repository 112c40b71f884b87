/- ImageKnown answers true. -/
import Derived.Test.YtcjaepmecihmlaaKnown2
namespace Go.Proofs.Ytcjaepmecihmlaa.ImageKnown
open Go Go.RowKit
theorem walk (W : World) : Calls Try.prog 3 #[] W fun e w' => e = .returned (.bool true) ∧ Below W.heap.size W w' := Go.Proofs.Ytcjaepmecihmlaa.Known.walk W
end Go.Proofs.Ytcjaepmecihmlaa.ImageKnown
