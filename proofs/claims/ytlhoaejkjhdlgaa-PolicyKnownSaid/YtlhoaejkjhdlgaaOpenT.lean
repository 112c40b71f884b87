/- The types of these laws' parameters, opened: what the cells of a value that came in are. -/
import Derived.Test.YtlhoaejkjhdlgaaOpen
import Derived.Test.YtlhoaejkjhdlgaaProg
import Derived.KernelRfl
namespace Go.Proofs.Ytlhoaejkjhdlgaa.OpenT
open Go Go.RowKit Go.Proofs.Ytlhoaejkjhdlgaa.Open Go.Proofs.YtlhoaejkjhdlgaaW.PrintWords
set_option linter.unusedVariables false
set_option linter.unusedSimpArgs false
variable {w : World}
end Go.Proofs.Ytlhoaejkjhdlgaa.OpenT
