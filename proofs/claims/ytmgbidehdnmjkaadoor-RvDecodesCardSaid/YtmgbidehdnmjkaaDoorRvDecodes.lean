/- The walk of RvDecodes, and that its answer is true: any word is the instruction that the document says. -/
import Derived.Test.YtmgbidehdnmjkaaDoorCommon
import Derived.Test.YtmgbidehdnmjkaaDoorDoor
import Derived.Test.YtmgbidehdnmjkaaDoorOpenT
import Derived.Test.YtmgbidehdnmjkaaDoorLRvDecodes
namespace Go.Proofs.YtmgbidehdnmjkaaDoor.RvDecodes
open Go Go.RowKit Go.Proofs.YtmgbidehdnmjkaaDoor.Rv Go.Proofs.YtmgbidehdnmjkaaDoor.OpenT Go.Proofs.YtmgbidehdnmjkaaDoorW.PrintWords Go.Proofs.YtmgbidehdnmjkaaDoorW.PrintLast Go.Proofs.YtmgbidehdnmjkaaDoorW.PrintMore
set_option linter.unusedVariables false
set_option linter.unusedSimpArgs false
theorem pure (w : Int) (h0 : 0 ≤ w) (h1 : w < 4294967296) : tincturelaw5_RvDecodes.f 97 w = some true := by
  unfold tincturelaw5_RvDecodes.f
  rw [show (97 : Nat) = 92 + 5 by rfl, awake_at 92, show (92 : Nat) + 5 = 93 + 4 by rfl, decode_at 93 w h0 h1, show (93 : Nat) + 4 = 0 + 97 by rfl, ref_decode_at 0 w h0 h1]
  simp [tincturelaw5_own.f]
theorem walk (W : World) (hL : Go.Proofs.YtmgbidehdnmjkaaDoor.Door.Laid W) (x0 : Int) (wx0 : (Lit.int .u32 x0).wf = true) :
    Calls Tryd.prog 3 #[.int .u32 x0] W fun e w' => e = .returned (.bool true) ∧ Below W.heap.size W w' := by
  have hb := bounds_u32 wx0
  exact tincturelaw5_RvDecodes.calls 97 x0 true W hL (pure x0 (by omega) (by omega))
end Go.Proofs.YtmgbidehdnmjkaaDoor.RvDecodes
