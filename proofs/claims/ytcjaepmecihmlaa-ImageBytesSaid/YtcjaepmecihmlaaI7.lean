/- What sameImage answers (its lines began as print.sh's). -/
import Derived.Test.YtcjaepmecihmlaaSame
import Derived.Test.YtcjaepmecihmlaaI0
namespace Go.Proofs.Ytcjaepmecihmlaa.Img
open Go.RowKit Go.Proofs.YtcjaepmecihmlaaW.PrintWords Go.Proofs.YtcjaepmecihmlaaW.PrintLast Go.Proofs.YtcjaepmecihmlaaW.PrintMore
attribute [local go_sem] zcp zcn zcw zcv zcc zcb zco zcm   -- for this text's walks alone
set_option linter.unusedVariables false
set_option linter.unusedSimpArgs false
/-! ### tincturelaw8_sameImage: function 17 -/
def tincturelaw8_sameImage.f (k : Nat) (a0_0 : Int) (l0_1 : List (S65)) (a1_0 : Int) (l1_1 : List (S65)) : Option (Bool) := if l0_1.length ≤ 1000000 then some (Go.Proofs.Ytcjaepmecihmlaa.Same.sameB a0_0 l0_1 a1_0 l1_1) else none
theorem tincturelaw8_sameImage.mono : ∀ a0 a1 a2 a3 k, LeO (tincturelaw8_sameImage.f k a0 a1 a2 a3) (tincturelaw8_sameImage.f (k + 1) a0 a1 a2 a3) := fun _ _ _ _ _ => LeO.refl _
theorem tincturelaw8_sameImage.calls (k : Nat) (a0_0 : Int) (A0_1 : Option Addr) (c0_1 : Nat) (l0_1 : List (S65)) (a1_0 : Int) (A1_1 : Option Addr) (c1_1 : Nat) (l1_1 : List (S65)) (r : Bool) (w : World) (hr0_1 : Kd.C k65 w A0_1 l0_1.length l0_1) (hc0_1 : l0_1.length ≤ c0_1) (hr1_1 : Kd.C k65 w A1_1 l1_1.length l1_1) (hc1_1 : l1_1.length ≤ c1_1) (h : tincturelaw8_sameImage.f k a0_0 l0_1 a1_0 l1_1 = some r) :
    Calls Try.prog 17 #[.agg #[.int .u32 a0_0, .slice A0_1 l0_1.length c0_1], .agg #[.int .u32 a1_0, .slice A1_1 l1_1.length c1_1]] w fun e w' => e = .returned (.bool r) ∧ Below w.heap.size w w' := by
  unfold tincturelaw8_sameImage.f at h
  split at h
  · rename_i hl
    injection h with h; subst h
    exact Go.Proofs.Ytcjaepmecihmlaa.Same.same w a0_0 A0_1 c0_1 l0_1 a1_0 A1_1 c1_1 l1_1 hr0_1 hc0_1 hl hr1_1 hc1_1
  · cases h
end Go.Proofs.Ytcjaepmecihmlaa.Img
