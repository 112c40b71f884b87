/- The segments' bytes may stand anywhere in the file: the walk, and that its answer is true. -/
import Derived.Test.YtcjaepmecihmlaaMovedPure
import Derived.Test.YtcjaepmecihmlaaOpenTImageBytes
namespace Go.Proofs.Ytcjaepmecihmlaa.ImageMoved
open Go Go.RowKit Go.Proofs.Ytcjaepmecihmlaa.OpenTImageBytes Go.Proofs.Ytcjaepmecihmlaa.Img Go.Proofs.YtcjaepmecihmlaaW.PrintWords Go.Proofs.YtcjaepmecihmlaaW.PrintLast Go.Proofs.YtcjaepmecihmlaaW.PrintMore Go.Proofs.Ytcjaepmecihmlaa.BackPure Go.Proofs.Ytcjaepmecihmlaa.ImgPure Go.Proofs.Ytcjaepmecihmlaa.MovedPure
set_option linter.unusedVariables false
theorem wfu32 {x : Int} (h : wf23 x) : 0 ≤ x ∧ x ≤ 4294967295 := by
  have h' : IntKind.u32.min ≤ x ∧ x ≤ IntKind.u32.max := by simpa [wf23, Lit.wf] using h
  rw [show IntKind.u32.min = 0 from rfl, show IntKind.u32.max = 4294967295 from rfl] at h'; exact h'
theorem wfu8 {x : Int} (h : wf5 x) : 0 ≤ x ∧ x ≤ 255 := by
  have h' : IntKind.u8.min ≤ x ∧ x ≤ IntKind.u8.max := by simpa [wf5, Lit.wf] using h
  rw [show IntKind.u8.min = 0 from rfl, show IntKind.u8.max = 255 from rfl] at h'; exact h'
theorem wf_of {x : (Int × List (S30))} (h : wf26 x) : Wf x.1 x.2 := by
  obtain ⟨h0, _, h1⟩ := h
  have a := wfu32 h0
  refine ⟨by omega, fun s hs => ?_⟩
  obtain ⟨b0, b1, _, _, b3⟩ := h1 s hs
  have b0 := wfu32 b0; have b1 := wfu32 b1
  exact ⟨b0.1, by omega, b1.1, by omega, fun y hy => wfu8 (b3 y hy)⟩
theorem walk (W : World) (x0 : (Int × List (S30))) (wx0 : wf26 x0) (A0_1 : Option Addr) (c0_1 : Nat) (l0_0 : x0.2.length ≤ c0_1) (r0_0 : Kd.C k30 W A0_1 x0.2.length x0.2) (x1 : List (Int)) (wx1 : wf28 x1) (A1 : Option Addr) (c1 : Nat) (l1_0 : x1.length ≤ c1) (r1_0 : Kd.C (Kd.int .u8) W A1 x1.length x1) :
    Calls Try.prog 6 #[.agg #[.int .u32 x0.1, .slice A0_1 x0.2.length c0_1], .slice A1 x1.length c1] W fun e w' => e = .returned (.bool true) ∧ Below W.heap.size W w' :=
  tincturelaw8_ImageMoved.calls 1000 x0.1 A0_1 c0_1 x0.2 A1 c1 x1 true W r0_0 l0_0 r1_0 l1_0 (moved x0.1 x0.2 x1 (wf_of wx0) (fun y hy => wfu8 (wx1.2 y hy)))
end Go.Proofs.Ytcjaepmecihmlaa.ImageMoved
