/- A row at no address is empty. -/
import Derived.Test.YtcjaepmecihmlaaI0
namespace Go.Proofs.Ytcjaepmecihmlaa.Clone
open Go Go.RowKit Go.Proofs.Ytcjaepmecihmlaa.Img Go.Proofs.YtcjaepmecihmlaaW.PrintWords Go.Proofs.YtcjaepmecihmlaaW.PrintLast Go.Proofs.YtcjaepmecihmlaaW.PrintMore
theorem none_nil {w : World} {l : List Int} (h : Kd.C (Kd.int .u8) w none l.length l) : l = [] := by
  obtain ⟨_, _, h⟩ := h
  cases l with
  | nil => rfl
  | cons x l =>
    obtain ⟨ad, he, _⟩ := h (by simp)
    cases he
end Go.Proofs.Ytcjaepmecihmlaa.Clone
