/- The reference's GetImage in the form that print's texts take. -/
import Derived.Test.YtcjaepmecihmlaaRefImg
namespace Go.Proofs.Ytcjaepmecihmlaa.Img
open Go Go.RowKit Go.Proofs.YtcjaepmecihmlaaW.PrintWords Go.Proofs.YtcjaepmecihmlaaW.PrintLast Go.Proofs.YtcjaepmecihmlaaW.PrintMore Go.Proofs.Ytcjaepmecihmlaa.ImgPure Go.Proofs.Ytcjaepmecihmlaa.RefImg
set_option linter.unusedVariables false
set_option linter.unusedSimpArgs false
instance (l : List Int) : Decidable (Bytes l) := by unfold Bytes; infer_instance
def tinctureref7_GetImage.f (l0 : List Int) : Option (Int × (List (S65)) × Int) := if Bytes l0 ∧ l0.length ≤ 3000 then some (refI l0) else none
theorem tinctureref7_GetImage.calls (A0 : Option Addr) (c0 : Nat) (l0 : List Int) (r1 : Int) (r2 : List (S65)) (r3 : Int) (w : World) (hr0 : Kd.C (Kd.int .u8) w A0 l0.length l0) (hc0 : l0.length ≤ c0) (h : tinctureref7_GetImage.f l0 = some (r1, r2, r3)) :
    Calls Try.prog 14 #[.slice A0 l0.length c0] w fun e w' => ∃ v1_ : Value, e = .returned (.tuple #[.agg #[.int .u32 r1, v1_], .int .i64 r3]) ∧ Kd.R k65 65 w' w.heap.size (fun _ => True) v1_ r2 ∧ Below w.heap.size w w' := by
  unfold tinctureref7_GetImage.f at h
  split at h
  · rename_i hb
    have e := Option.some.inj h
    refine (get_img w l0 A0 c0 hb.1 hb.2 hr0 hc0).mono ?_
    rintro en w' ⟨v, rfl, q1, q2⟩
    rw [e] at q1 ⊢
    exact ⟨v, rfl, q1, q2⟩
  · cases h
end Go.Proofs.Ytcjaepmecihmlaa.Img
