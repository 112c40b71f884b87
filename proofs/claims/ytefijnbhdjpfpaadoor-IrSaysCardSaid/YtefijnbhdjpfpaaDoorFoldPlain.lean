/- Good's fold, cut in two; what stands at a place. -/
import Derived.Test.YtefijnbhdjpfpaaDoorAwake
namespace Go.Proofs.YtefijnbhdjpfpaaDoor.Ir
open Go Go.RowKit Go.Proofs.YtefijnbhdjpfpaaDoorW.PrintWords Go.Proofs.YtefijnbhdjpfpaaDoorW.PrintLast Go.Proofs.YtefijnbhdjpfpaaDoorW.PrintMore
set_option linter.unusedVariables false
set_option linter.unusedSimpArgs false
def foldT : List S25 → (Int → Bool) → (Int → Bool)
  | [], th => th
  | n :: r, th => foldT r (nextT th n)
theorem fold_append (a b : List S25) : ∀ th, foldB (a ++ b) th = (foldB a th && foldB b (foldT a th)) := by
  induction a with
  | nil => intro th; simp [foldB, foldT]
  | cons n r ih => intro th; simp [foldB, foldT, ih, Bool.and_assoc]
theorem step_end (th : Int → Bool) : stepB th (⟨12, 0, 0, 0, 8⟩ : S25) = true := by
  have h1 : formedB (⟨12, 0, 0, 0, 8⟩ : S25) = true := by decide
  have h2 : tagsB 12 = false := by decide
  have h3 : readsL (⟨12, 0, 0, 0, 8⟩ : S25) = [] := by decide
  unfold stepB
  rw [h1, h3]
  show (true && !(tagsB 12 && _) && _) = true
  rw [h2]
  rfl
theorem rd_get (l : List S25) (i : Nat) (h : i < l.length) : rd_T25 l (i : Int) = l[i] := by
  unfold rd_T25
  rw [Int.toNat_natCast, List.getD_eq_getElem?_getD, List.getElem?_eq_getElem h]
  rfl
theorem rd_get0 (l : List S25) (h : 0 < l.length) : rd_T25 l 0 = l[0] := rd_get l 0 h
end Go.Proofs.YtefijnbhdjpfpaaDoor.Ir
