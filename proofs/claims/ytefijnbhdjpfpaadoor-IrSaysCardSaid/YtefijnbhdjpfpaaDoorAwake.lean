/- awake is true. -/
import Derived.Test.YtefijnbhdjpfpaaDoorI11
namespace Go.Proofs.YtefijnbhdjpfpaaDoor.Ir
open Go Go.RowKit Go.Proofs.YtefijnbhdjpfpaaDoorW.PrintWords Go.Proofs.YtefijnbhdjpfpaaDoorW.PrintLast Go.Proofs.YtefijnbhdjpfpaaDoorW.PrintMore
set_option linter.unusedVariables false
set_option linter.unusedSimpArgs false
theorem bytes_loop (s : ByteArray) (n : Nat) : ∀ (i : Nat) (r : List UInt8), s.size - i = n → ByteArray.toList.loop s i r = r.reverse ++ s.data.toList.drop i := by
  have hsz : s.data.toList.length = s.size := by rw [Array.length_toList]; rfl
  induction n with
  | zero =>
    intro i r h
    rw [ByteArray.toList.loop, if_neg (by omega), List.drop_of_length_le (by omega), List.append_nil]
  | succ n ih =>
    intro i r h
    rw [ByteArray.toList.loop, if_pos (by omega), ih (i + 1) _ (by omega), List.reverse_cons, List.drop_eq_getElem_cons (i := i) (by omega), List.append_assoc]
    have e : s.get! i = s.data.toList[i]'(by omega) := by
      have hi : i < s.data.size := by rw [← Array.length_toList]; omega
      show s.data[i]! = _
      rw [getElem!_pos s.data i hi, Array.getElem_toList]
    rw [e]
    rfl
theorem bytes_list (s : ByteArray) : s.toList = s.data.toList := by
  unfold ByteArray.toList
  rw [bytes_loop s s.size 0 [] (by omega)]
  simp
theorem good_two : goodB [(⟨8, 0, 0, 0, 0⟩ : S25), (⟨12, 0, 0, 0, 4⟩ : S25)] = true := by decide +kernel
theorem good_none : goodB [] = false := by decide +kernel
theorem awake_at : tincturelaw19_awake.f = some true := by
  unfold tincturelaw19_awake.f ir_Good.f ir_Text.f
  simp only [good_two, good_none, Option.bind_some, if_true]
  rw [if_neg (by decide)]
  rw [if_pos (by decide)]
  simp only [Option.bind_some, bytes_list]
  decide +kernel
end Go.Proofs.YtefijnbhdjpfpaaDoor.Ir
