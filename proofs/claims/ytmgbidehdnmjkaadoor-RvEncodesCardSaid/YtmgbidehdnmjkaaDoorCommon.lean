/- What all laws of rv lean on: awake is true; names told apart. -/
import Derived.Test.YtmgbidehdnmjkaaDoorPureD
import Derived.Test.YtmgbidehdnmjkaaDoorR6
namespace Go.Proofs.YtmgbidehdnmjkaaDoor.Rv
open Go Go.RowKit Go.Proofs.YtmgbidehdnmjkaaDoorW.PrintWords Go.Proofs.YtmgbidehdnmjkaaDoorW.PrintLast Go.Proofs.YtmgbidehdnmjkaaDoorW.PrintMore
set_option linter.unusedVariables false
set_option linter.unusedSimpArgs false
theorem bytes_loop (s : ByteArray) (n : Nat) : ∀ (i : Nat) (r : List UInt8), s.size - i = n → ByteArray.toList.loop s i r = r.reverse ++ s.data.toList.drop i := by
  have hsz : s.data.toList.length = s.size := by rw [Array.length_toList]; rfl
  induction n with
  | zero =>
    intro i r h
    rw [ByteArray.toList.loop, if_neg (by omega), List.drop_of_length_le (by omega), List.append_nil]
  | succ n ih =>
    intro i r h
    rw [ByteArray.toList.loop, if_pos (by omega), ih (i + 1) _ (by omega), List.reverse_cons, List.drop_eq_getElem_cons (i := i) (by omega), List.append_assoc]
    have e : s.get! i = s.data.toList[i]'(by omega) := by
      have hi : i < s.data.size := by rw [← Array.length_toList]; omega
      show s.data[i]! = _
      rw [getElem!_pos s.data i hi, Array.getElem_toList]
    rw [e]
    rfl
theorem bytes_list (s : ByteArray) : s.toList = s.data.toList := by
  unfold ByteArray.toList
  rw [bytes_loop s s.size 0 [] (by omega)]
  simp
theorem name_list (a : Int) (h1 : 1 ≤ a) (h2 : a ≤ 49) : (nameOf a).toList = namesL.getD (a.toNat - 1) [] := by
  rw [bytes_list]
  unfold nameOf
  rw [if_pos ⟨h1, h2⟩]
theorem names_apart : ∀ n : Nat, n < 49 → ∀ m : Nat, m < 49 → (namesL.getD n [] == namesL.getD m []) = (n == m) := by decide +kernel
theorem names_some : ∀ n : Nat, n < 49 → namesL.getD n [] ≠ [] := by decide +kernel
theorem ok_bare (a : Int) (h1 : 1 ≤ a) (h2 : a ≤ 49) : okI a 0 0 0 0 := by unfold okI; omega
theorem awake_at (k : Nat) : tincturelaw5_awake.f (k + 5) = some true := by
  have hok : okI 28 1 2 3 0 := by decide +kernel
  have e1 := encode_at k 28 1 2 3 0 (by decide) (by decide)
  rw [if_pos hok] at e1
  obtain ⟨w0, w1, hd⟩ := dec_enc _ _ _ _ _ hok
  have e2 : rv_Decode.f (k + 5) (encI 28 1 2 3 0) = some (28, 1, 2, 3, 0) := by rw [show k + 5 = (k + 1) + 4 by omega, decode_at _ _ w0 w1, hd]
  have e3 : rv_Decode.f (k + 5) 19 = some (19, 0, 0, 0, 0) := by
    rw [show k + 5 = (k + 1) + 4 by omega, decode_at _ _ (by decide) (by decide)]
    exact congrArg some (by decide +kernel : dec 19 = (19, 0, 0, 0, 0))
  unfold tincturelaw5_awake.f
  rw [e1, e3]
  simp only [Option.bind_some]
  rw [e2]
  simp only [Option.bind_some, beq_self_eq_true, Bool.and_self, if_true, rv_Name.f]
  rw [name_list 28 (by decide) (by decide)]
  decide +kernel
end Go.Proofs.YtmgbidehdnmjkaaDoor.Rv
