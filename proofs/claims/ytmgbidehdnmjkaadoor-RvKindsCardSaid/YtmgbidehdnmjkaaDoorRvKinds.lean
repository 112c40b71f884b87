/- The walk of RvKinds, and that its answer is true: what an instruction with a number reckons, the one with two registers reckons, too. -/
import Derived.Test.YtmgbidehdnmjkaaDoorCommon
import Derived.Test.YtmgbidehdnmjkaaDoorDoor
import Derived.Test.YtmgbidehdnmjkaaDoorOpenT
import Derived.Test.YtmgbidehdnmjkaaDoorLRvKinds
namespace Go.Proofs.YtmgbidehdnmjkaaDoor.RvKinds
open Go Go.RowKit Go.Proofs.YtmgbidehdnmjkaaDoor.Rv Go.Proofs.YtmgbidehdnmjkaaDoor.OpenT Go.Proofs.YtmgbidehdnmjkaaDoorW.PrintWords Go.Proofs.YtmgbidehdnmjkaaDoorW.PrintLast Go.Proofs.YtmgbidehdnmjkaaDoorW.PrintMore
set_option linter.unusedVariables false
set_option linter.unusedSimpArgs false
theorem nine (n : Nat) (h1 : 19 ≤ n) (h2 : n < 28) : ∃ l : List UInt8, nameOf (n : Int) = ⟨(namesL.getD (n - 1) []).toArray⟩ ∧ (namesL.getD (n - 1) [] = [115, 108, 116, 105, 117] → namesL.getD (27 + (kindL.getD (n - 19) 0).toNat) [] = [115, 108, 116, 117]) ∧
    (namesL.getD (n - 1) [] ≠ [115, 108, 116, 105, 117] → namesL.getD (27 + (kindL.getD (n - 19) 0).toNat) [] = (namesL.getD (n - 1) []).take ((namesL.getD (n - 1) []).length - 1)) ∧ 0 ≤ kindL.getD (n - 19) 0 ∧ kindL.getD (n - 19) 0 < 10 ∧ 1 ≤ (namesL.getD (n - 1) []).length ∧ (namesL.getD (n - 1) []).length < 10 := by
  refine ⟨[], ?_, ?_⟩
  · unfold nameOf
    rw [if_pos (by omega), show ((n : Nat) : Int).toNat = n by omega]
  · have hc : n = 19 ∨ n = 20 ∨ n = 21 ∨ n = 22 ∨ n = 23 ∨ n = 24 ∨ n = 25 ∨ n = 26 ∨ n = 27 := by omega
    rcases hc with rfl | rfl | rfl | rfl | rfl | rfl | rfl | rfl | rfl <;> decide +kernel
theorem kinds_reg : ∀ n : Nat, n < 46 → 28 ≤ n → kindL.getD (n - 19) 0 = (n : Int) - 28 := by decide +kernel
theorem pure (a : Int) : tincturelaw5_RvKinds.f 5 a = some true := by
  unfold tincturelaw5_RvKinds.f
  rw [show (5 : Nat) = 0 + 5 by rfl, awake_at 0]
  simp only [Option.bind_some, if_true]
  unfold rv_Kind.f
  simp only [Option.bind_some]
  by_cases c1 : 19 ≤ a ∧ a ≤ 45
  · rw [if_pos c1]
    simp only [if_true]
    obtain ⟨n, rfl⟩ : ∃ n : Nat, a = (n : Int) := ⟨a.toNat, by omega⟩
    rw [show ((n : Nat) : Int).toNat = n by omega]
    by_cases c2 : (n : Int) ≥ 28
    · rw [if_pos c2, kinds_reg n (by omega) (by omega), show wrap64 ((n : Int) - 28) = (n : Int) - 28 by unfold wrap64; omega]; simp
    · rw [if_neg c2]
      obtain ⟨_, hn, hs, hl, hk0, hk1, hl1, hl2⟩ := nine n (by omega) (by omega)
      have hz : (nameOf (n : Int)).size = (namesL.getD (n - 1) []).length := by rw [hn]; rfl
      have hw : wrap64 (((nameOf (n : Int)).size : Int) - 1) = ((namesL.getD (n - 1) []).length : Int) - 1 := by rw [hz]; unfold wrap64; omega
      have hw2 : wrap64 (28 + kindL.getD (n - 19) 0) = 28 + kindL.getD (n - 19) 0 := by unfold wrap64; omega
      simp only [rv_Name.f, Option.bind_some]
      rw [hw, hw2, hz, if_pos (by omega), if_pos (by omega), name_list (n : Int) (by omega) (by omega), name_list (28 + kindL.getD (n - 19) 0) (by omega) (by omega),
        show ((n : Nat) : Int).toNat - 1 = n - 1 by omega, show (28 + kindL.getD (n - 19) 0).toNat - 1 = 27 + (kindL.getD (n - 19) 0).toNat by omega]
      by_cases c3 : namesL.getD (n - 1) [] = [115, 108, 116, 105, 117]
      · rw [if_pos c3, hs c3]; simp
      · rw [if_neg c3, hl c3, bytes_list, hn]
        have e : (((⟨(namesL.getD (n - 1) []).toArray⟩ : ByteArray).extract 0 (((namesL.getD (n - 1) []).length : Int) - 1).toNat).data).toList = (namesL.getD (n - 1) []).take ((namesL.getD (n - 1) []).length - 1) := by
          rw [show (((namesL.getD (n - 1) []).length : Int) - 1).toNat = (namesL.getD (n - 1) []).length - 1 by omega]
          rw [ByteArray.data_extract]
          simp [List.dropLast_eq_take]
        rw [e]
        simp
  · rw [if_neg c1]
    simp only [Bool.false_eq_true, if_false, if_true]
    by_cases c2 : a < 19
    · rw [if_pos c2]
    · rw [if_neg c2, decide_eq_true (by omega)]
theorem walk (W : World) (hL : Go.Proofs.YtmgbidehdnmjkaaDoor.Door.Laid W) (x0 : Int) (wx0 : (Lit.int .i64 x0).wf = true) :
    Calls Tryd.prog 8 #[.int .i64 x0] W fun e w' => e = .returned (.bool true) ∧ Below W.heap.size W w' :=
  tincturelaw5_RvKinds.calls 5 x0 true W hL (pure x0)
end Go.Proofs.YtmgbidehdnmjkaaDoor.RvKinds
