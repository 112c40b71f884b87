/- The walk of RvWhole, and that its answer is true: each Op has a name of its own, and a word. -/
import Derived.Test.YtmgbidehdnmjkaaDoorCommon
import Derived.Test.YtmgbidehdnmjkaaDoorDoor
import Derived.Test.YtmgbidehdnmjkaaDoorOpenT
import Derived.Test.YtmgbidehdnmjkaaDoorLRvWhole
namespace Go.Proofs.YtmgbidehdnmjkaaDoor.RvWhole
open Go Go.RowKit Go.Proofs.YtmgbidehdnmjkaaDoor.Rv Go.Proofs.YtmgbidehdnmjkaaDoor.OpenT Go.Proofs.YtmgbidehdnmjkaaDoorW.PrintWords Go.Proofs.YtmgbidehdnmjkaaDoorW.PrintLast Go.Proofs.YtmgbidehdnmjkaaDoorW.PrintMore
set_option linter.unusedVariables false
set_option linter.unusedSimpArgs false
theorem pure (a b : Int) : tincturelaw5_RvWhole.f 6 a b = some true := by
  unfold tincturelaw5_RvWhole.f
  rw [show (6 : Nat) = 1 + 5 by rfl, awake_at 1]
  simp only [Option.bind_some, if_true]
  have ht : tincturelaw5_RvWhole.j0 (1 + 5) a b true = some true := by simp only [tincturelaw5_RvWhole.j0, if_true]
  by_cases c1 : a < 1
  · rw [if_pos c1, ht]
  rw [if_neg c1]
  by_cases c2 : a > 49
  · rw [if_pos c2, ht]
  rw [if_neg c2]
  by_cases c3 : b < 1
  · rw [if_pos c3, ht]
  rw [if_neg c3]
  by_cases c4 : b > 49
  · rw [decide_eq_true c4, ht]
  rw [decide_eq_false c4]
  have hok := ok_bare a (by omega) (by omega)
  obtain ⟨w0, w1, hd⟩ := dec_enc _ _ _ _ _ hok
  simp only [show (1 : Nat) + 5 = 5 + 1 by rfl, tincturelaw5_RvWhole.j0, Bool.false_eq_true, if_false]
  rw [show (5 : Nat) = 0 + 5 by rfl, encode_at 0 a 0 0 0 0 (by decide) (by decide), if_pos hok]
  simp only [Option.bind_some, rv_Name.f, if_true]
  rw [show (0 : Nat) + 5 = 1 + 4 by rfl, decode_at 1 _ w0 w1, hd, name_list a (by omega) (by omega), name_list b (by omega) (by omega), if_neg (names_some _ (by omega)), names_apart _ (by omega) _ (by omega)]
  have e : (a.toNat - 1 == b.toNat - 1) = (a == b) := by
    rw [Bool.eq_iff_iff, beq_iff_eq, beq_iff_eq]; omega
  rw [e]
  simp
theorem walk (W : World) (hL : Go.Proofs.YtmgbidehdnmjkaaDoor.Door.Laid W) (x0 : Int) (wx0 : (Lit.int .i64 x0).wf = true) (x1 : Int) (wx1 : (Lit.int .i64 x1).wf = true) :
    Calls Tryd.prog 6 #[.int .i64 x0, .int .i64 x1] W fun e w' => e = .returned (.bool true) ∧ Below W.heap.size W w' :=
  tincturelaw5_RvWhole.calls 6 x0 x1 true W hL (pure x0 x1)
end Go.Proofs.YtmgbidehdnmjkaaDoor.RvWhole
