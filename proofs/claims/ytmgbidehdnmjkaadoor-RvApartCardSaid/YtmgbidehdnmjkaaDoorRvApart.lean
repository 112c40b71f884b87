/- The walk of RvApart, and that its answer is true: unlike instructions have unlike words. -/
import Derived.Test.YtmgbidehdnmjkaaDoorCommon
import Derived.Test.YtmgbidehdnmjkaaDoorDoor
import Derived.Test.YtmgbidehdnmjkaaDoorOpenT
import Derived.Test.YtmgbidehdnmjkaaDoorLRvApart
namespace Go.Proofs.YtmgbidehdnmjkaaDoor.RvApart
open Go Go.RowKit Go.Proofs.YtmgbidehdnmjkaaDoor.Rv Go.Proofs.YtmgbidehdnmjkaaDoor.OpenT Go.Proofs.YtmgbidehdnmjkaaDoorW.PrintWords Go.Proofs.YtmgbidehdnmjkaaDoorW.PrintLast Go.Proofs.YtmgbidehdnmjkaaDoorW.PrintMore
set_option linter.unusedVariables false
set_option linter.unusedSimpArgs false
theorem pure (op a b c v op' a' b' c' v' : Int) (h0 : -2147483648 ≤ v) (h1 : v < 2147483648) (h0' : -2147483648 ≤ v') (h1' : v' < 2147483648) : tincturelaw5_RvApart.f 5 op a b c v op' a' b' c' v' = some true := by
  unfold tincturelaw5_RvApart.f
  rw [show (5 : Nat) = 0 + 5 by rfl, awake_at 0, encode_at 0 op a b c v h0 h1, encode_at 0 op' a' b' c' v' h0' h1']
  simp only [Option.bind_some, if_true]
  by_cases k1 : okI op a b c v
  · by_cases k2 : okI op' a' b' c' v'
    · rw [if_pos k1, if_pos k2]
      simp only [if_true]
      congr 1
      rw [beq_iff_eq, Bool.eq_iff_iff, beq_iff_eq]
      simp only [Bool.and_eq_true, beq_iff_eq]
      constructor
      · intro h
        have e1 := (dec_enc _ _ _ _ _ k1).2.2
        have e2 := (dec_enc _ _ _ _ _ k2).2.2
        rw [h, e2] at e1
        simp only [Prod.mk.injEq] at e1
        obtain ⟨rfl, rfl, rfl, rfl, rfl⟩ := e1
        exact ⟨rfl, rfl, rfl, rfl, rfl⟩
      · rintro ⟨rfl, rfl, rfl, rfl, rfl⟩; rfl
    · rw [if_pos k1, if_neg k2]; simp
  · rw [if_neg k1]; simp
theorem walk (W : World) (hL : Go.Proofs.YtmgbidehdnmjkaaDoor.Door.Laid W) (x0 : (Int × Int × Int × Int × Int)) (wx0 : wf27 x0) (x1 : (Int × Int × Int × Int × Int)) (wx1 : wf27 x1) :
    Calls Tryd.prog 5 #[.agg #[.int .i64 x0.1, .int .i64 x0.2.1, .int .i64 x0.2.2.1, .int .i64 x0.2.2.2.1, .int .i32 x0.2.2.2.2], .agg #[.int .i64 x1.1, .int .i64 x1.2.1, .int .i64 x1.2.2.1, .int .i64 x1.2.2.2.1, .int .i32 x1.2.2.2.2]] W fun e w' => e = .returned (.bool true) ∧ Below W.heap.size W w' := by
  have hb := bounds_i32 wx0.2.2.2.2
  have hb' := bounds_i32 wx1.2.2.2.2
  exact tincturelaw5_RvApart.calls 5 _ _ _ _ _ _ _ _ _ _ true W hL (pure _ _ _ _ _ _ _ _ _ _ (by omega) (by omega) (by omega) (by omega))
end Go.Proofs.YtmgbidehdnmjkaaDoor.RvApart
