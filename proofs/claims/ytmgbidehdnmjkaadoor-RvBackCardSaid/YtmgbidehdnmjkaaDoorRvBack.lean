/- The walk of RvBack, and that its answer is true: an instruction's word is read back as it; a word that is one is written back. -/
import Derived.Test.YtmgbidehdnmjkaaDoorCommon
import Derived.Test.YtmgbidehdnmjkaaDoorDoor
import Derived.Test.YtmgbidehdnmjkaaDoorOpenT
import Derived.Test.YtmgbidehdnmjkaaDoorLRvBack
namespace Go.Proofs.YtmgbidehdnmjkaaDoor.RvBack
open Go Go.RowKit Go.Proofs.YtmgbidehdnmjkaaDoor.Rv Go.Proofs.YtmgbidehdnmjkaaDoor.OpenT Go.Proofs.YtmgbidehdnmjkaaDoorW.PrintWords Go.Proofs.YtmgbidehdnmjkaaDoorW.PrintLast Go.Proofs.YtmgbidehdnmjkaaDoorW.PrintMore
set_option linter.unusedVariables false
set_option linter.unusedSimpArgs false
theorem tail (w : Int) (h0 : 0 ≤ w) (h1 : w < 4294967296) (k : Nat) : tincturelaw5_RvBack.j0 (k + 6) w false = some true := by
  simp only [tincturelaw5_RvBack.j0, Bool.false_eq_true, if_false]
  rw [show k + 5 = (k + 1) + 4 by omega, decode_at _ w h0 h1]
  simp only [Option.bind_some]
  by_cases hn : opW w = 0
  · rw [dec_0 w hn]; simp
  have hok := dec_ok w h0 h1 hn
  have he : encT (dec w) = w ∨ opW w = 46 ∨ opW w = 47 := by
    by_cases e46 : opW w = 46
    · exact Or.inr (Or.inl e46)
    · by_cases e47 : opW w = 47
      · exact Or.inr (Or.inr e47)
      · exact Or.inl (enc_dec w h0 h1 hn e46 e47)
  rw [← dec_op] at hn he
  generalize dec w = d at *
  obtain ⟨op, a, b, c, v⟩ := d
  have hok' : okI op a b c v := hok
  have hv : -2147483648 ≤ v ∧ v < 2147483648 := by
    obtain ⟨_, _, _, _, _, _, _, _, h⟩ := hok'
    omega
  obtain ⟨w0, w1, hd⟩ := dec_enc _ _ _ _ _ hok'
  simp only at hn he
  rw [if_neg hn, show k + 1 + 4 = k + 5 by omega, encode_at k op a b c v hv.1 hv.2, if_pos hok']
  simp only [Option.bind_some, if_true]
  rw [show k + 5 = (k + 1) + 4 by omega, decode_at _ _ w0 w1, hd]
  simp only [Option.bind_some, beq_self_eq_true, Bool.and_self]
  by_cases e : encI op a b c v = w
  · rw [if_pos e]
  rw [if_neg e]
  have he' : op = 46 ∨ op = 47 := by
    rcases he with h | h
    · exact absurd h e
    · exact h
  rcases he' with h | h
  · rw [if_pos h]
  · rw [if_neg (by omega), if_pos h]
theorem pure (op a b c v w : Int) (h0 : -2147483648 ≤ v) (h1 : v < 2147483648) (hw0 : 0 ≤ w) (hw1 : w < 4294967296) : tincturelaw5_RvBack.f 6 op a b c v w = some true := by
  unfold tincturelaw5_RvBack.f
  rw [show (6 : Nat) = 1 + 5 by rfl, awake_at 1, encode_at 1 op a b c v h0 h1]
  simp only [Option.bind_some, if_true]
  by_cases k1 : okI op a b c v
  · rw [if_pos k1]
    obtain ⟨w0, w1, hd⟩ := dec_enc _ _ _ _ _ k1
    simp only [if_true]
    rw [show (1 : Nat) + 5 = 2 + 4 by rfl, decode_at 2 _ w0 w1, hd]
    simp only [Option.bind_some, beq_self_eq_true, Bool.not_true, Bool.or_self]
    exact tail w hw0 hw1 0
  · rw [if_neg k1]
    simp only [show ¬ ((1 : Int) = 0) by decide, if_false]
    exact tail w hw0 hw1 0
theorem walk (W : World) (hL : Go.Proofs.YtmgbidehdnmjkaaDoor.Door.Laid W) (x0 : (Int × Int × Int × Int × Int)) (wx0 : wf27 x0) (x1 : Int) (wx1 : (Lit.int .u32 x1).wf = true) :
    Calls Tryd.prog 4 #[.agg #[.int .i64 x0.1, .int .i64 x0.2.1, .int .i64 x0.2.2.1, .int .i64 x0.2.2.2.1, .int .i32 x0.2.2.2.2], .int .u32 x1] W fun e w' => e = .returned (.bool true) ∧ Below W.heap.size W w' := by
  have hb := bounds_i32 wx0.2.2.2.2
  have hb' := bounds_u32 wx1
  exact tincturelaw5_RvBack.calls 6 _ _ _ _ _ _ true W hL (pure _ _ _ _ _ _ (by omega) (by omega) (by omega) (by omega))
end Go.Proofs.YtmgbidehdnmjkaaDoor.RvBack
