/- What the reference's Flow answers, of each kind. -/
import Derived.Test.YtbhoijkamnaopaaTagFlow
import Derived.Test.YtbhoijkamnaopaaTagRb
import Derived.Test.YtbhoijkamnaopaaTagRe
import Derived.Test.YtbhoijkamnaopaaTagRx
namespace Go.Proofs.Ytbhoijkamnaopaa.Tag
open Go Go.RowKit Go.Proofs.Ytbhoijkamnaopaa
set_option linter.unusedVariables false
theorem or_iv (x y : BitVec 8) : bits .or .u8 (iv x) (iv y) = iv (x ||| y) := or8_iv x y
theorem sh_of (kind n : Int) (f : TF) : tagOf (shAcc kind n (ofF f) 32) = tagF (shF kind n f 32) := tagF_of (shAcc_ofF kind n f 32 (Nat.le_refl _))
theorem flowR (kind a b : Int) (f g : TF) (ha : 0 ≤ a) (ha' : a < 4294967296) (hb : 0 ≤ b) (hb' : b < 4294967296) (w : World) :
    Calls Try.prog 14 #[.int .i64 kind, .int .u32 a, .int .u32 b, tagF f, tagF g] w (RetE (.tuple #[tagF (flowF kind a b f g), .bool (decide (errK kind = 0))]) w) := by
  by_cases hk : 0 ≤ kind ∧ kind ≤ 17
  · have he : errK kind = 0 := if_pos hk
    have hd : decide (errK kind = 0) = true := decide_eq_true he
    rw [hd]
    unfold flowF
    by_cases h1 : kind = 5 ∨ kind = 8
    · rw [if_pos h1]
      exact flow14a_ w (joinR f g) h1
    rw [if_neg h1]
    by_cases h2 : kind = 9
    · rw [if_pos h2]
      subst h2
      have h := flow14b_ (a := a) (b := b) (a0 := iv (f 0)) (a1 := iv (f 1)) (a2 := iv (f 2)) (a3 := iv (f 3)) (b0 := iv (g 0)) (b1 := iv (g 1)) (b2 := iv (g 2)) (b3 := iv (g 3)) w ha ha' hb hb'
      have e : tagOf (mAcc a b (ofF f) (ofF g) 4) = tagF (mF a b f g) := tagF_of (mAcc_ofF a b f g)
      rw [← e]
      exact h
    rw [if_neg h2]
    by_cases h3 : kind = 0 ∨ kind = 1 ∨ kind = 10
    · rw [if_pos h3]
      exact flow14c_ w (joinR f g) (upR (joinF f g)) h3
    rw [if_neg h3]
    by_cases h4 : kind = 2 ∨ kind = 6 ∨ kind = 7
    · rw [if_pos h4]
      by_cases hz : g 0 = 0
      · rw [if_pos hz]
        have hm := mask31 hb hb'
        have h0 : tagF g = .agg #[.int .u8 0, .int .u8 (iv (g 1)), .int .u8 (iv (g 2)), .int .u8 (iv (g 3))] := by
          show Value.agg #[.int .u8 (iv (g 0)), .int .u8 (iv (g 1)), .int .u8 (iv (g 2)), .int .u8 (iv (g 3))] = _
          rw [iv_zero.2 hz]
        rw [h0]
        rcases h4 with h | h | h
        · subst h; rw [← sh_of]; exact flow14e2_ w (by omega) (by omega) hm
        · subst h; rw [← sh_of]; exact flow14e6_ w (by omega) (by omega) hm
        · subst h; rw [← sh_of]; exact flow14e7_ w (by omega) (by omega) hm
      · rw [if_neg hz]
        exact flow14d_ w (allR f) (fun w => by show Calls Try.prog 23 #[.int .u8 (bits .or .u8 (iv (allF f)) (iv (g 0)))] w _; rw [or_iv]; exact fillR _ w) (fun h => hz (iv_zero.1 h)) h4
    rw [if_neg h4]
    by_cases h5 : kind = 3 ∨ kind = 4
    · rw [if_pos h5]
      have h := flow14f_ (a := a) (b := b) (kind := kind) (x0 := 0) (x1 := 0) (x2 := 0) (x3 := 0) w (allR f) (allR g) h5
      rw [or_iv] at h
      exact h
    rw [if_neg h5]
    have h6 : kind = 11 ∨ kind = 12 ∨ kind = 13 ∨ kind = 14 ∨ kind = 15 ∨ kind = 16 ∨ kind = 17 := by omega
    rw [if_pos h6]
    exact flow14g_ w (allR f) (allR g) (fun w => by rw [or_iv]; exact fillR _ w) h6
  · have he : errK kind = 1 := if_neg hk
    have hd : decide (errK kind = 0) = false := by rw [he]; decide
    rw [hd, flowF_bad hk]
    exact flow14z_ w hk
end Go.Proofs.Ytbhoijkamnaopaa.Tag
