/- No label is lost, of each kind. -/
import Derived.Test.YtbhoijkamnaopaaTagSoundPure
namespace Go.Proofs.Ytbhoijkamnaopaa.Tag
open Go Go.RowKit Go.Proofs.Ytbhoijkamnaopaa Go.Proofs.YtbhoijkamnaopaaW.PrintWords Go.Proofs.YtbhoijkamnaopaaW.PrintLast Go.Proofs.YtbhoijkamnaopaaW.PrintMore
set_option linter.unusedVariables false
set_option linter.unusedSimpArgs false
section
variable {A B X Y : Nat} {f g : TF} {L : BitVec 8}
theorem low32 (hB : B < 4294967296) (hY : Y < 4294967296) (h : Agr g L B Y) (h0 : g 0 &&& L = 0) : B % 32 = Y % 32 := by
  have := agr_byte hB hY h (by omega : 0 < 4) h0
  have e : ∀ z : Nat, byI (z : Int) 0 = (z : Int) % 256 := fun z => rfl
  rw [e, e] at this
  omega
theorem v0 : doV 0 (A : Int) (B : Int) = (((A + B) % 4294967296 : Nat) : Int) := by
  show ((A : Int) + B) % 4294967296 = _; omega
theorem v1 (hB : B < 4294967296) : doV 1 (A : Int) (B : Int) = (((A + (4294967296 - B)) % 4294967296 : Nat) : Int) := by
  show ((A : Int) - B) % 4294967296 = _; omega
theorem v10 : doV 10 (A : Int) (B : Int) = (((A * B) % 4294967296 : Nat) : Int) := by
  show ((A : Int) * B) % 4294967296 = _
  rw [Int.natCast_emod, Int.natCast_mul]; rfl
theorem v5 (hA : A < 4294967296) (hB : B < 4294967296) : doV 5 (A : Int) (B : Int) = ((A ^^^ B : Nat) : Int) := u32_xor_nat A B hA hB
theorem v8 (hA : A < 4294967296) (hB : B < 4294967296) : doV 8 (A : Int) (B : Int) = ((A ||| B : Nat) : Int) := u32_or_nat A B hA hB
theorem v9 (hA : A < 4294967296) (hB : B < 4294967296) : doV 9 (A : Int) (B : Int) = ((A &&& B : Nat) : Int) := u32_and_nat A B hA hB
theorem n32 : ((B : Int) % 32).toNat = B % 32 := by omega
theorem v2 : doV 2 (A : Int) (B : Int) = (((A * 2 ^ (B % 32)) % 4294967296 : Nat) : Int) := by
  show shl .u32 (A : Int) ((B : Int) % 32) = _
  have m : min (B % 32) 32 = B % 32 := by omega
  simp only [shl, IntKind.wrap_u32, n32, IntKind.bits, m]
  rw [Int.natCast_emod, Int.natCast_mul, Int.natCast_pow]; rfl
theorem v6 : doV 6 (A : Int) (B : Int) = ((A / 2 ^ (B % 32) : Nat) : Int) := by
  show shr .u32 (A : Int) ((B : Int) % 32) = _
  have m : min (B % 32) 32 = B % 32 := by omega
  simp only [shr, n32, IntKind.bits, m]
  rw [Int.natCast_ediv, Int.natCast_pow]; rfl
/-- A number with its sign spread. -/
def ext (A : Nat) : Nat := if A < 2147483648 then A else 2 ^ 32 * 4294967295 + A
theorem ext_bit (hA : A < 4294967296) (q : Nat) (hq : q < 64) : (ext A).testBit q = A.testBit (min q 31) := by
  have h31 : A.testBit 31 = decide (2147483648 ≤ A) := by
    rw [Nat.testBit_eq_decide_div_mod_eq]
    congr 1
    have : (2 : Nat) ^ 31 = 2147483648 := by decide
    rw [this]
    apply propext
    omega
  unfold ext
  by_cases hs : A < 2147483648
  · rw [if_pos hs]
    by_cases h : q ≤ 31
    · rw [Nat.min_eq_left h]
    · rw [Nat.min_eq_right (by omega), h31, hi_bit hA (by omega)]
      simp; omega
  · rw [if_neg hs, Nat.testBit_two_pow_mul_add _ (by exact hA)]
    by_cases h : q < 32
    · rw [if_pos h, Nat.min_eq_left (by omega)]
    · rw [if_neg h, Nat.min_eq_right (by omega), h31]
      have e : (4294967295 : Nat) = 2 ^ 32 - 1 := by decide
      rw [e, Nat.testBit_two_pow_sub_one]
      simp; omega
theorem pow64 (n : Nat) (hn : n < 32) : (2 : Int) ^ n * (4294967296 * 2 ^ (32 - n)) = 18446744073709551616 := by
  have : ∀ n : Nat, n < 32 → (2 : Int) ^ n * (4294967296 * 2 ^ (32 - n)) = 18446744073709551616 := by decide +kernel
  exact this n hn
theorem sra_int (a : Int) (n : Nat) (hn : n < 32) : (a - 4294967296) / 2 ^ n % 4294967296 = (a + 18446744069414584320) / 2 ^ n % 4294967296 := by
  have hz : (2 : Int) ^ n ≠ 0 := by
    have : (0 : Int) < 2 ^ n := Int.pow_pos (by decide)
    omega
  have he : a + 18446744069414584320 = (a - 4294967296) + (2 : Int) ^ n * (4294967296 * 2 ^ (32 - n)) := by
    rw [pow64 n hn]; omega
  rw [he, Int.add_mul_ediv_left _ _ hz, Int.add_mul_emod_self_left]
theorem v7 (hA : A < 4294967296) : doV 7 (A : Int) (B : Int) = (((ext A / 2 ^ (B % 32)) % 4294967296 : Nat) : Int) := by
  have h0 : doV 7 (A : Int) (B : Int) = shr .i32 (wrap32 (A : Int)) ((B : Int) % 32) % 4294967296 := by simp [doV]
  rw [h0]
  have m : min (B % 32) 32 = B % 32 := by omega
  have hn : B % 32 < 32 := by omega
  simp only [shr, n32, IntKind.bits, m]
  generalize B % 32 = n at hn
  by_cases hs : A < 2147483648
  · have he : ext A = A := if_pos hs
    have hw : wrap32 (A : Int) = A := by unfold wrap32; omega
    have c4 : ((4294967296 : Nat) : Int) = 4294967296 := by omega
    have c2 : ((2 : Nat) : Int) = 2 := by omega
    rw [he, hw, Int.natCast_emod, Int.natCast_ediv, Int.natCast_pow, c4, c2]
  · have he : ext A = A + 18446744069414584320 := by
      have : ext A = 2 ^ 32 * 4294967295 + A := if_neg hs
      rw [this]; omega
    have hw : wrap32 (A : Int) = (A : Int) - 4294967296 := by unfold wrap32; omega
    have c4 : ((4294967296 : Nat) : Int) = 4294967296 := by omega
    have c2 : ((2 : Nat) : Int) = 2 := by omega
    have c1 : ((A + 18446744069414584320 : Nat) : Int) = (A : Int) + 18446744069414584320 := by omega
    rw [he, hw, sra_int _ _ hn, Int.natCast_emod, Int.natCast_ediv, Int.natCast_pow, c4, c2, c1]
theorem sh_zero {kind n : Int} {i p : Nat} (hi : i < 4) (h : shF kind n f 32 i &&& L = 0) (hp : p < 32) (hpi : i = p / 8) (hs : 0 ≤ srcI kind (p : Int) n ∧ srcI kind (p : Int) n < 32) : f (srcI kind (p : Int) n / 8).toNat &&& L = 0 :=
  and_zero (fun j hj => (shF_bit _ _ _ _ _ _).2 ⟨p, hp, hpi, hs, hj⟩) h
theorem src_agr {s : Int} {q : Nat} (hA : Agr f L A X) (h0 : f (s / 8).toNat &&& L = 0) (hs : 0 ≤ s ∧ s < 32) (hq : s = (q : Int)) : A.testBit q = X.testBit q :=
  hA (s / 8).toNat (by omega) h0 q (by omega)
end
end Go.Proofs.Ytbhoijkamnaopaa.Tag
