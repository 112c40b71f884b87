/-
The pure statement of AluSpreads: a sign that is spread twice is spread once; the lowest bits stay. For all numbers of 32 bits.
-/
import Derived.Test.YtneadfgdagdhcaaPAluSpreadsx1
import Derived.OpenShut
import Derived.Laws.BitsAllLaws
namespace Go.Proofs.Ytneadfgdagdhcaa.Pure.AluSpreadsLemmas
open Go Go.RowKit Go.Proofs.Ytneadfgdagdhcaa.PAluSpreads Go.Proofs.YtneadfgdagdhcaaW.PrintWords Go.Proofs.YtneadfgdagdhcaaW.PrintLast Go.Proofs.YtneadfgdagdhcaaW.PrintMore
set_option linter.unusedSimpArgs false
set_option linter.unusedVariables false
theorem wrap32_lo (x : Int) : -2147483648 ≤ wrap32 x ∧ wrap32 x < 2147483648 := by unfold wrap32; omega
theorem wrap32_mod (x : Int) : wrap32 x % 4294967296 = x % 4294967296 := by unfold wrap32; omega
theorem wf32 {a : Int} (h : (Lit.int .u32 a).wf = true) : 0 ≤ a ∧ a < 4294967296 := by
  have := bounds_u32 h; omega
theorem mul_mod2 (x y u v : Int) (h : x % 4294967296 = u % 4294967296) (k : y % 4294967296 = v % 4294967296) : (x * y) % 4294967296 = (u * v) % 4294967296 := by
  rw [Int.mul_emod x y, h, k, ← Int.mul_emod]
theorem and31 {b : Int} (h0 : 0 ≤ b) (h1 : b < 4294967296) : Go.bits .and .u32 b 31 = b % 32 :=
  bits_mask .u32 32 (by decide) (fun n h h' => by rw [IntKind.wrap_u32]; omega) 5 (by decide) b h0 h1
theorem do0 (a b : Int) : tincturelaw1_do.f 0 a b = some ((a + b) % 4294967296) := by simp [tincturelaw1_do.f, alu_Do.f, alu_simple.f]
theorem do1 (a b : Int) : tincturelaw1_do.f 1 a b = some ((a - b) % 4294967296) := by simp [tincturelaw1_do.f, alu_Do.f, alu_simple.f]
theorem do5 (a b : Int) : tincturelaw1_do.f 5 a b = some (Go.bits .xor .u32 a b) := by simp [tincturelaw1_do.f, alu_Do.f, alu_simple.f]
theorem do8 (a b : Int) : tincturelaw1_do.f 8 a b = some (Go.bits .or .u32 a b) := by simp [tincturelaw1_do.f, alu_Do.f, alu_simple.f]
theorem do9 (a b : Int) : tincturelaw1_do.f 9 a b = some (Go.bits .and .u32 a b) := by simp [tincturelaw1_do.f, alu_Do.f, alu_simple.f]
theorem do10 (a b : Int) : tincturelaw1_do.f 10 a b = some ((a * b) % 4294967296) := by simp [tincturelaw1_do.f, alu_Do.f, alu_simple.f]
theorem do3 (a b : Int) : tincturelaw1_do.f 3 a b = some (if wrap32 a < wrap32 b then 1 else 0) := by
  simp only [tincturelaw1_do.f, alu_Do.f, alu_simple.f, alu_bit.f]; by_cases h : wrap32 a < wrap32 b <;> simp [h]
theorem do4 (a b : Int) : tincturelaw1_do.f 4 a b = some (if a < b then 1 else 0) := by
  simp only [tincturelaw1_do.f, alu_Do.f, alu_simple.f, alu_bit.f]; by_cases h : a < b <;> simp [h]
theorem do2 {a b : Int} (h0 : 0 ≤ b) (h1 : b < 4294967296) : tincturelaw1_do.f 2 a b = some (shl .u32 a (b % 32)) := by
  have h : 0 ≤ b % 32 := by omega
  simp [tincturelaw1_do.f, alu_Do.f, alu_simple.f, and31 h0 h1, h]
theorem do6 {a b : Int} (h0 : 0 ≤ b) (h1 : b < 4294967296) : tincturelaw1_do.f 6 a b = some (shr .u32 a (b % 32)) := by
  have h : 0 ≤ b % 32 := by omega
  simp [tincturelaw1_do.f, alu_Do.f, alu_simple.f, and31 h0 h1, h]
theorem do7 {a b : Int} (h0 : 0 ≤ b) (h1 : b < 4294967296) : tincturelaw1_do.f 7 a b = some (shr .i32 (wrap32 a) (b % 32) % 4294967296) := by
  have h : 0 ≤ b % 32 := by omega
  simp [tincturelaw1_do.f, alu_Do.f, alu_simple.f, and31 h0 h1, h]
theorem do11 (a b : Int) : tincturelaw1_do.f 11 a b = some (wrap64 (wrap64 (wrap32 a) * wrap64 (wrap32 b)) / 4294967296 % 4294967296) := by simp [tincturelaw1_do.f, alu_Do.f, alu_simple.f]
theorem do12 (a b : Int) : tincturelaw1_do.f 12 a b = some (wrap64 (wrap64 (wrap32 a) * wrap64 b) / 4294967296 % 4294967296) := by simp [tincturelaw1_do.f, alu_Do.f, alu_simple.f]
theorem do13 (a b : Int) : tincturelaw1_do.f 13 a b = some (IntKind.u64.wrap (IntKind.u64.wrap a * IntKind.u64.wrap b) / 4294967296 % 4294967296) := by simp [tincturelaw1_do.f, alu_Do.f, alu_simple.f]
/-- The signed quotient, as the machine tells it. -/
def sdiv (a b : Int) : Int := if b = 0 then 4294967295 else if a = 2147483648 ∧ b = 4294967295 then a else Int.tdiv (wrap32 a) (wrap32 b) % 4294967296
def srem (a b : Int) : Int := if b = 0 then a else if a = 2147483648 ∧ b = 4294967295 then 0 else Int.tmod (wrap32 a) (wrap32 b) % 4294967296
theorem wrap32_ne {b : Int} (h0 : 0 ≤ b) (h1 : b < 4294967296) (h : b ≠ 0) : ¬ wrap32 b = 0 := by unfold wrap32; omega
theorem divide_at {a b : Int} (h0 : 0 ≤ b) (h1 : b < 4294967296) : alu_divide.f a b = some (sdiv a b, srem a b) := by
  unfold alu_divide.f sdiv srem
  by_cases hb : b = 0
  · simp [hb]
  · have hw := wrap32_ne h0 h1 hb
    by_cases ha : a = 2147483648 <;> by_cases hm : b = 4294967295
    all_goals (first | (subst hm; simp [hw, ha, wrap32_mod]; done) | simp [hb, hw, ha, hm, wrap32_mod])
theorem do14 {a b : Int} (h0 : 0 ≤ b) (h1 : b < 4294967296) : tincturelaw1_do.f 14 a b = some (sdiv a b) := by
  simp [tincturelaw1_do.f, alu_Do.f, alu_simple.f, divide_at h0 h1]
theorem do16 {a b : Int} (h0 : 0 ≤ b) (h1 : b < 4294967296) : tincturelaw1_do.f 16 a b = some (srem a b) := by
  simp [tincturelaw1_do.f, alu_Do.f, alu_simple.f, divide_at h0 h1]
theorem do15 {a b : Int} : tincturelaw1_do.f 15 a b = some (if b = 0 then 4294967295 else Int.tdiv a b % 4294967296) := by
  simp only [tincturelaw1_do.f, alu_Do.f, alu_simple.f, alu_divideu.f]; by_cases h : b = 0 <;> simp [h]
theorem do17 {a b : Int} : tincturelaw1_do.f 17 a b = some (if b = 0 then a else Int.tmod a b) := by
  simp only [tincturelaw1_do.f, alu_Do.f, alu_simple.f, alu_divideu.f]; by_cases h : b = 0 <;> simp [h]
theorem awake_at : tincturelaw1_awake.f = some true := by
  simp [tincturelaw1_awake.f, do0, alu_Extend.f, alu_Do.f, alu_simple.f, alu_divide.f, IntKind.wrap, IntKind.bits, IntKind.signed, wrap32]
theorem i8_wrap (n : Int) : IntKind.i8.wrap n = (n + 128) % 256 - 128 := by
  simp [IntKind.wrap, IntKind.bits, IntKind.signed]; split <;> omega
theorem i16_wrap (n : Int) : IntKind.i16.wrap n = (n + 32768) % 65536 - 32768 := by
  simp [IntKind.wrap, IntKind.bits, IntKind.signed]; split <;> omega
theorem and255 {b : Int} (h0 : 0 ≤ b) (h1 : b < 4294967296) : Go.bits .and .u32 b 255 = b % 256 :=
  bits_mask .u32 32 (by decide) (fun n h h' => by rw [IntKind.wrap_u32]; omega) 8 (by decide) b h0 h1
theorem and65535 {b : Int} (h0 : 0 ≤ b) (h1 : b < 4294967296) : Go.bits .and .u32 b 65535 = b % 65536 :=
  bits_mask .u32 32 (by decide) (fun n h h' => by rw [IntKind.wrap_u32]; omega) 16 (by decide) b h0 h1
theorem or_high {b : Int} (h0 : 0 ≤ b) (h1 : b < 4294967296) : Go.bits .or .u32 b 4294967040 = 4294967040 + b % 256 := by
  obtain ⟨n, rfl⟩ := Int.eq_ofNat_of_zero_le h0
  have hn : n < 4294967296 := by omega
  have := u32_or_nat n 4294967040 hn (by decide)
  rw [show (4294967040 : Int) = ((4294967040 : Nat) : Int) from rfl, this]
  have e : n ||| 4294967040 = 4294967040 + n % 256 := by
    have j := nat_join 8 4294967040 (n % 256) (by decide) (by omega)
    rw [← j]
    apply Nat.eq_of_testBit_eq
    intro i
    rw [Nat.testBit_or, Nat.testBit_or, Nat.testBit_mod_two_pow (j := 8)]
    by_cases hi : i < 32
    · rcases Nat.lt_or_ge i 8 with h | h
      · simp [h, Bool.or_comm]
      · have ht : Nat.testBit 4294967040 i = true := by
          have : ∀ i, i < 32 → 8 ≤ i → Nat.testBit 4294967040 i = true := by decide
          exact this i hi h
        simp [ht]
    · have h2 : Nat.testBit n i = false := Nat.testBit_lt_two_pow (Nat.lt_of_lt_of_le hn (Nat.pow_le_pow_right (n := 2) (by decide) (by omega : 32 ≤ i)))
      simp [h2, (by omega : ¬ i < 8)]
  rw [e]; omega
theorem ext8 (v : Int) : alu_Extend.f v 8 = some (((v + 128) % 256 - 128) % 4294967296) := by
  have h := Int.emod_nonneg (v + 128) (by decide : (256 : Int) ≠ 0)
  have h' := Int.emod_lt_of_pos (v + 128) (by decide : (0 : Int) < 256)
  simp only [alu_Extend.f, if_true, i8_wrap, wrap32_mod]
theorem ext16 (v : Int) : alu_Extend.f v 16 = some (((v + 32768) % 65536 - 32768) % 4294967296) := by
  simp only [alu_Extend.f, i16_wrap, wrap32_mod]; rfl
end Go.Proofs.Ytneadfgdagdhcaa.Pure.AluSpreadsLemmas
namespace Go.Proofs.Ytneadfgdagdhcaa.Pure
open Go Go.RowKit Go.Proofs.Ytneadfgdagdhcaa.PAluSpreads Go.Proofs.YtneadfgdagdhcaaW.PrintWords Go.Proofs.YtneadfgdagdhcaaW.PrintLast Go.Proofs.YtneadfgdagdhcaaW.PrintMore AluSpreadsLemmas

theorem AluSpreads : tincturelaw1_AluSpreads.Pure := by
  intro v wv
  have hv := wf32 wv
  unfold tincturelaw1_AluSpreads.f
  simp only [awake_at, Option.bind_some, if_true, ext8, ext16]
  rw [and255 (b := v) hv.1 hv.2, and65535 (b := v) hv.1 hv.2, or_high hv.1 hv.2, and255 (b := ((v + 128) % 256 - 128) % 4294967296) (by omega) (by omega), and65535 (b := ((v + 32768) % 65536 - 32768) % 4294967296) (by omega) (by omega)]
  rw [if_pos (by omega), if_pos (by omega), if_pos (by omega), if_pos (by omega), if_pos (by omega)]
  split
  · rfl
  · simp only [Option.some.injEq, beq_iff_eq]; omega

end Go.Proofs.Ytneadfgdagdhcaa.Pure
