/-
The pure statement of AluTests: any two numbers are compared, any number is extended, as the document says. For all kinds, numbers of 32 bits, and widths.
-/
import Derived.Test.YtneadfgdagdhcaaPAluTestsx2
import Derived.OpenShut
import Derived.Laws.BitsAllLaws
namespace Go.Proofs.Ytneadfgdagdhcaa.Pure.AluTestsLemmas
open Go Go.RowKit Go.Proofs.Ytneadfgdagdhcaa.PAluTests Go.Proofs.YtneadfgdagdhcaaW.PrintWords Go.Proofs.YtneadfgdagdhcaaW.PrintLast Go.Proofs.YtneadfgdagdhcaaW.PrintMore
set_option linter.unusedSimpArgs false
set_option linter.unusedVariables false
theorem wrap32_lo (x : Int) : -2147483648 ≤ wrap32 x ∧ wrap32 x < 2147483648 := by unfold wrap32; omega
theorem wrap32_mod (x : Int) : wrap32 x % 4294967296 = x % 4294967296 := by unfold wrap32; omega
theorem wf32 {a : Int} (h : (Lit.int .u32 a).wf = true) : 0 ≤ a ∧ a < 4294967296 := by
  have := bounds_u32 h; omega
theorem mul_mod2 (x y u v : Int) (h : x % 4294967296 = u % 4294967296) (k : y % 4294967296 = v % 4294967296) : (x * y) % 4294967296 = (u * v) % 4294967296 := by
  rw [Int.mul_emod x y, h, k, ← Int.mul_emod]
theorem and31 {b : Int} (h0 : 0 ≤ b) (h1 : b < 4294967296) : Go.bits .and .u32 b 31 = b % 32 :=
  bits_mask .u32 32 (by decide) (fun n h h' => by rw [IntKind.wrap_u32]; omega) 5 (by decide) b h0 h1
theorem do0 (a b : Int) : tincturelaw1_do.f 0 a b = some ((a + b) % 4294967296) := by simp [tincturelaw1_do.f, alu_Do.f, alu_simple.f]
theorem do1 (a b : Int) : tincturelaw1_do.f 1 a b = some ((a - b) % 4294967296) := by simp [tincturelaw1_do.f, alu_Do.f, alu_simple.f]
theorem do5 (a b : Int) : tincturelaw1_do.f 5 a b = some (Go.bits .xor .u32 a b) := by simp [tincturelaw1_do.f, alu_Do.f, alu_simple.f]
theorem do8 (a b : Int) : tincturelaw1_do.f 8 a b = some (Go.bits .or .u32 a b) := by simp [tincturelaw1_do.f, alu_Do.f, alu_simple.f]
theorem do9 (a b : Int) : tincturelaw1_do.f 9 a b = some (Go.bits .and .u32 a b) := by simp [tincturelaw1_do.f, alu_Do.f, alu_simple.f]
theorem do10 (a b : Int) : tincturelaw1_do.f 10 a b = some ((a * b) % 4294967296) := by simp [tincturelaw1_do.f, alu_Do.f, alu_simple.f]
theorem do3 (a b : Int) : tincturelaw1_do.f 3 a b = some (if wrap32 a < wrap32 b then 1 else 0) := by
  simp only [tincturelaw1_do.f, alu_Do.f, alu_simple.f, alu_bit.f]; by_cases h : wrap32 a < wrap32 b <;> simp [h]
theorem do4 (a b : Int) : tincturelaw1_do.f 4 a b = some (if a < b then 1 else 0) := by
  simp only [tincturelaw1_do.f, alu_Do.f, alu_simple.f, alu_bit.f]; by_cases h : a < b <;> simp [h]
theorem do2 {a b : Int} (h0 : 0 ≤ b) (h1 : b < 4294967296) : tincturelaw1_do.f 2 a b = some (shl .u32 a (b % 32)) := by
  have h : 0 ≤ b % 32 := by omega
  simp [tincturelaw1_do.f, alu_Do.f, alu_simple.f, and31 h0 h1, h]
theorem do6 {a b : Int} (h0 : 0 ≤ b) (h1 : b < 4294967296) : tincturelaw1_do.f 6 a b = some (shr .u32 a (b % 32)) := by
  have h : 0 ≤ b % 32 := by omega
  simp [tincturelaw1_do.f, alu_Do.f, alu_simple.f, and31 h0 h1, h]
theorem do7 {a b : Int} (h0 : 0 ≤ b) (h1 : b < 4294967296) : tincturelaw1_do.f 7 a b = some (shr .i32 (wrap32 a) (b % 32) % 4294967296) := by
  have h : 0 ≤ b % 32 := by omega
  simp [tincturelaw1_do.f, alu_Do.f, alu_simple.f, and31 h0 h1, h]
theorem do11 (a b : Int) : tincturelaw1_do.f 11 a b = some (wrap64 (wrap64 (wrap32 a) * wrap64 (wrap32 b)) / 4294967296 % 4294967296) := by simp [tincturelaw1_do.f, alu_Do.f, alu_simple.f]
theorem do12 (a b : Int) : tincturelaw1_do.f 12 a b = some (wrap64 (wrap64 (wrap32 a) * wrap64 b) / 4294967296 % 4294967296) := by simp [tincturelaw1_do.f, alu_Do.f, alu_simple.f]
theorem do13 (a b : Int) : tincturelaw1_do.f 13 a b = some (IntKind.u64.wrap (IntKind.u64.wrap a * IntKind.u64.wrap b) / 4294967296 % 4294967296) := by simp [tincturelaw1_do.f, alu_Do.f, alu_simple.f]
/-- The signed quotient, as the machine tells it. -/
def sdiv (a b : Int) : Int := if b = 0 then 4294967295 else if a = 2147483648 ∧ b = 4294967295 then a else Int.tdiv (wrap32 a) (wrap32 b) % 4294967296
def srem (a b : Int) : Int := if b = 0 then a else if a = 2147483648 ∧ b = 4294967295 then 0 else Int.tmod (wrap32 a) (wrap32 b) % 4294967296
theorem wrap32_ne {b : Int} (h0 : 0 ≤ b) (h1 : b < 4294967296) (h : b ≠ 0) : ¬ wrap32 b = 0 := by unfold wrap32; omega
theorem divide_at {a b : Int} (h0 : 0 ≤ b) (h1 : b < 4294967296) : alu_divide.f a b = some (sdiv a b, srem a b) := by
  unfold alu_divide.f sdiv srem
  by_cases hb : b = 0
  · simp [hb]
  · have hw := wrap32_ne h0 h1 hb
    by_cases ha : a = 2147483648 <;> by_cases hm : b = 4294967295
    all_goals (first | (subst hm; simp [hw, ha, wrap32_mod]; done) | simp [hb, hw, ha, hm, wrap32_mod])
theorem do14 {a b : Int} (h0 : 0 ≤ b) (h1 : b < 4294967296) : tincturelaw1_do.f 14 a b = some (sdiv a b) := by
  simp [tincturelaw1_do.f, alu_Do.f, alu_simple.f, divide_at h0 h1]
theorem do16 {a b : Int} (h0 : 0 ≤ b) (h1 : b < 4294967296) : tincturelaw1_do.f 16 a b = some (srem a b) := by
  simp [tincturelaw1_do.f, alu_Do.f, alu_simple.f, divide_at h0 h1]
theorem do15 {a b : Int} : tincturelaw1_do.f 15 a b = some (if b = 0 then 4294967295 else Int.tdiv a b % 4294967296) := by
  simp only [tincturelaw1_do.f, alu_Do.f, alu_simple.f, alu_divideu.f]; by_cases h : b = 0 <;> simp [h]
theorem do17 {a b : Int} : tincturelaw1_do.f 17 a b = some (if b = 0 then a else Int.tmod a b) := by
  simp only [tincturelaw1_do.f, alu_Do.f, alu_simple.f, alu_divideu.f]; by_cases h : b = 0 <;> simp [h]
theorem awake_at : tincturelaw1_awake.f = some true := by
  simp [tincturelaw1_awake.f, do0, alu_Extend.f, alu_Do.f, alu_simple.f, alu_divide.f, IntKind.wrap, IntKind.bits, IntKind.signed, wrap32]
theorem i8_wrap (n : Int) : IntKind.i8.wrap n = (n + 128) % 256 - 128 := by
  simp [IntKind.wrap, IntKind.bits, IntKind.signed]; split <;> omega
theorem i16_wrap (n : Int) : IntKind.i16.wrap n = (n + 32768) % 65536 - 32768 := by
  simp [IntKind.wrap, IntKind.bits, IntKind.signed]; split <;> omega
theorem and255 {b : Int} (h0 : 0 ≤ b) (h1 : b < 4294967296) : Go.bits .and .u32 b 255 = b % 256 :=
  bits_mask .u32 32 (by decide) (fun n h h' => by rw [IntKind.wrap_u32]; omega) 8 (by decide) b h0 h1
theorem and65535 {b : Int} (h0 : 0 ≤ b) (h1 : b < 4294967296) : Go.bits .and .u32 b 65535 = b % 65536 :=
  bits_mask .u32 32 (by decide) (fun n h h' => by rw [IntKind.wrap_u32]; omega) 16 (by decide) b h0 h1
theorem join_low (h : Int) (i : Nat) {b : Int} (g0 : 0 ≤ h) (g1 : h < 4294967296) (hz : h % 2 ^ i = 0) (b0 : 0 ≤ b) (b1 : b < 2 ^ i) (b2 : b < 4294967296) : Go.bits .or .u32 b h = h + b := by
  have := bits_join .u32 32 (by decide) (fun n h h' => by rw [IntKind.wrap_u32]; omega) i h b g0 hz (by omega) b0 b1 (by omega)
  rw [← this]
  simp only [Go.bits, BitVec.or_comm]
theorem wide_at {a : Int} (h0 : 0 ≤ a) (h1 : a < 4294967296) : tinctureref1_wide.f a = some (wrap32 a) := by
  simp only [tinctureref1_wide.f, tinctureref1_neg.f, Option.bind_some]
  by_cases h : a / 2147483648 = 1
  · simp [h]; unfold wrap32 wrap64; omega
  · simp [h]; unfold wrap32 wrap64; omega
theorem ext_at {v n : Int} (h0 : 0 ≤ v) (h1 : v < 4294967296) : alu_Extend.f v n = tinctureref1_Extend.f v n := by
  unfold alu_Extend.f tinctureref1_Extend.f
  rw [and255 h0 h1, and65535 h0 h1, i8_wrap, i16_wrap, wrap32_mod, wrap32_mod]
  by_cases h8 : n = 8
  · simp only [if_pos h8]
    by_cases g : v % 256 ≥ 128
    · rw [if_pos g, join_low 4294967040 8 (by omega) (by omega) (by decide) (by omega) (by omega) (by omega)]
      simp only [Option.some.injEq]; omega
    · rw [if_neg g]; simp only [Option.some.injEq]; omega
  · simp only [if_neg h8]
    by_cases h16 : n = 16
    · simp only [if_pos h16]
      by_cases g : v % 65536 ≥ 32768
      · rw [if_pos g, join_low 4294901760 16 (by omega) (by omega) (by decide) (by omega) (by omega) (by omega)]
        simp only [Option.some.injEq]; omega
      · rw [if_neg g]; simp only [Option.some.injEq]; omega
    · simp only [if_neg h16]
theorem ext_some (v n : Int) : ∃ r, tinctureref1_Extend.f v n = some r := by
  unfold tinctureref1_Extend.f; split <;> split <;> (try split) <;> exact ⟨_, rfl⟩
theorem test_at {k a b : Int} (ha : 0 ≤ a ∧ a < 4294967296) (hb : 0 ≤ b ∧ b < 4294967296) :
    ∃ v e o, alu_Test.f k a b = some (v, e) ∧ tinctureref1_Test.f k a b = some (v, o) ∧ (e == 0) = o ∧ (o = true ∨ e = 1) := by
  unfold alu_Test.f tinctureref1_Test.f
  simp only [wide_at ha.1 ha.2, wide_at hb.1 hb.2, Option.bind_some]
  repeat' (first | (split; · exact ⟨_, _, _, rfl, rfl, by decide, by simp⟩) | exact ⟨_, _, _, rfl, rfl, by decide, by simp⟩)
end Go.Proofs.Ytneadfgdagdhcaa.Pure.AluTestsLemmas
namespace Go.Proofs.Ytneadfgdagdhcaa.Pure
open Go Go.RowKit Go.Proofs.Ytneadfgdagdhcaa.PAluTests Go.Proofs.YtneadfgdagdhcaaW.PrintWords Go.Proofs.YtneadfgdagdhcaaW.PrintLast Go.Proofs.YtneadfgdagdhcaaW.PrintMore AluTestsLemmas

theorem AluTests : tincturelaw1_AluTests.Pure := by
  intro k a b n _ wa wb _
  have ha := wf32 wa
  have hb := wf32 wb
  obtain ⟨v, e, o, h1, h2, h3, h4⟩ := test_at (k := k) ha hb
  obtain ⟨r, hr⟩ := ext_some a n
  have hx := ext_at (n := n) ha.1 ha.2
  unfold tincturelaw1_AluTests.f
  simp only [awake_at, Option.bind_some, if_true, h1, h2, hx, hr, h3]
  rcases h4 with h4 | h4 <;> simp_all

end Go.Proofs.Ytneadfgdagdhcaa.Pure
