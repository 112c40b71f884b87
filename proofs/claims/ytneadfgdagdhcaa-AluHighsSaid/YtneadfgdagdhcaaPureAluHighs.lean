/-
The pure statement of AluHighs: a product's highest and lowest half are the whole of it, in all three kinds of signs. For all numbers of 32 bits.
-/
import Derived.Test.YtneadfgdagdhcaaPAluHighsx1
import Derived.OpenShut
import Derived.Laws.BitsAllLaws
namespace Go.Proofs.Ytneadfgdagdhcaa.Pure.AluHighsLemmas
open Go Go.RowKit Go.Proofs.Ytneadfgdagdhcaa.PAluHighs Go.Proofs.YtneadfgdagdhcaaW.PrintWords Go.Proofs.YtneadfgdagdhcaaW.PrintLast Go.Proofs.YtneadfgdagdhcaaW.PrintMore
set_option linter.unusedSimpArgs false
set_option linter.unusedVariables false
theorem wrap32_lo (x : Int) : -2147483648 ≤ wrap32 x ∧ wrap32 x < 2147483648 := by unfold wrap32; omega
theorem wrap32_mod (x : Int) : wrap32 x % 4294967296 = x % 4294967296 := by unfold wrap32; omega
theorem wf32 {a : Int} (h : (Lit.int .u32 a).wf = true) : 0 ≤ a ∧ a < 4294967296 := by
  have := bounds_u32 h; omega
theorem mul_mod2 (x y u v : Int) (h : x % 4294967296 = u % 4294967296) (k : y % 4294967296 = v % 4294967296) : (x * y) % 4294967296 = (u * v) % 4294967296 := by
  rw [Int.mul_emod x y, h, k, ← Int.mul_emod]
theorem and31 {b : Int} (h0 : 0 ≤ b) (h1 : b < 4294967296) : Go.bits .and .u32 b 31 = b % 32 :=
  bits_mask .u32 32 (by decide) (fun n h h' => by rw [IntKind.wrap_u32]; omega) 5 (by decide) b h0 h1
theorem do0 (a b : Int) : tincturelaw1_do.f 0 a b = some ((a + b) % 4294967296) := by simp [tincturelaw1_do.f, alu_Do.f, alu_simple.f]
theorem do1 (a b : Int) : tincturelaw1_do.f 1 a b = some ((a - b) % 4294967296) := by simp [tincturelaw1_do.f, alu_Do.f, alu_simple.f]
theorem do5 (a b : Int) : tincturelaw1_do.f 5 a b = some (Go.bits .xor .u32 a b) := by simp [tincturelaw1_do.f, alu_Do.f, alu_simple.f]
theorem do8 (a b : Int) : tincturelaw1_do.f 8 a b = some (Go.bits .or .u32 a b) := by simp [tincturelaw1_do.f, alu_Do.f, alu_simple.f]
theorem do9 (a b : Int) : tincturelaw1_do.f 9 a b = some (Go.bits .and .u32 a b) := by simp [tincturelaw1_do.f, alu_Do.f, alu_simple.f]
theorem do10 (a b : Int) : tincturelaw1_do.f 10 a b = some ((a * b) % 4294967296) := by simp [tincturelaw1_do.f, alu_Do.f, alu_simple.f]
theorem do3 (a b : Int) : tincturelaw1_do.f 3 a b = some (if wrap32 a < wrap32 b then 1 else 0) := by
  simp only [tincturelaw1_do.f, alu_Do.f, alu_simple.f, alu_bit.f]; by_cases h : wrap32 a < wrap32 b <;> simp [h]
theorem do4 (a b : Int) : tincturelaw1_do.f 4 a b = some (if a < b then 1 else 0) := by
  simp only [tincturelaw1_do.f, alu_Do.f, alu_simple.f, alu_bit.f]; by_cases h : a < b <;> simp [h]
theorem do2 {a b : Int} (h0 : 0 ≤ b) (h1 : b < 4294967296) : tincturelaw1_do.f 2 a b = some (shl .u32 a (b % 32)) := by
  have h : 0 ≤ b % 32 := by omega
  simp [tincturelaw1_do.f, alu_Do.f, alu_simple.f, and31 h0 h1, h]
theorem do6 {a b : Int} (h0 : 0 ≤ b) (h1 : b < 4294967296) : tincturelaw1_do.f 6 a b = some (shr .u32 a (b % 32)) := by
  have h : 0 ≤ b % 32 := by omega
  simp [tincturelaw1_do.f, alu_Do.f, alu_simple.f, and31 h0 h1, h]
theorem do7 {a b : Int} (h0 : 0 ≤ b) (h1 : b < 4294967296) : tincturelaw1_do.f 7 a b = some (shr .i32 (wrap32 a) (b % 32) % 4294967296) := by
  have h : 0 ≤ b % 32 := by omega
  simp [tincturelaw1_do.f, alu_Do.f, alu_simple.f, and31 h0 h1, h]
theorem do11 (a b : Int) : tincturelaw1_do.f 11 a b = some (wrap64 (wrap64 (wrap32 a) * wrap64 (wrap32 b)) / 4294967296 % 4294967296) := by simp [tincturelaw1_do.f, alu_Do.f, alu_simple.f]
theorem do12 (a b : Int) : tincturelaw1_do.f 12 a b = some (wrap64 (wrap64 (wrap32 a) * wrap64 b) / 4294967296 % 4294967296) := by simp [tincturelaw1_do.f, alu_Do.f, alu_simple.f]
theorem do13 (a b : Int) : tincturelaw1_do.f 13 a b = some (IntKind.u64.wrap (IntKind.u64.wrap a * IntKind.u64.wrap b) / 4294967296 % 4294967296) := by simp [tincturelaw1_do.f, alu_Do.f, alu_simple.f]
/-- The signed quotient, as the machine tells it. -/
def sdiv (a b : Int) : Int := if b = 0 then 4294967295 else if a = 2147483648 ∧ b = 4294967295 then a else Int.tdiv (wrap32 a) (wrap32 b) % 4294967296
def srem (a b : Int) : Int := if b = 0 then a else if a = 2147483648 ∧ b = 4294967295 then 0 else Int.tmod (wrap32 a) (wrap32 b) % 4294967296
theorem wrap32_ne {b : Int} (h0 : 0 ≤ b) (h1 : b < 4294967296) (h : b ≠ 0) : ¬ wrap32 b = 0 := by unfold wrap32; omega
theorem divide_at {a b : Int} (h0 : 0 ≤ b) (h1 : b < 4294967296) : alu_divide.f a b = some (sdiv a b, srem a b) := by
  unfold alu_divide.f sdiv srem
  by_cases hb : b = 0
  · simp [hb]
  · have hw := wrap32_ne h0 h1 hb
    by_cases ha : a = 2147483648 <;> by_cases hm : b = 4294967295
    all_goals (first | (subst hm; simp [hw, ha, wrap32_mod]; done) | simp [hb, hw, ha, hm, wrap32_mod])
theorem do14 {a b : Int} (h0 : 0 ≤ b) (h1 : b < 4294967296) : tincturelaw1_do.f 14 a b = some (sdiv a b) := by
  simp [tincturelaw1_do.f, alu_Do.f, alu_simple.f, divide_at h0 h1]
theorem do16 {a b : Int} (h0 : 0 ≤ b) (h1 : b < 4294967296) : tincturelaw1_do.f 16 a b = some (srem a b) := by
  simp [tincturelaw1_do.f, alu_Do.f, alu_simple.f, divide_at h0 h1]
theorem do15 {a b : Int} : tincturelaw1_do.f 15 a b = some (if b = 0 then 4294967295 else Int.tdiv a b % 4294967296) := by
  simp only [tincturelaw1_do.f, alu_Do.f, alu_simple.f, alu_divideu.f]; by_cases h : b = 0 <;> simp [h]
theorem do17 {a b : Int} : tincturelaw1_do.f 17 a b = some (if b = 0 then a else Int.tmod a b) := by
  simp only [tincturelaw1_do.f, alu_Do.f, alu_simple.f, alu_divideu.f]; by_cases h : b = 0 <;> simp [h]
theorem awake_at : tincturelaw1_awake.f = some true := by
  simp [tincturelaw1_awake.f, do0, alu_Extend.f, alu_Do.f, alu_simple.f, alu_divide.f, IntKind.wrap, IntKind.bits, IntKind.signed, wrap32]
theorem or_join {x y : Int} (h0 : 0 ≤ x) (h1 : x < 4294967296) (g0 : 0 ≤ y) (g1 : y < 4294967296) : Go.bits .or .u64 (IntKind.u64.wrap (IntKind.u64.wrap x * 4294967296)) (IntKind.u64.wrap y) = x * 4294967296 + y := by
  have e : ∀ n : Int, IntKind.u64.wrap n = n % 18446744073709551616 := fun n => by simp [IntKind.wrap, IntKind.bits, IntKind.signed]
  rw [e, e, e]
  have e1 : (x % 18446744073709551616 * 4294967296) % 18446744073709551616 = x * 4294967296 := by omega
  have e2 : y % 18446744073709551616 = y := by omega
  rw [e1, e2]
  exact bits_join .u64 64 (by decide) (fun n h h' => by rw [e]; omega) 32 _ _ (by omega) (by omega) (by omega) g0 (by omega) (by omega)
theorem wrap64_id {x : Int} (h0 : -9223372036854775808 ≤ x) (h1 : x < 9223372036854775808) : wrap64 x = x := by unfold wrap64; omega
theorem u64_id {x : Int} : IntKind.u64.wrap x = x % 18446744073709551616 := by simp [IntKind.wrap, IntKind.bits, IntKind.signed]
theorem prod_le {s t m n : Int} (hs : -m ≤ s ∧ s ≤ m) (ht : -n ≤ t ∧ t ≤ n) (hm : 0 ≤ m) (hn : 0 ≤ n) : -(m * n) ≤ s * t ∧ s * t ≤ m * n := by
  have a1 := Int.mul_nonneg (by omega : 0 ≤ m - s) (by omega : 0 ≤ n - t)
  have a2 := Int.mul_nonneg (by omega : 0 ≤ m + s) (by omega : 0 ≤ n + t)
  have a3 := Int.mul_nonneg (by omega : 0 ≤ m - s) (by omega : 0 ≤ n + t)
  have a4 := Int.mul_nonneg (by omega : 0 ≤ m + s) (by omega : 0 ≤ n - t)
  simp only [Int.sub_mul, Int.add_mul, Int.mul_sub, Int.mul_add] at a1 a2 a3 a4
  omega
theorem high_whole {p l : Int} (hl : l = p % 4294967296) : Go.bits .or .u64 (IntKind.u64.wrap (IntKind.u64.wrap (p / 4294967296 % 4294967296) * 4294967296)) (IntKind.u64.wrap l) = p % 18446744073709551616 := by
  rw [or_join (by omega) (by omega) (by omega) (by omega)]; omega
end Go.Proofs.Ytneadfgdagdhcaa.Pure.AluHighsLemmas
namespace Go.Proofs.Ytneadfgdagdhcaa.Pure
open Go Go.RowKit Go.Proofs.Ytneadfgdagdhcaa.PAluHighs Go.Proofs.YtneadfgdagdhcaaW.PrintWords Go.Proofs.YtneadfgdagdhcaaW.PrintLast Go.Proofs.YtneadfgdagdhcaaW.PrintMore AluHighsLemmas

theorem AluHighs : tincturelaw1_AluHighs.Pure := by
  intro a b wa wb
  have ha := wf32 wa
  have hb := wf32 wb
  have la := wrap32_lo a
  have lb := wrap32_lo b
  have ma := wrap32_mod a
  have mb := wrap32_mod b
  have pst := prod_le (s := wrap32 a) (t := wrap32 b) (m := 2147483648) (n := 2147483648) (by omega) (by omega) (by omega) (by omega)
  have psb := prod_le (s := wrap32 a) (t := b) (m := 2147483648) (n := 4294967295) (by omega) (by omega) (by omega) (by omega)
  have pab := prod_le (s := a) (t := b) (m := 4294967295) (n := 4294967295) (by omega) (by omega) (by omega) (by omega)
  have pab0 := Int.mul_nonneg ha.1 hb.1
  have e1 : (a * b) % 4294967296 = (wrap32 a * wrap32 b) % 4294967296 := mul_mod2 _ _ _ _ ma.symm mb.symm
  have e2 : (a * b) % 4294967296 = (wrap32 a * b) % 4294967296 := mul_mod2 _ _ _ _ ma.symm rfl
  unfold tincturelaw1_AluHighs.f
  simp only [awake_at, Option.bind_some, if_true, do10, do11, do12, do13]
  rw [wrap64_id (x := wrap32 a) (by omega) (by omega), wrap64_id (x := wrap32 b) (by omega) (by omega), wrap64_id (x := b) (by omega) (by omega)]
  rw [wrap64_id (x := wrap32 a * wrap32 b) (by omega) (by omega), wrap64_id (x := wrap32 a * b) (by omega) (by omega)]
  simp only [u64_id (x := a), u64_id (x := b)]
  have ia : a % 18446744073709551616 = a := by omega
  have ib : b % 18446744073709551616 = b := by omega
  rw [ia, ib]
  rw [u64_id (x := a * b), show a * b % 18446744073709551616 = a * b by omega]
  rw [high_whole (p := a * b) rfl, high_whole (p := wrap32 a * wrap32 b) e1, high_whole (p := wrap32 a * b) e2]
  rw [if_pos (by omega), if_pos (by rw [u64_id])]
  simp only [Option.some.injEq, beq_iff_eq, u64_id]

end Go.Proofs.Ytneadfgdagdhcaa.Pure
