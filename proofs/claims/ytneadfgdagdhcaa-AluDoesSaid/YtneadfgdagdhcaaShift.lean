/-
The walk of the reference's shift (by a count below 32): up, down, down with the sign; for all numbers of 32 bits.
-/
import Derived.Test.YtneadfgdagdhcaaAlu
namespace Go.Proofs.Ytneadfgdagdhcaa.Shift
open Go Go.RowKit Go.Proofs.Ytneadfgdagdhcaa.PAluDivides Go.Proofs.YtneadfgdagdhcaaW.PrintWords Go.Proofs.YtneadfgdagdhcaaW.PrintLast Go.Proofs.YtneadfgdagdhcaaW.PrintMore
set_option linter.unusedSimpArgs false
set_option linter.unusedVariables false
open Go.Proofs.Ytneadfgdagdhcaa.Alu
theorem and1 {y : Int} (h0 : 0 ≤ y) (h1 : y < 4294967296) : Go.bits .and .u32 y 1 = y % 2 :=
  bits_mask .u32 32 (by decide) (fun n h h' => by rw [IntKind.wrap_u32]; omega) 1 (by decide) y h0 h1
theorem pow_at (n : Nat) (h : n < 32) : (0 : Int) < 2 ^ n ∧ (2 : Int) ^ n ≤ 2147483648 := by
  have : ∀ n : Nat, n < 32 → (0 : Int) < 2 ^ n ∧ (2 : Int) ^ n ≤ 2147483648 := by decide
  exact this n h
theorem mod_more (X : Int) (k : Nat) : X % 2 ^ (k + 1) = X % 2 ^ k + X / 2 ^ k % 2 * 2 ^ k := by
  rw [Int.pow_succ, Int.mul_comm (X / 2 ^ k % 2)]
  have hp : (0 : Int) < 2 ^ k := Int.pow_pos (by decide)
  have e1 := Int.mul_ediv_add_emod X (2 ^ k)
  have e2 := Int.mul_ediv_add_emod (X / 2 ^ k) 2
  have l1 := Int.emod_nonneg X (Int.ne_of_gt hp)
  have l2 := Int.emod_lt_of_pos X hp
  have m1 := Int.emod_nonneg (X / 2 ^ k) (by decide : (2 : Int) ≠ 0)
  have m2 := Int.emod_lt_of_pos (X / 2 ^ k) (by decide : (0 : Int) < 2)
  generalize hq : X / 2 ^ k = q at *
  generalize hr : X % 2 ^ k = r at *
  generalize hP : (2 : Int) ^ k = P at *
  have hX : X = P * 2 * (q / 2) + (r + P * (q % 2)) := by
    rw [← e1]
    conv => lhs; rw [← e2]
    rw [Int.mul_add, ← Int.mul_assoc]; omega
  rw [hX, Int.mul_add_emod_self_left]
  have b : P * (q % 2) ≤ P := by
    rcases (by omega : q % 2 = 0 ∨ q % 2 = 1) with h | h <;> rw [h] <;> omega
  have b0 : 0 ≤ P * (q % 2) := Int.mul_nonneg (by omega) m1
  exact Int.emod_eq_of_lt (by omega) (by omega)
theorem join_bit (X c : Int) (k : Nat) (hk : k < 32) (hc : c = X / 2 ^ k % 2) : Go.bits .or .u32 (X % 2 ^ k) (c * 2 ^ k % 4294967296) = X % 2 ^ (k + 1) := by
  have hp := pow_at k hk
  have m1 := Int.emod_nonneg (X / 2 ^ k) (by decide : (2 : Int) ≠ 0)
  have m2 := Int.emod_lt_of_pos (X / 2 ^ k) (by decide : (0 : Int) < 2)
  have l1 := Int.emod_nonneg X (Int.ne_of_gt hp.1)
  have l2 := Int.emod_lt_of_pos X hp.1
  rw [mod_more, ← hc]
  have hcc : c = 0 ∨ c = 1 := by omega
  have hr : c * 2 ^ k % 4294967296 = c * 2 ^ k := by rcases hcc with h | h <;> rw [h] <;> omega
  rw [hr, show Go.bits .or .u32 (X % 2 ^ k) (c * 2 ^ k) = Go.bits .or .u32 (c * 2 ^ k) (X % 2 ^ k) by simp only [Go.bits, BitVec.or_comm]]
  rw [bits_join .u32 32 (by decide) (fun n h h' => by rw [IntKind.wrap_u32]; omega) k (c * 2 ^ k) (X % 2 ^ k) (by rcases hcc with h | h <;> rw [h] <;> omega) (by rw [Int.mul_emod_left]) (by rcases hcc with h | h <;> rw [h] <;> omega) l1 l2 (by omega)]
  omega
theorem join_none (X : Int) (k : Nat) (hk : k < 32) (hc : X / 2 ^ k % 2 = 0) : Go.bits .or .u32 (X % 2 ^ k) 0 = X % 2 ^ (k + 1) := by
  have := join_bit X 0 k hk hc.symm
  rwa [Int.zero_mul] at this
theorem div_pow (a : Int) (n k : Nat) : a / 2 ^ n / 2 ^ k = a / 2 ^ (n + k) := by
  rw [Int.ediv_ediv_of_nonneg (Int.pow_nonneg (by decide)), Int.pow_add]
theorem up_bit (a : Int) (n k : Nat) (h : n ≤ k) : a * 2 ^ n / 2 ^ k = a / 2 ^ (k - n) := by
  obtain ⟨d, rfl⟩ := Nat.le.dest h
  rw [Nat.add_sub_cancel_left, Int.pow_add, Int.mul_comm (2 ^ n) (2 ^ d), Int.mul_ediv_mul_of_pos_left _ _ (Int.pow_pos (by decide))]
theorem up_none (a : Int) (n k : Nat) (h : ¬ n ≤ k) : a * 2 ^ n / 2 ^ k % 2 = 0 := by
  obtain ⟨d, rfl⟩ := Nat.le.dest (Nat.lt_of_not_le h : k + 1 ≤ n)
  rw [Int.pow_add, Int.pow_succ, Int.mul_comm a, Int.mul_assoc, Int.mul_assoc, Int.mul_ediv_cancel_left _ (Int.ne_of_gt (Int.pow_pos (by decide)))]
  exact Int.mul_emod_right 2 _
theorem big_pow {m : Nat} (hm : 32 ≤ m) : (4294967296 : Int) ≤ 2 ^ m := by
  obtain ⟨d, rfl⟩ := Nat.le.dest hm
  rw [Int.pow_add]
  have h : (0 : Int) < 2 ^ d := Int.pow_pos (by decide)
  have e : (2 : Int) ^ 32 = 4294967296 := by decide
  rw [e]; omega
theorem low_none {a : Int} {m : Nat} (ha : 0 ≤ a ∧ a < 4294967296) (hm : 32 ≤ m) : a / 2 ^ m = 0 := by
  apply Int.ediv_eq_zero_of_lt ha.1
  have := big_pow hm
  omega
theorem sign_bit {a : Int} {m : Nat} (ha : 0 ≤ a ∧ a < 4294967296) (hm : 32 ≤ m) : wrap32 a / 2 ^ m % 2 = a / 2147483648 := by
  have hp := big_pow hm
  by_cases h : a < 2147483648
  · have e : wrap32 a = a := by unfold wrap32; omega
    rw [e, Int.ediv_eq_zero_of_lt ha.1 (by omega)]; omega
  · have e : wrap32 a = a - 4294967296 := by unfold wrap32; omega
    have e2 : wrap32 a / 2 ^ m = -1 := by
      have q : (0 : Int) < 2 ^ m := by omega
      have l1 := (Int.le_ediv_iff_mul_le (a := -1) (b := a - 4294967296) q).2 (by omega)
      have l2 := (Int.ediv_lt_iff_lt_mul (a := a - 4294967296) (b := 0) q).2 (by omega)
      rw [e]; omega
    rw [e2]; omega
theorem same_bit {a : Int} {m : Nat} (ha : 0 ≤ a ∧ a < 4294967296) (hm : m < 32) : wrap32 a / 2 ^ m % 2 = a / 2 ^ m % 2 := by
  by_cases h : a < 2147483648
  · have e : wrap32 a = a := by unfold wrap32; omega
    rw [e]
  · have e : wrap32 a = a + -1 * 4294967296 := by unfold wrap32; omega
    obtain ⟨d, hd⟩ := Nat.le.dest (hm : m + 1 ≤ 32)
    have h32 : (4294967296 : Int) = 2 ^ m * (2 * 2 ^ d) := by
      have : (4294967296 : Int) = 2 ^ 32 := rfl
      rw [this, ← hd, Int.pow_add, Int.pow_succ, Int.mul_assoc]
    rw [e, h32, ← Int.mul_assoc, Int.mul_comm (-1), Int.mul_assoc, Int.add_mul_ediv_left _ _ (Int.ne_of_gt (Int.pow_pos (by decide)))]
    rw [← Int.mul_assoc, Int.mul_comm (-1), Int.mul_assoc, Int.add_mul_emod_self_left]
set_option maxRecDepth 100000 in
theorem shift2 (a : Int) (n : Nat) (w : World) (ha : 0 ≤ a ∧ a < 4294967296) (hn : n < 32) :
    Calls Try.prog 24 #[.int .i64 2, .int .u32 a, .int .i64 n] w fun e w' => e = .returned (.int .u32 (a * 2 ^ n % 4294967296)) ∧ w' = w := by
  go_enter Try.func24, Try.ntmps24
  go_wp2
  go_loop [7, 8] (fun r i => ∃ k : Nat, k ≤ 32 ∧ i = .int .i64 k ∧ r = .int .u32 (a * 2 ^ n % 2 ^ k)) (fun _ i => 32 - (intOf i).toNat)
  case atStart => exact ⟨0, by omega, rfl, by simp⟩
  case round =>
    obtain ⟨k, hk, rfl, rfl⟩ := hrel
    by_cases hlt : k < 32
    · by_cases hf : n ≤ k
      · go_wp2
        go_round
        case rel =>
          refine ⟨k + 1, by omega, rfl, ?_⟩
          have h1 : 0 ≤ a / 2 ^ (k - n) := Int.ediv_nonneg ha.1 (Int.pow_nonneg (by decide))
          have h2 : a / 2 ^ (k - n) ≤ a := Int.ediv_le_self _ ha.1
          rw [and1 h1 (by omega), join_bit _ _ k hlt (by rw [up_bit a n k hf])]
        case measure => simp [intOf]; omega
      · go_wp2
        go_round
        case rel => exact ⟨k + 1, by omega, rfl, by rw [join_none _ k hlt (up_none a n k hf)]⟩
        case measure => simp [intOf]; omega
    · go_wp2
      go_ret
      obtain rfl : k = 32 := by omega
      exact ⟨rfl, rfl⟩

set_option maxRecDepth 100000 in
theorem shift6 (a : Int) (n : Nat) (w : World) (ha : 0 ≤ a ∧ a < 4294967296) (hn : n < 32) :
    Calls Try.prog 24 #[.int .i64 6, .int .u32 a, .int .i64 n] w fun e w' => e = .returned (.int .u32 (a / 2 ^ n % 4294967296)) ∧ w' = w := by
  go_enter Try.func24, Try.ntmps24
  go_wp2
  go_loop [7, 8] (fun r i => ∃ k : Nat, k ≤ 32 ∧ i = .int .i64 k ∧ r = .int .u32 (a / 2 ^ n % 2 ^ k)) (fun _ i => 32 - (intOf i).toNat)
  case atStart => exact ⟨0, by omega, rfl, by simp⟩
  case round =>
    obtain ⟨k, hk, rfl, rfl⟩ := hrel
    by_cases hlt : k < 32
    · by_cases hf : k + n < 32
      · go_wp2
        go_round
        case rel =>
          refine ⟨k + 1, by omega, rfl, ?_⟩
          have h1 : 0 ≤ a / 2 ^ (k + n) := Int.ediv_nonneg ha.1 (Int.pow_nonneg (by decide))
          have h2 : a / 2 ^ (k + n) ≤ a := Int.ediv_le_self _ ha.1
          rw [and1 h1 (by omega), join_bit _ _ k hlt (by rw [div_pow, Nat.add_comm])]
        case measure => simp [intOf]; omega
      · go_wp2
        go_round
        case rel => exact ⟨k + 1, by omega, rfl, by rw [join_none _ k hlt (by rw [div_pow, low_none ha (by omega)]; rfl)]⟩
        case measure => simp [intOf]; omega
    · go_wp2
      go_ret
      obtain rfl : k = 32 := by omega
      exact ⟨rfl, rfl⟩
set_option maxRecDepth 100000 in
theorem shift7 (a : Int) (n : Nat) (w : World) (ha : 0 ≤ a ∧ a < 4294967296) (hn : n < 32) :
    Calls Try.prog 24 #[.int .i64 7, .int .u32 a, .int .i64 n] w fun e w' => e = .returned (.int .u32 (wrap32 a / 2 ^ n % 4294967296)) ∧ w' = w := by
  go_enter Try.func24, Try.ntmps24
  go_wp2
  go_loop [7, 8] (fun r i => ∃ k : Nat, k ≤ 32 ∧ i = .int .i64 k ∧ r = .int .u32 (wrap32 a / 2 ^ n % 2 ^ k)) (fun _ i => 32 - (intOf i).toNat)
  case atStart => exact ⟨0, by omega, rfl, by simp⟩
  case round =>
    obtain ⟨k, hk, rfl, rfl⟩ := hrel
    by_cases hlt : k < 32
    · by_cases hf : k + n < 32
      · go_wp2
        go_round
        case rel =>
          refine ⟨k + 1, by omega, rfl, ?_⟩
          have h1 : 0 ≤ a / 2 ^ (k + n) := Int.ediv_nonneg ha.1 (Int.pow_nonneg (by decide))
          have h2 : a / 2 ^ (k + n) ≤ a := Int.ediv_le_self _ ha.1
          rw [and1 h1 (by omega), join_bit _ _ k hlt (by rw [div_pow, Nat.add_comm, same_bit ha (by omega)])]
        case measure => simp [intOf]; omega
      · go_wp2
        go_round
        case rel =>
          refine ⟨k + 1, by omega, rfl, ?_⟩
          rw [join_bit _ _ k hlt (by rw [div_pow, sign_bit ha (by omega)])]
        case measure => simp [intOf]; omega
    · go_wp2
      go_ret
      obtain rfl : k = 32 := by omega
      exact ⟨rfl, rfl⟩
end Go.Proofs.Ytneadfgdagdhcaa.Shift
