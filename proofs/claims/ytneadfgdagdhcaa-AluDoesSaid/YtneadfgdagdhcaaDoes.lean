/-
The walk of AluDoes, and that its answer is true: any numbers of 32 bits, of any kind, come to what the document's own reckoning says.
-/
import Derived.Test.YtneadfgdagdhcaaShift
import Derived.Lib.Hide
namespace Go.Proofs.Ytneadfgdagdhcaa.Does
open Go Go.RowKit Go.Proofs.Ytneadfgdagdhcaa.PAluDivides Go.Proofs.YtneadfgdagdhcaaW.PrintWords Go.Proofs.YtneadfgdagdhcaaW.PrintLast Go.Proofs.YtneadfgdagdhcaaW.PrintMore
set_option linter.unusedSimpArgs false
set_option linter.unusedVariables false
open Go.Proofs.Ytneadfgdagdhcaa.Alu
set_option maxRecDepth 100000 in
theorem wide_run (a : Int) (w : World) (ha : 0 ≤ a ∧ a < 4294967296) :
    Calls Try.prog 25 #[.int .u32 a] w fun e w' => e = .returned (.int .i64 (wrap32 a)) ∧ w' = w := by
  by_cases h : a < 2147483648
  · have h1 : (a / 2147483648 == 1) = false := by rw [beq_eq_false_iff_ne]; omega
    have e : wrap32 a = a := by unfold wrap32; omega
    rw [e]
    clear e
    go_enter Try.func25, Try.ntmps25
    go_wp2
    go_ret
    exact ⟨rfl, rfl⟩
  · have h1 : (a / 2147483648 == 1) = true := by rw [beq_iff_eq]; omega
    have e : wrap32 a = a - 4294967296 := by unfold wrap32; omega
    rw [e]
    clear e
    go_enter Try.func25, Try.ntmps25
    go_wp2
    go_ret
    exact ⟨rfl, rfl⟩
open Go.Proofs.Ytneadfgdagdhcaa.Shift
/-- The reference's reckoning of one kind, as a call. -/
def RefDo (k a b v : Int) (ok : Bool) : Prop := ∀ w : World, Calls Try.prog 15 #[.int .i64 k, .int .u32 a, .int .u32 b] w fun e w' => e = .returned (.tuple #[.int .u32 v, .bool ok]) ∧ w' = w
set_option maxRecDepth 100000 in
theorem r0 (a b : Int) : RefDo 0 a b ((a + b) % 4294967296) true := by
  intro w; go_enter Try.func15, Try.ntmps15; go_wp2; go_ret2; exact ⟨rfl, rfl⟩
set_option maxRecDepth 100000 in
theorem r1 (a b : Int) : RefDo 1 a b ((a - b) % 4294967296) true := by
  intro w; go_enter Try.func15, Try.ntmps15; go_wp2; go_ret2; exact ⟨rfl, rfl⟩
set_option maxRecDepth 100000 in
theorem r5 (a b : Int) : RefDo 5 a b (Go.bits .xor .u32 a b) true := by
  intro w; go_enter Try.func15, Try.ntmps15; go_wp2; go_ret2; exact ⟨rfl, rfl⟩
set_option maxRecDepth 100000 in
theorem r8 (a b : Int) : RefDo 8 a b (Go.bits .or .u32 a b) true := by
  intro w; go_enter Try.func15, Try.ntmps15; go_wp2; go_ret2; exact ⟨rfl, rfl⟩
set_option maxRecDepth 100000 in
theorem r9 (a b : Int) : RefDo 9 a b (Go.bits .and .u32 a b) true := by
  intro w; go_enter Try.func15, Try.ntmps15; go_wp2; go_ret2; exact ⟨rfl, rfl⟩
set_option maxRecDepth 100000 in
theorem r10 (a b : Int) : RefDo 10 a b ((a * b) % 4294967296) true := by
  intro w; go_enter Try.func15, Try.ntmps15; go_wp2; go_ret2; exact ⟨rfl, rfl⟩
set_option maxRecDepth 100000 in
theorem r4 (a b : Int) : RefDo 4 a b (if a < b then 1 else 0) true := by
  intro w
  by_cases h : a < b
  · rw [if_pos h]; go_enter Try.func15, Try.ntmps15; go_wp2; go_ret2; exact ⟨rfl, rfl⟩
  · rw [if_neg h]; go_enter Try.func15, Try.ntmps15; go_wp2; go_ret2; exact ⟨rfl, rfl⟩
set_option maxRecDepth 100000 in
theorem r3 (a b : Int) (ha : 0 ≤ a ∧ a < 4294967296) (hb : 0 ≤ b ∧ b < 4294967296) : RefDo 3 a b (if wrap32 a < wrap32 b then 1 else 0) true := by
  intro w
  by_cases h : wrap32 a < wrap32 b
  · rw [if_pos h]; go_enter Try.func15, Try.ntmps15
    go_wp2_with fail
    refine (wide_run a _ ha).mono ?_; rintro e w' ⟨rfl, rfl⟩
    go_wp2_with fail
    refine (wide_run b _ hb).mono ?_; rintro e w' ⟨rfl, rfl⟩
    go_wp2; go_ret2; exact ⟨rfl, rfl⟩
  · rw [if_neg h]; go_enter Try.func15, Try.ntmps15
    go_wp2_with fail
    refine (wide_run a _ ha).mono ?_; rintro e w' ⟨rfl, rfl⟩
    go_wp2_with fail
    refine (wide_run b _ hb).mono ?_; rintro e w' ⟨rfl, rfl⟩
    go_wp2; go_ret2; exact ⟨rfl, rfl⟩
set_option maxRecDepth 100000 in
theorem r2 (a b : Int) (n : Nat) (hn : n < 32) (h : Go.bits .and .u32 b 31 = n) (ha : 0 ≤ a ∧ a < 4294967296) : RefDo 2 a b (a * 2 ^ n % 4294967296) true := by
  intro w; go_enter Try.func15, Try.ntmps15
  go_wp2_with fail
  refine (shift2 a n _ ha hn).mono ?_; rintro e w' ⟨rfl, rfl⟩
  go_wp2; go_ret2; exact ⟨rfl, rfl⟩
set_option maxRecDepth 100000 in
theorem r6 (a b : Int) (n : Nat) (hn : n < 32) (h : Go.bits .and .u32 b 31 = n) (ha : 0 ≤ a ∧ a < 4294967296) : RefDo 6 a b (a / 2 ^ n % 4294967296) true := by
  intro w; go_enter Try.func15, Try.ntmps15
  go_wp2_with fail
  refine (shift6 a n _ ha hn).mono ?_; rintro e w' ⟨rfl, rfl⟩
  go_wp2; go_ret2; exact ⟨rfl, rfl⟩
set_option maxRecDepth 100000 in
theorem r7 (a b : Int) (n : Nat) (hn : n < 32) (h : Go.bits .and .u32 b 31 = n) (ha : 0 ≤ a ∧ a < 4294967296) : RefDo 7 a b (wrap32 a / 2 ^ n % 4294967296) true := by
  intro w; go_enter Try.func15, Try.ntmps15
  go_wp2_with fail
  refine (shift7 a n _ ha hn).mono ?_; rintro e w' ⟨rfl, rfl⟩
  go_wp2; go_ret2; exact ⟨rfl, rfl⟩
set_option maxRecDepth 100000 in
theorem r15 (a b : Int) (ha : 0 ≤ a ∧ a < 4294967296) (hb : 0 ≤ b ∧ b < 4294967296) : RefDo 15 a b (if b = 0 then 4294967295 else a / b) true := by
  intro w
  by_cases h : b = 0
  · subst h; go_enter Try.func15, Try.ntmps15; go_wp2; go_ret2; exact ⟨rfl, rfl⟩
  · rw [if_neg h]
    have h1 : (b == 0) = false := beq_eq_false_iff_ne.mpr h
    have g1 := Int.ediv_nonneg ha.1 hb.1
    have g2 := Int.ediv_le_self b ha.1
    go_enter Try.func15, Try.ntmps15; go_wp2; go_ret2; exact ⟨rfl, rfl⟩
set_option maxRecDepth 100000 in
theorem r17 (a b : Int) (ha : 0 ≤ a ∧ a < 4294967296) (hb : 0 ≤ b ∧ b < 4294967296) : RefDo 17 a b (if b = 0 then a else a % b) true := by
  intro w
  by_cases h : b = 0
  · subst h; go_enter Try.func15, Try.ntmps15; go_wp2; go_ret2; exact ⟨rfl, rfl⟩
  · rw [if_neg h]
    have h1 : (b == 0) = false := beq_eq_false_iff_ne.mpr h
    have g1 := Int.emod_nonneg a h
    have g2 := Int.emod_lt_of_pos a (by omega : 0 < b)
    go_enter Try.func15, Try.ntmps15; go_wp2; go_ret2; exact ⟨rfl, rfl⟩
theorem wrap64_mod (x : Int) : wrap64 x % 4294967296 = x % 4294967296 := by unfold wrap64; omega
set_option maxRecDepth 100000 in
theorem r14 (a b : Int) (ha : 0 ≤ a ∧ a < 4294967296) (hb : 0 ≤ b ∧ b < 4294967296) : RefDo 14 a b (sdiv a b) true := by
  intro w
  by_cases h : b = 0
  · subst h; go_enter Try.func15, Try.ntmps15; go_wp2; go_ret2; exact ⟨rfl, rfl⟩
  · have h1 : (b == 0) = false := beq_eq_false_iff_ne.mpr h
    have h2 : ¬ wrap32 b = 0 := wrap32_ne hb.1 hb.2 h
    have hs : sdiv a b = wrap64 (Int.tdiv (wrap32 a) (wrap32 b)) % 4294967296 := by
      unfold sdiv; rw [if_neg h, wrap64_mod]
      split
      · rename_i g; obtain ⟨rfl, rfl⟩ := g; unfold wrap32; decide
      · rfl
    rw [hs]; clear hs
    go_enter Try.func15, Try.ntmps15
    go_wp2_with fail
    refine (wide_run a _ ha).mono ?_; rintro e w' ⟨rfl, rfl⟩
    go_wp2_with fail
    refine (wide_run b _ hb).mono ?_; rintro e w' ⟨rfl, rfl⟩
    go_wp2; go_ret2; exact ⟨rfl, rfl⟩
set_option maxRecDepth 100000 in
theorem r16 (a b : Int) (ha : 0 ≤ a ∧ a < 4294967296) (hb : 0 ≤ b ∧ b < 4294967296) : RefDo 16 a b (srem a b) true := by
  intro w
  by_cases h : b = 0
  · subst h; go_enter Try.func15, Try.ntmps15; go_wp2; go_ret2; exact ⟨rfl, rfl⟩
  · have h1 : (b == 0) = false := beq_eq_false_iff_ne.mpr h
    have h2 : ¬ wrap32 b = 0 := wrap32_ne hb.1 hb.2 h
    have hs : srem a b = Int.tmod (wrap32 a) (wrap32 b) % 4294967296 := by
      unfold srem; rw [if_neg h]
      split
      · rename_i g; obtain ⟨rfl, rfl⟩ := g; unfold wrap32; decide
      · rfl
    rw [hs]; clear hs
    go_enter Try.func15, Try.ntmps15
    go_wp2_with fail
    refine (wide_run a _ ha).mono ?_; rintro e w' ⟨rfl, rfl⟩
    go_wp2_with fail
    refine (wide_run b _ hb).mono ?_; rintro e w' ⟨rfl, rfl⟩
    go_wp2; go_ret2; exact ⟨rfl, rfl⟩
/-- A sign's bit. -/
theorem sign_cases {a : Int} (ha : 0 ≤ a ∧ a < 4294967296) : ((a / 2147483648 == 1) = false ∧ wrap32 a = a) ∨ ((a / 2147483648 == 1) = true ∧ wrap32 a = a - 4294967296) := by
  by_cases h : a < 2147483648
  · left; exact ⟨by rw [beq_eq_false_iff_ne]; omega, by unfold wrap32; omega⟩
  · right; exact ⟨by rw [beq_iff_eq]; omega, by unfold wrap32; omega⟩
theorem prod_bd {a b : Int} (ha : 0 ≤ a ∧ a < 4294967296) (hb : 0 ≤ b ∧ b < 4294967296) : 0 ≤ a * b ∧ a * b ≤ 18446744065119617025 := by
  refine ⟨Int.mul_nonneg ha.1 hb.1, ?_⟩
  have := Int.mul_le_mul (by omega : a ≤ 4294967295) (by omega : b ≤ 4294967295) hb.1 (by omega)
  omega
theorem u64_prod {a b : Int} (ha : 0 ≤ a ∧ a < 4294967296) (hb : 0 ≤ b ∧ b < 4294967296) : IntKind.u64.wrap (a * b) = a * b := by
  have := prod_bd ha hb
  have e : IntKind.u64.wrap (a * b) = (a * b) % 18446744073709551616 := by simp [IntKind.wrap, IntKind.bits, IntKind.signed]
  rw [e]; omega
theorem ret_u32 {a b : Int} (h : a = b) : Ending.returned (.int .u32 a) = .returned (.int .u32 b) := by rw [h]
set_option maxRecDepth 100000 in
theorem high13 (a b : Int) (w : World) (ha : 0 ≤ a ∧ a < 4294967296) (hb : 0 ≤ b ∧ b < 4294967296) :
    Calls Try.prog 26 #[.int .i64 13, .int .u32 a, .int .u32 b] w fun e w' => e = .returned (.int .u32 (a * b / 4294967296 % 4294967296)) ∧ w' = w := by
  have hu := Lib.hid (u64_prod ha hb)
  go_enter Try.func26, Try.ntmps26
  go_wp2
  go_ret
  exact ⟨ret_u32 (by rw [hu.out]), rfl⟩
set_option maxRecDepth 100000 in
theorem high12 (a b : Int) (w : World) (ha : 0 ≤ a ∧ a < 4294967296) (hb : 0 ≤ b ∧ b < 4294967296) :
    Calls Try.prog 26 #[.int .i64 12, .int .u32 a, .int .u32 b] w fun e w' => e = .returned (.int .u32 (wrap32 a * b / 4294967296 % 4294967296)) ∧ w' = w := by
  have hu := Lib.hid (u64_prod ha hb)
  rcases sign_cases ha with ⟨h1, h2⟩ | ⟨h1, h2⟩
  · rw [h2]; clear h2
    go_enter Try.func26, Try.ntmps26
    go_wp2
    go_ret
    exact ⟨ret_u32 (by rw [hu.out]), rfl⟩
  · rw [h2]; clear h2
    have hm := Lib.hid (Int.sub_mul a 4294967296 b)
    go_enter Try.func26, Try.ntmps26
    go_wp2
    go_ret
    exact ⟨ret_u32 (by rw [hu.out, hm.out]; omega), rfl⟩
set_option maxRecDepth 100000 in
theorem high11 (a b : Int) (w : World) (ha : 0 ≤ a ∧ a < 4294967296) (hb : 0 ≤ b ∧ b < 4294967296) :
    Calls Try.prog 26 #[.int .i64 11, .int .u32 a, .int .u32 b] w fun e w' => e = .returned (.int .u32 (wrap32 a * wrap32 b / 4294967296 % 4294967296)) ∧ w' = w := by
  have hu := Lib.hid (u64_prod ha hb)
  rcases sign_cases ha with ⟨h1, h2⟩ | ⟨h1, h2⟩ <;> rcases sign_cases hb with ⟨g1, g2⟩ | ⟨g1, g2⟩
  · rw [h2, g2]; clear h2 g2
    go_enter Try.func26, Try.ntmps26
    go_wp2
    go_ret
    exact ⟨ret_u32 (by rw [hu.out]), rfl⟩
  · rw [h2, g2]; clear h2 g2
    have hm := Lib.hid (Int.mul_sub a b 4294967296)
    go_enter Try.func26, Try.ntmps26
    go_wp2
    go_ret
    exact ⟨ret_u32 (by rw [hu.out, hm.out]; omega), rfl⟩
  · rw [h2, g2]; clear h2 g2
    have hm := Lib.hid (Int.sub_mul a 4294967296 b)
    go_enter Try.func26, Try.ntmps26
    go_wp2
    go_ret
    exact ⟨ret_u32 (by rw [hu.out, hm.out]; omega), rfl⟩
  · rw [h2, g2]; clear h2 g2
    have hm : Hid ((a - 4294967296) * (b - 4294967296) = a * b - 4294967296 * b - 4294967296 * a + 18446744073709551616) := by
      have : (a - 4294967296) * (b - 4294967296) = a * b - 4294967296 * b - 4294967296 * a + 18446744073709551616 := by rw [Int.sub_mul, Int.mul_sub]; omega
      exact this
    go_enter Try.func26, Try.ntmps26
    go_wp2
    go_ret
    exact ⟨ret_u32 (by rw [hu.out, hm.out]; omega), rfl⟩
set_option maxRecDepth 100000 in
theorem r11 (a b : Int) (ha : 0 ≤ a ∧ a < 4294967296) (hb : 0 ≤ b ∧ b < 4294967296) : RefDo 11 a b (wrap32 a * wrap32 b / 4294967296 % 4294967296) true := by
  intro w; go_enter Try.func15, Try.ntmps15
  go_wp2_with fail
  refine (high11 a b _ ha hb).mono ?_; rintro e w' ⟨rfl, rfl⟩
  go_wp2; go_ret2; exact ⟨rfl, rfl⟩
set_option maxRecDepth 100000 in
theorem r12 (a b : Int) (ha : 0 ≤ a ∧ a < 4294967296) (hb : 0 ≤ b ∧ b < 4294967296) : RefDo 12 a b (wrap32 a * b / 4294967296 % 4294967296) true := by
  intro w; go_enter Try.func15, Try.ntmps15
  go_wp2_with fail
  refine (high12 a b _ ha hb).mono ?_; rintro e w' ⟨rfl, rfl⟩
  go_wp2; go_ret2; exact ⟨rfl, rfl⟩
set_option maxRecDepth 100000 in
theorem r13 (a b : Int) (ha : 0 ≤ a ∧ a < 4294967296) (hb : 0 ≤ b ∧ b < 4294967296) : RefDo 13 a b (a * b / 4294967296 % 4294967296) true := by
  intro w; go_enter Try.func15, Try.ntmps15
  go_wp2_with fail
  refine (high13 a b _ ha hb).mono ?_; rintro e w' ⟨rfl, rfl⟩
  go_wp2; go_ret2; exact ⟨rfl, rfl⟩
set_option maxRecDepth 100000 in
theorem rNone (k a b : Int) (h0 : (k == 0) = false) (h1 : (k == 1) = false) (h2 : (k == 2) = false) (h3 : (k == 3) = false) (h4 : (k == 4) = false) (h5 : (k == 5) = false) (h6 : (k == 6) = false) (h7 : (k == 7) = false) (h8 : (k == 8) = false) (h9 : (k == 9) = false) (h10 : (k == 10) = false) (h11 : (k == 11) = false) (h12 : (k == 12) = false) (h13 : (k == 13) = false) (h14 : (k == 14) = false) (h15 : (k == 15) = false) (h16 : (k == 16) = false) (h17 : (k == 17) = false) : RefDo k a b 0 false := by
  intro w; go_enter Try.func15, Try.ntmps15; go_wp2; go_ret2; exact ⟨rfl, rfl⟩
theorem wrap64_id {x : Int} (h0 : -9223372036854775808 ≤ x) (h1 : x < 9223372036854775808) : wrap64 x = x := by unfold wrap64; omega
theorem u64_id {x : Int} : IntKind.u64.wrap x = x % 18446744073709551616 := by simp [IntKind.wrap, IntKind.bits, IntKind.signed]
theorem prod_le {s t m n : Int} (hs : -m ≤ s ∧ s ≤ m) (ht : -n ≤ t ∧ t ≤ n) (hm : 0 ≤ m) (hn : 0 ≤ n) : -(m * n) ≤ s * t ∧ s * t ≤ m * n := by
  have a1 := Int.mul_nonneg (by omega : 0 ≤ m - s) (by omega : 0 ≤ n - t)
  have a2 := Int.mul_nonneg (by omega : 0 ≤ m + s) (by omega : 0 ≤ n + t)
  have a3 := Int.mul_nonneg (by omega : 0 ≤ m - s) (by omega : 0 ≤ n + t)
  have a4 := Int.mul_nonneg (by omega : 0 ≤ m + s) (by omega : 0 ≤ n - t)
  simp only [Int.sub_mul, Int.add_mul, Int.mul_sub, Int.mul_add] at a1 a2 a3 a4
  omega
/-- Both reckonings of one kind agree. -/
def Agree (k a b : Int) : Prop := ∃ v : Int, (alu_Do.f k a b = some (v, 0) ∧ RefDo k a b v true) ∨ (alu_Do.f k a b = some (v, 1) ∧ RefDo k a b v false)
theorem agree_all (k a b : Int) (ha : 0 ≤ a ∧ a < 4294967296) (hb : 0 ≤ b ∧ b < 4294967296) : Agree k a b := by
  have h31 := and31 hb.1 hb.2
  obtain ⟨n, hn⟩ : ∃ n : Nat, b % 32 = n := Int.eq_ofNat_of_zero_le (by omega)
  have hn32 : n < 32 := by omega
  have hbits : Go.bits .and .u32 b 31 = n := by rw [h31, hn]
  have hn0 : (0 : Int) ≤ n := Int.natCast_nonneg n
  have hmin : min n 32 = n := by omega
  have hp := pow_at n hn32
  have ma := wrap32_lo a
  have mb := wrap32_lo b
  have w64a := wrap64_id (x := wrap32 a) (by omega) (by omega)
  have w64b := wrap64_id (x := wrap32 b) (by omega) (by omega)
  have pr11 := prod_le (s := wrap32 a) (t := wrap32 b) (m := 2147483648) (n := 2147483648) (by omega) (by omega) (by omega) (by omega)
  have pr12 := prod_le (s := wrap32 a) (t := b) (m := 2147483648) (n := 4294967295) (by omega) (by omega) (by omega) (by omega)
  by_cases k0 : k = 0
  · subst k0
    exact ⟨_, .inl ⟨by simp [alu_Do.f, alu_simple.f], r0 a b⟩⟩
  by_cases k1 : k = 1
  · subst k1
    exact ⟨_, .inl ⟨by simp [alu_Do.f, alu_simple.f], r1 a b⟩⟩
  by_cases k2 : k = 2
  · subst k2
    exact ⟨_, .inl ⟨by simp [alu_Do.f, alu_simple.f, hbits, hn0, shl, IntKind.bits, hmin, IntKind.wrap_u32], r2 a b n hn32 hbits ha⟩⟩
  by_cases k3 : k = 3
  · subst k3
    exact ⟨_, .inl ⟨by simp only [alu_Do.f, alu_simple.f, alu_bit.f]; by_cases h : wrap32 a < wrap32 b <;> simp [h], r3 a b ha hb⟩⟩
  by_cases k4 : k = 4
  · subst k4
    exact ⟨_, .inl ⟨by simp only [alu_Do.f, alu_simple.f, alu_bit.f]; by_cases h : a < b <;> simp [h], r4 a b⟩⟩
  by_cases k5 : k = 5
  · subst k5
    exact ⟨_, .inl ⟨by simp [alu_Do.f, alu_simple.f], r5 a b⟩⟩
  by_cases k6 : k = 6
  · subst k6
    exact ⟨_, .inl ⟨by simp [alu_Do.f, alu_simple.f, hbits, hn0, shr, IntKind.bits, hmin]; have := Int.ediv_nonneg (b := 2 ^ n) ha.1 (by omega); have := Int.ediv_le_self (2 ^ n) ha.1; omega, r6 a b n hn32 hbits ha⟩⟩
  by_cases k7 : k = 7
  · subst k7
    exact ⟨_, .inl ⟨by simp [alu_Do.f, alu_simple.f, hbits, hn0, shr, IntKind.bits, hmin], r7 a b n hn32 hbits ha⟩⟩
  by_cases k8 : k = 8
  · subst k8
    exact ⟨_, .inl ⟨by simp [alu_Do.f, alu_simple.f], r8 a b⟩⟩
  by_cases k9 : k = 9
  · subst k9
    exact ⟨_, .inl ⟨by simp [alu_Do.f, alu_simple.f], r9 a b⟩⟩
  by_cases k10 : k = 10
  · subst k10
    exact ⟨_, .inl ⟨by simp [alu_Do.f, alu_simple.f], r10 a b⟩⟩
  by_cases k11 : k = 11
  · subst k11
    exact ⟨_, .inl ⟨by have := pr11; simp [alu_Do.f, alu_simple.f, w64a, w64b, wrap64_id (x := wrap32 a * wrap32 b) (by omega) (by omega)], r11 a b ha hb⟩⟩
  by_cases k12 : k = 12
  · subst k12
    exact ⟨_, .inl ⟨by have := pr12; simp [alu_Do.f, alu_simple.f, w64a, wrap64_id (x := b) (by omega) (by omega), wrap64_id (x := wrap32 a * b) (by omega) (by omega)], r12 a b ha hb⟩⟩
  by_cases k13 : k = 13
  · subst k13
    exact ⟨_, .inl ⟨by simp [alu_Do.f, alu_simple.f, u64_id (x := a), u64_id (x := b), show a % 18446744073709551616 = a by omega, show b % 18446744073709551616 = b by omega, u64_prod ha hb], r13 a b ha hb⟩⟩
  by_cases k14 : k = 14
  · subst k14
    exact ⟨_, .inl ⟨by simp [alu_Do.f, alu_simple.f, divide_at hb.1 hb.2], r14 a b ha hb⟩⟩
  by_cases k15 : k = 15
  · subst k15
    exact ⟨_, .inl ⟨by simp only [alu_Do.f, alu_simple.f, alu_divideu.f]; by_cases h : b = 0 <;> simp [h, Int.tdiv_eq_ediv_of_nonneg ha.1]; have := Int.ediv_nonneg ha.1 hb.1; have := Int.ediv_le_self b ha.1; omega, r15 a b ha hb⟩⟩
  by_cases k16 : k = 16
  · subst k16
    exact ⟨_, .inl ⟨by simp [alu_Do.f, alu_simple.f, divide_at hb.1 hb.2], r16 a b ha hb⟩⟩
  by_cases k17 : k = 17
  · subst k17
    exact ⟨_, .inl ⟨by simp only [alu_Do.f, alu_simple.f, alu_divideu.f]; by_cases h : b = 0 <;> simp [h, Int.tmod_eq_emod_of_nonneg ha.1], r17 a b ha hb⟩⟩
  exact ⟨0, .inr ⟨by simp [alu_Do.f, alu_simple.f, k0, k1, k2, k3, k4, k5, k6, k7, k8, k9, k10, k11, k12, k13, k14, k15, k16, k17], rNone k a b (beq_eq_false_iff_ne.mpr k0) (beq_eq_false_iff_ne.mpr k1) (beq_eq_false_iff_ne.mpr k2) (beq_eq_false_iff_ne.mpr k3) (beq_eq_false_iff_ne.mpr k4) (beq_eq_false_iff_ne.mpr k5) (beq_eq_false_iff_ne.mpr k6) (beq_eq_false_iff_ne.mpr k7) (beq_eq_false_iff_ne.mpr k8) (beq_eq_false_iff_ne.mpr k9) (beq_eq_false_iff_ne.mpr k10) (beq_eq_false_iff_ne.mpr k11) (beq_eq_false_iff_ne.mpr k12) (beq_eq_false_iff_ne.mpr k13) (beq_eq_false_iff_ne.mpr k14) (beq_eq_false_iff_ne.mpr k15) (beq_eq_false_iff_ne.mpr k16) (beq_eq_false_iff_ne.mpr k17)⟩⟩
set_option maxRecDepth 100000 in
theorem does_walk (k a b : Int) (w : World) (wk : (Lit.int .i64 k).wf = true) (wa : (Lit.int .u32 a).wf = true) (wb : (Lit.int .u32 b).wf = true) :
    Calls Try.prog 3 #[.int .i64 k, .int .u32 a, .int .u32 b] w fun e w' => e = .returned (.bool true) ∧ Below w.heap.size w w' := by
  obtain ⟨v, ⟨h1, h2⟩ | ⟨h1, h2⟩⟩ := agree_all k a b (wf32 wa) (wf32 wb)
  · have H1 := Aside0.mk h1
    clear h1
    go_enter Try.func3, Try.ntmps3
    go_wp2_with fail
    refine (tincturelaw1_awake.calls true _ awake_at).mono ?_
    rintro e w' ⟨rfl, ⟨nd, rfl⟩⟩
    go_wp2_with fail
    refine (alu_Do.calls _ _ _ _ _ _ H1.out).mono ?_
    rintro e w' ⟨rfl, ⟨nd, rfl⟩⟩
    go_wp2_with fail
    refine (h2 _).mono ?_
    rintro e w' ⟨rfl, rfl⟩
    go_wp2
    go_ret
    exact ⟨rfl, (Drawn0.mk ⟨_, rfl⟩).below⟩
  · have H1 := Aside0.mk h1
    clear h1
    go_enter Try.func3, Try.ntmps3
    go_wp2_with fail
    refine (tincturelaw1_awake.calls true _ awake_at).mono ?_
    rintro e w' ⟨rfl, ⟨nd, rfl⟩⟩
    go_wp2_with fail
    refine (alu_Do.calls _ _ _ _ _ _ H1.out).mono ?_
    rintro e w' ⟨rfl, ⟨nd, rfl⟩⟩
    go_wp2_with fail
    refine (h2 _).mono ?_
    rintro e w' ⟨rfl, rfl⟩
    go_wp2
    go_ret
    exact ⟨rfl, (Drawn0.mk ⟨_, rfl⟩).below⟩
end Go.Proofs.Ytneadfgdagdhcaa.Does
