/- Words of 32 bits by sums, quotients and rests: what the parts of a word, or'd, are. -/
import Derived.Test.YtmgbidehdnmjkaaDoorR5
import Derived.Test.YtmgbidehdnmjkaaDoorR12
namespace Go.Proofs.YtmgbidehdnmjkaaDoor.Rv
open Go Go.RowKit Go.Proofs.YtmgbidehdnmjkaaDoorW.PrintWords Go.Proofs.YtmgbidehdnmjkaaDoorW.PrintLast Go.Proofs.YtmgbidehdnmjkaaDoorW.PrintMore
set_option linter.unusedVariables false
set_option linter.unusedSimpArgs false
theorem nat_or_mid (k m : Nat) (hk : k ≤ m) (a b : Nat) (h3 : b < 2 ^ m) (h4 : b % 2 ^ k = 0) (h5 : a % 2 ^ m < 2 ^ k) : a ||| b = a + b := by
  have ha := Nat.div_add_mod a (2 ^ m)
  have hb := Nat.div_add_mod b (2 ^ k)
  rw [h4, Nat.add_zero] at hb
  have hr : a % 2 ^ m < 2 ^ m := Nat.mod_lt _ (Nat.two_pow_pos m)
  have e1 : a = 2 ^ m * (a / 2 ^ m) ||| a % 2 ^ m := by rw [← Nat.two_pow_add_eq_or_of_lt hr]; exact ha.symm
  have e2 : a % 2 ^ m ||| b = b + a % 2 ^ m := by
    rw [Nat.or_comm]
    have : 2 ^ k * (b / 2 ^ k) ||| a % 2 ^ m = 2 ^ k * (b / 2 ^ k) + a % 2 ^ m := (Nat.two_pow_add_eq_or_of_lt h5 _).symm
    rwa [hb] at this
  have hlt : b + a % 2 ^ m < 2 ^ m := by
    have hp : 2 ^ m = 2 ^ k * 2 ^ (m - k) := by rw [← Nat.pow_add]; congr 1; omega
    have hc : b / 2 ^ k < 2 ^ (m - k) := by
      rw [Nat.div_lt_iff_lt_mul (Nat.two_pow_pos k), Nat.mul_comm]
      rw [← hp]; exact h3
    have : 2 ^ k * (b / 2 ^ k) + 2 ^ k ≤ 2 ^ k * 2 ^ (m - k) := by
      rw [← Nat.mul_succ]; exact Nat.mul_le_mul_left _ hc
    omega
  have e3 : a ||| b = 2 ^ m * (a / 2 ^ m) ||| (a % 2 ^ m ||| b) := by
    rw [← Nat.or_assoc, ← e1]
  rw [e3, e2, ← Nat.two_pow_add_eq_or_of_lt hlt]
  omega
theorem wraps_u32 (n : Int) (h₀ : 0 ≤ n) (h₁ : n < 2 ^ 32) : IntKind.u32.wrap n = n := by rw [IntKind.wrap_u32]; omega
theorem wraps_i64 (n : Int) (h₀ : 0 ≤ n) (h₁ : n < 2 ^ 63) : IntKind.i64.wrap n = n := by rw [IntKind.wrap_i64]; omega
theorem kind_or_mid (K : IntKind) (j : Nat) (hj : j ≤ K.bits) (hw : ∀ n : Int, 0 ≤ n → n < 2 ^ j → K.wrap n = n) (k m : Nat) (hk : k ≤ m) (x y : Int)
    (h0 : 0 ≤ x) (h1 : x < 2 ^ j) (h2 : 0 ≤ y) (h2' : y < 2 ^ j) (h3 : y < 2 ^ m) (h4 : y % 2 ^ k = 0) (h5 : x % 2 ^ m < 2 ^ k) : Go.bits .or K x y = x + y := by
  obtain ⟨a, rfl⟩ := Int.eq_ofNat_of_zero_le h0
  obtain ⟨b, rfl⟩ := Int.eq_ofNat_of_zero_le h2
  rw [(bits_nat K j hj hw a b (by exact_mod_cast h1) (by exact_mod_cast h2')).2, nat_or_mid k m hk a b (by exact_mod_cast h3) (by exact_mod_cast h4) (by exact_mod_cast h5)]
  simp
theorem or_mid (k m : Nat) (hk : k ≤ m) (x y : Int) (h0 : 0 ≤ x) (h1 : x < 2 ^ 32) (h2 : 0 ≤ y) (h2' : y < 2 ^ 32) (h3 : y < 2 ^ m) (h4 : y % 2 ^ k = 0) (h5 : x % 2 ^ m < 2 ^ k) : Go.bits .or .u32 x y = x + y :=
  kind_or_mid .u32 32 (by decide) wraps_u32 k m hk x y h0 h1 h2 h2' h3 h4 h5
theorem or_mid64 (k m : Nat) (hk : k ≤ m) (x y : Int) (h0 : 0 ≤ x) (h1 : x < 2 ^ 63) (h2 : 0 ≤ y) (h2' : y < 2 ^ 63) (h3 : y < 2 ^ m) (h4 : y % 2 ^ k = 0) (h5 : x % 2 ^ m < 2 ^ k) : Go.bits .or .i64 x y = x + y :=
  kind_or_mid .i64 63 (by decide) wraps_i64 k m hk x y h0 h1 h2 h2' h3 h4 h5
theorem pow_dvd32 (m : Nat) (hm : m ≤ 32) : (2 : Int) ^ m ∣ 4294967296 := ⟨2 ^ (32 - m), by rw [← Int.pow_add, show m + (32 - m) = 32 by omega]; rfl⟩
theorem pow_dvd31 (m : Nat) (hm : m ≤ 31) : (2 : Int) ^ m ∣ 2147483648 := ⟨2 ^ (31 - m), by rw [← Int.pow_add, show m + (31 - m) = 31 by omega]; rfl⟩
/-- A number with its sign, multiple of a power; what is below the power. -/
theorem or_i32 (m : Nat) (hm : m ≤ 31) (x y : Int) (h0 : -2147483648 ≤ x) (h1 : x < 2147483648) (h2 : x % 2 ^ m = 0) (h3 : 0 ≤ y) (h4 : y < 2 ^ m) : Go.bits .or .i32 x y = x + y := by
  have hp : (2 : Int) ^ m ≤ 2 ^ 31 := by
    have : 2 ^ m ≤ 2 ^ 31 := Nat.pow_le_pow_right (by decide) hm
    exact_mod_cast this
  have hd : (2 : Int) ^ m ∣ 4294967296 := pow_dvd32 m (by omega)
  obtain ⟨a, ha⟩ := Int.eq_ofNat_of_zero_le (show 0 ≤ x % 4294967296 by omega)
  obtain ⟨b, rfl⟩ := Int.eq_ofNat_of_zero_le h3
  have hb : b < 2 ^ m := by exact_mod_cast h4
  have ham : a % 2 ^ m = 0 := by
    have : (x % 4294967296) % 2 ^ m = 0 := by rw [Int.emod_emod_of_dvd _ hd]; exact h2
    rw [ha] at this
    exact_mod_cast this
  have hq : 2 ^ m * (a / 2 ^ m) = a := by have := Nat.div_add_mod a (2 ^ m); omega
  have hor : a ||| b = a + b := by
    have := Nat.two_pow_add_eq_or_of_lt hb (a / 2 ^ m)
    rw [hq] at this
    exact this.symm
  have e1 : (BitVec.ofInt 32 x).toNat = a := by rw [BitVec.toNat_ofInt]; simp; omega
  have e2 : (BitVec.ofInt 32 (b : Int)).toNat = b := by rw [BitVec.toNat_ofInt]; simp; omega
  have e : Go.bits .or .i32 x (b : Int) = IntKind.i32.wrap ((a ||| b : Nat) : Int) := by
    show IntKind.i32.wrap ((BitVec.ofInt 32 x ||| BitVec.ofInt 32 (b : Int)).toNat : Int) = _
    rw [BitVec.toNat_or, e1, e2]
  have hx : (b : Int) < 2 ^ m := by exact_mod_cast hb
  have hle : (a : Int) + b < 4294967296 := by
    have h5 : a + 2 ^ m ≤ 4294967296 := by
      obtain ⟨c, hc⟩ : 2 ^ m ∣ 4294967296 := Nat.pow_dvd_pow (n := 32) 2 (by omega)
      have h6 : 2 ^ m * (a / 2 ^ m) < 2 ^ m * c := by rw [hq, ← hc]; omega
      have h7 : a / 2 ^ m < c := Nat.lt_of_mul_lt_mul_left h6
      have h8 : 2 ^ m * (a / 2 ^ m + 1) ≤ 2 ^ m * c := Nat.mul_le_mul_left _ h7
      rw [Nat.mul_add, hq, ← hc] at h8
      omega
    omega
  have hxm : x + 2 ^ m ≤ 2147483648 := by
    have hd' : (2 : Int) ^ m ∣ 2147483648 := pow_dvd31 m hm
    obtain ⟨c, hc⟩ := hd'
    obtain ⟨d, hd2⟩ := Int.dvd_of_emod_eq_zero h2
    have hpos : (0 : Int) < 2 ^ m := by have := Nat.two_pow_pos m; exact_mod_cast this
    have : d < c := by
      have h6 : 2 ^ m * d < 2 ^ m * c := by rw [← hd2, ← hc]; omega
      exact Int.lt_of_mul_lt_mul_left h6 (Int.le_of_lt hpos)
    have h8 : 2 ^ m * (d + 1) ≤ 2 ^ m * c := Int.mul_le_mul_of_nonneg_left (by omega) (Int.le_of_lt hpos)
    rw [Int.mul_add, ← hd2, ← hc] at h8
    omega
  rw [e, hor, IntKind.wrap_i32]
  omega
theorem and_low (K : IntKind) (hw : ∀ n : Int, 0 ≤ n → n < 2 ^ 31 → K.wrap n = n) (hb : 31 ≤ K.bits) (i : Nat) (hi : i ≤ 31) (x : Int) : Go.bits .and K x (2 ^ i - 1) = x % 2 ^ i := by
  have hpos := Nat.two_pow_pos i
  have hle : 2 ^ i ≤ 2 ^ K.bits := Nat.pow_le_pow_right (by decide) (by omega)
  have hc : ((2 : Int) ^ i - 1) = ((2 ^ i - 1 : Nat) : Int) := by rw [Int.natCast_sub hpos]; simp
  have e : Go.bits .and K x (2 ^ i - 1) = K.wrap ((BitVec.ofInt K.bits x &&& BitVec.ofInt K.bits (2 ^ i - 1)).toNat : Int) := rfl
  rw [e, BitVec.toNat_and, hc, BitVec.ofInt_natCast, BitVec.toNat_ofNat, Nat.mod_eq_of_lt (show 2 ^ i - 1 < 2 ^ K.bits by omega), Nat.and_two_pow_sub_one_eq_mod, BitVec.toNat_ofInt]
  have hd : (2 : Int) ^ i ∣ 2 ^ K.bits := by
    have : 2 ^ i ∣ 2 ^ K.bits := Nat.pow_dvd_pow 2 (by omega)
    exact_mod_cast this
  have hp2 : (0 : Int) < 2 ^ K.bits := by have := Nat.two_pow_pos K.bits; exact_mod_cast this
  have hnn : 0 ≤ x % 2 ^ K.bits := Int.emod_nonneg _ (by omega)
  have e2 : (((x % (2 ^ K.bits : Nat)).toNat % 2 ^ i : Nat) : Int) = x % 2 ^ i := by
    rw [Int.natCast_emod, show ((2 ^ K.bits : Nat) : Int) = (2 : Int) ^ K.bits by simp, Int.toNat_of_nonneg hnn]
    rw [show ((2 ^ i : Nat) : Int) = (2 : Int) ^ i by simp, Int.emod_emod_of_dvd _ hd]
  rw [e2]
  have hp3 : (0 : Int) < 2 ^ i := by exact_mod_cast hpos
  have h0 : 0 ≤ x % 2 ^ i := Int.emod_nonneg _ (by omega)
  have h1 : x % 2 ^ i < 2 ^ i := Int.emod_lt_of_pos _ (by exact_mod_cast hpos)
  have h2 : (2 : Int) ^ i ≤ 2 ^ 31 := by
    have : 2 ^ i ≤ 2 ^ 31 := Nat.pow_le_pow_right (by decide) hi
    exact_mod_cast this
  exact hw _ h0 (by omega)
theorem and_u32 (i : Nat) (hi : i ≤ 31) (x : Int) : Go.bits .and .u32 x (2 ^ i - 1) = x % 2 ^ i := and_low .u32 (fun n h h' => by rw [IntKind.wrap_u32]; omega) (by decide) i hi x
theorem and_i64 (i : Nat) (hi : i ≤ 31) (x : Int) : Go.bits .and .i64 x (2 ^ i - 1) = x % 2 ^ i := and_low .i64 (fun n h h' => by rw [IntKind.wrap_i64]; omega) (by decide) i hi x
theorem and_high (x : Int) (h0 : 0 ≤ x) (h1 : x < 4294967296) : Go.bits .and .u32 x 4294963200 = x / 4096 * 4096 := by
  obtain ⟨a, rfl⟩ := Int.eq_ofNat_of_zero_le h0
  have ha : a < 4294967296 := by omega
  have e : Go.bits .and .u32 (a : Int) ((4294963200 : Nat) : Int) = ((a &&& 4294963200 : Nat) : Int) := (bits_nat .u32 32 (by decide) wraps_u32 a 4294963200 (by simpa using ha) (by decide)).1
  have e1 : (a &&& 4294963200) / 2 ^ 12 = a / 2 ^ 12 := by
    rw [Nat.and_div_two_pow]
    have : (4294963200 : Nat) / 2 ^ 12 = 2 ^ 20 - 1 := by decide
    rw [this, Nat.and_two_pow_sub_one_eq_mod]
    omega
  have e2 : (a &&& 4294963200) % 2 ^ 12 = 0 := by
    rw [Nat.and_mod_two_pow]
    have : (4294963200 : Nat) % 2 ^ 12 = 0 := by decide
    rw [this]; simp
  have e3 : a &&& 4294963200 = a / 4096 * 4096 := by omega
  have e' : Go.bits .and .u32 (a : Int) 4294963200 = ((a &&& 4294963200 : Nat) : Int) := e
  rw [e', e3]
  omega
theorem or_range (x y : Int) : 0 ≤ Go.bits .or .u32 x y ∧ Go.bits .or .u32 x y < 4294967296 := by
  have e : Go.bits .or .u32 x y = IntKind.u32.wrap ((BitVec.ofInt 32 x ||| BitVec.ofInt 32 y).toNat : Int) := rfl
  rw [e, IntKind.wrap_u32]; omega
theorem field_12_3 (w : Int) : rv_field.f w 12 3 = some (w / 4096 % 8) := by
  unfold rv_field.f
  rw [if_pos (by decide), if_pos (by decide), show shr .u32 w 12 = w / 4096 by unfold shr; rw [show (2 : Int) ^ min (12 : Int).toNat IntKind.u32.bits = 4096 by decide],
    show (shl .u32 1 3 - 1) % 4294967296 = (2 : Int) ^ 3 - 1 by decide, and_u32 3 (by decide)]
  unfold wrap64
  congr 1
  omega
theorem field_25_7 (w : Int) : rv_field.f w 25 7 = some (w / 33554432 % 128) := by
  unfold rv_field.f
  rw [if_pos (by decide), if_pos (by decide), show shr .u32 w 25 = w / 33554432 by unfold shr; rw [show (2 : Int) ^ min (25 : Int).toNat IntKind.u32.bits = 33554432 by decide],
    show (shl .u32 1 7 - 1) % 4294967296 = (2 : Int) ^ 7 - 1 by decide, and_u32 7 (by decide)]
  unfold wrap64
  congr 1
  omega
theorem field_7_5 (w : Int) : rv_field.f w 7 5 = some (w / 128 % 32) := by
  unfold rv_field.f
  rw [if_pos (by decide), if_pos (by decide), show shr .u32 w 7 = w / 128 by unfold shr; rw [show (2 : Int) ^ min (7 : Int).toNat IntKind.u32.bits = 128 by decide],
    show (shl .u32 1 5 - 1) % 4294967296 = (2 : Int) ^ 5 - 1 by decide, and_u32 5 (by decide)]
  unfold wrap64
  congr 1
  omega
theorem field_15_5 (w : Int) : rv_field.f w 15 5 = some (w / 32768 % 32) := by
  unfold rv_field.f
  rw [if_pos (by decide), if_pos (by decide), show shr .u32 w 15 = w / 32768 by unfold shr; rw [show (2 : Int) ^ min (15 : Int).toNat IntKind.u32.bits = 32768 by decide],
    show (shl .u32 1 5 - 1) % 4294967296 = (2 : Int) ^ 5 - 1 by decide, and_u32 5 (by decide)]
  unfold wrap64
  congr 1
  omega
theorem field_20_5 (w : Int) : rv_field.f w 20 5 = some (w / 1048576 % 32) := by
  unfold rv_field.f
  rw [if_pos (by decide), if_pos (by decide), show shr .u32 w 20 = w / 1048576 by unfold shr; rw [show (2 : Int) ^ min (20 : Int).toNat IntKind.u32.bits = 1048576 by decide],
    show (shl .u32 1 5 - 1) % 4294967296 = (2 : Int) ^ 5 - 1 by decide, and_u32 5 (by decide)]
  unfold wrap64
  congr 1
  omega
theorem field_12_8 (w : Int) : rv_field.f w 12 8 = some (w / 4096 % 256) := by
  unfold rv_field.f
  rw [if_pos (by decide), if_pos (by decide), show shr .u32 w 12 = w / 4096 by unfold shr; rw [show (2 : Int) ^ min (12 : Int).toNat IntKind.u32.bits = 4096 by decide],
    show (shl .u32 1 8 - 1) % 4294967296 = (2 : Int) ^ 8 - 1 by decide, and_u32 8 (by decide)]
  unfold wrap64
  congr 1
  omega
theorem field_20_1 (w : Int) : rv_field.f w 20 1 = some (w / 1048576 % 2) := by
  unfold rv_field.f
  rw [if_pos (by decide), if_pos (by decide), show shr .u32 w 20 = w / 1048576 by unfold shr; rw [show (2 : Int) ^ min (20 : Int).toNat IntKind.u32.bits = 1048576 by decide],
    show (shl .u32 1 1 - 1) % 4294967296 = (2 : Int) ^ 1 - 1 by decide, and_u32 1 (by decide)]
  unfold wrap64
  congr 1
  omega
theorem field_21_10 (w : Int) : rv_field.f w 21 10 = some (w / 2097152 % 1024) := by
  unfold rv_field.f
  rw [if_pos (by decide), if_pos (by decide), show shr .u32 w 21 = w / 2097152 by unfold shr; rw [show (2 : Int) ^ min (21 : Int).toNat IntKind.u32.bits = 2097152 by decide],
    show (shl .u32 1 10 - 1) % 4294967296 = (2 : Int) ^ 10 - 1 by decide, and_u32 10 (by decide)]
  unfold wrap64
  congr 1
  omega
theorem field_7_1 (w : Int) : rv_field.f w 7 1 = some (w / 128 % 2) := by
  unfold rv_field.f
  rw [if_pos (by decide), if_pos (by decide), show shr .u32 w 7 = w / 128 by unfold shr; rw [show (2 : Int) ^ min (7 : Int).toNat IntKind.u32.bits = 128 by decide],
    show (shl .u32 1 1 - 1) % 4294967296 = (2 : Int) ^ 1 - 1 by decide, and_u32 1 (by decide)]
  unfold wrap64
  congr 1
  omega
theorem field_25_6 (w : Int) : rv_field.f w 25 6 = some (w / 33554432 % 64) := by
  unfold rv_field.f
  rw [if_pos (by decide), if_pos (by decide), show shr .u32 w 25 = w / 33554432 by unfold shr; rw [show (2 : Int) ^ min (25 : Int).toNat IntKind.u32.bits = 33554432 by decide],
    show (shl .u32 1 6 - 1) % 4294967296 = (2 : Int) ^ 6 - 1 by decide, and_u32 6 (by decide)]
  unfold wrap64
  congr 1
  omega
theorem field_8_4 (w : Int) : rv_field.f w 8 4 = some (w / 256 % 16) := by
  unfold rv_field.f
  rw [if_pos (by decide), if_pos (by decide), show shr .u32 w 8 = w / 256 by unfold shr; rw [show (2 : Int) ^ min (8 : Int).toNat IntKind.u32.bits = 256 by decide],
    show (shl .u32 1 4 - 1) % 4294967296 = (2 : Int) ^ 4 - 1 by decide, and_u32 4 (by decide)]
  unfold wrap64
  congr 1
  omega
end Go.Proofs.YtmgbidehdnmjkaaDoor.Rv
