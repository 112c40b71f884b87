/- What the reference's Encode answers, all cases joined: just the word of an instruction that may be. -/
import Derived.Test.YtmgbidehdnmjkaaDoorRefEnc
import Derived.Test.YtmgbidehdnmjkaaDoorRefEncW
namespace Go.Proofs.YtmgbidehdnmjkaaDoor.Rv
open Go Go.RowKit Go.Proofs.YtmgbidehdnmjkaaDoorW.PrintWords Go.Proofs.YtmgbidehdnmjkaaDoorW.PrintLast Go.Proofs.YtmgbidehdnmjkaaDoorW.PrintMore
set_option linter.unusedVariables false
set_option linter.unusedSimpArgs false
theorem or_J (o a x y z u : Int) (o0 : 0 ≤ o) (o1 : o < 128) (a0 : 0 ≤ a) (a1 : a < 32) (x0 : 0 ≤ x) (x1 : x < 2) (y0 : 0 ≤ y) (y1 : y < 1024) (z0 : 0 ≤ z) (z1 : z < 2) (u0 : 0 ≤ u) (u1 : u < 256) :
    (Go.bits .or .u32 (Go.bits .or .u32 (Go.bits .or .u32 (Go.bits .or .u32 (Go.bits .or .u32 (o) (a * 128)) (x * 2147483648)) (y * 2097152)) (z * 1048576)) (u * 4096)) = o + a * 128 + x * 2147483648 + y * 2097152 + z * 1048576 + u * 4096 := by
  rw [or_mid 7 12 (by decide) (o) (a * 128) (by omega) (by omega) (by omega) (by omega) (by omega) (by omega) (by omega),
    or_mid 31 32 (by decide) (o + a * 128) (x * 2147483648) (by omega) (by omega) (by omega) (by omega) (by omega) (by omega) (by omega),
    or_mid 21 31 (by decide) (o + a * 128 + x * 2147483648) (y * 2097152) (by omega) (by omega) (by omega) (by omega) (by omega) (by omega) (by omega),
    or_mid 20 21 (by decide) (o + a * 128 + x * 2147483648 + y * 2097152) (z * 1048576) (by omega) (by omega) (by omega) (by omega) (by omega) (by omega) (by omega),
    or_mid 12 20 (by decide) (o + a * 128 + x * 2147483648 + y * 2097152 + z * 1048576) (u * 4096) (by omega) (by omega) (by omega) (by omega) (by omega) (by omega) (by omega)]
theorem or_I (o f a b x : Int) (o0 : 0 ≤ o) (o1 : o < 128) (f0 : 0 ≤ f) (f1 : f < 8) (a0 : 0 ≤ a) (a1 : a < 32) (b0 : 0 ≤ b) (b1 : b < 32) (x0 : 0 ≤ x) (x1 : x < 4096) :
    (Go.bits .or .u32 (Go.bits .or .u32 (Go.bits .or .u32 (Go.bits .or .u32 (o) (f * 4096)) (a * 128)) (b * 32768)) (x * 1048576)) = o + f * 4096 + a * 128 + b * 32768 + x * 1048576 := by
  rw [or_mid 12 15 (by decide) (o) (f * 4096) (by omega) (by omega) (by omega) (by omega) (by omega) (by omega) (by omega),
    or_mid 7 12 (by decide) (o + f * 4096) (a * 128) (by omega) (by omega) (by omega) (by omega) (by omega) (by omega) (by omega),
    or_mid 15 20 (by decide) (o + f * 4096 + a * 128) (b * 32768) (by omega) (by omega) (by omega) (by omega) (by omega) (by omega) (by omega),
    or_mid 20 32 (by decide) (o + f * 4096 + a * 128 + b * 32768) (x * 1048576) (by omega) (by omega) (by omega) (by omega) (by omega) (by omega) (by omega)]
theorem or_B (o f b c x y z u : Int) (o0 : 0 ≤ o) (o1 : o < 128) (f0 : 0 ≤ f) (f1 : f < 8) (b0 : 0 ≤ b) (b1 : b < 32) (c0 : 0 ≤ c) (c1 : c < 32) (x0 : 0 ≤ x) (x1 : x < 2) (y0 : 0 ≤ y) (y1 : y < 64) (z0 : 0 ≤ z) (z1 : z < 16) (u0 : 0 ≤ u) (u1 : u < 2) :
    (Go.bits .or .u32 (Go.bits .or .u32 (Go.bits .or .u32 (Go.bits .or .u32 (Go.bits .or .u32 (Go.bits .or .u32 (Go.bits .or .u32 (o) (f * 4096)) (b * 32768)) (c * 1048576)) (x * 2147483648)) (y * 33554432)) (z * 256)) (u * 128)) = o + f * 4096 + b * 32768 + c * 1048576 + x * 2147483648 + y * 33554432 + z * 256 + u * 128 := by
  rw [or_mid 12 15 (by decide) (o) (f * 4096) (by omega) (by omega) (by omega) (by omega) (by omega) (by omega) (by omega),
    or_mid 15 20 (by decide) (o + f * 4096) (b * 32768) (by omega) (by omega) (by omega) (by omega) (by omega) (by omega) (by omega),
    or_mid 20 25 (by decide) (o + f * 4096 + b * 32768) (c * 1048576) (by omega) (by omega) (by omega) (by omega) (by omega) (by omega) (by omega),
    or_mid 31 32 (by decide) (o + f * 4096 + b * 32768 + c * 1048576) (x * 2147483648) (by omega) (by omega) (by omega) (by omega) (by omega) (by omega) (by omega),
    or_mid 25 31 (by decide) (o + f * 4096 + b * 32768 + c * 1048576 + x * 2147483648) (y * 33554432) (by omega) (by omega) (by omega) (by omega) (by omega) (by omega) (by omega),
    or_mid 8 12 (by decide) (o + f * 4096 + b * 32768 + c * 1048576 + x * 2147483648 + y * 33554432) (z * 256) (by omega) (by omega) (by omega) (by omega) (by omega) (by omega) (by omega),
    or_mid 7 8 (by decide) (o + f * 4096 + b * 32768 + c * 1048576 + x * 2147483648 + y * 33554432 + z * 256) (u * 128) (by omega) (by omega) (by omega) (by omega) (by omega) (by omega) (by omega)]
theorem or_S (o f b c x y : Int) (o0 : 0 ≤ o) (o1 : o < 128) (f0 : 0 ≤ f) (f1 : f < 8) (b0 : 0 ≤ b) (b1 : b < 32) (c0 : 0 ≤ c) (c1 : c < 32) (x0 : 0 ≤ x) (x1 : x < 128) (y0 : 0 ≤ y) (y1 : y < 32) :
    (Go.bits .or .u32 (Go.bits .or .u32 (Go.bits .or .u32 (Go.bits .or .u32 (Go.bits .or .u32 (o) (f * 4096)) (b * 32768)) (c * 1048576)) (x * 33554432)) (y * 128)) = o + f * 4096 + b * 32768 + c * 1048576 + x * 33554432 + y * 128 := by
  rw [or_mid 12 15 (by decide) (o) (f * 4096) (by omega) (by omega) (by omega) (by omega) (by omega) (by omega) (by omega),
    or_mid 15 20 (by decide) (o + f * 4096) (b * 32768) (by omega) (by omega) (by omega) (by omega) (by omega) (by omega) (by omega),
    or_mid 20 25 (by decide) (o + f * 4096 + b * 32768) (c * 1048576) (by omega) (by omega) (by omega) (by omega) (by omega) (by omega) (by omega),
    or_mid 25 32 (by decide) (o + f * 4096 + b * 32768 + c * 1048576) (x * 33554432) (by omega) (by omega) (by omega) (by omega) (by omega) (by omega) (by omega),
    or_mid 7 12 (by decide) (o + f * 4096 + b * 32768 + c * 1048576 + x * 33554432) (y * 128) (by omega) (by omega) (by omega) (by omega) (by omega) (by omega) (by omega)]
theorem or_H (o f a b x p : Int) (o0 : 0 ≤ o) (o1 : o < 128) (f0 : 0 ≤ f) (f1 : f < 8) (a0 : 0 ≤ a) (a1 : a < 32) (b0 : 0 ≤ b) (b1 : b < 32) (x0 : 0 ≤ x) (x1 : x < 32) (p0 : 0 ≤ p) (p1 : p < 128) :
    (Go.bits .or .u32 (Go.bits .or .u32 (Go.bits .or .u32 (Go.bits .or .u32 (Go.bits .or .u32 (o) (f * 4096)) (a * 128)) (b * 32768)) (x * 1048576)) (p * 33554432)) = o + f * 4096 + a * 128 + b * 32768 + x * 1048576 + p * 33554432 := by
  rw [or_mid 12 15 (by decide) (o) (f * 4096) (by omega) (by omega) (by omega) (by omega) (by omega) (by omega) (by omega),
    or_mid 7 12 (by decide) (o + f * 4096) (a * 128) (by omega) (by omega) (by omega) (by omega) (by omega) (by omega) (by omega),
    or_mid 15 20 (by decide) (o + f * 4096 + a * 128) (b * 32768) (by omega) (by omega) (by omega) (by omega) (by omega) (by omega) (by omega),
    or_mid 20 25 (by decide) (o + f * 4096 + a * 128 + b * 32768) (x * 1048576) (by omega) (by omega) (by omega) (by omega) (by omega) (by omega) (by omega),
    or_mid 25 32 (by decide) (o + f * 4096 + a * 128 + b * 32768 + x * 1048576) (p * 33554432) (by omega) (by omega) (by omega) (by omega) (by omega) (by omega) (by omega)]
theorem or_R (o f a b c p : Int) (o0 : 0 ≤ o) (o1 : o < 128) (f0 : 0 ≤ f) (f1 : f < 8) (a0 : 0 ≤ a) (a1 : a < 32) (b0 : 0 ≤ b) (b1 : b < 32) (c0 : 0 ≤ c) (c1 : c < 32) (p0 : 0 ≤ p) (p1 : p < 128) :
    (Go.bits .or .u32 (Go.bits .or .u32 (Go.bits .or .u32 (Go.bits .or .u32 (Go.bits .or .u32 (o) (f * 4096)) (a * 128)) (b * 32768)) (c * 1048576)) (p * 33554432)) = o + f * 4096 + a * 128 + b * 32768 + c * 1048576 + p * 33554432 := by
  rw [or_mid 12 15 (by decide) (o) (f * 4096) (by omega) (by omega) (by omega) (by omega) (by omega) (by omega) (by omega),
    or_mid 7 12 (by decide) (o + f * 4096) (a * 128) (by omega) (by omega) (by omega) (by omega) (by omega) (by omega) (by omega),
    or_mid 15 20 (by decide) (o + f * 4096 + a * 128) (b * 32768) (by omega) (by omega) (by omega) (by omega) (by omega) (by omega) (by omega),
    or_mid 20 25 (by decide) (o + f * 4096 + a * 128 + b * 32768) (c * 1048576) (by omega) (by omega) (by omega) (by omega) (by omega) (by omega) (by omega),
    or_mid 25 32 (by decide) (o + f * 4096 + a * 128 + b * 32768 + c * 1048576) (p * 33554432) (by omega) (by omega) (by omega) (by omega) (by omega) (by omega) (by omega)]
theorem ex_U (o a v : Int) (o0 : 0 ≤ o) (o1 : o < 128) (a0 : 0 ≤ a) (a1 : a < 32) (hv : v % 4096 = 0) :
    (Go.bits .or .u32 (Go.bits .or .u32 o (a % 4294967296 * 128 % 4294967296)) (v % 4294967296)) = wd o a (v / 4096 % 8) (v / 32768 % 32) (v / 1048576 % 32) (v / 33554432 % 128) := by
  have m0 : a % 4294967296 * 128 % 4294967296 = a * 128 := by omega
  rw [m0, or_mid 7 12 (by decide) o (a * 128) (by omega) (by omega) (by omega) (by omega) (by omega) (by omega) (by omega), or_mid 12 32 (by decide) (o + a * 128) (v % 4294967296) (by omega) (by omega) (by omega) (by omega) (by omega) (by omega) (by omega)]
  unfold wd
  omega
theorem ex_J (o a v : Int) (o0 : 0 ≤ o) (o1 : o < 128) (a0 : 0 ≤ a) (a1 : a < 32) :
    (Go.bits .or .u32 (Go.bits .or .u32 (Go.bits .or .u32 (Go.bits .or .u32 (Go.bits .or .u32 o (a % 4294967296 * 128 % 4294967296)) (Go.bits .and .u32 ((v % 4294967296) / 1048576) 1 * 2147483648 % 4294967296)) (Go.bits .and .u32 ((v % 4294967296) / 2) 1023 * 2097152 % 4294967296)) (Go.bits .and .u32 ((v % 4294967296) / 2048) 1 * 1048576 % 4294967296)) (Go.bits .and .u32 ((v % 4294967296) / 4096) 255 * 4096 % 4294967296)) = wd o a (v / 4096 % 8) (v / 32768 % 32) (v / 2048 % 2 + 2 * (v / 2 % 16)) (v / 32 % 64 + 64 * (v / 1048576 % 2)) := by
  have k0 : Go.bits .and .u32 (v % 4294967296 / 1048576) 1 = v / 1048576 % 2 := by
    have : Go.bits .and .u32 (v % 4294967296 / 1048576) 1 = (v % 4294967296 / 1048576) % 2 := and_u32 1 (by decide) _
    rw [this]; omega
  have k1 : Go.bits .and .u32 (v % 4294967296 / 2) 1023 = v / 2 % 1024 := by
    have : Go.bits .and .u32 (v % 4294967296 / 2) 1023 = (v % 4294967296 / 2) % 1024 := and_u32 10 (by decide) _
    rw [this]; omega
  have k2 : Go.bits .and .u32 (v % 4294967296 / 2048) 1 = v / 2048 % 2 := by
    have : Go.bits .and .u32 (v % 4294967296 / 2048) 1 = (v % 4294967296 / 2048) % 2 := and_u32 1 (by decide) _
    rw [this]; omega
  have k3 : Go.bits .and .u32 (v % 4294967296 / 4096) 255 = v / 4096 % 256 := by
    have : Go.bits .and .u32 (v % 4294967296 / 4096) 255 = (v % 4294967296 / 4096) % 256 := and_u32 8 (by decide) _
    rw [this]; omega
  have m0 : a % 4294967296 * 128 % 4294967296 = a * 128 := by omega
  have m1 : v / 1048576 % 2 * 2147483648 % 4294967296 = v / 1048576 % 2 * 2147483648 := by omega
  have m2 : v / 2 % 1024 * 2097152 % 4294967296 = v / 2 % 1024 * 2097152 := by omega
  have m3 : v / 2048 % 2 * 1048576 % 4294967296 = v / 2048 % 2 * 1048576 := by omega
  have m4 : v / 4096 % 256 * 4096 % 4294967296 = v / 4096 % 256 * 4096 := by omega
  rw [k0, k1, k2, k3, m0, m1, m2, m3, m4]
  rw [or_J o a (v / 1048576 % 2) (v / 2 % 1024) (v / 2048 % 2) (v / 4096 % 256) o0 o1 a0 a1 (by omega) (by omega) (by omega) (by omega) (by omega) (by omega) (by omega) (by omega)]
  clear k0 k1 k2 k3 m0 m1 m2 m3 m4
  have e1 : v / 2 % 1024 = v / 2 % 16 + 16 * (v / 32 % 64) := by omega
  have e2 : v / 4096 % 256 = v / 4096 % 8 + 8 * (v / 32768 % 32) := by omega
  rw [e1, e2]
  unfold wd
  omega
theorem ex_I (o f a b v : Int) (o0 : 0 ≤ o) (o1 : o < 128) (f0 : 0 ≤ f) (f1 : f < 8) (a0 : 0 ≤ a) (a1 : a < 32) (b0 : 0 ≤ b) (b1 : b < 32) :
    (Go.bits .or .u32 (Go.bits .or .u32 (Go.bits .or .u32 (Go.bits .or .u32 o (f * 4096 % 4294967296)) (a % 4294967296 * 128 % 4294967296)) (b % 4294967296 * 32768 % 4294967296)) (Go.bits .and .u32 (v % 4294967296) 4095 * 1048576 % 4294967296)) = wd o a f b (v % 32) (v / 32 % 128) := by
  have k0 : Go.bits .and .u32 (v % 4294967296) 4095 = v / 1 % 4096 := by
    have : Go.bits .and .u32 (v % 4294967296) 4095 = (v % 4294967296) % 4096 := and_u32 12 (by decide) _
    rw [this]; omega
  have m0 : f * 4096 % 4294967296 = f * 4096 := by omega
  have m1 : a % 4294967296 * 128 % 4294967296 = a * 128 := by omega
  have m2 : b % 4294967296 * 32768 % 4294967296 = b * 32768 := by omega
  have m3 : v / 1 % 4096 * 1048576 % 4294967296 = v / 1 % 4096 * 1048576 := by omega
  rw [k0, m0, m1, m2, m3]
  rw [or_I o f a b (v / 1 % 4096) o0 o1 f0 f1 a0 a1 b0 b1 (by omega) (by omega)]
  unfold wd
  omega
theorem ex_B (o f b c v : Int) (o0 : 0 ≤ o) (o1 : o < 128) (f0 : 0 ≤ f) (f1 : f < 8) (b0 : 0 ≤ b) (b1 : b < 32) (c0 : 0 ≤ c) (c1 : c < 32) :
    (Go.bits .or .u32 (Go.bits .or .u32 (Go.bits .or .u32 (Go.bits .or .u32 (Go.bits .or .u32 (Go.bits .or .u32 (Go.bits .or .u32 o (f * 4096 % 4294967296)) (b % 4294967296 * 32768 % 4294967296)) (c % 4294967296 * 1048576 % 4294967296)) (Go.bits .and .u32 ((v % 4294967296) / 4096) 1 * 2147483648 % 4294967296)) (Go.bits .and .u32 ((v % 4294967296) / 32) 63 * 33554432 % 4294967296)) (Go.bits .and .u32 ((v % 4294967296) / 2) 15 * 256 % 4294967296)) (Go.bits .and .u32 ((v % 4294967296) / 2048) 1 * 128 % 4294967296)) = wd o (v / 2048 % 2 + 2 * (v / 2 % 16)) f b c (v / 32 % 64 + 64 * (v / 4096 % 2)) := by
  have k0 : Go.bits .and .u32 (v % 4294967296 / 4096) 1 = v / 4096 % 2 := by
    have : Go.bits .and .u32 (v % 4294967296 / 4096) 1 = (v % 4294967296 / 4096) % 2 := and_u32 1 (by decide) _
    rw [this]; omega
  have k1 : Go.bits .and .u32 (v % 4294967296 / 32) 63 = v / 32 % 64 := by
    have : Go.bits .and .u32 (v % 4294967296 / 32) 63 = (v % 4294967296 / 32) % 64 := and_u32 6 (by decide) _
    rw [this]; omega
  have k2 : Go.bits .and .u32 (v % 4294967296 / 2) 15 = v / 2 % 16 := by
    have : Go.bits .and .u32 (v % 4294967296 / 2) 15 = (v % 4294967296 / 2) % 16 := and_u32 4 (by decide) _
    rw [this]; omega
  have k3 : Go.bits .and .u32 (v % 4294967296 / 2048) 1 = v / 2048 % 2 := by
    have : Go.bits .and .u32 (v % 4294967296 / 2048) 1 = (v % 4294967296 / 2048) % 2 := and_u32 1 (by decide) _
    rw [this]; omega
  have m0 : f * 4096 % 4294967296 = f * 4096 := by omega
  have m1 : b % 4294967296 * 32768 % 4294967296 = b * 32768 := by omega
  have m2 : c % 4294967296 * 1048576 % 4294967296 = c * 1048576 := by omega
  have m3 : v / 4096 % 2 * 2147483648 % 4294967296 = v / 4096 % 2 * 2147483648 := by omega
  have m4 : v / 32 % 64 * 33554432 % 4294967296 = v / 32 % 64 * 33554432 := by omega
  have m5 : v / 2 % 16 * 256 % 4294967296 = v / 2 % 16 * 256 := by omega
  have m6 : v / 2048 % 2 * 128 % 4294967296 = v / 2048 % 2 * 128 := by omega
  rw [k0, k1, k2, k3, m0, m1, m2, m3, m4, m5, m6]
  rw [or_B o f b c (v / 4096 % 2) (v / 32 % 64) (v / 2 % 16) (v / 2048 % 2) o0 o1 f0 f1 b0 b1 c0 c1 (by omega) (by omega) (by omega) (by omega) (by omega) (by omega) (by omega) (by omega)]
  clear k0 k1 k2 k3
  unfold wd
  omega
theorem ex_S (o f b c v : Int) (o0 : 0 ≤ o) (o1 : o < 128) (f0 : 0 ≤ f) (f1 : f < 8) (b0 : 0 ≤ b) (b1 : b < 32) (c0 : 0 ≤ c) (c1 : c < 32) :
    (Go.bits .or .u32 (Go.bits .or .u32 (Go.bits .or .u32 (Go.bits .or .u32 (Go.bits .or .u32 o (f * 4096 % 4294967296)) (b % 4294967296 * 32768 % 4294967296)) (c % 4294967296 * 1048576 % 4294967296)) (Go.bits .and .u32 ((v % 4294967296) / 32) 127 * 33554432 % 4294967296)) (Go.bits .and .u32 (v % 4294967296) 31 * 128 % 4294967296)) = wd o (v % 32) f b c (v / 32 % 128) := by
  have k0 : Go.bits .and .u32 (v % 4294967296 / 32) 127 = v / 32 % 128 := by
    have : Go.bits .and .u32 (v % 4294967296 / 32) 127 = (v % 4294967296 / 32) % 128 := and_u32 7 (by decide) _
    rw [this]; omega
  have k1 : Go.bits .and .u32 (v % 4294967296) 31 = v / 1 % 32 := by
    have : Go.bits .and .u32 (v % 4294967296) 31 = (v % 4294967296) % 32 := and_u32 5 (by decide) _
    rw [this]; omega
  have m0 : f * 4096 % 4294967296 = f * 4096 := by omega
  have m1 : b % 4294967296 * 32768 % 4294967296 = b * 32768 := by omega
  have m2 : c % 4294967296 * 1048576 % 4294967296 = c * 1048576 := by omega
  have m3 : v / 32 % 128 * 33554432 % 4294967296 = v / 32 % 128 * 33554432 := by omega
  have m4 : v / 1 % 32 * 128 % 4294967296 = v / 1 % 32 * 128 := by omega
  rw [k0, k1, m0, m1, m2, m3, m4]
  rw [or_S o f b c (v / 32 % 128) (v / 1 % 32) o0 o1 f0 f1 b0 b1 c0 c1 (by omega) (by omega) (by omega) (by omega)]
  unfold wd
  omega
theorem ex_H (o f a b p v : Int) (o0 : 0 ≤ o) (o1 : o < 128) (f0 : 0 ≤ f) (f1 : f < 8) (a0 : 0 ≤ a) (a1 : a < 32) (b0 : 0 ≤ b) (b1 : b < 32) (p0 : 0 ≤ p) (p1 : p < 128) (v0 : 0 ≤ v) (v1 : v < 32) :
    (Go.bits .or .u32 (Go.bits .or .u32 (Go.bits .or .u32 (Go.bits .or .u32 (Go.bits .or .u32 o (f * 4096 % 4294967296)) (a % 4294967296 * 128 % 4294967296)) (b % 4294967296 * 32768 % 4294967296)) (Go.bits .and .u32 (v % 4294967296) 31 * 1048576 % 4294967296)) (p * 33554432 % 4294967296)) = wd o a f b v p := by
  have k0 : Go.bits .and .u32 (v % 4294967296) 31 = v / 1 % 32 := by
    have : Go.bits .and .u32 (v % 4294967296) 31 = (v % 4294967296) % 32 := and_u32 5 (by decide) _
    rw [this]; omega
  have m0 : f * 4096 % 4294967296 = f * 4096 := by omega
  have m1 : a % 4294967296 * 128 % 4294967296 = a * 128 := by omega
  have m2 : b % 4294967296 * 32768 % 4294967296 = b * 32768 := by omega
  have m3 : v / 1 % 32 * 1048576 % 4294967296 = v / 1 % 32 * 1048576 := by omega
  have m4 : p * 33554432 % 4294967296 = p * 33554432 := by omega
  rw [k0, m0, m1, m2, m3, m4]
  rw [or_H o f a b (v / 1 % 32) p o0 o1 f0 f1 a0 a1 b0 b1 (by omega) (by omega) p0 p1]
  unfold wd
  omega
theorem ex_R (o f a b c p v : Int) (o0 : 0 ≤ o) (o1 : o < 128) (f0 : 0 ≤ f) (f1 : f < 8) (a0 : 0 ≤ a) (a1 : a < 32) (b0 : 0 ≤ b) (b1 : b < 32) (c0 : 0 ≤ c) (c1 : c < 32) (p0 : 0 ≤ p) (p1 : p < 128) :
    (Go.bits .or .u32 (Go.bits .or .u32 (Go.bits .or .u32 (Go.bits .or .u32 (Go.bits .or .u32 o (f * 4096 % 4294967296)) (a % 4294967296 * 128 % 4294967296)) (b % 4294967296 * 32768 % 4294967296)) (c % 4294967296 * 1048576 % 4294967296)) (p * 33554432 % 4294967296)) = wd o a f b c p := by
  have m0 : f * 4096 % 4294967296 = f * 4096 := by omega
  have m1 : a % 4294967296 * 128 % 4294967296 = a * 128 := by omega
  have m2 : b % 4294967296 * 32768 % 4294967296 = b * 32768 := by omega
  have m3 : c % 4294967296 * 1048576 % 4294967296 = c * 1048576 := by omega
  have m4 : p * 33554432 % 4294967296 = p * 33554432 := by omega
  rw [m0, m1, m2, m3, m4]
  rw [or_R o f a b c p o0 o1 f0 f1 a0 a1 b0 b1 c0 c1 p0 p1]
  unfold wd
  omega
theorem reg_at (a : Int) : tinctureref5_reg.f a = some (decide (0 ≤ a ∧ a < 32)) := by
  unfold tinctureref5_reg.f
  by_cases h : a ≥ 0
  · rw [if_pos h]; congr 1; rw [Bool.eq_iff_iff, decide_eq_true_iff, decide_eq_true_iff]; omega
  · rw [if_neg h, decide_eq_false (by omega)]
theorem low_at (v lo hi st : Int) (hs : st ≠ 0) : tinctureref5_low.f v lo hi st = some (decide (lo ≤ v ∧ v ≤ hi ∧ v % st = 0)) := by
  unfold tinctureref5_low.f
  by_cases h : v ≥ lo
  · rw [if_pos h]
    by_cases h' : v ≤ hi
    · rw [if_pos h', if_neg hs]; congr 1; rw [Bool.eq_iff_iff, beq_iff_eq, decide_eq_true_iff, ← Int.dvd_iff_tmod_eq_zero, Int.dvd_iff_emod_eq_zero]
      exact ⟨fun e => ⟨h, h', e⟩, fun e => e.2.2⟩
    · rw [if_neg h', decide_eq_false (by omega)]
  · rw [if_neg h, decide_eq_false (by omega)]
theorem rest_form : ∀ n : Nat, n < 50 → 46 ≤ n → (tinctureref5_form.f (n : Int)).isSome = true := by decide +kernel
def Answer (op a b c v : Int) (w : World) (e : Ending) (w' : World) : Prop := ∃ x, e = .returned (.tuple #[.int .u32 x, .bool (decide (okI op a b c v))]) ∧ (okI op a b c v → x = encI op a b c v) ∧ Below w.heap.size w w'
theorem answer_of {op a b c v : Int} {w : World} {ok : Bool} {Q : Int → Prop} {K : Ending → World → Prop} (hok : ok = decide (okI op a b c v)) (hq : ∀ x, Q x → okI op a b c v → x = encI op a b c v) {P : Program} {n : Nat} {args : Array Value} (h : Calls P n args w (Pair ok Q w)) : Calls P n args w (Answer op a b c v w) := by
  subst hok
  exact h.mono fun e w' ⟨x, he, hx, hb⟩ => ⟨x, he, hq x hx, hb⟩
theorem no_ok {op a b c v : Int} {w : World} {P : Program} {n : Nat} {args : Array Value} (hn : ¬ okI op a b c v) (h : Calls P n args w (Pair false (fun _ => True) w)) : Calls P n args w (Answer op a b c v w) :=
  answer_of (K := fun _ _ => True) (decide_eq_false hn).symm (fun _ _ hk => absurd hk hn) h
theorem ne_b {x : Int} (h : ¬ x = 0) : (x == 0) = false := beq_eq_false_iff_ne.mpr h
theorem eq_b {x : Int} (h : x = 0) : (x == 0) = true := beq_iff_eq.mpr h
set_option maxHeartbeats 16000000 in
/-- What the reference's Encode answers at any instruction. -/
theorem ref_encode (op a b c v : Int) (w : World) (hv0 : -2147483648 ≤ v) (hv1 : v < 2147483648) :
    Calls Tryd.prog 19 #[.agg #[.int .i64 op, .int .i64 a, .int .i64 b, .int .i64 c, .int .i32 v]] w (Answer op a b c v w) := by
  by_cases g0 : op < 1
  · exact no_ok (fun h => absurd h.1 (by omega)) (enc_none_lo op a b c v w g0)
  by_cases g1 : 49 < op
  · exact no_ok (fun h => absurd h.2.1 (by omega)) (enc_none_hi op a b c v w g1)
  have ra := reg_at a
  have rb := reg_at b
  have rc := reg_at c
  by_cases ka : 0 ≤ a ∧ a < 32
  case neg =>
    rw [decide_eq_false ka] at ra
    exact no_ok (fun h => ka ⟨h.2.2.1, h.2.2.2.1⟩) (enc_reg0 op a b c v w ra (by omega) (by omega))
  rw [decide_eq_true ka] at ra
  by_cases kb : 0 ≤ b ∧ b < 32
  case neg =>
    rw [decide_eq_false kb] at rb
    exact no_ok (fun h => kb ⟨h.2.2.2.2.1, h.2.2.2.2.2.1⟩) (enc_reg1 op a b c v w ra rb (by omega) (by omega))
  rw [decide_eq_true kb] at rb
  by_cases kc : 0 ≤ c ∧ c < 32
  case neg =>
    rw [decide_eq_false kc] at rc
    exact no_ok (fun h => kc ⟨h.2.2.2.2.2.2.1, h.2.2.2.2.2.2.2.1⟩) (enc_reg2 op a b c v w ra rb rc (by omega) (by omega))
  rw [decide_eq_true kc] at rc
  obtain ⟨n, rfl⟩ : ∃ n : Nat, op = (n : Int) := ⟨op.toNat, by omega⟩
  have hn : ((n : Nat) : Int).toNat = n := by omega
  obtain ⟨a0, a1⟩ := ka
  obtain ⟨b0, b1⟩ := kb
  obtain ⟨c0, c1⟩ := kc
  by_cases kw : 46 ≤ n
  · obtain ⟨F, hF⟩ := Option.isSome_iff_exists.1 (rest_form n (by omega) kw)
    obtain ⟨o, f, p⟩ := F
    have hw : wrap64 ((n : Int) - 46) = (n : Int) - 46 := by unfold wrap64; omega
    have e0 : decide (0 ≤ (n : Int) - 46) = true := decide_eq_true (by omega)
    have e1 : decide ((n : Int) - 46 < (([267386895, 4111, 115, 1048691] : List Int).length : Int)) = true := decide_eq_true (by simp; omega)
    by_cases za : a = 0
    case neg => exact no_ok (fun h => by obtain ⟨_, _, _, _, _, _, _, _, h⟩ := h; omega) (enc_W0 (n : Int) a b c v w o f p _ _ ra rb rc hF (by omega) (by omega) rfl hw e0 e1 (ne_b za))
    by_cases zb : b = 0
    case neg => exact no_ok (fun h => by obtain ⟨_, _, _, _, _, _, _, _, h⟩ := h; omega) (enc_W1 (n : Int) a b c v w o f p _ _ ra rb rc hF (by omega) (by omega) rfl hw e0 e1 (eq_b za) (ne_b zb))
    by_cases zc : c = 0
    case neg => exact no_ok (fun h => by obtain ⟨_, _, _, _, _, _, _, _, h⟩ := h; omega) (enc_W2 (n : Int) a b c v w o f p _ _ ra rb rc hF (by omega) (by omega) rfl hw e0 e1 (eq_b za) (eq_b zb) (ne_b zc))
    refine answer_of (K := fun _ _ => True) ?_ ?_ (enc_W3 (n : Int) a b c v w o f p _ _ ra rb rc hF (by omega) (by omega) rfl hw e0 e1 (eq_b za) (eq_b zb) (eq_b zc))
    · rw [Bool.eq_iff_iff, beq_iff_eq, decide_eq_true_iff]
      constructor
      · intro h; unfold okI; omega
      · rintro ⟨_, _, _, _, _, _, _, _, h⟩; omega
    · rintro x rfl _
      unfold encI
      rw [if_neg (by omega), if_neg (by omega), if_neg (by omega), if_neg (by omega), if_neg (by omega), if_neg (by omega), if_neg (by omega), hn]
      unfold rd restL
      rw [show ((n : Int) - 46).toNat = n - 46 by omega]
  have hF := form_at n (by omega) (by omega)
  obtain ⟨hb1, hb2, hb3, hb4, hb5, hb6⟩ := form_bounds n (by omega)
  by_cases k0 : n ≤ 2
  · by_cases zb : b = 0
    case neg => exact no_ok (fun h => by obtain ⟨_, _, _, _, _, _, _, _, h⟩ := h; omega) (enc_U0 (n : Int) a b c v w _ _ _ ra rb rc hF (by omega) (by omega) (ne_b zb))
    by_cases zc : c = 0
    case neg => exact no_ok (fun h => by obtain ⟨_, _, _, _, _, _, _, _, h⟩ := h; omega) (enc_U1 (n : Int) a b c v w _ _ _ ra rb rc hF (by omega) (by omega) (eq_b zb) (ne_b zc))
    refine answer_of (K := fun _ _ => True) ?_ ?_ (enc_U2 (n : Int) a b c v w _ _ _ ra rb rc hF (by omega) (by omega) (eq_b zb) (eq_b zc))
    · have e : Go.bits .and .u32 (v % 4294967296) 4095 = v % 4294967296 % 4096 := and_u32 12 (by decide) _
      rw [e, Bool.eq_iff_iff, beq_iff_eq, decide_eq_true_iff]
      constructor
      · intro h; unfold okI; omega
      · rintro ⟨_, _, _, _, _, _, _, _, h⟩; omega
    · rintro x rfl ⟨_, _, _, _, _, _, _, _, h⟩
      unfold encI
      rw [if_pos (by omega), hn]
      exact ex_U _ a v hb1 hb2 a0 a1 (by omega)
  by_cases k1 : n ≤ 3
  · by_cases zb : b = 0
    case neg => exact no_ok (fun h => by obtain ⟨_, _, _, _, _, _, _, _, h⟩ := h; omega) (enc_J0 (n : Int) a b c v w _ _ _ ra rb rc hF (by omega) (by omega) (ne_b zb))
    by_cases zc : c = 0
    case neg => exact no_ok (fun h => by obtain ⟨_, _, _, _, _, _, _, _, h⟩ := h; omega) (enc_J1 (n : Int) a b c v w _ _ _ ra rb rc hF (by omega) (by omega) (eq_b zb) (ne_b zc))
    refine answer_of (K := fun _ _ => True) ?_ ?_ (enc_J2 (n : Int) a b c v w _ _ _ _ ra rb rc hF (by omega) (by omega) (eq_b zb) (eq_b zc) (low_at v (-1048576) 1048574 2 (by decide)))
    · rw [Bool.eq_iff_iff, decide_eq_true_iff, decide_eq_true_iff]
      constructor
      · intro h; unfold okI; omega
      · rintro ⟨_, _, _, _, _, _, _, _, h⟩; omega
    · rintro x rfl ⟨_, _, _, _, _, _, _, _, h⟩
      unfold encI
      rw [if_neg (by omega), if_pos (by omega), hn]
      exact ex_J _ a v hb1 hb2 a0 a1
  by_cases k2 : n ≤ 4
  · by_cases zc : c = 0
    case neg => exact no_ok (fun h => by obtain ⟨_, _, _, _, _, _, _, _, h⟩ := h; omega) (enc_I40 (n : Int) a b c v w _ _ _ ra rb rc hF (by omega) (by omega) (ne_b zc))
    refine answer_of (K := fun _ _ => True) ?_ ?_ (enc_I41 (n : Int) a b c v w _ _ _ _ ra rb rc hF (by omega) (by omega) (eq_b zc) (low_at v (-2048) 2047 1 (by decide)))
    · rw [Bool.eq_iff_iff, decide_eq_true_iff, decide_eq_true_iff]
      constructor
      · intro h; unfold okI; omega
      · rintro ⟨_, _, _, _, _, _, _, _, h⟩; omega
    · rintro x rfl ⟨_, _, _, _, _, _, _, _, h⟩
      unfold encI
      rw [if_neg (by omega), if_neg (by omega), if_pos (by omega), hn]
      exact ex_I _ _ a b v hb1 hb2 hb3 hb4 a0 a1 b0 b1
  by_cases k3 : n ≤ 10
  · by_cases za : a = 0
    case neg => exact no_ok (fun h => by obtain ⟨_, _, _, _, _, _, _, _, h⟩ := h; omega) (enc_B0 (n : Int) a b c v w _ _ _ ra rb rc hF (by omega) (by omega) (ne_b za))
    refine answer_of (K := fun _ _ => True) ?_ ?_ (enc_B1 (n : Int) a b c v w _ _ _ _ ra rb rc hF (by omega) (by omega) (eq_b za) (low_at v (-4096) 4094 2 (by decide)))
    · rw [Bool.eq_iff_iff, decide_eq_true_iff, decide_eq_true_iff]
      constructor
      · intro h; unfold okI; omega
      · rintro ⟨_, _, _, _, _, _, _, _, h⟩; omega
    · rintro x rfl ⟨_, _, _, _, _, _, _, _, h⟩
      unfold encI
      rw [if_neg (by omega), if_neg (by omega), if_neg (by omega), if_pos (by omega), hn]
      exact ex_B _ _ b c v hb1 hb2 hb3 hb4 b0 b1 c0 c1
  by_cases k4 : n ≤ 15
  · by_cases zc : c = 0
    case neg => exact no_ok (fun h => by obtain ⟨_, _, _, _, _, _, _, _, h⟩ := h; omega) (enc_I110 (n : Int) a b c v w _ _ _ ra rb rc hF (by omega) (by omega) (ne_b zc))
    refine answer_of (K := fun _ _ => True) ?_ ?_ (enc_I111 (n : Int) a b c v w _ _ _ _ ra rb rc hF (by omega) (by omega) (eq_b zc) (low_at v (-2048) 2047 1 (by decide)))
    · rw [Bool.eq_iff_iff, decide_eq_true_iff, decide_eq_true_iff]
      constructor
      · intro h; unfold okI; omega
      · rintro ⟨_, _, _, _, _, _, _, _, h⟩; omega
    · rintro x rfl ⟨_, _, _, _, _, _, _, _, h⟩
      unfold encI
      rw [if_neg (by omega), if_neg (by omega), if_pos (by omega), hn]
      exact ex_I _ _ a b v hb1 hb2 hb3 hb4 a0 a1 b0 b1
  by_cases k5 : n ≤ 18
  · by_cases za : a = 0
    case neg => exact no_ok (fun h => by obtain ⟨_, _, _, _, _, _, _, _, h⟩ := h; omega) (enc_S0 (n : Int) a b c v w _ _ _ ra rb rc hF (by omega) (by omega) (ne_b za))
    refine answer_of (K := fun _ _ => True) ?_ ?_ (enc_S1 (n : Int) a b c v w _ _ _ _ ra rb rc hF (by omega) (by omega) (eq_b za) (low_at v (-2048) 2047 1 (by decide)))
    · rw [Bool.eq_iff_iff, decide_eq_true_iff, decide_eq_true_iff]
      constructor
      · intro h; unfold okI; omega
      · rintro ⟨_, _, _, _, _, _, _, _, h⟩; omega
    · rintro x rfl ⟨_, _, _, _, _, _, _, _, h⟩
      unfold encI
      rw [if_neg (by omega), if_neg (by omega), if_neg (by omega), if_neg (by omega), if_pos (by omega), hn]
      exact ex_S _ _ b c v hb1 hb2 hb3 hb4 b0 b1 c0 c1
  by_cases k6 : n ≤ 24
  · by_cases zc : c = 0
    case neg => exact no_ok (fun h => by obtain ⟨_, _, _, _, _, _, _, _, h⟩ := h; omega) (enc_I190 (n : Int) a b c v w _ _ _ ra rb rc hF (by omega) (by omega) (ne_b zc))
    refine answer_of (K := fun _ _ => True) ?_ ?_ (enc_I191 (n : Int) a b c v w _ _ _ _ ra rb rc hF (by omega) (by omega) (eq_b zc) (low_at v (-2048) 2047 1 (by decide)))
    · rw [Bool.eq_iff_iff, decide_eq_true_iff, decide_eq_true_iff]
      constructor
      · intro h; unfold okI; omega
      · rintro ⟨_, _, _, _, _, _, _, _, h⟩; omega
    · rintro x rfl ⟨_, _, _, _, _, _, _, _, h⟩
      unfold encI
      rw [if_neg (by omega), if_neg (by omega), if_pos (by omega), hn]
      exact ex_I _ _ a b v hb1 hb2 hb3 hb4 a0 a1 b0 b1
  by_cases k7 : n ≤ 27
  · by_cases zc : c = 0
    case neg => exact no_ok (fun h => by obtain ⟨_, _, _, _, _, _, _, _, h⟩ := h; omega) (enc_H0 (n : Int) a b c v w _ _ _ ra rb rc hF (by omega) (by omega) (ne_b zc))
    refine answer_of (K := fun _ _ => True) ?_ ?_ (enc_H1 (n : Int) a b c v w _ _ _ _ ra rb rc hF (by omega) (by omega) (eq_b zc) (low_at v (0) 31 1 (by decide)))
    · rw [Bool.eq_iff_iff, decide_eq_true_iff, decide_eq_true_iff]
      constructor
      · intro h; unfold okI; omega
      · rintro ⟨_, _, _, _, _, _, _, _, h⟩; omega
    · rintro x rfl ⟨_, _, _, _, _, _, _, _, h⟩
      unfold encI
      rw [if_neg (by omega), if_neg (by omega), if_neg (by omega), if_neg (by omega), if_neg (by omega), if_pos (by omega), hn]
      exact ex_H _ _ a b _ v hb1 hb2 hb3 hb4 a0 a1 b0 b1 hb5 hb6 (by omega) (by omega)
  refine answer_of (K := fun _ _ => True) ?_ ?_ (enc_R0 (n : Int) a b c v w _ _ _ ra rb rc hF (by omega) (by omega) )
  · rw [Bool.eq_iff_iff, beq_iff_eq, decide_eq_true_iff]
    constructor
    · intro h; unfold okI; omega
    · rintro ⟨_, _, _, _, _, _, _, _, h⟩; omega
  · rintro x rfl ⟨_, _, _, _, _, _, _, _, h⟩
    unfold encI
    rw [if_neg (by omega), if_neg (by omega), if_neg (by omega), if_neg (by omega), if_neg (by omega), if_neg (by omega), if_pos (by omega), hn]
    exact ex_R _ _ a b c _ v hb1 hb2 hb3 hb4 a0 a1 b0 b1 c0 c1 hb5 hb6
end Go.Proofs.YtmgbidehdnmjkaaDoor.Rv
