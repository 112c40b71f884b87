/- Instructions and their words: what a word reads as, is written as it; what is read back is it. -/
import Derived.Test.YtmgbidehdnmjkaaDoorPureB
namespace Go.Proofs.YtmgbidehdnmjkaaDoor.Rv
open Go Go.RowKit Go.Proofs.YtmgbidehdnmjkaaDoorW.PrintWords Go.Proofs.YtmgbidehdnmjkaaDoorW.PrintLast Go.Proofs.YtmgbidehdnmjkaaDoorW.PrintMore
set_option linter.unusedVariables false
set_option linter.unusedSimpArgs false
def opOf? (x : Option Nat) : Int := match x with | some q => (q : Int) | none => 0
theorem find_code : ∀ f : Nat, f < 8 → ∀ p : Nat, p < 128 → ∀ o ∈ ([55, 23, 111, 103, 99, 3, 35, 19, 51, 15] : List Int), opOf? ((List.range' 1 47).find? (fitB o (f : Int) (p : Int))) = opK o (f : Int) (p : Int) 0 := by decide +kernel
theorem form_codes : ∀ q : Nat, q < 48 → 1 ≤ q → (formN q).1 ∈ ([55, 23, 111, 103, 99, 3, 35, 19, 51, 15] : List Int) := by decide +kernel
theorem find_op (o f p : Int) (hf0 : 0 ≤ f) (hf1 : f < 8) (hp0 : 0 ≤ p) (hp1 : p < 128) : opOf? ((List.range' 1 47).find? (fitB o f p)) = opK o f p 0 := by
  by_cases h : o ∈ ([55, 23, 111, 103, 99, 3, 35, 19, 51, 15] : List Int)
  · obtain ⟨a, rfl⟩ := Int.eq_ofNat_of_zero_le hf0
    obtain ⟨b, rfl⟩ := Int.eq_ofNat_of_zero_le hp0
    exact find_code a (by omega) b (by omega) o h
  · have e : (List.range' 1 47).find? (fitB o f p) = none := by
      rw [List.find?_eq_none]
      intro q hq hb
      have hr := List.mem_range'_1.1 hq
      have hc := form_codes q (by omega) (by omega)
      unfold fitB at hb
      simp only [Bool.and_eq_true, decide_eq_true_eq] at hb
      rw [hb.1.1] at hc
      exact h hc
    rw [e]
    simp only [List.mem_cons, List.not_mem_nil, or_false, not_or] at h
    obtain ⟨n1, n2, n3, n4, n5, n6, n7, n8, n9, n10⟩ := h
    unfold opK opOf?
    rw [if_neg n1, if_neg n2, if_neg n3, if_neg n4, if_neg n5, if_neg n6, if_neg n7, if_neg n8, if_neg n9, if_neg n10]
theorem sys_0 (w : Int) (h1 : w ≠ 115) (h2 : w ≠ 1048691) : sysK w = 0 := by unfold sysK; rw [if_neg h1, if_neg h2]
theorem dec_115 : dec 115 = (48, 0, 0, 0, 0) := by decide +kernel
theorem dec_1048691 : dec 1048691 = (49, 0, 0, 0, 0) := by decide +kernel
theorem ref_decode_at (k : Nat) (w : Int) (h0 : 0 ≤ w) (h1 : w < 4294967296) : tinctureref5_Decode.f (k + 97) w = some (dec w) := by
  unfold tinctureref5_Decode.f
  by_cases c1 : w = 115
  · rw [if_pos c1, c1, dec_115]
  rw [if_neg c1]
  by_cases c2 : w = 1048691
  · rw [if_pos c2, c2, dec_1048691]
  rw [if_neg c2]
  have a1 : Go.bits .and .u32 w 127 = w % 128 := and_u32 7 (by decide) w
  have a2 : Go.bits .and .u32 (w / 4096) 7 = w / 4096 % 8 := and_u32 3 (by decide) _
  have a3 : Go.bits .and .u32 (w / 128) 31 = w / 128 % 32 := and_u32 5 (by decide) _
  have a4 : Go.bits .and .u32 (w / 32768) 31 = w / 32768 % 32 := and_u32 5 (by decide) _
  have a5 : Go.bits .and .u32 (w / 1048576) 31 = w / 1048576 % 32 := and_u32 5 (by decide) _
  have b3 : wrap64 (w / 128 % 32) = w / 128 % 32 := by unfold wrap64; omega
  have b4 : wrap64 (w / 32768 % 32) = w / 32768 % 32 := by unfold wrap64; omega
  have b5 : wrap64 (w / 1048576 % 32) = w / 1048576 % 32 := by unfold wrap64; omega
  rw [a1, a2, a3, a4, a5, b3, b4, b5]
  have hl := ref_loop w (w % 128) (w / 4096 % 8) (w / 33554432) h0 h1 47 k 1 (by omega) (by omega)
  rw [show k + 2 * 47 + 3 = k + 97 by omega] at hl
  refine (hl.trans ?_)
  have hf := find_op (w % 128) (w / 4096 % 8) (w / 33554432) (by omega) (by omega) (by omega) (by omega)
  unfold dec opW
  rw [sys_0 w c1 c2, ← hf]
  cases (List.range' 1 47).find? (fitB (w % 128) (w / 4096 % 8) (w / 33554432)) with
  | some q => rfl
  | none => rfl
/-! Words put together of parts. -/
def wd (o d f s t p : Int) : Int := o + 128 * d + 4096 * f + 32768 * s + 1048576 * t + 33554432 * p
theorem wd_parts (o d f s t p : Int) (ho0 : 0 ≤ o) (ho1 : o < 128) (hd0 : 0 ≤ d) (hd1 : d < 32) (hf0 : 0 ≤ f) (hf1 : f < 8) (hs0 : 0 ≤ s) (hs1 : s < 32) (ht0 : 0 ≤ t) (ht1 : t < 32) (hp0 : 0 ≤ p) (hp1 : p < 128) :
    0 ≤ wd o d f s t p ∧ wd o d f s t p < 4294967296 ∧ wd o d f s t p % 128 = o ∧ wd o d f s t p / 128 % 32 = d ∧ wd o d f s t p / 4096 % 8 = f ∧ wd o d f s t p / 32768 % 32 = s ∧ wd o d f s t p / 1048576 % 32 = t ∧ wd o d f s t p / 33554432 = p := by
  unfold wd
  refine ⟨?_, ?_, ?_, ?_, ?_, ?_, ?_, ?_⟩ <;> omega
/-- A word is its parts. -/
theorem wd_of (w : Int) (h0 : 0 ≤ w) (h1 : w < 4294967296) : w = wd (w % 128) (w / 128 % 32) (w / 4096 % 8) (w / 32768 % 32) (w / 1048576 % 32) (w / 33554432) := by
  unfold wd; omega
def jP (f s t p : Int) : Int := p / 64 * (-1048576) + (f + 8 * s) * 4096 + t % 2 * 2048 + (t / 2 + 16 * (p % 64)) * 2
def bP (d p : Int) : Int := p / 64 * (-4096) + d % 2 * 2048 + p % 64 * 32 + d / 2 * 2
def sP (d p : Int) : Int := (p - p / 64 * 128) * 32 + d
def iP (t p : Int) : Int := t + 32 * p - p / 64 * 4096
def uP (f s t p : Int) : Int := wrap32 (4096 * f + 32768 * s + 1048576 * t + 33554432 * p)
theorem jW_P (w : Int) (h0 : 0 ≤ w) (h1 : w < 4294967296) : jW w = jP (w / 4096 % 8) (w / 32768 % 32) (w / 1048576 % 32) (w / 33554432) := by unfold jW jP; omega
theorem bW_P (w : Int) (h0 : 0 ≤ w) (h1 : w < 4294967296) : bW w = bP (w / 128 % 32) (w / 33554432) := by unfold bW bP; omega
theorem sW_P (w : Int) (h0 : 0 ≤ w) (h1 : w < 4294967296) : sW w = sP (w / 128 % 32) (w / 33554432) := by unfold sW sP; omega
theorem iW_P (w : Int) (h0 : 0 ≤ w) (h1 : w < 4294967296) : iW w = iP (w / 1048576 % 32) (w / 33554432) := by unfold iW iP; omega
theorem uW_P (w : Int) (h0 : 0 ≤ w) (h1 : w < 4294967296) : uW w = uP (w / 4096 % 8) (w / 32768 % 32) (w / 1048576 % 32) (w / 33554432) := by unfold uW uP; congr 1; omega
theorem jP_v (v : Int) (h0 : -1048576 ≤ v) (h1 : v < 1048576) (h2 : v % 2 = 0) : jP (v / 4096 % 8) (v / 32768 % 32) (v / 2048 % 2 + 2 * (v / 2 % 16)) (v / 32 % 64 + 64 * (v / 1048576 % 2)) = v := by
  have e1 : (v / 2048 % 2 + 2 * (v / 2 % 16)) % 2 = v / 2048 % 2 := by omega
  have e2 : (v / 2048 % 2 + 2 * (v / 2 % 16)) / 2 = v / 2 % 16 := by omega
  have e3 : (v / 32 % 64 + 64 * (v / 1048576 % 2)) / 64 = v / 1048576 % 2 := by omega
  have e4 : (v / 32 % 64 + 64 * (v / 1048576 % 2)) % 64 = v / 32 % 64 := by omega
  unfold jP
  rw [e1, e2, e3, e4]
  clear e1 e2 e3 e4
  omega
theorem bP_v (v : Int) (h0 : -4096 ≤ v) (h1 : v < 4096) (h2 : v % 2 = 0) : bP (v / 2048 % 2 + 2 * (v / 2 % 16)) (v / 32 % 64 + 64 * (v / 4096 % 2)) = v := by
  have e1 : (v / 2048 % 2 + 2 * (v / 2 % 16)) % 2 = v / 2048 % 2 := by omega
  have e2 : (v / 2048 % 2 + 2 * (v / 2 % 16)) / 2 = v / 2 % 16 := by omega
  have e3 : (v / 32 % 64 + 64 * (v / 4096 % 2)) / 64 = v / 4096 % 2 := by omega
  have e4 : (v / 32 % 64 + 64 * (v / 4096 % 2)) % 64 = v / 32 % 64 := by omega
  unfold bP
  rw [e1, e2, e3, e4]
  clear e1 e2 e3 e4
  omega
theorem sP_v (v : Int) (h0 : -2048 ≤ v) (h1 : v < 2048) : sP (v % 32) (v / 32 % 128) = v := by unfold sP; omega
theorem iP_v (v : Int) (h0 : -2048 ≤ v) (h1 : v < 2048) : iP (v % 32) (v / 32 % 128) = v := by unfold iP; omega
/-! Instructions that may be. -/
def okI (op a b c v : Int) : Prop :=
  1 ≤ op ∧ op ≤ 49 ∧ 0 ≤ a ∧ a < 32 ∧ 0 ≤ b ∧ b < 32 ∧ 0 ≤ c ∧ c < 32 ∧
  ((op ≤ 2 ∧ b = 0 ∧ c = 0 ∧ v % 4096 = 0 ∧ -2147483648 ≤ v ∧ v < 2147483648) ∨
   (op = 3 ∧ b = 0 ∧ c = 0 ∧ -1048576 ≤ v ∧ v < 1048576 ∧ v % 2 = 0) ∨
   ((op = 4 ∨ 11 ≤ op ∧ op ≤ 15 ∨ 19 ≤ op ∧ op ≤ 24) ∧ c = 0 ∧ -2048 ≤ v ∧ v < 2048) ∨
   (5 ≤ op ∧ op ≤ 10 ∧ a = 0 ∧ -4096 ≤ v ∧ v < 4096 ∧ v % 2 = 0) ∨
   (16 ≤ op ∧ op ≤ 18 ∧ a = 0 ∧ -2048 ≤ v ∧ v < 2048) ∨
   (25 ≤ op ∧ op ≤ 27 ∧ c = 0 ∧ 0 ≤ v ∧ v < 32) ∨
   (28 ≤ op ∧ op ≤ 45 ∧ v = 0) ∨
   (46 ≤ op ∧ a = 0 ∧ b = 0 ∧ c = 0 ∧ v = 0))
instance (op a b c v : Int) : Decidable (okI op a b c v) := by unfold okI; infer_instance
def restL : List Int := [267386895, 4111, 115, 1048691]
/-- The word of an instruction that may be. -/
def encI (op a b c v : Int) : Int :=
  if op ≤ 2 then wd (formN op.toNat).1 a (v / 4096 % 8) (v / 32768 % 32) (v / 1048576 % 32) (v / 33554432 % 128)
  else if op = 3 then wd (formN op.toNat).1 a (v / 4096 % 8) (v / 32768 % 32) (v / 2048 % 2 + 2 * (v / 2 % 16)) (v / 32 % 64 + 64 * (v / 1048576 % 2))
  else if op = 4 ∨ 11 ≤ op ∧ op ≤ 15 ∨ 19 ≤ op ∧ op ≤ 24 then wd (formN op.toNat).1 a (formN op.toNat).2.1 b (v % 32) (v / 32 % 128)
  else if op ≤ 10 then wd (formN op.toNat).1 (v / 2048 % 2 + 2 * (v / 2 % 16)) (formN op.toNat).2.1 b c (v / 32 % 64 + 64 * (v / 4096 % 2))
  else if op ≤ 18 then wd (formN op.toNat).1 (v % 32) (formN op.toNat).2.1 b c (v / 32 % 128)
  else if op ≤ 27 then wd (formN op.toNat).1 a (formN op.toNat).2.1 b v (formN op.toNat).2.2
  else if op ≤ 45 then wd (formN op.toNat).1 a (formN op.toNat).2.1 b c (formN op.toNat).2.2
  else restL.getD (op.toNat - 46) 0
theorem form_bounds : ∀ n : Nat, n < 48 → 0 ≤ (formN n).1 ∧ (formN n).1 < 128 ∧ 0 ≤ (formN n).2.1 ∧ (formN n).2.1 < 8 ∧ 0 ≤ (formN n).2.2 ∧ (formN n).2.2 < 128 := by decide +kernel
theorem form_low : ∀ n : Nat, n < 25 → (formN n).2.2 = 0 := by decide +kernel
theorem form_up : ∀ n : Nat, n < 4 → (formN n).2.1 = 0 := by decide +kernel
theorem opK_1 (f p s : Int) : opK 55 f p s = 1 := by simp [opK, imK, rgK, brT, ldT, stT, imT, rgT]
theorem opK_2 (f p s : Int) : opK 23 f p s = 2 := by simp [opK, imK, rgK, brT, ldT, stT, imT, rgT]
theorem opK_3 (f p s : Int) : opK 111 f p s = 3 := by simp [opK, imK, rgK, brT, ldT, stT, imT, rgT]
theorem opK_4 (f p s : Int) : opK 103 0 p s = 4 := by simp [opK, imK, rgK, brT, ldT, stT, imT, rgT]
theorem opK_5 (f p s : Int) : opK 99 0 p s = 5 := by simp [opK, imK, rgK, brT, ldT, stT, imT, rgT]
theorem opK_6 (f p s : Int) : opK 99 1 p s = 6 := by simp [opK, imK, rgK, brT, ldT, stT, imT, rgT]
theorem opK_7 (f p s : Int) : opK 99 4 p s = 7 := by simp [opK, imK, rgK, brT, ldT, stT, imT, rgT]
theorem opK_8 (f p s : Int) : opK 99 5 p s = 8 := by simp [opK, imK, rgK, brT, ldT, stT, imT, rgT]
theorem opK_9 (f p s : Int) : opK 99 6 p s = 9 := by simp [opK, imK, rgK, brT, ldT, stT, imT, rgT]
theorem opK_10 (f p s : Int) : opK 99 7 p s = 10 := by simp [opK, imK, rgK, brT, ldT, stT, imT, rgT]
theorem opK_11 (f p s : Int) : opK 3 0 p s = 11 := by simp [opK, imK, rgK, brT, ldT, stT, imT, rgT]
theorem opK_12 (f p s : Int) : opK 3 1 p s = 12 := by simp [opK, imK, rgK, brT, ldT, stT, imT, rgT]
theorem opK_13 (f p s : Int) : opK 3 2 p s = 13 := by simp [opK, imK, rgK, brT, ldT, stT, imT, rgT]
theorem opK_14 (f p s : Int) : opK 3 4 p s = 14 := by simp [opK, imK, rgK, brT, ldT, stT, imT, rgT]
theorem opK_15 (f p s : Int) : opK 3 5 p s = 15 := by simp [opK, imK, rgK, brT, ldT, stT, imT, rgT]
theorem opK_16 (f p s : Int) : opK 35 0 p s = 16 := by simp [opK, imK, rgK, brT, ldT, stT, imT, rgT]
theorem opK_17 (f p s : Int) : opK 35 1 p s = 17 := by simp [opK, imK, rgK, brT, ldT, stT, imT, rgT]
theorem opK_18 (f p s : Int) : opK 35 2 p s = 18 := by simp [opK, imK, rgK, brT, ldT, stT, imT, rgT]
theorem opK_19 (f p s : Int) : opK 19 0 p s = 19 := by simp [opK, imK, rgK, brT, ldT, stT, imT, rgT]
theorem opK_20 (f p s : Int) : opK 19 2 p s = 20 := by simp [opK, imK, rgK, brT, ldT, stT, imT, rgT]
theorem opK_21 (f p s : Int) : opK 19 3 p s = 21 := by simp [opK, imK, rgK, brT, ldT, stT, imT, rgT]
theorem opK_22 (f p s : Int) : opK 19 4 p s = 22 := by simp [opK, imK, rgK, brT, ldT, stT, imT, rgT]
theorem opK_23 (f p s : Int) : opK 19 6 p s = 23 := by simp [opK, imK, rgK, brT, ldT, stT, imT, rgT]
theorem opK_24 (f p s : Int) : opK 19 7 p s = 24 := by simp [opK, imK, rgK, brT, ldT, stT, imT, rgT]
theorem opK_25 (f p s : Int) : opK 19 1 0 s = 25 := by simp [opK, imK, rgK, brT, ldT, stT, imT, rgT]
theorem opK_26 (f p s : Int) : opK 19 5 0 s = 26 := by simp [opK, imK, rgK, brT, ldT, stT, imT, rgT]
theorem opK_27 (f p s : Int) : opK 19 5 32 s = 27 := by simp [opK, imK, rgK, brT, ldT, stT, imT, rgT]
theorem opK_28 (f p s : Int) : opK 51 0 0 s = 28 := by simp [opK, imK, rgK, brT, ldT, stT, imT, rgT]
theorem opK_29 (f p s : Int) : opK 51 0 32 s = 29 := by simp [opK, imK, rgK, brT, ldT, stT, imT, rgT]
theorem opK_30 (f p s : Int) : opK 51 1 0 s = 30 := by simp [opK, imK, rgK, brT, ldT, stT, imT, rgT]
theorem opK_31 (f p s : Int) : opK 51 2 0 s = 31 := by simp [opK, imK, rgK, brT, ldT, stT, imT, rgT]
theorem opK_32 (f p s : Int) : opK 51 3 0 s = 32 := by simp [opK, imK, rgK, brT, ldT, stT, imT, rgT]
theorem opK_33 (f p s : Int) : opK 51 4 0 s = 33 := by simp [opK, imK, rgK, brT, ldT, stT, imT, rgT]
theorem opK_34 (f p s : Int) : opK 51 5 0 s = 34 := by simp [opK, imK, rgK, brT, ldT, stT, imT, rgT]
theorem opK_35 (f p s : Int) : opK 51 5 32 s = 35 := by simp [opK, imK, rgK, brT, ldT, stT, imT, rgT]
theorem opK_36 (f p s : Int) : opK 51 6 0 s = 36 := by simp [opK, imK, rgK, brT, ldT, stT, imT, rgT]
theorem opK_37 (f p s : Int) : opK 51 7 0 s = 37 := by simp [opK, imK, rgK, brT, ldT, stT, imT, rgT]
theorem opK_38 (f p s : Int) : opK 51 0 1 s = 38 := by simp [opK, imK, rgK, brT, ldT, stT, imT, rgT]
theorem opK_39 (f p s : Int) : opK 51 1 1 s = 39 := by simp [opK, imK, rgK, brT, ldT, stT, imT, rgT]
theorem opK_40 (f p s : Int) : opK 51 2 1 s = 40 := by simp [opK, imK, rgK, brT, ldT, stT, imT, rgT]
theorem opK_41 (f p s : Int) : opK 51 3 1 s = 41 := by simp [opK, imK, rgK, brT, ldT, stT, imT, rgT]
theorem opK_42 (f p s : Int) : opK 51 4 1 s = 42 := by simp [opK, imK, rgK, brT, ldT, stT, imT, rgT]
theorem opK_43 (f p s : Int) : opK 51 5 1 s = 43 := by simp [opK, imK, rgK, brT, ldT, stT, imT, rgT]
theorem opK_44 (f p s : Int) : opK 51 6 1 s = 44 := by simp [opK, imK, rgK, brT, ldT, stT, imT, rgT]
theorem opK_45 (f p s : Int) : opK 51 7 1 s = 45 := by simp [opK, imK, rgK, brT, ldT, stT, imT, rgT]
theorem opK_form (n : Nat) (h1 : 1 ≤ n) (h2 : n ≤ 45) (f p s : Int) (hf : 3 < n → f = (formN n).2.1) (hp : 25 ≤ n → p = (formN n).2.2) : opK (formN n).1 f p s = (n : Int) := by
  have hc : n = 1 ∨ n = 2 ∨ n = 3 ∨ n = 4 ∨ n = 5 ∨ n = 6 ∨ n = 7 ∨ n = 8 ∨ n = 9 ∨ n = 10 ∨ n = 11 ∨ n = 12 ∨ n = 13 ∨ n = 14 ∨ n = 15 ∨ n = 16 ∨ n = 17 ∨ n = 18 ∨ n = 19 ∨ n = 20 ∨ n = 21 ∨ n = 22 ∨ n = 23 ∨ n = 24 ∨ n = 25 ∨ n = 26 ∨ n = 27 ∨ n = 28 ∨ n = 29 ∨ n = 30 ∨ n = 31 ∨ n = 32 ∨ n = 33 ∨ n = 34 ∨ n = 35 ∨ n = 36 ∨ n = 37 ∨ n = 38 ∨ n = 39 ∨ n = 40 ∨ n = 41 ∨ n = 42 ∨ n = 43 ∨ n = 44 ∨ n = 45 := by omega
  rcases hc with rfl | rfl | rfl | rfl | rfl | rfl | rfl | rfl | rfl | rfl | rfl | rfl | rfl | rfl | rfl | rfl | rfl | rfl | rfl | rfl | rfl | rfl | rfl | rfl | rfl | rfl | rfl | rfl | rfl | rfl | rfl | rfl | rfl | rfl | rfl | rfl | rfl | rfl | rfl | rfl | rfl | rfl | rfl | rfl | rfl
  · exact opK_1 f p s
  · exact opK_2 f p s
  · exact opK_3 f p s
  · obtain rfl := hf (by decide); exact opK_4 0 p s
  · obtain rfl := hf (by decide); exact opK_5 0 p s
  · obtain rfl := hf (by decide); exact opK_6 0 p s
  · obtain rfl := hf (by decide); exact opK_7 0 p s
  · obtain rfl := hf (by decide); exact opK_8 0 p s
  · obtain rfl := hf (by decide); exact opK_9 0 p s
  · obtain rfl := hf (by decide); exact opK_10 0 p s
  · obtain rfl := hf (by decide); exact opK_11 0 p s
  · obtain rfl := hf (by decide); exact opK_12 0 p s
  · obtain rfl := hf (by decide); exact opK_13 0 p s
  · obtain rfl := hf (by decide); exact opK_14 0 p s
  · obtain rfl := hf (by decide); exact opK_15 0 p s
  · obtain rfl := hf (by decide); exact opK_16 0 p s
  · obtain rfl := hf (by decide); exact opK_17 0 p s
  · obtain rfl := hf (by decide); exact opK_18 0 p s
  · obtain rfl := hf (by decide); exact opK_19 0 p s
  · obtain rfl := hf (by decide); exact opK_20 0 p s
  · obtain rfl := hf (by decide); exact opK_21 0 p s
  · obtain rfl := hf (by decide); exact opK_22 0 p s
  · obtain rfl := hf (by decide); exact opK_23 0 p s
  · obtain rfl := hf (by decide); exact opK_24 0 p s
  · obtain rfl := hf (by decide); obtain rfl := hp (by decide); exact opK_25 0 0 s
  · obtain rfl := hf (by decide); obtain rfl := hp (by decide); exact opK_26 0 0 s
  · obtain rfl := hf (by decide); obtain rfl := hp (by decide); exact opK_27 0 0 s
  · obtain rfl := hf (by decide); obtain rfl := hp (by decide); exact opK_28 0 0 s
  · obtain rfl := hf (by decide); obtain rfl := hp (by decide); exact opK_29 0 0 s
  · obtain rfl := hf (by decide); obtain rfl := hp (by decide); exact opK_30 0 0 s
  · obtain rfl := hf (by decide); obtain rfl := hp (by decide); exact opK_31 0 0 s
  · obtain rfl := hf (by decide); obtain rfl := hp (by decide); exact opK_32 0 0 s
  · obtain rfl := hf (by decide); obtain rfl := hp (by decide); exact opK_33 0 0 s
  · obtain rfl := hf (by decide); obtain rfl := hp (by decide); exact opK_34 0 0 s
  · obtain rfl := hf (by decide); obtain rfl := hp (by decide); exact opK_35 0 0 s
  · obtain rfl := hf (by decide); obtain rfl := hp (by decide); exact opK_36 0 0 s
  · obtain rfl := hf (by decide); obtain rfl := hp (by decide); exact opK_37 0 0 s
  · obtain rfl := hf (by decide); obtain rfl := hp (by decide); exact opK_38 0 0 s
  · obtain rfl := hf (by decide); obtain rfl := hp (by decide); exact opK_39 0 0 s
  · obtain rfl := hf (by decide); obtain rfl := hp (by decide); exact opK_40 0 0 s
  · obtain rfl := hf (by decide); obtain rfl := hp (by decide); exact opK_41 0 0 s
  · obtain rfl := hf (by decide); obtain rfl := hp (by decide); exact opK_42 0 0 s
  · obtain rfl := hf (by decide); obtain rfl := hp (by decide); exact opK_43 0 0 s
  · obtain rfl := hf (by decide); obtain rfl := hp (by decide); exact opK_44 0 0 s
  · obtain rfl := hf (by decide); obtain rfl := hp (by decide); exact opK_45 0 0 s
theorem opW_wd (o d f s t p : Int) (n : Nat) (h1 : 1 ≤ n) (h2 : n ≤ 45) (ho : o = (formN n).1) (hf : 3 < n → f = (formN n).2.1) (hp : 25 ≤ n → p = (formN n).2.2)
    (hd0 : 0 ≤ d) (hd1 : d < 32) (hf0 : 0 ≤ f) (hf1 : f < 8) (hs0 : 0 ≤ s) (hs1 : s < 32) (ht0 : 0 ≤ t) (ht1 : t < 32) (hp0 : 0 ≤ p) (hp1 : p < 128) : opW (wd o d f s t p) = (n : Int) := by
  subst ho
  have hb := form_bounds n (by omega)
  obtain ⟨_, _, e1, _, e3, _, _, e6⟩ := wd_parts (formN n).1 d f s t p hb.1 hb.2.1 hd0 hd1 hf0 hf1 hs0 hs1 ht0 ht1 hp0 hp1
  unfold opW
  rw [e1, e3, e6]
  exact opK_form n h1 h2 f p _ hf hp
/-- Any instruction that may be is read back from its word. -/
theorem dec_enc (op a b c v : Int) (h : okI op a b c v) : 0 ≤ encI op a b c v ∧ encI op a b c v < 4294967296 ∧ dec (encI op a b c v) = (op, a, b, c, v) := by
  obtain ⟨h1, h2, a0, a1, b0, b1, c0, c1, h⟩ := h
  obtain ⟨n, rfl⟩ : ∃ n : Nat, op = (n : Int) := ⟨op.toNat, by omega⟩
  have hn : ((n : Nat) : Int).toNat = n := by omega
  unfold encI
  rw [hn]
  by_cases hr : 46 ≤ n
  · rw [if_neg (by omega), if_neg (by omega), if_neg (by omega), if_neg (by omega), if_neg (by omega), if_neg (by omega), if_neg (by omega)]
    obtain ⟨_, rfl, rfl, rfl, rfl⟩ : 46 ≤ (n : Int) ∧ a = 0 ∧ b = 0 ∧ c = 0 ∧ v = 0 := by omega
    have hc : n = 46 ∨ n = 47 ∨ n = 48 ∨ n = 49 := by omega
    rcases hc with rfl | rfl | rfl | rfl <;> decide +kernel
  have hb := form_bounds n (by omega)
  obtain ⟨hb1, hb2, hb3, hb4, hb5, hb6⟩ := hb
  by_cases k1 : (n : Int) ≤ 2
  · rw [if_pos k1]
    obtain ⟨_, rfl, rfl, hv, hv0, hv1⟩ : (n : Int) ≤ 2 ∧ b = 0 ∧ c = 0 ∧ v % 4096 = 0 ∧ -2147483648 ≤ v ∧ v < 2147483648 := by omega
    obtain ⟨w0, w1, e1, e2, e3, e4, e5, e6⟩ := wd_parts (formN n).1 a (v / 4096 % 8) (v / 32768 % 32) (v / 1048576 % 32) (v / 33554432 % 128) hb1 hb2 a0 a1 (by omega) (by omega) (by omega) (by omega) (by omega) (by omega) (by omega) (by omega)
    have ho := opW_wd (formN n).1 a (v / 4096 % 8) (v / 32768 % 32) (v / 1048576 % 32) (v / 33554432 % 128) n (by omega) (by omega) rfl (fun h => by omega) (fun h => by omega) a0 a1 (by omega) (by omega) (by omega) (by omega) (by omega) (by omega) (by omega) (by omega)
    refine ⟨w0, w1, ?_⟩
    unfold dec
    rw [ho]
    unfold decOp
    rw [if_neg (by omega), if_pos k1, uW_P _ w0 w1, e2, e3, e4, e5, e6]
    have : uP (v / 4096 % 8) (v / 32768 % 32) (v / 1048576 % 32) (v / 33554432 % 128) = v := by unfold uP wrap32; omega
    rw [this]
  rw [if_neg k1]
  by_cases k2 : (n : Int) = 3
  · rw [if_pos k2]
    obtain ⟨_, rfl, rfl, hv0, hv1, hv⟩ : (n : Int) = 3 ∧ b = 0 ∧ c = 0 ∧ -1048576 ≤ v ∧ v < 1048576 ∧ v % 2 = 0 := by omega
    obtain ⟨w0, w1, e1, e2, e3, e4, e5, e6⟩ := wd_parts (formN n).1 a (v / 4096 % 8) (v / 32768 % 32) (v / 2048 % 2 + 2 * (v / 2 % 16)) (v / 32 % 64 + 64 * (v / 1048576 % 2)) hb1 hb2 a0 a1 (by omega) (by omega) (by omega) (by omega) (by omega) (by omega) (by omega) (by omega)
    have ho := opW_wd (formN n).1 a (v / 4096 % 8) (v / 32768 % 32) (v / 2048 % 2 + 2 * (v / 2 % 16)) (v / 32 % 64 + 64 * (v / 1048576 % 2)) n (by omega) (by omega) rfl (fun h => by omega) (fun h => by omega) a0 a1 (by omega) (by omega) (by omega) (by omega) (by omega) (by omega) (by omega) (by omega)
    refine ⟨w0, w1, ?_⟩
    unfold dec
    rw [ho]
    unfold decOp
    rw [if_neg (by omega), if_neg k1, if_pos k2, jW_P _ w0 w1, e2, e3, e4, e5, e6]
    have : jP (v / 4096 % 8) (v / 32768 % 32) (v / 2048 % 2 + 2 * (v / 2 % 16)) (v / 32 % 64 + 64 * (v / 1048576 % 2)) = v := jP_v v hv0 hv1 hv
    rw [this]
  rw [if_neg k2]
  by_cases k3 : (n : Int) = 4 ∨ 11 ≤ (n : Int) ∧ (n : Int) ≤ 15 ∨ 19 ≤ (n : Int) ∧ (n : Int) ≤ 24
  · rw [if_pos k3]
    obtain ⟨rfl, hv0, hv1⟩ : c = 0 ∧ -2048 ≤ v ∧ v < 2048 := by omega
    obtain ⟨w0, w1, e1, e2, e3, e4, e5, e6⟩ := wd_parts (formN n).1 a (formN n).2.1 b (v % 32) (v / 32 % 128) hb1 hb2 a0 a1 hb3 hb4 b0 b1 (by omega) (by omega) (by omega) (by omega)
    have ho := opW_wd (formN n).1 a (formN n).2.1 b (v % 32) (v / 32 % 128) n (by omega) (by omega) rfl (fun _ => rfl) (fun h => by omega) a0 a1 hb3 hb4 b0 b1 (by omega) (by omega) (by omega) (by omega)
    refine ⟨w0, w1, ?_⟩
    unfold dec
    rw [ho]
    unfold decOp
    rw [if_neg (by omega), if_neg k1, if_neg k2, if_neg (by omega), if_neg (by omega), if_neg (by omega), if_neg (by omega), iW_P _ w0 w1, e2, e4, e5, e6]
    have : iP (v % 32) (v / 32 % 128) = v := iP_v v hv0 hv1
    rw [this]
  rw [if_neg k3]
  by_cases k4 : (n : Int) ≤ 10
  · rw [if_pos k4]
    obtain ⟨rfl, hv0, hv1, hv⟩ : a = 0 ∧ -4096 ≤ v ∧ v < 4096 ∧ v % 2 = 0 := by omega
    obtain ⟨w0, w1, e1, e2, e3, e4, e5, e6⟩ := wd_parts (formN n).1 (v / 2048 % 2 + 2 * (v / 2 % 16)) (formN n).2.1 b c (v / 32 % 64 + 64 * (v / 4096 % 2)) hb1 hb2 (by omega) (by omega) hb3 hb4 b0 b1 c0 c1 (by omega) (by omega)
    have ho := opW_wd (formN n).1 (v / 2048 % 2 + 2 * (v / 2 % 16)) (formN n).2.1 b c (v / 32 % 64 + 64 * (v / 4096 % 2)) n (by omega) (by omega) rfl (fun _ => rfl) (fun h => by omega) (by omega) (by omega) hb3 hb4 b0 b1 c0 c1 (by omega) (by omega)
    refine ⟨w0, w1, ?_⟩
    unfold dec
    rw [ho]
    unfold decOp
    rw [if_neg (by omega), if_neg k1, if_neg k2, if_pos (by omega), bW_P _ w0 w1, e2, e4, e5, e6]
    have : bP (v / 2048 % 2 + 2 * (v / 2 % 16)) (v / 32 % 64 + 64 * (v / 4096 % 2)) = v := bP_v v hv0 hv1 hv
    rw [this]
  rw [if_neg k4]
  by_cases k5 : (n : Int) ≤ 18
  · rw [if_pos k5]
    obtain ⟨rfl, hv0, hv1⟩ : a = 0 ∧ -2048 ≤ v ∧ v < 2048 := by omega
    obtain ⟨w0, w1, e1, e2, e3, e4, e5, e6⟩ := wd_parts (formN n).1 (v % 32) (formN n).2.1 b c (v / 32 % 128) hb1 hb2 (by omega) (by omega) hb3 hb4 b0 b1 c0 c1 (by omega) (by omega)
    have ho := opW_wd (formN n).1 (v % 32) (formN n).2.1 b c (v / 32 % 128) n (by omega) (by omega) rfl (fun _ => rfl) (fun h => by omega) (by omega) (by omega) hb3 hb4 b0 b1 c0 c1 (by omega) (by omega)
    refine ⟨w0, w1, ?_⟩
    unfold dec
    rw [ho]
    unfold decOp
    rw [if_neg (by omega), if_neg k1, if_neg k2, if_neg (by omega), if_pos (by omega), sW_P _ w0 w1, e2, e4, e5, e6]
    have : sP (v % 32) (v / 32 % 128) = v := sP_v v hv0 hv1
    rw [this]
  rw [if_neg k5]
  by_cases k6 : (n : Int) ≤ 27
  · rw [if_pos k6]
    obtain ⟨rfl, hv0, hv1⟩ : c = 0 ∧ 0 ≤ v ∧ v < 32 := by omega
    obtain ⟨w0, w1, e1, e2, e3, e4, e5, e6⟩ := wd_parts (formN n).1 a (formN n).2.1 b v (formN n).2.2 hb1 hb2 a0 a1 hb3 hb4 b0 b1 hv0 hv1 hb5 hb6
    have ho := opW_wd (formN n).1 a (formN n).2.1 b v (formN n).2.2 n (by omega) (by omega) rfl (fun _ => rfl) (fun _ => rfl) a0 a1 hb3 hb4 b0 b1 hv0 hv1 hb5 hb6
    refine ⟨w0, w1, ?_⟩
    unfold dec
    rw [ho]
    unfold decOp
    rw [if_neg (by omega), if_neg k1, if_neg k2, if_neg (by omega), if_neg (by omega), if_pos (by omega), e2, e4, e5]
  rw [if_neg k6, if_pos (by omega)]
  obtain rfl : v = 0 := by omega
  obtain ⟨w0, w1, e1, e2, e3, e4, e5, e6⟩ := wd_parts (formN n).1 a (formN n).2.1 b c (formN n).2.2 hb1 hb2 a0 a1 hb3 hb4 b0 b1 c0 c1 hb5 hb6
  have ho := opW_wd (formN n).1 a (formN n).2.1 b c (formN n).2.2 n (by omega) (by omega) rfl (fun _ => rfl) (fun _ => rfl) a0 a1 hb3 hb4 b0 b1 c0 c1 hb5 hb6
  refine ⟨w0, w1, ?_⟩
  unfold dec
  rw [ho]
  unfold decOp
  rw [if_neg (by omega), if_neg k1, if_neg k2, if_neg (by omega), if_neg (by omega), if_neg (by omega), if_pos (by omega), e2, e4, e5]
end Go.Proofs.YtmgbidehdnmjkaaDoor.Rv
