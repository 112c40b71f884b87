/- What a word reads as may be, and is written back as the word; what Encode answers. -/
import Derived.Test.YtmgbidehdnmjkaaDoorPureC
namespace Go.Proofs.YtmgbidehdnmjkaaDoor.Rv
open Go Go.RowKit Go.Proofs.YtmgbidehdnmjkaaDoorW.PrintWords Go.Proofs.YtmgbidehdnmjkaaDoorW.PrintLast Go.Proofs.YtmgbidehdnmjkaaDoorW.PrintMore
set_option linter.unusedVariables false
set_option linter.unusedSimpArgs false
/-- The Op of a word fits the word's parts. -/
theorem op_fits (w : Int) (h0 : 0 ≤ w) (h1 : w < 4294967296) : (opW w = 48 ∧ w = 115) ∨ (opW w = 49 ∧ w = 1048691) ∨ opW w = 0 ∨
    (∃ n : Nat, 1 ≤ n ∧ n ≤ 47 ∧ opW w = (n : Int) ∧ w % 128 = (formN n).1 ∧ (3 < n → w / 4096 % 8 = (formN n).2.1) ∧ (25 ≤ n → n ≤ 45 → w / 33554432 = (formN n).2.2)) := by
  by_cases c1 : w = 115
  · subst c1; exact Or.inl ⟨by decide +kernel, rfl⟩
  by_cases c2 : w = 1048691
  · subst c2; exact Or.inr (Or.inl ⟨by decide +kernel, rfl⟩)
  right; right
  have hf := find_op (w % 128) (w / 4096 % 8) (w / 33554432) (by omega) (by omega) (by omega) (by omega)
  have e : opW w = opK (w % 128) (w / 4096 % 8) (w / 33554432) 0 := by unfold opW; rw [sys_0 w c1 c2]
  rw [e, ← hf]
  cases hq : (List.range' 1 47).find? (fitB (w % 128) (w / 4096 % 8) (w / 33554432)) with
  | none => exact Or.inl rfl
  | some q =>
    right
    have hm := List.mem_range'_1.1 (List.mem_of_find?_eq_some hq)
    have hb := List.find?_some hq
    unfold fitB at hb
    simp only [Bool.and_eq_true, Bool.or_eq_true, decide_eq_true_eq] at hb
    refine ⟨q, by omega, by omega, rfl, hb.1.1.symm, fun h => ?_, fun h h' => ?_⟩
    · rcases hb.1.2 with h2 | h2
      · omega
      · exact h2.symm
    · rcases hb.2 with (h2 | h2) | h2
      · omega
      · omega
      · exact h2.symm
theorem u_mul (w : Int) : uW w % 4096 = 0 ∧ -2147483648 ≤ uW w ∧ uW w < 2147483648 := by unfold uW wrap32; omega
theorem j_mul (w : Int) (h0 : 0 ≤ w) (h1 : w < 4294967296) : jW w % 2 = 0 ∧ -1048576 ≤ jW w ∧ jW w < 1048576 := by unfold jW; omega
theorem b_mul (w : Int) (h0 : 0 ≤ w) (h1 : w < 4294967296) : bW w % 2 = 0 ∧ -4096 ≤ bW w ∧ bW w < 4096 := by unfold bW; omega
theorem s_mul (w : Int) (h0 : 0 ≤ w) (h1 : w < 4294967296) : -2048 ≤ sW w ∧ sW w < 2048 := by unfold sW; omega
theorem i_mul (w : Int) (h0 : 0 ≤ w) (h1 : w < 4294967296) : -2048 ≤ iW w ∧ iW w < 2048 := by unfold iW; omega
def okT (x : Int × Int × Int × Int × Int) : Prop := okI x.1 x.2.1 x.2.2.1 x.2.2.2.1 x.2.2.2.2
def encT (x : Int × Int × Int × Int × Int) : Int := encI x.1 x.2.1 x.2.2.1 x.2.2.2.1 x.2.2.2.2
theorem dec_op (w : Int) : (dec w).1 = opW w := by
  unfold dec decOp
  repeat' split
  all_goals rfl
theorem dec_0 (w : Int) (h : opW w = 0) : dec w = (0, 0, 0, 0, 0) := by
  unfold dec decOp; rw [h, if_pos (Or.inl rfl)]
/-- What a word reads as may be, if it is no none. -/
theorem dec_ok (w : Int) (h0 : 0 ≤ w) (h1 : w < 4294967296) (hn : opW w ≠ 0) : okT (dec w) := by
  have hr : 1 ≤ opW w ∧ opW w ≤ 49 := by
    rcases op_fits w h0 h1 with h | h | h | ⟨n, h, h', e, _⟩ <;> omega
  have hu := u_mul w
  have hj := j_mul w h0 h1
  have hb := b_mul w h0 h1
  have hs := s_mul w h0 h1
  have hi := i_mul w h0 h1
  have a0 : 0 ≤ w / 128 % 32 ∧ w / 128 % 32 < 32 := by omega
  have b0 : 0 ≤ w / 32768 % 32 ∧ w / 32768 % 32 < 32 := by omega
  have c0 : 0 ≤ w / 1048576 % 32 ∧ w / 1048576 % 32 < 32 := by omega
  unfold dec decOp
  generalize opW w = op at *
  generalize uW w = u at *
  generalize jW w = j at *
  generalize bW w = bb at *
  generalize sW w = ss at *
  generalize iW w = ii at *
  generalize w / 128 % 32 = a at *
  generalize w / 32768 % 32 = b at *
  generalize w / 1048576 % 32 = c at *
  clear h0 h1
  by_cases k0 : op = 0 ∨ 46 ≤ op
  · rw [if_pos k0]; show okI op 0 0 0 0; exact ⟨hr.1, hr.2, Int.le_refl 0, by decide, Int.le_refl 0, by decide, Int.le_refl 0, by decide, Or.inr (Or.inr (Or.inr (Or.inr (Or.inr (Or.inr (Or.inr ⟨by omega, rfl, rfl, rfl, rfl⟩))))))⟩
  rw [if_neg k0]
  by_cases k1 : op ≤ 2
  · rw [if_pos k1]; show okI op a 0 0 u; exact ⟨hr.1, hr.2, a0.1, a0.2, Int.le_refl 0, by decide, Int.le_refl 0, by decide, Or.inl ⟨k1, rfl, rfl, hu.1, hu.2.1, hu.2.2⟩⟩
  rw [if_neg k1]
  by_cases k2 : op = 3
  · rw [if_pos k2]; show okI op a 0 0 j; exact ⟨hr.1, hr.2, a0.1, a0.2, Int.le_refl 0, by decide, Int.le_refl 0, by decide, Or.inr (Or.inl ⟨k2, rfl, rfl, hj.2.1, hj.2.2, hj.1⟩)⟩
  rw [if_neg k2]
  by_cases k3 : 5 ≤ op ∧ op ≤ 10
  · rw [if_pos k3]; show okI op 0 b c bb; exact ⟨hr.1, hr.2, Int.le_refl 0, by decide, b0.1, b0.2, c0.1, c0.2, Or.inr (Or.inr (Or.inr (Or.inl ⟨k3.1, k3.2, rfl, hb.2.1, hb.2.2, hb.1⟩)))⟩
  rw [if_neg k3]
  by_cases k4 : 16 ≤ op ∧ op ≤ 18
  · rw [if_pos k4]; show okI op 0 b c ss; exact ⟨hr.1, hr.2, Int.le_refl 0, by decide, b0.1, b0.2, c0.1, c0.2, Or.inr (Or.inr (Or.inr (Or.inr (Or.inl ⟨k4.1, k4.2, rfl, hs.1, hs.2⟩))))⟩
  rw [if_neg k4]
  by_cases k5 : 25 ≤ op ∧ op ≤ 27
  · rw [if_pos k5]; show okI op a b 0 c; exact ⟨hr.1, hr.2, a0.1, a0.2, b0.1, b0.2, Int.le_refl 0, by decide, Or.inr (Or.inr (Or.inr (Or.inr (Or.inr (Or.inl ⟨k5.1, k5.2, rfl, c0.1, c0.2⟩)))))⟩
  rw [if_neg k5]
  by_cases k6 : 28 ≤ op
  · rw [if_pos k6]; show okI op a b c 0; exact ⟨hr.1, hr.2, a0.1, a0.2, b0.1, b0.2, c0.1, c0.2, Or.inr (Or.inr (Or.inr (Or.inr (Or.inr (Or.inr (Or.inl ⟨k6, by omega, rfl⟩))))))⟩
  rw [if_neg k6]; show okI op a b 0 ii; exact ⟨hr.1, hr.2, a0.1, a0.2, b0.1, b0.2, Int.le_refl 0, by decide, Or.inr (Or.inr (Or.inl ⟨by clear hu hj hb hs hi; omega, rfl, hi.1, hi.2⟩))⟩
theorem u_parts (f s t p : Int) (f0 : 0 ≤ f) (f1 : f < 8) (s0 : 0 ≤ s) (s1 : s < 32) (t0 : 0 ≤ t) (t1 : t < 32) (p0 : 0 ≤ p) (p1 : p < 128) :
    uP f s t p / 4096 % 8 = f ∧ uP f s t p / 32768 % 32 = s ∧ uP f s t p / 1048576 % 32 = t ∧ uP f s t p / 33554432 % 128 = p := by
  unfold uP wrap32; refine ⟨?_, ?_, ?_, ?_⟩ <;> omega
theorem j_parts (f s t p : Int) (f0 : 0 ≤ f) (f1 : f < 8) (s0 : 0 ≤ s) (s1 : s < 32) (t0 : 0 ≤ t) (t1 : t < 32) (p0 : 0 ≤ p) (p1 : p < 128) :
    jP f s t p / 4096 % 8 = f ∧ jP f s t p / 32768 % 32 = s ∧ jP f s t p / 2048 % 2 + 2 * (jP f s t p / 2 % 16) = t ∧ jP f s t p / 32 % 64 + 64 * (jP f s t p / 1048576 % 2) = p := by
  obtain ⟨t2, t3, rfl, g0, g1, g2, g3⟩ : ∃ t2 t3 : Int, t = t2 + 2 * t3 ∧ 0 ≤ t2 ∧ t2 < 2 ∧ 0 ≤ t3 ∧ t3 < 16 := ⟨t % 2, t / 2, by omega, by omega, by omega, by omega, by omega⟩
  obtain ⟨p2, p3, rfl, q0, q1, q2, q3⟩ : ∃ p2 p3 : Int, p = p2 + 64 * p3 ∧ 0 ≤ p2 ∧ p2 < 64 ∧ 0 ≤ p3 ∧ p3 < 2 := ⟨p % 64, p / 64, by omega, by omega, by omega, by omega, by omega⟩
  have e : jP f s (t2 + 2 * t3) (p2 + 64 * p3) = p3 * (-1048576) + (f + 8 * s) * 4096 + t2 * 2048 + (t3 + 16 * p2) * 2 := by
    unfold jP
    rw [show (t2 + 2 * t3) % 2 = t2 by omega, show (t2 + 2 * t3) / 2 = t3 by omega, show (p2 + 64 * p3) / 64 = p3 by omega, show (p2 + 64 * p3) % 64 = p2 by omega]
  rw [e]
  clear e
  generalize hX : p3 * (-1048576) + (f + 8 * s) * 4096 + t2 * 2048 + (t3 + 16 * p2) * 2 = X
  have x1 : X / 4096 = -256 * p3 + f + 8 * s := by omega
  have x2 : X / 32768 = -32 * p3 + s := by omega
  have x3 : X / 2048 = -512 * p3 + 2 * f + 16 * s + t2 := by omega
  have x4 : X / 2 = -524288 * p3 + 2048 * f + 16384 * s + 1024 * t2 + 16 * p2 + t3 := by omega
  have x5 : X / 32 = -32768 * p3 + 128 * f + 1024 * s + 64 * t2 + p2 := by omega
  have x6 : X / 1048576 = -p3 := by omega
  rw [x1, x2, x3, x4, x5, x6]
  clear x1 x2 x3 x4 x5 x6 hX
  refine ⟨?_, ?_, ?_, ?_⟩
  · omega
  · omega
  · have y1 : (-512 * p3 + 2 * f + 16 * s + t2) % 2 = t2 := by omega
    have y2 : (-524288 * p3 + 2048 * f + 16384 * s + 1024 * t2 + 16 * p2 + t3) % 16 = t3 := by omega
    rw [y1, y2]
  · have y1 : (-32768 * p3 + 128 * f + 1024 * s + 64 * t2 + p2) % 64 = p2 := by omega
    have y2 : -p3 % 2 = p3 := by omega
    rw [y1, y2]
theorem b_parts (d p : Int) (d0 : 0 ≤ d) (d1 : d < 32) (p0 : 0 ≤ p) (p1 : p < 128) : bP d p / 2048 % 2 + 2 * (bP d p / 2 % 16) = d ∧ bP d p / 32 % 64 + 64 * (bP d p / 4096 % 2) = p := by
  obtain ⟨t2, t3, rfl, g0, g1, g2, g3⟩ : ∃ t2 t3 : Int, d = t2 + 2 * t3 ∧ 0 ≤ t2 ∧ t2 < 2 ∧ 0 ≤ t3 ∧ t3 < 16 := ⟨d % 2, d / 2, by omega, by omega, by omega, by omega, by omega⟩
  obtain ⟨p2, p3, rfl, q0, q1, q2, q3⟩ : ∃ p2 p3 : Int, p = p2 + 64 * p3 ∧ 0 ≤ p2 ∧ p2 < 64 ∧ 0 ≤ p3 ∧ p3 < 2 := ⟨p % 64, p / 64, by omega, by omega, by omega, by omega, by omega⟩
  have e : bP (t2 + 2 * t3) (p2 + 64 * p3) = p3 * (-4096) + t2 * 2048 + p2 * 32 + t3 * 2 := by
    unfold bP
    rw [show (t2 + 2 * t3) % 2 = t2 by omega, show (t2 + 2 * t3) / 2 = t3 by omega, show (p2 + 64 * p3) / 64 = p3 by omega, show (p2 + 64 * p3) % 64 = p2 by omega]
  rw [e]
  clear e
  generalize hX : p3 * (-4096) + t2 * 2048 + p2 * 32 + t3 * 2 = X
  have x3 : X / 2048 = -2 * p3 + t2 := by omega
  have x4 : X / 2 = -2048 * p3 + 1024 * t2 + 16 * p2 + t3 := by omega
  have x5 : X / 32 = -128 * p3 + 64 * t2 + p2 := by omega
  have x6 : X / 4096 = -p3 := by omega
  rw [x3, x4, x5, x6]
  clear x3 x4 x5 x6 hX
  have y1 : (-2 * p3 + t2) % 2 = t2 := by omega
  have y2 : (-2048 * p3 + 1024 * t2 + 16 * p2 + t3) % 16 = t3 := by omega
  have y3 : (-128 * p3 + 64 * t2 + p2) % 64 = p2 := by omega
  have y4 : -p3 % 2 = p3 := by omega
  rw [y1, y2, y3, y4]
  exact ⟨rfl, rfl⟩
theorem s_parts (d p : Int) (d0 : 0 ≤ d) (d1 : d < 32) (p0 : 0 ≤ p) (p1 : p < 128) : sP d p % 32 = d ∧ sP d p / 32 % 128 = p := by unfold sP; omega
theorem i_parts (t p : Int) (t0 : 0 ≤ t) (t1 : t < 32) (p0 : 0 ≤ p) (p1 : p < 128) : iP t p % 32 = t ∧ iP t p / 32 % 128 = p := by unfold iP; omega
/-- A word that is one is written back, but for what a fence leaves open. -/
theorem enc_dec (w : Int) (h0 : 0 ≤ w) (h1 : w < 4294967296) (hn : opW w ≠ 0) (h46 : opW w ≠ 46) (h47 : opW w ≠ 47) : encT (dec w) = w := by
  rcases op_fits w h0 h1 with ⟨e, rfl⟩ | ⟨e, rfl⟩ | e | ⟨n, n1, n2, e, ho, hf, hp⟩
  · decide +kernel
  · decide +kernel
  · exact absurd e hn
  rw [e] at h46 h47
  have hw := wd_of w h0 h1
  have f0 : 0 ≤ w / 4096 % 8 ∧ w / 4096 % 8 < 8 := by omega
  have d0 : 0 ≤ w / 128 % 32 ∧ w / 128 % 32 < 32 := by omega
  have s0 : 0 ≤ w / 32768 % 32 ∧ w / 32768 % 32 < 32 := by omega
  have t0 : 0 ≤ w / 1048576 % 32 ∧ w / 1048576 % 32 < 32 := by omega
  have p0 : 0 ≤ w / 33554432 ∧ w / 33554432 < 128 := by omega
  unfold dec
  rw [e]
  unfold decOp
  rw [uW_P w h0 h1, jW_P w h0 h1, bW_P w h0 h1, sW_P w h0 h1, iW_P w h0 h1]
  rw [ho] at hw
  generalize w / 4096 % 8 = f at *
  generalize w / 128 % 32 = d at *
  generalize w / 32768 % 32 = s at *
  generalize w / 1048576 % 32 = t at *
  generalize w / 33554432 = p at *
  rw [hw]
  clear hw ho h0 h1 hn e
  have hn' : ((n : Nat) : Int).toNat = n := by omega
  rw [if_neg (by omega)]
  by_cases k1 : (n : Int) ≤ 2
  · rw [if_pos k1]
    obtain ⟨e1, e2, e3, e4⟩ := u_parts f s t p f0.1 f0.2 s0.1 s0.2 t0.1 t0.2 p0.1 p0.2
    unfold encT encI
    simp only
    rw [if_pos k1, hn', e1, e2, e3, e4]
  rw [if_neg k1]
  by_cases k2 : (n : Int) = 3
  · rw [if_pos k2]
    obtain ⟨e1, e2, e3, e4⟩ := j_parts f s t p f0.1 f0.2 s0.1 s0.2 t0.1 t0.2 p0.1 p0.2
    unfold encT encI
    simp only
    rw [if_neg k1, if_pos k2, hn', e1, e2, e3, e4]
  rw [if_neg k2]
  obtain rfl := hf (by omega)
  by_cases k3 : 5 ≤ (n : Int) ∧ (n : Int) ≤ 10
  · rw [if_pos k3]
    obtain ⟨e1, e2⟩ := b_parts d p d0.1 d0.2 p0.1 p0.2
    unfold encT encI
    simp only
    rw [if_neg k1, if_neg k2, if_neg (by omega), if_pos k3.2, hn', e1, e2]
  rw [if_neg k3]
  by_cases k4 : 16 ≤ (n : Int) ∧ (n : Int) ≤ 18
  · rw [if_pos k4]
    obtain ⟨e1, e2⟩ := s_parts d p d0.1 d0.2 p0.1 p0.2
    unfold encT encI
    simp only
    rw [if_neg k1, if_neg k2, if_neg (by omega), if_neg (by omega), if_pos k4.2, hn', e1, e2]
  rw [if_neg k4]
  by_cases k5 : 25 ≤ (n : Int) ∧ (n : Int) ≤ 27
  · rw [if_pos k5]
    obtain rfl := hp (by omega) (by omega)
    unfold encT encI
    simp only
    rw [if_neg k1, if_neg k2, if_neg (by omega), if_neg (by omega), if_neg (by omega), if_pos k5.2, hn']
  rw [if_neg k5]
  by_cases k6 : 28 ≤ (n : Int)
  · rw [if_pos k6]
    obtain rfl := hp (by omega) (by omega)
    unfold encT encI
    simp only
    rw [if_neg k1, if_neg k2, if_neg (by omega), if_neg (by omega), if_neg (by omega), if_neg (by omega), if_pos (by omega), hn']
  rw [if_neg k6]
  obtain ⟨e1, e2⟩ := i_parts t p t0.1 t0.2 p0.1 p0.2
  unfold encT encI
  simp only
  rw [if_neg k1, if_neg k2, if_pos (by omega), hn', e1, e2]
/-! Encode. -/
theorem or_assoc_u32 (x y z : Int) (hx0 : 0 ≤ x) (hx : x < 4294967296) (hy0 : 0 ≤ y) (hy : y < 4294967296) (hz0 : 0 ≤ z) (hz : z < 4294967296) : Go.bits .or .u32 x (Go.bits .or .u32 y z) = Go.bits .or .u32 (Go.bits .or .u32 x y) z := by
  obtain ⟨a, rfl⟩ := Int.eq_ofNat_of_zero_le hx0
  obtain ⟨b, rfl⟩ := Int.eq_ofNat_of_zero_le hy0
  obtain ⟨c, rfl⟩ := Int.eq_ofNat_of_zero_le hz0
  have ha : a < 2 ^ 32 := by omega
  have hb : b < 2 ^ 32 := by omega
  have hc : c < 2 ^ 32 := by omega
  rw [(bits_nat .u32 32 (by decide) wraps_u32 b c hb hc).2, (bits_nat .u32 32 (by decide) wraps_u32 a b ha hb).2,
    (bits_nat .u32 32 (by decide) wraps_u32 a (b ||| c) ha (Nat.or_lt_two_pow hb hc)).2, (bits_nat .u32 32 (by decide) wraps_u32 (a ||| b) c (Nat.or_lt_two_pow ha hb) hc).2, Nat.or_assoc]
theorem code_at : ∀ n : Nat, n < 46 → 1 ≤ n → rv_code.f (n : Int) = some (formN n) := by decide +kernel
theorem place_0 (v : Int) (h0 : 0 ≤ v) (h1 : v < 4294967296) : rv_place.f v 0 = some (v * 1) := by
  unfold rv_place.f shl
  rw [if_pos (by decide), show (2 : Int) ^ min (0 : Int).toNat IntKind.u32.bits = 1 by decide, IntKind.wrap_u32]
  congr 1
  omega
theorem place_7 (v : Int) (h0 : 0 ≤ v) (h1 : v < 33554432) : rv_place.f v 7 = some (v * 128) := by
  unfold rv_place.f shl
  rw [if_pos (by decide), show (2 : Int) ^ min (7 : Int).toNat IntKind.u32.bits = 128 by decide, IntKind.wrap_u32]
  congr 1
  omega
theorem place_12 (v : Int) (h0 : 0 ≤ v) (h1 : v < 1048576) : rv_place.f v 12 = some (v * 4096) := by
  unfold rv_place.f shl
  rw [if_pos (by decide), show (2 : Int) ^ min (12 : Int).toNat IntKind.u32.bits = 4096 by decide, IntKind.wrap_u32]
  congr 1
  omega
theorem place_15 (v : Int) (h0 : 0 ≤ v) (h1 : v < 131072) : rv_place.f v 15 = some (v * 32768) := by
  unfold rv_place.f shl
  rw [if_pos (by decide), show (2 : Int) ^ min (15 : Int).toNat IntKind.u32.bits = 32768 by decide, IntKind.wrap_u32]
  congr 1
  omega
theorem place_20 (v : Int) (h0 : 0 ≤ v) (h1 : v < 4096) : rv_place.f v 20 = some (v * 1048576) := by
  unfold rv_place.f shl
  rw [if_pos (by decide), show (2 : Int) ^ min (20 : Int).toNat IntKind.u32.bits = 1048576 by decide, IntKind.wrap_u32]
  congr 1
  omega
theorem place_25 (v : Int) (h0 : 0 ≤ v) (h1 : v < 128) : rv_place.f v 25 = some (v * 33554432) := by
  unfold rv_place.f shl
  rw [if_pos (by decide), show (2 : Int) ^ min (25 : Int).toNat IntKind.u32.bits = 33554432 by decide, IntKind.wrap_u32]
  congr 1
  omega
theorem place_31 (v : Int) (h0 : 0 ≤ v) (h1 : v < 2) : rv_place.f v 31 = some (v * 2147483648) := by
  unfold rv_place.f shl
  rw [if_pos (by decide), show (2 : Int) ^ min (31 : Int).toNat IntKind.u32.bits = 2147483648 by decide, IntKind.wrap_u32]
  congr 1
  omega
theorem place_21 (v : Int) (h0 : 0 ≤ v) (h1 : v < 2048) : rv_place.f v 21 = some (v * 2097152) := by
  unfold rv_place.f shl
  rw [if_pos (by decide), show (2 : Int) ^ min (21 : Int).toNat IntKind.u32.bits = 2097152 by decide, IntKind.wrap_u32]
  congr 1
  omega
theorem place_8 (v : Int) (h0 : 0 ≤ v) (h1 : v < 16777216) : rv_place.f v 8 = some (v * 256) := by
  unfold rv_place.f shl
  rw [if_pos (by decide), show (2 : Int) ^ min (8 : Int).toNat IntKind.u32.bits = 256 by decide, IntKind.wrap_u32]
  congr 1
  omega
theorem regs_at (k : Nat) (a b c : Int) : rv_regs.f (k + 4) [a, b, c] = some (decide (0 ≤ a ∧ a < 32 ∧ 0 ≤ b ∧ b < 32 ∧ 0 ≤ c ∧ c < 32)) := by
  have w1 : wrap64 (0 + 1) = 1 := by unfold wrap64; omega
  have w2 : wrap64 (1 + 1) = 2 := by unfold wrap64; omega
  have w3 : wrap64 (2 + 1) = 3 := by unfold wrap64; omega
  have r0 : rd [a, b, c] 0 = a := rfl
  have r1 : rd [a, b, c] 1 = b := rfl
  have r2 : rd [a, b, c] 2 = c := rfl
  unfold rv_regs.f
  simp only [List.length_cons, List.length_nil]
  simp only [rv_regs.l0, r0, r1, r2, w1, w2, w3]
  by_cases c1 : a < 0
  · rw [decide_eq_false (by omega)]; simp [c1]
  by_cases c2 : a > 31
  · rw [decide_eq_false (by omega)]; simp [c1, c2]
  by_cases c3 : b < 0
  · rw [decide_eq_false (by omega)]; simp [c1, c2, c3]
  by_cases c4 : b > 31
  · rw [decide_eq_false (by omega)]; simp [c1, c2, c3, c4]
  by_cases c5 : c < 0
  · rw [decide_eq_false (by omega)]; simp [c1, c2, c3, c4, c5]
  by_cases c6 : c > 31
  · rw [decide_eq_false (by omega)]; simp [c1, c2, c3, c4, c5, c6]
  · rw [decide_eq_true (by omega)]; simp [c1, c2, c3, c4, c5, c6]
/-- The bits of a number, where its Op has it. -/
def bitsI (op v : Int) : Int :=
  if op ≤ 2 then v % 4294967296 / 4096 * 4096
  else if op = 3 then Go.bits .or .u32 (Go.bits .or .u32 (Go.bits .or .u32 (v / 1048576 % 2 * 2147483648) (v / 2 % 1024 * 2097152)) (v / 2048 % 2 * 1048576)) (v / 4096 % 256 * 4096)
  else if 5 ≤ op ∧ op ≤ 10 then Go.bits .or .u32 (Go.bits .or .u32 (Go.bits .or .u32 (v / 4096 % 2 * 2147483648) (v / 32 % 64 * 33554432)) (v / 2 % 16 * 256)) (v / 2048 % 2 * 128)
  else if 16 ≤ op ∧ op ≤ 18 then Go.bits .or .u32 (v / 32 % 128 * 33554432) (v % 32 * 128)
  else if 25 ≤ op ∧ op ≤ 27 then v % 32 * 1048576
  else if 28 ≤ op then 0
  else v % 4096 * 1048576
theorem bits_at (k : Nat) (op v : Int) (h0 : -2147483648 ≤ v) (h1 : v < 2147483648) : rv_bits.f (k + 3) op v = some (bitsI op v) := by
  have hv : wrap64 v = v := by unfold wrap64; omega
  have a1 : ∀ x : Int, Go.bits .and .i64 x 1 = x % 2 := fun x => and_i64 1 (by decide) x
  have a2 : ∀ x : Int, Go.bits .and .i64 x 1023 = x % 1024 := fun x => and_i64 10 (by decide) x
  have a3 : ∀ x : Int, Go.bits .and .i64 x 255 = x % 256 := fun x => and_i64 8 (by decide) x
  have a4 : ∀ x : Int, Go.bits .and .i64 x 63 = x % 64 := fun x => and_i64 6 (by decide) x
  have a5 : ∀ x : Int, Go.bits .and .i64 x 15 = x % 16 := fun x => and_i64 4 (by decide) x
  have a6 : ∀ x : Int, Go.bits .and .i64 x 127 = x % 128 := fun x => and_i64 7 (by decide) x
  have a7 : ∀ x : Int, Go.bits .and .i64 x 31 = x % 32 := fun x => and_i64 5 (by decide) x
  have a8 : ∀ x : Int, Go.bits .and .i64 x 4095 = x % 4096 := fun x => and_i64 12 (by decide) x
  unfold rv_bits.f bitsI
  rw [hv]
  by_cases k1 : op ≤ 2
  · rw [if_pos k1, if_pos k1, and_high _ (by omega) (by omega)]
  rw [if_neg k1, if_neg k1]
  by_cases k2 : op = 3
  · rw [if_pos k2, if_pos k2, a1, a2, a1, a3, place_31 _ (by omega) (by omega), place_21 _ (by omega) (by omega), place_20 _ (by omega) (by omega), place_12 _ (by omega) (by omega)]; rfl
  rw [if_neg k2, if_neg k2]
  by_cases k3 : 5 ≤ op ∧ op ≤ 10
  · rw [if_pos k3, if_pos k3.1, decide_eq_true k3.2]
    simp only [rv_bits.j0, if_true]
    rw [a1, a4, a5, a1, place_31 _ (by omega) (by omega), place_25 _ (by omega) (by omega), place_8 _ (by omega) (by omega), place_7 _ (by omega) (by omega)]; rfl
  rw [if_neg k3]
  have e3 : (if op ≥ 5 then rv_bits.j0 (k + 3) op v (decide (op ≤ 10)) else rv_bits.j0 (k + 3) op v false) = rv_bits.j0 (k + 3) op v false := by
    split
    · rw [decide_eq_false (by omega)]
    · rfl
  rw [e3]
  simp only [rv_bits.j0, Bool.false_eq_true, if_false]
  by_cases k4 : 16 ≤ op ∧ op ≤ 18
  · rw [if_pos k4, if_pos k4.1, decide_eq_true k4.2]
    simp only [rv_bits.j1, if_true]
    rw [a6, a7, place_25 _ (by omega) (by omega), place_7 _ (by omega) (by omega)]; rfl
  rw [if_neg k4]
  have e4 : (if op ≥ 16 then rv_bits.j1 (k + 2) op v (decide (op ≤ 18)) else rv_bits.j1 (k + 2) op v false) = rv_bits.j1 (k + 2) op v false := by
    split
    · rw [decide_eq_false (by omega)]
    · rfl
  rw [e4]
  simp only [rv_bits.j1, Bool.false_eq_true, if_false]
  by_cases k5 : 25 ≤ op ∧ op ≤ 27
  · rw [if_pos k5, if_pos k5.1, decide_eq_true k5.2]
    simp only [rv_bits.j2, if_true]
    rw [a7, place_20 _ (by omega) (by omega)]; rfl
  rw [if_neg k5]
  have e5 : (if op ≥ 25 then rv_bits.j2 (k + 1) op v (decide (op ≤ 27)) else rv_bits.j2 (k + 1) op v false) = rv_bits.j2 (k + 1) op v false := by
    split
    · rw [decide_eq_false (by omega)]
    · rfl
  rw [e5]
  simp only [rv_bits.j2, Bool.false_eq_true, if_false]
  by_cases k6 : 28 ≤ op
  · rw [if_pos k6, if_pos k6]
  rw [if_neg k6, if_neg k6, a8, place_20 _ (by omega) (by omega)]; rfl
theorem or_fields (o d f s t p : Int) (ho0 : 0 ≤ o) (ho1 : o < 128) (hd0 : 0 ≤ d) (hd1 : d < 32) (hf0 : 0 ≤ f) (hf1 : f < 8) (hs0 : 0 ≤ s) (hs1 : s < 32) (ht0 : 0 ≤ t) (ht1 : t < 32) (hp0 : 0 ≤ p) (hp1 : p < 128) :
    Go.bits .or .u32 (Go.bits .or .u32 (Go.bits .or .u32 (Go.bits .or .u32 (Go.bits .or .u32 (o * 1) (d * 128)) (f * 4096)) (s * 32768)) (t * 1048576)) (p * 33554432) = wd o d f s t p := by
  rw [or_mid 7 12 (by decide) (o * 1) (d * 128) (by omega) (by omega) (by omega) (by omega) (by omega) (by omega) (by omega), or_mid 12 15 (by decide) (o * 1 + d * 128) (f * 4096) (by omega) (by omega) (by omega) (by omega) (by omega) (by omega) (by omega), or_mid 15 20 (by decide) (o * 1 + d * 128 + f * 4096) (s * 32768) (by omega) (by omega) (by omega) (by omega) (by omega) (by omega) (by omega),
    or_mid 20 25 (by decide) (o * 1 + d * 128 + f * 4096 + s * 32768) (t * 1048576) (by omega) (by omega) (by omega) (by omega) (by omega) (by omega) (by omega), or_mid 25 32 (by decide) (o * 1 + d * 128 + f * 4096 + s * 32768 + t * 1048576) (p * 33554432) (by omega) (by omega) (by omega) (by omega) (by omega) (by omega) (by omega)]
  unfold wd
  omega
/-- Where the instruction may be, its parts or'd are its word. -/
theorem or_word (n : Nat) (a b c v : Int) (n1 : 1 ≤ n) (n2 : n ≤ 45) (h : okI (n : Int) a b c v) :
    Go.bits .or .u32 (wd (formN n).1 a (formN n).2.1 b c (formN n).2.2) (bitsI (n : Int) v) = encI (n : Int) a b c v := by
  obtain ⟨h1, h2, a0, a1, b0, b1, c0, c1, h⟩ := h
  have hn : ((n : Nat) : Int).toNat = n := by omega
  obtain ⟨hb1, hb2, hb3, hb4, hb5, hb6⟩ := form_bounds n (by omega)
  unfold encI bitsI
  rw [hn]
  by_cases k1 : (n : Int) ≤ 2
  · rw [if_pos k1, if_pos k1, form_low n (by omega), form_up n (by omega)]
    obtain ⟨_, rfl, rfl, hv, hv0, hv1⟩ : (n : Int) ≤ 2 ∧ b = 0 ∧ c = 0 ∧ v % 4096 = 0 ∧ -2147483648 ≤ v ∧ v < 2147483648 := by omega
    generalize (formN n).1 = o at *
    unfold wd
    rw [or_mid 12 32 (by decide) _ _ (by omega) (by omega) (by omega) (by omega) (by omega) (by omega) (by omega)]
    omega
  rw [if_neg k1, if_neg k1]
  by_cases k2 : (n : Int) = 3
  · rw [if_pos k2, if_pos k2, form_low n (by omega), form_up n (by omega)]
    obtain ⟨_, rfl, rfl, hv0, hv1, hv⟩ : (n : Int) = 3 ∧ b = 0 ∧ c = 0 ∧ -1048576 ≤ v ∧ v < 1048576 ∧ v % 2 = 0 := by omega
    generalize (formN n).1 = o at *
    rw [or_mid 21 31 (by decide) (v / 1048576 % 2 * 2147483648) (v / 2 % 1024 * 2097152) (by omega) (by omega) (by omega) (by omega) (by omega) (by omega) (by omega), or_mid 20 21 (by decide) (v / 1048576 % 2 * 2147483648 + v / 2 % 1024 * 2097152) (v / 2048 % 2 * 1048576) (by omega) (by omega) (by omega) (by omega) (by omega) (by omega) (by omega),
      or_mid 12 20 (by decide) (v / 1048576 % 2 * 2147483648 + v / 2 % 1024 * 2097152 + v / 2048 % 2 * 1048576) (v / 4096 % 256 * 4096) (by omega) (by omega) (by omega) (by omega) (by omega) (by omega) (by omega)]
    unfold wd
    rw [or_mid 12 32 (by decide) _ _ (by omega) (by omega) (by omega) (by omega) (by omega) (by omega) (by omega)]
    clear h hb1 hb2 hb3 hb4 hb5 hb6
    omega
  rw [if_neg k2, if_neg k2]
  by_cases k3 : (n : Int) = 4 ∨ 11 ≤ (n : Int) ∧ (n : Int) ≤ 15 ∨ 19 ≤ (n : Int) ∧ (n : Int) ≤ 24
  · rw [if_pos k3, if_neg (by omega), if_neg (by omega), if_neg (by omega), if_neg (by omega), form_low n (by omega)]
    obtain ⟨rfl, hv0, hv1⟩ : c = 0 ∧ -2048 ≤ v ∧ v < 2048 := by omega
    generalize (formN n).1 = o at *
    generalize (formN n).2.1 = f at *
    unfold wd
    rw [or_mid 20 32 (by decide) _ _ (by omega) (by omega) (by omega) (by omega) (by omega) (by omega) (by omega)]
    clear h
    omega
  rw [if_neg k3]
  by_cases k4 : (n : Int) ≤ 10
  · rw [if_pos k4, if_pos (by omega), form_low n (by omega)]
    obtain ⟨rfl, hv0, hv1, hv⟩ : a = 0 ∧ -4096 ≤ v ∧ v < 4096 ∧ v % 2 = 0 := by omega
    generalize (formN n).1 = o at *
    generalize (formN n).2.1 = f at *
    clear h k1 k2 k3 k4
    have r1 := or_range (v / 4096 % 2 * 2147483648) (v / 32 % 64 * 33554432)
    have r2 := or_range (Go.bits .or .u32 (v / 4096 % 2 * 2147483648) (v / 32 % 64 * 33554432)) (v / 2 % 16 * 256)
    obtain ⟨w0, w1, _, _, _, _, _, _⟩ := wd_parts o 0 f b c 0 hb1 hb2 (by omega) (by omega) hb3 hb4 b0 b1 c0 c1 (by omega) (by omega)
    rw [or_assoc_u32 _ _ _ w0 w1 r2.1 r2.2 (by omega) (by omega), or_assoc_u32 _ _ _ w0 w1 r1.1 r1.2 (by omega) (by omega), or_assoc_u32 _ _ _ w0 w1 (by omega) (by omega) (by omega) (by omega)]
    clear r1 r2 w0 w1
    unfold wd
    generalize hx1 : v / 4096 % 2 = x1
    generalize hx2 : v / 32 % 64 = x2
    generalize hx3 : v / 2 % 16 = x3
    generalize hx4 : v / 2048 % 2 = x4
    have y1 : 0 ≤ x1 ∧ x1 < 2 := by omega
    have y2 : 0 ≤ x2 ∧ x2 < 64 := by omega
    have y3 : 0 ≤ x3 ∧ x3 < 16 := by omega
    have y4 : 0 ≤ x4 ∧ x4 < 2 := by omega
    clear hx1 hx2 hx3 hx4 hv hv0 hv1 hb5 hb6 a0 a1
    rw [or_mid 31 32 (by decide) (o + 128 * 0 + 4096 * f + 32768 * b + 1048576 * c + 33554432 * 0) (x1 * 2147483648) (by omega) (by omega) (by omega) (by omega) (by omega) (by omega) (by omega), or_mid 25 31 (by decide) (o + 128 * 0 + 4096 * f + 32768 * b + 1048576 * c + 33554432 * 0 + x1 * 2147483648) (x2 * 33554432) (by omega) (by omega) (by omega) (by omega) (by omega) (by omega) (by omega),
      or_mid 8 12 (by decide) (o + 128 * 0 + 4096 * f + 32768 * b + 1048576 * c + 33554432 * 0 + x1 * 2147483648 + x2 * 33554432) (x3 * 256) (by omega) (by omega) (by omega) (by omega) (by omega) (by omega) (by omega), or_mid 7 8 (by decide) (o + 128 * 0 + 4096 * f + 32768 * b + 1048576 * c + 33554432 * 0 + x1 * 2147483648 + x2 * 33554432 + x3 * 256) (x4 * 128) (by omega) (by omega) (by omega) (by omega) (by omega) (by omega) (by omega)]
    omega
  rw [if_neg k4, if_neg (show ¬ (5 ≤ (n : Int) ∧ (n : Int) ≤ 10) by omega)]
  by_cases k5 : (n : Int) ≤ 18
  · rw [if_pos k5, if_pos (by omega), form_low n (by omega)]
    obtain ⟨rfl, hv0, hv1⟩ : a = 0 ∧ -2048 ≤ v ∧ v < 2048 := by omega
    generalize (formN n).1 = o at *
    generalize (formN n).2.1 = f at *
    clear h k1 k2 k3 k4 k5
    obtain ⟨w0, w1, _, _, _, _, _, _⟩ := wd_parts o 0 f b c 0 hb1 hb2 (by omega) (by omega) hb3 hb4 b0 b1 c0 c1 (by omega) (by omega)
    rw [or_assoc_u32 _ _ _ w0 w1 (by omega) (by omega) (by omega) (by omega)]
    clear w0 w1
    unfold wd
    generalize hx1 : v / 32 % 128 = x1
    generalize hx2 : v % 32 = x2
    have y1 : 0 ≤ x1 ∧ x1 < 128 := by omega
    have y2 : 0 ≤ x2 ∧ x2 < 32 := by omega
    clear hx1 hx2 hv0 hv1 hb5 hb6 a0 a1
    rw [or_mid 25 32 (by decide) (o + 128 * 0 + 4096 * f + 32768 * b + 1048576 * c + 33554432 * 0) (x1 * 33554432) (by omega) (by omega) (by omega) (by omega) (by omega) (by omega) (by omega), or_mid 7 12 (by decide) (o + 128 * 0 + 4096 * f + 32768 * b + 1048576 * c + 33554432 * 0 + x1 * 33554432) (x2 * 128) (by omega) (by omega) (by omega) (by omega) (by omega) (by omega) (by omega)]
    omega
  rw [if_neg k5, if_neg (show ¬ (16 ≤ (n : Int) ∧ (n : Int) ≤ 18) by omega)]
  by_cases k6 : (n : Int) ≤ 27
  · rw [if_pos k6, if_pos (by omega)]
    obtain ⟨rfl, hv0, hv1⟩ : c = 0 ∧ 0 ≤ v ∧ v < 32 := by omega
    generalize (formN n).1 = o at *
    generalize (formN n).2.1 = f at *
    generalize (formN n).2.2 = p at *
    clear h k1 k2 k3 k4 k5
    unfold wd
    rw [or_mid 20 25 (by decide) _ _ (by omega) (by omega) (by omega) (by omega) (by omega) (by omega) (by omega)]
    omega
  rw [if_neg k6, if_neg (show ¬ (25 ≤ (n : Int) ∧ (n : Int) ≤ 27) by omega), if_pos (by omega), if_pos (by omega)]
  generalize (formN n).1 = o at *
  generalize (formN n).2.1 = f at *
  generalize (formN n).2.2 = p at *
  clear h k1 k2 k3 k4 k5
  unfold wd
  rw [or_mid 32 32 (by decide) _ 0 (by omega) (by omega) (by omega) (by omega) (by omega) (by omega) (by omega)]
  omega
theorem dec_eq_ok (w op a b c v : Int) (h0 : 0 ≤ w) (h1 : w < 4294967296) (hn : op ≠ 0) (h : dec w = (op, a, b, c, v)) : okI op a b c v := by
  have e : opW w = op := by rw [← dec_op, h]
  have := dec_ok w h0 h1 (by rw [e]; exact hn)
  rw [h] at this
  exact this
def cmpB (x : Int × Int × Int × Int × Int) (op a b c v : Int) : Bool := !(x.1 == op) || (!(x.2.1 == a) || (!(x.2.2.1 == b) || (!(x.2.2.2.1 == c) || (!(x.2.2.2.2 == v)))))
theorem cmp_true (x : Int × Int × Int × Int × Int) (op a b c v : Int) : cmpB x op a b c v = true ↔ x ≠ (op, a, b, c, v) := by
  obtain ⟨x1, x2, x3, x4, x5⟩ := x
  unfold cmpB
  simp only [Bool.or_eq_true, Bool.not_eq_true', beq_eq_false_iff_ne, ne_eq, Prod.mk.injEq, not_and]
  constructor
  · rintro h h1 h2 h3 h4 h5
    rcases h with h | h | h | h | h <;> contradiction
  · intro h
    by_cases h1 : x1 = op
    · by_cases h2 : x2 = a
      · by_cases h3 : x3 = b
        · by_cases h4 : x4 = c
          · exact Or.inr (Or.inr (Or.inr (Or.inr (h h1 h2 h3 h4))))
          · exact Or.inr (Or.inr (Or.inr (Or.inl h4)))
        · exact Or.inr (Or.inr (Or.inl h3))
      · exact Or.inr (Or.inl h2)
    · exact Or.inl h1
theorem rest_dec (n : Nat) (h1 : n < 50) (h2 : 46 ≤ n) : 0 ≤ restL.getD (n - 46) 0 ∧ restL.getD (n - 46) 0 < 4294967296 ∧ dec (restL.getD (n - 46) 0) = ((n : Int), 0, 0, 0, 0) ∧ rv_whole.f (n : Int) = some (restL.getD (n - 46) 0, true) := by
  have hc : n = 46 ∨ n = 47 ∨ n = 48 ∨ n = 49 := by omega
  rcases hc with rfl | rfl | rfl | rfl
  all_goals exact ⟨by decide +kernel, by decide +kernel, by decide +kernel, by decide +kernel⟩
/-- What Encode answers. -/
theorem encode_at (k : Nat) (op a b c v : Int) (hv0 : -2147483648 ≤ v) (hv1 : v < 2147483648) :
    rv_Encode.f (k + 5) op a b c v = some (if okI op a b c v then (encI op a b c v, 0) else (0, 1)) := by
  unfold rv_Encode.f
  by_cases hr : 46 ≤ op ∧ op ≤ 49
  · obtain ⟨n, rfl⟩ : ∃ n : Nat, op = (n : Int) := ⟨op.toNat, by omega⟩
    obtain ⟨w0, w1, hd, hw⟩ := rest_dec n (by omega) (by omega)
    have hn : ((n : Nat) : Int).toNat = n := by omega
    have he : encI (n : Int) a b c v = restL.getD (n - 46) 0 := by
      unfold encI
      rw [if_neg (by omega), if_neg (by omega), if_neg (by omega), if_neg (by omega), if_neg (by omega), if_neg (by omega), if_neg (by omega), hn]
    rw [hw, he]
    simp only [Option.bind_some, if_true]
    rw [show k + 5 = (k + 1) + 4 by omega, decode_at _ _ w0 w1, hd]
    simp only [Option.bind_some]
    by_cases hok : okI (n : Int) a b c v
    · rw [if_pos hok]
      obtain ⟨_, _, _, _, _, _, _, _, h⟩ := hok
      obtain ⟨rfl, rfl, rfl, rfl⟩ : a = 0 ∧ b = 0 ∧ c = 0 ∧ v = 0 := by omega
      simp
    · rw [if_neg hok, if_pos]
      have : cmpB ((n : Int), 0, 0, 0, 0) (n : Int) a b c v = true := by
        rw [cmp_true]
        intro h
        simp only [Prod.mk.injEq] at h
        obtain ⟨_, rfl, rfl, rfl, rfl⟩ := h
        apply hok
        unfold okI
        omega
      exact this
  have hw : rv_whole.f op = some (0, false) := by
    unfold rv_whole.f
    rw [if_neg (by omega), if_neg (by omega), if_neg (by omega), if_neg (by omega)]
  rw [hw]
  simp only [Option.bind_some, Bool.false_eq_true, if_false]
  by_cases c1 : op < 1
  · rw [if_pos c1, if_neg (show ¬ okI op a b c v by unfold okI; omega)]
    simp only [rv_Encode.j0, if_true]
  rw [if_neg c1]
  by_cases c2 : op > 45
  · rw [if_pos c2, if_neg (show ¬ okI op a b c v by unfold okI; omega)]
    simp only [rv_Encode.j0, if_true]
  rw [if_neg c2, show k + 5 = (k + 1) + 4 by omega, regs_at]
  simp only [Option.bind_some]
  by_cases hg : 0 ≤ a ∧ a < 32 ∧ 0 ≤ b ∧ b < 32 ∧ 0 ≤ c ∧ c < 32
  · rw [decide_eq_true hg]
    obtain ⟨a0, a1, b0, b1, c0, c1'⟩ := hg
    obtain ⟨n, rfl⟩ : ∃ n : Nat, op = (n : Int) := ⟨op.toNat, by omega⟩
    obtain ⟨hb1, hb2, hb3, hb4, hb5, hb6⟩ := form_bounds n (by omega)
    simp only [rv_Encode.j0, Bool.not_true, Bool.false_eq_true, if_false]
    rw [code_at n (by omega) (by omega)]
    simp only [Option.bind_some]
    rw [place_0 _ hb1 (by omega), place_7 _ a0 (by omega), place_12 _ hb3 (by omega), place_15 _ b0 (by omega), place_20 _ c0 (by omega), place_25 _ hb5 (by omega), show k + 4 = (k + 1) + 3 by omega, bits_at _ _ _ hv0 hv1]
    simp only [Option.bind_some]
    rw [or_fields _ _ _ _ _ _ hb1 hb2 a0 a1 hb3 hb4 b0 b1 c0 c1' hb5 hb6]
    have hr2 := or_range (wd (formN n).1 a (formN n).2.1 b c (formN n).2.2) (bitsI (n : Int) v)
    rw [show k + 1 + 3 = k + 4 by omega, decode_at k _ hr2.1 hr2.2]
    simp only [Option.bind_some]
    by_cases hok : okI (n : Int) a b c v
    · rw [if_pos hok, or_word n a b c v (by omega) (by omega) hok, (dec_enc _ _ _ _ _ hok).2.2]
      simp
    · rw [if_neg hok, if_pos]
      have : cmpB (dec (Go.bits .or .u32 (wd (formN n).1 a (formN n).2.1 b c (formN n).2.2) (bitsI (n : Int) v))) (n : Int) a b c v = true := by
        rw [cmp_true]
        intro h
        exact hok (dec_eq_ok _ _ _ _ _ _ hr2.1 hr2.2 (by omega) h)
      exact this
  · rw [decide_eq_false hg, if_neg (show ¬ okI op a b c v by unfold okI; omega)]
    simp only [rv_Encode.j0, Bool.not_false, if_true]
end Go.Proofs.YtmgbidehdnmjkaaDoor.Rv
