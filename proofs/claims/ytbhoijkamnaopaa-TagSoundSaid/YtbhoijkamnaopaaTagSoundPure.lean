/- No label is lost: numbers that agree where they bear no label come to numbers that do. -/
import Derived.Test.YtbhoijkamnaopaaTagLaws
import Derived.Test.YtbhoijkamnaopaaTagMix
import Derived.Laws.BitsAllLaws
namespace Go.Proofs.Ytbhoijkamnaopaa.Tag
open Go Go.RowKit Go.Proofs.Ytbhoijkamnaopaa
set_option linter.unusedVariables false
set_option linter.unusedSimpArgs false
theorem byI_nat (m : Nat) (hm : m < 4294967296) (i : Nat) (hi : i < 4) : byI (m : Int) i = ((m / 2 ^ (8 * i) % 2 ^ 8 : Nat) : Int) := by
  rcases (by omega : i = 0 ∨ i = 1 ∨ i = 2 ∨ i = 3) with rfl | rfl | rfl | rfl
  · show (m : Int) % 256 = ((m / 1 % 256 : Nat) : Int); omega
  · show (m : Int) / 256 % 256 = ((m / 256 % 256 : Nat) : Int); omega
  · show (m : Int) / 65536 % 256 = ((m / 65536 % 256 : Nat) : Int); omega
  · show (m : Int) / 16777216 = ((m / 16777216 % 256 : Nat) : Int); omega
theorem byte_of {m n i : Nat} (hm : m < 4294967296) (hn : n < 4294967296) (hi : i < 4) (h : ∀ j, j / 8 = i → m.testBit j = n.testBit j) : byI (m : Int) i = byI (n : Int) i := by
  rw [byI_nat m hm i hi, byI_nat n hn i hi]
  congr 1
  apply Nat.eq_of_testBit_eq
  intro t
  rw [Nat.testBit_mod_two_pow, Nat.testBit_mod_two_pow, Nat.testBit_div_two_pow, Nat.testBit_div_two_pow]
  by_cases ht : t < 8
  · rw [h _ (by omega)]
  · simp [ht]
theorem of_byte {m n i : Nat} (hm : m < 4294967296) (hn : n < 4294967296) (hi : i < 4) (h : byI (m : Int) i = byI (n : Int) i) (j : Nat) (hj : j / 8 = i) : m.testBit j = n.testBit j := by
  rw [byI_nat m hm i hi, byI_nat n hn i hi] at h
  have h2 : m / 2 ^ (8 * i) % 2 ^ 8 = n / 2 ^ (8 * i) % 2 ^ 8 := by omega
  have h3 := congrArg (fun x => Nat.testBit x (j - 8 * i)) h2
  simp only [Nat.testBit_mod_two_pow, Nat.testBit_div_two_pow] at h3
  have e : j - 8 * i + 8 * i = j := by omega
  rw [e] at h3
  simpa [show j - 8 * i < 8 by omega] using h3
/-- Two numbers that are alike where no label of L is borne. -/
def Agr (f : TF) (L : BitVec 8) (A X : Nat) : Prop := ∀ i, i < 4 → f i &&& L = 0 → ∀ j, j / 8 = i → A.testBit j = X.testBit j
theorem and8_iv (x y : BitVec 8) : bits .and .u8 (iv x) (iv y) = iv (x &&& y) := by
  unfold iv
  show IntKind.u8.wrap ((BitVec.ofInt 8 (x.toNat : Int) &&& BitVec.ofInt 8 (y.toNat : Int)).toNat : Int) = _
  rw [BitVec.ofInt_natCast, BitVec.ofInt_natCast, BitVec.ofNat_toNat, BitVec.ofNat_toNat, BitVec.setWidth_eq, BitVec.setWidth_eq]
  have := (x &&& y).isLt
  simp only [IntKind.wrap_u8]
  omega
theorem and_zero {x y L : BitVec 8} (h : ∀ j, x.getLsbD j = true → y.getLsbD j = true) (hy : y &&& L = 0) : x &&& L = 0 := by
  refine bitsEq (fun j => ?_)
  have h1 : (y &&& L).getLsbD j = false := by rw [hy]; exact zero_bit j
  rw [zero_bit, BitVec.getLsbD_and]
  rw [BitVec.getLsbD_and] at h1
  cases hx : x.getLsbD j
  · rfl
  · rw [h j hx] at h1; simpa using h1
theorem or_zero_l {x y L : BitVec 8} (h : (x ||| y) &&& L = 0) : x &&& L = 0 := and_zero (fun j hx => by rw [BitVec.getLsbD_or, hx]; rfl) h
theorem or_zero_r {x y L : BitVec 8} (h : (x ||| y) &&& L = 0) : y &&& L = 0 := and_zero (fun j hx => by rw [BitVec.getLsbD_or, hx, Bool.or_true]) h
theorem all_zero {f : TF} {L : BitVec 8} (h : allF f &&& L = 0) (i : Nat) (hi : i < 4) : f i &&& L = 0 := and_zero (fun j hx => sub_all hi hx) h
theorem pick_iv (s L : BitVec 8) (A C : Nat) : pickI (iv s) (iv L) (A : Int) (C : Int) = ((if s &&& L = 0 then A else C : Nat) : Int) := by
  unfold pickI
  rw [and8_iv]
  by_cases h : s &&& L = 0
  · rw [if_pos (iv_zero.2 h), if_pos h]
  · rw [if_neg (fun hh => h (iv_zero.1 hh)), if_neg h]
theorem msk (j : Nat) (hj : j < 32) : Nat.testBit 255 j = decide (j / 8 = 0) ∧ Nat.testBit 65280 j = decide (j / 8 = 1) ∧ Nat.testBit 16711680 j = decide (j / 8 = 2) ∧ Nat.testBit 4278190080 j = decide (j / 8 = 3) := by
  have : ∀ j, j < 32 → Nat.testBit 255 j = decide (j / 8 = 0) ∧ Nat.testBit 65280 j = decide (j / 8 = 1) ∧ Nat.testBit 16711680 j = decide (j / 8 = 2) ∧ Nat.testBit 4278190080 j = decide (j / 8 = 3) := by decide +kernel
  exact this j hj
theorem or_lt {a b : Nat} (ha : a < 4294967296) (hb : b < 4294967296) : a ||| b < 4294967296 := Nat.or_lt_two_pow (n := 32) ha hb
theorem and_lt {a b : Nat} (hb : b < 4294967296) : a &&& b < 4294967296 := Nat.and_lt_two_pow (n := 32) _ hb
theorem mix_agr (A C : Nat) (hA : A < 4294967296) (hC : C < 4294967296) (f : TF) (L : BitVec 8) : ∃ X : Nat, X < 4294967296 ∧ mixA (A : Int) (C : Int) (iv L) (ofF f) 4 = (X : Int) ∧ Agr f L A X := by
  have hP : ∀ q, (if f q &&& L = 0 then A else C) < 4294967296 := fun q => by split <;> assumption
  have hm : ∀ (v P M : Nat), v < 4294967296 → P < 4294967296 → M < 4294967296 → bits .or .u32 (v : Int) (bits .and .u32 (P : Int) (M : Int)) = ((v ||| (P &&& M) : Nat) : Int) := fun v P M h1 h2 h3 => by
    rw [u32_and_nat P M h2 h3, u32_or_nat v _ h1 (and_lt h3)]
  refine ⟨(((0 ||| ((if f 0 &&& L = 0 then A else C) &&& 255)) ||| ((if f 1 &&& L = 0 then A else C) &&& 65280)) ||| ((if f 2 &&& L = 0 then A else C) &&& 16711680)) ||| ((if f 3 &&& L = 0 then A else C) &&& 4278190080), ?_, ?_, ?_⟩
  · exact or_lt (or_lt (or_lt (or_lt (by decide) (and_lt (by decide))) (and_lt (by decide))) (and_lt (by decide))) (and_lt (by decide))
  · show bits .or .u32 (bits .or .u32 (bits .or .u32 (bits .or .u32 ((0 : Nat) : Int) (bits .and .u32 (pickI (iv (f 0)) (iv L) A C) ((255 : Nat) : Int))) (bits .and .u32 (pickI (iv (f 1)) (iv L) A C) ((65280 : Nat) : Int))) (bits .and .u32 (pickI (iv (f 2)) (iv L) A C) ((16711680 : Nat) : Int))) (bits .and .u32 (pickI (iv (f 3)) (iv L) A C) ((4278190080 : Nat) : Int)) = _
    rw [pick_iv, pick_iv, pick_iv, pick_iv]
    have b0 := and_lt (a := if f 0 &&& L = 0 then A else C) (b := 255) (by decide)
    have b1 := and_lt (a := if f 1 &&& L = 0 then A else C) (b := 65280) (by decide)
    have b2 := and_lt (a := if f 2 &&& L = 0 then A else C) (b := 16711680) (by decide)
    rw [hm 0 _ 255 (by decide) (hP 0) (by decide), hm _ _ 65280 (or_lt (by decide) b0) (hP 1) (by decide), hm _ _ 16711680 (or_lt (or_lt (by decide) b0) b1) (hP 2) (by decide), hm _ _ 4278190080 (or_lt (or_lt (or_lt (by decide) b0) b1) b2) (hP 3) (by decide)]
  · intro i hi h0 j hj
    obtain ⟨m0, m1, m2, m3⟩ := msk j (by omega)
    simp only [Nat.testBit_or, Nat.testBit_and, Nat.zero_testBit, m0, m1, m2, m3, hj, Bool.false_or]
    rcases (by omega : i = 0 ∨ i = 1 ∨ i = 2 ∨ i = 3) with rfl | rfl | rfl | rfl <;> simp [h0]
theorem hi_bit {x t : Nat} (hx : x < 4294967296) (ht : 32 ≤ t) : x.testBit t = false :=
  Nat.testBit_lt_two_pow (Nat.lt_of_lt_of_le hx (Nat.pow_le_pow_right (n := 2) (by decide) ht))
theorem agr_all {f : TF} {L : BitVec 8} {A X : Nat} (hA : A < 4294967296) (hX : X < 4294967296) (h : Agr f L A X) (h0 : allF f &&& L = 0) : A = X := by
  apply Nat.eq_of_testBit_eq
  intro t
  by_cases ht : t < 32
  · exact h (t / 8) (by omega) (all_zero h0 _ (by omega)) t rfl
  · rw [hi_bit hA (by omega), hi_bit hX (by omega)]
theorem agr_byte {f : TF} {L : BitVec 8} {A X i : Nat} (hA : A < 4294967296) (hX : X < 4294967296) (h : Agr f L A X) (hi : i < 4) (h0 : f i &&& L = 0) : byI (A : Int) i = byI (X : Int) i := byte_of hA hX hi (h i hi h0)
/-- The lowest bytes, all without a label: the numbers are alike modulo their size. -/
theorem agr_low {f : TF} {L : BitVec 8} {A X i : Nat} (h : Agr f L A X) (hi : i < 4) (h0 : ∀ p, p ≤ i → f p &&& L = 0) : A % 2 ^ (8 * (i + 1)) = X % 2 ^ (8 * (i + 1)) := by
  apply Nat.eq_of_testBit_eq
  intro t
  rw [Nat.testBit_mod_two_pow, Nat.testBit_mod_two_pow]
  by_cases ht : t < 8 * (i + 1)
  · rw [h (t / 8) (by omega) (h0 _ (by omega)) t rfl]
  · simp [ht]
theorem low_byte {p q i : Nat} (hi : i < 4) (h : p % 2 ^ (8 * (i + 1)) = q % 2 ^ (8 * (i + 1))) : byI ((p % 4294967296 : Nat) : Int) i = byI ((q % 4294967296 : Nat) : Int) i := by
  refine byte_of (Nat.mod_lt _ (by decide)) (Nat.mod_lt _ (by decide)) hi (fun j hj => ?_)
  have h2 := congrArg (fun x => Nat.testBit x j) h
  simp only [Nat.testBit_mod_two_pow, show j < 8 * (i + 1) by omega, decide_true, Bool.true_and] at h2
  rw [show (4294967296 : Nat) = 2 ^ 32 from rfl, Nat.testBit_mod_two_pow, Nat.testBit_mod_two_pow, h2]
end Go.Proofs.Ytbhoijkamnaopaa.Tag
