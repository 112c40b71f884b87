/- The laws over Flow's labels, bit by bit. -/
import Derived.Test.YtbhoijkamnaopaaTagFlow
namespace Go.Proofs.Ytbhoijkamnaopaa.Tag
open Go Go.RowKit Go.Proofs.Ytbhoijkamnaopaa
set_option linter.unusedVariables false
set_option linter.unusedSimpArgs false
theorem or8_eq (x y : BitVec 8) : bits .or .u8 (iv x) (iv y) = iv (x ||| y) := or8_iv x y
theorem andNot_iv (x y : BitVec 8) : bits .andNot .u8 (iv x) (iv y) = iv (x &&& ~~~y) := by
  unfold iv
  show IntKind.u8.wrap ((BitVec.ofInt 8 (x.toNat : Int) &&& ~~~ BitVec.ofInt 8 (y.toNat : Int)).toNat : Int) = _
  rw [BitVec.ofInt_natCast, BitVec.ofInt_natCast, BitVec.ofNat_toNat, BitVec.ofNat_toNat, BitVec.setWidth_eq, BitVec.setWidth_eq]
  have := (x &&& ~~~y).isLt
  simp only [IntKind.wrap_u8]
  omega
theorem sub_and {x y : BitVec 8} (h : ∀ j, x.getLsbD j = true → y.getLsbD j = true) : x &&& ~~~y = 0 := by
  refine bitsEq (fun j => ?_)
  have h0 : (0 : BitVec 8).getLsbD j = false := BitVec.getLsbD_zero
  rw [h0, BitVec.getLsbD_and, BitVec.getLsbD_not]
  cases hx : x.getLsbD j
  · rfl
  · rw [h j hx]; simp
theorem zero_bit (j : Nat) : (0 : BitVec 8).getLsbD j = false := BitVec.getLsbD_zero
theorem src_lt {kind n : Int} {p : Nat} (h : 0 ≤ srcI kind (p : Int) n ∧ srcI kind (p : Int) n < 32) : (srcI kind (p : Int) n / 8).toNat < 4 := by omega
theorem all2 {f g : TF} {j q : Nat} (hq : q < 4) (h : (f q).getLsbD j = true ∨ (g q).getLsbD j = true) : (allF f ||| allF g).getLsbD j = true := by
  rw [BitVec.getLsbD_or, Bool.or_eq_true]
  exact h.imp (sub_all hq) (sub_all hq)
theorem up_bit {f : TF} {q j : Nat} (hq : q < 4) : (upF f q).getLsbD j = true ↔ ∃ p, p ≤ q ∧ (f p).getLsbD j = true := by
  rcases (by omega : q = 0 ∨ q = 1 ∨ q = 2 ∨ q = 3) with rfl | rfl | rfl | rfl
  all_goals
    simp only [upF, BitVec.getLsbD_or, Bool.or_eq_true]
    constructor
  · intro h; exact ⟨0, by omega, h⟩
  · rintro ⟨p, hp, h⟩
    obtain rfl : p = 0 := by omega
    exact h
  · rintro (h | h)
    · exact ⟨1, by omega, h⟩
    · exact ⟨0, by omega, h⟩
  · rintro ⟨p, hp, h⟩
    rcases (by omega : p = 0 ∨ p = 1) with rfl | rfl
    · exact .inr h
    · exact .inl h
  · rintro (h | h | h)
    · exact ⟨2, by omega, h⟩
    · exact ⟨1, by omega, h⟩
    · exact ⟨0, by omega, h⟩
  · rintro ⟨p, hp, h⟩
    rcases (by omega : p = 0 ∨ p = 1 ∨ p = 2) with rfl | rfl | rfl
    · exact .inr (.inr h)
    · exact .inr (.inl h)
    · exact .inl h
  · rintro (h | h | h | h)
    · exact ⟨3, by omega, h⟩
    · exact ⟨2, by omega, h⟩
    · exact ⟨1, by omega, h⟩
    · exact ⟨0, by omega, h⟩
  · rintro ⟨p, hp, h⟩
    rcases (by omega : p = 0 ∨ p = 1 ∨ p = 2 ∨ p = 3) with rfl | rfl | rfl | rfl
    · exact .inr (.inr (.inr h))
    · exact .inr (.inr (.inl h))
    · exact .inr (.inl h)
    · exact .inl h
/-- No label comes out that did not go in. -/
theorem flow_in (kind a b : Int) (f g : TF) (q j : Nat) (hq : q < 4) (h : (flowF kind a b f g q).getLsbD j = true) : (allF f ||| allF g).getLsbD j = true := by
  unfold flowF at h
  split at h
  · simp only [joinF, BitVec.getLsbD_or, Bool.or_eq_true] at h
    exact all2 hq h
  split at h
  · simp only [mF] at h
    split at h
    · rw [zero_bit] at h; cases h
    · rw [BitVec.getLsbD_or, Bool.or_eq_true] at h
      exact all2 hq h
  split at h
  · obtain ⟨p, hp, h⟩ := (up_bit hq).1 h
    simp only [joinF, BitVec.getLsbD_or, Bool.or_eq_true] at h
    exact all2 (by omega) h
  split at h
  · split at h
    · obtain ⟨p, hp, hq2, hs, h⟩ := (shF_bit _ _ _ _ _ _).1 h
      exact all2 (src_lt hs) (.inl h)
    · rw [BitVec.getLsbD_or, Bool.or_eq_true] at h ⊢
      exact h.imp id (sub_all (by omega))
  split at h
  · dsimp only at h
    split at h
    · exact h
    · rw [zero_bit] at h; cases h
  split at h
  · exact h
  · rw [zero_bit] at h; cases h
theorem flow_sub (kind a b : Int) (f g : TF) (hb : 0 ≤ b) : allF (flowF kind a b f g) &&& ~~~(allF f ||| allF g) = 0 :=
  sub_and (fun j h => by obtain ⟨q, hq, h⟩ := all_bit.1 h; exact flow_in kind a b f g q j hq h)
theorem flow_none (kind a b : Int) : tagF (flowF kind a b (fun _ => 0) (fun _ => 0)) = tagF (fun _ => 0) := tagF_at (fun q hq => by
  refine bitsEq (fun j => ?_)
  rw [zero_bit]
  cases h : (flowF kind a b (fun _ => 0) (fun _ => 0) q).getLsbD j
  · rfl
  · have := flow_in kind a b _ _ q j hq h
    simp [allF] at this)
theorem flowF_sh {kind a b : Int} {f : TF} (h : kind = 2 ∨ kind = 6 ∨ kind = 7) : flowF kind a b f (fun _ => 0) = shF kind (b % 32) f 32 := by
  unfold flowF
  rw [if_neg (by omega), if_neg (by omega), if_neg (by omega), if_pos h, if_pos rfl]
/-- A shift by whole bytes: place q has byte r's labels. -/
theorem sh_byte {kind n : Int} {f : TF} {q r : Nat} (hq : q < 4) (h : ∀ p, q * 8 ≤ p → p < q * 8 + 8 → (0 ≤ srcI kind (p : Int) n ∧ srcI kind (p : Int) n < 32) ∧ (srcI kind (p : Int) n / 8).toNat = r) : shF kind n f 32 q = f r := by
  refine bitsEq (fun j => ?_)
  rw [Bool.eq_iff_iff, shF_bit]
  constructor
  · rintro ⟨p, h1, h2, h3, h4⟩
    rw [(h p (by omega) (by omega)).2] at h4
    exact h4
  · intro h4
    obtain ⟨h1, h2⟩ := h (q * 8) (by omega) (by omega)
    exact ⟨q * 8, by omega, by omega, h1, by rw [h2]; exact h4⟩
theorem sh_out_byte {kind n : Int} {f : TF} {q : Nat} (hq : q < 4) (h : ∀ p, q * 8 ≤ p → p < q * 8 + 8 → ¬ (0 ≤ srcI kind (p : Int) n ∧ srcI kind (p : Int) n < 32)) : shF kind n f 32 q = 0 := by
  refine bitsEq (fun j => ?_)
  rw [zero_bit]
  cases hh : (shF kind n f 32 q).getLsbD j
  · rfl
  · obtain ⟨p, h1, h2, h3, h4⟩ := (shF_bit _ _ _ _ _ _).1 hh
    exact absurd h3 (h p (by omega) (by omega))
theorem src2 (p n : Int) : srcI 2 p n = p - n := by unfold srcI; rw [if_pos rfl]
theorem src6 (p n : Int) : srcI 6 p n = p + n := by unfold srcI; rw [if_neg (by decide), if_neg (by decide)]
theorem src7 (p n : Int) : srcI 7 p n = if 31 < p + n then 31 else p + n := by unfold srcI; rw [if_neg (by decide), if_pos rfl]
theorem bits_up0 (x : Int) (f : TF) : tagF (flowF 2 x 0 f (fun _ => 0)) = .agg #[.int .u8 (iv (f 0)), .int .u8 (iv (f 1)), .int .u8 (iv (f 2)), .int .u8 (iv (f 3))] := by
  rw [flowF_sh (by omega), show (0 : Int) % 32 = 0 from by decide]
  have e0 : shF 2 0 f 32 0 = f 0 := sh_byte (by omega) (fun p h1 h2 => by rw [src2]; omega)
  have e1 : shF 2 0 f 32 1 = f 1 := sh_byte (by omega) (fun p h1 h2 => by rw [src2]; omega)
  have e2 : shF 2 0 f 32 2 = f 2 := sh_byte (by omega) (fun p h1 h2 => by rw [src2]; omega)
  have e3 : shF 2 0 f 32 3 = f 3 := sh_byte (by omega) (fun p h1 h2 => by rw [src2]; omega)
  show Value.agg #[.int .u8 (iv (shF 2 0 f 32 0)), .int .u8 (iv (shF 2 0 f 32 1)), .int .u8 (iv (shF 2 0 f 32 2)), .int .u8 (iv (shF 2 0 f 32 3))] = _
  rw [e0, e1, e2, e3]
theorem bits_dn0 (x : Int) (f : TF) : tagF (flowF 6 x 0 f (fun _ => 0)) = .agg #[.int .u8 (iv (f 0)), .int .u8 (iv (f 1)), .int .u8 (iv (f 2)), .int .u8 (iv (f 3))] := by
  rw [flowF_sh (by omega), show (0 : Int) % 32 = 0 from by decide]
  have e0 : shF 6 0 f 32 0 = f 0 := sh_byte (by omega) (fun p h1 h2 => by rw [src6]; omega)
  have e1 : shF 6 0 f 32 1 = f 1 := sh_byte (by omega) (fun p h1 h2 => by rw [src6]; omega)
  have e2 : shF 6 0 f 32 2 = f 2 := sh_byte (by omega) (fun p h1 h2 => by rw [src6]; omega)
  have e3 : shF 6 0 f 32 3 = f 3 := sh_byte (by omega) (fun p h1 h2 => by rw [src6]; omega)
  show Value.agg #[.int .u8 (iv (shF 6 0 f 32 0)), .int .u8 (iv (shF 6 0 f 32 1)), .int .u8 (iv (shF 6 0 f 32 2)), .int .u8 (iv (shF 6 0 f 32 3))] = _
  rw [e0, e1, e2, e3]
theorem bits_up1 (x : Int) (f : TF) : tagF (flowF 2 x 8 f (fun _ => 0)) = .agg #[.int .u8 0, .int .u8 (iv (f 0)), .int .u8 (iv (f 1)), .int .u8 (iv (f 2))] := by
  rw [flowF_sh (by omega), show (8 : Int) % 32 = 8 from by decide]
  have e0 : shF 2 8 f 32 0 = 0 := sh_out_byte (by omega) (fun p h1 h2 => by rw [src2]; omega)
  have e1 : shF 2 8 f 32 1 = f 0 := sh_byte (by omega) (fun p h1 h2 => by rw [src2]; omega)
  have e2 : shF 2 8 f 32 2 = f 1 := sh_byte (by omega) (fun p h1 h2 => by rw [src2]; omega)
  have e3 : shF 2 8 f 32 3 = f 2 := sh_byte (by omega) (fun p h1 h2 => by rw [src2]; omega)
  show Value.agg #[.int .u8 (iv (shF 2 8 f 32 0)), .int .u8 (iv (shF 2 8 f 32 1)), .int .u8 (iv (shF 2 8 f 32 2)), .int .u8 (iv (shF 2 8 f 32 3))] = _
  rw [e0, e1, e2, e3]
  rfl
theorem bits_dn1 (x : Int) (f : TF) : tagF (flowF 6 x 8 f (fun _ => 0)) = .agg #[.int .u8 (iv (f 1)), .int .u8 (iv (f 2)), .int .u8 (iv (f 3)), .int .u8 0] := by
  rw [flowF_sh (by omega), show (8 : Int) % 32 = 8 from by decide]
  have e0 : shF 6 8 f 32 0 = f 1 := sh_byte (by omega) (fun p h1 h2 => by rw [src6]; omega)
  have e1 : shF 6 8 f 32 1 = f 2 := sh_byte (by omega) (fun p h1 h2 => by rw [src6]; omega)
  have e2 : shF 6 8 f 32 2 = f 3 := sh_byte (by omega) (fun p h1 h2 => by rw [src6]; omega)
  have e3 : shF 6 8 f 32 3 = 0 := sh_out_byte (by omega) (fun p h1 h2 => by rw [src6]; omega)
  show Value.agg #[.int .u8 (iv (shF 6 8 f 32 0)), .int .u8 (iv (shF 6 8 f 32 1)), .int .u8 (iv (shF 6 8 f 32 2)), .int .u8 (iv (shF 6 8 f 32 3))] = _
  rw [e0, e1, e2, e3]
  rfl
theorem bits_up2 (x : Int) (f : TF) : tagF (flowF 2 x 16 f (fun _ => 0)) = .agg #[.int .u8 0, .int .u8 0, .int .u8 (iv (f 0)), .int .u8 (iv (f 1))] := by
  rw [flowF_sh (by omega), show (16 : Int) % 32 = 16 from by decide]
  have e0 : shF 2 16 f 32 0 = 0 := sh_out_byte (by omega) (fun p h1 h2 => by rw [src2]; omega)
  have e1 : shF 2 16 f 32 1 = 0 := sh_out_byte (by omega) (fun p h1 h2 => by rw [src2]; omega)
  have e2 : shF 2 16 f 32 2 = f 0 := sh_byte (by omega) (fun p h1 h2 => by rw [src2]; omega)
  have e3 : shF 2 16 f 32 3 = f 1 := sh_byte (by omega) (fun p h1 h2 => by rw [src2]; omega)
  show Value.agg #[.int .u8 (iv (shF 2 16 f 32 0)), .int .u8 (iv (shF 2 16 f 32 1)), .int .u8 (iv (shF 2 16 f 32 2)), .int .u8 (iv (shF 2 16 f 32 3))] = _
  rw [e0, e1, e2, e3]
  rfl
theorem bits_dn2 (x : Int) (f : TF) : tagF (flowF 6 x 16 f (fun _ => 0)) = .agg #[.int .u8 (iv (f 2)), .int .u8 (iv (f 3)), .int .u8 0, .int .u8 0] := by
  rw [flowF_sh (by omega), show (16 : Int) % 32 = 16 from by decide]
  have e0 : shF 6 16 f 32 0 = f 2 := sh_byte (by omega) (fun p h1 h2 => by rw [src6]; omega)
  have e1 : shF 6 16 f 32 1 = f 3 := sh_byte (by omega) (fun p h1 h2 => by rw [src6]; omega)
  have e2 : shF 6 16 f 32 2 = 0 := sh_out_byte (by omega) (fun p h1 h2 => by rw [src6]; omega)
  have e3 : shF 6 16 f 32 3 = 0 := sh_out_byte (by omega) (fun p h1 h2 => by rw [src6]; omega)
  show Value.agg #[.int .u8 (iv (shF 6 16 f 32 0)), .int .u8 (iv (shF 6 16 f 32 1)), .int .u8 (iv (shF 6 16 f 32 2)), .int .u8 (iv (shF 6 16 f 32 3))] = _
  rw [e0, e1, e2, e3]
  rfl
theorem bits_up3 (x : Int) (f : TF) : tagF (flowF 2 x 24 f (fun _ => 0)) = .agg #[.int .u8 0, .int .u8 0, .int .u8 0, .int .u8 (iv (f 0))] := by
  rw [flowF_sh (by omega), show (24 : Int) % 32 = 24 from by decide]
  have e0 : shF 2 24 f 32 0 = 0 := sh_out_byte (by omega) (fun p h1 h2 => by rw [src2]; omega)
  have e1 : shF 2 24 f 32 1 = 0 := sh_out_byte (by omega) (fun p h1 h2 => by rw [src2]; omega)
  have e2 : shF 2 24 f 32 2 = 0 := sh_out_byte (by omega) (fun p h1 h2 => by rw [src2]; omega)
  have e3 : shF 2 24 f 32 3 = f 0 := sh_byte (by omega) (fun p h1 h2 => by rw [src2]; omega)
  show Value.agg #[.int .u8 (iv (shF 2 24 f 32 0)), .int .u8 (iv (shF 2 24 f 32 1)), .int .u8 (iv (shF 2 24 f 32 2)), .int .u8 (iv (shF 2 24 f 32 3))] = _
  rw [e0, e1, e2, e3]
  rfl
theorem bits_dn3 (x : Int) (f : TF) : tagF (flowF 6 x 24 f (fun _ => 0)) = .agg #[.int .u8 (iv (f 3)), .int .u8 0, .int .u8 0, .int .u8 0] := by
  rw [flowF_sh (by omega), show (24 : Int) % 32 = 24 from by decide]
  have e0 : shF 6 24 f 32 0 = f 3 := sh_byte (by omega) (fun p h1 h2 => by rw [src6]; omega)
  have e1 : shF 6 24 f 32 1 = 0 := sh_out_byte (by omega) (fun p h1 h2 => by rw [src6]; omega)
  have e2 : shF 6 24 f 32 2 = 0 := sh_out_byte (by omega) (fun p h1 h2 => by rw [src6]; omega)
  have e3 : shF 6 24 f 32 3 = 0 := sh_out_byte (by omega) (fun p h1 h2 => by rw [src6]; omega)
  show Value.agg #[.int .u8 (iv (shF 6 24 f 32 0)), .int .u8 (iv (shF 6 24 f 32 1)), .int .u8 (iv (shF 6 24 f 32 2)), .int .u8 (iv (shF 6 24 f 32 3))] = _
  rw [e0, e1, e2, e3]
  rfl

/-- More labels of the first: no fewer come out. -/
theorem rises_1 (kind a b : Int) (f f2 g : TF) (hf : ∀ q j, (f q).getLsbD j = true → (f2 q).getLsbD j = true) (q j : Nat) (hq : q < 4) (h : (flowF kind a b f g q).getLsbD j = true) : (flowF kind a b f2 g q).getLsbD j = true := by
  have hz : ∀ q, f2 q = 0 → f q = 0 := fun q h0 => bitsEq (fun j => by
    rw [zero_bit]
    cases h1 : (f q).getLsbD j
    · rfl
    · have := hf q j h1
      rw [h0, zero_bit] at this; cases this)
  have ha : (allF f).getLsbD j = true → (allF f2).getLsbD j = true := fun h => by
    obtain ⟨p, hp, h⟩ := all_bit.1 h
    exact sub_all hp (hf p j h)
  unfold flowF at h ⊢
  split
  · rename_i hk; rw [if_pos hk] at h
    simp only [joinF, BitVec.getLsbD_or, Bool.or_eq_true] at h ⊢
    exact h.imp (hf q j) id
  rename_i hk; rw [if_neg hk] at h
  split
  · rename_i hk; rw [if_pos hk] at h
    simp only [mF] at h ⊢
    by_cases hc : f2 q = 0 ∧ byI a q = 0 ∨ g q = 0 ∧ byI b q = 0
    · rw [if_pos (hc.imp (fun x => ⟨hz q x.1, x.2⟩) id), zero_bit] at h; cases h
    · rw [if_neg hc]
      split at h
      · rw [zero_bit] at h; cases h
      · rw [BitVec.getLsbD_or, Bool.or_eq_true] at h ⊢
        exact h.imp (hf q j) id
  rename_i hk; rw [if_neg hk] at h
  split
  · rename_i hk; rw [if_pos hk] at h
    obtain ⟨p, hp, h⟩ := (up_bit hq).1 h
    refine (up_bit hq).2 ⟨p, hp, ?_⟩
    simp only [joinF, BitVec.getLsbD_or, Bool.or_eq_true] at h ⊢
    exact h.imp (hf p j) id
  rename_i hk; rw [if_neg hk] at h
  split
  · rename_i hk; rw [if_pos hk] at h
    split
    · rename_i h0; rw [if_pos h0] at h
      obtain ⟨p, hp, hq2, hs, h⟩ := (shF_bit _ _ _ _ _ _).1 h
      exact (shF_bit _ _ _ _ _ _).2 ⟨p, hp, hq2, hs, hf _ _ h⟩
    · rename_i h0; rw [if_neg h0] at h
      rw [BitVec.getLsbD_or, Bool.or_eq_true] at h ⊢
      exact h.imp ha id
  rename_i hk; rw [if_neg hk] at h
  split
  · rename_i hk; rw [if_pos hk] at h
    dsimp only at h ⊢
    split
    · rename_i h0; rw [if_pos h0] at h
      rw [BitVec.getLsbD_or, Bool.or_eq_true] at h ⊢
      exact h.imp ha id
    · rename_i h0; rw [if_neg h0] at h; exact h
  rename_i hk; rw [if_neg hk] at h
  split
  · rename_i hk; rw [if_pos hk] at h
    rw [BitVec.getLsbD_or, Bool.or_eq_true] at h ⊢
    exact h.imp ha id
  rename_i hk; rw [if_neg hk] at h; exact h
theorem rises_2 (kind a b : Int) (f g g2 : TF) (hk0 : ¬ (kind = 2 ∨ kind = 6 ∨ kind = 7)) (hf : ∀ q j, (g q).getLsbD j = true → (g2 q).getLsbD j = true) (q j : Nat) (hq : q < 4) (h : (flowF kind a b f g q).getLsbD j = true) : (flowF kind a b f g2 q).getLsbD j = true := by
  have hz : ∀ q, g2 q = 0 → g q = 0 := fun q h0 => bitsEq (fun j => by
    rw [zero_bit]
    cases h1 : (g q).getLsbD j
    · rfl
    · have := hf q j h1
      rw [h0, zero_bit] at this; cases this)
  have ha : (allF g).getLsbD j = true → (allF g2).getLsbD j = true := fun h => by
    obtain ⟨p, hp, h⟩ := all_bit.1 h
    exact sub_all hp (hf p j h)
  unfold flowF at h ⊢
  split
  · rename_i hk; rw [if_pos hk] at h
    simp only [joinF, BitVec.getLsbD_or, Bool.or_eq_true] at h ⊢
    exact h.imp id (hf q j)
  rename_i hk; rw [if_neg hk] at h
  split
  · rename_i hk; rw [if_pos hk] at h
    simp only [mF] at h ⊢
    by_cases hc : f q = 0 ∧ byI a q = 0 ∨ g2 q = 0 ∧ byI b q = 0
    · rw [if_pos (hc.imp id (fun x => ⟨hz q x.1, x.2⟩)), zero_bit] at h; cases h
    · rw [if_neg hc]
      split at h
      · rw [zero_bit] at h; cases h
      · rw [BitVec.getLsbD_or, Bool.or_eq_true] at h ⊢
        exact h.imp id (hf q j)
  rename_i hk; rw [if_neg hk] at h
  split
  · rename_i hk; rw [if_pos hk] at h
    obtain ⟨p, hp, h⟩ := (up_bit hq).1 h
    refine (up_bit hq).2 ⟨p, hp, ?_⟩
    simp only [joinF, BitVec.getLsbD_or, Bool.or_eq_true] at h ⊢
    exact h.imp id (hf p j)
  rename_i hk; rw [if_neg hk] at h
  rw [if_neg hk0] at h
  try rw [if_neg hk0]
  split
  · rename_i hk; rw [if_pos hk] at h
    dsimp only at h ⊢
    split
    · rename_i h0; rw [if_pos h0] at h
      rw [BitVec.getLsbD_or, Bool.or_eq_true] at h ⊢
      exact h.imp id ha
    · rename_i h0; rw [if_neg h0] at h; exact h
  rename_i hk; rw [if_neg hk] at h
  split
  · rename_i hk; rw [if_pos hk] at h
    rw [BitVec.getLsbD_or, Bool.or_eq_true] at h ⊢
    exact h.imp id ha
  rename_i hk; rw [if_neg hk] at h; exact h
theorem join_le {x y : TF} (h : ∀ q j, q < 4 → (x q).getLsbD j = true → (y q).getLsbD j = true) : tagF (joinF x y) = tagF y := tagF_at (fun q hq => by
  refine bitsEq (fun j => ?_)
  simp only [joinF, BitVec.getLsbD_or]
  cases hx : (x q).getLsbD j
  · rfl
  · rw [h q j hq hx]; rfl)
theorem join_up {f h : TF} : ∀ q j, (f q).getLsbD j = true → (joinF f h q).getLsbD j = true := fun q j hh => by
  simp only [joinF, BitVec.getLsbD_or, hh, Bool.true_or]
theorem rises_a (kind a b : Int) (f g h : TF) (hb : 0 ≤ b) : tagF (joinF (flowF kind a b f g) (flowF kind a b (joinF f h) g)) = tagF (flowF kind a b (joinF f h) g) :=
  join_le (fun q j hq hh => rises_1 kind a b f (joinF f h) g join_up q j hq hh)
theorem rises_b (kind a b : Int) (f g h : TF) (hk : ¬ (kind = 2 ∨ kind = 6 ∨ kind = 7)) : tagF (joinF (flowF kind a b f g) (flowF kind a b f (joinF g h))) = tagF (flowF kind a b f (joinF g h)) :=
  join_le (fun q j hq hh => rises_2 kind a b f g (joinF g h) hk join_up q j hq hh)
end Go.Proofs.Ytbhoijkamnaopaa.Tag
