/- No label is lost, whatever is reckoned. -/
import Derived.Test.YtbhoijkamnaopaaTagSound2
namespace Go.Proofs.Ytbhoijkamnaopaa.Tag
open Go Go.RowKit Go.Proofs.Ytbhoijkamnaopaa Go.Proofs.YtbhoijkamnaopaaW.PrintWords Go.Proofs.YtbhoijkamnaopaaW.PrintLast Go.Proofs.YtbhoijkamnaopaaW.PrintMore
set_option linter.unusedVariables false
set_option linter.unusedSimpArgs false
section
variable {A B X Y : Nat} {f g : TF} {L : BitVec 8}
theorem zero_and (L : BitVec 8) : (0 : BitVec 8) &&& L = 0 := BitVec.zero_and
theorem sound_flow (kind : Int) (hA : A < 4294967296) (hX : X < 4294967296) (hB : B < 4294967296) (hY : Y < 4294967296) (ha : Agr f L A X) (hb : Agr g L B Y) :
    tagF (flowF kind (A : Int) (B : Int) f g) = tagF (flowF kind (X : Int) (Y : Int) f g) := by
  refine tagF_at (fun q hq => ?_)
  unfold flowF
  by_cases h1 : kind = 5 ∨ kind = 8
  · rw [if_pos h1, if_pos h1]
  rw [if_neg h1, if_neg h1]
  by_cases h2 : kind = 9
  · rw [if_pos h2, if_pos h2]
    unfold mF
    have c1 : (f q = 0 ∧ byI (A : Int) q = 0) ↔ (f q = 0 ∧ byI (X : Int) q = 0) := by
      constructor
      · rintro ⟨h, k⟩; exact ⟨h, by rw [← agr_byte hA hX ha hq (by rw [h]; exact zero_and L)]; exact k⟩
      · rintro ⟨h, k⟩; exact ⟨h, by rw [agr_byte hA hX ha hq (by rw [h]; exact zero_and L)]; exact k⟩
    have c2 : (g q = 0 ∧ byI (B : Int) q = 0) ↔ (g q = 0 ∧ byI (Y : Int) q = 0) := by
      constructor
      · rintro ⟨h, k⟩; exact ⟨h, by rw [← agr_byte hB hY hb hq (by rw [h]; exact zero_and L)]; exact k⟩
      · rintro ⟨h, k⟩; exact ⟨h, by rw [agr_byte hB hY hb hq (by rw [h]; exact zero_and L)]; exact k⟩
    by_cases hc : f q = 0 ∧ byI (A : Int) q = 0 ∨ g q = 0 ∧ byI (B : Int) q = 0
    · rw [if_pos hc, if_pos (hc.imp c1.1 c2.1)]
    · rw [if_neg hc, if_neg (fun h => hc (h.imp c1.2 c2.2))]
  rw [if_neg h2, if_neg h2]
  by_cases h3 : kind = 0 ∨ kind = 1 ∨ kind = 10
  · rw [if_pos h3, if_pos h3]
  rw [if_neg h3, if_neg h3]
  by_cases h4 : kind = 2 ∨ kind = 6 ∨ kind = 7
  · rw [if_pos h4, if_pos h4]
    by_cases hz : g 0 = 0
    · rw [if_pos hz, if_pos hz]
      have := low32 hB hY hb (by rw [hz]; exact zero_and L)
      rw [show (B : Int) % 32 = (Y : Int) % 32 by omega]
    · rw [if_neg hz, if_neg hz]
  rw [if_neg h4, if_neg h4]
/-- A byte that bears no label. -/
theorem sound_byte (kind : Int) (hA : A < 4294967296) (hX : X < 4294967296) (hB : B < 4294967296) (hY : Y < 4294967296) (ha : Agr f L A X) (hb : Agr g L B Y) (i : Nat) (hi : i < 4)
    (h : flowF kind (A : Int) (B : Int) f g i &&& L = 0) : byI (doV kind (A : Int) (B : Int)) i = byI (doV kind (X : Int) (Y : Int)) i := by
  by_cases hk : 0 ≤ kind ∧ kind ≤ 17
  rotate_left
  · have n : ∀ i : Int, 0 ≤ i → i ≤ 17 → ¬ kind = i := fun i h1 h2 h => hk (by omega)
    simp [doV, n 0, n 1, n 2, n 3, n 4, n 5, n 6, n 7, n 8, n 9, n 10, n 11, n 12, n 13, n 14, n 15, n 16, n 17]
  -- all labels clean: the numbers are the same
  have same : (allF f ||| allF g) &&& L = 0 → byI (doV kind (A : Int) (B : Int)) i = byI (doV kind (X : Int) (Y : Int)) i := fun h0 => by
    rw [agr_all hA hX ha (or_zero_l h0), agr_all hB hY hb (or_zero_r h0)]
  unfold flowF at h
  by_cases h1 : kind = 5 ∨ kind = 8
  · rw [if_pos h1] at h
    have hf : f i &&& L = 0 := or_zero_l h
    have hg : g i &&& L = 0 := or_zero_r h
    rcases h1 with rfl | rfl
    · rw [v5 hA hB, v5 hX hY]
      refine byte_of (Nat.xor_lt_two_pow (n := 32) hA hB) (Nat.xor_lt_two_pow (n := 32) hX hY) hi (fun j hj => ?_)
      rw [Nat.testBit_xor, Nat.testBit_xor, ha i hi hf j hj, hb i hi hg j hj]
    · rw [v8 hA hB, v8 hX hY]
      refine byte_of (or_lt hA hB) (or_lt hX hY) hi (fun j hj => ?_)
      rw [Nat.testBit_or, Nat.testBit_or, ha i hi hf j hj, hb i hi hg j hj]
  rw [if_neg h1] at h
  by_cases h2 : kind = 9
  · rw [if_pos h2] at h
    subst h2
    rw [v9 hA hB, v9 hX hY]
    refine byte_of (and_lt hB) (and_lt hY) hi (fun j hj => ?_)
    rw [Nat.testBit_and, Nat.testBit_and]
    unfold mF at h
    have zb : ∀ m : Nat, m < 4294967296 → byI (m : Int) i = 0 → m.testBit j = false := fun m hm h0 => by
      have e : byI (m : Int) i = byI ((0 : Nat) : Int) i := by
        rw [h0]
        rcases (by omega : i = 0 ∨ i = 1 ∨ i = 2 ∨ i = 3) with rfl | rfl | rfl | rfl <;> rfl
      rw [of_byte hm (by decide) hi e j hj, Nat.zero_testBit]
    by_cases c1 : f i = 0 ∧ byI (A : Int) i = 0
    · have e := agr_byte hA hX ha hi (by rw [c1.1]; exact zero_and L)
      rw [zb A hA c1.2, zb X hX (by rw [← e]; exact c1.2)]
      rfl
    · by_cases c2 : g i = 0 ∧ byI (B : Int) i = 0
      · have e := agr_byte hB hY hb hi (by rw [c2.1]; exact zero_and L)
        rw [zb B hB c2.2, zb Y hY (by rw [← e]; exact c2.2), Bool.and_false, Bool.and_false]
      · rw [if_neg (fun hh => hh.elim c1 c2)] at h
        rw [ha i hi (or_zero_l h) j hj, hb i hi (or_zero_r h) j hj]
  rw [if_neg h2] at h
  by_cases h3 : kind = 0 ∨ kind = 1 ∨ kind = 10
  · rw [if_pos h3] at h
    have hp : ∀ p, p ≤ i → (f p ||| g p) &&& L = 0 := fun p hp => and_zero (fun j hj => (up_bit hi).2 ⟨p, hp, hj⟩) h
    have lA := agr_low ha hi (fun p hp' => or_zero_l (hp p hp'))
    have lB := agr_low hb hi (fun p hp' => or_zero_r (hp p hp'))
    rcases h3 with rfl | rfl | rfl
    · rw [v0, v0]
      exact low_byte hi (by rw [Nat.add_mod, lA, lB, ← Nat.add_mod])
    · rw [v1 hB, v1 hY]
      refine low_byte hi ?_
      have e : (4294967296 - B) % 2 ^ (8 * (i + 1)) = (4294967296 - Y) % 2 ^ (8 * (i + 1)) := by
        rcases (by omega : i = 0 ∨ i = 1 ∨ i = 2 ∨ i = 3) with rfl | rfl | rfl | rfl
        · have lB2 : B % 256 = Y % 256 := lB
          show (4294967296 - B) % 256 = (4294967296 - Y) % 256; omega
        · have lB2 : B % 65536 = Y % 65536 := lB
          show (4294967296 - B) % 65536 = (4294967296 - Y) % 65536; omega
        · have lB2 : B % 16777216 = Y % 16777216 := lB
          show (4294967296 - B) % 16777216 = (4294967296 - Y) % 16777216; omega
        · have lB2 : B % 4294967296 = Y % 4294967296 := lB
          show (4294967296 - B) % 4294967296 = (4294967296 - Y) % 4294967296; omega
      rw [Nat.add_mod, lA, e, ← Nat.add_mod]
    · rw [v10, v10]
      exact low_byte hi (by rw [Nat.mul_mod, lA, lB, ← Nat.mul_mod])
  rw [if_neg h3] at h
  by_cases h4 : kind = 2 ∨ kind = 6 ∨ kind = 7
  · rw [if_pos h4] at h
    by_cases hz : g 0 = 0
    · rw [if_pos hz] at h
      have e32 := low32 hB hY hb (by rw [hz]; exact zero_and L)
      have hn : B % 32 < 32 := by omega
      have hBn : (B : Int) % 32 = ((B % 32 : Nat) : Int) := by omega
      rw [hBn] at h
      rcases h4 with rfl | rfl | rfl
      · rw [v2, v2, ← e32]
        generalize B % 32 = n at *
        refine byte_of (Nat.mod_lt _ (by decide)) (Nat.mod_lt _ (by decide)) hi (fun j hj => ?_)
        rw [show (4294967296 : Nat) = 2 ^ 32 from rfl, Nat.testBit_mod_two_pow, Nat.testBit_mod_two_pow, Nat.testBit_mul_two_pow, Nat.testBit_mul_two_pow]
        by_cases hnj : n ≤ j
        · have hs : 0 ≤ srcI 2 (j : Int) (n : Int) ∧ srcI 2 (j : Int) (n : Int) < 32 := by rw [src2]; omega
          rw [src_agr ha (sh_zero hi h (by omega) hj.symm hs) hs (by rw [src2]; omega : srcI 2 (j : Int) (n : Int) = ((j - n : Nat) : Int))]
        · simp [hnj]
      · rw [v6, v6, ← e32]
        generalize B % 32 = n at *
        have lt : ∀ z : Nat, z < 4294967296 → z / 2 ^ n < 4294967296 := fun z hz' => Nat.lt_of_le_of_lt (Nat.div_le_self _ _) hz'
        refine byte_of (lt A hA) (lt X hX) hi (fun j hj => ?_)
        rw [Nat.testBit_div_two_pow, Nat.testBit_div_two_pow]
        by_cases hnj : j + n < 32
        · have hs : 0 ≤ srcI 6 (j : Int) (n : Int) ∧ srcI 6 (j : Int) (n : Int) < 32 := by rw [src6]; omega
          rw [src_agr ha (sh_zero hi h (by omega) hj.symm hs) hs (by rw [src6]; omega : srcI 6 (j : Int) (n : Int) = ((j + n : Nat) : Int))]
        · rw [hi_bit hA (by omega), hi_bit hX (by omega)]
      · rw [v7 hA, v7 hX, ← e32]
        generalize B % 32 = n at *
        refine byte_of (Nat.mod_lt _ (by decide)) (Nat.mod_lt _ (by decide)) hi (fun j hj => ?_)
        rw [show (4294967296 : Nat) = 2 ^ 32 from rfl, Nat.testBit_mod_two_pow, Nat.testBit_mod_two_pow, Nat.testBit_div_two_pow, Nat.testBit_div_two_pow, ext_bit hA _ (by omega), ext_bit hX _ (by omega)]
        have hs : 0 ≤ srcI 7 (j : Int) (n : Int) ∧ srcI 7 (j : Int) (n : Int) < 32 := by rw [src7]; split <;> omega
        rw [src_agr ha (sh_zero hi h (by omega) hj.symm hs) hs (by rw [src7]; split <;> omega : srcI 7 (j : Int) (n : Int) = ((min (j + n) 31 : Nat) : Int))]
    · rw [if_neg hz] at h
      have e32 := low32 hB hY hb (or_zero_r h)
      have eA := agr_all hA hX ha (or_zero_l h)
      have eB : (B : Int) % 32 = (Y : Int) % 32 := by omega
      rcases h4 with rfl | rfl | rfl
      · rw [v2, v2, eA, e32]
      · rw [v6, v6, eA, e32]
      · rw [v7 hA, v7 hX, eA, e32]
  rw [if_neg h4] at h
  by_cases h5 : kind = 3 ∨ kind = 4
  · rw [if_pos h5] at h
    by_cases h0 : i = 0
    · rw [if_pos h0] at h
      exact same h
    · have one : ∀ c : Prop, [Decidable c] → byI (if c then (1 : Int) else 0) i = 0 := fun c _ => by
        rcases (by omega : i = 1 ∨ i = 2 ∨ i = 3) with rfl | rfl | rfl <;> (by_cases hc : c <;> simp [hc, byI])
      rcases h5 with rfl | rfl
      · have e : ∀ a b : Int, doV 3 a b = if wrap32 a < wrap32 b then 1 else 0 := fun a b => by simp [doV]
        rw [e, e, one, one]
      · have e : ∀ a b : Int, doV 4 a b = if a < b then 1 else 0 := fun a b => by simp [doV]
        rw [e, e, one, one]
  rw [if_neg h5] at h
  have h6 : kind = 11 ∨ kind = 12 ∨ kind = 13 ∨ kind = 14 ∨ kind = 15 ∨ kind = 16 ∨ kind = 17 := by omega
  rw [if_pos h6] at h
  exact same h
end
end Go.Proofs.Ytbhoijkamnaopaa.Tag
