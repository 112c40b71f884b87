/- Labels by bits: what the label functions answer, over bit vectors of eight bits. -/
import Derived.Test.YtbhoijkamnaopaaTagOp
namespace Go.Proofs.Ytbhoijkamnaopaa.Tag
open Go Go.RowKit
set_option linter.unusedVariables false
set_option linter.unusedSimpArgs false
/-- Label sets by place. -/
abbrev TF := Nat → BitVec 8
def iv (x : BitVec 8) : Int := (x.toNat : Int)
def ofF (f : TF) : T4 := (iv (f 0), iv (f 1), iv (f 2), iv (f 3))
theorem iv_lt (x : BitVec 8) : 0 ≤ iv x ∧ iv x < 256 := by
  have := x.isLt
  unfold iv; omega
theorem iv_inj {x y : BitVec 8} : iv x = iv y ↔ x = y := by
  constructor
  · intro h
    apply BitVec.eq_of_toNat_eq
    unfold iv at h; omega
  · intro h; rw [h]
theorem iv_zero {x : BitVec 8} : iv x = 0 ↔ x = 0 := by
  have : iv 0 = 0 := rfl
  rw [← this, iv_inj]
theorem or8_iv (x y : BitVec 8) : or8 (iv x) (iv y) = iv (x ||| y) := by
  unfold or8 iv
  show IntKind.u8.wrap ((BitVec.ofInt 8 (x.toNat : Int) ||| BitVec.ofInt 8 (y.toNat : Int)).toNat : Int) = _
  rw [BitVec.ofInt_natCast, BitVec.ofInt_natCast, BitVec.ofNat_toNat, BitVec.ofNat_toNat, BitVec.setWidth_eq, BitVec.setWidth_eq]
  have := (x ||| y).isLt
  simp only [IntKind.wrap_u8]
  omega
theorem exF {t : T4} (h0 : 0 ≤ t.1 ∧ t.1 < 256) (h1 : 0 ≤ t.2.1 ∧ t.2.1 < 256) (h2 : 0 ≤ t.2.2.1 ∧ t.2.2.1 < 256) (h3 : 0 ≤ t.2.2.2 ∧ t.2.2.2 < 256) : ∃ f : TF, t = ofF f := by
  obtain ⟨a, b, c, d⟩ := t
  have e : ∀ x : Int, 0 ≤ x ∧ x < 256 → iv (BitVec.ofNat 8 x.toNat) = x := by
    intro x hx
    unfold iv
    rw [BitVec.toNat_ofNat]
    omega
  refine ⟨fun q => match q with | 0 => BitVec.ofNat 8 a.toNat | 1 => BitVec.ofNat 8 b.toNat | 2 => BitVec.ofNat 8 c.toNat | _ => BitVec.ofNat 8 d.toNat, ?_⟩
  show (a, b, c, d) = (_, _, _, _)
  simp only [e _ h0, e _ h1, e _ h2, e _ h3]
theorem ofF_congr {f g : TF} (h0 : f 0 = g 0) (h1 : f 1 = g 1) (h2 : f 2 = g 2) (h3 : f 3 = g 3) : ofF f = ofF g := by
  unfold ofF; rw [h0, h1, h2, h3]
theorem ofF_at {f g : TF} (h : ∀ q, q < 4 → f q = g q) : ofF f = ofF g := ofF_congr (h 0 (by omega)) (h 1 (by omega)) (h 2 (by omega)) (h 3 (by omega))
def allF (f : TF) : BitVec 8 := f 0 ||| f 1 ||| f 2 ||| f 3
def joinF (f g : TF) : TF := fun q => f q ||| g q
def upF (f : TF) : TF := fun q => match q with | 0 => f 0 | 1 => f 1 ||| f 0 | 2 => f 2 ||| (f 1 ||| f 0) | _ => f 3 ||| (f 2 ||| (f 1 ||| f 0))
theorem allT_ofF (f : TF) : allT (ofF f) = iv (allF f) := by simp only [allT, ofF, allF, or8_iv]
theorem joinT_ofF (f g : TF) : joinT (ofF f) (ofF g) = ofF (joinF f g) := by simp only [joinT, ofF, joinF, or8_iv]
theorem upT_ofF (f : TF) : upT (ofF f) = ofF (upF f) := by simp only [upT, ofF, upF, or8_iv]
theorem fillT_iv (x : BitVec 8) : fillT (iv x) = ofF (fun _ => x) := rfl
theorem getT_ofF (f : TF) (q : Nat) (hq : q < 4) : getT (ofF f) q = iv (f q) := by
  rcases (by omega : q = 0 ∨ q = 1 ∨ q = 2 ∨ q = 3) with rfl | rfl | rfl | rfl <;> rfl
def mF (a b : Int) (f g : TF) : TF := fun q => if f q = 0 ∧ byI a q = 0 ∨ g q = 0 ∧ byI b q = 0 then 0 else f q ||| g q
theorem mB_iv (x y : Int) (s t : BitVec 8) : mB x (iv s) y (iv t) = iv (if s = 0 ∧ x = 0 ∨ t = 0 ∧ y = 0 then 0 else s ||| t) := by
  unfold mB
  by_cases h : s = 0 ∧ x = 0 ∨ t = 0 ∧ y = 0
  · rw [if_pos h, if_pos (by rw [iv_zero, iv_zero]; exact h)]; rfl
  · rw [if_neg h, if_neg (by rw [iv_zero, iv_zero]; exact h), or8_iv]
theorem mAcc_ofF (a b : Int) (f g : TF) : mAcc a b (ofF f) (ofF g) 4 = ofF (mF a b f g) := by
  simp only [mAcc, ofF, mF, mB_iv]
/-- A shift's labels. -/
def shF (kind by_ : Int) (f : TF) : Nat → TF
  | 0 => fun _ => 0
  | k + 1 => fun q => if (0 ≤ srcI kind (k : Int) by_ ∧ srcI kind (k : Int) by_ < 32) ∧ q = k / 8 then shF kind by_ f k q ||| f (srcI kind (k : Int) by_ / 8).toNat else shF kind by_ f k q
theorem orT_ofF (f : TF) (q : Nat) (hq : q < 4) (v : BitVec 8) : orT (ofF f) q (iv v) = ofF (fun p => if p = q then f p ||| v else f p) := by
  rcases (by omega : q = 0 ∨ q = 1 ∨ q = 2 ∨ q = 3) with rfl | rfl | rfl | rfl <;> simp [orT, ofF, or8_iv]
theorem shAcc_ofF (kind by_ : Int) (f : TF) : ∀ k : Nat, k ≤ 32 → shAcc kind by_ (ofF f) k = ofF (shF kind by_ f k)
  | 0, _ => rfl
  | k + 1, hk => by
    show shStep kind by_ (ofF f) k (shAcc kind by_ (ofF f) k) = _
    rw [shAcc_ofF kind by_ f k (by omega)]
    unfold shStep
    by_cases h : 0 ≤ srcI kind (k : Int) by_ ∧ srcI kind (k : Int) by_ < 32
    · rw [if_pos h, getT_ofF f _ (by omega), orT_ofF _ _ (by omega)]
      refine ofF_at (fun q hq => ?_)
      simp only [shF, h, true_and]
    · rw [if_neg h]
      refine ofF_at (fun q hq => ?_)
      simp only [shF]
      rw [if_neg (fun hh => h hh.1)]
theorem shF_bit (kind by_ : Int) (f : TF) (j : Nat) : ∀ (k q : Nat), (shF kind by_ f k q).getLsbD j = true ↔ ∃ p, p < k ∧ q = p / 8 ∧ (0 ≤ srcI kind (p : Int) by_ ∧ srcI kind (p : Int) by_ < 32) ∧ (f (srcI kind (p : Int) by_ / 8).toNat).getLsbD j = true
  | 0, q => by
    constructor
    · intro h; simp [shF] at h
    · rintro ⟨p, hp, _⟩; omega
  | k + 1, q => by
    have ih := shF_bit kind by_ f j k q
    simp only [shF]
    constructor
    · intro h
      by_cases hc : (0 ≤ srcI kind (k : Int) by_ ∧ srcI kind (k : Int) by_ < 32) ∧ q = k / 8
      · rw [if_pos hc, BitVec.getLsbD_or, Bool.or_eq_true] at h
        rcases h with h | h
        · obtain ⟨p, h1, h2⟩ := ih.1 h
          exact ⟨p, by omega, h2⟩
        · exact ⟨k, by omega, hc.2, hc.1, h⟩
      · rw [if_neg hc] at h
        obtain ⟨p, h1, h2⟩ := ih.1 h
        exact ⟨p, by omega, h2⟩
    · rintro ⟨p, h1, h2, h3, h4⟩
      by_cases hpk : p = k
      · subst hpk
        rw [if_pos ⟨h3, h2⟩, BitVec.getLsbD_or, h4, Bool.or_true]
      · have := ih.2 ⟨p, by omega, h2, h3, h4⟩
        split
        · rw [BitVec.getLsbD_or, this, Bool.true_or]
        · exact this
theorem sub_all {f : TF} {j q : Nat} (hq : q < 4) (h : (f q).getLsbD j = true) : (allF f).getLsbD j = true := by
  unfold allF
  rcases (by omega : q = 0 ∨ q = 1 ∨ q = 2 ∨ q = 3) with rfl | rfl | rfl | rfl <;> simp [BitVec.getLsbD_or, h]
theorem all_bit {f : TF} {j : Nat} : (allF f).getLsbD j = true ↔ ∃ q, q < 4 ∧ (f q).getLsbD j = true := by
  constructor
  · intro h
    simp only [allF, BitVec.getLsbD_or, Bool.or_eq_true] at h
    rcases h with ((h | h) | h) | h
    · exact ⟨0, by omega, h⟩
    · exact ⟨1, by omega, h⟩
    · exact ⟨2, by omega, h⟩
    · exact ⟨3, by omega, h⟩
  · rintro ⟨q, hq, h⟩; exact sub_all hq h
/-- What the labels of alu's answer are, of each kind. -/
def flowT (kind a b : Int) (s t : T4) : T4 :=
  if kind = 5 ∨ kind = 8 then joinT s t
  else if kind = 9 then mAcc a b s t 4
  else if kind = 0 ∨ kind = 1 ∨ kind = 10 then upT (joinT s t)
  else if kind = 2 ∨ kind = 6 ∨ kind = 7 then (if t.1 = 0 then shAcc kind (b % 32) s 32 else fillT (or8 (allT s) t.1))
  else if kind = 3 ∨ kind = 4 then (or8 (allT s) (allT t), 0, 0, 0)
  else if kind = 11 ∨ kind = 12 ∨ kind = 13 ∨ kind = 14 ∨ kind = 15 ∨ kind = 16 ∨ kind = 17 then fillT (or8 (allT s) (allT t))
  else (0, 0, 0, 0)
def flowF (kind a b : Int) (f g : TF) : TF :=
  if kind = 5 ∨ kind = 8 then joinF f g
  else if kind = 9 then mF a b f g
  else if kind = 0 ∨ kind = 1 ∨ kind = 10 then upF (joinF f g)
  else if kind = 2 ∨ kind = 6 ∨ kind = 7 then (if g 0 = 0 then shF kind (b % 32) f 32 else fun _ => allF f ||| g 0)
  else if kind = 3 ∨ kind = 4 then (fun q => if q = 0 then allF f ||| allF g else 0)
  else if kind = 11 ∨ kind = 12 ∨ kind = 13 ∨ kind = 14 ∨ kind = 15 ∨ kind = 16 ∨ kind = 17 then fun _ => allF f ||| allF g
  else fun _ => 0
theorem flowT_ofF (kind a b : Int) (f g : TF) : flowT kind a b (ofF f) (ofF g) = ofF (flowF kind a b f g) := by
  unfold flowT flowF
  split
  · exact joinT_ofF f g
  split
  · exact mAcc_ofF a b f g
  split
  · rw [joinT_ofF, upT_ofF]
  split
  · have : (ofF g).1 = iv (g 0) := rfl
    rw [this]
    by_cases h : g 0 = 0
    · rw [if_pos (iv_zero.2 h), if_pos h, shAcc_ofF _ _ _ _ (Nat.le_refl _)]
    · rw [if_neg (fun hh => h (iv_zero.1 hh)), if_neg h, allT_ofF, or8_iv, fillT_iv]
  split
  · rw [allT_ofF, allT_ofF, or8_iv]; rfl
  split
  · rw [allT_ofF, allT_ofF, or8_iv, fillT_iv]
  · rfl
/-- The kinds that there are. -/
def kindOk (kind : Int) : Bool := decide (0 ≤ kind ∧ kind ≤ 17)
theorem flowF_bad {kind a b : Int} {f g : TF} (h : ¬ (0 ≤ kind ∧ kind ≤ 17)) : flowF kind a b f g = fun _ => 0 := by
  unfold flowF
  rw [if_neg (by omega), if_neg (by omega), if_neg (by omega), if_neg (by omega), if_neg (by omega), if_neg (by omega)]
end Go.Proofs.Ytbhoijkamnaopaa.Tag
