/- An image is read back as it; cut off anywhere it is none: the plain function that the walk computes answers true. -/
import Derived.Test.YtcjaepmecihmlaaGetPure
namespace Go.Proofs.Ytcjaepmecihmlaa.BackPure
open Go Go.RowKit Go.Proofs.Ytcjaepmecihmlaa.Img Go.Proofs.YtcjaepmecihmlaaW.PrintWords Go.Proofs.YtcjaepmecihmlaaW.PrintLast Go.Proofs.YtcjaepmecihmlaaW.PrintMore Go.Proofs.Ytcjaepmecihmlaa.ImgPure Go.Proofs.Ytcjaepmecihmlaa.GetPure
set_option linter.unusedVariables false
set_option linter.unusedSimpArgs false
/-- Numbers of their kinds. -/
structure Wf (e : Int) (xs : List S30) : Prop where
  he : 0 ≤ e ∧ e < 4294967296
  hs : ∀ s ∈ xs, 0 ≤ s.f0 ∧ s.f0 < 4294967296 ∧ 0 ≤ s.f1 ∧ s.f1 < 4294967296 ∧ Bytes s.f3
section
variable {e : Int} {xs : List S30} (hw : Wf e xs) (h8 : xs.length ≤ 8) (h2 : ∀ s ∈ xs, 0 ≤ s.f2 ∧ s.f2 ≤ 7) (hL : (fileP e xs).length ≤ 65536)
include hw h8 h2 hL
end
theorem great_l0 (e : Int) (xs : List S30) (hx : xs.length ≤ 10) (d : Nat) : ∀ (k i : Nat), i ≤ xs.length → xs.length - i = d → d < k → ∃ b, tincturelaw8_great.l0 k (i : Int) e xs = some b ∧ (b = false → ∀ s ∈ xs.drop i, s.f3.length ≤ 600) := by
  induction d with
  | zero =>
    intro k i h1 h2 h3
    obtain ⟨k, rfl⟩ : ∃ m, k = m + 1 := ⟨k - 1, by omega⟩
    simp only [tincturelaw8_great.l0]
    rw [if_neg (by omega)]
    exact ⟨false, rfl, fun _ s hs => by rw [List.drop_of_length_le (by omega)] at hs; cases hs⟩
  | succ d ih =>
    intro k i h1 h2 h3
    obtain ⟨k, rfl⟩ : ∃ m, k = m + 1 := ⟨k - 1, by omega⟩
    have hi : i < xs.length := by omega
    have e1 : zan xs (i : Int) = xs[i] := by simp [zan, hi]
    simp only [tincturelaw8_great.l0]
    rw [if_pos (by omega), if_pos (by omega), e1, zb9 hi (by omega)]
    by_cases c : (xs[i].f3.length : Int) > 600
    · rw [if_pos c]; exact ⟨true, rfl, fun h => by cases h⟩
    · rw [if_neg c]
      obtain ⟨b, hb, hb2⟩ := ih k (i + 1) (by omega) (by omega) (by omega)
      refine ⟨b, hb, fun h s hs => ?_⟩
      rw [List.drop_eq_getElem_cons hi] at hs
      rcases List.mem_cons.1 hs with rfl | hs
      · omega
      · exact hb2 h s hs
theorem great_at (k : Nat) (e : Int) (xs : List S30) (hk : 20 < k) : ∃ b, tincturelaw8_great.f k e xs = some b ∧ (b = false → xs.length ≤ 10 ∧ ∀ s ∈ xs, s.f3.length ≤ 600) := by
  unfold tincturelaw8_great.f
  by_cases c : (xs.length : Int) > 10
  · rw [if_pos c]; exact ⟨true, rfl, fun h => by cases h⟩
  · rw [if_neg c]
    obtain ⟨b, hb, hb2⟩ := great_l0 e xs (by omega) xs.length k 0 (by omega) (by omega) (by omega)
    exact ⟨b, hb, fun h => ⟨by omega, by simpa using hb2 h⟩⟩
def c65 (s : S30) : S65 := ⟨s.f0, s.f1, s.f2, s.f3⟩
theorem img_l0 (e : Int) (xs : List S30) (hx : xs.length ≤ 10) (d : Nat) : ∀ (k i : Nat) (acc : List S65), acc.length ≤ i → i ≤ xs.length → xs.length - i = d → d < k →
    tincturelaw8_img.l0 k (i : Int) e xs e acc = some (e, acc ++ (xs.drop i).map c65) := by
  induction d with
  | zero =>
    intro k i acc ha h1 h2 h3
    obtain ⟨k, rfl⟩ : ∃ m, k = m + 1 := ⟨k - 1, by omega⟩
    simp only [tincturelaw8_img.l0]
    rw [if_neg (by omega), List.drop_of_length_le (by omega)]; simp
  | succ d ih =>
    intro k i acc ha h1 h2 h3
    obtain ⟨k, rfl⟩ : ∃ m, k = m + 1 := ⟨k - 1, by omega⟩
    have hi : i < xs.length := by omega
    have e1 : zan xs (i : Int) = xs[i] := by simp [zan, hi]
    simp only [tincturelaw8_img.l0]
    rw [if_pos (by omega), if_pos (by omega), if_pos (by omega), e1, zb9 hi (by omega), ih k (i + 1) _ (by simp; omega) (by omega) (by omega) (by omega), List.drop_eq_getElem_cons hi]
    simp only [List.map_cons, List.append_assoc, List.singleton_append, c65]
theorem img_at (k : Nat) (e : Int) (xs : List S30) (hx : xs.length ≤ 10) (hk : 20 < k) : tincturelaw8_img.f k e xs = some (e, xs.map c65) := by
  have := img_l0 e xs hx xs.length k 0 [] (by simp) (by omega) (by omega) (by omega)
  simpa [tincturelaw8_img.f] using this
theorem zhn : ∀ (ys : List S65), ∀ p ∈ ys.zip ys, p.1 = p.2
  | [], p, hp => by simp at hp
  | y :: ys, p, hp => by
    rw [List.zip_cons_cons] at hp
    rcases List.mem_cons.1 hp with rfl | hp
    · rfl
    · exact zhn ys p hp
theorem zim (e : Int) (ys : List S65) : Go.Proofs.Ytcjaepmecihmlaa.Same.sameB e ys e ys = true := by
  simp only [Go.Proofs.Ytcjaepmecihmlaa.Same.sameB, beq_self_eq_true, Bool.true_and]
  rw [List.all_eq_true]
  intro p hp
  have := zhn ys p hp
  simp [Go.Proofs.Ytcjaepmecihmlaa.Same.one, this]
theorem same_at (k : Nat) (e : Int) (ys : List S65) (h : ys.length ≤ 1000) : tincturelaw8_sameImage.f k e ys e ys = some true := by
  rw [tincturelaw8_sameImage.f, if_pos (by omega), zim]
theorem awake_at : tincturelaw8_awake.f 1000 = some true := by decide +kernel
end Go.Proofs.Ytcjaepmecihmlaa.BackPure
