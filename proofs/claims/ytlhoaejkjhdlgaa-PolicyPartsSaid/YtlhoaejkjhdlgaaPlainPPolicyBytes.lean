/- What Label, Hits, places and the policies' copies answer, as plain functions on lists. -/
import Derived.Test.YtlhoaejkjhdlgaaPPolicyBytesx5
namespace Go.Proofs.Ytlhoaejkjhdlgaa.PlainPPolicyBytes
open Go Go.RowKit Go.Proofs.Ytlhoaejkjhdlgaa.PPolicyBytes Go.Proofs.YtlhoaejkjhdlgaaW.PrintWords Go.Proofs.YtlhoaejkjhdlgaaW.PrintLast Go.Proofs.YtlhoaejkjhdlgaaW.PrintMore
set_option linter.unusedVariables false
set_option linter.unusedSimpArgs false
theorem wrap_up {i n : Nat} (h : i < n) (hn : n ≤ 9223372036854775807) : wrap64 ((i : Int) + 1) = ((i + 1 : Nat) : Int) := by unfold wrap64; omega
theorem long_at (p : Bool) (xs : List S35) (ys : List S37) : tincturelaw7_long.f p xs ys = some (decide (xs.length > 40 ∨ ys.length > 40)) := by
  unfold tincturelaw7_long.f
  by_cases h : xs.length > 40
  · rw [if_pos (by omega)]; simp [h]
  · rw [if_neg (by omega)]; congr 1; congr 1; rw [eq_iff_iff]; omega
def hitS (f0 f1 kind arg : Int) : Bool := f0 == kind && ((kind == 1 && f1 == arg) || (kind == 2 || (kind == 3 || kind == 5)))
def stepS (kind arg : Int) (l : Int) (s : S35) : Int := if hitS s.f0 s.f1 kind arg = true then Go.bits .or .u8 l s.f3 else l
theorem meant_at (s : S35) (kind arg : Int) : policy_meant.f s.f0 s.f1 s.f2 s.f3 kind arg = some (hitS s.f0 s.f1 kind arg) := by
  unfold policy_meant.f hitS
  by_cases h : s.f0 = kind
  · by_cases h1 : kind = 1
    · simp [h, h1]
    · by_cases h2 : kind = 2
      · simp [h, h2]
      · by_cases h3 : kind = 3
        · simp [h, h3]
        · simp [h, h1, h2, h3, beq_eq_false_iff_ne.mpr h1, beq_eq_false_iff_ne.mpr h2, beq_eq_false_iff_ne.mpr h3]
  · simp [h]
theorem label_l0 (kind arg : Int) (xs : List S35) (hx : xs.length ≤ 9223372036854775807) (d : Nat) : ∀ (k i : Nat) (acc : Int), i ≤ xs.length → xs.length - i = d → d < k →
    policy_Policy_Label.l0 k kind arg acc xs (xs.length : Int) (i : Int) = some ((xs.drop i).foldl (stepS kind arg) acc) := by
  induction d with
  | zero =>
    intro k i acc h1 h2 h3
    obtain ⟨k, rfl⟩ : ∃ m, k = m + 1 := ⟨k - 1, by omega⟩
    simp only [policy_Policy_Label.l0]
    rw [if_neg (by omega), show i = xs.length by omega, List.drop_length]; rfl
  | succ d ih =>
    intro k i acc h1 h2 h3
    obtain ⟨k, rfl⟩ : ∃ m, k = m + 1 := ⟨k - 1, by omega⟩
    have hi : i < xs.length := by omega
    have e : rd_T35 xs (i : Int) = xs[i] := by simp [rd_T35, hi]
    simp only [policy_Policy_Label.l0]
    rw [if_pos (by omega), if_pos (by omega), if_pos (by omega), meant_at, Option.bind_some, e, wrap_up hi hx, List.drop_eq_getElem_cons hi, List.foldl_cons]
    by_cases c : hitS xs[i].f0 xs[i].f1 kind arg = true
    · rw [if_pos c, ih k (i + 1) _ (by omega) (by omega) (by omega), stepS, if_pos c]
    · rw [if_neg c, ih k (i + 1) _ (by omega) (by omega) (by omega), stepS, if_neg c]
def labelP (xs : List S35) (kind arg : Int) : Int := xs.foldl (stepS kind arg) 0
theorem label_at (k : Nat) (p : Bool) (xs : List S35) (ys : List S37) (kind arg : Int) (hx : xs.length ≤ 9223372036854775807) (hk : xs.length < k) : policy_Policy_Label.f k p xs ys kind arg = some (labelP xs kind arg) := by
  have := label_l0 kind arg xs hx xs.length k 0 0 (by omega) (by omega) hk
  simpa [policy_Policy_Label.f, labelP] using this
def hitK (f0 f1 f2 kind n l : Int) : Bool := f0 == kind && ((!(kind == 4) || f1 == n) && !(Go.bits .and .u8 f2 l == 0))
/-- The places of the sinks that watch, the first at i. -/
def hitsP (kind n l : Int) : Nat → List S37 → List Int
  | _, [] => []
  | i, s :: ys => if hitK s.f0 s.f1 s.f2 kind n l = true then (i : Int) :: hitsP kind n l (i + 1) ys else hitsP kind n l (i + 1) ys
theorem hitsP_cons (kind n l : Int) (i : Nat) (s : S37) (ys : List S37) : hitsP kind n l i (s :: ys) = if hitK s.f0 s.f1 s.f2 kind n l = true then (i : Int) :: hitsP kind n l (i + 1) ys else hitsP kind n l (i + 1) ys := rfl
theorem hits_l0 (kind n l : Int) (ys : List S37) (hy : ys.length ≤ 1000000) (d : Nat) : ∀ (k i : Nat) (acc : List Int), acc.length ≤ i → i ≤ ys.length → ys.length - i = d → d < k →
    policy_Policy_Hits.l0 k kind n l acc ys (ys.length : Int) (i : Int) = some (acc ++ hitsP kind n l i (ys.drop i)) := by
  induction d with
  | zero =>
    intro k i acc ha h1 h2 h3
    obtain ⟨k, rfl⟩ : ∃ m, k = m + 1 := ⟨k - 1, by omega⟩
    simp only [policy_Policy_Hits.l0]
    rw [if_neg (by omega), show i = ys.length by omega, List.drop_length]; simp [hitsP]
  | succ d ih =>
    intro k i acc ha h1 h2 h3
    obtain ⟨k, rfl⟩ : ∃ m, k = m + 1 := ⟨k - 1, by omega⟩
    have hi : i < ys.length := by omega
    have e : rd_T37 ys (i : Int) = ys[i] := by simp [rd_T37, hi]
    have r0 := ih k (i + 1) acc (by omega) (by omega) (by omega) (by omega)
    have r1 := ih k (i + 1) (acc ++ [(i : Int)]) (by simp; omega) (by omega) (by omega) (by omega)
    simp only [policy_Policy_Hits.l0]
    rw [if_pos (by omega), if_pos (by omega), if_pos (by omega), e, wrap_up hi (by omega), r0, r1, List.drop_eq_getElem_cons hi, hitsP_cons]
    unfold hitK
    have hacc : acc.length < 17592186044416 := by omega
    by_cases c1 : ys[i].f0 = kind
    · by_cases c2 : kind = 4
      · by_cases c3 : ys[i].f1 = n
        · by_cases c4 : Go.bits .and .u8 ys[i].f2 l = 0 <;> simp [c1, c2, c3, c4, hacc]
        · simp [c1, c2, c3]
      · by_cases c4 : Go.bits .and .u8 ys[i].f2 l = 0 <;> simp [c1, c2, c4, hacc]
    · simp [c1]
theorem hits_at (k : Nat) (p : Bool) (xs : List S35) (ys : List S37) (kind n l : Int) (hy : ys.length ≤ 1000000) (hk : ys.length < k) : policy_Policy_Hits.f k p xs ys kind n l = some (hitsP kind n l 0 ys) := by
  have := hits_l0 kind n l ys hy ys.length k 0 [] (by simp) (by omega) (by omega) hk
  simpa [policy_Policy_Hits.f] using this
theorem hitsP_length (kind n l : Int) (ys : List S37) : ∀ i, (hitsP kind n l i ys).length ≤ ys.length := by
  induction ys with
  | nil => intro i; simp [hitsP]
  | cons s ys ih =>
    intro i
    have := ih (i + 1)
    unfold hitsP
    split <;> simp <;> omega
theorem places_l0 (as_ : List Int) (hl : as_.length ≤ 9223372036854775807) (d : Nat) : ∀ (k i : Nat), i ≤ as_.length → as_.length - i = d → d < k → tincturelaw7_places.l0 k as_ as_ (i : Int) = some true := by
  induction d with
  | zero =>
    intro k i h1 h2 h3
    obtain ⟨k, rfl⟩ : ∃ m, k = m + 1 := ⟨k - 1, by omega⟩
    simp only [tincturelaw7_places.l0]
    rw [if_neg (by omega)]
  | succ d ih =>
    intro k i h1 h2 h3
    obtain ⟨k, rfl⟩ : ∃ m, k = m + 1 := ⟨k - 1, by omega⟩
    have hi : i < as_.length := by omega
    simp only [tincturelaw7_places.l0]
    rw [if_pos (by omega), if_pos (by omega), if_pos (by omega), if_pos trivial, wrap_up hi hl, ih k (i + 1) (by omega) (by omega) (by omega)]
theorem places_at (k : Nat) (as_ : List Int) (hl : as_.length ≤ 9223372036854775807) (hk : as_.length < k) : tincturelaw7_places.f k as_ as_ = some true := by
  have := places_l0 as_ hl as_.length k 0 (by omega) (by omega) hk
  simpa [tincturelaw7_places.f] using this
end Go.Proofs.Ytlhoaejkjhdlgaa.PlainPPolicyBytes
