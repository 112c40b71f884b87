/- Which policies may be: what the program's Good answers, as a plain function on lists. -/
import Derived.Test.YtlhoaejkjhdlgaaPPolicyBytesx3
namespace Go.Proofs.Ytlhoaejkjhdlgaa.Good
open Go Go.RowKit Go.Proofs.Ytlhoaejkjhdlgaa.PPolicyBytes Go.Proofs.YtlhoaejkjhdlgaaW.PrintWords Go.Proofs.YtlhoaejkjhdlgaaW.PrintLast Go.Proofs.YtlhoaejkjhdlgaaW.PrintMore
set_option linter.unusedVariables false
set_option linter.unusedSimpArgs false

def okSrc (s : S35) : Bool := (policy_goodSource.f s.f0 s.f1 s.f2 s.f3).getD false
def okSnk (s : S37) : Bool := (policy_goodSink.f s.f0 s.f1 s.f2).getD false
theorem src_at (s : S35) : policy_goodSource.f s.f0 s.f1 s.f2 s.f3 = some (okSrc s) := by
  have h : ∃ b, policy_goodSource.f s.f0 s.f1 s.f2 s.f3 = some b := by
    unfold policy_goodSource.f
    repeat' (first | exact ⟨_, rfl⟩ | split)
  obtain ⟨b, h⟩ := h
  rw [okSrc, h]; rfl
theorem snk_at (s : S37) : policy_goodSink.f s.f0 s.f1 s.f2 = some (okSnk s) := by
  have h : ∃ b, policy_goodSink.f s.f0 s.f1 s.f2 = some b := by
    unfold policy_goodSink.f
    repeat' (first | exact ⟨_, rfl⟩ | split)
  obtain ⟨b, h⟩ := h
  rw [okSnk, h]; rfl
def few (xs : List S35) (ys : List S37) : Bool := decide (xs.length ≤ 32) && decide (ys.length ≤ 32)
def goodB (xs : List S35) (ys : List S37) : Bool := xs.all okSrc && (ys.all okSnk && few xs ys)
theorem wrap_up {i n : Nat} (h : i < n) (hn : n ≤ 9223372036854775807) : wrap64 ((i : Int) + 1) = ((i + 1 : Nat) : Int) := by unfold wrap64; omega
theorem l1_at (p : Bool) (xs : List S35) (ys : List S37) (hy : ys.length ≤ 9223372036854775807) (d : Nat) : ∀ (k i : Nat), i ≤ ys.length → ys.length - i = d → d < k →
    policy_Good.l1 k ys (ys.length : Int) (i : Int) p xs ys = some ((ys.drop i).all okSnk && few xs ys) := by
  induction d with
  | zero =>
    intro k i h1 h2 h3
    obtain ⟨k, rfl⟩ : ∃ m, k = m + 1 := ⟨k - 1, by omega⟩
    have hi : i = ys.length := by omega
    simp only [policy_Good.l1]
    rw [if_neg (by omega), hi, List.drop_length]
    rw [List.all_nil, Bool.true_and]
    unfold few
    split
    · rw [decide_eq_true (by omega : xs.length ≤ 32), Bool.true_and]
      congr 2
      rw [eq_iff_iff]; omega
    · rw [decide_eq_false (by omega : ¬ xs.length ≤ 32), Bool.false_and]
  | succ d ih =>
    intro k i h1 h2 h3
    obtain ⟨k, rfl⟩ : ∃ m, k = m + 1 := ⟨k - 1, by omega⟩
    have hi : i < ys.length := by omega
    simp only [policy_Good.l1]
    rw [if_pos (by omega), if_pos (by omega), if_pos (by omega), snk_at, Option.bind_some]
    have e : rd_T37 ys (i : Int) = ys[i] := by simp [rd_T37, hi]
    rw [e, List.drop_eq_getElem_cons hi, List.all_cons]
    cases h : okSnk ys[i] with
    | true => simp only [if_true]; rw [wrap_up hi hy, ih k (i + 1) (by omega) (by omega) (by omega)]; simp
    | false => simp
theorem l0_at (p : Bool) (xs : List S35) (ys : List S37) (hx : xs.length ≤ 9223372036854775807) (hy : ys.length ≤ 9223372036854775807) (d : Nat) : ∀ (k i : Nat), i ≤ xs.length → xs.length - i = d → d + ys.length + 1 < k →
    policy_Good.l0 k xs (xs.length : Int) (i : Int) p xs ys = some ((xs.drop i).all okSrc && (ys.all okSnk && few xs ys)) := by
  induction d with
  | zero =>
    intro k i h1 h2 h3
    obtain ⟨k, rfl⟩ : ∃ m, k = m + 1 := ⟨k - 1, by omega⟩
    have hi : i = xs.length := by omega
    simp only [policy_Good.l0]
    rw [if_neg (by omega), hi, List.drop_length]
    have := l1_at p xs ys hy ys.length k 0 (by omega) (by omega) (by omega)
    simpa using this
  | succ d ih =>
    intro k i h1 h2 h3
    obtain ⟨k, rfl⟩ : ∃ m, k = m + 1 := ⟨k - 1, by omega⟩
    have hi : i < xs.length := by omega
    simp only [policy_Good.l0]
    rw [if_pos (by omega), if_pos (by omega), if_pos (by omega), src_at, Option.bind_some]
    have e : rd_T35 xs (i : Int) = xs[i] := by simp [rd_T35, hi]
    rw [e, List.drop_eq_getElem_cons hi, List.all_cons]
    cases h : okSrc xs[i] with
    | true => simp only [if_true]; rw [wrap_up hi hx, ih k (i + 1) (by omega) (by omega) (by omega)]; simp
    | false => simp
theorem good_at (p : Bool) (xs : List S35) (ys : List S37) (hx : xs.length ≤ 9223372036854775807) (hy : ys.length ≤ 9223372036854775807) : policy_Good.f (xs.length + ys.length + 2) p xs ys = some (goodB xs ys) := by
  have := l0_at p xs ys hx hy xs.length (xs.length + ys.length + 2) 0 (by omega) (by omega) (by omega)
  simpa [policy_Good.f, goodB] using this
end Go.Proofs.Ytlhoaejkjhdlgaa.Good
