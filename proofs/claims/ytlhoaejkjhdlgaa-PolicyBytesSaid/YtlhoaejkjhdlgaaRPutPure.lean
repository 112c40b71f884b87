/- What the reference's PutPolicy writes, plainly: what the program's Put writes. -/
import Derived.Test.YtlhoaejkjhdlgaaMayPure
import Derived.Test.YtlhoaejkjhdlgaaPutRef
namespace Go.Proofs.Ytlhoaejkjhdlgaa.RPutPure
open Go Go.RowKit Go.Proofs.Ytlhoaejkjhdlgaa.PPolicyBytes Go.Proofs.YtlhoaejkjhdlgaaW.PrintWords Go.Proofs.YtlhoaejkjhdlgaaW.PrintLast Go.Proofs.YtlhoaejkjhdlgaaW.PrintMore Go.Proofs.Ytlhoaejkjhdlgaa.Reader Go.Proofs.Ytlhoaejkjhdlgaa.Good Go.Proofs.Ytlhoaejkjhdlgaa.Get Go.Proofs.Ytlhoaejkjhdlgaa.PutPure Go.Proofs.Ytlhoaejkjhdlgaa.MayPure
set_option linter.unusedVariables false
set_option linter.unusedSimpArgs false
theorem w32_at (b : List Int) (v : Int) (h : b.length < 1000000) : tinctureref7_W32.f b v = some (b ++ le4 v) := by
  unfold tinctureref7_W32.f
  simp only [Option.bind_some, List.length_cons, List.length_nil, List.nil_append]
  rw [if_pos (by omega), if_pos (by omega)]; rfl
theorem rput_l1 (p : Bool) (us : List S70) (ys : List S37) (hy : ys.length ≤ 40) (d : Nat) : ∀ (k i : Nat) (acc : List Int), acc.length + 3 * d < 100000 → i ≤ ys.length → ys.length - i = d → d < k →
    tinctureref7_PutPolicy.l1 k acc (i : Int) p us (ys.map cK) = some (acc ++ (ys.drop i).flatMap kB, true) := by
  induction d with
  | zero =>
    intro k i acc ha h1 h2 h3
    obtain ⟨k, rfl⟩ : ∃ m, k = m + 1 := ⟨k - 1, by omega⟩
    simp only [tinctureref7_PutPolicy.l1]
    rw [if_neg (by simp; omega), show i = ys.length by omega, List.drop_length]; simp
  | succ d ih =>
    intro k i acc ha h1 h2 h3
    obtain ⟨k, rfl⟩ : ∃ m, k = m + 1 := ⟨k - 1, by omega⟩
    have hi : i < ys.length := by omega
    have e : rd_T71 (ys.map cK) (i : Int) = cK ys[i] := by simp [rd_T71, hi]
    simp only [tinctureref7_PutPolicy.l1, Option.bind_some, List.length_cons, List.length_nil]
    rw [if_pos (by simp; omega), if_pos (by omega), e, if_pos (by omega), wrap_up hi (by omega), ih k (i + 1) _ (by simp; omega) (by omega) (by omega) (by omega), List.drop_eq_getElem_cons hi]
    simp only [List.flatMap_cons, kB, cK, List.append_assoc, List.cons_append, List.nil_append]
theorem rput_l0 (p : Bool) (xs : List S35) (ys : List S37) (hx : xs.length ≤ 40) (hy : ys.length ≤ 40) (d : Nat) : ∀ (k i : Nat) (acc : List Int), acc.length + 10 * d < 50000 → i ≤ xs.length → xs.length - i = d → d + 100 < k →
    tinctureref7_PutPolicy.l0 k acc (i : Int) p (xs.map cS) (ys.map cK) = some (acc ++ ((xs.drop i).flatMap sB ++ tailP ys), true) := by
  induction d with
  | zero =>
    intro k i acc ha h1 h2 h3
    obtain ⟨k, rfl⟩ : ∃ m, k = m + 1 := ⟨k - 1, by omega⟩
    simp only [tinctureref7_PutPolicy.l0, Option.bind_some, List.length_cons, List.length_nil, List.length_map]
    rw [if_neg (by omega), show i = xs.length by omega, List.drop_length, if_pos (by omega)]
    have := rput_l1 p (xs.map cS) ys hy ys.length k 0 (acc ++ [(ys.length : Int) % 256]) (by simp; omega) (by omega) (by omega) (by omega)
    rw [show ((0 : Nat) : Int) = 0 from rfl] at this
    rw [this]; simp [tailP]
  | succ d ih =>
    intro k i acc ha h1 h2 h3
    obtain ⟨k, rfl⟩ : ∃ m, k = m + 1 := ⟨k - 1, by omega⟩
    have hi : i < xs.length := by omega
    have e : rd_T70 (xs.map cS) (i : Int) = cS xs[i] := by simp [rd_T70, hi]
    simp only [tinctureref7_PutPolicy.l0, Option.bind_some, List.length_cons, List.length_nil]
    rw [if_pos (by simp; omega), if_pos (by omega), e, if_pos (by omega), w32_at _ _ (by simp; omega), Option.bind_some, w32_at _ _ (by simp [le4]; omega), Option.bind_some, if_pos (by simp [le4]; omega), wrap_up hi (by omega),
      ih k (i + 1) _ (by simp [le4]; omega) (by omega) (by omega) (by omega), List.drop_eq_getElem_cons hi]
    simp only [List.flatMap_cons, sB, cS, le4, List.append_assoc, List.cons_append, List.nil_append]
theorem rput_at (p : Bool) (xs : List S35) (ys : List S37) (hx : xs.length ≤ 40) (hy : ys.length ≤ 40) (hw : ∀ s ∈ xs, 0 ≤ s.f1 ∧ s.f1 < 4294967296 ∧ 0 ≤ s.f2 ∧ s.f2 < 4294967296 ∧ 0 ≤ s.f3 ∧ s.f3 ≤ 255) :
    ∃ k, tinctureref7_PutPolicy.f k p (xs.map cS) (ys.map cK) = some (if goodB xs ys = true then (putP p xs ys, true) else ([], false)) := by
  obtain ⟨k0, h0⟩ := may_at p xs ys (by omega) (by omega) hw
  refine ⟨k0 + 301, ?_⟩
  unfold tinctureref7_PutPolicy.f
  rw [h0 _ (by omega), Option.bind_some]
  by_cases g : goodB xs ys = true
  · rw [if_pos g, if_pos g]
    have h0 := fun acc ha => rput_l0 p xs ys hx hy xs.length (k0 + 300) 0 acc ha (by omega) (by omega) (by omega)
    simp only [List.drop_zero] at h0
    simp only [Option.bind_some, List.length_cons, List.length_nil, List.length_map, tinctureref7_PutPolicy.j0]
    rw [show ((0 : Nat) : Int) = 0 from rfl] at h0
    by_cases c : p = true
    · rw [if_pos c, if_pos (by omega)]
      rw [h0 _ (by simp; omega), putP, if_pos c]; rfl
    · rw [if_neg c]
      rw [h0 _ (by first | (simp; done) | (simp; omega)), putP, if_neg c]
  · rw [if_neg g, if_neg g]
end Go.Proofs.Ytlhoaejkjhdlgaa.RPutPure
