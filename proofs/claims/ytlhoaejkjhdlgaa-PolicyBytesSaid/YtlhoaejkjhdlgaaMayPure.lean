/- What the reference's MayPolicy answers, plainly: what the program's Good answers. -/
import Derived.Test.YtlhoaejkjhdlgaaPutPure
import Derived.Test.YtlhoaejkjhdlgaaPPolicyBytesx7
namespace Go.Proofs.Ytlhoaejkjhdlgaa.MayPure
open Go Go.RowKit Go.Proofs.Ytlhoaejkjhdlgaa.PPolicyBytes Go.Proofs.YtlhoaejkjhdlgaaW.PrintWords Go.Proofs.YtlhoaejkjhdlgaaW.PrintLast Go.Proofs.YtlhoaejkjhdlgaaW.PrintMore Go.Proofs.Ytlhoaejkjhdlgaa.Reader Go.Proofs.Ytlhoaejkjhdlgaa.Good Go.Proofs.Ytlhoaejkjhdlgaa.Get Go.Proofs.Ytlhoaejkjhdlgaa.PutPure
set_option linter.unusedVariables false
set_option linter.unusedSimpArgs false
theorem may_l1 (p : Bool) (us : List S70) (ys : List S37) (hy : ys.length ≤ 1000) (d : Nat) : ∀ i, i ≤ ys.length → ys.length - i = d → ∃ k0, ∀ k, k0 ≤ k → tinctureref7_MayPolicy.l1 k (i : Int) p us (ys.map cK) = some ((ys.drop i).all okSnk) := by
  induction d with
  | zero =>
    intro i h1 h2
    refine ⟨1, fun k hk => ?_⟩
    obtain ⟨k, rfl⟩ : ∃ m, k = m + 1 := ⟨k - 1, by omega⟩
    have hi : i = ys.length := by omega
    simp only [tinctureref7_MayPolicy.l1]
    rw [if_neg (by simp; omega), hi, List.drop_length]
    rfl
  | succ d ih =>
    intro i h1 h2
    have hi : i < ys.length := by omega
    obtain ⟨k0, hk0⟩ := ih (i + 1) (by omega) (by omega)
    refine ⟨k0 + 1, fun k hk => ?_⟩
    obtain ⟨k, rfl⟩ : ∃ m, k = m + 1 := ⟨k - 1, by omega⟩
    have hn := hk0 k (by omega)
    simp only [tinctureref7_MayPolicy.l1]
    have e : rd_T71 (ys.map cK) (i : Int) = cK ys[i] := by simp [rd_T71, hi]
    rw [if_pos (by simp; omega), if_pos (by omega), e, List.drop_eq_getElem_cons hi, List.all_cons, show wrap64 ((i : Int) + 1) = ((i + 1 : Nat) : Int) by unfold wrap64; omega, hn]
    have f0 : (cK ys[i]).f0 = ys[i].f0 := rfl
    have f1 : (cK ys[i]).f1 = ys[i].f1 := rfl
    have f2 : (cK ys[i]).f2 = ys[i].f2 := rfl
    rw [f0, f1, f2]
    have ho := snk_at ys[i]
    unfold policy_goodSink.f at ho
    generalize ys[i] = s at *
    generalize (ys.drop (i + 1)).all okSnk = R
    by_cases c1 : s.f0 < 1
    · rw [if_pos c1] at ho ⊢; rw [← Option.some.inj ho]; rfl
    rw [if_neg c1] at ho ⊢
    by_cases c2 : s.f0 > 5
    · rw [if_pos c2] at ho ⊢; rw [← Option.some.inj ho]; rfl
    rw [if_neg c2] at ho ⊢
    by_cases c3 : s.f2 = 0
    · rw [if_pos c3] at ho ⊢; rw [← Option.some.inj ho]; rfl
    rw [if_neg c3] at ho ⊢
    by_cases c4 : s.f1 = 0
    · rw [if_pos c4] at ho
      rw [← Option.some.inj ho, if_neg (by omega)]
      by_cases c5 : s.f0 = 4
      · rw [if_pos c5, if_neg (by omega)]; rfl
      · rw [if_neg c5, if_pos c4]; rfl
    rw [if_neg c4] at ho
    by_cases c5 : s.f0 = 4
    · rw [if_pos c5] at ho
      by_cases c6 : s.f1 > 0
      · rw [if_pos c6] at ho
        rw [← Option.some.inj ho, if_neg (by omega), if_pos c5]
        by_cases c7 : s.f1 > 6
        · rw [if_pos c7, decide_eq_false (by omega)]; rfl
        · rw [if_neg c7, decide_eq_true (by omega)]; rfl
      · rw [if_neg c6] at ho
        rw [← Option.some.inj ho, if_pos (by omega)]; rfl
    · rw [if_neg c5] at ho
      rw [← Option.some.inj ho]
      by_cases c6 : s.f1 < 0
      · rw [if_pos c6]; rfl
      · rw [if_neg c6, if_neg c5, if_neg c4]; rfl
theorem may_l0 (p : Bool) (xs : List S35) (vs : List S71) (R : Bool) (hx : xs.length ≤ 1000) (hw : ∀ s ∈ xs, 0 ≤ s.f1 ∧ s.f1 < 4294967296 ∧ 0 ≤ s.f2 ∧ s.f2 < 4294967296 ∧ 0 ≤ s.f3 ∧ s.f3 ≤ 255) (h1 : ∃ k0, ∀ k, k0 ≤ k → tinctureref7_MayPolicy.l1 k 0 p (xs.map cS) vs = some R) (d : Nat) :
    ∀ i, i ≤ xs.length → xs.length - i = d → ∃ k0, ∀ k, k0 ≤ k → tinctureref7_MayPolicy.l0 k (i : Int) p (xs.map cS) vs = some ((xs.drop i).all okSrc && R) := by
  induction d with
  | zero =>
    intro i h2 h3
    obtain ⟨k0, hk0⟩ := h1
    refine ⟨k0 + 1, fun k hk => ?_⟩
    obtain ⟨k, rfl⟩ : ∃ m, k = m + 1 := ⟨k - 1, by omega⟩
    have hi : i = xs.length := by omega
    simp only [tinctureref7_MayPolicy.l0]
    rw [if_neg (by simp; omega), hi, List.drop_length, hk0 k (by omega)]
    rfl
  | succ d ih =>
    intro i h2 h3
    have hi : i < xs.length := by omega
    obtain ⟨k0, hk0⟩ := ih (i + 1) (by omega) (by omega)
    refine ⟨k0 + 2, fun k hk => ?_⟩
    obtain ⟨k, rfl⟩ : ∃ m, k = m + 2 := ⟨k - 2, by omega⟩
    have hn := hk0 k (by omega)
    have hn1 := hk0 (k + 1) (by omega)
    rw [tinctureref7_MayPolicy.l0]
    simp only [tinctureref7_MayPolicy.j2]
    have e : rd_T70 (xs.map cS) (i : Int) = cS xs[i] := by simp [rd_T70, hi]
    rw [if_pos (by simp; omega), if_pos (by omega), e, List.drop_eq_getElem_cons hi, List.all_cons, show wrap64 ((i : Int) + 1) = ((i + 1 : Nat) : Int) by unfold wrap64; omega, hn, hn1]
    have f0 : (cS xs[i]).f0 = xs[i].f0 := rfl
    have f1 : (cS xs[i]).f1 = xs[i].f1 := rfl
    have f2 : (cS xs[i]).f2 = xs[i].f2 := rfl
    have f3 : (cS xs[i]).f3 = xs[i].f3 := rfl
    rw [f0, f1, f2, f3]
    have ho := src_at xs[i]
    have hb := hw xs[i] (List.getElem_mem hi)
    unfold policy_goodSource.f at ho
    generalize xs[i] = s at *
    generalize (xs.drop (i + 1)).all okSrc = Q
    have hwr : wrap64 (wrap64 s.f1 + wrap64 s.f2) = s.f1 + s.f2 := by unfold wrap64; omega
    have hur : IntKind.u64.wrap (IntKind.u64.wrap s.f1 + IntKind.u64.wrap s.f2) = s.f1 + s.f2 := by
      simp only [IntKind.wrap_u64]; omega
    rw [hwr]
    rw [hur] at ho
    clear hwr hur
    by_cases c1 : s.f0 = 1
    · rw [if_pos c1] at ho ⊢
      by_cases d2 : s.f2 = 0
      · rw [if_pos d2] at ho ⊢
        rw [← Option.some.inj ho]
        by_cases d3 : s.f3 = 0
        · rw [if_pos d3]; simp [d3]
        · rw [if_neg d3, show (s.f3 != 0) = true by simpa using d3]; rfl
      · rw [if_neg d2] at ho ⊢
        rw [← Option.some.inj ho]
        simp
    rw [if_neg c1] at ho ⊢
    by_cases c4 : s.f0 = 4
    · rw [if_pos c4] at ho
      rw [c4]
      simp only [show ((4 : Int) == 2) = false from rfl, show ((4 : Int) == 3) = false from rfl, show ((4 : Int) == 5) = false from rfl, if_neg (by decide : ¬ (false = true)), if_neg (by decide : ¬ ((4 : Int) = 2)), if_neg (by decide : ¬ ((4 : Int) = 3)), if_true]
      by_cases d2 : s.f2 = 0
      · rw [if_pos d2] at ho
        rw [← Option.some.inj ho, if_pos d2]
        simp
      · rw [if_neg d2] at ho
        rw [if_neg d2]
        by_cases d1 : s.f1 + s.f2 ≤ 4294967296
        · rw [if_pos d1] at ho
          rw [← Option.some.inj ho, if_pos d1]
          by_cases d3 : s.f3 = 0
          · simp [d3]
          · rw [show (s.f3 != 0) = true by simpa using d3]; rfl
        · rw [if_neg d1] at ho
          rw [← Option.some.inj ho, if_neg d1]
          simp
    rw [if_neg c4] at ho
    have key : ∀ (r : Option Bool), (if s.f1 = 0 then (if s.f2 = 0 then (some (s.f3 != 0)) else (some false)) else (some false)) = some (okSrc s) →
        (if (s.f3 != 0) = true then (if s.f1 = 0 then (if s.f2 = 0 then some (Q && R) else some false) else some false) else some false) = some (okSrc s && Q && R) := by
      intro _ ho
      by_cases d1 : s.f1 = 0
      · rw [if_pos d1] at ho ⊢
        by_cases d2 : s.f2 = 0
        · rw [if_pos d2] at ho ⊢
          rw [← Option.some.inj ho]
          by_cases d3 : s.f3 = 0
          · simp [d3]
          · rw [show (s.f3 != 0) = true by simpa using d3]; rfl
        · rw [if_neg d2] at ho ⊢
          rw [← Option.some.inj ho]
          simp
      · rw [if_neg d1] at ho ⊢
        rw [← Option.some.inj ho]
        simp
    by_cases c2 : s.f0 = 2
    · rw [if_pos c2] at ho ⊢
      rw [c2]
      simp only [show ((2 : Int) == 2) = true from rfl, if_true]
      exact key none ho
    rw [if_neg c2] at ho ⊢
    by_cases c3 : s.f0 = 3
    · rw [if_pos c3] at ho ⊢
      rw [c3]
      simp only [show ((3 : Int) == 3) = true from rfl, if_true]
      exact key none ho
    rw [if_neg c3] at ho ⊢
    by_cases c5 : s.f0 = 5
    · rw [if_pos c5] at ho
      rw [c5]
      simp only [show ((5 : Int) == 5) = true from rfl, if_true]
      exact key none ho
    · rw [if_neg c5] at ho
      rw [← Option.some.inj ho, if_neg (by simpa using c5), if_neg c4]
      simp
theorem may_at (p : Bool) (xs : List S35) (ys : List S37) (hx : xs.length ≤ 1000) (hy : ys.length ≤ 1000) (hw : ∀ s ∈ xs, 0 ≤ s.f1 ∧ s.f1 < 4294967296 ∧ 0 ≤ s.f2 ∧ s.f2 < 4294967296 ∧ 0 ≤ s.f3 ∧ s.f3 ≤ 255) :
    ∃ k0, ∀ k, k0 ≤ k → tinctureref7_MayPolicy.f k p (xs.map cS) (ys.map cK) = some (goodB xs ys) := by
  obtain ⟨k0, h0⟩ := may_l0 p xs (ys.map cK) _ hx hw (by simpa using may_l1 p (xs.map cS) ys hy ys.length 0 (by omega) (by omega)) xs.length 0 (by omega) (by omega)
  refine ⟨k0 + 1, fun k hk => ?_⟩
  obtain ⟨k, rfl⟩ : ∃ m, k = m + 1 := ⟨k - 1, by omega⟩
  have h := h0 k (by omega)
  unfold tinctureref7_MayPolicy.f goodB few
  rw [List.length_map, List.length_map]
  by_cases c1 : xs.length ≤ 32
  · rw [if_neg (by omega), decide_eq_true c1]
    by_cases c2 : ys.length ≤ 32
    · rw [decide_eq_false (by omega), decide_eq_true c2, tinctureref7_MayPolicy.j0, if_neg (by decide)]
      simp at h
      simpa using h
    · rw [decide_eq_true (by omega), decide_eq_false c2, tinctureref7_MayPolicy.j0, if_pos rfl]
      simp
  · rw [if_pos (by omega), decide_eq_false c1, tinctureref7_MayPolicy.j0, if_pos rfl]
    simp
end Go.Proofs.Ytlhoaejkjhdlgaa.MayPure
