/- What policy.Put writes, as a plain function on lists; what Get reads of it is the policy again, and nothing of it cut off; what samePolicy tells. -/
import Derived.Test.YtlhoaejkjhdlgaaPut
import Derived.Test.YtlhoaejkjhdlgaaGet
import Derived.Test.YtlhoaejkjhdlgaaPPolicyBytesx10
import Derived.Test.YtlhoaejkjhdlgaaPPolicyBytesx11
import Derived.Lib.Bytes
namespace Go.Proofs.Ytlhoaejkjhdlgaa.PutPure
open Go Go.RowKit Go.Proofs.Ytlhoaejkjhdlgaa.PPolicyBytes Go.Proofs.YtlhoaejkjhdlgaaW.PrintWords Go.Proofs.YtlhoaejkjhdlgaaW.PrintLast Go.Proofs.YtlhoaejkjhdlgaaW.PrintMore Go.Proofs.Ytlhoaejkjhdlgaa.Reader Go.Proofs.Ytlhoaejkjhdlgaa.Good Go.Proofs.Ytlhoaejkjhdlgaa.Get
set_option linter.unusedVariables false
set_option linter.unusedSimpArgs false
def le4 (v : Int) : List Int := [v % 256, (v / 256) % 256, (v / 65536) % 256, (v / 16777216) % 256]
def sB (s : S35) : List Int := [s.f0 % 256] ++ (le4 s.f1 ++ (le4 s.f2 ++ [s.f3]))
def kB (s : S37) : List Int := [s.f0 % 256, s.f1 % 256, s.f2]
theorem sB_length (s : S35) : (sB s).length = 10 := rfl
theorem kB_length (s : S37) : (kB s).length = 3 := rfl
theorem flat_length {α : Type} (f : α → List Int) (c : Nat) (hf : ∀ x, (f x).length = c) (l : List α) : (l.flatMap f).length = c * l.length := by
  induction l with
  | nil => simp
  | cons x l ih => rw [List.flatMap_cons, List.length_append, hf, ih, List.length_cons, Nat.mul_succ]; omega
theorem flat_drop {α : Type} (f : α → List Int) (c : Nat) (hf : ∀ x, (f x).length = c) (l : List α) : ∀ j, (l.flatMap f).drop (c * j) = (l.drop j).flatMap f := by
  induction l with
  | nil => intro j; simp
  | cons x l ih =>
    intro j
    cases j with
    | zero => simp
    | succ j =>
      rw [List.flatMap_cons, Nat.mul_succ, Nat.add_comm, ← List.drop_drop, List.drop_succ_cons, ← ih j]
      congr 1
      have := List.drop_left (l₁ := f x) (l₂ := l.flatMap f)
      rwa [hf] at this
def tailP (ys : List S37) : List Int := (ys.length : Int) % 256 :: ys.flatMap kB
def putP (p : Bool) (xs : List S35) (ys : List S37) : List Int := [84, 80, 49, if p = true then 1 else 0, (xs.length : Int) % 256] ++ (xs.flatMap sB ++ tailP ys)
theorem four_at (b : List Int) (v : Int) (h : b.length < 1000000) : policy_four.f b v = some (b ++ le4 v) := by
  unfold policy_four.f
  simp only [Option.bind_some, List.length_cons, List.length_nil]
  rw [if_pos (by omega)]; rfl
theorem put_l1 (ys : List S37) (hy : ys.length ≤ 40) (d : Nat) : ∀ (k i : Nat) (acc : List Int), acc.length + 3 * d < 100000 → i ≤ ys.length → ys.length - i = d → d < k →
    policy_Put.l1 k acc ys (ys.length : Int) (i : Int) = some (acc ++ (ys.drop i).flatMap kB, 0) := by
  induction d with
  | zero =>
    intro k i acc ha h1 h2 h3
    obtain ⟨k, rfl⟩ : ∃ m, k = m + 1 := ⟨k - 1, by omega⟩
    simp only [policy_Put.l1]
    rw [if_neg (by omega), show i = ys.length by omega, List.drop_length]; simp
  | succ d ih =>
    intro k i acc ha h1 h2 h3
    obtain ⟨k, rfl⟩ : ∃ m, k = m + 1 := ⟨k - 1, by omega⟩
    have hi : i < ys.length := by omega
    have e : rd_T37 ys (i : Int) = ys[i] := by simp [rd_T37, hi]
    simp only [policy_Put.l1, Option.bind_some, List.length_cons, List.length_nil]
    rw [if_pos (by omega), if_pos (by omega), if_pos (by omega), e, if_pos (by omega), wrap_up hi (by omega), ih k (i + 1) _ (by simp; omega) (by omega) (by omega) (by omega), List.drop_eq_getElem_cons hi]
    simp only [List.flatMap_cons, kB, List.append_assoc, List.cons_append, List.nil_append]
theorem put_l0 (p : Bool) (xs : List S35) (ys : List S37) (hx : xs.length ≤ 40) (hy : ys.length ≤ 40) (d : Nat) : ∀ (k i : Nat) (acc : List Int), acc.length + 10 * d < 50000 → i ≤ xs.length → xs.length - i = d → d + 100 < k →
    policy_Put.l0 k acc xs (xs.length : Int) (i : Int) p xs ys = some (acc ++ ((xs.drop i).flatMap sB ++ tailP ys), 0) := by
  induction d with
  | zero =>
    intro k i acc ha h1 h2 h3
    obtain ⟨k, rfl⟩ : ∃ m, k = m + 1 := ⟨k - 1, by omega⟩
    simp only [policy_Put.l0, Option.bind_some, List.length_cons, List.length_nil]
    rw [if_neg (by omega), show i = xs.length by omega, List.drop_length, if_pos (by omega)]
    have := put_l1 ys hy ys.length k 0 (acc ++ [(ys.length : Int) % 256]) (by simp; omega) (by omega) (by omega) (by omega)
    rw [show ((0 : Nat) : Int) = 0 from rfl] at this
    rw [this]; simp [tailP]
  | succ d ih =>
    intro k i acc ha h1 h2 h3
    obtain ⟨k, rfl⟩ : ∃ m, k = m + 1 := ⟨k - 1, by omega⟩
    have hi : i < xs.length := by omega
    have e : rd_T35 xs (i : Int) = xs[i] := by simp [rd_T35, hi]
    simp only [policy_Put.l0, Option.bind_some, List.length_cons, List.length_nil]
    rw [if_pos (by omega), if_pos (by omega), if_pos (by omega), e, if_pos (by omega), four_at _ _ (by simp; omega), Option.bind_some, four_at _ _ (by simp [le4]; omega), Option.bind_some, if_pos (by simp [le4]; omega), wrap_up hi (by omega),
      ih k (i + 1) _ (by simp [le4]; omega) (by omega) (by omega) (by omega), List.drop_eq_getElem_cons hi]
    simp only [List.flatMap_cons, sB, le4, List.append_assoc, List.cons_append, List.nil_append]
theorem good_at' (k : Nat) (p : Bool) (xs : List S35) (ys : List S37) (hx : xs.length ≤ 40) (hy : ys.length ≤ 40) (hk : 100 < k) : policy_Good.f k p xs ys = some (goodB xs ys) := by
  have := l0_at p xs ys (by omega) (by omega) xs.length k 0 (by omega) (by omega) (by omega)
  simpa [policy_Good.f, goodB] using this
theorem put_at (k : Nat) (p : Bool) (xs : List S35) (ys : List S37) (hx : xs.length ≤ 40) (hy : ys.length ≤ 40) (hk : 300 < k) :
    policy_Put.f k p xs ys = some (if goodB xs ys = true then (putP p xs ys, 0) else ([], 1)) := by
  obtain ⟨k, rfl⟩ : ∃ m, k = m + 1 := ⟨k - 1, by omega⟩
  unfold policy_Put.f
  rw [good_at' _ _ _ _ hx hy (by omega), Option.bind_some]
  by_cases g : goodB xs ys = true
  · rw [if_pos g, if_pos g]
    have h0 := fun acc ha => put_l0 p xs ys hx hy xs.length k 0 acc ha (by omega) (by omega) (by omega)
    simp only [List.drop_zero] at h0
    simp only [Option.bind_some, List.length_cons, List.length_nil, policy_Put.j0]
    by_cases c : p = true
    · rw [if_pos c, if_pos (by omega), if_pos (by simp)]
      rw [show ((0 : Nat) : Int) = 0 from rfl] at h0
      rw [h0 _ (by simp; omega), putP, if_pos c]; rfl
    · rw [if_neg c, if_pos (by omega), if_pos (by simp)]
      rw [show ((0 : Nat) : Int) = 0 from rfl] at h0
      rw [h0 _ (by simp; omega), putP, if_neg c]; rfl
  · rw [if_neg g, if_neg g]
/-! Back again. -/
structure Wf (xs : List S35) (ys : List S37) : Prop where
  hx : ∀ s ∈ xs, 0 ≤ s.f1 ∧ s.f1 < 4294967296 ∧ 0 ≤ s.f2 ∧ s.f2 < 4294967296 ∧ 0 ≤ s.f3 ∧ s.f3 ≤ 255
  hy : ∀ s ∈ ys, 0 ≤ s.f2 ∧ s.f2 ≤ 255
theorem okSrc_f0 {s : S35} (h : okSrc s = true) : 1 ≤ s.f0 ∧ s.f0 ≤ 5 := by
  unfold okSrc policy_goodSource.f at h
  by_cases h1 : s.f0 = 1
  · omega
  by_cases h2 : s.f0 = 4
  · omega
  by_cases h3 : s.f0 = 2
  · omega
  by_cases h4 : s.f0 = 3
  · omega
  by_cases h5 : s.f0 = 5
  · omega
  rw [if_neg h1, if_neg h2, if_neg h3, if_neg h4, if_neg h5] at h
  simp at h
theorem okSnk_f {s : S37} (h : okSnk s = true) : (1 ≤ s.f0 ∧ s.f0 ≤ 5) ∧ 0 ≤ s.f1 ∧ s.f1 ≤ 6 := by
  unfold okSnk policy_goodSink.f at h
  by_cases h1 : s.f0 < 1
  · rw [if_pos h1] at h; simp at h
  by_cases h2 : s.f0 > 5
  · rw [if_neg h1, if_pos h2] at h; simp at h
  rw [if_neg h1, if_neg h2] at h
  refine ⟨by omega, ?_⟩
  by_cases h3 : s.f2 = 0
  · rw [if_pos h3] at h; simp at h
  rw [if_neg h3] at h
  by_cases h4 : s.f1 = 0
  · omega
  rw [if_neg h4] at h
  by_cases h5 : s.f0 = 4
  · rw [if_pos h5] at h
    by_cases h6 : s.f1 > 0
    · rw [if_pos h6] at h; simp at h; omega
    · rw [if_neg h6] at h; simp at h
  · rw [if_neg h5] at h; simp at h
theorem le_le4 (v : Int) (h0 : 0 ≤ v) (h1 : v < 4294967296) (R : List Int) : le 4 (le4 v ++ R) = v := by
  simp only [le4, le, List.cons_append, List.nil_append, List.drop_succ_cons, List.drop_zero, List.headD_cons]
  omega
theorem B_drop (L : List Int) (i j : Nat) : B L (i + j) = B (L.drop i) j := by simp [B, List.drop_drop]
theorem srcAt_drop (L : List Int) (i : Nat) : srcAt L i = srcAt (L.drop i) 0 := by
  simp only [srcAt, List.drop_drop, ← B_drop, Nat.add_zero, Nat.zero_add]
theorem snkAt_drop (L : List Int) (i : Nat) : snkAt L i = snkAt (L.drop i) 0 := by
  simp only [snkAt, ← B_drop, Nat.add_zero, Nat.zero_add]
theorem srcAt_sB (s : S35) (R : List Int) (h0 : 1 ≤ s.f0 ∧ s.f0 ≤ 5) (h : 0 ≤ s.f1 ∧ s.f1 < 4294967296 ∧ 0 ≤ s.f2 ∧ s.f2 < 4294967296 ∧ 0 ≤ s.f3 ∧ s.f3 ≤ 255) : srcAt (sB s ++ R) 0 = s := by
  have a1 : le 4 ((sB s ++ R).drop (0 + 1)) = s.f1 := by
    show le 4 (le4 s.f1 ++ (le4 s.f2 ++ [s.f3]) ++ R) = _
    rw [List.append_assoc, le_le4 _ h.1 h.2.1]
  have a2 : le 4 ((sB s ++ R).drop (0 + 5)) = s.f2 := by
    show le 4 (le4 s.f2 ++ [s.f3] ++ R) = _
    rw [List.append_assoc, le_le4 _ h.2.2.1 h.2.2.2.1]
  rw [srcAt, a1, a2]
  show S35.mk (s.f0 % 256) s.f1 s.f2 s.f3 = s
  rw [show s.f0 % 256 = s.f0 by omega]
theorem snkAt_kB (s : S37) (R : List Int) (h0 : (1 ≤ s.f0 ∧ s.f0 ≤ 5) ∧ 0 ≤ s.f1 ∧ s.f1 ≤ 6) : snkAt (kB s ++ R) 0 = s := by
  show S37.mk (s.f0 % 256) (s.f1 % 256) s.f2 = s
  rw [show s.f0 % 256 = s.f0 by omega, show s.f1 % 256 = s.f1 by omega]
theorem goodB_parts {xs : List S35} {ys : List S37} (h : goodB xs ys = true) : (∀ s ∈ xs, okSrc s = true) ∧ (∀ s ∈ ys, okSnk s = true) ∧ xs.length ≤ 32 ∧ ys.length ≤ 32 := by
  simp only [goodB, few, Bool.and_eq_true, List.all_eq_true, decide_eq_true_eq] at h
  exact ⟨h.1, h.2.1, h.2.2.1, h.2.2.2⟩
section
variable {p : Bool} {xs : List S35} {ys : List S37} (g : goodB xs ys = true) (hw : Wf xs ys)
include g hw
theorem putP_length : (putP p xs ys).length = 6 + 10 * xs.length + 3 * ys.length := by
  have _ := g; have _ := hw
  simp only [putP, tailP, List.length_append, List.length_cons, List.length_nil]
  rw [flat_length sB 10 sB_length, flat_length kB 3 kB_length]; omega
theorem putP_bytes : Bytes (putP p xs ys) := by
  obtain ⟨g1, g2, g3, g4⟩ := goodB_parts g
  intro x hx
  simp only [putP, tailP, List.mem_append, List.mem_cons, List.mem_flatMap, List.not_mem_nil, or_false] at hx
  rcases hx with (rfl | rfl | rfl | rfl | rfl) | ⟨s, hs, hx⟩ | rfl | ⟨s, hs, hx⟩
  · omega
  · omega
  · omega
  · split <;> omega
  · omega
  · have h := hw.hx s hs
    simp only [sB, le4, List.mem_append, List.mem_cons, List.not_mem_nil, or_false] at hx
    rcases hx with rfl | (rfl | rfl | rfl | rfl) | (rfl | rfl | rfl | rfl) | rfl <;> omega
  · omega
  · have h := hw.hy s hs
    simp only [kB, List.mem_cons, List.not_mem_nil, or_false] at hx
    rcases hx with rfl | rfl | rfl <;> omega
theorem putP_drop5 : (putP p xs ys).drop 5 = xs.flatMap sB ++ tailP ys := by
  have _ := g; have _ := hw
  rfl
theorem putP_dropA : (putP p xs ys).drop (5 + 10 * xs.length) = tailP ys := by
  rw [← List.drop_drop, putP_drop5 g hw]
  have := List.drop_left (l₁ := xs.flatMap sB) (l₂ := tailP ys)
  rwa [flat_length sB 10 sB_length] at this
theorem putP_B4 : B (putP p xs ys) 4 = xs.length := by
  have _ := hw
  obtain ⟨g1, g2, g3, g4⟩ := goodB_parts g
  show (xs.length : Int) % 256 = _
  omega
theorem putP_BA : B (putP p xs ys) (5 + 10 * xs.length) = ys.length := by
  obtain ⟨g1, g2, g3, g4⟩ := goodB_parts g
  rw [B, putP_dropA g hw]
  show (ys.length : Int) % 256 = _
  omega
theorem putP_srcs : srcs (putP p xs ys) xs.length = xs := by
  obtain ⟨g1, g2, g3, g4⟩ := goodB_parts g
  apply List.ext_getElem
  · rw [srcs_length]
  · intro j h1 h2
    simp only [srcs, List.getElem_map, List.getElem_range]
    rw [srcAt_drop, ← List.drop_drop, putP_drop5 g hw, List.drop_append_of_le_length (by rw [flat_length sB 10 sB_length]; omega), flat_drop sB 10 sB_length, List.drop_eq_getElem_cons h2, List.flatMap_cons, List.append_assoc]
    exact srcAt_sB _ _ (okSrc_f0 (g1 _ (List.getElem_mem _))) (hw.hx _ (List.getElem_mem _))
theorem putP_snks : snks (putP p xs ys) (6 + 10 * xs.length) ys.length = ys := by
  obtain ⟨g1, g2, g3, g4⟩ := goodB_parts g
  apply List.ext_getElem
  · rw [snks_length]
  · intro j h1 h2
    simp only [snks, List.getElem_map, List.getElem_range]
    rw [snkAt_drop, ← List.drop_drop, show 6 + 10 * xs.length = 5 + 10 * xs.length + 1 by omega, ← List.drop_drop, putP_dropA g hw, tailP, List.drop_succ_cons, List.drop_zero, flat_drop kB 3 kB_length, List.drop_eq_getElem_cons h2, List.flatMap_cons]
    exact snkAt_kB _ _ (okSnk_f (g2 _ (List.getElem_mem _)))
theorem putP_cnt : cntA (putP p xs ys) = xs.length ∧ cntB (putP p xs ys) = ys.length := by
  have h1 : cntA (putP p xs ys) = xs.length := by rw [cntA, putP_B4 g hw]; simp
  exact ⟨h1, by rw [cntB, h1, putP_BA g hw]; simp⟩
theorem get_put : getP (putP p xs ys) = (p, xs, ys, 0) := by
  obtain ⟨c1, c2⟩ := putP_cnt (p := p) g hw
  have h3 : B (putP p xs ys) 3 = if p = true then 1 else 0 := rfl
  have hp : isP (putP p xs ys) := by
    refine ⟨by rw [c1, c2, putP_length g hw], ⟨rfl, rfl, rfl⟩, by rw [h3]; split <;> omega, ?_⟩
    rw [c1, c2, putP_srcs g hw, putP_snks g hw]; exact g
  rw [getP, if_pos hp, c1, c2, putP_srcs g hw, putP_snks g hw, h3]
  cases p <;> rfl
theorem get_cut (c : Nat) (hc : c < (putP p xs ys).length) : getP ((putP p xs ys).take c) = (false, [], [], 3) := by
  rw [getP, if_neg]
  rintro ⟨hl, _⟩
  have hB : ∀ i, i < c → B ((putP p xs ys).take c) i = B (putP p xs ys) i := by
    intro i hi
    rw [B, B, List.drop_take]
    obtain ⟨d, hd⟩ : ∃ d, c - i = d + 1 := ⟨c - i - 1, by omega⟩
    rw [hd]
    cases (putP p xs ys).drop i with
    | nil => rfl
    | cons y l => rfl
  rw [List.length_take, Nat.min_eq_left (by omega)] at hl
  have e1 : cntA ((putP p xs ys).take c) = xs.length := by rw [cntA, hB 4 (by omega), putP_B4 g hw]; simp
  rw [e1] at hl
  have e2 : cntB ((putP p xs ys).take c) = ys.length := by rw [cntB, e1, hB _ (by omega), putP_BA g hw]; simp
  rw [e2] at hl
  rw [putP_length g hw] at hc
  omega
end
theorem bytes_inj : ∀ {a b : List Int}, Bytes a → Bytes b → Go.Lib.bytesOf a = Go.Lib.bytesOf b → a = b := by
  intro a
  induction a with
  | nil => intro b _ _ h; cases b with
    | nil => rfl
    | cons y b => simp [Go.Lib.bytesOf] at h
  | cons x a ih =>
    intro b ha hb h
    cases b with
    | nil => simp [Go.Lib.bytesOf] at h
    | cons y b =>
      simp only [Go.Lib.bytesOf, List.map_cons, List.cons.injEq] at h
      have h1 := ha x (by simp); have h2 := hb y (by simp)
      have h3 := congrArg UInt8.toNat h.1
      simp only [UInt8.toNat_ofNat'] at h3
      have h4 : x = y := by omega
      rw [h4, ih (fun z hz => ha z (List.mem_cons_of_mem _ hz)) (fun z hz => hb z (List.mem_cons_of_mem _ hz)) h.2]
theorem str_eq {a b : List Int} (ha : Bytes a) (hb : Bytes b) : ((strOfNums a).toList == (strOfNums b).toList) = true ↔ a = b := by
  rw [Go.Lib.strOfNums_toList, Go.Lib.strOfNums_toList, beq_iff_eq]
  exact ⟨bytes_inj ha hb, fun h => by rw [h]⟩
/-! samePolicy. -/
theorem S70.ext' {a b : S70} (h : a.f0 = b.f0 ∧ a.f1 = b.f1 ∧ a.f2 = b.f2 ∧ a.f3 = b.f3) : a = b := by
  cases a; cases b; simp only at h; obtain ⟨rfl, rfl, rfl, rfl⟩ := h; rfl
theorem S71.ext' {a b : S71} (h : a.f0 = b.f0 ∧ a.f1 = b.f1 ∧ a.f2 = b.f2) : a = b := by
  cases a; cases b; simp only at h; obtain ⟨rfl, rfl, rfl⟩ := h; rfl
theorem same_l1 (p q : Bool) (xs us : List S70) (ys vs : List S71) (hy : ys.length ≤ 1000000) (hl : ys.length = vs.length) (d : Nat) : ∀ (k i : Nat), i ≤ ys.length → ys.length - i = d → d < k →
    ∃ b, tincturelaw7_samePolicy.l1 k (i : Int) p xs ys q us vs = some b ∧ (b = true ↔ ys.drop i = vs.drop i) := by
  induction d with
  | zero =>
    intro k i h1 h2 h3
    obtain ⟨k, rfl⟩ : ∃ m, k = m + 1 := ⟨k - 1, by omega⟩
    simp only [tincturelaw7_samePolicy.l1]
    rw [if_neg (by omega)]
    refine ⟨true, rfl, ?_⟩
    have hi : i = ys.length := by omega
    rw [hi, List.drop_length, hl, List.drop_length]; simp
  | succ d ih =>
    intro k i h1 h2 h3
    obtain ⟨k, rfl⟩ : ∃ m, k = m + 1 := ⟨k - 1, by omega⟩
    have hi : i < ys.length := by omega
    have hi2 : i < vs.length := by omega
    have e : rd_T71 ys (i : Int) = ys[i] := by simp [rd_T71, hi]
    have e2 : rd_T71 vs (i : Int) = vs[i] := by simp [rd_T71, hi2]
    simp only [tincturelaw7_samePolicy.l1]
    rw [if_pos (by omega), if_pos (by omega), if_pos (by omega), e, e2, wrap_up hi (by omega), List.drop_eq_getElem_cons hi, List.drop_eq_getElem_cons hi2]
    by_cases c : ys[i].f0 = vs[i].f0 ∧ ys[i].f1 = vs[i].f1 ∧ ys[i].f2 = vs[i].f2
    · rw [if_neg (by simp [c])]
      obtain ⟨b, hb, hb2⟩ := ih k (i + 1) (by omega) (by omega) (by omega)
      exact ⟨b, hb, by rw [hb2, S71.ext' c, List.cons.injEq]; exact ⟨fun h => ⟨rfl, h⟩, fun h => h.2⟩⟩
    · rw [if_pos (by simp only [Bool.or_eq_true, Bool.not_eq_true', beq_eq_false_iff_ne]; omega)]
      refine ⟨false, rfl, ?_⟩
      simp only [Bool.false_eq_true, false_iff, List.cons.injEq, not_and]
      intro h; exact absurd (by rw [h]; exact ⟨rfl, rfl, rfl⟩) c
theorem same_l0 (p q : Bool) (xs us : List S70) (ys vs : List S71) (hx : xs.length ≤ 1000000) (hy : ys.length ≤ 1000000) (hlx : xs.length = us.length) (hl : ys.length = vs.length) (d : Nat) : ∀ (k i : Nat), i ≤ xs.length → xs.length - i = d → d + ys.length + 1 < k →
    ∃ b, tincturelaw7_samePolicy.l0 k (i : Int) p xs ys q us vs = some b ∧ (b = true ↔ xs.drop i = us.drop i ∧ ys = vs) := by
  induction d with
  | zero =>
    intro k i h1 h2 h3
    obtain ⟨k, rfl⟩ : ∃ m, k = m + 1 := ⟨k - 1, by omega⟩
    simp only [tincturelaw7_samePolicy.l0]
    rw [if_neg (by omega)]
    have hi : i = xs.length := by omega
    obtain ⟨b, hb, hb2⟩ := same_l1 p q xs us ys vs hy hl ys.length k 0 (by omega) (by omega) (by omega)
    refine ⟨b, hb, ?_⟩
    rw [hb2, hi, List.drop_length, hlx, List.drop_length]; simp
  | succ d ih =>
    intro k i h1 h2 h3
    obtain ⟨k, rfl⟩ : ∃ m, k = m + 1 := ⟨k - 1, by omega⟩
    have hi : i < xs.length := by omega
    have hi2 : i < us.length := by omega
    have e : rd_T70 xs (i : Int) = xs[i] := by simp [rd_T70, hi]
    have e2 : rd_T70 us (i : Int) = us[i] := by simp [rd_T70, hi2]
    simp only [tincturelaw7_samePolicy.l0]
    rw [if_pos (by omega), if_pos (by omega), if_pos (by omega), e, e2, wrap_up hi (by omega), List.drop_eq_getElem_cons hi, List.drop_eq_getElem_cons hi2]
    by_cases c : xs[i].f0 = us[i].f0 ∧ xs[i].f1 = us[i].f1 ∧ xs[i].f2 = us[i].f2 ∧ xs[i].f3 = us[i].f3
    · rw [if_neg (by simp [c])]
      obtain ⟨b, hb, hb2⟩ := ih k (i + 1) (by omega) (by omega) (by omega)
      exact ⟨b, hb, by rw [hb2, S70.ext' c, List.cons.injEq]; exact ⟨fun h => ⟨⟨rfl, h.1⟩, h.2⟩, fun h => ⟨h.1.2, h.2⟩⟩⟩
    · rw [if_pos (by simp only [Bool.or_eq_true, Bool.not_eq_true', beq_eq_false_iff_ne]; omega)]
      refine ⟨false, rfl, ?_⟩
      simp only [Bool.false_eq_true, false_iff, List.cons.injEq, not_and]
      intro h; exact absurd (by rw [h.1]; exact ⟨rfl, rfl, rfl, rfl⟩) c
theorem same_at (k : Nat) (p q : Bool) (xs us : List S70) (ys vs : List S71) (hx : xs.length ≤ 1000000) (hy : ys.length ≤ 1000000) (hk : xs.length + ys.length + 2 < k) :
    ∃ b, tincturelaw7_samePolicy.f k p xs ys q us vs = some b ∧ (b = true ↔ p = q ∧ xs = us ∧ ys = vs) := by
  obtain ⟨k, rfl⟩ : ∃ m, k = m + 1 := ⟨k - 1, by omega⟩
  simp only [tincturelaw7_samePolicy.f, tincturelaw7_samePolicy.j0]
  by_cases h1 : p = q
  · rw [if_neg (by simp [h1])]
    by_cases h2 : xs.length = us.length
    · rw [if_pos (by omega)]
      by_cases h3 : ys.length = vs.length
      · rw [if_neg (by simp [h3])]
        obtain ⟨b, hb, hb2⟩ := same_l0 p q xs us ys vs hx hy h2 h3 xs.length k 0 (by omega) (by omega) (by omega)
        exact ⟨b, hb, by rw [hb2]; simp [h1]⟩
      · rw [if_pos (by simp; omega)]
        exact ⟨false, rfl, by simp; intro _ _ h; exact h3 (by rw [h])⟩
    · rw [if_neg (by omega)]
      exact ⟨false, rfl, by simp; intro _ h; exact absurd (by rw [h]) h2⟩
  · rw [if_pos (by simp [h1])]
    exact ⟨false, rfl, by simp [h1]⟩
/-! The document's own policy. -/
def cS (s : S35) : S70 := ⟨s.f0, s.f1, s.f2, s.f3⟩
def cK (s : S37) : S71 := ⟨s.f0, s.f1, s.f2⟩
theorem cS_inj {xs us : List S35} (h : xs.map cS = us.map cS) : xs = us := by
  refine List.map_inj_right (fun a b hab => ?_) |>.1 h
  cases a; cases b; simp only [cS, S70.mk.injEq] at hab; obtain ⟨rfl, rfl, rfl, rfl⟩ := hab; rfl
theorem cK_inj {xs us : List S37} (h : xs.map cK = us.map cK) : xs = us := by
  refine List.map_inj_right (fun a b hab => ?_) |>.1 h
  cases a; cases b; simp only [cK, S71.mk.injEq] at hab; obtain ⟨rfl, rfl, rfl⟩ := hab; rfl
theorem pol_l1 (p q : Bool) (xs : List S35) (ys : List S37) (us : List S70) (hy : ys.length ≤ 1000000) (d : Nat) : ∀ (k i : Nat) (acc : List S71), acc.length ≤ i → i ≤ ys.length → ys.length - i = d → d < k →
    tincturelaw7_pol.l1 k (i : Int) p xs ys q us acc = some (q, us, acc ++ (ys.drop i).map cK) := by
  induction d with
  | zero =>
    intro k i acc ha h1 h2 h3
    obtain ⟨k, rfl⟩ : ∃ m, k = m + 1 := ⟨k - 1, by omega⟩
    simp only [tincturelaw7_pol.l1]
    rw [if_neg (by omega), show i = ys.length by omega, List.drop_length]; simp
  | succ d ih =>
    intro k i acc ha h1 h2 h3
    obtain ⟨k, rfl⟩ : ∃ m, k = m + 1 := ⟨k - 1, by omega⟩
    have hi : i < ys.length := by omega
    have e : rd_T37 ys (i : Int) = ys[i] := by simp [rd_T37, hi]
    simp only [tincturelaw7_pol.l1]
    rw [if_pos (by omega), if_pos (by omega), if_pos (by omega), e, wrap_up hi (by omega), ih k (i + 1) _ (by simp; omega) (by omega) (by omega) (by omega), List.drop_eq_getElem_cons hi]
    simp only [List.map_cons, List.append_assoc, List.singleton_append, cK]
theorem pol_l0 (p q : Bool) (xs : List S35) (ys : List S37) (hx : xs.length ≤ 1000000) (hy : ys.length ≤ 1000000) (d : Nat) : ∀ (k i : Nat) (acc : List S70), acc.length ≤ i → i ≤ xs.length → xs.length - i = d → d + ys.length + 1 < k →
    tincturelaw7_pol.l0 k (i : Int) p xs ys q acc = some (q, acc ++ (xs.drop i).map cS, ys.map cK) := by
  induction d with
  | zero =>
    intro k i acc ha h1 h2 h3
    obtain ⟨k, rfl⟩ : ∃ m, k = m + 1 := ⟨k - 1, by omega⟩
    simp only [tincturelaw7_pol.l0]
    rw [if_neg (by omega), show i = xs.length by omega, List.drop_length]
    have := pol_l1 p q xs ys acc hy ys.length k 0 [] (by simp) (by omega) (by omega) (by omega)
    simpa using this
  | succ d ih =>
    intro k i acc ha h1 h2 h3
    obtain ⟨k, rfl⟩ : ∃ m, k = m + 1 := ⟨k - 1, by omega⟩
    have hi : i < xs.length := by omega
    have e : rd_T35 xs (i : Int) = xs[i] := by simp [rd_T35, hi]
    simp only [tincturelaw7_pol.l0]
    rw [if_pos (by omega), if_pos (by omega), if_pos (by omega), e, wrap_up hi (by omega), ih k (i + 1) _ (by simp; omega) (by omega) (by omega) (by omega), List.drop_eq_getElem_cons hi]
    simp only [List.map_cons, List.append_assoc, List.singleton_append, cS]
theorem pol_at (k : Nat) (p : Bool) (xs : List S35) (ys : List S37) (hx : xs.length ≤ 1000000) (hy : ys.length ≤ 1000000) (hk : xs.length + ys.length + 1 < k) : tincturelaw7_pol.f k p xs ys = some (p, xs.map cS, ys.map cK) := by
  have := pol_l0 p p xs ys hx hy xs.length k 0 [] (by simp) (by omega) (by omega) hk
  simpa [tincturelaw7_pol.f] using this
end Go.Proofs.Ytlhoaejkjhdlgaa.PutPure
