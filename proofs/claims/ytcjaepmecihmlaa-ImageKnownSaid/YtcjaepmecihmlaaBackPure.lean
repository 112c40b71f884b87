/- An image is read back as it; cut off anywhere it is none: the plain function that the walk computes answers true. -/
import Derived.Test.YtcjaepmecihmlaaGetPure
namespace Go.Proofs.Ytcjaepmecihmlaa.BackPure
open Go Go.RowKit Go.Proofs.Ytcjaepmecihmlaa.Img Go.Proofs.YtcjaepmecihmlaaW.PrintWords Go.Proofs.YtcjaepmecihmlaaW.PrintLast Go.Proofs.YtcjaepmecihmlaaW.PrintMore Go.Proofs.Ytcjaepmecihmlaa.ImgPure Go.Proofs.Ytcjaepmecihmlaa.GetPure
set_option linter.unusedVariables false
set_option linter.unusedSimpArgs false
/-- Numbers of their kinds. -/
structure Wf (e : Int) (xs : List S30) : Prop where
  he : 0 ≤ e ∧ e < 4294967296
  hs : ∀ s ∈ xs, 0 ≤ s.f0 ∧ s.f0 < 4294967296 ∧ 0 ≤ s.f1 ∧ s.f1 < 4294967296 ∧ Bytes s.f3
theorem row_fld (at_ : Nat) (s : S30) (R : List Int) (ha : at_ < 4294967296) (hl : s.f3.length < 4294967296) (h2 : 0 ≤ s.f2 ∧ s.f2 ≤ 7) (hw : 0 ≤ s.f0 ∧ s.f0 < 4294967296 ∧ 0 ≤ s.f1 ∧ s.f1 < 4294967296 ∧ Bytes s.f3) :
    le 4 (rowP at_ s ++ R) = 1 ∧ le 4 ((rowP at_ s ++ R).drop 4) = at_ ∧ le 4 ((rowP at_ s ++ R).drop 8) = s.f0 ∧ le 4 ((rowP at_ s ++ R).drop 12) = s.f0 ∧ le 4 ((rowP at_ s ++ R).drop 16) = s.f3.length ∧ le 4 ((rowP at_ s ++ R).drop 20) = s.f1 ∧ le 4 ((rowP at_ s ++ R).drop 24) = turn s.f2 ∧ le 4 ((rowP at_ s ++ R).drop 28) = 256 := by
  obtain ⟨a1, a2, b1, b2, _⟩ := hw
  have ht := (turn_7 s.f2 h2.1 h2.2).1
  have e : rowP at_ s ++ R = leB 4 1 ++ (leB 4 ((at_ : Int) % 4294967296) ++ (leB 4 s.f0 ++ (leB 4 s.f0 ++ (leB 4 ((s.f3.length : Int) % 4294967296) ++ (leB 4 s.f1 ++ (leB 4 (turn s.f2 % 4294967296) ++ (leB 4 256 ++ R))))))) := by
    simp only [rowP, List.flatMap_cons, List.flatMap_nil, List.append_assoc, List.nil_append]
  have dr : ∀ (v : Int) (X : List Int), (leB 4 v ++ X).drop 4 = X := fun v X => by
    have h := List.drop_left (l₁ := leB 4 v) (l₂ := X); rwa [leB_length] at h
  have m1 : (at_ : Int) % 4294967296 = at_ := by omega
  have m2 : (s.f3.length : Int) % 4294967296 = s.f3.length := by omega
  have m3 : turn s.f2 % 4294967296 = turn s.f2 := by omega
  rw [e, m1, m2, m3]
  rw [show 8 = 4 + 4 from rfl, show 12 = 4 + 4 + 4 from rfl, show 16 = 4 + 4 + 4 + 4 from rfl, show 20 = 4 + 4 + 4 + 4 + 4 from rfl, show 24 = 4 + 4 + 4 + 4 + 4 + 4 from rfl, show 28 = 4 + 4 + 4 + 4 + 4 + 4 + 4 from rfl]
  simp only [← List.drop_drop, dr]
  exact ⟨le_leB4 _ (by omega) (by omega) _, le_leB4 _ (by omega) (by omega) _, le_leB4 _ a1 a2 _, le_leB4 _ a1 a2 _, le_leB4 _ (by omega) (by omega) _, le_leB4 _ b1 b2 _, le_leB4 _ (by omega) (by omega) _, le_leB4 _ (by omega) (by omega) _⟩
/-- Where the bytes of segment i begin. -/
def offP (xs : List S30) (i : Nat) : Nat := 52 + 32 * xs.length + (allP (xs.take i)).length
theorem tab_drop (xs : List S30) : ∀ (a i : Nat), i ≤ xs.length → (tabP a xs).drop (32 * i) = tabP (a + (allP (xs.take i)).length) (xs.drop i) := by
  induction xs with
  | nil => intro a i hi; have h0 : i = 0 := (by simpa using hi); subst h0; rfl
  | cons s xs ih =>
    intro a i hi
    cases i with
    | zero => simp [allP]
    | succ i =>
      simp only [tabP, List.drop_succ_cons, List.take_succ_cons, allP, List.flatMap_cons, List.length_append]
      have h := List.drop_left (l₁ := rowP a s) (l₂ := tabP (a + s.f3.length) xs)
      rw [rowP_length] at h
      rw [show 32 * (i + 1) = 32 + 32 * i by omega, ← List.drop_drop, h, ih _ i (by simpa using hi), Nat.add_assoc]; rfl
theorem all_drop (xs : List S30) : ∀ i, (allP xs).drop (allP (xs.take i)).length = allP (xs.drop i) := by
  induction xs with
  | nil => intro i; simp [allP]
  | cons s xs ih =>
    intro i
    cases i with
    | zero => simp [allP]
    | succ i =>
      simp only [List.take_succ_cons, List.drop_succ_cons, allP, List.flatMap_cons, List.length_append]
      have h := List.drop_left (l₁ := s.f3) (l₂ := allP xs)
      have ih' := ih i
      simp only [allP] at h ih'
      rw [← List.drop_drop, h, ih']
theorem all_split (xs : List S30) (i : Nat) : (allP xs).length = (allP (xs.take i)).length + (allP (xs.drop i)).length := by
  rw [← List.length_append]; congr 1
  simp only [allP, ← List.flatMap_append, List.take_append_drop]
theorem file_length (e : Int) (xs : List S30) : (fileP e xs).length = 52 + 32 * xs.length + (allP xs).length := by
  rw [fileP, List.length_append, List.length_append, hdr_length, tabP_length]; omega
theorem file_row (e : Int) (xs : List S30) (i : Nat) (hi : i < xs.length) : ∃ R, (fileP e xs).drop (52 + 32 * i) = rowP (offP xs i) xs[i] ++ R := by
  have h := List.drop_left (l₁ := hdrP e xs.length) (l₂ := tabP (52 + 32 * xs.length) xs ++ allP xs)
  rw [hdr_length] at h
  rw [fileP, ← List.drop_drop, h, List.drop_append_of_le_length (by rw [tabP_length]; omega), tab_drop xs _ i (by omega), List.drop_eq_getElem_cons hi, tabP, List.append_assoc]
  exact ⟨_, rfl⟩
theorem file_data (e : Int) (xs : List S30) (i : Nat) : (fileP e xs).drop (offP xs i) = allP (xs.drop i) := by
  have h := List.drop_left (l₁ := hdrP e xs.length ++ tabP (52 + 32 * xs.length) xs) (l₂ := allP xs)
  rw [List.length_append, hdr_length, tabP_length] at h
  rw [fileP, offP, ← List.drop_drop, ← List.append_assoc, h, all_drop]
theorem off_succ (xs : List S30) (i : Nat) (hi : i < xs.length) : offP xs (i + 1) = offP xs i + xs[i].f3.length := by
  simp only [offP]
  rw [List.take_succ_eq_append_getElem hi]
  simp only [allP, List.flatMap_append, List.flatMap_cons, List.flatMap_nil, List.append_nil, List.length_append]
  omega
theorem off_le (e : Int) (xs : List S30) (i : Nat) : offP xs i ≤ (fileP e xs).length := by
  rw [file_length, offP]; have := all_split xs i; omega
theorem file_bytes (e : Int) (xs : List S30) (hw : Wf e xs) : Bytes (fileP e xs) := by
  have hrow : ∀ (a : Nat) (s : S30), Bytes (rowP a s) := by
    intro a s x hx
    simp only [rowP, List.mem_flatMap] at hx
    obtain ⟨v, _, hx⟩ := hx
    exact leB_bytes _ _ x hx
  have htab : ∀ (ys : List S30) (a : Nat), Bytes (tabP a ys) := by
    intro ys
    induction ys with
    | nil => intro a x hx; cases hx
    | cons s ys ih => intro a x hx; rcases List.mem_append.1 hx with hx | hx; exact hrow _ _ x hx; exact ih _ x hx
  intro x hx
  rcases List.mem_append.1 hx with hx | hx
  · simp only [hdrP, List.mem_append] at hx
    rcases hx with hx | hx | hx | hx | hx
    · simp at hx; omega
    · exact leB_bytes _ _ x hx
    · simp at hx; omega
    · exact leB_bytes _ _ x hx
    · simp at hx; omega
  · rcases List.mem_append.1 hx with hx | hx
    · exact htab _ _ x hx
    · simp only [allP, List.mem_flatMap] at hx
      obtain ⟨s, hs, hx⟩ := hx
      exact (hw.hs s hs).2.2.2.2 x hx
section
variable {e : Int} {xs : List S30} (hw : Wf e xs) (h8 : xs.length ≤ 8) (h2 : ∀ s ∈ xs, 0 ≤ s.f2 ∧ s.f2 ≤ 7) (hL : (fileP e xs).length ≤ 65536)
include hw h8 h2 hL
theorem flds (i : Nat) (hi : i < xs.length) : fld (fileP e xs) (52 + 32 * i) 0 = 1 ∧ fld (fileP e xs) (52 + 32 * i) 4 = offP xs i ∧ fld (fileP e xs) (52 + 32 * i) 8 = xs[i].f0 ∧ fld (fileP e xs) (52 + 32 * i) 12 = xs[i].f0 ∧ fld (fileP e xs) (52 + 32 * i) 16 = xs[i].f3.length ∧ fld (fileP e xs) (52 + 32 * i) 20 = xs[i].f1 ∧ fld (fileP e xs) (52 + 32 * i) 24 = turn xs[i].f2 ∧ fld (fileP e xs) (52 + 32 * i) 28 = 256 := by
  have _ := h8
  obtain ⟨R, hR⟩ := file_row e xs i hi
  have ho := off_le e xs (i + 1)
  rw [off_succ xs i hi] at ho
  have hm := List.getElem_mem hi
  have h := row_fld (offP xs i) xs[i] R (by omega) (by omega) (h2 _ hm) (hw.hs _ hm)
  simp only [fld, ← List.drop_drop, hR]
  exact ⟨by simpa using h.1, h.2⟩
theorem file_ok (i : Nat) (hi : i < xs.length) : okSeg (fileP e xs) (52 + 32 * i) ∧ segAt (fileP e xs) (52 + 32 * i) = xs[i] := by
  obtain ⟨f0, f4, f8, f12, f16, f20, f24, f28⟩ := flds hw h8 h2 hL i hi
  have ho := off_le e xs (i + 1)
  rw [off_succ xs i hi] at ho
  have hm := List.getElem_mem hi
  have ht := turn_7 xs[i].f2 (h2 _ hm).1 (h2 _ hm).2
  refine ⟨⟨by rw [file_length]; omega, f0, by rw [f12, f8], by rw [f24]; exact ht.1.2, f28, by rw [f4, f16]; omega⟩, ?_⟩
  have hd : ((fileP e xs).take ((offP xs i : Int) + (xs[i].f3.length : Int)).toNat).drop (offP xs i : Int).toNat = xs[i].f3 := by
    rw [show ((offP xs i : Int) + (xs[i].f3.length : Int)).toNat = offP xs i + xs[i].f3.length by omega, Int.toNat_natCast, List.drop_take, file_data e xs i, List.drop_eq_getElem_cons hi, show offP xs i + xs[i].f3.length - offP xs i = xs[i].f3.length by omega]
    simp only [allP, List.flatMap_cons]
    rw [List.take_left]
  rw [segAt, f4, f8, f16, f20, f24, ht.2, hd]
theorem read_file (d : Nat) : ∀ i, i + d = xs.length → readS (fileP e xs) d i = some (xs.drop i) := by
  induction d with
  | zero => intro i hi; rw [readS, List.drop_of_length_le (by omega)]
  | succ d ih =>
    intro i hi
    have h := file_ok hw h8 h2 hL i (by omega)
    rw [readS, if_pos h.1, ih (i + 1) (by omega), h.2, Option.map_some, List.drop_eq_getElem_cons (by omega : i < xs.length)]
theorem Get_file (g : goodP e xs = 0) (k : Nat) (hk : 400 < k) : image_Get.f k (fileP e xs) = some (e, xs, 0) := by
  have hb := file_bytes e xs hw
  have h := Get_at k e xs.length (tabP (52 + 32 * xs.length) xs ++ allP xs) hb hL hw.he h8 hk
  have hr := read_file hw h8 h2 hL xs.length 0 (by omega)
  rw [fileP] at hr ⊢
  rw [h, hr, List.drop_zero]
  simp only [done, g, if_true]
theorem le_take (L : List Int) (c p m : Nat) (h : p + m ≤ c) : le m ((L.take c).drop p) = le m (L.drop p) := by
  have _ := hw; have _ := h8; have _ := h2; have _ := hL
  induction m with
  | zero => rfl
  | succ m ih =>
    simp only [le]
    rw [ih (by omega), List.drop_drop, List.drop_drop, List.drop_take]
    obtain ⟨q, hq⟩ : ∃ q, c - (p + m) = q + 1 := ⟨c - (p + m) - 1, by omega⟩
    rw [hq]
    cases L.drop (p + m) with
    | nil => rfl
    | cons x l => rfl
theorem read_cut (c : Nat) (d : Nat) : ∀ i ys, i + d < xs.length → readS ((fileP e xs).take c) (d + 1) i = some ys → offP xs (i + d + 1) ≤ c := by
  induction d with
  | zero =>
    intro i ys hi hr
    rw [readS] at hr
    by_cases c1 : okSeg ((fileP e xs).take c) (52 + 32 * i)
    · obtain ⟨k0, k1, k2, k3, k4, k5⟩ := c1
      rw [List.length_take] at k0 k5
      have e4 : fld ((fileP e xs).take c) (52 + 32 * i) 4 = fld (fileP e xs) (52 + 32 * i) 4 := le_take hw h8 h2 hL _ _ _ _ (by omega)
      have e16 : fld ((fileP e xs).take c) (52 + 32 * i) 16 = fld (fileP e xs) (52 + 32 * i) 16 := le_take hw h8 h2 hL _ _ _ _ (by omega)
      obtain ⟨f0, f4, f8, f12, f16, f20, f24, f28⟩ := flds hw h8 h2 hL i (by omega)
      rw [e4, e16, f4, f16] at k5
      rw [Nat.add_zero, off_succ xs i (by omega)]; omega
    · rw [if_neg c1] at hr; cases hr
  | succ d ih =>
    intro i ys hi hr
    rw [readS] at hr
    by_cases c1 : okSeg ((fileP e xs).take c) (52 + 32 * i)
    · rw [if_pos c1] at hr
      cases hq : readS ((fileP e xs).take c) (d + 1) (i + 1) with
      | none => rw [hq] at hr; cases hr
      | some zs =>
        have := ih (i + 1) zs (by omega) hq
        rw [show i + (d + 1) + 1 = i + 1 + d + 1 by omega]; exact this
    · rw [if_neg c1] at hr; cases hr
theorem Get_cut (h1 : 1 ≤ xs.length) (c : Nat) (hc : c < (fileP e xs).length) (k : Nat) (hk : 400 < k) : image_Get.f k ((fileP e xs).take c) = some (0, [], 3) := by
  by_cases h52 : c < 52
  · exact Get_short k _ (by rw [List.length_take]; omega)
  have hb := (file_bytes e xs hw).take c
  have hl : ((fileP e xs).take c).length ≤ 65536 := by rw [List.length_take]; omega
  have hcut : (fileP e xs).take c = hdrP e xs.length ++ (tabP (52 + 32 * xs.length) xs ++ allP xs).take (c - 52) := by
    rw [fileP, List.take_append, hdr_length, List.take_of_length_le (by rw [hdr_length]; omega)]
  have hr : readS ((fileP e xs).take c) xs.length 0 = none := by
    cases hq : readS ((fileP e xs).take c) xs.length 0 with
    | none => rfl
    | some ys =>
      obtain ⟨d, hd⟩ : ∃ d, xs.length = d + 1 := ⟨xs.length - 1, by omega⟩
      rw [hd] at hq
      have := read_cut hw h8 h2 hL c d 0 ys (by omega) hq
      have h9 : offP xs (0 + d + 1) = (fileP e xs).length := by
        rw [file_length, offP, List.take_of_length_le (by omega)]
      omega
  rw [hcut] at hb hl hr ⊢
  rw [Get_at k e xs.length _ hb hl hw.he h8 hk, hr]
end
theorem good_one (e : Int) (xs : List S30) (g : goodP e xs = 0) : 1 ≤ xs.length := by
  cases xs with
  | nil => exfalso; revert g; simp [goodP, image_Good.f, image_Good.l0]
  | cons s xs => simp
theorem great_l0 (e : Int) (xs : List S30) (hx : xs.length ≤ 10) (d : Nat) : ∀ (k i : Nat), i ≤ xs.length → xs.length - i = d → d < k → ∃ b, tincturelaw8_great.l0 k (i : Int) e xs = some b ∧ (b = false → ∀ s ∈ xs.drop i, s.f3.length ≤ 600) := by
  induction d with
  | zero =>
    intro k i h1 h2 h3
    obtain ⟨k, rfl⟩ : ∃ m, k = m + 1 := ⟨k - 1, by omega⟩
    simp only [tincturelaw8_great.l0]
    rw [if_neg (by omega)]
    exact ⟨false, rfl, fun _ s hs => by rw [List.drop_of_length_le (by omega)] at hs; cases hs⟩
  | succ d ih =>
    intro k i h1 h2 h3
    obtain ⟨k, rfl⟩ : ∃ m, k = m + 1 := ⟨k - 1, by omega⟩
    have hi : i < xs.length := by omega
    have e1 : rd_T30 xs (i : Int) = xs[i] := by simp [rd_T30, hi]
    simp only [tincturelaw8_great.l0]
    rw [if_pos (by omega), if_pos (by omega), e1, wrap_up hi (by omega)]
    by_cases c : (xs[i].f3.length : Int) > 600
    · rw [if_pos c]; exact ⟨true, rfl, fun h => by cases h⟩
    · rw [if_neg c]
      obtain ⟨b, hb, hb2⟩ := ih k (i + 1) (by omega) (by omega) (by omega)
      refine ⟨b, hb, fun h s hs => ?_⟩
      rw [List.drop_eq_getElem_cons hi] at hs
      rcases List.mem_cons.1 hs with rfl | hs
      · omega
      · exact hb2 h s hs
theorem great_at (k : Nat) (e : Int) (xs : List S30) (hk : 20 < k) : ∃ b, tincturelaw8_great.f k e xs = some b ∧ (b = false → xs.length ≤ 10 ∧ ∀ s ∈ xs, s.f3.length ≤ 600) := by
  unfold tincturelaw8_great.f
  by_cases c : (xs.length : Int) > 10
  · rw [if_pos c]; exact ⟨true, rfl, fun h => by cases h⟩
  · rw [if_neg c]
    obtain ⟨b, hb, hb2⟩ := great_l0 e xs (by omega) xs.length k 0 (by omega) (by omega) (by omega)
    exact ⟨b, hb, fun h => ⟨by omega, by simpa using hb2 h⟩⟩
def c65 (s : S30) : S65 := ⟨s.f0, s.f1, s.f2, s.f3⟩
theorem img_l0 (e : Int) (xs : List S30) (hx : xs.length ≤ 10) (d : Nat) : ∀ (k i : Nat) (acc : List S65), acc.length ≤ i → i ≤ xs.length → xs.length - i = d → d < k →
    tincturelaw8_img.l0 k (i : Int) e xs e acc = some (e, acc ++ (xs.drop i).map c65) := by
  induction d with
  | zero =>
    intro k i acc ha h1 h2 h3
    obtain ⟨k, rfl⟩ : ∃ m, k = m + 1 := ⟨k - 1, by omega⟩
    simp only [tincturelaw8_img.l0]
    rw [if_neg (by omega), List.drop_of_length_le (by omega)]; simp
  | succ d ih =>
    intro k i acc ha h1 h2 h3
    obtain ⟨k, rfl⟩ : ∃ m, k = m + 1 := ⟨k - 1, by omega⟩
    have hi : i < xs.length := by omega
    have e1 : rd_T30 xs (i : Int) = xs[i] := by simp [rd_T30, hi]
    simp only [tincturelaw8_img.l0]
    rw [if_pos (by omega), if_pos (by omega), if_pos (by omega), e1, wrap_up hi (by omega), ih k (i + 1) _ (by simp; omega) (by omega) (by omega) (by omega), List.drop_eq_getElem_cons hi]
    simp only [List.map_cons, List.append_assoc, List.singleton_append, c65]
theorem img_at (k : Nat) (e : Int) (xs : List S30) (hx : xs.length ≤ 10) (hk : 20 < k) : tincturelaw8_img.f k e xs = some (e, xs.map c65) := by
  have := img_l0 e xs hx xs.length k 0 [] (by simp) (by omega) (by omega) (by omega)
  simpa [tincturelaw8_img.f] using this
theorem zip_self : ∀ (ys : List S65), ∀ p ∈ ys.zip ys, p.1 = p.2
  | [], p, hp => by simp at hp
  | y :: ys, p, hp => by
    rw [List.zip_cons_cons] at hp
    rcases List.mem_cons.1 hp with rfl | hp
    · rfl
    · exact zip_self ys p hp
theorem same_self (e : Int) (ys : List S65) : Go.Proofs.Ytcjaepmecihmlaa.Same.sameB e ys e ys = true := by
  simp only [Go.Proofs.Ytcjaepmecihmlaa.Same.sameB, beq_self_eq_true, Bool.true_and]
  rw [List.all_eq_true]
  intro p hp
  have := zip_self ys p hp
  simp [Go.Proofs.Ytcjaepmecihmlaa.Same.one, this]
theorem same_at (k : Nat) (e : Int) (ys : List S65) (h : ys.length ≤ 1000) : tincturelaw8_sameImage.f k e ys e ys = some true := by
  rw [tincturelaw8_sameImage.f, if_pos (by omega), same_self]
theorem awake_at : tincturelaw8_awake.f 1000 = some true := by decide +kernel
end Go.Proofs.Ytcjaepmecihmlaa.BackPure
