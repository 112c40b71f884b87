/- The reference's GoodImage tells what the program's Good tells. -/
import Derived.Test.YtcjaepmecihmlaaImgPure
import Derived.Test.YtcjaepmecihmlaaI9
namespace Go.Proofs.Ytcjaepmecihmlaa.GoodEq
open Go Go.RowKit Go.Proofs.Ytcjaepmecihmlaa.Img Go.Proofs.YtcjaepmecihmlaaW.PrintWords Go.Proofs.YtcjaepmecihmlaaW.PrintLast Go.Proofs.YtcjaepmecihmlaaW.PrintMore Go.Proofs.Ytcjaepmecihmlaa.ImgPure Go.Proofs.Ytcjaepmecihmlaa.Entry
set_option linter.unusedVariables false
set_option linter.unusedSimpArgs false
def c65 (s : S30) : S65 := ⟨s.f0, s.f1, s.f2, s.f3⟩
/-- The segment's numbers are numbers of 32 bits. -/
def Wf1 (s : S30) : Prop := 0 ≤ s.f0 ∧ s.f0 < 4294967296 ∧ 0 ≤ s.f1 ∧ s.f1 < 4294967296 ∧ s.f3.length ≤ 100000
def up (x : Int) : Int := (x + 255) / 256 * 256
theorem up_at (x : Int) (h0 : 0 ≤ x) (h1 : x < 4294967296) : tinctureref7_up.f (wrap64 x) = some (up x) := by
  unfold tinctureref7_up.f up
  have e0 : wrap64 x = x := zbu (by omega) (by omega)
  rw [e0, zbu (x := x + 255) (by omega) (by omega), Int.tdiv_eq_ediv_of_nonneg (by omega), zbu (x := (x + 255) / 256) (by omega) (by omega), zbu (by omega) (by omega)]
theorem zg8 {s : S30} (hw : Wf1 s) : mayB s = true ↔ (Int.tmod s.f0 256 = 0 ∧ 0 < s.f1 ∧ (s.f3.length : Int) ≤ s.f1 ∧ s.f0 + s.f1 ≤ 4294967296 ∧ 0 ≤ s.f2 ∧ s.f2 ≤ 7) := by
  obtain ⟨h0, h1, h2, h3, h4⟩ := hw
  have e1 : IntKind.u64.wrap (s.f3.length : Int) = (s.f3.length : Int) := by rw [IntKind.wrap_u64]; omega
  have e2 : IntKind.u64.wrap s.f1 = s.f1 := by rw [IntKind.wrap_u64]; omega
  have e3 : IntKind.u64.wrap s.f0 = s.f0 := by rw [IntKind.wrap_u64]; omega
  have e4 : IntKind.u64.wrap (s.f0 + s.f1) = s.f0 + s.f1 := by rw [IntKind.wrap_u64]; omega
  unfold mayB image_Segment_may.f
  rw [e1, e2, e3, e4]
  by_cases c1 : Int.tmod s.f0 256 = 0
  · rw [if_pos c1]
    by_cases c2 : s.f1 > 0
    · rw [if_pos c2]
      by_cases c3 : (s.f3.length : Int) ≤ s.f1
      · rw [if_pos c3]
        by_cases c4 : s.f0 + s.f1 ≤ 4294967296
        · rw [if_pos c4]
          by_cases c5 : s.f2 ≥ 0
          · rw [if_pos c5]
            simp only [Option.getD_some, decide_eq_true_eq]
            exact ⟨fun h => ⟨c1, c2, c3, c4, c5, h⟩, fun h => h.2.2.2.2.2⟩
          · rw [if_neg c5]
            exact ⟨fun h => by simp at h, fun h => absurd h.2.2.2.2.1 c5⟩
        · rw [if_neg c4]
          exact ⟨fun h => by simp at h, fun h => absurd h.2.2.2.1 c4⟩
      · rw [if_neg c3]
        exact ⟨fun h => by simp at h, fun h => absurd h.2.2.1 c3⟩
    · rw [if_neg c2]
      exact ⟨fun h => by simp at h, fun h => absurd h.2.1 c2⟩
  · rw [if_neg c1]
    exact ⟨fun h => by simp at h, fun h => absurd h.1 c1⟩
def zdi (s t : S30) : Bool := (image_apart.f s.f0 s.f1 s.f2 s.f3 t.f0 t.f1 t.f2 t.f3).getD false
theorem apart_at (s t : S30) : image_apart.f s.f0 s.f1 s.f2 s.f3 t.f0 t.f1 t.f2 t.f3 = some (zdi s t) := by
  obtain ⟨b, hb⟩ := zgg s t
  rw [zdi, hb]; rfl
theorem last_at {s : S30} (hw : Wf1 s) (hm : mayB s = true) : image_Segment_last.f s.f0 s.f1 s.f2 s.f3 = some (s.f0 + up s.f1) := by
  obtain ⟨a1, a2, a3, a4, a5, a6⟩ := (zg8 hw).1 hm
  obtain ⟨h0, h1, h2, h3, h4⟩ := hw
  have d : s.f0 % 256 = 0 := by rw [← Int.tmod_eq_emod_of_nonneg h0]; exact a1
  unfold image_Segment_last.f up
  have w : ∀ x : Int, 0 ≤ x → x < 18446744073709551616 → IntKind.u64.wrap x = x := fun x hx hy => by rw [IntKind.wrap_u64]; omega
  rw [w s.f0 (by omega) (by omega), w s.f1 (by omega) (by omega), w (s.f0 + s.f1) (by omega) (by omega), w (s.f0 + s.f1 + 256) (by omega) (by omega), w (s.f0 + s.f1 + 256 - 1) (by omega) (by omega), Int.tdiv_eq_ediv_of_nonneg (by omega), w ((s.f0 + s.f1 + 256 - 1) / 256) (by omega) (by omega), w _ (by omega) (by omega)]
  congr 1
  omega
theorem apart_is {s t : S30} (hs : Wf1 s) (ht : Wf1 t) (ms : mayB s = true) (mt : mayB t = true) : zdi s t = true ↔ ¬ (s.f0 < t.f0 + up t.f1 ∧ t.f0 < s.f0 + up s.f1) := by
  unfold zdi image_apart.f
  have e1 : IntKind.u64.wrap t.f0 = t.f0 := by have := ht.1; have := ht.2.1; rw [IntKind.wrap_u64]; omega
  have e2 : IntKind.u64.wrap s.f0 = s.f0 := by have := hs.1; have := hs.2.1; rw [IntKind.wrap_u64]; omega
  rw [last_at hs ms, Option.bind_some, last_at ht mt, Option.bind_some, e1, e2]
  by_cases c : s.f0 + up s.f1 ≤ t.f0
  · rw [if_pos c]
    exact ⟨fun _ h => by omega, fun _ => rfl⟩
  · rw [if_neg c]
    simp only [Option.getD_some, decide_eq_true_eq]
    omega
/-- From the segment i on, d of them: each shares no page with those ahead. -/
def restB (xs : List S30) : Nat → Nat → Bool
  | 0, _ => true
  | d + 1, i => (xs.take i).all (zdi (zan xs (i : Int))) && restB xs d (i + 1)
def endV (b : Bool) (r : Bool) : Int := if b then (if r then 0 else 1) else 1
section
variable {e : Int} {xs : List S30} (hx : xs.length ≤ 10)
include hx
theorem g_l2 (i : Nat) (hi : i < xs.length) (m : Nat) (v : Int) (h : ∀ k, m ≤ k → image_Good.l1 k xs (xs.length : Int) ((i + 1 : Nat) : Int) e xs = some v) (s : S30) (c : Nat) : ∀ j k, j ≤ i → i - j = c → c + 1 + m ≤ k →
    image_Good.l2 k xs (xs.length : Int) (i : Int) (xs.take i) ((xs.take i).length : Int) (j : Int) e xs s.f0 s.f1 s.f2 s.f3 = some (if ((xs.take i).drop j).all (zdi s) then v else 1) := by
  have ht : (xs.take i).length = i := by rw [List.length_take]; omega
  induction c with
  | zero =>
    intro j k b1 b2 b3
    obtain ⟨k, rfl⟩ : ∃ m, k = m + 1 := ⟨k - 1, by omega⟩
    simp only [image_Good.l2]
    rw [if_neg (by omega), zb9 hi (by omega), h _ (by omega), List.drop_eq_nil_of_le (by omega)]
    rfl
  | succ c ih =>
    intro j k b1 b2 b3
    obtain ⟨k, rfl⟩ : ∃ m, k = m + 1 := ⟨k - 1, by omega⟩
    have hj : j < (xs.take i).length := by omega
    have e1 : zan (xs.take i) (j : Int) = (xs.take i)[j] := by
      show (xs.take i).getD (j : Int).toNat z30 = _
      rw [Int.toNat_natCast, List.getD_eq_getElem?_getD, List.getElem?_eq_getElem hj]
      rfl
    simp only [image_Good.l2]
    rw [if_pos (by omega), if_pos (by omega), if_pos (by omega), e1, apart_at, Option.bind_some, List.drop_eq_getElem_cons hj, List.all_cons]
    cases zdi s (xs.take i)[j] with
    | false => simp
    | true =>
      rw [if_pos rfl, zb9 (by omega : j < i) (by omega), ih (j + 1) k (by omega) (by omega) (by omega)]
      simp
theorem g_l1 (d : Nat) : ∀ k i, i ≤ xs.length → xs.length - i = d → 14 * d + 1 ≤ k → image_Good.l1 k xs (xs.length : Int) (i : Int) e xs = some (endV (restB xs d i) (zeh e xs)) := by
  induction d with
  | zero =>
    intro k i a1 a2 a3
    obtain ⟨k, rfl⟩ : ∃ m, k = m + 1 := ⟨k - 1, by omega⟩
    simp only [image_Good.l1]
    rw [if_neg (by omega)]
    unfold image_Image_entry.f
    rw [if_pos (by omega), Option.bind_some]
    unfold endV restB
    cases zeh e xs <;> rfl
  | succ d ih =>
    intro k i a1 a2 a3
    obtain ⟨k, rfl⟩ : ∃ m, k = m + 1 := ⟨k - 1, by omega⟩
    have hi : i < xs.length := by omega
    simp only [image_Good.l1]
    rw [if_pos (by omega), if_pos (by omega), if_pos (by omega), if_pos (by omega), Option.bind_some]
    have := g_l2 hx i hi (14 * d + 1) _ (fun k hk => ih k (i + 1) (by omega) (by omega) hk) (zan xs (i : Int)) i 0 k (by omega) (by omega) (by omega)
    rw [List.drop_zero] at this
    refine this.trans ?_
    congr 1
    unfold endV
    rw [restB]
    cases (xs.take i).all (zdi (zan xs (i : Int))) <;> simp
end
/-- How many bytes, how great. -/
def sumB (xs : List S30) : Int := (xs.map (fun s => (s.f3.length : Int))).sum
def sumS (xs : List S30) : Int := (xs.map (fun s => s.f1)).sum
def goodC (e : Int) (xs : List S30) : Int :=
  if xs.length > 8 then 2 else if xs.all mayB then (if xs.length = 0 then 1 else if sumB xs > 65536 ∨ sumS xs > 65536 then 2 else endV (restB xs xs.length 0) (zeh e xs)) else 1
section
variable {e : Int} {xs : List S30} (hx : xs.length ≤ 10) (hw : ∀ s ∈ xs, Wf1 s)
include hx hw
theorem zgb (i : Nat) : 0 ≤ sumB (xs.take i) ∧ sumB (xs.take i) ≤ 100000 * (i : Int) ∧ 0 ≤ sumS (xs.take i) ∧ sumS (xs.take i) ≤ 4294967296 * (i : Int) := by
  induction i with
  | zero => simp [sumB, sumS]
  | succ i ih =>
    by_cases hi : i < xs.length
    · have h := hw xs[i] (List.getElem_mem hi)
      obtain ⟨h0, h1, h2, h3, h4⟩ := h
      unfold sumB sumS at *
      rw [List.take_succ_eq_append_getElem hi]
      simp only [List.map_append, List.sum_append, List.map_cons, List.map_nil, List.sum_cons, List.sum_nil]
      omega
    · rw [List.take_of_length_le (by omega)] at ih
      rw [List.take_of_length_le (by omega)]
      omega
theorem zho (i : Nat) (hi : i < xs.length) : sumB (xs.take (i + 1)) = sumB (xs.take i) + (xs[i].f3.length : Int) ∧ sumS (xs.take (i + 1)) = sumS (xs.take i) + xs[i].f1 := by
  have _ := hx
  have _ := hw
  unfold sumB sumS
  rw [List.take_succ_eq_append_getElem hi]
  simp only [List.map_append, List.sum_append, List.map_cons, List.map_nil, List.sum_cons, List.sum_nil]
  omega
theorem g_l0 (d : Nat) : ∀ k i, i ≤ xs.length → xs.length - i = d → 142 + d ≤ k →
    image_Good.l0 k (sumB (xs.take i)) (sumS (xs.take i)) xs (xs.length : Int) (i : Int) e xs = some (if (xs.drop i).all mayB then (if xs.length = 0 then 1 else if sumB xs > 65536 ∨ sumS xs > 65536 then 2 else endV (restB xs xs.length 0) (zeh e xs)) else 1) := by
  induction d with
  | zero =>
    intro k i a1 a2 a3
    obtain ⟨k, rfl⟩ : ∃ m, k = m + 1 := ⟨k - 1, by omega⟩
    have hi : i = xs.length := by omega
    rw [hi, List.take_length, List.drop_length]
    simp only [image_Good.l0]
    rw [if_neg (by omega)]
    rw [show ([] : List S30).all mayB = true from rfl, if_pos rfl]
    by_cases c0 : xs.length = 0
    · rw [if_pos (by omega), if_pos c0]
    · rw [if_neg (by omega), if_neg c0]
      by_cases c1 : sumB xs > 65536
      · rw [if_pos c1, if_pos (.inl c1)]
      · rw [if_neg c1]
        by_cases c2 : sumS xs > 65536
        · rw [if_pos c2, if_pos (.inr c2)]
        · rw [if_neg c2, if_neg (by omega)]
          exact g_l1 hx xs.length k 0 (by omega) (by omega) (by omega)
  | succ d ih =>
    intro k i a1 a2 a3
    obtain ⟨k, rfl⟩ : ∃ m, k = m + 1 := ⟨k - 1, by omega⟩
    have hi : i < xs.length := by omega
    have e1 : zan xs (i : Int) = xs[i] := by simp [zan, hi]
    obtain ⟨h0, h1, h2, h3, h4⟩ := hw xs[i] (List.getElem_mem hi)
    obtain ⟨b1, b2, b3, b4⟩ := zgb hx hw i
    obtain ⟨n1, n2⟩ := zho hx hw i hi
    have w : ∀ x : Int, 0 ≤ x → x < 18446744073709551616 → IntKind.u64.wrap x = x := fun x hx hy => by rw [IntKind.wrap_u64]; omega
    simp only [image_Good.l0]
    rw [if_pos (by omega), if_pos (by omega), if_pos (by omega), e1, may_at, Option.bind_some, zb9 hi (by omega), w (xs[i].f3.length : Int) (by omega) (by omega), w xs[i].f1 (by omega) (by omega), w (sumB (xs.take i) + (xs[i].f3.length : Int)) (by omega) (by omega), w (sumS (xs.take i) + xs[i].f1) (by omega) (by omega), ← n1, ← n2, ih k (i + 1) (by omega) (by omega) (by omega), List.drop_eq_getElem_cons hi, List.all_cons]
    cases mayB xs[i] <;> simp
theorem goodP_is : goodP e xs = goodC e xs := by
  have h := zgs 300 e xs hx (Nat.le_refl _)
  have h2 : image_Good.f 300 e xs = some (goodC e xs) := by
    unfold image_Good.f goodC
    by_cases c : xs.length > 8
    · rw [if_pos (by omega), if_pos c]
    · rw [if_neg (by omega), if_neg c]
      have := g_l0 hx hw (e := e) xs.length 300 0 (by omega) (by omega) (by omega)
      simpa [sumB, sumS] using this
  rw [h] at h2
  exact Option.some.inj h2
end
theorem rd65 (xs : List S30) (i : Nat) (hi : i < xs.length) : zal (xs.map c65) (i : Int) = c65 xs[i] := by simp [zal, hi]
theorem in_is {e : Int} {s : S30} (he : 0 ≤ e ∧ e < 4294967296) (hs : Wf1 s) (b : Bool) :
    (if b = true then true else (if Go.bits .and .i64 s.f2 4 = 0 then false else (if e ≥ s.f0 then decide ((wrap64 ((wrap64 e) - (wrap64 s.f0))) < (wrap64 s.f1)) else false))) = (b || inSeg e s) := by
  obtain ⟨h0, h1, h2, h3, h4⟩ := hs
  have w : ∀ x : Int, 0 ≤ x → x < 18446744073709551616 → IntKind.u64.wrap x = x := fun x hx hy => by rw [IntKind.wrap_u64]; omega
  unfold inSeg
  rw [w e (by omega) (by omega), w s.f0 (by omega) (by omega), w s.f1 (by omega) (by omega), w _ (by omega) (by omega)]
  cases b with
  | true => rfl
  | false =>
    rw [if_neg (by decide), Bool.false_or]
    by_cases c1 : Go.bits .and .i64 s.f2 4 = 0
    · rw [if_pos c1, c1]; rfl
    · rw [if_neg c1]
      by_cases c2 : e ≥ s.f0
      · rw [if_pos c2, show (Go.bits .and .i64 s.f2 4 != 0) = true by simpa using c1, decide_eq_true c2, zbu (x := e) (by omega) (by omega), zbu (x := s.f0) (by omega) (by omega), zbu (x := s.f1) (by omega) (by omega), zbu (x := e - s.f0) (by omega) (by omega)]
        rw [Bool.true_and, Bool.true_and, Bool.eq_iff_iff, decide_eq_true_eq, decide_eq_true_eq]
        omega
      · rw [if_neg c2, decide_eq_false c2]; simp
section
variable {e : Int} {xs : List S30} (he : 0 ≤ e ∧ e < 4294967296) (hx : xs.length ≤ 10) (hw : ∀ s ∈ xs, Wf1 s) (hm : ∀ s ∈ xs, mayB s = true)
include he hx hw hm
theorem r_l2 (i : Nat) (hi : i < xs.length) (m : Nat) (v : Bool → Int) (h : ∀ k, m ≤ k → ∀ b, tinctureref7_GoodImage.l1 k b ((i + 1 : Nat) : Int) e (xs.map c65) = some (v b)) (b : Bool) (c : Nat) : ∀ j k, j ≤ i → i - j = c → c + 1 + m ≤ k →
    tinctureref7_GoodImage.l2 k b (i : Int) (j : Int) e (xs.map c65) xs[i].f0 xs[i].f1 xs[i].f2 xs[i].f3 = some (if ((xs.take i).drop j).all (zdi xs[i]) then v (b || inSeg e xs[i]) else 1) := by
  have ht : (xs.take i).length = i := by rw [List.length_take]; omega
  have hs := hw xs[i] (List.getElem_mem hi)
  have ms := hm xs[i] (List.getElem_mem hi)
  induction c with
  | zero =>
    intro j k b1 b2 b3
    obtain ⟨k, rfl⟩ : ∃ m, k = m + 1 := ⟨k - 1, by omega⟩
    simp only [tinctureref7_GoodImage.l2]
    rw [if_neg (by omega), zb9 hi (by omega), List.drop_eq_nil_of_le (by omega), show ([] : List S30).all (zdi xs[i]) = true from rfl, if_pos rfl, ← in_is he hs b]
    cases b with
    | true => rw [if_pos rfl, h _ (by omega), if_pos rfl]
    | false =>
      simp only [Bool.false_eq_true, if_false]
      by_cases c1 : Go.bits .and .i64 xs[i].f2 4 = 0
      · rw [if_pos c1, if_pos c1, h _ (by omega)]
      · rw [if_neg c1, if_neg c1]
        by_cases c2 : e ≥ xs[i].f0
        · rw [if_pos c2, if_pos c2, h _ (by omega)]
        · rw [if_neg c2, if_neg c2, h _ (by omega)]
  | succ c ih =>
    intro j k b1 b2 b3
    obtain ⟨k, rfl⟩ : ∃ m, k = m + 1 := ⟨k - 1, by omega⟩
    have hj : j < xs.length := by omega
    have hj' : j < (xs.take i).length := by omega
    have e1 : (xs.take i)[j] = xs[j] := List.getElem_take
    have htj := hw xs[j] (List.getElem_mem hj)
    have mtj := hm xs[j] (List.getElem_mem hj)
    have hap := apart_is hs htj ms mtj
    have u1 : 0 ≤ up xs[j].f1 ∧ up xs[j].f1 ≤ xs[j].f1 + 255 := by have := htj.2.2.1; unfold up; omega
    have u2 : 0 ≤ up xs[i].f1 ∧ up xs[i].f1 ≤ xs[i].f1 + 255 := by have := hs.2.2.1; unfold up; omega
    obtain ⟨h0, h1, h2, h3, h4⟩ := id hs
    obtain ⟨g0, g1, g2, g3, g4⟩ := id htj
    simp only [tinctureref7_GoodImage.l2]
    rw [if_pos (by omega), if_pos (by omega), if_pos (by simp; omega), rd65 xs j hj]
    have f0 : (c65 xs[j]).f0 = xs[j].f0 := rfl
    have f1 : (c65 xs[j]).f1 = xs[j].f1 := rfl
    rw [f0, f1, up_at _ g2 g3, Option.bind_some, up_at _ h2 h3, Option.bind_some, zb9 (by omega : j < i) (by omega), ih (j + 1) k (by omega) (by omega) (by omega), List.drop_eq_getElem_cons hj', List.all_cons, e1,
      zbu (x := xs[i].f0) (by omega) (by omega), zbu (x := xs[j].f0) (by omega) (by omega), zbu (x := xs[j].f0 + up xs[j].f1) (by omega) (by omega), zbu (x := xs[i].f0 + up xs[i].f1) (by omega) (by omega)]
    by_cases c1 : xs[i].f0 < xs[j].f0 + up xs[j].f1
    · rw [if_pos c1]
      by_cases c2 : xs[j].f0 < xs[i].f0 + up xs[i].f1
      · rw [if_pos c2]
        have : zdi xs[i] xs[j] = false := by
          cases hb : zdi xs[i] xs[j] with
          | false => rfl
          | true => exact absurd ⟨c1, c2⟩ (hap.1 hb)
        rw [this]
        rfl
      · rw [if_neg c2, hap.2 (fun h => c2 h.2)]
        simp
    · rw [if_neg c1, hap.2 (fun h => c1 h.1)]
      simp
theorem r_l1 (d : Nat) : ∀ i, i ≤ xs.length → xs.length - i = d → ∀ k, 14 * d + 1 ≤ k → ∀ b, tinctureref7_GoodImage.l1 k b (i : Int) e (xs.map c65) = some (endV (restB xs d i) ((b || (xs.drop i).any (inSeg e)) && (Int.tmod e 4 == 0))) := by
  induction d with
  | zero =>
    intro i a1 a2 k a3 b
    obtain ⟨k, rfl⟩ : ∃ m, k = m + 1 := ⟨k - 1, by omega⟩
    simp only [tinctureref7_GoodImage.l1]
    rw [if_neg (by simp; omega), List.drop_eq_nil_of_le (by omega)]
    unfold endV restB
    by_cases c : Int.tmod e 4 = 0
    · rw [if_pos c]
      cases b <;> simp [c]
    · rw [if_neg c]
      simp [c]
  | succ d ih =>
    intro i a1 a2 k a3 b
    obtain ⟨k, rfl⟩ : ∃ m, k = m + 1 := ⟨k - 1, by omega⟩
    have hi : i < xs.length := by omega
    simp only [tinctureref7_GoodImage.l1]
    rw [if_pos (by simp; omega), if_pos (by omega), rd65 xs i hi]
    have := r_l2 he hx hw hm i hi (14 * d + 1) (fun b => endV (restB xs d (i + 1)) ((b || (xs.drop (i + 1)).any (inSeg e)) && (Int.tmod e 4 == 0))) (fun k hk b => ih (i + 1) (by omega) (by omega) k hk b) b i 0 k (by omega) (by omega) (by omega)
    rw [List.drop_zero] at this
    refine this.trans ?_
    congr 1
    have e1 : zan xs (i : Int) = xs[i] := by simp [zan, hi]
    rw [restB, e1, List.drop_eq_getElem_cons hi, List.any_cons]
    unfold endV
    cases (xs.take i).all (zdi xs[i]) with
    | false => simp
    | true => simp only [if_true, Bool.true_and, Bool.or_assoc]
end
section
variable {e : Int} {xs : List S30} (he : 0 ≤ e ∧ e < 4294967296) (hx : xs.length ≤ 10) (hw : ∀ s ∈ xs, Wf1 s)
include he hx hw
theorem r_l0 (hn : xs.length ≠ 0) (d : Nat) : ∀ k i, i ≤ xs.length → xs.length - i = d → (∀ s ∈ xs.take i, mayB s = true) → 150 + d ≤ k →
    tinctureref7_GoodImage.l0 k (sumB (xs.take i)) (sumS (xs.take i)) (i : Int) e (xs.map c65) = some (if (xs.drop i).all mayB then (if xs.length = 0 then 1 else if sumB xs > 65536 ∨ sumS xs > 65536 then 2 else endV (restB xs xs.length 0) (zeh e xs)) else 1) := by
  induction d with
  | zero =>
    intro k i a1 a2 a4 a3
    obtain ⟨k, rfl⟩ : ∃ m, k = m + 2 := ⟨k - 2, by omega⟩
    have hi : i = xs.length := by omega
    rw [hi, List.take_length] at a4
    rw [hi, List.take_length, List.drop_length]
    rw [tinctureref7_GoodImage.l0]
    simp only [tinctureref7_GoodImage.j1]
    rw [if_neg (by simp), show ([] : List S30).all mayB = true from rfl, if_pos rfl, if_neg hn]
    by_cases c1 : sumB xs > 65536
    · rw [if_pos c1, if_pos trivial, if_pos (Or.inl c1)]
    · rw [if_neg c1]
      by_cases c2 : sumS xs > 65536
      · rw [decide_eq_true c2, if_pos rfl, if_pos (.inr c2)]
      · rw [decide_eq_false c2, if_neg (by decide), if_neg (by omega)]
        have := r_l1 he hx hw a4 xs.length 0 (by omega) (by omega) k (by omega) false
        rw [Bool.false_or, List.drop_zero] at this
        exact this
  | succ d ih =>
    intro k i a1 a2 a4 a3
    obtain ⟨k, rfl⟩ : ∃ m, k = m + 1 := ⟨k - 1, by omega⟩
    have hi : i < xs.length := by omega
    have hwi := hw xs[i] (List.getElem_mem hi)
    obtain ⟨h0, h1, h2, h3, h4⟩ := id hwi
    obtain ⟨b1, b2, b3, b4⟩ := zgb hx hw i
    obtain ⟨n1, n2⟩ := zho hx hw i hi
    have hmp := zg8 hwi
    rw [tinctureref7_GoodImage.l0]
    rw [if_pos (by simp; omega), if_pos (by omega), rd65 xs i hi, List.drop_eq_getElem_cons hi, List.all_cons]
    have f0 : (c65 xs[i]).f0 = xs[i].f0 := rfl
    have f1 : (c65 xs[i]).f1 = xs[i].f1 := rfl
    have f2 : (c65 xs[i]).f2 = xs[i].f2 := rfl
    have f3 : (c65 xs[i]).f3 = xs[i].f3 := rfl
    have hno : ¬ (Int.tmod xs[i].f0 256 = 0 ∧ 0 < xs[i].f1 ∧ (xs[i].f3.length : Int) ≤ xs[i].f1 ∧ xs[i].f0 + xs[i].f1 ≤ 4294967296 ∧ 0 ≤ xs[i].f2 ∧ xs[i].f2 ≤ 7) → mayB xs[i] = false := by
      intro h
      cases hb : mayB xs[i] with
      | false => rfl
      | true => exact absurd (hmp.1 hb) h
    rw [f0, f1, f2, f3, zbu (x := xs[i].f1) (by omega) (by omega), zbu (x := xs[i].f0) (by omega) (by omega), zbu (x := xs[i].f0 + xs[i].f1) (by omega) (by omega)]
    by_cases c1 : Int.tmod xs[i].f0 256 = 0
    · rw [if_pos c1]
      by_cases c2 : xs[i].f1 = 0
      · rw [if_pos c2, hno (fun h => by omega)]; rfl
      rw [if_neg c2]
      by_cases c3 : xs[i].f1 < (xs[i].f3.length : Int)
      · rw [if_pos c3, hno (fun h => by omega)]; rfl
      rw [if_neg c3]
      by_cases c4 : xs[i].f0 + xs[i].f1 > 4294967296
      · rw [if_pos c4, hno (fun h => by omega)]; rfl
      rw [if_neg c4]
      by_cases c5 : xs[i].f2 < 0
      · rw [if_pos c5, hno (fun h => by omega)]; rfl
      rw [if_neg c5]
      by_cases c6 : xs[i].f2 > 7
      · rw [if_pos c6, hno (fun h => by omega)]; rfl
      rw [if_neg c6]
      have hmi : mayB xs[i] = true := hmp.2 ⟨c1, by omega, by omega, by omega, by omega, by omega⟩
      rw [hmi, Bool.true_and, zbu (x := sumB (xs.take i) + (xs[i].f3.length : Int)) (by omega) (by omega), zbu (x := sumS (xs.take i) + xs[i].f1) (by omega) (by omega), ← n1, ← n2, zb9 hi (by omega)]
      refine ih k (i + 1) (by omega) (by omega) (fun s hs => ?_) (by omega)
      rw [List.take_succ_eq_append_getElem hi] at hs
      rcases List.mem_append.1 hs with hs | hs
      · exact a4 s hs
      · rw [List.mem_singleton.1 hs]; exact hmi
    · rw [if_neg c1, hno (fun h => c1 h.1)]; rfl
theorem zgl (k : Nat) (hk : 300 ≤ k) : tinctureref7_GoodImage.f k e (xs.map c65) = some (goodP e xs) := by
  rw [goodP_is hx hw]
  unfold tinctureref7_GoodImage.f goodC
  rw [List.length_map]
  by_cases c : xs.length > 8
  · rw [if_pos (by omega), if_pos c]
  · rw [if_neg (by omega), if_neg c]
    by_cases c0 : xs.length = 0
    · rw [if_pos (by omega)]
      have : xs = [] := List.length_eq_zero_iff.1 c0
      subst this
      rfl
    · rw [if_neg (by omega)]
      have := r_l0 he hx hw c0 xs.length k 0 (by omega) (by omega) (fun s hs => by simp at hs) (by omega)
      simpa [sumB, sumS] using this
end
end Go.Proofs.Ytcjaepmecihmlaa.GoodEq
