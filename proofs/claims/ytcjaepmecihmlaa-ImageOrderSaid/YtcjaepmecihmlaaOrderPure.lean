/- What Good tells of segments does not hang on their order: no plain answer of it is nought one way and another the other. -/
import Derived.Test.YtcjaepmecihmlaaImgPure
namespace Go.Proofs.Ytcjaepmecihmlaa.OrderPure
open Go Go.RowKit Go.Proofs.Ytcjaepmecihmlaa.Img Go.Proofs.YtcjaepmecihmlaaW.PrintWords Go.Proofs.YtcjaepmecihmlaaW.PrintLast Go.Proofs.YtcjaepmecihmlaaW.PrintMore Go.Proofs.Ytcjaepmecihmlaa.ImgPure
set_option linter.unusedVariables false
set_option linter.unusedSimpArgs false
def lastP (s : S30) : Int := IntKind.u64.wrap ((IntKind.u64.wrap (Int.tdiv (IntKind.u64.wrap ((IntKind.u64.wrap ((IntKind.u64.wrap ((IntKind.u64.wrap (s.f0)) + (IntKind.u64.wrap (s.f1)))) + 256)) - 1)) 256)) * 256)
def apB (s t : S30) : Bool := decide (lastP s ≤ IntKind.u64.wrap t.f0) || decide (lastP t ≤ IntKind.u64.wrap s.f0)
theorem apB_comm (s t : S30) : apB s t = apB t s := by simp only [apB, Bool.or_comm]
theorem ap_at (s t : S30) : image_apart.f s.f0 s.f1 s.f2 s.f3 t.f0 t.f1 t.f2 t.f3 = some (apB s t) := by
  unfold image_apart.f image_Segment_last.f
  simp only [Option.bind_some]
  show (if lastP s ≤ IntKind.u64.wrap t.f0 then some true else some (decide (lastP t ≤ IntKind.u64.wrap s.f0))) = _
  unfold apB
  by_cases c : lastP s ≤ IntKind.u64.wrap t.f0
  · rw [if_pos c, decide_eq_true c]; rfl
  · rw [if_neg c, decide_eq_false c]; rfl
def at_ (xs : List S30) (i : Nat) : S30 := rd_T30 xs (i : Int)
def Tail (e : Int) (xs : List S30) (i : Nat) : Prop := (∀ i', i ≤ i' → i' < xs.length → ∀ m, m < i' → apB (at_ xs i') (at_ xs m) = true) ∧ Go.Proofs.Ytcjaepmecihmlaa.Entry.entryB e xs = true
theorem l2_iff (e : Int) (xs : List S30) (i : Nat) (hi : i < xs.length) (hx : xs.length ≤ 10) (q : Nat) (h : ∀ k, q ≤ k → ∃ t, image_Good.l1 k xs (xs.length : Int) ((i + 1 : Nat) : Int) e xs = some t ∧ (t = 0 ↔ Tail e xs (i + 1))) (s : S30) (c : Nat) : ∀ j k, j ≤ i → i - j = c → c + 1 + q ≤ k →
    ∃ t, image_Good.l2 k xs (xs.length : Int) (i : Int) (xs.take i) ((xs.take i).length : Int) (j : Int) e xs s.f0 s.f1 s.f2 s.f3 = some t ∧ (t = 0 ↔ (∀ m, j ≤ m → m < i → apB s (at_ xs m) = true) ∧ Tail e xs (i + 1)) := by
  have ht : (xs.take i).length = i := by rw [List.length_take]; omega
  induction c with
  | zero =>
    intro j k b1 b2 b3
    obtain ⟨k, rfl⟩ : ∃ m, k = m + 1 := ⟨k - 1, by omega⟩
    simp only [image_Good.l2]
    rw [if_neg (by omega), wrap_up hi (by omega)]
    obtain ⟨t, h1, h2⟩ := h k (by omega)
    exact ⟨t, h1, h2.trans ⟨fun g => ⟨fun m a b => by omega, g⟩, fun g => g.2⟩⟩
  | succ c ih =>
    intro j k b1 b2 b3
    obtain ⟨k, rfl⟩ : ∃ m, k = m + 1 := ⟨k - 1, by omega⟩
    have hj : j < i := by omega
    have e1 : rd_T30 (xs.take i) (j : Int) = at_ xs j := by
      simp only [rd_T30, at_, List.getD_eq_getElem?_getD, Int.toNat_natCast]
      rw [List.getElem?_take_of_lt hj]
    simp only [image_Good.l2]
    rw [if_pos (by omega), if_pos (by omega), if_pos (by omega), e1, ap_at, Option.bind_some]
    by_cases ca : apB s (at_ xs j) = true
    · rw [if_pos ca, wrap_up hj (by omega)]
      obtain ⟨t, h1, h2⟩ := ih (j + 1) k (by omega) (by omega) (by omega)
      refine ⟨t, h1, h2.trans ⟨fun g => ⟨fun m a b => ?_, g.2⟩, fun g => ⟨fun m a b => g.1 m (by omega) b, g.2⟩⟩⟩
      by_cases hm : m = j
      · rw [hm]; exact ca
      · exact g.1 m (by omega) b
    · rw [if_neg ca]
      exact ⟨1, rfl, ⟨fun g => by omega, fun g => absurd (g.1 j (Nat.le_refl _) hj) ca⟩⟩
theorem l1_iff (e : Int) (xs : List S30) (hx : xs.length ≤ 10) (d : Nat) : ∀ k i, i ≤ xs.length → xs.length - i = d → 14 * d + 1 ≤ k → ∃ t, image_Good.l1 k xs (xs.length : Int) (i : Int) e xs = some t ∧ (t = 0 ↔ Tail e xs i) := by
  induction d with
  | zero =>
    intro k i a1 a2 a3
    obtain ⟨k, rfl⟩ : ∃ m, k = m + 1 := ⟨k - 1, by omega⟩
    have hb : image_Image_entry.f e xs = some (Go.Proofs.Ytcjaepmecihmlaa.Entry.entryB e xs) := by unfold image_Image_entry.f; rw [if_pos (by omega)]
    simp only [image_Good.l1]
    rw [if_neg (by omega), hb, Option.bind_some]
    by_cases c : Go.Proofs.Ytcjaepmecihmlaa.Entry.entryB e xs = true
    · rw [if_pos c]; exact ⟨0, rfl, ⟨fun _ => ⟨fun i' b1 b2 => by omega, c⟩, fun _ => rfl⟩⟩
    · rw [if_neg c]; exact ⟨1, rfl, ⟨fun g => by omega, fun g => absurd g.2 c⟩⟩
  | succ d ih =>
    intro k i a1 a2 a3
    obtain ⟨k, rfl⟩ : ∃ m, k = m + 1 := ⟨k - 1, by omega⟩
    have hi : i < xs.length := by omega
    simp only [image_Good.l1]
    rw [if_pos (by omega), if_pos (by omega), if_pos (by omega), if_pos (by omega)]
    obtain ⟨t, h1, h2⟩ := l2_iff e xs i hi hx (14 * d + 1) (fun k hk => ih k (i + 1) (by omega) (by omega) hk) (rd_T30 xs (i : Int)) i 0 k (by omega) (by omega) (by omega)
    refine ⟨t, h1, h2.trans ⟨fun g => ⟨fun i' b1 b2 m b3 => ?_, g.2.2⟩, fun g => ⟨fun m _ b => g.1 i (Nat.le_refl _) hi m b, ⟨fun i' b1 b2 m b3 => g.1 i' (by omega) b2 m b3, g.2⟩⟩⟩⟩
    by_cases hm : i' = i
    · rw [hm] at b3 ⊢; exact g.1 m (Nat.zero_le _) b3
    · exact g.2.1 i' (by omega) b2 m b3
def tot (f : S30 → Int) : List S30 → Int
  | [] => 0
  | s :: l => f s + tot f l
theorem tot_append (f : S30 → Int) (a b : List S30) : tot f (a ++ b) = tot f a + tot f b := by
  induction a with
  | nil => simp [tot]
  | cons s a ih => simp only [List.cons_append, tot, ih]; omega
theorem tot_reverse (f : S30 → Int) (a : List S30) : tot f a.reverse = tot f a := by
  induction a with
  | nil => rfl
  | cons s a ih => rw [List.reverse_cons, tot_append, ih]; simp only [tot]; omega
def lenI (s : S30) : Int := s.f3.length
def sizI (s : S30) : Int := s.f1
theorem tot_bound (f : S30 → Int) (B : Int) (hB : 0 ≤ B) (l : List S30) (h : ∀ s ∈ l, 0 ≤ f s ∧ f s ≤ B) : 0 ≤ tot f l ∧ tot f l ≤ B * l.length := by
  induction l with
  | nil => simp [tot]
  | cons s l ih =>
    have h1 := h s (by simp)
    have h2 := ih (fun x hx => h x (by simp [hx]))
    simp only [tot, List.length_cons]
    have : B * ((l.length + 1 : Nat) : Int) = B * l.length + B := by rw [Int.natCast_add, Int.mul_add]; simp
    omega
theorem l0_iff (e : Int) (xs : List S30) (hx : xs.length ≤ 10) (hs : ∀ s ∈ xs, s.f3.length ≤ 600 ∧ 0 ≤ s.f1 ∧ s.f1 < 4294967296) (d : Nat) : ∀ (k i : Nat) (x y : Int), i ≤ xs.length → xs.length - i = d → 142 + d ≤ k → 0 ≤ x → x ≤ 600 * i → 0 ≤ y → y ≤ 4294967296 * i →
    ∃ t, image_Good.l0 k x y xs (xs.length : Int) (i : Int) e xs = some t ∧ (t = 0 ↔ (∀ s ∈ xs.drop i, mayB s = true) ∧ xs.length ≠ 0 ∧ x + tot lenI (xs.drop i) ≤ 65536 ∧ y + tot sizI (xs.drop i) ≤ 65536 ∧ Tail e xs 0) := by
  induction d with
  | zero =>
    intro k i x y a1 a2 a3 b1 b2 b3 b4
    obtain ⟨k, rfl⟩ : ∃ m, k = m + 1 := ⟨k - 1, by omega⟩
    have hd : xs.drop i = [] := by rw [show i = xs.length by omega, List.drop_length]
    rw [hd]
    simp only [image_Good.l0, tot, Int.add_zero]
    rw [if_neg (by omega)]
    by_cases c1 : (xs.length : Int) = 0
    · rw [if_pos c1]; exact ⟨1, rfl, ⟨fun g => by omega, fun g => by have := g.2.1; omega⟩⟩
    rw [if_neg c1]
    by_cases c2 : x > 65536
    · rw [if_pos c2]; exact ⟨2, rfl, ⟨fun g => by omega, fun g => by have := g.2.2.1; omega⟩⟩
    rw [if_neg c2]
    by_cases c3 : y > 65536
    · rw [if_pos c3]; exact ⟨2, rfl, ⟨fun g => by omega, fun g => by have := g.2.2.2.1; omega⟩⟩
    rw [if_neg c3]
    obtain ⟨t, h1, h2⟩ := l1_iff e xs hx xs.length k 0 (by omega) (by omega) (by omega)
    exact ⟨t, h1, h2.trans ⟨fun g => ⟨fun s hs => (by cases hs), by omega, by omega, by omega, g⟩, fun g => g.2.2.2.2⟩⟩
  | succ d ih =>
    intro k i x y a1 a2 a3 b1 b2 b3 b4
    obtain ⟨k, rfl⟩ : ∃ m, k = m + 1 := ⟨k - 1, by omega⟩
    have hi : i < xs.length := by omega
    have e1 : rd_T30 xs (i : Int) = xs[i] := by simp [rd_T30, hi]
    have hm := hs xs[i] (List.getElem_mem hi)
    simp only [image_Good.l0]
    rw [if_pos (by omega), if_pos (by omega), if_pos (by omega), e1, may_at, Option.bind_some, wrap_up hi (by omega), List.drop_eq_getElem_cons hi]
    by_cases c : mayB xs[i] = true
    · have w1 : IntKind.u64.wrap (x + IntKind.u64.wrap (xs[i].f3.length : Int)) = x + xs[i].f3.length := by simp only [IntKind.wrap_u64]; omega
      have w2 : IntKind.u64.wrap (y + IntKind.u64.wrap xs[i].f1) = y + xs[i].f1 := by simp only [IntKind.wrap_u64]; omega
      rw [if_pos c, w1, w2]
      obtain ⟨t, h1, h2⟩ := ih k (i + 1) (x + xs[i].f3.length) (y + xs[i].f1) (by omega) (by omega) (by omega) (by omega) (by omega) (by omega) (by omega)
      refine ⟨t, h1, h2.trans ?_⟩
      simp only [tot, lenI, sizI, List.mem_cons, forall_eq_or_imp, c, true_and]
      constructor
      · rintro ⟨g1, g2, g3, g4, g5⟩; exact ⟨g1, g2, by omega, by omega, g5⟩
      · rintro ⟨g1, g2, g3, g4, g5⟩; exact ⟨g1, g2, by omega, by omega, g5⟩
    · rw [if_neg c]
      exact ⟨1, rfl, ⟨fun g => by omega, fun g => absurd (g.1 xs[i] (List.mem_cons_self)) c⟩⟩
theorem good_iff (e : Int) (xs : List S30) (hx : xs.length ≤ 10) (hs : ∀ s ∈ xs, s.f3.length ≤ 600 ∧ 0 ≤ s.f1 ∧ s.f1 < 4294967296) :
    goodP e xs = 0 ↔ xs.length ≤ 8 ∧ (∀ s ∈ xs, mayB s = true) ∧ xs.length ≠ 0 ∧ tot lenI xs ≤ 65536 ∧ tot sizI xs ≤ 65536 ∧ Tail e xs 0 := by
  unfold goodP image_Good.f
  by_cases c : (xs.length : Int) > 8
  · rw [if_pos c]; exact ⟨fun g => by simp at g, fun g => by omega⟩
  · rw [if_neg c]
    obtain ⟨t, h1, h2⟩ := l0_iff e xs hx hs xs.length 300 0 0 0 (by omega) (by omega) (by omega) (by omega) (by omega) (by omega) (by omega)
    rw [show ((0 : Nat) : Int) = 0 from rfl] at h1
    rw [h1]
    simp only [List.drop_zero, Int.zero_add] at h2
    exact h2.trans ⟨fun g => ⟨by omega, g⟩, fun g => g.2⟩
theorem at_reverse (xs : List S30) (i : Nat) (h : i < xs.length) : at_ xs.reverse i = at_ xs (xs.length - 1 - i) := by
  simp only [at_, rd_T30, Int.toNat_natCast, List.getD_eq_getElem?_getD]
  rw [List.getElem?_reverse h]
theorem tail_reverse (e : Int) (xs : List S30) (h : Tail e xs 0) : Tail e xs.reverse 0 := by
  refine ⟨fun i' _ b2 m b3 => ?_, ?_⟩
  · rw [List.length_reverse] at b2
    rw [at_reverse xs i' b2, at_reverse xs m (by omega), apB_comm]
    exact h.1 _ (Nat.zero_le _) (by omega) _ (by omega)
  · have := h.2
    unfold Go.Proofs.Ytcjaepmecihmlaa.Entry.entryB at this ⊢
    rw [List.any_reverse]; exact this
theorem good_reverse1 (e : Int) (xs : List S30) (hx : xs.length ≤ 10) (hs : ∀ s ∈ xs, s.f3.length ≤ 600 ∧ 0 ≤ s.f1 ∧ s.f1 < 4294967296) (g : goodP e xs = 0) : goodP e xs.reverse = 0 := by
  rw [good_iff e xs hx hs] at g
  obtain ⟨g1, g2, g3, g4, g5, g6⟩ := g
  rw [good_iff e xs.reverse (by simpa using hx) (fun s h => hs s (List.mem_reverse.1 h))]
  exact ⟨by simpa using g1, fun s h => g2 s (List.mem_reverse.1 h), by rw [List.length_reverse]; exact g3, by rw [tot_reverse]; exact g4, by rw [tot_reverse]; exact g5, tail_reverse e xs g6⟩
theorem good_reverse (e : Int) (xs : List S30) (hx : xs.length ≤ 10) (hs : ∀ s ∈ xs, s.f3.length ≤ 600 ∧ 0 ≤ s.f1 ∧ s.f1 < 4294967296) : (goodP e xs = 0) = (goodP e xs.reverse = 0) := by
  refine propext ⟨good_reverse1 e xs hx hs, fun g => ?_⟩
  have := good_reverse1 e xs.reverse (by simpa using hx) (fun s h => hs s (List.mem_reverse.1 h)) g
  rwa [List.reverse_reverse] at this
end Go.Proofs.Ytcjaepmecihmlaa.OrderPure
