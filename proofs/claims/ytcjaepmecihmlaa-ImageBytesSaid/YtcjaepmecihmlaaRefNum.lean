/- What the reference's reader of numbers comes to, plainly. -/
import Derived.Test.YtcjaepmecihmlaaImgPure
import Derived.Test.YtcjaepmecihmlaaI10
namespace Go.Proofs.Ytcjaepmecihmlaa.RefRd
open Go Go.RowKit Go.Proofs.Ytcjaepmecihmlaa.Img Go.Proofs.YtcjaepmecihmlaaW.PrintWords Go.Proofs.YtcjaepmecihmlaaW.PrintLast Go.Proofs.YtcjaepmecihmlaaW.PrintMore Go.Proofs.Ytcjaepmecihmlaa.ImgPure
set_option linter.unusedVariables false
set_option linter.unusedSimpArgs false
theorem le_down (n : Nat) : ∀ l : List Int, le (n + 1) l = l.headD 0 + 256 * le n (l.drop 1) := by
  induction n with
  | zero => intro l; simp [le]
  | succ n ih =>
    intro l
    rw [le, ih l]
    show _ = l.headD 0 + 256 * (le n (l.drop 1) + ((l.drop 1).drop n).headD 0 * 256 ^ n)
    rw [List.drop_drop, Nat.add_comm 1 n, Int.pow_succ]
    generalize (l.drop (n + 1)).headD 0 = x
    generalize le n (l.drop 1) = y
    generalize (256 : Int) ^ n = p
    rw [Int.mul_add, Int.add_assoc, show x * (p * 256) = 256 * (x * p) by rw [← Int.mul_assoc, Int.mul_comm]]
theorem or_low {a b : Int} (ha : 0 ≤ a ∧ a < 16777216) (hb : 0 ≤ b ∧ b ≤ 255) : Go.bits .or .u32 (a * 256) b = b + 256 * a := by
  rw [bits_join .u32 32 (by decide) (fun n h h' => by rw [IntKind.wrap_u32]; omega) 8 (a * 256) b (by omega) (by show a * 256 % 256 = 0; omega) (by omega) hb.1 (by show b < 256; omega) (by omega)]
  omega
theorem num_l0 (L : List Int) (hL : Bytes L) (hl : L.length ≤ 1000000) (k s : Nat) (hs : s ≤ 4) (hk : k + s ≤ L.length) (bad : Bool) :
    ∀ (i f : Nat), i ≤ s → tinctureref7_Reader_Num.l0 (f + i + 1) (s : Int) (le (s - i) (L.drop (k + i))) ((i : Int) - 1) L (k : Int) bad = some (le s (L.drop k), (k : Int) + s, bad)
  | 0, f, _ => by
    unfold tinctureref7_Reader_Num.l0
    rw [if_neg (by omega)]
    have hw : wrap64 ((k : Int) + (s : Int)) = (k : Int) + s := by unfold wrap64; omega
    rw [hw]
    rfl
  | i + 1, f, hi => by
    unfold tinctureref7_Reader_Num.l0
    have e : ((i + 1 : Nat) : Int) - 1 = (i : Int) := by omega
    rw [e]
    have hw : wrap64 ((k : Int) + (i : Int)) = ((k + i : Nat) : Int) := by unfold wrap64; omega
    have hw2 : wrap64 ((i : Int) - 1) = (i : Int) - 1 := by unfold wrap64; omega
    rw [hw, hw2, if_pos (by omega), if_pos (by omega), if_pos (by omega), rd_drop]
    have hb := (hL.drop (k + i)).head
    have hv := zd0 (hL.drop (k + (i + 1))) (s - (i + 1))
    have hp : (256 : Int) ^ (s - (i + 1)) ≤ 16777216 := by
      rcases (by omega : s - (i + 1) = 0 ∨ s - (i + 1) = 1 ∨ s - (i + 1) = 2 ∨ s - (i + 1) = 3) with h | h | h | h <;> rw [h] <;> decide
    have e1 : le (s - (i + 1)) (L.drop (k + (i + 1))) * 256 % 4294967296 = le (s - (i + 1)) (L.drop (k + (i + 1))) * 256 := by omega
    have e2 : (L.drop (k + i)).headD 0 % 4294967296 = (L.drop (k + i)).headD 0 := by omega
    rw [e1, e2, or_low ⟨hv.1, by omega⟩ hb]
    have e3 : (L.drop (k + i)).headD 0 + 256 * le (s - (i + 1)) (L.drop (k + (i + 1))) = le (s - i) (L.drop (k + i)) := by
      rw [show s - i = (s - (i + 1)) + 1 by omega, le_down, List.drop_drop]
      rfl
    rw [e3, show f + (i + 1) = f + i + 1 by omega]
    exact num_l0 L hL hl k s hs hk bad i f (by omega)
/-- What Num reads. -/
theorem num_ok (L : List Int) (hL : Bytes L) (hl : L.length ≤ 1000000) (k s : Nat) (hs : s ≤ 4) (hk : k + s ≤ L.length) : tinctureref7_Reader_Num.f (s + 2) L (k : Int) false (s : Int) = some (le s (L.drop k), ((k + s : Nat) : Int), false) := by
  unfold tinctureref7_Reader_Num.f
  rw [if_neg (by decide)]
  have hw : wrap64 ((L.length : Int) - (k : Int)) = (L.length : Int) - k := by unfold wrap64; omega
  have hw2 : wrap64 ((s : Int) - 1) = (s : Int) - 1 := by unfold wrap64; omega
  rw [hw, decide_eq_false (by omega)]
  have ej : tinctureref7_Reader_Num.j0 (s + 2) (s : Int) false L (k : Int) false = tinctureref7_Reader_Num.l0 (s + 1) (s : Int) 0 (wrap64 ((s : Int) - 1)) L (k : Int) false := by
    rw [tinctureref7_Reader_Num.j0, if_neg (by decide)]
  rw [ej, hw2]
  have := num_l0 L hL hl k s hs hk false s 0 (Nat.le_refl _)
  rw [Nat.sub_self, Nat.zero_add] at this
  have e0 : le 0 (L.drop (k + s)) = 0 := rfl
  rw [e0] at this
  rw [this]
  rfl
theorem num_no (L : List Int) (k s : Nat) (bad : Bool) (hk : k ≤ L.length) (hl : L.length ≤ 1000000) (hs : s ≤ 4) (h : bad = true ∨ L.length < k + s) : tinctureref7_Reader_Num.f 1 L (k : Int) bad (s : Int) = some (0, (k : Int), true) := by
  unfold tinctureref7_Reader_Num.f
  by_cases hb : bad = true
  · rw [if_pos hb]
    simp [tinctureref7_Reader_Num.j0]
  · rw [if_neg hb]
    have hl : L.length < k + s := h.resolve_left hb
    have hw : wrap64 ((L.length : Int) - (k : Int)) = (L.length : Int) - k := by unfold wrap64; omega
    rw [hw, decide_eq_true (by omega)]
    simp [tinctureref7_Reader_Num.j0]
/-- Where a reader stands that has been asked for K bytes. -/
def Pos (L : List Int) (K k : Nat) (bad : Bool) : Prop := (bad = false ∧ k = K ∧ K ≤ L.length) ∨ (bad = true ∧ k ≤ L.length ∧ L.length < K)
def gotV (L : List Int) (K s : Nat) : Int := if L.length < K + s then 0 else le s (L.drop K)
/-- A call of Num. -/
theorem num_call (g : Nat) (L : List Int) (K k s : Nat) (bad : Bool) (w0 w : World) (hL : Bytes L) (hl : L.length ≤ 1000000) (hs : s ≤ 4) (hI : IsS62 w0 w g L (k : Int) bad) (hp : Pos L K k bad) (hB : Below w0.heap.size w0 w) :
    Calls Try.prog 29 #[.pointer (some ⟨g, 0, none⟩), .int .i64 (s : Int)] w fun e w' => e = .returned (.int .u32 (gotV L K s)) ∧ ∃ k' bad', IsS62 w0 w' g L ((k' : Nat) : Int) bad' ∧ Pos L (K + s) k' bad' ∧ Below w0.heap.size w0 w' ∧ zbq w w' g none := by
  by_cases hlt : L.length < K + s
  · have hh : bad = true ∨ L.length < k + s := by
      rcases hp with ⟨_, rfl, _⟩ | ⟨h, _, _⟩
      · exact .inr hlt
      · exact .inl h
    have hk : k ≤ L.length := by
      rcases hp with ⟨_, rfl, h⟩ | ⟨_, h, _⟩
      · exact h
      · exact h
    refine (tinctureref7_Reader_Num.calls 1 g L k bad s _ _ _ w0 w hI hB (num_no L k s bad hk hl hs hh)).mono ?_
    rintro e w' ⟨rfl, h1, h2, h3⟩
    exact ⟨by rw [gotV, if_pos hlt], k, true, h1, .inr ⟨rfl, hk, hlt⟩, h2, h3⟩
  · have hh : bad = false ∧ k = K := by
      rcases hp with ⟨h, rfl, _⟩ | ⟨_, _, h⟩
      · exact ⟨h, rfl⟩
      · omega
    obtain ⟨rfl, rfl⟩ := hh
    refine (tinctureref7_Reader_Num.calls (s + 2) g L k false s _ _ _ w0 w hI hB (num_ok L hL hl k s hs (by omega))).mono ?_
    rintro e w' ⟨rfl, h1, h2, h3⟩
    exact ⟨by rw [gotV, if_neg hlt], k + s, false, h1, .inl ⟨rfl, rfl, by omega⟩, h2, h3⟩
end Go.Proofs.Ytcjaepmecihmlaa.RefRd
