/- Segments may stand in any order; what may be in one order may be in another: the walk, and that its answer is true. -/
import Derived.Test.YtcjaepmecihmlaaOrder
import Derived.Test.YtcjaepmecihmlaaOrderPure
import Derived.Test.YtcjaepmecihmlaaOpenTImageBytes
namespace Go.Proofs.Ytcjaepmecihmlaa.ImageOrder
open Go Go.RowKit Go.Proofs.Ytcjaepmecihmlaa.OpenTImageBytes Go.Proofs.Ytcjaepmecihmlaa.Img Go.Proofs.YtcjaepmecihmlaaW.PrintWords Go.Proofs.YtcjaepmecihmlaaW.PrintLast Go.Proofs.YtcjaepmecihmlaaW.PrintMore Go.Proofs.Ytcjaepmecihmlaa.ImgPure Go.Proofs.Ytcjaepmecihmlaa.OrderPure
set_option linter.unusedVariables false
theorem wfu32 {x : Int} (h : wf23 x) : 0 ≤ x ∧ x ≤ 4294967295 := by
  have h' : IntKind.u32.min ≤ x ∧ x ≤ IntKind.u32.max := by simpa [wf23, Lit.wf] using h
  rw [show IntKind.u32.min = 0 from rfl, show IntKind.u32.max = 4294967295 from rfl] at h'; exact h'
theorem great_l0 (e : Int) (xs : List S30) (hx : xs.length ≤ 10) (d : Nat) : ∀ (k i : Nat), i ≤ xs.length → xs.length - i = d → d < k → ∃ b, tincturelaw8_great.l0 k (i : Int) e xs = some b ∧ (b = false → ∀ s ∈ xs.drop i, s.f3.length ≤ 600) := by
  induction d with
  | zero =>
    intro k i h1 h2 h3
    obtain ⟨k, rfl⟩ : ∃ m, k = m + 1 := ⟨k - 1, by omega⟩
    simp only [tincturelaw8_great.l0]
    rw [if_neg (by omega)]
    exact ⟨false, rfl, fun _ s hs => by rw [List.drop_of_length_le (by omega)] at hs; cases hs⟩
  | succ d ih =>
    intro k i h1 h2 h3
    obtain ⟨k, rfl⟩ : ∃ m, k = m + 1 := ⟨k - 1, by omega⟩
    have hi : i < xs.length := by omega
    have e1 : rd_T30 xs (i : Int) = xs[i] := by simp [rd_T30, hi]
    simp only [tincturelaw8_great.l0]
    rw [if_pos (by omega), if_pos (by omega), e1, wrap_up hi (by omega)]
    by_cases c : (xs[i].f3.length : Int) > 600
    · rw [if_pos c]; exact ⟨true, rfl, fun h => by cases h⟩
    · rw [if_neg c]
      obtain ⟨b, hb, hb2⟩ := ih k (i + 1) (by omega) (by omega) (by omega)
      refine ⟨b, hb, fun h s hs => ?_⟩
      rw [List.drop_eq_getElem_cons hi] at hs
      rcases List.mem_cons.1 hs with rfl | hs
      · omega
      · exact hb2 h s hs
theorem great_at (k : Nat) (e : Int) (xs : List S30) (hk : 20 < k) : ∃ b, tincturelaw8_great.f k e xs = some b ∧ (b = false → xs.length ≤ 10 ∧ ∀ s ∈ xs, s.f3.length ≤ 600) := by
  unfold tincturelaw8_great.f
  by_cases c : (xs.length : Int) > 10
  · rw [if_pos c]; exact ⟨true, rfl, fun h => by cases h⟩
  · rw [if_neg c]
    obtain ⟨b, hb, hb2⟩ := great_l0 e xs (by omega) xs.length k 0 (by omega) (by omega) (by omega)
    exact ⟨b, hb, fun h => ⟨by omega, by simpa using hb2 h⟩⟩
theorem awake_at : tincturelaw8_awake.f 1000 = some true := by decide +kernel
theorem walk (W : World) (x0 : (Int × List (S30))) (wx0 : wf26 x0) (A0_1 : Option Addr) (c0_1 : Nat) (l0_0 : x0.2.length ≤ c0_1) (r0_0 : Kd.C k30 W A0_1 x0.2.length x0.2) :
    Calls Try.prog 7 #[.agg #[.int .u32 x0.1, .slice A0_1 x0.2.length c0_1]] W fun e w' => e = .returned (.bool true) ∧ Below W.heap.size W w' := by
  obtain ⟨b, hb, hb2⟩ := great_at 1000 x0.1 x0.2 (by omega)
  cases b with
  | true => exact Order.great W x0.1 A0_1 c0_1 x0.2 r0_0 l0_0 1000 ⟨awake_at⟩ ⟨hb⟩
  | false =>
    obtain ⟨hx, hs⟩ := hb2 rfl
    have hw : ∀ s ∈ x0.2, s.f3.length ≤ 600 ∧ 0 ≤ s.f1 ∧ s.f1 < 4294967296 := fun s h => by
      obtain ⟨_, _, h1⟩ := wx0
      obtain ⟨_, b1, _⟩ := h1 s h
      have := wfu32 b1
      have := hs s h
      omega
    exact Order.run W x0.1 A0_1 c0_1 x0.2 r0_0 l0_0 1000 (goodP x0.1 x0.2) hx ⟨awake_at⟩ ⟨hb⟩ ⟨good_at 1000 x0.1 x0.2 hx (by omega)⟩ (goodP x0.1 x0.2.reverse) ⟨good_at 1000 x0.1 x0.2.reverse (by simpa using hx) (by omega)⟩ (good_reverse x0.1 x0.2 hx hw)
end Go.Proofs.Ytcjaepmecihmlaa.ImageOrder
