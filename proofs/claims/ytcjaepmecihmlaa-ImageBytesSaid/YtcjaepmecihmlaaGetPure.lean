/- What image.Get reads, as a plain function on lists: a file is read back; cut off it is none. -/
import Derived.Test.YtcjaepmecihmlaaImgPure
namespace Go.Proofs.Ytcjaepmecihmlaa.GetPure
open Go Go.RowKit Go.Proofs.Ytcjaepmecihmlaa.Img Go.Proofs.YtcjaepmecihmlaaW.PrintWords Go.Proofs.YtcjaepmecihmlaaW.PrintLast Go.Proofs.YtcjaepmecihmlaaW.PrintMore Go.Proofs.Ytcjaepmecihmlaa.ImgPure
set_option linter.unusedVariables false
set_option linter.unusedSimpArgs false
theorem zh4 (k : Nat) (b : List Int) (at_ : Nat) (hb : Bytes b) (hl : at_ + 4 ≤ b.length) (hn : b.length ≤ 1000000) (hk : 5 < k) : image_number.f k b (at_ : Int) 4 = some (le 4 (b.drop at_)) := zef k b at_ 4 hb (by omega) hl hn hk
section
variable {e n : Int} {R : List Int} (hb : Bytes (hdrP e n ++ R)) (hl : (hdrP e n ++ R).length ≤ 65536) (he : 0 ≤ e ∧ e < 4294967296) (hn : 0 ≤ n ∧ n < 65536) {k : Nat} (hk : 100 < k)
include hb hl hk
end
/-! Segments. -/
def fld (L : List Int) (at_ j : Nat) : Int := le 4 (L.drop (at_ + j))
def okSeg (L : List Int) (at_ : Nat) : Prop := at_ + 32 ≤ L.length ∧ fld L at_ 0 = 1 ∧ fld L at_ 12 = fld L at_ 8 ∧ fld L at_ 24 ≤ 7 ∧ fld L at_ 28 = 256 ∧ fld L at_ 4 + fld L at_ 16 ≤ L.length
instance (L : List Int) (at_ : Nat) : Decidable (okSeg L at_) := by unfold okSeg; infer_instance
def segAt (L : List Int) (at_ : Nat) : S30 := ⟨fld L at_ 8, fld L at_ 20, turn (fld L at_ 24), (L.take (fld L at_ 4 + fld L at_ 16).toNat).drop (fld L at_ 4).toNat⟩
theorem clone_at (l : List Int) (hl : l.length < 1000000) : slices_Clone_byte_byte.f l = some l := by
  unfold slices_Clone_byte_byte.f
  simp only [Option.bind_some, List.length_nil, List.nil_append]
  rw [if_pos (by omega)]
set_option maxHeartbeats 1000000 in
theorem seg_at (k : Nat) (L : List Int) (at_ : Nat) (hb : Bytes L) (hl : L.length ≤ 65536) (ha : at_ ≤ 100000) (hk : 10 < k) :
    image_segment.f k L (at_ : Int) = some (if okSeg L at_ then ((segAt L at_).f0, (segAt L at_).f1, (segAt L at_).f2, (segAt L at_).f3, true) else (0, 0, 0, [], false)) := by
  have w : ∀ j : Nat, j ≤ 32 → wrap64 ((at_ : Int) + (j : Int)) = ((at_ + j : Nat) : Int) := fun j hj => by rw [zbu (by omega) (by omega)]; omega
  unfold image_segment.f
  by_cases c0 : at_ + 32 ≤ L.length
  · have num : ∀ (k' : Nat) (j : Nat), 5 < k' → j + 4 ≤ 32 → image_number.f k' L ((at_ + j : Nat) : Int) 4 = some (fld L at_ j) := by
      intro k' j hk' hj
      rw [zh4 k' L (at_ + j) hb (by omega) (by omega) hk', fld]
    have bd : ∀ j, 0 ≤ fld L at_ j ∧ fld L at_ j < 4294967296 := by
      intro j
      have h := zd0 (hb.drop (at_ + j)) 4
      rw [show (256 : Int) ^ 4 = 4294967296 from rfl] at h
      exact h
    have w32 : ∀ _ : Unit, wrap64 ((at_ : Int) + 32) = ((at_ + 32 : Nat) : Int) := fun _ => w 32 (by omega)
    have w4 : ∀ _ : Unit, wrap64 ((at_ : Int) + 4) = ((at_ + 4 : Nat) : Int) := fun _ => w 4 (by omega)
    have w8 : ∀ _ : Unit, wrap64 ((at_ : Int) + 8) = ((at_ + 8 : Nat) : Int) := fun _ => w 8 (by omega)
    have w16 : ∀ _ : Unit, wrap64 ((at_ : Int) + 16) = ((at_ + 16 : Nat) : Int) := fun _ => w 16 (by omega)
    have w24 : ∀ _ : Unit, wrap64 ((at_ : Int) + 24) = ((at_ + 24 : Nat) : Int) := fun _ => w 24 (by omega)
    have w12 : ∀ _ : Unit, wrap64 ((at_ : Int) + 12) = ((at_ + 12 : Nat) : Int) := fun _ => w 12 (by omega)
    have w28 : ∀ _ : Unit, wrap64 ((at_ : Int) + 28) = ((at_ + 28 : Nat) : Int) := fun _ => w 28 (by omega)
    have w20 : ∀ _ : Unit, wrap64 ((at_ : Int) + 20) = ((at_ + 20 : Nat) : Int) := fun _ => w 20 (by omega)
    have n0 := num k 0 (by omega) (by omega)
    rw [Nat.add_zero] at n0
    rw [(w32 ()), if_neg (by omega), (w4 ()), num k 4 (by omega) (by omega), Option.bind_some, (w8 ()), num k 8 (by omega) (by omega), Option.bind_some, (w16 ()), num k 16 (by omega) (by omega), Option.bind_some, (w24 ()), num k 24 (by omega) (by omega), Option.bind_some, n0, Option.bind_some]
    obtain ⟨k, rfl⟩ : ∃ m, k = m + 1 := ⟨k - 1, by omega⟩
    have bad : ∀ (h : ¬ okSeg L at_), image_segment.j0 (k + 1) L (at_ : Int) (fld L at_ 4) (fld L at_ 8) (fld L at_ 16) (fld L at_ 24) true = some (if okSeg L at_ then ((segAt L at_).f0, (segAt L at_).f1, (segAt L at_).f2, (segAt L at_).f3, true) else (0, 0, 0, [], false)) := by
      intro h
      rw [if_neg h]
      simp only [image_segment.j0, if_true]
    by_cases c1 : fld L at_ 0 = 1
    · rw [if_pos c1, (w12 ()), num (k + 1) 12 (by omega) (by omega), Option.bind_some]
      by_cases c2 : fld L at_ 12 = fld L at_ 8
      · rw [if_pos c2]
        by_cases c3 : fld L at_ 24 > 7
        · rw [if_pos c3]; exact bad (fun h => by have := h.2.2.2.1; omega)
        · rw [if_neg c3, (w28 ()), num (k + 1) 28 (by omega) (by omega), Option.bind_some]
          by_cases c4 : fld L at_ 28 = 256
          · rw [if_pos c4]
            have b4 := bd 4; have b16 := bd 16; have b24 := bd 24
            have e1 : IntKind.u64.wrap (fld L at_ 4) = fld L at_ 4 := by rw [IntKind.wrap_u64]; omega
            have e2 : IntKind.u64.wrap (fld L at_ 16) = fld L at_ 16 := by rw [IntKind.wrap_u64]; omega
            have e3 : IntKind.u64.wrap (fld L at_ 4 + fld L at_ 16) = fld L at_ 4 + fld L at_ 16 := by rw [IntKind.wrap_u64]; omega
            have e4 : IntKind.u64.wrap (L.length : Int) = L.length := by rw [IntKind.wrap_u64]; omega
            rw [e1, e2, e3, e4]
            by_cases c5 : fld L at_ 4 + fld L at_ 16 > (L.length : Int)
            · rw [decide_eq_true c5]; exact bad (fun h => by have := h.2.2.2.2.2; omega)
            · rw [decide_eq_false c5]
              have hok : okSeg L at_ := ⟨c0, c1, c2, by omega, c4, by omega⟩
              have e5 : (fld L at_ 4 + fld L at_ 16) % 4294967296 = fld L at_ 4 + fld L at_ 16 := by omega
              simp only [image_segment.j0]
              rw [if_neg (by simp), (w20 ()), num k 20 (by omega) (by omega), Option.bind_some, zbu (x := fld L at_ 24) (by omega) (by omega), zgy, Option.bind_some, e5, if_pos (by omega), if_pos (by omega), if_pos (by omega), clone_at _ (by simp; omega), Option.bind_some, if_pos hok]
              rfl
          · rw [if_neg c4]; exact bad (fun h => c4 h.2.2.2.2.1)
      · rw [if_neg c2]; exact bad (fun h => c2 h.2.2.1)
    · rw [if_neg c1]; exact bad (fun h => c1 h.2.1)
  · have w32 : wrap64 ((at_ : Int) + 32) = ((at_ + 32 : Nat) : Int) := w 32 (by omega)
    rw [w32, if_pos (by omega), if_neg (fun h => c0 h.1)]
def readS (L : List Int) : Nat → Nat → Option (List S30)
  | 0, _ => some []
  | d + 1, i => if okSeg L (52 + 32 * i) then (readS L d (i + 1)).map (segAt L (52 + 32 * i) :: ·) else none
def done (e : Int) (xs : List S30) : Int × List S30 × Int := if goodP e xs = 0 then (e, xs, 0) else (0, [], goodP e xs)
theorem Get_l0 (L : List Int) (hb : Bytes L) (hl : L.length ≤ 65536) (n : Nat) (hn : n ≤ 8) (e : Int) (d : Nat) : ∀ (k i : Nat) (acc : List S30), acc.length = i → i + d = n → 320 + d < k →
    image_Get.l0 k L (n : Int) (i : Int) e acc = some (match readS L d i with | some xs => done e (acc ++ xs) | none => (0, [], 3)) := by
  induction d with
  | zero =>
    intro k i acc h1 h2 h3
    obtain ⟨k, rfl⟩ : ∃ m, k = m + 1 := ⟨k - 1, by omega⟩
    simp only [image_Get.l0, readS]
    rw [if_neg (by omega), zgs k e acc (by omega) (by omega), Option.bind_some, List.append_nil, done]
    split
    · rfl
    · rfl
  | succ d ih =>
    intro k i acc h1 h2 h3
    obtain ⟨k, rfl⟩ : ∃ m, k = m + 1 := ⟨k - 1, by omega⟩
    have e1 : wrap64 (52 + wrap64 ((i : Int) * 32)) = ((52 + 32 * i : Nat) : Int) := by
      rw [zbu (x := (i : Int) * 32) (by omega) (by omega), zbu (by omega) (by omega)]; omega
    simp only [image_Get.l0]
    rw [if_pos (by omega), e1, seg_at k L _ hb hl (by omega) (by omega), Option.bind_some]
    by_cases c : okSeg L (52 + 32 * i)
    · rw [if_pos c]
      simp only [if_true]
      rw [if_pos (by omega), zb9 (by omega : i < n) (by omega), ih k (i + 1) _ (by simp [h1]) (by omega) (by omega)]
      simp only [readS]
      rw [if_pos c]
      cases readS L d (i + 1) with
      | none => rfl
      | some xs => simp only [Option.map_some, List.append_assoc, List.singleton_append]
    · rw [if_neg c]
      simp only [Bool.false_eq_true, if_false, readS]
      rw [if_neg c]
end Go.Proofs.Ytcjaepmecihmlaa.GetPure
