/- What image.Get reads of any bytes. -/
import Derived.Test.YtcjaepmecihmlaaGetPure
namespace Go.Proofs.Ytcjaepmecihmlaa.GetAny
open Go Go.RowKit Go.Proofs.Ytcjaepmecihmlaa.Img Go.Proofs.YtcjaepmecihmlaaW.PrintWords Go.Proofs.YtcjaepmecihmlaaW.PrintLast Go.Proofs.YtcjaepmecihmlaaW.PrintMore Go.Proofs.Ytcjaepmecihmlaa.ImgPure Go.Proofs.Ytcjaepmecihmlaa.GetPure
set_option linter.unusedVariables false
set_option linter.unusedSimpArgs false
theorem zha (l l' : List Int) (hl : l.length ≤ 1000000) (hll : l.length = l'.length) (d : Nat) : ∀ (k i : Nat), i ≤ l.length → l.length - i = d → d < k → slices_Equal_byte_byte.l0 k l l' (l.length : Int) (i : Int) = some (decide (l.drop i = l'.drop i)) := by
  induction d with
  | zero =>
    intro k i h1 h2 h3
    obtain ⟨k, rfl⟩ : ∃ m, k = m + 1 := ⟨k - 1, by omega⟩
    simp only [slices_Equal_byte_byte.l0]
    rw [if_neg (by omega), List.drop_eq_nil_of_le (by omega), List.drop_eq_nil_of_le (by omega)]
    rfl
  | succ d ih =>
    intro k i h1 h2 h3
    obtain ⟨k, rfl⟩ : ∃ m, k = m + 1 := ⟨k - 1, by omega⟩
    have hi : i < l.length := by omega
    have hi' : i < l'.length := by omega
    simp only [slices_Equal_byte_byte.l0]
    have e1 : rd l (i : Int) = l[i] := by simp [rd, hi]
    have e2 : rd l' (i : Int) = l'[i] := by simp [rd, hi']
    rw [if_pos (by omega), if_pos (by omega), if_pos (by omega), if_pos (by omega), e1, e2, List.drop_eq_getElem_cons hi, List.drop_eq_getElem_cons hi']
    by_cases h : l[i] = l'[i]
    · simp only [h, if_true]
      rw [zb9 hi (by omega), ih k (i + 1) (by omega) (by omega) (by omega)]
      congr 1
      rw [Bool.eq_iff_iff, decide_eq_true_eq, decide_eq_true_eq]
      exact ⟨fun e => by rw [e], fun e => (List.cons.inj e).2⟩
    · rw [if_neg h, decide_eq_false (fun e => h (List.cons.inj e).1)]
theorem equal_any (k : Nat) (l l' : List Int) (hl : l.length ≤ 1000000) (hk : l.length < k) (hll : l.length = l'.length) : slices_Equal_byte_byte.f k l l' = some (decide (l = l')) := by
  unfold slices_Equal_byte_byte.f
  rw [if_pos (by omega)]
  have := zha l l' hl hll l.length k 0 (by omega) (by omega) hk
  simpa using this
def n2 (L : List Int) (i : Nat) : Int := le 2 (L.drop i)
def n4 (L : List Int) (i : Nat) : Int := le 4 (L.drop i)
/-- The first bytes are as they must be. -/
def zdr (L : List Int) : Prop := 52 ≤ L.length ∧ L.take 16 = idP ∧ n2 L 16 = 2 ∧ n2 L 18 = 243 ∧ n4 L 20 = 1 ∧ n4 L 28 = 52 ∧ n2 L 40 = 52 ∧ n2 L 42 = 32
instance (L : List Int) : Decidable (zdr L) := by unfold zdr; infer_instance
def getI (L : List Int) : Int × List S30 × Int :=
  if zdr L then (if n2 L 44 > 8 then (0, [], 2) else match readS L (n2 L 44).toNat 0 with | some xs => done (n4 L 24) xs | none => (0, [], 3)) else (0, [], 3)
theorem head_any (k : Nat) (L : List Int) (hb : Bytes L) (hl : L.length ≤ 65536) (hk : 100 < k) : image_head.f k L = some (decide (zdr L)) := by
  unfold image_head.f
  by_cases c0 : L.length ≥ 52
  · have num : ∀ at_ m : Nat, m ≤ 4 → at_ + m ≤ 52 → image_number.f k L (at_ : Int) (m : Int) = some (le m (L.drop at_)) := fun at_ m h1 h2 => zef k L at_ m hb h1 (by omega) (by omega) (by omega)
    have hno : ¬ zdr L → decide (zdr L) = false := fun h => decide_eq_false h
    have h16 : (L.take 16).length = idP.length := by rw [List.length_take]; show min 16 L.length = 16; omega
    rw [if_pos (by omega), if_pos (by omega), zgr, Option.bind_some, equal_any k (L.take 16) idP (by rw [h16]; decide) (by rw [h16]; show 16 < k; omega) h16, Option.bind_some]
    have m1 : image_number.f k L 16 2 = some (n2 L 16) := num 16 2 (by omega) (by omega)
    have m2 : image_number.f k L 18 2 = some (n2 L 18) := num 18 2 (by omega) (by omega)
    have m3 : image_number.f k L 20 4 = some (n4 L 20) := num 20 4 (by omega) (by omega)
    have m4 : image_number.f k L 28 4 = some (n4 L 28) := num 28 4 (by omega) (by omega)
    have m5 : image_number.f k L 40 2 = some (n2 L 40) := num 40 2 (by omega) (by omega)
    have m6 : image_number.f k L 42 2 = some (n2 L 42) := num 42 2 (by omega) (by omega)
    by_cases d1 : L.take 16 = idP
    · rw [decide_eq_true d1, if_pos rfl, m1, Option.bind_some]
      by_cases d2 : n2 L 16 = 2
      · rw [if_pos d2, m2, Option.bind_some]
        by_cases d3 : n2 L 18 = 243
        · rw [if_pos d3, m3, Option.bind_some]
          by_cases d4 : n4 L 20 = 1
          · rw [if_pos d4, m4, Option.bind_some]
            by_cases d5 : n4 L 28 = 52
            · rw [if_pos d5, m5, Option.bind_some]
              by_cases d6 : n2 L 40 = 52
              · rw [if_pos d6, m6, Option.bind_some]
                congr 1
                rw [Bool.eq_iff_iff, decide_eq_true_eq]
                constructor
                · intro h
                  exact ⟨c0, d1, d2, d3, d4, d5, d6, by simpa using h⟩
                · intro h
                  simpa using h.2.2.2.2.2.2.2
              · rw [if_neg d6, hno (fun h => d6 h.2.2.2.2.2.2.1)]
            · rw [if_neg d5, hno (fun h => d5 h.2.2.2.2.2.1)]
          · rw [if_neg d4, hno (fun h => d4 h.2.2.2.2.1)]
        · rw [if_neg d3, hno (fun h => d3 h.2.2.2.1)]
      · rw [if_neg d2, hno (fun h => d2 h.2.2.1)]
    · rw [decide_eq_false d1, if_neg (by decide), hno (fun h => d1 h.2.1)]
  · rw [if_neg (by omega), decide_eq_false (fun h => c0 h.1)]
theorem Get_any (k : Nat) (L : List Int) (hb : Bytes L) (hl : L.length ≤ 65536) (hk : 400 < k) : image_Get.f k L = some (getI L) := by
  unfold image_Get.f getI
  rw [if_neg (by omega), head_any k L hb hl (by omega), Option.bind_some]
  by_cases h : zdr L
  · have hlen := h.1
    have num : ∀ at_ m : Nat, m ≤ 4 → at_ + m ≤ 52 → image_number.f k L (at_ : Int) (m : Int) = some (le m (L.drop at_)) := fun at_ m h1 h2 => zef k L at_ m hb h1 (by omega) (by omega) (by omega)
    have m1 : image_number.f k L 44 2 = some (n2 L 44) := num 44 2 (by omega) (by omega)
    have m2 : image_number.f k L 24 4 = some (n4 L 24) := num 24 4 (by omega) (by omega)
    have b1 := zd0 (hb.drop 44) 2
    have b1' : 0 ≤ n2 L 44 ∧ n2 L 44 < 65536 := b1
    rw [decide_eq_true h, if_pos rfl, if_pos h, m1, Option.bind_some, zbu (x := n2 L 44) (by omega) (by omega)]
    by_cases h8 : n2 L 44 > 8
    · rw [if_pos h8, if_pos h8]
    · rw [if_neg h8, if_neg h8, m2, Option.bind_some]
      have := Get_l0 L hb hl (n2 L 44).toNat (by omega) (n4 L 24) (n2 L 44).toNat k 0 [] rfl (by omega) (by omega)
      rw [Int.toNat_of_nonneg b1'.1] at this
      simp only [List.nil_append] at this
      refine this.trans ?_
      cases readS L (n2 L 44).toNat 0 <;> rfl
  · rw [decide_eq_false h, if_neg (by decide), if_neg h]
end Go.Proofs.Ytcjaepmecihmlaa.GetAny
