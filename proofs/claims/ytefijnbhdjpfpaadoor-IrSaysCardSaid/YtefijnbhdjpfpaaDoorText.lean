/- What ir's Text answers: five numerals with blanks between. -/
import Derived.Test.YtefijnbhdjpfpaaDoorTextWalk
import Derived.Test.YtefijnbhdjpfpaaDoorUint
namespace Go.Proofs.YtefijnbhdjpfpaaDoor.Ir
open Go Go.RowKit
set_option linter.unusedVariables false
set_option linter.unusedSimpArgs false
/-- The text: five numerals. -/
def joinL (l : List (List UInt8)) : List UInt8 := Lib.join l [32]
def textB (a0 a1 a2 a3 a4 : Int) : ByteArray := ⟨(joinL [Lib.itoa a0, Lib.itoa a1, Lib.itoa a2, Lib.itoa a3, Lib.itoa a4]).toArray⟩
theorem joins_of (l0 l1 l2 l3 l4 : List UInt8) (h0 : l0.length ≤ 30) (h1 : l1.length ≤ 30) (h2 : l2.length ≤ 30) (h3 : l3.length ≤ 30) (h4 : l4.length ≤ 30) :
    Joins ⟨l0.toArray⟩ ⟨l1.toArray⟩ ⟨l2.toArray⟩ ⟨l3.toArray⟩ ⟨l4.toArray⟩ ⟨(joinL [l0, l1, l2, l3, l4]).toArray⟩ := by
  intro bk c w hc hb
  have hlt : bk < w.heap.size := (Array.getElem?_eq_some_iff.1 hb).1
  have e : ([⟨l0.toArray⟩, ⟨l1.toArray⟩, ⟨l2.toArray⟩, ⟨l3.toArray⟩, ⟨l4.toArray⟩] : List ByteArray).map (·.data.toList) = [l0, l1, l2, l3, l4] := by simp
  have K := Tryd.strings_Join bk 0 c [⟨l0.toArray⟩, ⟨l1.toArray⟩, ⟨l2.toArray⟩, ⟨l3.toArray⟩, ⟨l4.toArray⟩] ⟨#[32]⟩ w (fun j x hx => by
    rw [Go.Proofs.YtefijnbhdjpfpaaDoorW.PrintWords.blk_cell hb (0 + j), Nat.zero_add]
    match j, hx with
    | 0, hx => cases hx; rfl
    | 1, hx => cases hx; rfl
    | 2, hx => cases hx; rfl
    | 3, hx => cases hx; rfl
    | 4, hx => cases hx; rfl
    | k + 5, hx => simp at hx) hlt (by simp) (by simpa using hc) (by rw [e]; simp [Lib.join]; omega)
  rw [e] at K
  exact K
theorem dec_len (u : Nat) (h : u < 18446744073709551616) : (Lib.decDigits u).length ≤ 20 := by
  rw [Lib.decDigits_length]
  by_cases hz : u = 0
  · subst hz
    unfold Lib.nDigits
    simp
  · have := Lib.numDigits_eq u (by omega) h; split at this <;> omega
theorem itoa_len (n : Int) (h0 : -9223372036854775808 ≤ n) (h1 : n ≤ 9223372036854775807) : (Lib.itoa n).length ≤ 30 := by
  unfold Lib.itoa
  have a := dec_len n.natAbs (by omega)
  have b := dec_len n.toNat (by omega)
  split <;> simp <;> omega
/-- The table of powers of ten. -/
def Tab (w : World) : Prop := Lib.TabIs Tryd.prog w "internal/strconv.uint64pow10" .u64 Lib.pow10Tab
def i64ok (a : Int) : Prop := -9223372036854775808 ≤ a ∧ a ≤ 9223372036854775807
theorem says_small (i : Nat) (hi : i < 100) (B : World) : Says 25 #[.int .i64 i] ⟨(Lib.itoa i).toArray⟩ B := fun w hb => by
  refine (Tryd.strconv_Itoa_small i hi w).mono ?_
  rintro e w' ⟨rfl, rfl⟩
  rw [Lib.itoa_nonneg]
  exact ⟨rfl, Below.refl _ _⟩
theorem says_uint_small (i : Nat) (hi : i < 100) (B : World) : Says 26 #[.int .u64 i, .int .i64 10] ⟨(Lib.itoa i).toArray⟩ B := fun w hb => by
  rw [Lib.itoa_nonneg]
  exact uint_small i hi w
/-- Small numbers: no table. -/
theorem text_small (a0 a1 a2 a3 a4 : Nat) (h0 : a0 < 100) (h1 : a1 < 100) (h2 : a2 < 100) (h3 : a3 < 100) (h4 : a4 < 100) (w : World) :
    Calls Tryd.prog 16 #[.agg #[.int .i64 a0, .int .i64 a1, .int .i64 a2, .int .i64 a3, .int .u32 a4]] w fun e w' => e = .returned (.string (textB a0 a1 a2 a3 a4)) ∧ Below w.heap.size w w' :=
  text_walk _ _ _ _ _ _ _ _ _ _ _ w (by omega) (by omega) (says_small a0 h0 w) (says_small a1 h1 w) (says_small a2 h2 w) (says_small a3 h3 w) (says_uint_small a4 h4 w)
    (joins_of _ _ _ _ _ (itoa_len _ (by omega) (by omega)) (itoa_len _ (by omega) (by omega)) (itoa_len _ (by omega) (by omega)) (itoa_len _ (by omega) (by omega)) (itoa_len _ (by omega) (by omega)))
def ir_Text.f (a0 a1 a2 a3 a4 : Int) : Option ByteArray := if a0 = 12 ∧ a1 = 0 ∧ a2 = 0 ∧ a3 = 0 ∧ a4 = 4 then some ⟨#[49, 50, 32, 48, 32, 48, 32, 48, 32, 52]⟩ else none
theorem text_12 : textB (12 : Nat) (0 : Nat) (0 : Nat) (0 : Nat) (4 : Nat) = ⟨#[49, 50, 32, 48, 32, 48, 32, 48, 32, 52]⟩ := by
  have d : ∀ n : Nat, n < 10 → Lib.decDigits n = [UInt8.ofNat (48 + n)] := by decide +kernel
  have e12 : Lib.decDigits 12 = [49, 50] := by decide +kernel
  unfold textB joinL
  rw [Lib.itoa_nonneg, Lib.itoa_nonneg, Lib.itoa_nonneg, e12, d 0 (by omega), d 4 (by omega)]
  rfl
theorem ir_Text.calls (a0_0 : Int) (a0_1 : Int) (a0_2 : Int) (a0_3 : Int) (a0_4 : Int) (r : ByteArray) (w : World) (h : ir_Text.f a0_0 a0_1 a0_2 a0_3 a0_4 = some r) :
    Calls Tryd.prog 16 #[.agg #[.int .i64 a0_0, .int .i64 a0_1, .int .i64 a0_2, .int .i64 a0_3, .int .u32 a0_4]] w fun e w' => e = .returned (.string r) ∧ Below w.heap.size w w' := by
  unfold ir_Text.f at h
  split at h
  · rename_i hh
    obtain ⟨rfl, rfl, rfl, rfl, rfl⟩ := hh
    obtain rfl := Option.some.inj h
    have K := text_small 12 0 0 0 4 (by omega) (by omega) (by omega) (by omega) (by omega) w
    rw [text_12] at K
    exact K
  · cases h
end Go.Proofs.YtefijnbhdjpfpaaDoor.Ir
