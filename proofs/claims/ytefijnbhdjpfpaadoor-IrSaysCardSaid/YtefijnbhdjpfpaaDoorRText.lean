/- What the reference's Num and Text answer: the same numerals. -/
import Derived.Test.YtefijnbhdjpfpaaDoorRTextWalk
import Derived.Test.YtefijnbhdjpfpaaDoorText
import Derived.Lib.SmallJoins
namespace Go.Proofs.YtefijnbhdjpfpaaDoor.Ir
open Go Go.RowKit Go.Proofs.YtefijnbhdjpfpaaDoorW.PrintWords Go.Proofs.YtefijnbhdjpfpaaDoorW.PrintLast Go.Proofs.YtefijnbhdjpfpaaDoorW.PrintMore
set_option linter.unusedVariables false
set_option linter.unusedSimpArgs false
theorem num_one (i : Nat) (h : i < 10) : strOfNums [(IntKind.u64.wrap (48 + (i : Int))) % 256] = ⟨#[UInt8.ofNat (48 + i)]⟩ := by
  have : ∀ i : Nat, i < 10 → strOfNums [(IntKind.u64.wrap (48 + (i : Int))) % 256] = ⟨#[UInt8.ofNat (48 + i)]⟩ := by decide +kernel
  exact this i h
theorem digits_at (k : Nat) : ∀ u : Nat, u < 18446744073709551616 → Lib.nDigits u ≤ k → tinctureref5_Digits.f k (u : Int) = some ⟨(Lib.decDigits u).toArray⟩ := by
  induction k with
  | zero => intro u _ h; have := Lib.nDigits_pos u; omega
  | succ k ih =>
    intro u hu hk
    rw [tinctureref5_Digits.f, Lib.decDigits]
    by_cases h : u < 10
    · rw [if_pos (by omega), dif_pos h, num_one u h]
    · rw [Lib.nDigits_big h] at hk
      have hd : IntKind.u64.wrap (Int.tdiv (u : Int) 10) = ((u / 10 : Nat) : Int) := by
        rw [IntKind.wrap_u64, Int.tdiv_eq_ediv_of_nonneg (by omega)]; omega
      have hm : Int.tmod (u : Int) 10 = ((u % 10 : Nat) : Int) := by
        rw [Int.tmod_eq_emod_of_nonneg (by omega)]; omega
      rw [if_neg (by omega), dif_neg h, hd, hm, ih (u / 10) (by omega) (by omega)]
      simp only [Option.bind_some]
      rw [num_one (u % 10) (by omega)]
      have hl : (Lib.decDigits (u / 10)).length ≤ 20 := dec_len _ (by omega)
      have hs : (⟨(Lib.decDigits (u / 10)).toArray⟩ : ByteArray).size = (Lib.decDigits (u / 10)).length := by simp [ByteArray.size]
      have h1 : (⟨#[UInt8.ofNat (48 + u % 10)]⟩ : ByteArray).size = 1 := rfl
      rw [if_pos (by rw [hs, h1]; omega)]
      refine congrArg some ?_
      apply ByteArray.ext
      simp
theorem num_at (a : Int) (h0 : -9223372036854775808 ≤ a) (h1 : a ≤ 9223372036854775807) : tinctureref5_Num.f 25 a = some ⟨(Lib.itoa a).toArray⟩ := by
  have hn : ∀ u : Nat, u < 18446744073709551616 → Lib.nDigits u ≤ 25 := fun u hu => by
    have := dec_len u hu
    rw [Lib.decDigits_length] at this
    omega
  unfold tinctureref5_Num.f Lib.itoa
  by_cases hneg : a < 0
  · have hw : IntKind.u64.wrap (wrap64 (-a)) = ((a.natAbs : Nat) : Int) := by
      rw [IntKind.wrap_u64]; unfold wrap64; omega
    rw [if_pos hneg, if_pos hneg, hw, digits_at 25 a.natAbs (by omega) (hn _ (by omega))]
    simp only [Option.bind_some]
    have hl : (Lib.decDigits a.natAbs).length ≤ 20 := dec_len _ (by omega)
    have hs : (⟨(Lib.decDigits a.natAbs).toArray⟩ : ByteArray).size = (Lib.decDigits a.natAbs).length := by simp [ByteArray.size]
    rw [if_pos (by rw [hs]; omega)]
    refine congrArg some ?_
    apply ByteArray.ext
    simp
  · have hw : IntKind.u64.wrap a = ((a.toNat : Nat) : Int) := by
      rw [IntKind.wrap_u64]; omega
    rw [if_neg hneg, if_neg hneg, hw, digits_at 25 a.toNat (by omega) (hn _ (by omega))]
    rfl
theorem num_says (a : Int) (h0 : -9223372036854775808 ≤ a) (h1 : a ≤ 9223372036854775807) : NumSays a ⟨(Lib.itoa a).toArray⟩ := fun w =>
  tinctureref5_Num.calls 25 _ _ w (num_at a h0 h1)
theorem text_same (a0 a1 a2 a3 a4 : Int) : ((((((((⟨(Lib.itoa a0).toArray⟩ ++ ⟨#[32]⟩ : ByteArray) ++ ⟨(Lib.itoa a1).toArray⟩) ++ ⟨#[32]⟩) ++ ⟨(Lib.itoa a2).toArray⟩) ++ ⟨#[32]⟩) ++ ⟨(Lib.itoa a3).toArray⟩) ++ ⟨#[32]⟩) ++ ⟨(Lib.itoa a4).toArray⟩) = textB a0 a1 a2 a3 a4 := by
  unfold textB joinL
  apply ByteArray.ext
  simp [Lib.join, List.intercalate]
/-- The numbers of a node are machine numbers. -/
def nodeOk (a0 a1 a2 a3 a4 : Int) : Prop := (-9223372036854775808 ≤ a0 ∧ a0 ≤ 9223372036854775807) ∧ (-9223372036854775808 ≤ a1 ∧ a1 ≤ 9223372036854775807) ∧ (-9223372036854775808 ≤ a2 ∧ a2 ≤ 9223372036854775807) ∧ (-9223372036854775808 ≤ a3 ∧ a3 ≤ 9223372036854775807) ∧ (0 ≤ a4 ∧ a4 < 4294967296)
instance (a0 a1 a2 a3 a4 : Int) : Decidable (nodeOk a0 a1 a2 a3 a4) := by unfold nodeOk; exact inferInstance
def tinctureref18_Text.f (k : Nat) (a0 a1 a2 a3 a4 : Int) : Option ByteArray := if nodeOk a0 a1 a2 a3 a4 then some (textB a0 a1 a2 a3 a4) else none
theorem size_itoa (a : Int) (h : -9223372036854775808 ≤ a ∧ a ≤ 9223372036854775807) : (⟨(Lib.itoa a).toArray⟩ : ByteArray).size ≤ 30 := by
  have := itoa_len a h.1 h.2
  simpa [ByteArray.size] using this
theorem tinctureref18_Text.calls (k : Nat) (a0_0 : Int) (a0_1 : Int) (a0_2 : Int) (a0_3 : Int) (a0_4 : Int) (r : ByteArray) (w : World) (h : tinctureref18_Text.f k a0_0 a0_1 a0_2 a0_3 a0_4 = some r) :
    Calls Tryd.prog 17 #[.agg #[.int .i64 a0_0, .int .i64 a0_1, .int .i64 a0_2, .int .i64 a0_3, .int .u32 a0_4]] w fun e w' => e = .returned (.string r) ∧ Below w.heap.size w w' := by
  unfold tinctureref18_Text.f at h
  split at h
  · rename_i hok
    obtain ⟨h0, h1, h2, h3, h4⟩ := hok
    have h4' : -9223372036854775808 ≤ a0_4 ∧ a0_4 ≤ 9223372036854775807 := by omega
    obtain rfl := Option.some.inj h
    rw [← text_same]
    exact rtext_walk _ _ _ _ _ _ _ _ _ _ w h4.1 h4.2 (size_itoa _ h0) (size_itoa _ h1) (size_itoa _ h2) (size_itoa _ h3) (size_itoa _ h4') (num_says _ h0.1 h0.2) (num_says _ h1.1 h1.2) (num_says _ h2.1 h2.2) (num_says _ h3.1 h3.2) (num_says _ h4'.1 h4'.2)
  · cases h
theorem tinctureref18_Text.mono : ∀ a0 a1 a2 a3 a4 k, LeO (tinctureref18_Text.f k a0 a1 a2 a3 a4) (tinctureref18_Text.f (k + 1) a0 a1 a2 a3 a4) := fun a0 a1 a2 a3 a4 k => LeO.refl _
/-- Whatever the numbers: the table serves. -/
def ir_TextT.f (a0 a1 a2 a3 a4 : Int) : Option ByteArray := if nodeOk a0 a1 a2 a3 a4 then some (textB a0 a1 a2 a3 a4) else none
theorem pow10_named : Tryd.prog.globalNamed "internal/strconv.uint64pow10" = some 0 := by kernel_rfl
theorem tab_later {w w' : World} (h : Tab w) (hb : Below w.heap.size w w') : Tab w' := Go.Joins.tab_stays pow10_named h hb (Nat.le_refl _)
theorem says_any (a : Int) (h : -9223372036854775808 ≤ a ∧ a ≤ 9223372036854775807) (B : World) (hT : Tab B) : Says 25 #[.int .i64 a] ⟨(Lib.itoa a).toArray⟩ B := fun w hb => by
  refine (Tryd.strconv_Itoa a h.1 h.2 w (tab_later hT hb)).mono ?_
  rintro e w' ⟨rfl, k, os, rfl⟩
  exact ⟨rfl, grown_below k os⟩
theorem says_uint (a : Int) (h : 0 ≤ a ∧ a < 4294967296) (B : World) (hT : Tab B) : Says 26 #[.int .u64 a, .int .i64 10] ⟨(Lib.itoa a).toArray⟩ B := fun w hb => by
  obtain ⟨u, rfl⟩ : ∃ u : Nat, a = u := ⟨a.toNat, by omega⟩
  rw [Lib.itoa_nonneg]
  exact uint_all u (by omega) w (tab_later hT hb)
theorem ir_TextT.calls (a0_0 : Int) (a0_1 : Int) (a0_2 : Int) (a0_3 : Int) (a0_4 : Int) (r : ByteArray) (w : World) (hT : Tab w) (h : ir_TextT.f a0_0 a0_1 a0_2 a0_3 a0_4 = some r) :
    Calls Tryd.prog 16 #[.agg #[.int .i64 a0_0, .int .i64 a0_1, .int .i64 a0_2, .int .i64 a0_3, .int .u32 a0_4]] w fun e w' => e = .returned (.string r) ∧ Below w.heap.size w w' := by
  unfold ir_TextT.f at h
  split at h
  · rename_i hok
    obtain ⟨h0, h1, h2, h3, h4⟩ := hok
    have h4' : -9223372036854775808 ≤ a0_4 ∧ a0_4 ≤ 9223372036854775807 := by omega
    obtain rfl := Option.some.inj h
    exact text_walk _ _ _ _ _ _ _ _ _ _ _ w h4.1 h4.2 (says_any _ h0 w hT) (says_any _ h1 w hT) (says_any _ h2 w hT) (says_any _ h3 w hT) (says_uint _ h4 w hT)
      (joins_of _ _ _ _ _ (itoa_len _ h0.1 h0.2) (itoa_len _ h1.1 h1.2) (itoa_len _ h2.1 h2.2) (itoa_len _ h3.1 h3.2) (itoa_len _ h4'.1 h4'.2))
  · cases h
end Go.Proofs.YtefijnbhdjpfpaaDoor.Ir
