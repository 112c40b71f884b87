/- The names of all Ops, out of one text cut at its blanks: what names and Name answer. -/
import Derived.Test.YtmgbidehdnmjkaaDoorShelf
import Derived.Test.YtmgbidehdnmjkaaDoorWWords
import Derived.Test.YtmgbidehdnmjkaaDoorR0
import Derived.Lib.SmallJoins
import Derived.Lib.LaidTab
import Derived.Lib.Hide
namespace Go.Proofs.YtmgbidehdnmjkaaDoor.Rv
open Go Go.RowKit Go.Proofs.YtmgbidehdnmjkaaDoorW.PrintWords Go.Proofs.YtmgbidehdnmjkaaDoorW.PrintLast Go.Proofs.YtmgbidehdnmjkaaDoorW.PrintMore
set_option linter.unusedVariables false
set_option linter.unusedSimpArgs false
theorem blanks : Tryd.prog.globalNamed "strings.asciiSpace" = some 0 := by kernel_rfl
def nameText : List UInt8 := [108, 117, 105, 32, 97, 117, 105, 112, 99, 32, 106, 97, 108, 32, 106, 97, 108, 114, 32, 98, 101, 113, 32, 98, 110, 101, 32, 98, 108, 116, 32, 98, 103, 101, 32, 98, 108, 116, 117, 32, 98, 103, 101, 117, 32, 108, 98, 32, 108, 104, 32, 108, 119, 32, 108, 98, 117, 32, 108, 104, 117, 32, 115, 98, 32, 115, 104, 32, 115, 119, 32, 97, 100, 100, 105, 32, 115, 108, 116, 105, 32, 115, 108, 116, 105, 117, 32, 120, 111, 114, 105, 32, 111, 114, 105, 32, 97, 110, 100, 105, 32, 115, 108, 108, 105, 32, 115, 114, 108, 105, 32, 115, 114, 97, 105, 32, 97, 100, 100, 32, 115, 117, 98, 32, 115, 108, 108, 32, 115, 108, 116, 32, 115, 108, 116, 117, 32, 120, 111, 114, 32, 115, 114, 108, 32, 115, 114, 97, 32, 111, 114, 32, 97, 110, 100, 32, 109, 117, 108, 32, 109, 117, 108, 104, 32, 109, 117, 108, 104, 115, 117, 32, 109, 117, 108, 104, 117, 32, 100, 105, 118, 32, 100, 105, 118, 117, 32, 114, 101, 109, 32, 114, 101, 109, 117, 32, 102, 101, 110, 99, 101, 32, 102, 101, 110, 99, 101, 46, 105, 32, 101, 99, 97, 108, 108, 32, 101, 98, 114, 101, 97, 107]
def namesL : List (List UInt8) := [[108, 117, 105], [97, 117, 105, 112, 99], [106, 97, 108], [106, 97, 108, 114], [98, 101, 113], [98, 110, 101], [98, 108, 116], [98, 103, 101], [98, 108, 116, 117], [98, 103, 101, 117], [108, 98], [108, 104], [108, 119], [108, 98, 117], [108, 104, 117], [115, 98], [115, 104], [115, 119], [97, 100, 100, 105], [115, 108, 116, 105], [115, 108, 116, 105, 117], [120, 111, 114, 105], [111, 114, 105], [97, 110, 100, 105], [115, 108, 108, 105], [115, 114, 108, 105], [115, 114, 97, 105], [97, 100, 100], [115, 117, 98], [115, 108, 108], [115, 108, 116], [115, 108, 116, 117], [120, 111, 114], [115, 114, 108], [115, 114, 97], [111, 114], [97, 110, 100], [109, 117, 108], [109, 117, 108, 104], [109, 117, 108, 104, 115, 117], [109, 117, 108, 104, 117], [100, 105, 118], [100, 105, 118, 117], [114, 101, 109], [114, 101, 109, 117], [102, 101, 110, 99, 101], [102, 101, 110, 99, 101, 46, 105], [101, 99, 97, 108, 108], [101, 98, 114, 101, 97, 107]]
theorem names_fields : Lib.fields nameText = namesL := by kernel_rfl
theorem text_size : (⟨nameText.toArray⟩ : ByteArray).size < 4294967281 := by decide +kernel
theorem text_ascii : ∀ b ∈ nameText, b.toNat < 128 := by decide +kernel
def namesV : Array Value := (namesL.map fun l => Value.string ⟨l.toArray⟩).toArray
set_option maxRecDepth 100000 in
set_option maxHeartbeats 4000000 in
theorem names_walk (w : World) (hT : Lib.TabIs Tryd.prog w "strings.asciiSpace" .u8 Lib.asciiSpaceTab) :
    Calls Tryd.prog 36 #[] w fun e w' => e = .returned (.slice (some ⟨w.heap.size, 0, none⟩) 49 49) ∧ w' = w.alloc (.cells namesV 9) := by
  have c0 := Tryd.strings_Fields_laid ⟨nameText.toArray⟩ w text_size (fun j b h => text_ascii b (List.mem_of_getElem? (by simpa using h))) hT
  have c1 : Calls Tryd.prog 46 #[.string ⟨nameText.toArray⟩] w fun e w' => e = .returned (.slice (some ⟨w.heap.size, 0, none⟩) 49 49) ∧ w' = w.alloc (.cells namesV 9) := by
    refine c0.mono ?_
    rintro e w' ⟨rfl, rfl⟩
    have h : Lib.fields (⟨nameText.toArray⟩ : ByteArray).data.toList = namesL := names_fields
    rw [h]
    exact ⟨rfl, rfl⟩
  clear c0
  go_enter Tryd.func36, Tryd.ntmps36
  go_wp2_with fail
  refine c1.mono ?_
  rintro e w' ⟨rfl, rfl⟩
  go_wp2_with fail
  go_ret
  exact ⟨rfl, rfl⟩
def nameOf (a : Int) : ByteArray := if 1 ≤ a ∧ a ≤ 49 then ⟨(namesL.getD (a.toNat - 1) []).toArray⟩ else ⟨#[]⟩
theorem namesV_at (k : Nat) (h : k < 49) : namesV[k]? = some (.string ⟨(namesL.getD k []).toArray⟩) := by
  have hl : namesL.length = 49 := rfl
  unfold namesV
  simp [List.getElem?_map, List.getElem?_eq_getElem (show k < namesL.length by omega)]
set_option maxRecDepth 100000 in
set_option maxHeartbeats 4000000 in
theorem name_walk (a : Int) (w : World) (hT : Lib.TabIs Tryd.prog w "strings.asciiSpace" .u8 Lib.asciiSpaceTab) :
    Calls Tryd.prog 16 #[.int .i64 a] w fun e w' => e = .returned (.string (nameOf a)) ∧ Below w.heap.size w w' := by
  have c0 := names_walk w hT
  by_cases h1 : 1 ≤ a
  · by_cases h2 : a ≤ 49
    · have e : nameOf a = ⟨(namesL.getD (a.toNat - 1) []).toArray⟩ := if_pos ⟨h1, h2⟩
      obtain ⟨k, rfl⟩ : ∃ k : Nat, a = (k : Int) + 1 := ⟨(a - 1).toNat, by omega⟩
      have hk : k < 49 := by omega
      have hc : (w.alloc (.cells namesV 9)).cell? ⟨w.heap.size, k, none⟩ = some (.string ⟨(namesL.getD k []).toArray⟩) := by
        have := namesV_at k hk
        have hh : (w.alloc (.cells namesV 9)).heap[w.heap.size]? = some (.cells namesV 9) := heap_alloc_new w _
        unfold World.cell?
        simp only [hh]
        exact this
      have d1 : decide ((k : Int) + 1 < 1) = false := decide_eq_false (by omega)
      have d2 : decide (49 < (k : Int) + 1) = false := decide_eq_false (by omega)
      rw [e, show ((k : Int) + 1).toNat - 1 = k by omega]
      clear e
      go_enter Tryd.func16, Tryd.ntmps16
      go_wp2_with fail
      refine c0.mono ?_
      rintro e w' ⟨rfl, rfl⟩
      go_wp2_with fail
      go_ret
      exact ⟨rfl, (Below.refl _ _).alloc (Nat.le_refl _) _⟩
    · have e : nameOf a = ⟨#[]⟩ := if_neg (by omega)
      have d1 : decide (a < 1) = false := decide_eq_false (by omega)
      have d2 : decide (49 < a) = true := decide_eq_true (by omega)
      rw [e]
      clear e
      go_enter Tryd.func16, Tryd.ntmps16
      go_wp2_with fail
      refine c0.mono ?_
      rintro e w' ⟨rfl, rfl⟩
      go_wp2_with fail
      go_ret
      exact ⟨rfl, (Below.refl _ _).alloc (Nat.le_refl _) _⟩
  · have e : nameOf a = ⟨#[]⟩ := if_neg (by omega)
    have d1 : decide (a < 1) = true := decide_eq_true (by omega)
    rw [e]
    clear e
    go_enter Tryd.func16, Tryd.ntmps16
    go_wp2_with fail
    refine c0.mono ?_
    rintro e w' ⟨rfl, rfl⟩
    go_wp2_with fail
    go_ret
    exact ⟨rfl, (Below.refl _ _).alloc (Nat.le_refl _) _⟩
end Go.Proofs.YtmgbidehdnmjkaaDoor.Rv
