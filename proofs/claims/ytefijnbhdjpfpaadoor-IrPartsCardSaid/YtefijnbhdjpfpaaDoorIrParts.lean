/- IrParts answers true for every input: the walk is the printed one, over what Good comes to. -/
import Derived.Test.YtefijnbhdjpfpaaDoorLIrParts
import Derived.Test.YtefijnbhdjpfpaaDoorFoldPlain
import Derived.Test.YtefijnbhdjpfpaaDoorOpenT
import Derived.Test.YtefijnbhdjpfpaaDoorDoor
namespace Go.Proofs.YtefijnbhdjpfpaaDoor.Ir
open Go Go.RowKit Go.Proofs.YtefijnbhdjpfpaaDoorW.PrintWords Go.Proofs.YtefijnbhdjpfpaaDoorW.PrintLast Go.Proofs.YtefijnbhdjpfpaaDoorW.PrintMore
set_option linter.unusedVariables false
set_option linter.unusedSimpArgs false
theorem good_cut (l : List S25) (n : Nat) (hg : goodB l = true) (h1 : 1 ≤ n) (h2 : n ≤ l.length) (h3 : l.length ≤ 60) : goodB (l.take n ++ [(⟨12, 0, 0, 0, 8⟩ : S25)]) = true := by
  have hl : (l.take n ++ [(⟨12, 0, 0, 0, 8⟩ : S25)]).length = n + 1 := by simp; omega
  unfold goodB at hg ⊢
  rw [hl, if_neg (by omega), if_neg (by omega)]
  rw [if_neg (by omega), if_neg (by omega)] at hg
  have e0 : rd_T25 (l.take n ++ [(⟨12, 0, 0, 0, 8⟩ : S25)]) 0 = rd_T25 l 0 := by
    rw [rd_get0 _ (by rw [hl]; omega), rd_get0 _ (by omega)]
    rw [List.getElem_append_left (by simp; omega), List.getElem_take]
  rw [e0]
  by_cases h8 : (rd_T25 l 0).f0 = 8
  · rw [if_pos h8] at hg ⊢
    simp only [Bool.and_eq_true] at hg ⊢
    constructor
    · have := hg.1
      rw [← List.take_append_drop n l, fold_append] at this
      simp only [Bool.and_eq_true] at this
      rw [fold_append, this.1]
      simp [foldB, step_end]
    · unfold lastB
      rw [hl, show (((n + 1 : Nat) : Int) - 1) = ((n : Nat) : Int) by omega, rd_get _ n (by rw [hl]; omega)]
      have : (l.take n ++ [(⟨12, 0, 0, 0, 8⟩ : S25)])[n]'(by rw [hl]; omega) = ⟨12, 0, 0, 0, 8⟩ := by
        rw [List.getElem_append_right (by simp; omega)]
        simp
      rw [this]
      decide
  · rw [if_neg h8] at hg; cases hg
theorem parts_pure (l : List S25) (a : Int) : tincturelaw19_IrParts.f l a = some true := by
  unfold tincturelaw19_IrParts.f ir_Good.f
  rw [awake_at]
  simp only [Option.bind_some, if_true]
  by_cases h1 : (l.length : Int) > 60
  · rw [if_pos h1]
  · rw [if_neg h1]
    by_cases h2 : a < 1
    · rw [if_pos h2]
    · rw [if_neg h2]
      by_cases h3 : a > (l.length : Int)
      · rw [if_pos h3]
      · rw [if_neg h3]
        by_cases hg : goodB l = true
        · rw [if_pos hg, if_pos (by omega), if_pos (by omega)]
          have hlen : (l.take a.toNat).length ≤ 60 := by rw [List.length_take]; omega
          rw [if_pos (by simp only [List.length_nil]; omega), List.nil_append, if_pos (by omega)]
          rw [good_cut l a.toNat hg (by omega) (by omega) (by omega)]
        · rw [if_neg hg]
end Go.Proofs.YtefijnbhdjpfpaaDoor.Ir
namespace Go.Proofs.YtefijnbhdjpfpaaDoor.IrParts
open Go Go.RowKit Go.Proofs.YtefijnbhdjpfpaaDoor.Ir Go.Proofs.YtefijnbhdjpfpaaDoor.OpenT Go.Proofs.YtefijnbhdjpfpaaDoorW.PrintWords
set_option linter.unusedVariables false
theorem walk (W : World) (hL : Door.Laid W) (x0 : List (S25)) (wx0 : wf31 x0) (A0 : Option Addr) (c0 : Nat) (l0_0 : x0.length ≤ c0) (r0_0 : Kd.C k25 W A0 x0.length x0) (x1 : Int) (wx1 : (Lit.int .i64 x1).wf = true) :
    Calls Tryd.prog 5 #[.slice A0 x0.length c0, .int .i64 x1] W fun e w' => e = .returned (.bool true) ∧ Below W.heap.size W w' :=
  tincturelaw19_IrParts.calls _ _ _ _ _ W r0_0 l0_0 (parts_pure x0 x1)
end Go.Proofs.YtefijnbhdjpfpaaDoor.IrParts
