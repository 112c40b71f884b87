/- IrLong answers true for every input: the walk is the printed one, over what Good comes to. -/
import Derived.Test.YtefijnbhdjpfpaaDoorLIrLong
import Derived.Test.YtefijnbhdjpfpaaDoorFoldPlain
import Derived.Test.YtefijnbhdjpfpaaDoorOpenT
import Derived.Test.YtefijnbhdjpfpaaDoorDoor
namespace Go.Proofs.YtefijnbhdjpfpaaDoor.Ir
open Go Go.RowKit Go.Proofs.YtefijnbhdjpfpaaDoorW.PrintWords Go.Proofs.YtefijnbhdjpfpaaDoorW.PrintLast Go.Proofs.YtefijnbhdjpfpaaDoorW.PrintMore
set_option linter.unusedVariables false
set_option linter.unusedSimpArgs false
def mark (v : Int) : S25 := ⟨8, 0, 0, 0, v⟩
theorem step_mark (th : Int → Bool) (v : Int) : stepB th (mark v) = true := by
  have h1 : formedB (mark v) = true := by simp [formedB, mark, valueB, fieldB, hasT]
  have h2 : tagsB 8 = false := by decide
  have h3 : readsL (mark v) = [] := by simp [readsL, mark, hasT]
  unfold stepB
  rw [h1, h3]
  show (true && !(tagsB 8 && _) && _) = true
  rw [h2]
  rfl
theorem fold_marks (l : List S25) (h : ∀ x ∈ l, ∃ v, x = mark v) : ∀ th, foldB l th = true := by
  induction l with
  | nil => intro th; rfl
  | cons n r ih =>
    intro th
    obtain ⟨v, rfl⟩ := h n (by simp)
    simp only [foldB, step_mark, Bool.true_and]
    exact ih (fun x hx => h x (by simp [hx])) _
theorem step_last (th : Int → Bool) : stepB th (⟨12, 0, 0, 0, 0⟩ : S25) = true := by
  have h1 : formedB (⟨12, 0, 0, 0, 0⟩ : S25) = true := by decide
  have h2 : tagsB 12 = false := by decide
  have h3 : readsL (⟨12, 0, 0, 0, 0⟩ : S25) = [] := by decide
  unfold stepB
  rw [h1, h3]
  show (true && !(tagsB 12 && _) && _) = true
  rw [h2]
  rfl
theorem good_marks (l : List S25) (h : ∀ x ∈ l, ∃ v, x = mark v) (h1 : 1 ≤ l.length) : goodB (l ++ [(⟨12, 0, 0, 0, 0⟩ : S25)]) = decide (l.length + 1 ≤ 2000) := by
  have hl : (l ++ [(⟨12, 0, 0, 0, 0⟩ : S25)]).length = l.length + 1 := by simp
  unfold goodB
  rw [hl, if_neg (by omega)]
  by_cases h2 : 2000 < l.length + 1
  · rw [if_pos h2, decide_eq_false (by omega)]
  · rw [if_neg h2, decide_eq_true (by omega)]
    have e0 : (rd_T25 (l ++ [(⟨12, 0, 0, 0, 0⟩ : S25)]) 0).f0 = 8 := by
      rw [rd_get0 _ (by rw [hl]; omega), List.getElem_append_left (by omega)]
      obtain ⟨v, hv⟩ := h l[0] (List.getElem_mem _)
      rw [hv]
      rfl
    rw [if_pos e0, fold_append, fold_marks l h]
    have e1 : lastB (l ++ [(⟨12, 0, 0, 0, 0⟩ : S25)]) = true := by
      unfold lastB
      rw [hl, show (((l.length + 1 : Nat) : Int) - 1) = ((l.length : Nat) : Int) by omega, rd_get _ l.length (by rw [hl]; omega)]
      have : (l ++ [(⟨12, 0, 0, 0, 0⟩ : S25)])[l.length]'(by rw [hl]; omega) = ⟨12, 0, 0, 0, 0⟩ := by
        rw [List.getElem_append_right (by omega)]
        simp
      rw [this]
      decide
    rw [e1]
    simp [foldB, step_last]
theorem long_loop (a : Int) (h1 : 2 ≤ a) (h2 : a ≤ 2100) : ∀ (k : Nat) (i : Nat) (l : List S25), l.length = i → (i : Int) ≤ a - 1 → (∀ x ∈ l, ∃ v, x = mark v) → a - 1 - i < k → tincturelaw19_IrLong.l0 k a l (i : Int) = some true := by
  intro k
  induction k with
  | zero => intro i l hl hi hm hk; omega
  | succ k ih =>
    intro i l hl hi hm hk
    rw [tincturelaw19_IrLong.l0]
    have hw : wrap64 (a - 1) = a - 1 := by unfold wrap64; omega
    have hw1 : wrap64 ((i : Int) + 1) = ((i + 1 : Nat) : Int) := by unfold wrap64; omega
    rw [hw]
    by_cases hlt : (i : Int) < a - 1
    · rw [if_pos hlt, if_pos (by omega), hw1]
      exact ih (i + 1) _ (by simp [hl]) (by omega) (fun x hx => by
        simp only [List.mem_append, List.mem_singleton] at hx
        rcases hx with hx | hx
        · exact hm x hx
        · exact ⟨_, hx⟩) (by omega)
    · rw [if_neg hlt, if_pos (by omega)]
      unfold ir_Good.f
      rw [good_marks l hm (by omega)]
      simp only [Option.bind_some]
      have e : decide (l.length + 1 ≤ 2000) = decide (a ≤ 2000) := by
        by_cases h : a ≤ 2000
        · rw [decide_eq_true h, decide_eq_true (by omega)]
        · rw [decide_eq_false h, decide_eq_false (by omega)]
      rw [e]
      simp
theorem long_pure (a : Int) : tincturelaw19_IrLong.f 3000 a = some true := by
  unfold tincturelaw19_IrLong.f
  rw [awake_at]
  simp only [Option.bind_some, if_true]
  by_cases h1 : a < 2
  · rw [if_pos h1, tincturelaw19_IrLong.j0]
    rfl
  · rw [if_neg h1, tincturelaw19_IrLong.j0]
    by_cases h2 : a > 2100
    · rw [decide_eq_true h2]
      rfl
    · rw [decide_eq_false h2, if_neg (by decide)]
      exact long_loop a (by omega) (by omega) 2999 0 [] rfl (by omega) (fun x hx => by simp at hx) (by omega)
end Go.Proofs.YtefijnbhdjpfpaaDoor.Ir
namespace Go.Proofs.YtefijnbhdjpfpaaDoor.IrLong
open Go Go.RowKit Go.Proofs.YtefijnbhdjpfpaaDoor.Ir Go.Proofs.YtefijnbhdjpfpaaDoor.OpenT Go.Proofs.YtefijnbhdjpfpaaDoorW.PrintWords
set_option linter.unusedVariables false
theorem walk (W : World) (hL : Door.Laid W) (x0 : Int) (wx0 : (Lit.int .i64 x0).wf = true) :
    Calls Tryd.prog 6 #[.int .i64 x0] W fun e w' => e = .returned (.bool true) ∧ Below W.heap.size W w' :=
  tincturelaw19_IrLong.calls 3000 _ _ W (long_pure x0)
end Go.Proofs.YtefijnbhdjpfpaaDoor.IrLong
