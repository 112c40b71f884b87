/- IrWrites answers true for every input: the walk is the printed one, over what Reads and Writes come to. -/
import Derived.Test.YtefijnbhdjpfpaaDoorLIrWrites
import Derived.Test.YtefijnbhdjpfpaaDoorAwake
import Derived.Test.YtefijnbhdjpfpaaDoorOpenT
import Derived.Test.YtefijnbhdjpfpaaDoorDoor
namespace Go.Proofs.YtefijnbhdjpfpaaDoor.Ir
open Go Go.RowKit Go.Proofs.YtefijnbhdjpfpaaDoorW.PrintWords Go.Proofs.YtefijnbhdjpfpaaDoorW.PrintLast Go.Proofs.YtefijnbhdjpfpaaDoorW.PrintMore
set_option linter.unusedVariables false
set_option linter.unusedSimpArgs false
theorem wloop (n : S25) (h : ∀ x ∈ readsL n, x = n.f2 ∨ x = n.f3 ∨ (n.f0 = 19 ∧ x = n.f1)) (hl : (readsL n).length ≤ 2) :
    tincturelaw19_IrWrites.l0 10 (writesP n).1 (writesP n).2 (readsL n) 0 n.f0 n.f1 n.f2 n.f3 n.f4 = some true := by
  have fin : ∀ i : Nat, i ≤ (readsL n).length → ∀ k, (readsL n).length - i < k → tincturelaw19_IrWrites.l0 k (writesP n).1 (writesP n).2 (readsL n) (i : Int) n.f0 n.f1 n.f2 n.f3 n.f4 = some true := by
    intro i hi k
    induction k generalizing i with
    | zero => intro hk; omega
    | succ k ih =>
      intro hk
      rw [tincturelaw19_IrWrites.l0]
      by_cases hlt : i < (readsL n).length
      · have hw : wrap64 ((i : Int) + 1) = ((i + 1 : Nat) : Int) := by unfold wrap64; omega
        have hx := h ((readsL n)[i]) (List.getElem_mem hlt)
        have hr : rd (readsL n) (i : Int) = (readsL n)[i] := by
          unfold rd
          rw [Int.toNat_natCast, List.getD_eq_getElem?_getD, List.getElem?_eq_getElem hlt]
          rfl
        have K := ih (i + 1) (by omega) (by omega)
        rw [if_pos (by omega), if_pos (by omega), hr, hw, K]
        rcases hx with hx | hx | ⟨h0, hx⟩
        · rw [if_pos hx]
        · by_cases h2 : (readsL n)[i] = n.f2
          · rw [if_pos h2]
          · rw [if_neg h2, if_pos hx]
        · by_cases h2 : (readsL n)[i] = n.f2
          · rw [if_pos h2]
          · by_cases h3 : (readsL n)[i] = n.f3
            · rw [if_neg h2, if_pos h3]
            · rw [if_neg h2, if_neg h3, if_pos h0, if_pos hx]
      · rw [if_neg (by omega)]
        have hl' : decide (((readsL n).length : Int) ≤ 2) = true := decide_eq_true (by omega)
        unfold writesP
        by_cases h1 : n.f0 = 1
        · simp [h1, hl']
        · by_cases h2 : n.f0 = 2
          · simp [h2, hl']
          · by_cases h4 : n.f0 ≥ 4
            · by_cases h6 : n.f0 ≤ 6
              · have : n.f0 = 4 ∨ n.f0 = 5 ∨ n.f0 = 6 := by omega
                rcases this with e | e | e <;> simp [e, hl'] <;> omega
              · have e4 : n.f0 ≠ 4 := by omega
                have e5 : n.f0 ≠ 5 := by omega
                have e6 : n.f0 ≠ 6 := by omega
                simp [h1, h2, h4, h6, e4, e5, e6, hl']
            · have e4 : n.f0 ≠ 4 := by omega
              have e5 : n.f0 ≠ 5 := by omega
              have e6 : n.f0 ≠ 6 := by omega
              simp [h1, h2, h4, e4, e5, e6, hl']
  exact fin 0 (Nat.zero_le _) 10 (by omega)
theorem reads_two (n : S25) : (readsL n).length ≤ 2 := by
  unfold readsL
  rcases ops n.f0 with e | e | e | e | e | e | e | e | e | e | e | e | e | e | e | e | e | e | e | e | e | e
  all_goals first | (rw [e]; simp [hasT]; done) | skip
  obtain ⟨n1, n2, n3, n4, n5, n6, n7, n8, n9, n10, n11, n12, n13, n14, n15, n16, n17, n18, n19, n20, n21⟩ := other e
  simp [hasT, *]
theorem reads_from (n : S25) : ∀ x ∈ readsL n, x = n.f2 ∨ x = n.f3 ∨ (n.f0 = 19 ∧ x = n.f1) := by
  intro x hx
  unfold readsL at hx
  simp only [List.mem_append] at hx
  rcases hx with (hx | hx) | hx <;> split at hx <;> simp at hx
  · exact .inl hx
  · exact .inr (.inl hx)
  · rename_i h; exact .inr (.inr ⟨h, hx⟩)
theorem writes_pure (n : S25) : tincturelaw19_IrWrites.f 10 n.f0 n.f1 n.f2 n.f3 n.f4 = some true := by
  unfold tincturelaw19_IrWrites.f
  rw [awake_at]
  simp only [Option.bind_some, if_true]
  rw [writes_at, show (10 : Nat) = 6 + 4 by omega, reads_at]
  simp only [Option.bind_some]
  exact wloop n (reads_from n) (reads_two n)
end Go.Proofs.YtefijnbhdjpfpaaDoor.Ir
namespace Go.Proofs.YtefijnbhdjpfpaaDoor.IrWrites
open Go Go.RowKit Go.Proofs.YtefijnbhdjpfpaaDoor.Ir Go.Proofs.YtefijnbhdjpfpaaDoor.OpenT
set_option linter.unusedVariables false
theorem walk (W : World) (hL : Door.Laid W) (x0 : S25) (wx0 : wf25 x0) :
    Calls Tryd.prog 7 #[.agg #[.int .i64 x0.f0, .int .i64 x0.f1, .int .i64 x0.f2, .int .i64 x0.f3, .int .u32 x0.f4]] W fun e w' => e = .returned (.bool true) ∧ Below W.heap.size W w' :=
  tincturelaw19_IrWrites.calls 10 _ _ _ _ _ _ W (writes_pure x0)
end Go.Proofs.YtefijnbhdjpfpaaDoor.IrWrites
