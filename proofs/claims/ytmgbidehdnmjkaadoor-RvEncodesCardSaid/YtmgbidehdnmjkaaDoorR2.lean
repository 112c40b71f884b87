/- What field, branch, load, store, imm, reg, kindOf and the numbers' readers answer (its lines began as print.sh's). -/
import Derived.Test.YtmgbidehdnmjkaaDoorR0
namespace Go.Proofs.YtmgbidehdnmjkaaDoor.Rv
open Go.RowKit Go.Proofs.YtmgbidehdnmjkaaDoorW.PrintWords Go.Proofs.YtmgbidehdnmjkaaDoorW.PrintLast Go.Proofs.YtmgbidehdnmjkaaDoorW.PrintMore
attribute [local go_sem] max2_int min2_int max_two min_two max_three min_three max_four min_four   -- for this text's walks alone
set_option linter.unusedVariables false
set_option linter.unusedSimpArgs false
/-! ### rv_field: function 24 -/
def rv_field.f (a0 : Int) (a1 : Int) (a2 : Int) : Option (Int) := if 0 ≤ a1 then (if 0 ≤ a2 then (some (wrap64 (Go.bits .and .u32 (shr .u32 a0 a1) (((shl .u32 1 a2) - 1) % 4294967296)))) else (none)) else (none)
set_option maxHeartbeats 8000000 in
set_option maxRecDepth 100000 in
theorem rv_field.calls (a0 : Int) (a1 : Int) (a2 : Int) (r : Int) (w : World) (h : rv_field.f a0 a1 a2 = some r) :
    Calls Tryd.prog 24 #[.int .u32 a0, .int .i64 a1, .int .i64 a2] w fun e w' => e = .returned (.int .i64 r) ∧ Drawn0 w w' := by
  have H : (if 0 ≤ a1 then (if 0 ≤ a2 then (some (wrap64 (Go.bits .and .u32 (shr .u32 a0 a1) (((shl .u32 1 a2) - 1) % 4294967296)))) else (none)) else (none)) = some r := h
  clear h
  by_cases c4 : 0 ≤ a1
  · rw [if_pos c4] at H
    have c4b0 := eq_true c4
    have c4b1 : decide (0 ≤ a1) = true := decide_eq_true c4
    clear c4
    obtain ⟨ji5, hji5⟩ : ∃ j_ : Int, (shr .u32 a0 a1) = j_ := ⟨_, rfl⟩
    replace H : (if 0 ≤ a2 then (some (wrap64 (Go.bits .and .u32 (ji5) (((shl .u32 1 a2) - 1) % 4294967296)))) else (none)) = some r := by first | (rw [hji5] at H; exact H) | (simp only [hji5] at H ⊢; exact H)
    have hji5_ : (a0 / 2 ^ min a1.toNat 32) = ji5 := hji5
    have hji5z : a1 ≤ 32 → (a0 / 2 ^ a1.toNat) = ji5 := shr_small hji5
    by_cases c6 : 0 ≤ a2
    · rw [if_pos c6] at H
      have c6b0 := eq_true c6
      have c6b1 : decide (0 ≤ a2) = true := decide_eq_true c6
      clear c6
      obtain ⟨ji7, hji7⟩ : ∃ j_ : Int, (shl .u32 1 a2) = j_ := ⟨_, rfl⟩
      replace H : (some (wrap64 (Go.bits .and .u32 (ji5) (((ji7) - 1) % 4294967296)))) = some r := by first | (rw [hji7] at H; exact H) | (simp only [hji7] at H ⊢; exact H)
      have hji7_ : (IntKind.u32.wrap (1 * 2 ^ min a2.toNat 32)) = ji7 := hji7
      have hji7z : a2 ≤ 32 → (IntKind.u32.wrap (1 * 2 ^ a2.toNat)) = ji7 := shl_small hji7
      have hji7u : (IntKind.u32.wrap (2 ^ min a2.toNat 32)) = ji7 := by have h_ := hji7_; rw [Int.one_mul] at h_; exact h_
      have hji7v : a2 ≤ 32 → (IntKind.u32.wrap (2 ^ a2.toNat)) = ji7 := fun hle_ => by have h_ := hji7z hle_; rw [Int.one_mul] at h_; exact h_
      obtain rfl := Option.some.inj H
      go_enter Tryd.func24, Tryd.ntmps24
      go_wp2
      repeat (go_quiet (fail); try go_wp2)
      go_ret
      exact ⟨by first | rfl | (simp; done) | (simp only [← hji5, ← hji7] <;> (first | rfl | simp)) | (simp [*]; done), by repeat (first | exact Drawn0.refl _ | apply Drawn0.step)⟩
    · rw [if_neg c6] at H
      exact absurd H (by simp)
  · rw [if_neg c4] at H
    exact absurd H (by simp)
/-! ### rv_branch: function 40 -/
def rv_branch.f (a0 : Int) : Option (Int) := if 0 ≤ a0 ∧ a0 < 8 then some (([5, 6, 0, 0, 7, 8, 9, 10] : List Int).getD a0.toNat 0) else none
set_option maxRecDepth 100000 in
theorem rv_branch.calls (a0 : Int) (r : Int) (w : World) (h : rv_branch.f a0 = some r) :
    Calls Tryd.prog 40 #[.int .i64 a0] w fun e w' => e = .returned (.int .i64 r) ∧ Drawn0 w w' := by
  unfold rv_branch.f at h
  split at h
  · rename_i hb
    obtain ⟨h0, h1⟩ := hb
    have hc : a0 = 0 ∨ a0 = 1 ∨ a0 = 2 ∨ a0 = 3 ∨ a0 = 4 ∨ a0 = 5 ∨ a0 = 6 ∨ a0 = 7 := by omega
    clear h0 h1
    have hi0 : ∀ w : World, (Instr.index 71 (.agg #[.int .i64 5, .int .i64 6, .int .i64 0, .int .i64 0, .int .i64 7, .int .i64 8, .int .i64 9, .int .i64 10]) (.int .i64 0)).run Tryd.prog w = .ok (.int .i64 5) w := fun _ => by kernel_rfl
    have hi1 : ∀ w : World, (Instr.index 71 (.agg #[.int .i64 5, .int .i64 6, .int .i64 0, .int .i64 0, .int .i64 7, .int .i64 8, .int .i64 9, .int .i64 10]) (.int .i64 1)).run Tryd.prog w = .ok (.int .i64 6) w := fun _ => by kernel_rfl
    have hi2 : ∀ w : World, (Instr.index 71 (.agg #[.int .i64 5, .int .i64 6, .int .i64 0, .int .i64 0, .int .i64 7, .int .i64 8, .int .i64 9, .int .i64 10]) (.int .i64 2)).run Tryd.prog w = .ok (.int .i64 0) w := fun _ => by kernel_rfl
    have hi3 : ∀ w : World, (Instr.index 71 (.agg #[.int .i64 5, .int .i64 6, .int .i64 0, .int .i64 0, .int .i64 7, .int .i64 8, .int .i64 9, .int .i64 10]) (.int .i64 3)).run Tryd.prog w = .ok (.int .i64 0) w := fun _ => by kernel_rfl
    have hi4 : ∀ w : World, (Instr.index 71 (.agg #[.int .i64 5, .int .i64 6, .int .i64 0, .int .i64 0, .int .i64 7, .int .i64 8, .int .i64 9, .int .i64 10]) (.int .i64 4)).run Tryd.prog w = .ok (.int .i64 7) w := fun _ => by kernel_rfl
    have hi5 : ∀ w : World, (Instr.index 71 (.agg #[.int .i64 5, .int .i64 6, .int .i64 0, .int .i64 0, .int .i64 7, .int .i64 8, .int .i64 9, .int .i64 10]) (.int .i64 5)).run Tryd.prog w = .ok (.int .i64 8) w := fun _ => by kernel_rfl
    have hi6 : ∀ w : World, (Instr.index 71 (.agg #[.int .i64 5, .int .i64 6, .int .i64 0, .int .i64 0, .int .i64 7, .int .i64 8, .int .i64 9, .int .i64 10]) (.int .i64 6)).run Tryd.prog w = .ok (.int .i64 9) w := fun _ => by kernel_rfl
    have hi7 : ∀ w : World, (Instr.index 71 (.agg #[.int .i64 5, .int .i64 6, .int .i64 0, .int .i64 0, .int .i64 7, .int .i64 8, .int .i64 9, .int .i64 10]) (.int .i64 7)).run Tryd.prog w = .ok (.int .i64 10) w := fun _ => by kernel_rfl
    rcases hc with rfl | rfl | rfl | rfl | rfl | rfl | rfl | rfl
    all_goals
      obtain rfl := Option.some.inj h
      clear h
      go_enter Tryd.func40, Tryd.ntmps40
      go_wp2
      go_ret
      exact ⟨rfl, by repeat (first | exact Drawn0.refl _ | apply Drawn0.step)⟩
  · cases h
/-! ### rv_load: function 41 -/
def rv_load.f (a0 : Int) : Option (Int) := if 0 ≤ a0 ∧ a0 < 8 then some (([11, 12, 13, 0, 14, 15, 0, 0] : List Int).getD a0.toNat 0) else none
set_option maxRecDepth 100000 in
theorem rv_load.calls (a0 : Int) (r : Int) (w : World) (h : rv_load.f a0 = some r) :
    Calls Tryd.prog 41 #[.int .i64 a0] w fun e w' => e = .returned (.int .i64 r) ∧ Drawn0 w w' := by
  unfold rv_load.f at h
  split at h
  · rename_i hb
    obtain ⟨h0, h1⟩ := hb
    have hc : a0 = 0 ∨ a0 = 1 ∨ a0 = 2 ∨ a0 = 3 ∨ a0 = 4 ∨ a0 = 5 ∨ a0 = 6 ∨ a0 = 7 := by omega
    clear h0 h1
    have hi0 : ∀ w : World, (Instr.index 71 (.agg #[.int .i64 11, .int .i64 12, .int .i64 13, .int .i64 0, .int .i64 14, .int .i64 15, .int .i64 0, .int .i64 0]) (.int .i64 0)).run Tryd.prog w = .ok (.int .i64 11) w := fun _ => by kernel_rfl
    have hi1 : ∀ w : World, (Instr.index 71 (.agg #[.int .i64 11, .int .i64 12, .int .i64 13, .int .i64 0, .int .i64 14, .int .i64 15, .int .i64 0, .int .i64 0]) (.int .i64 1)).run Tryd.prog w = .ok (.int .i64 12) w := fun _ => by kernel_rfl
    have hi2 : ∀ w : World, (Instr.index 71 (.agg #[.int .i64 11, .int .i64 12, .int .i64 13, .int .i64 0, .int .i64 14, .int .i64 15, .int .i64 0, .int .i64 0]) (.int .i64 2)).run Tryd.prog w = .ok (.int .i64 13) w := fun _ => by kernel_rfl
    have hi3 : ∀ w : World, (Instr.index 71 (.agg #[.int .i64 11, .int .i64 12, .int .i64 13, .int .i64 0, .int .i64 14, .int .i64 15, .int .i64 0, .int .i64 0]) (.int .i64 3)).run Tryd.prog w = .ok (.int .i64 0) w := fun _ => by kernel_rfl
    have hi4 : ∀ w : World, (Instr.index 71 (.agg #[.int .i64 11, .int .i64 12, .int .i64 13, .int .i64 0, .int .i64 14, .int .i64 15, .int .i64 0, .int .i64 0]) (.int .i64 4)).run Tryd.prog w = .ok (.int .i64 14) w := fun _ => by kernel_rfl
    have hi5 : ∀ w : World, (Instr.index 71 (.agg #[.int .i64 11, .int .i64 12, .int .i64 13, .int .i64 0, .int .i64 14, .int .i64 15, .int .i64 0, .int .i64 0]) (.int .i64 5)).run Tryd.prog w = .ok (.int .i64 15) w := fun _ => by kernel_rfl
    have hi6 : ∀ w : World, (Instr.index 71 (.agg #[.int .i64 11, .int .i64 12, .int .i64 13, .int .i64 0, .int .i64 14, .int .i64 15, .int .i64 0, .int .i64 0]) (.int .i64 6)).run Tryd.prog w = .ok (.int .i64 0) w := fun _ => by kernel_rfl
    have hi7 : ∀ w : World, (Instr.index 71 (.agg #[.int .i64 11, .int .i64 12, .int .i64 13, .int .i64 0, .int .i64 14, .int .i64 15, .int .i64 0, .int .i64 0]) (.int .i64 7)).run Tryd.prog w = .ok (.int .i64 0) w := fun _ => by kernel_rfl
    rcases hc with rfl | rfl | rfl | rfl | rfl | rfl | rfl | rfl
    all_goals
      obtain rfl := Option.some.inj h
      clear h
      go_enter Tryd.func41, Tryd.ntmps41
      go_wp2
      go_ret
      exact ⟨rfl, by repeat (first | exact Drawn0.refl _ | apply Drawn0.step)⟩
  · cases h
/-! ### rv_store: function 42 -/
def rv_store.f (a0 : Int) : Option (Int) := if 0 ≤ a0 ∧ a0 < 8 then some (([16, 17, 18, 0, 0, 0, 0, 0] : List Int).getD a0.toNat 0) else none
set_option maxRecDepth 100000 in
theorem rv_store.calls (a0 : Int) (r : Int) (w : World) (h : rv_store.f a0 = some r) :
    Calls Tryd.prog 42 #[.int .i64 a0] w fun e w' => e = .returned (.int .i64 r) ∧ Drawn0 w w' := by
  unfold rv_store.f at h
  split at h
  · rename_i hb
    obtain ⟨h0, h1⟩ := hb
    have hc : a0 = 0 ∨ a0 = 1 ∨ a0 = 2 ∨ a0 = 3 ∨ a0 = 4 ∨ a0 = 5 ∨ a0 = 6 ∨ a0 = 7 := by omega
    clear h0 h1
    have hi0 : ∀ w : World, (Instr.index 71 (.agg #[.int .i64 16, .int .i64 17, .int .i64 18, .int .i64 0, .int .i64 0, .int .i64 0, .int .i64 0, .int .i64 0]) (.int .i64 0)).run Tryd.prog w = .ok (.int .i64 16) w := fun _ => by kernel_rfl
    have hi1 : ∀ w : World, (Instr.index 71 (.agg #[.int .i64 16, .int .i64 17, .int .i64 18, .int .i64 0, .int .i64 0, .int .i64 0, .int .i64 0, .int .i64 0]) (.int .i64 1)).run Tryd.prog w = .ok (.int .i64 17) w := fun _ => by kernel_rfl
    have hi2 : ∀ w : World, (Instr.index 71 (.agg #[.int .i64 16, .int .i64 17, .int .i64 18, .int .i64 0, .int .i64 0, .int .i64 0, .int .i64 0, .int .i64 0]) (.int .i64 2)).run Tryd.prog w = .ok (.int .i64 18) w := fun _ => by kernel_rfl
    have hi3 : ∀ w : World, (Instr.index 71 (.agg #[.int .i64 16, .int .i64 17, .int .i64 18, .int .i64 0, .int .i64 0, .int .i64 0, .int .i64 0, .int .i64 0]) (.int .i64 3)).run Tryd.prog w = .ok (.int .i64 0) w := fun _ => by kernel_rfl
    have hi4 : ∀ w : World, (Instr.index 71 (.agg #[.int .i64 16, .int .i64 17, .int .i64 18, .int .i64 0, .int .i64 0, .int .i64 0, .int .i64 0, .int .i64 0]) (.int .i64 4)).run Tryd.prog w = .ok (.int .i64 0) w := fun _ => by kernel_rfl
    have hi5 : ∀ w : World, (Instr.index 71 (.agg #[.int .i64 16, .int .i64 17, .int .i64 18, .int .i64 0, .int .i64 0, .int .i64 0, .int .i64 0, .int .i64 0]) (.int .i64 5)).run Tryd.prog w = .ok (.int .i64 0) w := fun _ => by kernel_rfl
    have hi6 : ∀ w : World, (Instr.index 71 (.agg #[.int .i64 16, .int .i64 17, .int .i64 18, .int .i64 0, .int .i64 0, .int .i64 0, .int .i64 0, .int .i64 0]) (.int .i64 6)).run Tryd.prog w = .ok (.int .i64 0) w := fun _ => by kernel_rfl
    have hi7 : ∀ w : World, (Instr.index 71 (.agg #[.int .i64 16, .int .i64 17, .int .i64 18, .int .i64 0, .int .i64 0, .int .i64 0, .int .i64 0, .int .i64 0]) (.int .i64 7)).run Tryd.prog w = .ok (.int .i64 0) w := fun _ => by kernel_rfl
    rcases hc with rfl | rfl | rfl | rfl | rfl | rfl | rfl | rfl
    all_goals
      obtain rfl := Option.some.inj h
      clear h
      go_enter Tryd.func42, Tryd.ntmps42
      go_wp2
      go_ret
      exact ⟨rfl, by repeat (first | exact Drawn0.refl _ | apply Drawn0.step)⟩
  · cases h
/-! ### rv_imm: function 43 -/
def rv_imm.f (a0 : Int) (a1 : Int) : Option (Int) := if 0 ≤ a0 ∧ a0 < 8 then some (if a0 = 1 ∧ a1 = 0 then 25 else if a0 = 5 ∧ a1 = 0 then 26 else if a0 = 5 ∧ a1 = 32 then 27 else ([19, 0, 20, 21, 22, 0, 23, 24] : List Int).getD a0.toNat 0) else none
set_option maxRecDepth 100000 in
set_option maxHeartbeats 4000000 in
theorem rv_imm.calls (a0 : Int) (a1 : Int) (r : Int) (w : World) (h : rv_imm.f a0 a1 = some r) :
    Calls Tryd.prog 43 #[.int .i64 a0, .int .i64 a1] w fun e w' => e = .returned (.int .i64 r) ∧ Drawn0 w w' := by
  unfold rv_imm.f at h
  split at h
  · rename_i hb
    obtain ⟨h0, h1⟩ := hb
    have hc : a0 = 0 ∨ a0 = 1 ∨ a0 = 2 ∨ a0 = 3 ∨ a0 = 4 ∨ a0 = 5 ∨ a0 = 6 ∨ a0 = 7 := by omega
    clear h0 h1
    have hi0 : ∀ w : World, (Instr.index 71 (.agg #[.int .i64 19, .int .i64 0, .int .i64 20, .int .i64 21, .int .i64 22, .int .i64 0, .int .i64 23, .int .i64 24]) (.int .i64 0)).run Tryd.prog w = .ok (.int .i64 19) w := fun _ => by kernel_rfl
    have hi1 : ∀ w : World, (Instr.index 71 (.agg #[.int .i64 19, .int .i64 0, .int .i64 20, .int .i64 21, .int .i64 22, .int .i64 0, .int .i64 23, .int .i64 24]) (.int .i64 1)).run Tryd.prog w = .ok (.int .i64 0) w := fun _ => by kernel_rfl
    have hi2 : ∀ w : World, (Instr.index 71 (.agg #[.int .i64 19, .int .i64 0, .int .i64 20, .int .i64 21, .int .i64 22, .int .i64 0, .int .i64 23, .int .i64 24]) (.int .i64 2)).run Tryd.prog w = .ok (.int .i64 20) w := fun _ => by kernel_rfl
    have hi3 : ∀ w : World, (Instr.index 71 (.agg #[.int .i64 19, .int .i64 0, .int .i64 20, .int .i64 21, .int .i64 22, .int .i64 0, .int .i64 23, .int .i64 24]) (.int .i64 3)).run Tryd.prog w = .ok (.int .i64 21) w := fun _ => by kernel_rfl
    have hi4 : ∀ w : World, (Instr.index 71 (.agg #[.int .i64 19, .int .i64 0, .int .i64 20, .int .i64 21, .int .i64 22, .int .i64 0, .int .i64 23, .int .i64 24]) (.int .i64 4)).run Tryd.prog w = .ok (.int .i64 22) w := fun _ => by kernel_rfl
    have hi5 : ∀ w : World, (Instr.index 71 (.agg #[.int .i64 19, .int .i64 0, .int .i64 20, .int .i64 21, .int .i64 22, .int .i64 0, .int .i64 23, .int .i64 24]) (.int .i64 5)).run Tryd.prog w = .ok (.int .i64 0) w := fun _ => by kernel_rfl
    have hi6 : ∀ w : World, (Instr.index 71 (.agg #[.int .i64 19, .int .i64 0, .int .i64 20, .int .i64 21, .int .i64 22, .int .i64 0, .int .i64 23, .int .i64 24]) (.int .i64 6)).run Tryd.prog w = .ok (.int .i64 23) w := fun _ => by kernel_rfl
    have hi7 : ∀ w : World, (Instr.index 71 (.agg #[.int .i64 19, .int .i64 0, .int .i64 20, .int .i64 21, .int .i64 22, .int .i64 0, .int .i64 23, .int .i64 24]) (.int .i64 7)).run Tryd.prog w = .ok (.int .i64 24) w := fun _ => by kernel_rfl
    have hd : a1 = 0 ∨ a1 = 32 ∨ ((a1 == 0) = false ∧ (a1 == 32) = false) := by
      by_cases e : a1 = 0
      · exact Or.inl e
      · by_cases e' : a1 = 32
        · exact Or.inr (Or.inl e')
        · exact Or.inr (Or.inr ⟨beq_eq_false_iff_ne.2 e, beq_eq_false_iff_ne.2 e'⟩)
    rcases hd with rfl | rfl | ⟨e0, e1⟩
    · rcases hc with rfl | rfl | rfl | rfl | rfl | rfl | rfl | rfl
      all_goals
        obtain rfl := Option.some.inj h
        clear h
        go_enter Tryd.func43, Tryd.ntmps43
        go_wp2
        go_ret
        exact ⟨rfl, by repeat (first | exact Drawn0.refl _ | apply Drawn0.step)⟩
    · rcases hc with rfl | rfl | rfl | rfl | rfl | rfl | rfl | rfl
      all_goals
        obtain rfl := Option.some.inj h
        clear h
        go_enter Tryd.func43, Tryd.ntmps43
        go_wp2
        go_ret
        exact ⟨rfl, by repeat (first | exact Drawn0.refl _ | apply Drawn0.step)⟩
    · have n0 : ¬ a1 = 0 := beq_eq_false_iff_ne.1 e0
      have n1 : ¬ a1 = 32 := beq_eq_false_iff_ne.1 e1
      simp only [n0, n1, and_false, if_false] at h
      clear n0 n1
      rcases hc with rfl | rfl | rfl | rfl | rfl | rfl | rfl | rfl
      all_goals
        obtain rfl := Option.some.inj h
        clear h
        go_enter Tryd.func43, Tryd.ntmps43
        go_wp2
        go_ret
        exact ⟨rfl, by repeat (first | exact Drawn0.refl _ | apply Drawn0.step)⟩
  · cases h
/-! ### rv_reg: function 44 -/
def rv_reg.f (a0 : Int) (a1 : Int) : Option (Int) := if 0 ≤ a0 ∧ a0 < 8 then some (if a1 = 0 then ([28, 30, 31, 32, 33, 34, 36, 37] : List Int).getD a0.toNat 0 else if a1 = 1 then 38 + a0 else if a1 = 32 ∧ a0 = 0 then 29 else if a1 = 32 ∧ a0 = 5 then 35 else 0) else none
set_option maxRecDepth 100000 in
set_option maxHeartbeats 4000000 in
theorem rv_reg.calls (a0 : Int) (a1 : Int) (r : Int) (w : World) (h : rv_reg.f a0 a1 = some r) :
    Calls Tryd.prog 44 #[.int .i64 a0, .int .i64 a1] w fun e w' => e = .returned (.int .i64 r) ∧ Drawn0 w w' := by
  unfold rv_reg.f at h
  split at h
  · rename_i hb
    obtain ⟨h0, h1⟩ := hb
    have hc : a0 = 0 ∨ a0 = 1 ∨ a0 = 2 ∨ a0 = 3 ∨ a0 = 4 ∨ a0 = 5 ∨ a0 = 6 ∨ a0 = 7 := by omega
    clear h0 h1
    have hi0 : ∀ w : World, (Instr.index 71 (.agg #[.int .i64 28, .int .i64 30, .int .i64 31, .int .i64 32, .int .i64 33, .int .i64 34, .int .i64 36, .int .i64 37]) (.int .i64 0)).run Tryd.prog w = .ok (.int .i64 28) w := fun _ => by kernel_rfl
    have hi1 : ∀ w : World, (Instr.index 71 (.agg #[.int .i64 28, .int .i64 30, .int .i64 31, .int .i64 32, .int .i64 33, .int .i64 34, .int .i64 36, .int .i64 37]) (.int .i64 1)).run Tryd.prog w = .ok (.int .i64 30) w := fun _ => by kernel_rfl
    have hi2 : ∀ w : World, (Instr.index 71 (.agg #[.int .i64 28, .int .i64 30, .int .i64 31, .int .i64 32, .int .i64 33, .int .i64 34, .int .i64 36, .int .i64 37]) (.int .i64 2)).run Tryd.prog w = .ok (.int .i64 31) w := fun _ => by kernel_rfl
    have hi3 : ∀ w : World, (Instr.index 71 (.agg #[.int .i64 28, .int .i64 30, .int .i64 31, .int .i64 32, .int .i64 33, .int .i64 34, .int .i64 36, .int .i64 37]) (.int .i64 3)).run Tryd.prog w = .ok (.int .i64 32) w := fun _ => by kernel_rfl
    have hi4 : ∀ w : World, (Instr.index 71 (.agg #[.int .i64 28, .int .i64 30, .int .i64 31, .int .i64 32, .int .i64 33, .int .i64 34, .int .i64 36, .int .i64 37]) (.int .i64 4)).run Tryd.prog w = .ok (.int .i64 33) w := fun _ => by kernel_rfl
    have hi5 : ∀ w : World, (Instr.index 71 (.agg #[.int .i64 28, .int .i64 30, .int .i64 31, .int .i64 32, .int .i64 33, .int .i64 34, .int .i64 36, .int .i64 37]) (.int .i64 5)).run Tryd.prog w = .ok (.int .i64 34) w := fun _ => by kernel_rfl
    have hi6 : ∀ w : World, (Instr.index 71 (.agg #[.int .i64 28, .int .i64 30, .int .i64 31, .int .i64 32, .int .i64 33, .int .i64 34, .int .i64 36, .int .i64 37]) (.int .i64 6)).run Tryd.prog w = .ok (.int .i64 36) w := fun _ => by kernel_rfl
    have hi7 : ∀ w : World, (Instr.index 71 (.agg #[.int .i64 28, .int .i64 30, .int .i64 31, .int .i64 32, .int .i64 33, .int .i64 34, .int .i64 36, .int .i64 37]) (.int .i64 7)).run Tryd.prog w = .ok (.int .i64 37) w := fun _ => by kernel_rfl
    have hd : a1 = 0 ∨ a1 = 1 ∨ a1 = 32 ∨ ((a1 == 0) = false ∧ (a1 == 1) = false ∧ (a1 == 32) = false) := by
      by_cases e : a1 = 0
      · exact Or.inl e
      · by_cases e' : a1 = 1
        · exact Or.inr (Or.inl e')
        · by_cases e'' : a1 = 32
          · exact Or.inr (Or.inr (Or.inl e''))
          · exact Or.inr (Or.inr (Or.inr ⟨beq_eq_false_iff_ne.2 e, beq_eq_false_iff_ne.2 e', beq_eq_false_iff_ne.2 e''⟩))
    rcases hd with rfl | rfl | rfl | ⟨e0, e1, e2⟩
    · rcases hc with rfl | rfl | rfl | rfl | rfl | rfl | rfl | rfl
      all_goals
        obtain rfl := Option.some.inj h
        clear h
        go_enter Tryd.func44, Tryd.ntmps44
        go_wp2
        go_ret
        exact ⟨rfl, by repeat (first | exact Drawn0.refl _ | apply Drawn0.step)⟩
    · rcases hc with rfl | rfl | rfl | rfl | rfl | rfl | rfl | rfl
      all_goals
        obtain rfl := Option.some.inj h
        clear h
        go_enter Tryd.func44, Tryd.ntmps44
        go_wp2
        go_ret
        exact ⟨rfl, by repeat (first | exact Drawn0.refl _ | apply Drawn0.step)⟩
    · rcases hc with rfl | rfl | rfl | rfl | rfl | rfl | rfl | rfl
      all_goals
        obtain rfl := Option.some.inj h
        clear h
        go_enter Tryd.func44, Tryd.ntmps44
        go_wp2
        go_ret
        exact ⟨rfl, by repeat (first | exact Drawn0.refl _ | apply Drawn0.step)⟩
    · have n0 : ¬ a1 = 0 := beq_eq_false_iff_ne.1 e0
      have n1 : ¬ a1 = 1 := beq_eq_false_iff_ne.1 e1
      have n2 : ¬ a1 = 32 := beq_eq_false_iff_ne.1 e2
      simp only [n0, n1, n2, false_and, if_false] at h
      clear n0 n1 n2
      obtain rfl := Option.some.inj h
      clear h hc
      go_enter Tryd.func44, Tryd.ntmps44
      go_wp2
      go_ret
      exact ⟨rfl, by repeat (first | exact Drawn0.refl _ | apply Drawn0.step)⟩
  · cases h
/-! ### rv_system: function 45 -/
def rv_system.f (a0 : Int) : Option (Int) := if a0 = 115 then (some 48) else (if a0 = 1048691 then (some 49) else (some 0))
set_option maxHeartbeats 8000000 in
set_option maxRecDepth 100000 in
theorem rv_system.calls (a0 : Int) (r : Int) (w : World) (h : rv_system.f a0 = some r) :
    Calls Tryd.prog 45 #[.int .u32 a0] w fun e w' => e = .returned (.int .i64 r) ∧ Drawn0 w w' := by
  have H : (if a0 = 115 then (some 48) else (if a0 = 1048691 then (some 49) else (some 0))) = some r := h
  clear h
  by_cases c2 : a0 = 115
  · rw [if_pos c2] at H
    have c2b0 : (a0 == 115) = true := beq_iff_eq.mpr c2
    have c2b1 : (a0 != 115) = false := bne_eq_false_iff_eq.mpr c2
    clear c2
    obtain rfl := Option.some.inj H
    go_enter Tryd.func45, Tryd.ntmps45
    go_wp2
    go_ret
    exact ⟨by first | rfl | (simp; done) | (simp [*]; done), by repeat (first | exact Drawn0.refl _ | apply Drawn0.step)⟩
  · rw [if_neg c2] at H
    have c2b0 : (a0 == 115) = false := beq_eq_false_iff_ne.mpr c2
    have c2b1 : (a0 != 115) = true := bne_iff_ne.mpr c2
    by_cases c3 : a0 = 1048691
    · rw [if_pos c3] at H
      have c3b0 : (a0 == 1048691) = true := beq_iff_eq.mpr c3
      have c3b1 : (a0 != 1048691) = false := bne_eq_false_iff_eq.mpr c3
      clear c3
      obtain rfl := Option.some.inj H
      go_enter Tryd.func45, Tryd.ntmps45
      go_wp2
      go_ret
      exact ⟨by first | rfl | (simp; done) | (simp [*]; done), by repeat (first | exact Drawn0.refl _ | apply Drawn0.step)⟩
    · rw [if_neg c3] at H
      have c3b0 : (a0 == 1048691) = false := beq_eq_false_iff_ne.mpr c3
      have c3b1 : (a0 != 1048691) = true := bne_iff_ne.mpr c3
      obtain rfl := Option.some.inj H
      go_enter Tryd.func45, Tryd.ntmps45
      go_wp2
      go_ret
      exact ⟨by first | rfl | (simp; done) | (simp [*]; done), by repeat (first | exact Drawn0.refl _ | apply Drawn0.step)⟩
/-! ### rv_kindOf: function 23 -/
def rv_kindOf.f (a0 : Int) : Option (Int) := (rv_field.f a0 12 3).bind fun t101 => ((rv_field.f a0 25 7).bind fun t102 => (if (Go.bits .and .u32 a0 127) = 55 then (some 1) else (if (Go.bits .and .u32 a0 127) = 23 then (some 2) else (if (Go.bits .and .u32 a0 127) = 111 then (some 3) else (if (Go.bits .and .u32 a0 127) = 103 then (if t101 = 0 then (some 4) else ((rv_system.f a0).bind fun t103 => (some t103))) else (if (Go.bits .and .u32 a0 127) = 99 then ((rv_branch.f t101).bind fun t104 => (some t104)) else (if (Go.bits .and .u32 a0 127) = 3 then ((rv_load.f t101).bind fun t105 => (some t105)) else (if (Go.bits .and .u32 a0 127) = 35 then ((rv_store.f t101).bind fun t106 => (some t106)) else (if (Go.bits .and .u32 a0 127) = 19 then ((rv_imm.f t101 t102).bind fun t107 => (some t107)) else (if (Go.bits .and .u32 a0 127) = 51 then ((rv_reg.f t101 t102).bind fun t108 => (some t108)) else (if (Go.bits .and .u32 a0 127) = 15 then (if t101 < 2 then (some (wrap64 (46 + t101))) else ((rv_system.f a0).bind fun t109 => (some t109))) else ((rv_system.f a0).bind fun t110 => (some t110)))))))))))))
set_option maxHeartbeats 8000000 in
set_option maxRecDepth 100000 in
theorem rv_kindOf.calls (a0 : Int) (r : Int) (w : World) (h : rv_kindOf.f a0 = some r) :
    Calls Tryd.prog 23 #[.int .u32 a0] w fun e w' => e = .returned (.int .i64 r) ∧ Drawn0 w w' := by
  have H : ((rv_field.f a0 12 3).bind fun t101 => ((rv_field.f a0 25 7).bind fun t102 => (if (Go.bits .and .u32 a0 127) = 55 then (some 1) else (if (Go.bits .and .u32 a0 127) = 23 then (some 2) else (if (Go.bits .and .u32 a0 127) = 111 then (some 3) else (if (Go.bits .and .u32 a0 127) = 103 then (if t101 = 0 then (some 4) else ((rv_system.f a0).bind fun t103 => (some t103))) else (if (Go.bits .and .u32 a0 127) = 99 then ((rv_branch.f t101).bind fun t104 => (some t104)) else (if (Go.bits .and .u32 a0 127) = 3 then ((rv_load.f t101).bind fun t105 => (some t105)) else (if (Go.bits .and .u32 a0 127) = 35 then ((rv_store.f t101).bind fun t106 => (some t106)) else (if (Go.bits .and .u32 a0 127) = 19 then ((rv_imm.f t101 t102).bind fun t107 => (some t107)) else (if (Go.bits .and .u32 a0 127) = 51 then ((rv_reg.f t101 t102).bind fun t108 => (some t108)) else (if (Go.bits .and .u32 a0 127) = 15 then (if t101 < 2 then (some (wrap64 (46 + t101))) else ((rv_system.f a0).bind fun t109 => (some t109))) else ((rv_system.f a0).bind fun t110 => (some t110)))))))))))))) = some r := h
  clear h
  replace H := Option.bind_eq_some_iff.mp H
  obtain ⟨t101, A20, H⟩ := H
  replace H : ((rv_field.f a0 25 7).bind fun t102 => (if (Go.bits .and .u32 a0 127) = 55 then (some 1) else (if (Go.bits .and .u32 a0 127) = 23 then (some 2) else (if (Go.bits .and .u32 a0 127) = 111 then (some 3) else (if (Go.bits .and .u32 a0 127) = 103 then (if t101 = 0 then (some 4) else ((rv_system.f a0).bind fun t103 => (some t103))) else (if (Go.bits .and .u32 a0 127) = 99 then ((rv_branch.f t101).bind fun t104 => (some t104)) else (if (Go.bits .and .u32 a0 127) = 3 then ((rv_load.f t101).bind fun t105 => (some t105)) else (if (Go.bits .and .u32 a0 127) = 35 then ((rv_store.f t101).bind fun t106 => (some t106)) else (if (Go.bits .and .u32 a0 127) = 19 then ((rv_imm.f t101 t102).bind fun t107 => (some t107)) else (if (Go.bits .and .u32 a0 127) = 51 then ((rv_reg.f t101 t102).bind fun t108 => (some t108)) else (if (Go.bits .and .u32 a0 127) = 15 then (if t101 < 2 then (some (wrap64 (46 + t101))) else ((rv_system.f a0).bind fun t109 => (some t109))) else ((rv_system.f a0).bind fun t110 => (some t110))))))))))))) = some r := H
  have A2 := Aside0.mk A20
  clear A20
  replace H := Option.bind_eq_some_iff.mp H
  obtain ⟨t102, A30, H⟩ := H
  replace H : (if (Go.bits .and .u32 a0 127) = 55 then (some 1) else (if (Go.bits .and .u32 a0 127) = 23 then (some 2) else (if (Go.bits .and .u32 a0 127) = 111 then (some 3) else (if (Go.bits .and .u32 a0 127) = 103 then (if t101 = 0 then (some 4) else ((rv_system.f a0).bind fun t103 => (some t103))) else (if (Go.bits .and .u32 a0 127) = 99 then ((rv_branch.f t101).bind fun t104 => (some t104)) else (if (Go.bits .and .u32 a0 127) = 3 then ((rv_load.f t101).bind fun t105 => (some t105)) else (if (Go.bits .and .u32 a0 127) = 35 then ((rv_store.f t101).bind fun t106 => (some t106)) else (if (Go.bits .and .u32 a0 127) = 19 then ((rv_imm.f t101 t102).bind fun t107 => (some t107)) else (if (Go.bits .and .u32 a0 127) = 51 then ((rv_reg.f t101 t102).bind fun t108 => (some t108)) else (if (Go.bits .and .u32 a0 127) = 15 then (if t101 < 2 then (some (wrap64 (46 + t101))) else ((rv_system.f a0).bind fun t109 => (some t109))) else ((rv_system.f a0).bind fun t110 => (some t110)))))))))))) = some r := H
  have A3 := Aside0.mk A30
  clear A30
  by_cases c4 : (Go.bits .and .u32 a0 127) = 55
  · rw [if_pos c4] at H
    have c4b0 : ((Go.bits .and .u32 a0 127) == 55) = true := beq_iff_eq.mpr c4
    have c4b1 : ((Go.bits .and .u32 a0 127) != 55) = false := bne_eq_false_iff_eq.mpr c4
    clear c4
    obtain rfl := Option.some.inj H
    go_enter Tryd.func23, Tryd.ntmps23
    go_wp2_with (first | ((with_reducible refine gate_callee (f := 24) rfl ?_); refine goesL_ (some 6) rfl rfl Tryd.func24 (by kernel_rfl) rfl #[.int .u32 a0, .int .i64 12, .int .i64 3] rfl (by (try simp only [List.map_toArray, List.map_cons, List.map_nil]); first | done | rfl | (simp only [List.length_drop, List.length_take]; rfl)) ?_; (with_reducible refine (rv_field.calls a0 12 3 t101 _ A2.out).mono ?_); rintro e w' ⟨rfl, ⟨nd, rfl⟩⟩; refine ⟨_, rfl, ?_⟩) | ((with_reducible refine gate_callee (f := 24) rfl ?_); refine goesL_ (some 8) rfl rfl Tryd.func24 (by kernel_rfl) rfl #[.int .u32 a0, .int .i64 25, .int .i64 7] rfl (by (try simp only [List.map_toArray, List.map_cons, List.map_nil]); first | done | rfl | (simp only [List.length_drop, List.length_take]; rfl)) ?_; (with_reducible refine (rv_field.calls a0 25 7 t102 _ A3.out).mono ?_); rintro e w' ⟨rfl, ⟨nd, rfl⟩⟩; refine ⟨_, rfl, ?_⟩))
    go_ret
    exact ⟨by first | rfl | (simp; done) | (simp [*]; done), by repeat (first | exact Drawn0.refl _ | apply Drawn0.step)⟩
  · rw [if_neg c4] at H
    have c4b0 : ((Go.bits .and .u32 a0 127) == 55) = false := beq_eq_false_iff_ne.mpr c4
    have c4b1 : ((Go.bits .and .u32 a0 127) != 55) = true := bne_iff_ne.mpr c4
    by_cases c5 : (Go.bits .and .u32 a0 127) = 23
    · rw [if_pos c5] at H
      have c5b0 : ((Go.bits .and .u32 a0 127) == 23) = true := beq_iff_eq.mpr c5
      have c5b1 : ((Go.bits .and .u32 a0 127) != 23) = false := bne_eq_false_iff_eq.mpr c5
      clear c5
      obtain rfl := Option.some.inj H
      go_enter Tryd.func23, Tryd.ntmps23
      go_wp2_with (first | ((with_reducible refine gate_callee (f := 24) rfl ?_); refine goesL_ (some 6) rfl rfl Tryd.func24 (by kernel_rfl) rfl #[.int .u32 a0, .int .i64 12, .int .i64 3] rfl (by (try simp only [List.map_toArray, List.map_cons, List.map_nil]); first | done | rfl | (simp only [List.length_drop, List.length_take]; rfl)) ?_; (with_reducible refine (rv_field.calls a0 12 3 t101 _ A2.out).mono ?_); rintro e w' ⟨rfl, ⟨nd, rfl⟩⟩; refine ⟨_, rfl, ?_⟩) | ((with_reducible refine gate_callee (f := 24) rfl ?_); refine goesL_ (some 8) rfl rfl Tryd.func24 (by kernel_rfl) rfl #[.int .u32 a0, .int .i64 25, .int .i64 7] rfl (by (try simp only [List.map_toArray, List.map_cons, List.map_nil]); first | done | rfl | (simp only [List.length_drop, List.length_take]; rfl)) ?_; (with_reducible refine (rv_field.calls a0 25 7 t102 _ A3.out).mono ?_); rintro e w' ⟨rfl, ⟨nd, rfl⟩⟩; refine ⟨_, rfl, ?_⟩))
      go_ret
      exact ⟨by first | rfl | (simp; done) | (simp [*]; done), by repeat (first | exact Drawn0.refl _ | apply Drawn0.step)⟩
    · rw [if_neg c5] at H
      have c5b0 : ((Go.bits .and .u32 a0 127) == 23) = false := beq_eq_false_iff_ne.mpr c5
      have c5b1 : ((Go.bits .and .u32 a0 127) != 23) = true := bne_iff_ne.mpr c5
      by_cases c6 : (Go.bits .and .u32 a0 127) = 111
      · rw [if_pos c6] at H
        have c6b0 : ((Go.bits .and .u32 a0 127) == 111) = true := beq_iff_eq.mpr c6
        have c6b1 : ((Go.bits .and .u32 a0 127) != 111) = false := bne_eq_false_iff_eq.mpr c6
        clear c6
        obtain rfl := Option.some.inj H
        go_enter Tryd.func23, Tryd.ntmps23
        go_wp2_with (first | ((with_reducible refine gate_callee (f := 24) rfl ?_); refine goesL_ (some 6) rfl rfl Tryd.func24 (by kernel_rfl) rfl #[.int .u32 a0, .int .i64 12, .int .i64 3] rfl (by (try simp only [List.map_toArray, List.map_cons, List.map_nil]); first | done | rfl | (simp only [List.length_drop, List.length_take]; rfl)) ?_; (with_reducible refine (rv_field.calls a0 12 3 t101 _ A2.out).mono ?_); rintro e w' ⟨rfl, ⟨nd, rfl⟩⟩; refine ⟨_, rfl, ?_⟩) | ((with_reducible refine gate_callee (f := 24) rfl ?_); refine goesL_ (some 8) rfl rfl Tryd.func24 (by kernel_rfl) rfl #[.int .u32 a0, .int .i64 25, .int .i64 7] rfl (by (try simp only [List.map_toArray, List.map_cons, List.map_nil]); first | done | rfl | (simp only [List.length_drop, List.length_take]; rfl)) ?_; (with_reducible refine (rv_field.calls a0 25 7 t102 _ A3.out).mono ?_); rintro e w' ⟨rfl, ⟨nd, rfl⟩⟩; refine ⟨_, rfl, ?_⟩))
        go_ret
        exact ⟨by first | rfl | (simp; done) | (simp [*]; done), by repeat (first | exact Drawn0.refl _ | apply Drawn0.step)⟩
      · rw [if_neg c6] at H
        have c6b0 : ((Go.bits .and .u32 a0 127) == 111) = false := beq_eq_false_iff_ne.mpr c6
        have c6b1 : ((Go.bits .and .u32 a0 127) != 111) = true := bne_iff_ne.mpr c6
        by_cases c7 : (Go.bits .and .u32 a0 127) = 103
        · rw [if_pos c7] at H
          have c7b0 : ((Go.bits .and .u32 a0 127) == 103) = true := beq_iff_eq.mpr c7
          have c7b1 : ((Go.bits .and .u32 a0 127) != 103) = false := bne_eq_false_iff_eq.mpr c7
          clear c7
          by_cases c8 : t101 = 0
          · rw [if_pos c8] at H
            have c8b0 : (t101 == 0) = true := beq_iff_eq.mpr c8
            have c8b1 : (t101 != 0) = false := bne_eq_false_iff_eq.mpr c8
            clear c8
            obtain rfl := Option.some.inj H
            go_enter Tryd.func23, Tryd.ntmps23
            go_wp2_with (first | ((with_reducible refine gate_callee (f := 24) rfl ?_); refine goesL_ (some 6) rfl rfl Tryd.func24 (by kernel_rfl) rfl #[.int .u32 a0, .int .i64 12, .int .i64 3] rfl (by (try simp only [List.map_toArray, List.map_cons, List.map_nil]); first | done | rfl | (simp only [List.length_drop, List.length_take]; rfl)) ?_; (with_reducible refine (rv_field.calls a0 12 3 t101 _ A2.out).mono ?_); rintro e w' ⟨rfl, ⟨nd, rfl⟩⟩; refine ⟨_, rfl, ?_⟩) | ((with_reducible refine gate_callee (f := 24) rfl ?_); refine goesL_ (some 8) rfl rfl Tryd.func24 (by kernel_rfl) rfl #[.int .u32 a0, .int .i64 25, .int .i64 7] rfl (by (try simp only [List.map_toArray, List.map_cons, List.map_nil]); first | done | rfl | (simp only [List.length_drop, List.length_take]; rfl)) ?_; (with_reducible refine (rv_field.calls a0 25 7 t102 _ A3.out).mono ?_); rintro e w' ⟨rfl, ⟨nd, rfl⟩⟩; refine ⟨_, rfl, ?_⟩))
            go_ret
            exact ⟨by first | rfl | (simp; done) | (simp [*]; done), by repeat (first | exact Drawn0.refl _ | apply Drawn0.step)⟩
          · rw [if_neg c8] at H
            have c8b0 : (t101 == 0) = false := beq_eq_false_iff_ne.mpr c8
            have c8b1 : (t101 != 0) = true := bne_iff_ne.mpr c8
            replace H := Option.bind_eq_some_iff.mp H
            obtain ⟨t103, A90, H⟩ := H
            replace H : (some t103) = some r := H
            have A9 := Aside0.mk A90
            clear A90
            obtain rfl := Option.some.inj H
            go_enter Tryd.func23, Tryd.ntmps23
            go_wp2_with (first | ((with_reducible refine gate_callee (f := 24) rfl ?_); refine goesL_ (some 6) rfl rfl Tryd.func24 (by kernel_rfl) rfl #[.int .u32 a0, .int .i64 12, .int .i64 3] rfl (by (try simp only [List.map_toArray, List.map_cons, List.map_nil]); first | done | rfl | (simp only [List.length_drop, List.length_take]; rfl)) ?_; (with_reducible refine (rv_field.calls a0 12 3 t101 _ A2.out).mono ?_); rintro e w' ⟨rfl, ⟨nd, rfl⟩⟩; refine ⟨_, rfl, ?_⟩) | ((with_reducible refine gate_callee (f := 24) rfl ?_); refine goesL_ (some 8) rfl rfl Tryd.func24 (by kernel_rfl) rfl #[.int .u32 a0, .int .i64 25, .int .i64 7] rfl (by (try simp only [List.map_toArray, List.map_cons, List.map_nil]); first | done | rfl | (simp only [List.length_drop, List.length_take]; rfl)) ?_; (with_reducible refine (rv_field.calls a0 25 7 t102 _ A3.out).mono ?_); rintro e w' ⟨rfl, ⟨nd, rfl⟩⟩; refine ⟨_, rfl, ?_⟩) | ((with_reducible refine gate_callee (f := 45) rfl ?_); refine goesL_ (some 50) rfl rfl Tryd.func45 (by kernel_rfl) rfl #[.int .u32 a0] rfl (by (try simp only [List.map_toArray, List.map_cons, List.map_nil]); first | done | rfl | (simp only [List.length_drop, List.length_take]; rfl)) ?_; (with_reducible refine (rv_system.calls a0 t103 _ A9.out).mono ?_); rintro e w' ⟨rfl, ⟨nd, rfl⟩⟩; refine ⟨_, rfl, ?_⟩))
            go_ret
            exact ⟨by first | rfl | (simp; done) | (simp [*]; done), by repeat (first | exact Drawn0.refl _ | apply Drawn0.step)⟩
        · rw [if_neg c7] at H
          have c7b0 : ((Go.bits .and .u32 a0 127) == 103) = false := beq_eq_false_iff_ne.mpr c7
          have c7b1 : ((Go.bits .and .u32 a0 127) != 103) = true := bne_iff_ne.mpr c7
          by_cases c10 : (Go.bits .and .u32 a0 127) = 99
          · rw [if_pos c10] at H
            have c10b0 : ((Go.bits .and .u32 a0 127) == 99) = true := beq_iff_eq.mpr c10
            have c10b1 : ((Go.bits .and .u32 a0 127) != 99) = false := bne_eq_false_iff_eq.mpr c10
            clear c10
            replace H := Option.bind_eq_some_iff.mp H
            obtain ⟨t104, A110, H⟩ := H
            replace H : (some t104) = some r := H
            have A11 := Aside0.mk A110
            clear A110
            obtain rfl := Option.some.inj H
            go_enter Tryd.func23, Tryd.ntmps23
            go_wp2_with (first | ((with_reducible refine gate_callee (f := 24) rfl ?_); refine goesL_ (some 6) rfl rfl Tryd.func24 (by kernel_rfl) rfl #[.int .u32 a0, .int .i64 12, .int .i64 3] rfl (by (try simp only [List.map_toArray, List.map_cons, List.map_nil]); first | done | rfl | (simp only [List.length_drop, List.length_take]; rfl)) ?_; (with_reducible refine (rv_field.calls a0 12 3 t101 _ A2.out).mono ?_); rintro e w' ⟨rfl, ⟨nd, rfl⟩⟩; refine ⟨_, rfl, ?_⟩) | ((with_reducible refine gate_callee (f := 24) rfl ?_); refine goesL_ (some 8) rfl rfl Tryd.func24 (by kernel_rfl) rfl #[.int .u32 a0, .int .i64 25, .int .i64 7] rfl (by (try simp only [List.map_toArray, List.map_cons, List.map_nil]); first | done | rfl | (simp only [List.length_drop, List.length_take]; rfl)) ?_; (with_reducible refine (rv_field.calls a0 25 7 t102 _ A3.out).mono ?_); rintro e w' ⟨rfl, ⟨nd, rfl⟩⟩; refine ⟨_, rfl, ?_⟩) | ((with_reducible refine gate_callee (f := 40) rfl ?_); refine goesL_ (some 24) rfl rfl Tryd.func40 (by kernel_rfl) rfl #[.int .i64 t101] rfl (by (try simp only [List.map_toArray, List.map_cons, List.map_nil]); first | done | rfl | (simp only [List.length_drop, List.length_take]; rfl)) ?_; (with_reducible refine (rv_branch.calls t101 t104 _ A11.out).mono ?_); rintro e w' ⟨rfl, ⟨nd, rfl⟩⟩; refine ⟨_, rfl, ?_⟩))
            go_ret
            exact ⟨by first | rfl | (simp; done) | (simp [*]; done), by repeat (first | exact Drawn0.refl _ | apply Drawn0.step)⟩
          · rw [if_neg c10] at H
            have c10b0 : ((Go.bits .and .u32 a0 127) == 99) = false := beq_eq_false_iff_ne.mpr c10
            have c10b1 : ((Go.bits .and .u32 a0 127) != 99) = true := bne_iff_ne.mpr c10
            by_cases c12 : (Go.bits .and .u32 a0 127) = 3
            · rw [if_pos c12] at H
              have c12b0 : ((Go.bits .and .u32 a0 127) == 3) = true := beq_iff_eq.mpr c12
              have c12b1 : ((Go.bits .and .u32 a0 127) != 3) = false := bne_eq_false_iff_eq.mpr c12
              clear c12
              replace H := Option.bind_eq_some_iff.mp H
              obtain ⟨t105, A130, H⟩ := H
              replace H : (some t105) = some r := H
              have A13 := Aside0.mk A130
              clear A130
              obtain rfl := Option.some.inj H
              go_enter Tryd.func23, Tryd.ntmps23
              go_wp2_with (first | ((with_reducible refine gate_callee (f := 24) rfl ?_); refine goesL_ (some 6) rfl rfl Tryd.func24 (by kernel_rfl) rfl #[.int .u32 a0, .int .i64 12, .int .i64 3] rfl (by (try simp only [List.map_toArray, List.map_cons, List.map_nil]); first | done | rfl | (simp only [List.length_drop, List.length_take]; rfl)) ?_; (with_reducible refine (rv_field.calls a0 12 3 t101 _ A2.out).mono ?_); rintro e w' ⟨rfl, ⟨nd, rfl⟩⟩; refine ⟨_, rfl, ?_⟩) | ((with_reducible refine gate_callee (f := 24) rfl ?_); refine goesL_ (some 8) rfl rfl Tryd.func24 (by kernel_rfl) rfl #[.int .u32 a0, .int .i64 25, .int .i64 7] rfl (by (try simp only [List.map_toArray, List.map_cons, List.map_nil]); first | done | rfl | (simp only [List.length_drop, List.length_take]; rfl)) ?_; (with_reducible refine (rv_field.calls a0 25 7 t102 _ A3.out).mono ?_); rintro e w' ⟨rfl, ⟨nd, rfl⟩⟩; refine ⟨_, rfl, ?_⟩) | ((with_reducible refine gate_callee (f := 41) rfl ?_); refine goesL_ (some 28) rfl rfl Tryd.func41 (by kernel_rfl) rfl #[.int .i64 t101] rfl (by (try simp only [List.map_toArray, List.map_cons, List.map_nil]); first | done | rfl | (simp only [List.length_drop, List.length_take]; rfl)) ?_; (with_reducible refine (rv_load.calls t101 t105 _ A13.out).mono ?_); rintro e w' ⟨rfl, ⟨nd, rfl⟩⟩; refine ⟨_, rfl, ?_⟩))
              go_ret
              exact ⟨by first | rfl | (simp; done) | (simp [*]; done), by repeat (first | exact Drawn0.refl _ | apply Drawn0.step)⟩
            · rw [if_neg c12] at H
              have c12b0 : ((Go.bits .and .u32 a0 127) == 3) = false := beq_eq_false_iff_ne.mpr c12
              have c12b1 : ((Go.bits .and .u32 a0 127) != 3) = true := bne_iff_ne.mpr c12
              by_cases c14 : (Go.bits .and .u32 a0 127) = 35
              · rw [if_pos c14] at H
                have c14b0 : ((Go.bits .and .u32 a0 127) == 35) = true := beq_iff_eq.mpr c14
                have c14b1 : ((Go.bits .and .u32 a0 127) != 35) = false := bne_eq_false_iff_eq.mpr c14
                clear c14
                replace H := Option.bind_eq_some_iff.mp H
                obtain ⟨t106, A150, H⟩ := H
                replace H : (some t106) = some r := H
                have A15 := Aside0.mk A150
                clear A150
                obtain rfl := Option.some.inj H
                go_enter Tryd.func23, Tryd.ntmps23
                go_wp2_with (first | ((with_reducible refine gate_callee (f := 24) rfl ?_); refine goesL_ (some 6) rfl rfl Tryd.func24 (by kernel_rfl) rfl #[.int .u32 a0, .int .i64 12, .int .i64 3] rfl (by (try simp only [List.map_toArray, List.map_cons, List.map_nil]); first | done | rfl | (simp only [List.length_drop, List.length_take]; rfl)) ?_; (with_reducible refine (rv_field.calls a0 12 3 t101 _ A2.out).mono ?_); rintro e w' ⟨rfl, ⟨nd, rfl⟩⟩; refine ⟨_, rfl, ?_⟩) | ((with_reducible refine gate_callee (f := 24) rfl ?_); refine goesL_ (some 8) rfl rfl Tryd.func24 (by kernel_rfl) rfl #[.int .u32 a0, .int .i64 25, .int .i64 7] rfl (by (try simp only [List.map_toArray, List.map_cons, List.map_nil]); first | done | rfl | (simp only [List.length_drop, List.length_take]; rfl)) ?_; (with_reducible refine (rv_field.calls a0 25 7 t102 _ A3.out).mono ?_); rintro e w' ⟨rfl, ⟨nd, rfl⟩⟩; refine ⟨_, rfl, ?_⟩) | ((with_reducible refine gate_callee (f := 42) rfl ?_); refine goesL_ (some 32) rfl rfl Tryd.func42 (by kernel_rfl) rfl #[.int .i64 t101] rfl (by (try simp only [List.map_toArray, List.map_cons, List.map_nil]); first | done | rfl | (simp only [List.length_drop, List.length_take]; rfl)) ?_; (with_reducible refine (rv_store.calls t101 t106 _ A15.out).mono ?_); rintro e w' ⟨rfl, ⟨nd, rfl⟩⟩; refine ⟨_, rfl, ?_⟩))
                go_ret
                exact ⟨by first | rfl | (simp; done) | (simp [*]; done), by repeat (first | exact Drawn0.refl _ | apply Drawn0.step)⟩
              · rw [if_neg c14] at H
                have c14b0 : ((Go.bits .and .u32 a0 127) == 35) = false := beq_eq_false_iff_ne.mpr c14
                have c14b1 : ((Go.bits .and .u32 a0 127) != 35) = true := bne_iff_ne.mpr c14
                by_cases c16 : (Go.bits .and .u32 a0 127) = 19
                · rw [if_pos c16] at H
                  have c16b0 : ((Go.bits .and .u32 a0 127) == 19) = true := beq_iff_eq.mpr c16
                  have c16b1 : ((Go.bits .and .u32 a0 127) != 19) = false := bne_eq_false_iff_eq.mpr c16
                  clear c16
                  replace H := Option.bind_eq_some_iff.mp H
                  obtain ⟨t107, A170, H⟩ := H
                  replace H : (some t107) = some r := H
                  have A17 := Aside0.mk A170
                  clear A170
                  obtain rfl := Option.some.inj H
                  go_enter Tryd.func23, Tryd.ntmps23
                  go_wp2_with (first | ((with_reducible refine gate_callee (f := 24) rfl ?_); refine goesL_ (some 6) rfl rfl Tryd.func24 (by kernel_rfl) rfl #[.int .u32 a0, .int .i64 12, .int .i64 3] rfl (by (try simp only [List.map_toArray, List.map_cons, List.map_nil]); first | done | rfl | (simp only [List.length_drop, List.length_take]; rfl)) ?_; (with_reducible refine (rv_field.calls a0 12 3 t101 _ A2.out).mono ?_); rintro e w' ⟨rfl, ⟨nd, rfl⟩⟩; refine ⟨_, rfl, ?_⟩) | ((with_reducible refine gate_callee (f := 24) rfl ?_); refine goesL_ (some 8) rfl rfl Tryd.func24 (by kernel_rfl) rfl #[.int .u32 a0, .int .i64 25, .int .i64 7] rfl (by (try simp only [List.map_toArray, List.map_cons, List.map_nil]); first | done | rfl | (simp only [List.length_drop, List.length_take]; rfl)) ?_; (with_reducible refine (rv_field.calls a0 25 7 t102 _ A3.out).mono ?_); rintro e w' ⟨rfl, ⟨nd, rfl⟩⟩; refine ⟨_, rfl, ?_⟩) | ((with_reducible refine gate_callee (f := 43) rfl ?_); refine goesL_ (some 37) rfl rfl Tryd.func43 (by kernel_rfl) rfl #[.int .i64 t101, .int .i64 t102] rfl (by (try simp only [List.map_toArray, List.map_cons, List.map_nil]); first | done | rfl | (simp only [List.length_drop, List.length_take]; rfl)) ?_; (with_reducible refine (rv_imm.calls t101 t102 t107 _ A17.out).mono ?_); rintro e w' ⟨rfl, ⟨nd, rfl⟩⟩; refine ⟨_, rfl, ?_⟩))
                  go_ret
                  exact ⟨by first | rfl | (simp; done) | (simp [*]; done), by repeat (first | exact Drawn0.refl _ | apply Drawn0.step)⟩
                · rw [if_neg c16] at H
                  have c16b0 : ((Go.bits .and .u32 a0 127) == 19) = false := beq_eq_false_iff_ne.mpr c16
                  have c16b1 : ((Go.bits .and .u32 a0 127) != 19) = true := bne_iff_ne.mpr c16
                  by_cases c18 : (Go.bits .and .u32 a0 127) = 51
                  · rw [if_pos c18] at H
                    have c18b0 : ((Go.bits .and .u32 a0 127) == 51) = true := beq_iff_eq.mpr c18
                    have c18b1 : ((Go.bits .and .u32 a0 127) != 51) = false := bne_eq_false_iff_eq.mpr c18
                    clear c18
                    replace H := Option.bind_eq_some_iff.mp H
                    obtain ⟨t108, A190, H⟩ := H
                    replace H : (some t108) = some r := H
                    have A19 := Aside0.mk A190
                    clear A190
                    obtain rfl := Option.some.inj H
                    go_enter Tryd.func23, Tryd.ntmps23
                    go_wp2_with (first | ((with_reducible refine gate_callee (f := 24) rfl ?_); refine goesL_ (some 6) rfl rfl Tryd.func24 (by kernel_rfl) rfl #[.int .u32 a0, .int .i64 12, .int .i64 3] rfl (by (try simp only [List.map_toArray, List.map_cons, List.map_nil]); first | done | rfl | (simp only [List.length_drop, List.length_take]; rfl)) ?_; (with_reducible refine (rv_field.calls a0 12 3 t101 _ A2.out).mono ?_); rintro e w' ⟨rfl, ⟨nd, rfl⟩⟩; refine ⟨_, rfl, ?_⟩) | ((with_reducible refine gate_callee (f := 24) rfl ?_); refine goesL_ (some 8) rfl rfl Tryd.func24 (by kernel_rfl) rfl #[.int .u32 a0, .int .i64 25, .int .i64 7] rfl (by (try simp only [List.map_toArray, List.map_cons, List.map_nil]); first | done | rfl | (simp only [List.length_drop, List.length_take]; rfl)) ?_; (with_reducible refine (rv_field.calls a0 25 7 t102 _ A3.out).mono ?_); rintro e w' ⟨rfl, ⟨nd, rfl⟩⟩; refine ⟨_, rfl, ?_⟩) | ((with_reducible refine gate_callee (f := 44) rfl ?_); refine goesL_ (some 42) rfl rfl Tryd.func44 (by kernel_rfl) rfl #[.int .i64 t101, .int .i64 t102] rfl (by (try simp only [List.map_toArray, List.map_cons, List.map_nil]); first | done | rfl | (simp only [List.length_drop, List.length_take]; rfl)) ?_; (with_reducible refine (rv_reg.calls t101 t102 t108 _ A19.out).mono ?_); rintro e w' ⟨rfl, ⟨nd, rfl⟩⟩; refine ⟨_, rfl, ?_⟩))
                    go_ret
                    exact ⟨by first | rfl | (simp; done) | (simp [*]; done), by repeat (first | exact Drawn0.refl _ | apply Drawn0.step)⟩
                  · rw [if_neg c18] at H
                    have c18b0 : ((Go.bits .and .u32 a0 127) == 51) = false := beq_eq_false_iff_ne.mpr c18
                    have c18b1 : ((Go.bits .and .u32 a0 127) != 51) = true := bne_iff_ne.mpr c18
                    by_cases c20 : (Go.bits .and .u32 a0 127) = 15
                    · rw [if_pos c20] at H
                      have c20b0 : ((Go.bits .and .u32 a0 127) == 15) = true := beq_iff_eq.mpr c20
                      have c20b1 : ((Go.bits .and .u32 a0 127) != 15) = false := bne_eq_false_iff_eq.mpr c20
                      clear c20
                      by_cases c21 : t101 < 2
                      · rw [if_pos c21] at H
                        have c21b0 : decide (t101 < 2) = true := decide_eq_true c21
                        clear c21
                        obtain rfl := Option.some.inj H
                        go_enter Tryd.func23, Tryd.ntmps23
                        go_wp2_with (first | ((with_reducible refine gate_callee (f := 24) rfl ?_); refine goesL_ (some 6) rfl rfl Tryd.func24 (by kernel_rfl) rfl #[.int .u32 a0, .int .i64 12, .int .i64 3] rfl (by (try simp only [List.map_toArray, List.map_cons, List.map_nil]); first | done | rfl | (simp only [List.length_drop, List.length_take]; rfl)) ?_; (with_reducible refine (rv_field.calls a0 12 3 t101 _ A2.out).mono ?_); rintro e w' ⟨rfl, ⟨nd, rfl⟩⟩; refine ⟨_, rfl, ?_⟩) | ((with_reducible refine gate_callee (f := 24) rfl ?_); refine goesL_ (some 8) rfl rfl Tryd.func24 (by kernel_rfl) rfl #[.int .u32 a0, .int .i64 25, .int .i64 7] rfl (by (try simp only [List.map_toArray, List.map_cons, List.map_nil]); first | done | rfl | (simp only [List.length_drop, List.length_take]; rfl)) ?_; (with_reducible refine (rv_field.calls a0 25 7 t102 _ A3.out).mono ?_); rintro e w' ⟨rfl, ⟨nd, rfl⟩⟩; refine ⟨_, rfl, ?_⟩))
                        go_ret
                        exact ⟨by first | rfl | (simp; done) | (simp [*]; done), by repeat (first | exact Drawn0.refl _ | apply Drawn0.step)⟩
                      · rw [if_neg c21] at H
                        have c21b0 : decide (t101 < 2) = false := decide_eq_false c21
                        clear c21
                        replace H := Option.bind_eq_some_iff.mp H
                        obtain ⟨t109, A220, H⟩ := H
                        replace H : (some t109) = some r := H
                        have A22 := Aside0.mk A220
                        clear A220
                        obtain rfl := Option.some.inj H
                        go_enter Tryd.func23, Tryd.ntmps23
                        go_wp2_with (first | ((with_reducible refine gate_callee (f := 24) rfl ?_); refine goesL_ (some 6) rfl rfl Tryd.func24 (by kernel_rfl) rfl #[.int .u32 a0, .int .i64 12, .int .i64 3] rfl (by (try simp only [List.map_toArray, List.map_cons, List.map_nil]); first | done | rfl | (simp only [List.length_drop, List.length_take]; rfl)) ?_; (with_reducible refine (rv_field.calls a0 12 3 t101 _ A2.out).mono ?_); rintro e w' ⟨rfl, ⟨nd, rfl⟩⟩; refine ⟨_, rfl, ?_⟩) | ((with_reducible refine gate_callee (f := 24) rfl ?_); refine goesL_ (some 8) rfl rfl Tryd.func24 (by kernel_rfl) rfl #[.int .u32 a0, .int .i64 25, .int .i64 7] rfl (by (try simp only [List.map_toArray, List.map_cons, List.map_nil]); first | done | rfl | (simp only [List.length_drop, List.length_take]; rfl)) ?_; (with_reducible refine (rv_field.calls a0 25 7 t102 _ A3.out).mono ?_); rintro e w' ⟨rfl, ⟨nd, rfl⟩⟩; refine ⟨_, rfl, ?_⟩) | ((with_reducible refine gate_callee (f := 45) rfl ?_); refine goesL_ (some 50) rfl rfl Tryd.func45 (by kernel_rfl) rfl #[.int .u32 a0] rfl (by (try simp only [List.map_toArray, List.map_cons, List.map_nil]); first | done | rfl | (simp only [List.length_drop, List.length_take]; rfl)) ?_; (with_reducible refine (rv_system.calls a0 t109 _ A22.out).mono ?_); rintro e w' ⟨rfl, ⟨nd, rfl⟩⟩; refine ⟨_, rfl, ?_⟩))
                        go_ret
                        exact ⟨by first | rfl | (simp; done) | (simp [*]; done), by repeat (first | exact Drawn0.refl _ | apply Drawn0.step)⟩
                    · rw [if_neg c20] at H
                      have c20b0 : ((Go.bits .and .u32 a0 127) == 15) = false := beq_eq_false_iff_ne.mpr c20
                      have c20b1 : ((Go.bits .and .u32 a0 127) != 15) = true := bne_iff_ne.mpr c20
                      replace H := Option.bind_eq_some_iff.mp H
                      obtain ⟨t110, A230, H⟩ := H
                      replace H : (some t110) = some r := H
                      have A23 := Aside0.mk A230
                      clear A230
                      obtain rfl := Option.some.inj H
                      go_enter Tryd.func23, Tryd.ntmps23
                      go_wp2_with (first | ((with_reducible refine gate_callee (f := 24) rfl ?_); refine goesL_ (some 6) rfl rfl Tryd.func24 (by kernel_rfl) rfl #[.int .u32 a0, .int .i64 12, .int .i64 3] rfl (by (try simp only [List.map_toArray, List.map_cons, List.map_nil]); first | done | rfl | (simp only [List.length_drop, List.length_take]; rfl)) ?_; (with_reducible refine (rv_field.calls a0 12 3 t101 _ A2.out).mono ?_); rintro e w' ⟨rfl, ⟨nd, rfl⟩⟩; refine ⟨_, rfl, ?_⟩) | ((with_reducible refine gate_callee (f := 24) rfl ?_); refine goesL_ (some 8) rfl rfl Tryd.func24 (by kernel_rfl) rfl #[.int .u32 a0, .int .i64 25, .int .i64 7] rfl (by (try simp only [List.map_toArray, List.map_cons, List.map_nil]); first | done | rfl | (simp only [List.length_drop, List.length_take]; rfl)) ?_; (with_reducible refine (rv_field.calls a0 25 7 t102 _ A3.out).mono ?_); rintro e w' ⟨rfl, ⟨nd, rfl⟩⟩; refine ⟨_, rfl, ?_⟩) | ((with_reducible refine gate_callee (f := 45) rfl ?_); refine goesL_ (some 50) rfl rfl Tryd.func45 (by kernel_rfl) rfl #[.int .u32 a0] rfl (by (try simp only [List.map_toArray, List.map_cons, List.map_nil]); first | done | rfl | (simp only [List.length_drop, List.length_take]; rfl)) ?_; (with_reducible refine (rv_system.calls a0 t110 _ A23.out).mono ?_); rintro e w' ⟨rfl, ⟨nd, rfl⟩⟩; refine ⟨_, rfl, ?_⟩))
                      go_ret
                      exact ⟨by first | rfl | (simp; done) | (simp [*]; done), by repeat (first | exact Drawn0.refl _ | apply Drawn0.step)⟩
/-! ### rv_immJ: function 25 -/
def rv_immJ.f (a0 : Int) : Option (Int) := (rv_field.f a0 12 8).bind fun t111 => ((rv_field.f a0 20 1).bind fun t112 => ((rv_field.f a0 21 10).bind fun t113 => (some (Go.bits .or .i32 (wrap32 (((wrap32 (a0)) / 2147483648) * 1048576)) (wrap32 (Go.bits .or .i64 (Go.bits .or .i64 (wrap64 (t111 * 4096)) (wrap64 (t112 * 2048))) (wrap64 (t113 * 2))))))))
set_option maxHeartbeats 8000000 in
set_option maxRecDepth 100000 in
theorem rv_immJ.calls (a0 : Int) (r : Int) (w : World) (h : rv_immJ.f a0 = some r) :
    Calls Tryd.prog 25 #[.int .u32 a0] w fun e w' => e = .returned (.int .i32 r) ∧ Drawn0 w w' := by
  have H : ((rv_field.f a0 12 8).bind fun t111 => ((rv_field.f a0 20 1).bind fun t112 => ((rv_field.f a0 21 10).bind fun t113 => (some (Go.bits .or .i32 (wrap32 (((wrap32 (a0)) / 2147483648) * 1048576)) (wrap32 (Go.bits .or .i64 (Go.bits .or .i64 (wrap64 (t111 * 4096)) (wrap64 (t112 * 2048))) (wrap64 (t113 * 2))))))))) = some r := h
  clear h
  replace H := Option.bind_eq_some_iff.mp H
  obtain ⟨t111, A20, H⟩ := H
  replace H : ((rv_field.f a0 20 1).bind fun t112 => ((rv_field.f a0 21 10).bind fun t113 => (some (Go.bits .or .i32 (wrap32 (((wrap32 (a0)) / 2147483648) * 1048576)) (wrap32 (Go.bits .or .i64 (Go.bits .or .i64 (wrap64 (t111 * 4096)) (wrap64 (t112 * 2048))) (wrap64 (t113 * 2)))))))) = some r := H
  have A2 := Aside0.mk A20
  clear A20
  replace H := Option.bind_eq_some_iff.mp H
  obtain ⟨t112, A30, H⟩ := H
  replace H : ((rv_field.f a0 21 10).bind fun t113 => (some (Go.bits .or .i32 (wrap32 (((wrap32 (a0)) / 2147483648) * 1048576)) (wrap32 (Go.bits .or .i64 (Go.bits .or .i64 (wrap64 (t111 * 4096)) (wrap64 (t112 * 2048))) (wrap64 (t113 * 2))))))) = some r := H
  have A3 := Aside0.mk A30
  clear A30
  replace H := Option.bind_eq_some_iff.mp H
  obtain ⟨t113, A40, H⟩ := H
  replace H : (some (Go.bits .or .i32 (wrap32 (((wrap32 (a0)) / 2147483648) * 1048576)) (wrap32 (Go.bits .or .i64 (Go.bits .or .i64 (wrap64 (t111 * 4096)) (wrap64 (t112 * 2048))) (wrap64 (t113 * 2)))))) = some r := H
  have A4 := Aside0.mk A40
  clear A40
  obtain rfl := Option.some.inj H
  go_enter Tryd.func25, Tryd.ntmps25
  go_wp2_with (first | ((with_reducible refine gate_callee (f := 24) rfl ?_); refine goesL_ (some 8) rfl rfl Tryd.func24 (by kernel_rfl) rfl #[.int .u32 a0, .int .i64 12, .int .i64 8] rfl (by (try simp only [List.map_toArray, List.map_cons, List.map_nil]); first | done | rfl | (simp only [List.length_drop, List.length_take]; rfl)) ?_; (with_reducible refine (rv_field.calls a0 12 8 t111 _ A2.out).mono ?_); rintro e w' ⟨rfl, ⟨nd, rfl⟩⟩; refine ⟨_, rfl, ?_⟩) | ((with_reducible refine gate_callee (f := 24) rfl ?_); refine goesL_ (some 11) rfl rfl Tryd.func24 (by kernel_rfl) rfl #[.int .u32 a0, .int .i64 20, .int .i64 1] rfl (by (try simp only [List.map_toArray, List.map_cons, List.map_nil]); first | done | rfl | (simp only [List.length_drop, List.length_take]; rfl)) ?_; (with_reducible refine (rv_field.calls a0 20 1 t112 _ A3.out).mono ?_); rintro e w' ⟨rfl, ⟨nd, rfl⟩⟩; refine ⟨_, rfl, ?_⟩) | ((with_reducible refine gate_callee (f := 24) rfl ?_); refine goesL_ (some 15) rfl rfl Tryd.func24 (by kernel_rfl) rfl #[.int .u32 a0, .int .i64 21, .int .i64 10] rfl (by (try simp only [List.map_toArray, List.map_cons, List.map_nil]); first | done | rfl | (simp only [List.length_drop, List.length_take]; rfl)) ?_; (with_reducible refine (rv_field.calls a0 21 10 t113 _ A4.out).mono ?_); rintro e w' ⟨rfl, ⟨nd, rfl⟩⟩; refine ⟨_, rfl, ?_⟩))
  go_ret
  exact ⟨by first | rfl | (simp; done) | (simp [*]; done), by repeat (first | exact Drawn0.refl _ | apply Drawn0.step)⟩
/-! ### rv_immB: function 26 -/
def rv_immB.f (a0 : Int) : Option (Int) := (rv_field.f a0 7 1).bind fun t114 => ((rv_field.f a0 25 6).bind fun t115 => ((rv_field.f a0 8 4).bind fun t116 => (some (Go.bits .or .i32 (wrap32 (((wrap32 (a0)) / 2147483648) * 4096)) (wrap32 (Go.bits .or .i64 (Go.bits .or .i64 (wrap64 (t114 * 2048)) (wrap64 (t115 * 32))) (wrap64 (t116 * 2))))))))
set_option maxHeartbeats 8000000 in
set_option maxRecDepth 100000 in
theorem rv_immB.calls (a0 : Int) (r : Int) (w : World) (h : rv_immB.f a0 = some r) :
    Calls Tryd.prog 26 #[.int .u32 a0] w fun e w' => e = .returned (.int .i32 r) ∧ Drawn0 w w' := by
  have H : ((rv_field.f a0 7 1).bind fun t114 => ((rv_field.f a0 25 6).bind fun t115 => ((rv_field.f a0 8 4).bind fun t116 => (some (Go.bits .or .i32 (wrap32 (((wrap32 (a0)) / 2147483648) * 4096)) (wrap32 (Go.bits .or .i64 (Go.bits .or .i64 (wrap64 (t114 * 2048)) (wrap64 (t115 * 32))) (wrap64 (t116 * 2))))))))) = some r := h
  clear h
  replace H := Option.bind_eq_some_iff.mp H
  obtain ⟨t114, A20, H⟩ := H
  replace H : ((rv_field.f a0 25 6).bind fun t115 => ((rv_field.f a0 8 4).bind fun t116 => (some (Go.bits .or .i32 (wrap32 (((wrap32 (a0)) / 2147483648) * 4096)) (wrap32 (Go.bits .or .i64 (Go.bits .or .i64 (wrap64 (t114 * 2048)) (wrap64 (t115 * 32))) (wrap64 (t116 * 2)))))))) = some r := H
  have A2 := Aside0.mk A20
  clear A20
  replace H := Option.bind_eq_some_iff.mp H
  obtain ⟨t115, A30, H⟩ := H
  replace H : ((rv_field.f a0 8 4).bind fun t116 => (some (Go.bits .or .i32 (wrap32 (((wrap32 (a0)) / 2147483648) * 4096)) (wrap32 (Go.bits .or .i64 (Go.bits .or .i64 (wrap64 (t114 * 2048)) (wrap64 (t115 * 32))) (wrap64 (t116 * 2))))))) = some r := H
  have A3 := Aside0.mk A30
  clear A30
  replace H := Option.bind_eq_some_iff.mp H
  obtain ⟨t116, A40, H⟩ := H
  replace H : (some (Go.bits .or .i32 (wrap32 (((wrap32 (a0)) / 2147483648) * 4096)) (wrap32 (Go.bits .or .i64 (Go.bits .or .i64 (wrap64 (t114 * 2048)) (wrap64 (t115 * 32))) (wrap64 (t116 * 2)))))) = some r := H
  have A4 := Aside0.mk A40
  clear A40
  obtain rfl := Option.some.inj H
  go_enter Tryd.func26, Tryd.ntmps26
  go_wp2_with (first | ((with_reducible refine gate_callee (f := 24) rfl ?_); refine goesL_ (some 8) rfl rfl Tryd.func24 (by kernel_rfl) rfl #[.int .u32 a0, .int .i64 7, .int .i64 1] rfl (by (try simp only [List.map_toArray, List.map_cons, List.map_nil]); first | done | rfl | (simp only [List.length_drop, List.length_take]; rfl)) ?_; (with_reducible refine (rv_field.calls a0 7 1 t114 _ A2.out).mono ?_); rintro e w' ⟨rfl, ⟨nd, rfl⟩⟩; refine ⟨_, rfl, ?_⟩) | ((with_reducible refine gate_callee (f := 24) rfl ?_); refine goesL_ (some 11) rfl rfl Tryd.func24 (by kernel_rfl) rfl #[.int .u32 a0, .int .i64 25, .int .i64 6] rfl (by (try simp only [List.map_toArray, List.map_cons, List.map_nil]); first | done | rfl | (simp only [List.length_drop, List.length_take]; rfl)) ?_; (with_reducible refine (rv_field.calls a0 25 6 t115 _ A3.out).mono ?_); rintro e w' ⟨rfl, ⟨nd, rfl⟩⟩; refine ⟨_, rfl, ?_⟩) | ((with_reducible refine gate_callee (f := 24) rfl ?_); refine goesL_ (some 15) rfl rfl Tryd.func24 (by kernel_rfl) rfl #[.int .u32 a0, .int .i64 8, .int .i64 4] rfl (by (try simp only [List.map_toArray, List.map_cons, List.map_nil]); first | done | rfl | (simp only [List.length_drop, List.length_take]; rfl)) ?_; (with_reducible refine (rv_field.calls a0 8 4 t116 _ A4.out).mono ?_); rintro e w' ⟨rfl, ⟨nd, rfl⟩⟩; refine ⟨_, rfl, ?_⟩))
  go_ret
  exact ⟨by first | rfl | (simp; done) | (simp [*]; done), by repeat (first | exact Drawn0.refl _ | apply Drawn0.step)⟩
/-! ### rv_immS: function 27 -/
def rv_immS.f (a0 : Int) : Option (Int) := (rv_field.f a0 7 5).bind fun t117 => (some (Go.bits .or .i32 (wrap32 (((wrap32 (a0)) / 33554432) * 32)) (wrap32 (t117))))
set_option maxHeartbeats 8000000 in
set_option maxRecDepth 100000 in
theorem rv_immS.calls (a0 : Int) (r : Int) (w : World) (h : rv_immS.f a0 = some r) :
    Calls Tryd.prog 27 #[.int .u32 a0] w fun e w' => e = .returned (.int .i32 r) ∧ Drawn0 w w' := by
  have H : ((rv_field.f a0 7 5).bind fun t117 => (some (Go.bits .or .i32 (wrap32 (((wrap32 (a0)) / 33554432) * 32)) (wrap32 (t117))))) = some r := h
  clear h
  replace H := Option.bind_eq_some_iff.mp H
  obtain ⟨t117, A20, H⟩ := H
  replace H : (some (Go.bits .or .i32 (wrap32 (((wrap32 (a0)) / 33554432) * 32)) (wrap32 (t117)))) = some r := H
  have A2 := Aside0.mk A20
  clear A20
  obtain rfl := Option.some.inj H
  go_enter Tryd.func27, Tryd.ntmps27
  go_wp2_with (first | ((with_reducible refine gate_callee (f := 24) rfl ?_); refine goesL_ (some 8) rfl rfl Tryd.func24 (by kernel_rfl) rfl #[.int .u32 a0, .int .i64 7, .int .i64 5] rfl (by (try simp only [List.map_toArray, List.map_cons, List.map_nil]); first | done | rfl | (simp only [List.length_drop, List.length_take]; rfl)) ?_; (with_reducible refine (rv_field.calls a0 7 5 t117 _ A2.out).mono ?_); rintro e w' ⟨rfl, ⟨nd, rfl⟩⟩; refine ⟨_, rfl, ?_⟩))
  go_ret
  exact ⟨by first | rfl | (simp; done) | (simp [*]; done), by repeat (first | exact Drawn0.refl _ | apply Drawn0.step)⟩
/-! ### rv_immI: function 28 -/
def rv_immI.f (a0 : Int) : Option (Int) := some ((wrap32 (a0)) / 1048576)
set_option maxHeartbeats 8000000 in
set_option maxRecDepth 100000 in
theorem rv_immI.calls (a0 : Int) (r : Int) (w : World) (h : rv_immI.f a0 = some r) :
    Calls Tryd.prog 28 #[.int .u32 a0] w fun e w' => e = .returned (.int .i32 r) ∧ Drawn0 w w' := by
  have H : (some ((wrap32 (a0)) / 1048576)) = some r := h
  clear h
  obtain rfl := Option.some.inj H
  go_enter Tryd.func28, Tryd.ntmps28
  go_wp2
  go_ret
  exact ⟨by first | rfl | (simp; done) | (simp [*]; done), by repeat (first | exact Drawn0.refl _ | apply Drawn0.step)⟩
end Go.Proofs.YtmgbidehdnmjkaaDoor.Rv
