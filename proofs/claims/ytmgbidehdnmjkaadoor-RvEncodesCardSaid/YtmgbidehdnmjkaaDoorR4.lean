/- What whole, regs, code, place, bits answer (its lines began as print.sh's). -/
import Derived.Test.YtmgbidehdnmjkaaDoorR0
namespace Go.Proofs.YtmgbidehdnmjkaaDoor.Rv
open Go.RowKit Go.Proofs.YtmgbidehdnmjkaaDoorW.PrintWords Go.Proofs.YtmgbidehdnmjkaaDoorW.PrintLast Go.Proofs.YtmgbidehdnmjkaaDoorW.PrintMore
attribute [local go_sem] max2_int min2_int max_two min_two max_three min_three max_four min_four   -- for this text's walks alone
set_option linter.unusedVariables false
set_option linter.unusedSimpArgs false
/-! ### rv_whole: function 31 -/
def rv_whole.f (a0 : Int) : Option (Int × Bool) := if a0 = 46 then (some (267386895, true)) else (if a0 = 47 then (some (4111, true)) else (if a0 = 48 then (some (115, true)) else (if a0 = 49 then (some (1048691, true)) else (some (0, false)))))
set_option maxHeartbeats 8000000 in
set_option maxRecDepth 100000 in
theorem rv_whole.calls (a0 : Int) (r1 : Int) (r2 : Bool) (w : World) (h : rv_whole.f a0 = some (r1, r2)) :
    Calls Tryd.prog 31 #[.int .i64 a0] w fun e w' => e = .returned (.tuple #[.int .u32 r1, .bool r2]) ∧ Drawn0 w w' := by
  have H : (if a0 = 46 then (some (267386895, true)) else (if a0 = 47 then (some (4111, true)) else (if a0 = 48 then (some (115, true)) else (if a0 = 49 then (some (1048691, true)) else (some (0, false)))))) = some (r1, r2) := h
  clear h
  by_cases c2 : a0 = 46
  · rw [if_pos c2] at H
    have c2b0 : (a0 == 46) = true := beq_iff_eq.mpr c2
    have c2b1 : (a0 != 46) = false := bne_eq_false_iff_eq.mpr c2
    clear c2
    simp only [Option.some.injEq, Prod.mk.injEq] at H
    obtain ⟨rfl, rfl⟩ := H
    go_enter Tryd.func31, Tryd.ntmps31
    go_wp2
    go_ret2
    exact ⟨by first | rfl | (simp; done) | (simp [*]; done), by repeat (first | exact Drawn0.refl _ | apply Drawn0.step)⟩
  · rw [if_neg c2] at H
    have c2b0 : (a0 == 46) = false := beq_eq_false_iff_ne.mpr c2
    have c2b1 : (a0 != 46) = true := bne_iff_ne.mpr c2
    by_cases c3 : a0 = 47
    · rw [if_pos c3] at H
      have c3b0 : (a0 == 47) = true := beq_iff_eq.mpr c3
      have c3b1 : (a0 != 47) = false := bne_eq_false_iff_eq.mpr c3
      clear c3
      simp only [Option.some.injEq, Prod.mk.injEq] at H
      obtain ⟨rfl, rfl⟩ := H
      go_enter Tryd.func31, Tryd.ntmps31
      go_wp2
      go_ret2
      exact ⟨by first | rfl | (simp; done) | (simp [*]; done), by repeat (first | exact Drawn0.refl _ | apply Drawn0.step)⟩
    · rw [if_neg c3] at H
      have c3b0 : (a0 == 47) = false := beq_eq_false_iff_ne.mpr c3
      have c3b1 : (a0 != 47) = true := bne_iff_ne.mpr c3
      by_cases c4 : a0 = 48
      · rw [if_pos c4] at H
        have c4b0 : (a0 == 48) = true := beq_iff_eq.mpr c4
        have c4b1 : (a0 != 48) = false := bne_eq_false_iff_eq.mpr c4
        clear c4
        simp only [Option.some.injEq, Prod.mk.injEq] at H
        obtain ⟨rfl, rfl⟩ := H
        go_enter Tryd.func31, Tryd.ntmps31
        go_wp2
        go_ret2
        exact ⟨by first | rfl | (simp; done) | (simp [*]; done), by repeat (first | exact Drawn0.refl _ | apply Drawn0.step)⟩
      · rw [if_neg c4] at H
        have c4b0 : (a0 == 48) = false := beq_eq_false_iff_ne.mpr c4
        have c4b1 : (a0 != 48) = true := bne_iff_ne.mpr c4
        by_cases c5 : a0 = 49
        · rw [if_pos c5] at H
          have c5b0 : (a0 == 49) = true := beq_iff_eq.mpr c5
          have c5b1 : (a0 != 49) = false := bne_eq_false_iff_eq.mpr c5
          clear c5
          simp only [Option.some.injEq, Prod.mk.injEq] at H
          obtain ⟨rfl, rfl⟩ := H
          go_enter Tryd.func31, Tryd.ntmps31
          go_wp2
          go_ret2
          exact ⟨by first | rfl | (simp; done) | (simp [*]; done), by repeat (first | exact Drawn0.refl _ | apply Drawn0.step)⟩
        · rw [if_neg c5] at H
          have c5b0 : (a0 == 49) = false := beq_eq_false_iff_ne.mpr c5
          have c5b1 : (a0 != 49) = true := bne_iff_ne.mpr c5
          simp only [Option.some.injEq, Prod.mk.injEq] at H
          obtain ⟨rfl, rfl⟩ := H
          go_enter Tryd.func31, Tryd.ntmps31
          go_wp2
          go_ret2
          exact ⟨by first | rfl | (simp; done) | (simp [*]; done), by repeat (first | exact Drawn0.refl _ | apply Drawn0.step)⟩
/-! ### rv_regs: function 32 -/
def rv_regs.l0 : Nat → List Int → Int → Int → Option (Bool)
  | 0, _, _, _ => none
  | k + 1, x5, x6, x7 => if x7 < x6 then (if 0 ≤ x7 then (if x7 < (x5.length : Int) then (if (rd x5 x7) < 0 then (some false) else (if (rd x5 x7) > 31 then (some false) else (rv_regs.l0 k x5 x6 (wrap64 (x7 + 1))))) else (none)) else (none)) else (some true)
def rv_regs.f (k : Nat) (l0 : List Int) : Option (Bool) := rv_regs.l0 k l0 (l0.length : Int) 0
theorem rv_regs.mono_l : ∀ k, (∀ y0 y1 y2, LeO (rv_regs.l0 k y0 y1 y2) (rv_regs.l0 (k + 1) y0 y1 y2))
  | 0 => fun _ _ _ r h => by simp [rv_regs.l0] at h
  | k + 1 => by
    have ih0 := rv_regs.mono_l k
    · intro y0 y1 y2
      unfold rv_regs.l0
      repeat' first
      | (with_reducible exact ih0 _ _ _)
      | (with_reducible exact LeO.refl _)
      | (with_reducible exact LeO.none _)
      | (with_reducible refine LeO.ite ?_ ?_)
      | (with_reducible refine LeO.bind ?_ (fun _ => ?_))
      | exact ih0 _ _ _
      | exact LeO.none _
      | refine LeO.ite ?_ ?_
      | refine LeO.bind ?_ (fun _ => ?_)
theorem rv_regs.mono : ∀ a0 k, LeO (rv_regs.f k a0) (rv_regs.f (k + 1) a0) := by
  intro a0 k
  have ih0 := rv_regs.mono_l k
  unfold rv_regs.f
  repeat' first
      | (with_reducible exact ih0 _ _ _)
      | (with_reducible exact LeO.refl _)
      | (with_reducible exact LeO.none _)
      | (with_reducible refine LeO.ite ?_ ?_)
      | (with_reducible refine LeO.bind ?_ (fun _ => ?_))
      | exact ih0 _ _ _
      | exact LeO.none _
      | refine LeO.ite ?_ ?_
      | refine LeO.bind ?_ (fun _ => ?_)
set_option maxHeartbeats 8000000 in
set_option maxRecDepth 100000 in
theorem rv_regs.calls (k : Nat) (A0 : Option Addr) (c0 : Nat) (l0 : List Int) (r : Bool) (w : World) (hr0 : Kd.C (Kd.int .i64) w A0 l0.length l0) (hc0 : l0.length ≤ c0) (h : rv_regs.f k l0 = some r) :
    Calls Tryd.prog 32 #[.slice A0 l0.length c0] w fun e w' => e = .returned (.bool r) ∧ Drawn0 w w' := by
  have HR0 := Aside0.mk hr0
  have HC0 := Aside0.mk hc0
  clear hr0 hc0
  have H : (rv_regs.l0 k l0 (l0.length : Int) 0) = some r := h
  clear h
  have H' := Aside0.mk H
  clear H
  go_enter Tryd.func32, Tryd.ntmps32
  go_wp2
  go_loopg [7] k (fun kq v7 w' => ∃ (x7_1 : Int), v7 = .int .i64 x7_1 ∧ Aside0 (rv_regs.l0 kq l0 (l0.length : Int) x7_1 = some r) ∧ Aside0 (kq ≤ k) ∧ Drawn0 w w')
  case atStart => exact ⟨(0), (by first | rfl | (simp; done) | (simp [*]; done)), H', ⟨Nat.le_refl _⟩, by repeat (first | exact Drawn0.refl _ | apply Drawn0.step)⟩
  case round =>
    clear H'
    obtain ⟨x7_1, rfl, HA, HK1, ⟨m1, rfl⟩⟩ := hrel
    cases gk with
    | zero => exact absurd HA.out (by simp [rv_regs.l0])
    | succ k1 =>
      have H := HA.out
      clear HA
      simp only [rv_regs.l0] at H
      by_cases c2 : x7_1 < (l0.length : Int)
      · rw [if_pos c2] at H
        have c2b0 : decide (x7_1 < (l0.length : Int)) = true := decide_eq_true c2
        clear c2
        by_cases c3 : 0 ≤ x7_1
        · rw [if_pos c3] at H
          have c3b0 : decide (0 ≤ x7_1) = true := decide_eq_true c3
          clear c3
          by_cases c4 : x7_1 < (l0.length : Int)
          · rw [if_pos c4] at H
            have c4b0 : decide (x7_1 < (l0.length : Int)) = true := decide_eq_true c4
            clear c4
            by_cases c5 : (rd l0 x7_1) < 0
            · rw [if_pos c5] at H
              have c5b0 : decide ((rd l0 x7_1) < 0) = true := decide_eq_true c5
              clear c5
              obtain rfl := Option.some.inj H
              have p128 : 0 ≤ (x7_1 : Int) := of_decide_eq_true (by first | (with_reducible assumption) | assumption)
              have q128 : x7_1 < (l0.length : Int) := of_decide_eq_true (by first | (with_reducible assumption) | assumption)
              obtain ⟨ad128, e128, hx128_0⟩ := Kd.at_int HR0.out x7_1 p128 q128
              cases e128
              replace p128 := eq_true p128
              replace q128 := eq_true q128
              go_wp2
              go_ret
              exact ⟨by first | rfl | (simp; done) | (simp [*]; done), by repeat (first | exact Drawn0.refl _ | apply Drawn0.step)⟩
            · rw [if_neg c5] at H
              have c5b0 : decide ((rd l0 x7_1) < 0) = false := decide_eq_false c5
              clear c5
              by_cases c6 : (rd l0 x7_1) > 31
              · rw [if_pos c6] at H
                have c6b0 : decide (31 < (rd l0 x7_1)) = true := decide_eq_true c6
                clear c6
                obtain rfl := Option.some.inj H
                have p128 : 0 ≤ (x7_1 : Int) := of_decide_eq_true (by first | (with_reducible assumption) | assumption)
                have q128 : x7_1 < (l0.length : Int) := of_decide_eq_true (by first | (with_reducible assumption) | assumption)
                obtain ⟨ad128, e128, hx128_0⟩ := Kd.at_int HR0.out x7_1 p128 q128
                cases e128
                replace p128 := eq_true p128
                replace q128 := eq_true q128
                go_wp2
                go_ret
                exact ⟨by first | rfl | (simp; done) | (simp [*]; done), by repeat (first | exact Drawn0.refl _ | apply Drawn0.step)⟩
              · rw [if_neg c6] at H
                have c6b0 : decide (31 < (rd l0 x7_1)) = false := decide_eq_false c6
                clear c6
                have H' := Aside0.mk H
                clear H
                have p128 : 0 ≤ (x7_1 : Int) := of_decide_eq_true (by first | (with_reducible assumption) | assumption)
                have q128 : x7_1 < (l0.length : Int) := of_decide_eq_true (by first | (with_reducible assumption) | assumption)
                obtain ⟨ad128, e128, hx128_0⟩ := Kd.at_int HR0.out x7_1 p128 q128
                cases e128
                replace p128 := eq_true p128
                replace q128 := eq_true q128
                go_wp2
                go_roundg k1
                case measure => have := HK1.out; omega
                case rel => exact ⟨(wrap64 (x7_1 + 1)), (by first | rfl | (simp; done) | (simp [*]; done)), H', ⟨by have := HK1.out; omega⟩, by repeat (first | exact Drawn0.refl _ | apply Drawn0.step)⟩
          · rw [if_neg c4] at H
            exact absurd H (by simp)
        · rw [if_neg c3] at H
          exact absurd H (by simp)
      · rw [if_neg c2] at H
        have c2b0 : decide (x7_1 < (l0.length : Int)) = false := decide_eq_false c2
        clear c2
        obtain rfl := Option.some.inj H
        go_wp2
        go_ret
        exact ⟨by first | rfl | (simp; done) | (simp [*]; done), by repeat (first | exact Drawn0.refl _ | apply Drawn0.step)⟩
/-! ### rv_code: function 33 -/
def codeL : List (Int × Int × Int) := [(55, 0, 0), (23, 0, 0), (111, 0, 0), (103, 0, 0), (99, 0, 0), (99, 1, 0), (99, 4, 0), (99, 5, 0), (99, 6, 0), (99, 7, 0), (3, 0, 0), (3, 1, 0), (3, 2, 0), (3, 4, 0), (3, 5, 0), (35, 0, 0), (35, 1, 0), (35, 2, 0), (19, 0, 0), (19, 2, 0), (19, 3, 0), (19, 4, 0), (19, 6, 0), (19, 7, 0), (19, 1, 0), (19, 5, 0), (19, 5, 32), (51, 0, 0), (51, 0, 32), (51, 1, 0), (51, 2, 0), (51, 3, 0), (51, 4, 0), (51, 5, 0), (51, 5, 32), (51, 6, 0), (51, 7, 0), (51, 0, 1), (51, 1, 1), (51, 2, 1), (51, 3, 1), (51, 4, 1), (51, 5, 1), (51, 6, 1), (51, 7, 1)]
def rv_code.f (a0 : Int) : Option (Int × Int × Int) := if 1 ≤ a0 ∧ a0 ≤ 45 then some (codeL.getD (a0.toNat - 1) (0, 0, 0)) else none
set_option maxRecDepth 100000 in
set_option maxHeartbeats 4000000 in
theorem code_1 (w : World) : Calls Tryd.prog 33 #[.int .i64 1] w fun e w' => e = .returned (.tuple #[.int .i64 55, .int .i64 0, .int .i64 0]) ∧ Drawn0 w w' := by
  go_enter Tryd.func33, Tryd.ntmps33
  go_wp2
  go_ret3
  exact ⟨rfl, by repeat (first | exact Drawn0.refl _ | exact ⟨⟨_, rfl⟩⟩ | apply Drawn0.step)⟩
set_option maxRecDepth 100000 in
set_option maxHeartbeats 4000000 in
theorem code_2 (w : World) : Calls Tryd.prog 33 #[.int .i64 2] w fun e w' => e = .returned (.tuple #[.int .i64 23, .int .i64 0, .int .i64 0]) ∧ Drawn0 w w' := by
  go_enter Tryd.func33, Tryd.ntmps33
  go_wp2
  go_ret3
  exact ⟨rfl, by repeat (first | exact Drawn0.refl _ | exact ⟨⟨_, rfl⟩⟩ | apply Drawn0.step)⟩
set_option maxRecDepth 100000 in
set_option maxHeartbeats 4000000 in
theorem code_3 (w : World) : Calls Tryd.prog 33 #[.int .i64 3] w fun e w' => e = .returned (.tuple #[.int .i64 111, .int .i64 0, .int .i64 0]) ∧ Drawn0 w w' := by
  go_enter Tryd.func33, Tryd.ntmps33
  go_wp2
  go_ret3
  exact ⟨rfl, by repeat (first | exact Drawn0.refl _ | exact ⟨⟨_, rfl⟩⟩ | apply Drawn0.step)⟩
set_option maxRecDepth 100000 in
set_option maxHeartbeats 4000000 in
theorem code_4 (w : World) : Calls Tryd.prog 33 #[.int .i64 4] w fun e w' => e = .returned (.tuple #[.int .i64 103, .int .i64 0, .int .i64 0]) ∧ Drawn0 w w' := by
  go_enter Tryd.func33, Tryd.ntmps33
  go_wp2
  go_ret3
  exact ⟨rfl, by repeat (first | exact Drawn0.refl _ | exact ⟨⟨_, rfl⟩⟩ | apply Drawn0.step)⟩
set_option maxRecDepth 100000 in
set_option maxHeartbeats 4000000 in
theorem code_5 (w : World) : Calls Tryd.prog 33 #[.int .i64 5] w fun e w' => e = .returned (.tuple #[.int .i64 99, .int .i64 0, .int .i64 0]) ∧ Drawn0 w w' := by
  have hk : IntKind.i64.wrap (0 : Int) = 0 := by decide
  have hi0 : ∀ w : World, (Instr.index 67 (.agg #[.int .i64 0, .int .i64 1, .int .i64 4, .int .i64 5, .int .i64 6, .int .i64 7]) (.int .i64 0)).run Tryd.prog w = .ok (.int .i64 0) w := fun _ => by kernel_rfl
  go_enter Tryd.func33, Tryd.ntmps33
  go_wp2
  go_quiet (fail)
  go_wp2
  go_ret3
  exact ⟨rfl, by repeat (first | exact Drawn0.refl _ | exact ⟨⟨_, rfl⟩⟩ | apply Drawn0.step)⟩
set_option maxRecDepth 100000 in
set_option maxHeartbeats 4000000 in
theorem code_6 (w : World) : Calls Tryd.prog 33 #[.int .i64 6] w fun e w' => e = .returned (.tuple #[.int .i64 99, .int .i64 1, .int .i64 0]) ∧ Drawn0 w w' := by
  have hk : IntKind.i64.wrap (1 : Int) = 1 := by decide
  have hi0 : ∀ w : World, (Instr.index 67 (.agg #[.int .i64 0, .int .i64 1, .int .i64 4, .int .i64 5, .int .i64 6, .int .i64 7]) (.int .i64 1)).run Tryd.prog w = .ok (.int .i64 1) w := fun _ => by kernel_rfl
  go_enter Tryd.func33, Tryd.ntmps33
  go_wp2
  go_quiet (fail)
  go_wp2
  go_ret3
  exact ⟨rfl, by repeat (first | exact Drawn0.refl _ | exact ⟨⟨_, rfl⟩⟩ | apply Drawn0.step)⟩
set_option maxRecDepth 100000 in
set_option maxHeartbeats 4000000 in
theorem code_7 (w : World) : Calls Tryd.prog 33 #[.int .i64 7] w fun e w' => e = .returned (.tuple #[.int .i64 99, .int .i64 4, .int .i64 0]) ∧ Drawn0 w w' := by
  have hk : IntKind.i64.wrap (2 : Int) = 2 := by decide
  have hi0 : ∀ w : World, (Instr.index 67 (.agg #[.int .i64 0, .int .i64 1, .int .i64 4, .int .i64 5, .int .i64 6, .int .i64 7]) (.int .i64 2)).run Tryd.prog w = .ok (.int .i64 4) w := fun _ => by kernel_rfl
  go_enter Tryd.func33, Tryd.ntmps33
  go_wp2
  go_quiet (fail)
  go_wp2
  go_ret3
  exact ⟨rfl, by repeat (first | exact Drawn0.refl _ | exact ⟨⟨_, rfl⟩⟩ | apply Drawn0.step)⟩
set_option maxRecDepth 100000 in
set_option maxHeartbeats 4000000 in
theorem code_8 (w : World) : Calls Tryd.prog 33 #[.int .i64 8] w fun e w' => e = .returned (.tuple #[.int .i64 99, .int .i64 5, .int .i64 0]) ∧ Drawn0 w w' := by
  have hk : IntKind.i64.wrap (3 : Int) = 3 := by decide
  have hi0 : ∀ w : World, (Instr.index 67 (.agg #[.int .i64 0, .int .i64 1, .int .i64 4, .int .i64 5, .int .i64 6, .int .i64 7]) (.int .i64 3)).run Tryd.prog w = .ok (.int .i64 5) w := fun _ => by kernel_rfl
  go_enter Tryd.func33, Tryd.ntmps33
  go_wp2
  go_quiet (fail)
  go_wp2
  go_ret3
  exact ⟨rfl, by repeat (first | exact Drawn0.refl _ | exact ⟨⟨_, rfl⟩⟩ | apply Drawn0.step)⟩
set_option maxRecDepth 100000 in
set_option maxHeartbeats 4000000 in
theorem code_9 (w : World) : Calls Tryd.prog 33 #[.int .i64 9] w fun e w' => e = .returned (.tuple #[.int .i64 99, .int .i64 6, .int .i64 0]) ∧ Drawn0 w w' := by
  have hk : IntKind.i64.wrap (4 : Int) = 4 := by decide
  have hi0 : ∀ w : World, (Instr.index 67 (.agg #[.int .i64 0, .int .i64 1, .int .i64 4, .int .i64 5, .int .i64 6, .int .i64 7]) (.int .i64 4)).run Tryd.prog w = .ok (.int .i64 6) w := fun _ => by kernel_rfl
  go_enter Tryd.func33, Tryd.ntmps33
  go_wp2
  go_quiet (fail)
  go_wp2
  go_ret3
  exact ⟨rfl, by repeat (first | exact Drawn0.refl _ | exact ⟨⟨_, rfl⟩⟩ | apply Drawn0.step)⟩
set_option maxRecDepth 100000 in
set_option maxHeartbeats 4000000 in
theorem code_10 (w : World) : Calls Tryd.prog 33 #[.int .i64 10] w fun e w' => e = .returned (.tuple #[.int .i64 99, .int .i64 7, .int .i64 0]) ∧ Drawn0 w w' := by
  have hk : IntKind.i64.wrap (5 : Int) = 5 := by decide
  have hi0 : ∀ w : World, (Instr.index 67 (.agg #[.int .i64 0, .int .i64 1, .int .i64 4, .int .i64 5, .int .i64 6, .int .i64 7]) (.int .i64 5)).run Tryd.prog w = .ok (.int .i64 7) w := fun _ => by kernel_rfl
  go_enter Tryd.func33, Tryd.ntmps33
  go_wp2
  go_quiet (fail)
  go_wp2
  go_ret3
  exact ⟨rfl, by repeat (first | exact Drawn0.refl _ | exact ⟨⟨_, rfl⟩⟩ | apply Drawn0.step)⟩
set_option maxRecDepth 100000 in
set_option maxHeartbeats 4000000 in
theorem code_11 (w : World) : Calls Tryd.prog 33 #[.int .i64 11] w fun e w' => e = .returned (.tuple #[.int .i64 3, .int .i64 0, .int .i64 0]) ∧ Drawn0 w w' := by
  have hk : IntKind.i64.wrap (0 : Int) = 0 := by decide
  have hi0 : ∀ w : World, (Instr.index 68 (.agg #[.int .i64 0, .int .i64 1, .int .i64 2, .int .i64 4, .int .i64 5]) (.int .i64 0)).run Tryd.prog w = .ok (.int .i64 0) w := fun _ => by kernel_rfl
  go_enter Tryd.func33, Tryd.ntmps33
  go_wp2
  go_quiet (fail)
  go_wp2
  go_ret3
  exact ⟨rfl, by repeat (first | exact Drawn0.refl _ | exact ⟨⟨_, rfl⟩⟩ | apply Drawn0.step)⟩
set_option maxRecDepth 100000 in
set_option maxHeartbeats 4000000 in
theorem code_12 (w : World) : Calls Tryd.prog 33 #[.int .i64 12] w fun e w' => e = .returned (.tuple #[.int .i64 3, .int .i64 1, .int .i64 0]) ∧ Drawn0 w w' := by
  have hk : IntKind.i64.wrap (1 : Int) = 1 := by decide
  have hi0 : ∀ w : World, (Instr.index 68 (.agg #[.int .i64 0, .int .i64 1, .int .i64 2, .int .i64 4, .int .i64 5]) (.int .i64 1)).run Tryd.prog w = .ok (.int .i64 1) w := fun _ => by kernel_rfl
  go_enter Tryd.func33, Tryd.ntmps33
  go_wp2
  go_quiet (fail)
  go_wp2
  go_ret3
  exact ⟨rfl, by repeat (first | exact Drawn0.refl _ | exact ⟨⟨_, rfl⟩⟩ | apply Drawn0.step)⟩
set_option maxRecDepth 100000 in
set_option maxHeartbeats 4000000 in
theorem code_13 (w : World) : Calls Tryd.prog 33 #[.int .i64 13] w fun e w' => e = .returned (.tuple #[.int .i64 3, .int .i64 2, .int .i64 0]) ∧ Drawn0 w w' := by
  have hk : IntKind.i64.wrap (2 : Int) = 2 := by decide
  have hi0 : ∀ w : World, (Instr.index 68 (.agg #[.int .i64 0, .int .i64 1, .int .i64 2, .int .i64 4, .int .i64 5]) (.int .i64 2)).run Tryd.prog w = .ok (.int .i64 2) w := fun _ => by kernel_rfl
  go_enter Tryd.func33, Tryd.ntmps33
  go_wp2
  go_quiet (fail)
  go_wp2
  go_ret3
  exact ⟨rfl, by repeat (first | exact Drawn0.refl _ | exact ⟨⟨_, rfl⟩⟩ | apply Drawn0.step)⟩
set_option maxRecDepth 100000 in
set_option maxHeartbeats 4000000 in
theorem code_14 (w : World) : Calls Tryd.prog 33 #[.int .i64 14] w fun e w' => e = .returned (.tuple #[.int .i64 3, .int .i64 4, .int .i64 0]) ∧ Drawn0 w w' := by
  have hk : IntKind.i64.wrap (3 : Int) = 3 := by decide
  have hi0 : ∀ w : World, (Instr.index 68 (.agg #[.int .i64 0, .int .i64 1, .int .i64 2, .int .i64 4, .int .i64 5]) (.int .i64 3)).run Tryd.prog w = .ok (.int .i64 4) w := fun _ => by kernel_rfl
  go_enter Tryd.func33, Tryd.ntmps33
  go_wp2
  go_quiet (fail)
  go_wp2
  go_ret3
  exact ⟨rfl, by repeat (first | exact Drawn0.refl _ | exact ⟨⟨_, rfl⟩⟩ | apply Drawn0.step)⟩
set_option maxRecDepth 100000 in
set_option maxHeartbeats 4000000 in
theorem code_15 (w : World) : Calls Tryd.prog 33 #[.int .i64 15] w fun e w' => e = .returned (.tuple #[.int .i64 3, .int .i64 5, .int .i64 0]) ∧ Drawn0 w w' := by
  have hk : IntKind.i64.wrap (4 : Int) = 4 := by decide
  have hi0 : ∀ w : World, (Instr.index 68 (.agg #[.int .i64 0, .int .i64 1, .int .i64 2, .int .i64 4, .int .i64 5]) (.int .i64 4)).run Tryd.prog w = .ok (.int .i64 5) w := fun _ => by kernel_rfl
  go_enter Tryd.func33, Tryd.ntmps33
  go_wp2
  go_quiet (fail)
  go_wp2
  go_ret3
  exact ⟨rfl, by repeat (first | exact Drawn0.refl _ | exact ⟨⟨_, rfl⟩⟩ | apply Drawn0.step)⟩
set_option maxRecDepth 100000 in
set_option maxHeartbeats 4000000 in
theorem code_16 (w : World) : Calls Tryd.prog 33 #[.int .i64 16] w fun e w' => e = .returned (.tuple #[.int .i64 35, .int .i64 0, .int .i64 0]) ∧ Drawn0 w w' := by
  go_enter Tryd.func33, Tryd.ntmps33
  go_wp2
  go_ret3
  exact ⟨rfl, by repeat (first | exact Drawn0.refl _ | exact ⟨⟨_, rfl⟩⟩ | apply Drawn0.step)⟩
set_option maxRecDepth 100000 in
set_option maxHeartbeats 4000000 in
theorem code_17 (w : World) : Calls Tryd.prog 33 #[.int .i64 17] w fun e w' => e = .returned (.tuple #[.int .i64 35, .int .i64 1, .int .i64 0]) ∧ Drawn0 w w' := by
  go_enter Tryd.func33, Tryd.ntmps33
  go_wp2
  go_ret3
  exact ⟨rfl, by repeat (first | exact Drawn0.refl _ | exact ⟨⟨_, rfl⟩⟩ | apply Drawn0.step)⟩
set_option maxRecDepth 100000 in
set_option maxHeartbeats 4000000 in
theorem code_18 (w : World) : Calls Tryd.prog 33 #[.int .i64 18] w fun e w' => e = .returned (.tuple #[.int .i64 35, .int .i64 2, .int .i64 0]) ∧ Drawn0 w w' := by
  go_enter Tryd.func33, Tryd.ntmps33
  go_wp2
  go_ret3
  exact ⟨rfl, by repeat (first | exact Drawn0.refl _ | exact ⟨⟨_, rfl⟩⟩ | apply Drawn0.step)⟩
set_option maxRecDepth 100000 in
set_option maxHeartbeats 4000000 in
theorem code_19 (w : World) : Calls Tryd.prog 33 #[.int .i64 19] w fun e w' => e = .returned (.tuple #[.int .i64 19, .int .i64 0, .int .i64 0]) ∧ Drawn0 w w' := by
  have hk : IntKind.i64.wrap (0 : Int) = 0 := by decide
  have hi0 : ∀ w : World, (Instr.index 67 (.agg #[.int .i64 0, .int .i64 2, .int .i64 3, .int .i64 4, .int .i64 6, .int .i64 7]) (.int .i64 0)).run Tryd.prog w = .ok (.int .i64 0) w := fun _ => by kernel_rfl
  go_enter Tryd.func33, Tryd.ntmps33
  go_wp2
  go_quiet (fail)
  go_wp2
  go_ret3
  exact ⟨rfl, by repeat (first | exact Drawn0.refl _ | exact ⟨⟨_, rfl⟩⟩ | apply Drawn0.step)⟩
set_option maxRecDepth 100000 in
set_option maxHeartbeats 4000000 in
theorem code_20 (w : World) : Calls Tryd.prog 33 #[.int .i64 20] w fun e w' => e = .returned (.tuple #[.int .i64 19, .int .i64 2, .int .i64 0]) ∧ Drawn0 w w' := by
  have hk : IntKind.i64.wrap (1 : Int) = 1 := by decide
  have hi0 : ∀ w : World, (Instr.index 67 (.agg #[.int .i64 0, .int .i64 2, .int .i64 3, .int .i64 4, .int .i64 6, .int .i64 7]) (.int .i64 1)).run Tryd.prog w = .ok (.int .i64 2) w := fun _ => by kernel_rfl
  go_enter Tryd.func33, Tryd.ntmps33
  go_wp2
  go_quiet (fail)
  go_wp2
  go_ret3
  exact ⟨rfl, by repeat (first | exact Drawn0.refl _ | exact ⟨⟨_, rfl⟩⟩ | apply Drawn0.step)⟩
set_option maxRecDepth 100000 in
set_option maxHeartbeats 4000000 in
theorem code_21 (w : World) : Calls Tryd.prog 33 #[.int .i64 21] w fun e w' => e = .returned (.tuple #[.int .i64 19, .int .i64 3, .int .i64 0]) ∧ Drawn0 w w' := by
  have hk : IntKind.i64.wrap (2 : Int) = 2 := by decide
  have hi0 : ∀ w : World, (Instr.index 67 (.agg #[.int .i64 0, .int .i64 2, .int .i64 3, .int .i64 4, .int .i64 6, .int .i64 7]) (.int .i64 2)).run Tryd.prog w = .ok (.int .i64 3) w := fun _ => by kernel_rfl
  go_enter Tryd.func33, Tryd.ntmps33
  go_wp2
  go_quiet (fail)
  go_wp2
  go_ret3
  exact ⟨rfl, by repeat (first | exact Drawn0.refl _ | exact ⟨⟨_, rfl⟩⟩ | apply Drawn0.step)⟩
set_option maxRecDepth 100000 in
set_option maxHeartbeats 4000000 in
theorem code_22 (w : World) : Calls Tryd.prog 33 #[.int .i64 22] w fun e w' => e = .returned (.tuple #[.int .i64 19, .int .i64 4, .int .i64 0]) ∧ Drawn0 w w' := by
  have hk : IntKind.i64.wrap (3 : Int) = 3 := by decide
  have hi0 : ∀ w : World, (Instr.index 67 (.agg #[.int .i64 0, .int .i64 2, .int .i64 3, .int .i64 4, .int .i64 6, .int .i64 7]) (.int .i64 3)).run Tryd.prog w = .ok (.int .i64 4) w := fun _ => by kernel_rfl
  go_enter Tryd.func33, Tryd.ntmps33
  go_wp2
  go_quiet (fail)
  go_wp2
  go_ret3
  exact ⟨rfl, by repeat (first | exact Drawn0.refl _ | exact ⟨⟨_, rfl⟩⟩ | apply Drawn0.step)⟩
set_option maxRecDepth 100000 in
set_option maxHeartbeats 4000000 in
theorem code_23 (w : World) : Calls Tryd.prog 33 #[.int .i64 23] w fun e w' => e = .returned (.tuple #[.int .i64 19, .int .i64 6, .int .i64 0]) ∧ Drawn0 w w' := by
  have hk : IntKind.i64.wrap (4 : Int) = 4 := by decide
  have hi0 : ∀ w : World, (Instr.index 67 (.agg #[.int .i64 0, .int .i64 2, .int .i64 3, .int .i64 4, .int .i64 6, .int .i64 7]) (.int .i64 4)).run Tryd.prog w = .ok (.int .i64 6) w := fun _ => by kernel_rfl
  go_enter Tryd.func33, Tryd.ntmps33
  go_wp2
  go_quiet (fail)
  go_wp2
  go_ret3
  exact ⟨rfl, by repeat (first | exact Drawn0.refl _ | exact ⟨⟨_, rfl⟩⟩ | apply Drawn0.step)⟩
set_option maxRecDepth 100000 in
set_option maxHeartbeats 4000000 in
theorem code_24 (w : World) : Calls Tryd.prog 33 #[.int .i64 24] w fun e w' => e = .returned (.tuple #[.int .i64 19, .int .i64 7, .int .i64 0]) ∧ Drawn0 w w' := by
  have hk : IntKind.i64.wrap (5 : Int) = 5 := by decide
  have hi0 : ∀ w : World, (Instr.index 67 (.agg #[.int .i64 0, .int .i64 2, .int .i64 3, .int .i64 4, .int .i64 6, .int .i64 7]) (.int .i64 5)).run Tryd.prog w = .ok (.int .i64 7) w := fun _ => by kernel_rfl
  go_enter Tryd.func33, Tryd.ntmps33
  go_wp2
  go_quiet (fail)
  go_wp2
  go_ret3
  exact ⟨rfl, by repeat (first | exact Drawn0.refl _ | exact ⟨⟨_, rfl⟩⟩ | apply Drawn0.step)⟩
set_option maxRecDepth 100000 in
set_option maxHeartbeats 4000000 in
theorem code_25 (w : World) : Calls Tryd.prog 33 #[.int .i64 25] w fun e w' => e = .returned (.tuple #[.int .i64 19, .int .i64 1, .int .i64 0]) ∧ Drawn0 w w' := by
  have hk : IntKind.i64.wrap (0 : Int) = 0 := by decide
  have hi0 : ∀ w : World, (Instr.index 69 (.agg #[.int .i64 1, .int .i64 5, .int .i64 5]) (.int .i64 0)).run Tryd.prog w = .ok (.int .i64 1) w := fun _ => by kernel_rfl
  have hi1 : ∀ w : World, (Instr.index 69 (.agg #[.int .i64 0, .int .i64 0, .int .i64 32]) (.int .i64 0)).run Tryd.prog w = .ok (.int .i64 0) w := fun _ => by kernel_rfl
  go_enter Tryd.func33, Tryd.ntmps33
  go_wp2
  go_quiet (fail)
  go_wp2
  go_ret3
  exact ⟨rfl, by repeat (first | exact Drawn0.refl _ | exact ⟨⟨_, rfl⟩⟩ | apply Drawn0.step)⟩
set_option maxRecDepth 100000 in
set_option maxHeartbeats 4000000 in
theorem code_26 (w : World) : Calls Tryd.prog 33 #[.int .i64 26] w fun e w' => e = .returned (.tuple #[.int .i64 19, .int .i64 5, .int .i64 0]) ∧ Drawn0 w w' := by
  have hk : IntKind.i64.wrap (1 : Int) = 1 := by decide
  have hi0 : ∀ w : World, (Instr.index 69 (.agg #[.int .i64 1, .int .i64 5, .int .i64 5]) (.int .i64 1)).run Tryd.prog w = .ok (.int .i64 5) w := fun _ => by kernel_rfl
  have hi1 : ∀ w : World, (Instr.index 69 (.agg #[.int .i64 0, .int .i64 0, .int .i64 32]) (.int .i64 1)).run Tryd.prog w = .ok (.int .i64 0) w := fun _ => by kernel_rfl
  go_enter Tryd.func33, Tryd.ntmps33
  go_wp2
  go_quiet (fail)
  go_wp2
  go_ret3
  exact ⟨rfl, by repeat (first | exact Drawn0.refl _ | exact ⟨⟨_, rfl⟩⟩ | apply Drawn0.step)⟩
set_option maxRecDepth 100000 in
set_option maxHeartbeats 4000000 in
theorem code_27 (w : World) : Calls Tryd.prog 33 #[.int .i64 27] w fun e w' => e = .returned (.tuple #[.int .i64 19, .int .i64 5, .int .i64 32]) ∧ Drawn0 w w' := by
  have hk : IntKind.i64.wrap (2 : Int) = 2 := by decide
  have hi0 : ∀ w : World, (Instr.index 69 (.agg #[.int .i64 1, .int .i64 5, .int .i64 5]) (.int .i64 2)).run Tryd.prog w = .ok (.int .i64 5) w := fun _ => by kernel_rfl
  have hi1 : ∀ w : World, (Instr.index 69 (.agg #[.int .i64 0, .int .i64 0, .int .i64 32]) (.int .i64 2)).run Tryd.prog w = .ok (.int .i64 32) w := fun _ => by kernel_rfl
  go_enter Tryd.func33, Tryd.ntmps33
  go_wp2
  go_quiet (fail)
  go_wp2
  go_ret3
  exact ⟨rfl, by repeat (first | exact Drawn0.refl _ | exact ⟨⟨_, rfl⟩⟩ | apply Drawn0.step)⟩
set_option maxRecDepth 100000 in
set_option maxHeartbeats 4000000 in
theorem code_28 (w : World) : Calls Tryd.prog 33 #[.int .i64 28] w fun e w' => e = .returned (.tuple #[.int .i64 51, .int .i64 0, .int .i64 0]) ∧ Drawn0 w w' := by
  have hk : IntKind.i64.wrap (0 : Int) = 0 := by decide
  have hi0 : ∀ w : World, (Instr.index 61 (.agg #[.int .i64 0, .int .i64 0, .int .i64 1, .int .i64 2, .int .i64 3, .int .i64 4, .int .i64 5, .int .i64 5, .int .i64 6, .int .i64 7]) (.int .i64 0)).run Tryd.prog w = .ok (.int .i64 0) w := fun _ => by kernel_rfl
  have hi1 : ∀ w : World, (Instr.index 61 (.agg #[.int .i64 0, .int .i64 32, .int .i64 0, .int .i64 0, .int .i64 0, .int .i64 0, .int .i64 0, .int .i64 32, .int .i64 0, .int .i64 0]) (.int .i64 0)).run Tryd.prog w = .ok (.int .i64 0) w := fun _ => by kernel_rfl
  go_enter Tryd.func33, Tryd.ntmps33
  go_wp2
  go_quiet (fail)
  go_wp2
  go_ret3
  exact ⟨rfl, by repeat (first | exact Drawn0.refl _ | exact ⟨⟨_, rfl⟩⟩ | apply Drawn0.step)⟩
set_option maxRecDepth 100000 in
set_option maxHeartbeats 4000000 in
theorem code_29 (w : World) : Calls Tryd.prog 33 #[.int .i64 29] w fun e w' => e = .returned (.tuple #[.int .i64 51, .int .i64 0, .int .i64 32]) ∧ Drawn0 w w' := by
  have hk : IntKind.i64.wrap (1 : Int) = 1 := by decide
  have hi0 : ∀ w : World, (Instr.index 61 (.agg #[.int .i64 0, .int .i64 0, .int .i64 1, .int .i64 2, .int .i64 3, .int .i64 4, .int .i64 5, .int .i64 5, .int .i64 6, .int .i64 7]) (.int .i64 1)).run Tryd.prog w = .ok (.int .i64 0) w := fun _ => by kernel_rfl
  have hi1 : ∀ w : World, (Instr.index 61 (.agg #[.int .i64 0, .int .i64 32, .int .i64 0, .int .i64 0, .int .i64 0, .int .i64 0, .int .i64 0, .int .i64 32, .int .i64 0, .int .i64 0]) (.int .i64 1)).run Tryd.prog w = .ok (.int .i64 32) w := fun _ => by kernel_rfl
  go_enter Tryd.func33, Tryd.ntmps33
  go_wp2
  go_quiet (fail)
  go_wp2
  go_ret3
  exact ⟨rfl, by repeat (first | exact Drawn0.refl _ | exact ⟨⟨_, rfl⟩⟩ | apply Drawn0.step)⟩
set_option maxRecDepth 100000 in
set_option maxHeartbeats 4000000 in
theorem code_30 (w : World) : Calls Tryd.prog 33 #[.int .i64 30] w fun e w' => e = .returned (.tuple #[.int .i64 51, .int .i64 1, .int .i64 0]) ∧ Drawn0 w w' := by
  have hk : IntKind.i64.wrap (2 : Int) = 2 := by decide
  have hi0 : ∀ w : World, (Instr.index 61 (.agg #[.int .i64 0, .int .i64 0, .int .i64 1, .int .i64 2, .int .i64 3, .int .i64 4, .int .i64 5, .int .i64 5, .int .i64 6, .int .i64 7]) (.int .i64 2)).run Tryd.prog w = .ok (.int .i64 1) w := fun _ => by kernel_rfl
  have hi1 : ∀ w : World, (Instr.index 61 (.agg #[.int .i64 0, .int .i64 32, .int .i64 0, .int .i64 0, .int .i64 0, .int .i64 0, .int .i64 0, .int .i64 32, .int .i64 0, .int .i64 0]) (.int .i64 2)).run Tryd.prog w = .ok (.int .i64 0) w := fun _ => by kernel_rfl
  go_enter Tryd.func33, Tryd.ntmps33
  go_wp2
  go_quiet (fail)
  go_wp2
  go_ret3
  exact ⟨rfl, by repeat (first | exact Drawn0.refl _ | exact ⟨⟨_, rfl⟩⟩ | apply Drawn0.step)⟩
set_option maxRecDepth 100000 in
set_option maxHeartbeats 4000000 in
theorem code_31 (w : World) : Calls Tryd.prog 33 #[.int .i64 31] w fun e w' => e = .returned (.tuple #[.int .i64 51, .int .i64 2, .int .i64 0]) ∧ Drawn0 w w' := by
  have hk : IntKind.i64.wrap (3 : Int) = 3 := by decide
  have hi0 : ∀ w : World, (Instr.index 61 (.agg #[.int .i64 0, .int .i64 0, .int .i64 1, .int .i64 2, .int .i64 3, .int .i64 4, .int .i64 5, .int .i64 5, .int .i64 6, .int .i64 7]) (.int .i64 3)).run Tryd.prog w = .ok (.int .i64 2) w := fun _ => by kernel_rfl
  have hi1 : ∀ w : World, (Instr.index 61 (.agg #[.int .i64 0, .int .i64 32, .int .i64 0, .int .i64 0, .int .i64 0, .int .i64 0, .int .i64 0, .int .i64 32, .int .i64 0, .int .i64 0]) (.int .i64 3)).run Tryd.prog w = .ok (.int .i64 0) w := fun _ => by kernel_rfl
  go_enter Tryd.func33, Tryd.ntmps33
  go_wp2
  go_quiet (fail)
  go_wp2
  go_ret3
  exact ⟨rfl, by repeat (first | exact Drawn0.refl _ | exact ⟨⟨_, rfl⟩⟩ | apply Drawn0.step)⟩
set_option maxRecDepth 100000 in
set_option maxHeartbeats 4000000 in
theorem code_32 (w : World) : Calls Tryd.prog 33 #[.int .i64 32] w fun e w' => e = .returned (.tuple #[.int .i64 51, .int .i64 3, .int .i64 0]) ∧ Drawn0 w w' := by
  have hk : IntKind.i64.wrap (4 : Int) = 4 := by decide
  have hi0 : ∀ w : World, (Instr.index 61 (.agg #[.int .i64 0, .int .i64 0, .int .i64 1, .int .i64 2, .int .i64 3, .int .i64 4, .int .i64 5, .int .i64 5, .int .i64 6, .int .i64 7]) (.int .i64 4)).run Tryd.prog w = .ok (.int .i64 3) w := fun _ => by kernel_rfl
  have hi1 : ∀ w : World, (Instr.index 61 (.agg #[.int .i64 0, .int .i64 32, .int .i64 0, .int .i64 0, .int .i64 0, .int .i64 0, .int .i64 0, .int .i64 32, .int .i64 0, .int .i64 0]) (.int .i64 4)).run Tryd.prog w = .ok (.int .i64 0) w := fun _ => by kernel_rfl
  go_enter Tryd.func33, Tryd.ntmps33
  go_wp2
  go_quiet (fail)
  go_wp2
  go_ret3
  exact ⟨rfl, by repeat (first | exact Drawn0.refl _ | exact ⟨⟨_, rfl⟩⟩ | apply Drawn0.step)⟩
set_option maxRecDepth 100000 in
set_option maxHeartbeats 4000000 in
theorem code_33 (w : World) : Calls Tryd.prog 33 #[.int .i64 33] w fun e w' => e = .returned (.tuple #[.int .i64 51, .int .i64 4, .int .i64 0]) ∧ Drawn0 w w' := by
  have hk : IntKind.i64.wrap (5 : Int) = 5 := by decide
  have hi0 : ∀ w : World, (Instr.index 61 (.agg #[.int .i64 0, .int .i64 0, .int .i64 1, .int .i64 2, .int .i64 3, .int .i64 4, .int .i64 5, .int .i64 5, .int .i64 6, .int .i64 7]) (.int .i64 5)).run Tryd.prog w = .ok (.int .i64 4) w := fun _ => by kernel_rfl
  have hi1 : ∀ w : World, (Instr.index 61 (.agg #[.int .i64 0, .int .i64 32, .int .i64 0, .int .i64 0, .int .i64 0, .int .i64 0, .int .i64 0, .int .i64 32, .int .i64 0, .int .i64 0]) (.int .i64 5)).run Tryd.prog w = .ok (.int .i64 0) w := fun _ => by kernel_rfl
  go_enter Tryd.func33, Tryd.ntmps33
  go_wp2
  go_quiet (fail)
  go_wp2
  go_ret3
  exact ⟨rfl, by repeat (first | exact Drawn0.refl _ | exact ⟨⟨_, rfl⟩⟩ | apply Drawn0.step)⟩
set_option maxRecDepth 100000 in
set_option maxHeartbeats 4000000 in
theorem code_34 (w : World) : Calls Tryd.prog 33 #[.int .i64 34] w fun e w' => e = .returned (.tuple #[.int .i64 51, .int .i64 5, .int .i64 0]) ∧ Drawn0 w w' := by
  have hk : IntKind.i64.wrap (6 : Int) = 6 := by decide
  have hi0 : ∀ w : World, (Instr.index 61 (.agg #[.int .i64 0, .int .i64 0, .int .i64 1, .int .i64 2, .int .i64 3, .int .i64 4, .int .i64 5, .int .i64 5, .int .i64 6, .int .i64 7]) (.int .i64 6)).run Tryd.prog w = .ok (.int .i64 5) w := fun _ => by kernel_rfl
  have hi1 : ∀ w : World, (Instr.index 61 (.agg #[.int .i64 0, .int .i64 32, .int .i64 0, .int .i64 0, .int .i64 0, .int .i64 0, .int .i64 0, .int .i64 32, .int .i64 0, .int .i64 0]) (.int .i64 6)).run Tryd.prog w = .ok (.int .i64 0) w := fun _ => by kernel_rfl
  go_enter Tryd.func33, Tryd.ntmps33
  go_wp2
  go_quiet (fail)
  go_wp2
  go_ret3
  exact ⟨rfl, by repeat (first | exact Drawn0.refl _ | exact ⟨⟨_, rfl⟩⟩ | apply Drawn0.step)⟩
set_option maxRecDepth 100000 in
set_option maxHeartbeats 4000000 in
theorem code_35 (w : World) : Calls Tryd.prog 33 #[.int .i64 35] w fun e w' => e = .returned (.tuple #[.int .i64 51, .int .i64 5, .int .i64 32]) ∧ Drawn0 w w' := by
  have hk : IntKind.i64.wrap (7 : Int) = 7 := by decide
  have hi0 : ∀ w : World, (Instr.index 61 (.agg #[.int .i64 0, .int .i64 0, .int .i64 1, .int .i64 2, .int .i64 3, .int .i64 4, .int .i64 5, .int .i64 5, .int .i64 6, .int .i64 7]) (.int .i64 7)).run Tryd.prog w = .ok (.int .i64 5) w := fun _ => by kernel_rfl
  have hi1 : ∀ w : World, (Instr.index 61 (.agg #[.int .i64 0, .int .i64 32, .int .i64 0, .int .i64 0, .int .i64 0, .int .i64 0, .int .i64 0, .int .i64 32, .int .i64 0, .int .i64 0]) (.int .i64 7)).run Tryd.prog w = .ok (.int .i64 32) w := fun _ => by kernel_rfl
  go_enter Tryd.func33, Tryd.ntmps33
  go_wp2
  go_quiet (fail)
  go_wp2
  go_ret3
  exact ⟨rfl, by repeat (first | exact Drawn0.refl _ | exact ⟨⟨_, rfl⟩⟩ | apply Drawn0.step)⟩
set_option maxRecDepth 100000 in
set_option maxHeartbeats 4000000 in
theorem code_36 (w : World) : Calls Tryd.prog 33 #[.int .i64 36] w fun e w' => e = .returned (.tuple #[.int .i64 51, .int .i64 6, .int .i64 0]) ∧ Drawn0 w w' := by
  have hk : IntKind.i64.wrap (8 : Int) = 8 := by decide
  have hi0 : ∀ w : World, (Instr.index 61 (.agg #[.int .i64 0, .int .i64 0, .int .i64 1, .int .i64 2, .int .i64 3, .int .i64 4, .int .i64 5, .int .i64 5, .int .i64 6, .int .i64 7]) (.int .i64 8)).run Tryd.prog w = .ok (.int .i64 6) w := fun _ => by kernel_rfl
  have hi1 : ∀ w : World, (Instr.index 61 (.agg #[.int .i64 0, .int .i64 32, .int .i64 0, .int .i64 0, .int .i64 0, .int .i64 0, .int .i64 0, .int .i64 32, .int .i64 0, .int .i64 0]) (.int .i64 8)).run Tryd.prog w = .ok (.int .i64 0) w := fun _ => by kernel_rfl
  go_enter Tryd.func33, Tryd.ntmps33
  go_wp2
  go_quiet (fail)
  go_wp2
  go_ret3
  exact ⟨rfl, by repeat (first | exact Drawn0.refl _ | exact ⟨⟨_, rfl⟩⟩ | apply Drawn0.step)⟩
set_option maxRecDepth 100000 in
set_option maxHeartbeats 4000000 in
theorem code_37 (w : World) : Calls Tryd.prog 33 #[.int .i64 37] w fun e w' => e = .returned (.tuple #[.int .i64 51, .int .i64 7, .int .i64 0]) ∧ Drawn0 w w' := by
  have hk : IntKind.i64.wrap (9 : Int) = 9 := by decide
  have hi0 : ∀ w : World, (Instr.index 61 (.agg #[.int .i64 0, .int .i64 0, .int .i64 1, .int .i64 2, .int .i64 3, .int .i64 4, .int .i64 5, .int .i64 5, .int .i64 6, .int .i64 7]) (.int .i64 9)).run Tryd.prog w = .ok (.int .i64 7) w := fun _ => by kernel_rfl
  have hi1 : ∀ w : World, (Instr.index 61 (.agg #[.int .i64 0, .int .i64 32, .int .i64 0, .int .i64 0, .int .i64 0, .int .i64 0, .int .i64 0, .int .i64 32, .int .i64 0, .int .i64 0]) (.int .i64 9)).run Tryd.prog w = .ok (.int .i64 0) w := fun _ => by kernel_rfl
  go_enter Tryd.func33, Tryd.ntmps33
  go_wp2
  go_quiet (fail)
  go_wp2
  go_ret3
  exact ⟨rfl, by repeat (first | exact Drawn0.refl _ | exact ⟨⟨_, rfl⟩⟩ | apply Drawn0.step)⟩
set_option maxRecDepth 100000 in
set_option maxHeartbeats 4000000 in
theorem code_38 (w : World) : Calls Tryd.prog 33 #[.int .i64 38] w fun e w' => e = .returned (.tuple #[.int .i64 51, .int .i64 0, .int .i64 1]) ∧ Drawn0 w w' := by
  go_enter Tryd.func33, Tryd.ntmps33
  go_wp2
  go_ret3
  exact ⟨rfl, by repeat (first | exact Drawn0.refl _ | exact ⟨⟨_, rfl⟩⟩ | apply Drawn0.step)⟩
set_option maxRecDepth 100000 in
set_option maxHeartbeats 4000000 in
theorem code_39 (w : World) : Calls Tryd.prog 33 #[.int .i64 39] w fun e w' => e = .returned (.tuple #[.int .i64 51, .int .i64 1, .int .i64 1]) ∧ Drawn0 w w' := by
  go_enter Tryd.func33, Tryd.ntmps33
  go_wp2
  go_ret3
  exact ⟨rfl, by repeat (first | exact Drawn0.refl _ | exact ⟨⟨_, rfl⟩⟩ | apply Drawn0.step)⟩
set_option maxRecDepth 100000 in
set_option maxHeartbeats 4000000 in
theorem code_40 (w : World) : Calls Tryd.prog 33 #[.int .i64 40] w fun e w' => e = .returned (.tuple #[.int .i64 51, .int .i64 2, .int .i64 1]) ∧ Drawn0 w w' := by
  go_enter Tryd.func33, Tryd.ntmps33
  go_wp2
  go_ret3
  exact ⟨rfl, by repeat (first | exact Drawn0.refl _ | exact ⟨⟨_, rfl⟩⟩ | apply Drawn0.step)⟩
set_option maxRecDepth 100000 in
set_option maxHeartbeats 4000000 in
theorem code_41 (w : World) : Calls Tryd.prog 33 #[.int .i64 41] w fun e w' => e = .returned (.tuple #[.int .i64 51, .int .i64 3, .int .i64 1]) ∧ Drawn0 w w' := by
  go_enter Tryd.func33, Tryd.ntmps33
  go_wp2
  go_ret3
  exact ⟨rfl, by repeat (first | exact Drawn0.refl _ | exact ⟨⟨_, rfl⟩⟩ | apply Drawn0.step)⟩
set_option maxRecDepth 100000 in
set_option maxHeartbeats 4000000 in
theorem code_42 (w : World) : Calls Tryd.prog 33 #[.int .i64 42] w fun e w' => e = .returned (.tuple #[.int .i64 51, .int .i64 4, .int .i64 1]) ∧ Drawn0 w w' := by
  go_enter Tryd.func33, Tryd.ntmps33
  go_wp2
  go_ret3
  exact ⟨rfl, by repeat (first | exact Drawn0.refl _ | exact ⟨⟨_, rfl⟩⟩ | apply Drawn0.step)⟩
set_option maxRecDepth 100000 in
set_option maxHeartbeats 4000000 in
theorem code_43 (w : World) : Calls Tryd.prog 33 #[.int .i64 43] w fun e w' => e = .returned (.tuple #[.int .i64 51, .int .i64 5, .int .i64 1]) ∧ Drawn0 w w' := by
  go_enter Tryd.func33, Tryd.ntmps33
  go_wp2
  go_ret3
  exact ⟨rfl, by repeat (first | exact Drawn0.refl _ | exact ⟨⟨_, rfl⟩⟩ | apply Drawn0.step)⟩
set_option maxRecDepth 100000 in
set_option maxHeartbeats 4000000 in
theorem code_44 (w : World) : Calls Tryd.prog 33 #[.int .i64 44] w fun e w' => e = .returned (.tuple #[.int .i64 51, .int .i64 6, .int .i64 1]) ∧ Drawn0 w w' := by
  go_enter Tryd.func33, Tryd.ntmps33
  go_wp2
  go_ret3
  exact ⟨rfl, by repeat (first | exact Drawn0.refl _ | exact ⟨⟨_, rfl⟩⟩ | apply Drawn0.step)⟩
set_option maxRecDepth 100000 in
set_option maxHeartbeats 4000000 in
theorem code_45 (w : World) : Calls Tryd.prog 33 #[.int .i64 45] w fun e w' => e = .returned (.tuple #[.int .i64 51, .int .i64 7, .int .i64 1]) ∧ Drawn0 w w' := by
  go_enter Tryd.func33, Tryd.ntmps33
  go_wp2
  go_ret3
  exact ⟨rfl, by repeat (first | exact Drawn0.refl _ | exact ⟨⟨_, rfl⟩⟩ | apply Drawn0.step)⟩
theorem rv_code.calls (a0 : Int) (r1 : Int) (r2 : Int) (r3 : Int) (w : World) (h : rv_code.f a0 = some (r1, r2, r3)) :
    Calls Tryd.prog 33 #[.int .i64 a0] w fun e w' => e = .returned (.tuple #[.int .i64 r1, .int .i64 r2, .int .i64 r3]) ∧ Drawn0 w w' := by
  unfold rv_code.f at h
  split at h
  · rename_i hb
    obtain ⟨h0, h1⟩ := hb
    have hc : a0 = 1 ∨ a0 = 2 ∨ a0 = 3 ∨ a0 = 4 ∨ a0 = 5 ∨ a0 = 6 ∨ a0 = 7 ∨ a0 = 8 ∨ a0 = 9 ∨ a0 = 10 ∨ a0 = 11 ∨ a0 = 12 ∨ a0 = 13 ∨ a0 = 14 ∨ a0 = 15 ∨ a0 = 16 ∨ a0 = 17 ∨ a0 = 18 ∨ a0 = 19 ∨ a0 = 20 ∨ a0 = 21 ∨ a0 = 22 ∨ a0 = 23 ∨ a0 = 24 ∨ a0 = 25 ∨ a0 = 26 ∨ a0 = 27 ∨ a0 = 28 ∨ a0 = 29 ∨ a0 = 30 ∨ a0 = 31 ∨ a0 = 32 ∨ a0 = 33 ∨ a0 = 34 ∨ a0 = 35 ∨ a0 = 36 ∨ a0 = 37 ∨ a0 = 38 ∨ a0 = 39 ∨ a0 = 40 ∨ a0 = 41 ∨ a0 = 42 ∨ a0 = 43 ∨ a0 = 44 ∨ a0 = 45 := by omega
    clear h0 h1
    rcases hc with rfl | rfl | rfl | rfl | rfl | rfl | rfl | rfl | rfl | rfl | rfl | rfl | rfl | rfl | rfl | rfl | rfl | rfl | rfl | rfl | rfl | rfl | rfl | rfl | rfl | rfl | rfl | rfl | rfl | rfl | rfl | rfl | rfl | rfl | rfl | rfl | rfl | rfl | rfl | rfl | rfl | rfl | rfl | rfl | rfl
    · obtain ⟨rfl, rfl, rfl⟩ : r1 = 55 ∧ r2 = 0 ∧ r3 = 0 := by have := Option.some.inj h; simp [codeL] at this; omega
      exact code_1 w
    · obtain ⟨rfl, rfl, rfl⟩ : r1 = 23 ∧ r2 = 0 ∧ r3 = 0 := by have := Option.some.inj h; simp [codeL] at this; omega
      exact code_2 w
    · obtain ⟨rfl, rfl, rfl⟩ : r1 = 111 ∧ r2 = 0 ∧ r3 = 0 := by have := Option.some.inj h; simp [codeL] at this; omega
      exact code_3 w
    · obtain ⟨rfl, rfl, rfl⟩ : r1 = 103 ∧ r2 = 0 ∧ r3 = 0 := by have := Option.some.inj h; simp [codeL] at this; omega
      exact code_4 w
    · obtain ⟨rfl, rfl, rfl⟩ : r1 = 99 ∧ r2 = 0 ∧ r3 = 0 := by have := Option.some.inj h; simp [codeL] at this; omega
      exact code_5 w
    · obtain ⟨rfl, rfl, rfl⟩ : r1 = 99 ∧ r2 = 1 ∧ r3 = 0 := by have := Option.some.inj h; simp [codeL] at this; omega
      exact code_6 w
    · obtain ⟨rfl, rfl, rfl⟩ : r1 = 99 ∧ r2 = 4 ∧ r3 = 0 := by have := Option.some.inj h; simp [codeL] at this; omega
      exact code_7 w
    · obtain ⟨rfl, rfl, rfl⟩ : r1 = 99 ∧ r2 = 5 ∧ r3 = 0 := by have := Option.some.inj h; simp [codeL] at this; omega
      exact code_8 w
    · obtain ⟨rfl, rfl, rfl⟩ : r1 = 99 ∧ r2 = 6 ∧ r3 = 0 := by have := Option.some.inj h; simp [codeL] at this; omega
      exact code_9 w
    · obtain ⟨rfl, rfl, rfl⟩ : r1 = 99 ∧ r2 = 7 ∧ r3 = 0 := by have := Option.some.inj h; simp [codeL] at this; omega
      exact code_10 w
    · obtain ⟨rfl, rfl, rfl⟩ : r1 = 3 ∧ r2 = 0 ∧ r3 = 0 := by have := Option.some.inj h; simp [codeL] at this; omega
      exact code_11 w
    · obtain ⟨rfl, rfl, rfl⟩ : r1 = 3 ∧ r2 = 1 ∧ r3 = 0 := by have := Option.some.inj h; simp [codeL] at this; omega
      exact code_12 w
    · obtain ⟨rfl, rfl, rfl⟩ : r1 = 3 ∧ r2 = 2 ∧ r3 = 0 := by have := Option.some.inj h; simp [codeL] at this; omega
      exact code_13 w
    · obtain ⟨rfl, rfl, rfl⟩ : r1 = 3 ∧ r2 = 4 ∧ r3 = 0 := by have := Option.some.inj h; simp [codeL] at this; omega
      exact code_14 w
    · obtain ⟨rfl, rfl, rfl⟩ : r1 = 3 ∧ r2 = 5 ∧ r3 = 0 := by have := Option.some.inj h; simp [codeL] at this; omega
      exact code_15 w
    · obtain ⟨rfl, rfl, rfl⟩ : r1 = 35 ∧ r2 = 0 ∧ r3 = 0 := by have := Option.some.inj h; simp [codeL] at this; omega
      exact code_16 w
    · obtain ⟨rfl, rfl, rfl⟩ : r1 = 35 ∧ r2 = 1 ∧ r3 = 0 := by have := Option.some.inj h; simp [codeL] at this; omega
      exact code_17 w
    · obtain ⟨rfl, rfl, rfl⟩ : r1 = 35 ∧ r2 = 2 ∧ r3 = 0 := by have := Option.some.inj h; simp [codeL] at this; omega
      exact code_18 w
    · obtain ⟨rfl, rfl, rfl⟩ : r1 = 19 ∧ r2 = 0 ∧ r3 = 0 := by have := Option.some.inj h; simp [codeL] at this; omega
      exact code_19 w
    · obtain ⟨rfl, rfl, rfl⟩ : r1 = 19 ∧ r2 = 2 ∧ r3 = 0 := by have := Option.some.inj h; simp [codeL] at this; omega
      exact code_20 w
    · obtain ⟨rfl, rfl, rfl⟩ : r1 = 19 ∧ r2 = 3 ∧ r3 = 0 := by have := Option.some.inj h; simp [codeL] at this; omega
      exact code_21 w
    · obtain ⟨rfl, rfl, rfl⟩ : r1 = 19 ∧ r2 = 4 ∧ r3 = 0 := by have := Option.some.inj h; simp [codeL] at this; omega
      exact code_22 w
    · obtain ⟨rfl, rfl, rfl⟩ : r1 = 19 ∧ r2 = 6 ∧ r3 = 0 := by have := Option.some.inj h; simp [codeL] at this; omega
      exact code_23 w
    · obtain ⟨rfl, rfl, rfl⟩ : r1 = 19 ∧ r2 = 7 ∧ r3 = 0 := by have := Option.some.inj h; simp [codeL] at this; omega
      exact code_24 w
    · obtain ⟨rfl, rfl, rfl⟩ : r1 = 19 ∧ r2 = 1 ∧ r3 = 0 := by have := Option.some.inj h; simp [codeL] at this; omega
      exact code_25 w
    · obtain ⟨rfl, rfl, rfl⟩ : r1 = 19 ∧ r2 = 5 ∧ r3 = 0 := by have := Option.some.inj h; simp [codeL] at this; omega
      exact code_26 w
    · obtain ⟨rfl, rfl, rfl⟩ : r1 = 19 ∧ r2 = 5 ∧ r3 = 32 := by have := Option.some.inj h; simp [codeL] at this; omega
      exact code_27 w
    · obtain ⟨rfl, rfl, rfl⟩ : r1 = 51 ∧ r2 = 0 ∧ r3 = 0 := by have := Option.some.inj h; simp [codeL] at this; omega
      exact code_28 w
    · obtain ⟨rfl, rfl, rfl⟩ : r1 = 51 ∧ r2 = 0 ∧ r3 = 32 := by have := Option.some.inj h; simp [codeL] at this; omega
      exact code_29 w
    · obtain ⟨rfl, rfl, rfl⟩ : r1 = 51 ∧ r2 = 1 ∧ r3 = 0 := by have := Option.some.inj h; simp [codeL] at this; omega
      exact code_30 w
    · obtain ⟨rfl, rfl, rfl⟩ : r1 = 51 ∧ r2 = 2 ∧ r3 = 0 := by have := Option.some.inj h; simp [codeL] at this; omega
      exact code_31 w
    · obtain ⟨rfl, rfl, rfl⟩ : r1 = 51 ∧ r2 = 3 ∧ r3 = 0 := by have := Option.some.inj h; simp [codeL] at this; omega
      exact code_32 w
    · obtain ⟨rfl, rfl, rfl⟩ : r1 = 51 ∧ r2 = 4 ∧ r3 = 0 := by have := Option.some.inj h; simp [codeL] at this; omega
      exact code_33 w
    · obtain ⟨rfl, rfl, rfl⟩ : r1 = 51 ∧ r2 = 5 ∧ r3 = 0 := by have := Option.some.inj h; simp [codeL] at this; omega
      exact code_34 w
    · obtain ⟨rfl, rfl, rfl⟩ : r1 = 51 ∧ r2 = 5 ∧ r3 = 32 := by have := Option.some.inj h; simp [codeL] at this; omega
      exact code_35 w
    · obtain ⟨rfl, rfl, rfl⟩ : r1 = 51 ∧ r2 = 6 ∧ r3 = 0 := by have := Option.some.inj h; simp [codeL] at this; omega
      exact code_36 w
    · obtain ⟨rfl, rfl, rfl⟩ : r1 = 51 ∧ r2 = 7 ∧ r3 = 0 := by have := Option.some.inj h; simp [codeL] at this; omega
      exact code_37 w
    · obtain ⟨rfl, rfl, rfl⟩ : r1 = 51 ∧ r2 = 0 ∧ r3 = 1 := by have := Option.some.inj h; simp [codeL] at this; omega
      exact code_38 w
    · obtain ⟨rfl, rfl, rfl⟩ : r1 = 51 ∧ r2 = 1 ∧ r3 = 1 := by have := Option.some.inj h; simp [codeL] at this; omega
      exact code_39 w
    · obtain ⟨rfl, rfl, rfl⟩ : r1 = 51 ∧ r2 = 2 ∧ r3 = 1 := by have := Option.some.inj h; simp [codeL] at this; omega
      exact code_40 w
    · obtain ⟨rfl, rfl, rfl⟩ : r1 = 51 ∧ r2 = 3 ∧ r3 = 1 := by have := Option.some.inj h; simp [codeL] at this; omega
      exact code_41 w
    · obtain ⟨rfl, rfl, rfl⟩ : r1 = 51 ∧ r2 = 4 ∧ r3 = 1 := by have := Option.some.inj h; simp [codeL] at this; omega
      exact code_42 w
    · obtain ⟨rfl, rfl, rfl⟩ : r1 = 51 ∧ r2 = 5 ∧ r3 = 1 := by have := Option.some.inj h; simp [codeL] at this; omega
      exact code_43 w
    · obtain ⟨rfl, rfl, rfl⟩ : r1 = 51 ∧ r2 = 6 ∧ r3 = 1 := by have := Option.some.inj h; simp [codeL] at this; omega
      exact code_44 w
    · obtain ⟨rfl, rfl, rfl⟩ : r1 = 51 ∧ r2 = 7 ∧ r3 = 1 := by have := Option.some.inj h; simp [codeL] at this; omega
      exact code_45 w
  · cases h
/-! ### rv_place: function 34 -/
def rv_place.f (a0 : Int) (a1 : Int) : Option (Int) := if 0 ≤ a1 then (some (shl .u32 ((a0) % 4294967296) a1)) else (none)
set_option maxHeartbeats 8000000 in
set_option maxRecDepth 100000 in
theorem rv_place.calls (a0 : Int) (a1 : Int) (r : Int) (w : World) (h : rv_place.f a0 a1 = some r) :
    Calls Tryd.prog 34 #[.int .i64 a0, .int .i64 a1] w fun e w' => e = .returned (.int .u32 r) ∧ Drawn0 w w' := by
  have H : (if 0 ≤ a1 then (some (shl .u32 ((a0) % 4294967296) a1)) else (none)) = some r := h
  clear h
  by_cases c3 : 0 ≤ a1
  · rw [if_pos c3] at H
    have c3b0 := eq_true c3
    have c3b1 : decide (0 ≤ a1) = true := decide_eq_true c3
    clear c3
    obtain ⟨ji4, hji4⟩ : ∃ j_ : Int, (shl .u32 ((a0) % 4294967296) a1) = j_ := ⟨_, rfl⟩
    replace H : (some ji4) = some r := by first | (rw [hji4] at H; exact H) | (simp only [hji4] at H ⊢; exact H)
    have hji4_ : (IntKind.u32.wrap (((a0) % 4294967296) * 2 ^ min a1.toNat 32)) = ji4 := hji4
    have hji4z : a1 ≤ 32 → (IntKind.u32.wrap (((a0) % 4294967296) * 2 ^ a1.toNat)) = ji4 := shl_small hji4
    obtain rfl := Option.some.inj H
    go_enter Tryd.func34, Tryd.ntmps34
    go_wp2
    go_ret
    exact ⟨by first | rfl | (simp; done) | (simp only [← hji4] <;> (first | rfl | simp)) | (simp [*]; done), by repeat (first | exact Drawn0.refl _ | apply Drawn0.step)⟩
  · rw [if_neg c3] at H
    exact absurd H (by simp)
/-! ### rv_bits: function 35 -/
mutual
def rv_bits.j0 : Nat → Int → Int → Bool → Option (Int)
  | 0, _, _, _ => none
  | k + 1, x0, x5, x36 => if x36 = true then ((rv_place.f (Go.bits .and .i64 (x5 / 4096) 1) 31).bind fun t133 => ((rv_place.f (Go.bits .and .i64 (x5 / 32) 63) 25).bind fun t134 => ((rv_place.f (Go.bits .and .i64 (x5 / 2) 15) 8).bind fun t135 => ((rv_place.f (Go.bits .and .i64 (x5 / 2048) 1) 7).bind fun t136 => (some (Go.bits .or .u32 (Go.bits .or .u32 (Go.bits .or .u32 t133 t134) t135) t136)))))) else (if x0 ≥ 16 then (rv_bits.j1 k x0 x5 (decide (x0 ≤ 18))) else (rv_bits.j1 k x0 x5 false))
def rv_bits.j1 : Nat → Int → Int → Bool → Option (Int)
  | 0, _, _, _ => none
  | k + 1, x0, x5, x62 => if x62 = true then ((rv_place.f (Go.bits .and .i64 (x5 / 32) 127) 25).bind fun t137 => ((rv_place.f (Go.bits .and .i64 x5 31) 7).bind fun t138 => (some (Go.bits .or .u32 t137 t138)))) else (if x0 ≥ 25 then (rv_bits.j2 k x0 x5 (decide (x0 ≤ 27))) else (rv_bits.j2 k x0 x5 false))
def rv_bits.j2 : Nat → Int → Int → Bool → Option (Int)
  | 0, _, _, _ => none
  | k + 1, x0, x5, x77 => if x77 = true then ((rv_place.f (Go.bits .and .i64 x5 31) 20).bind fun t139 => (some t139)) else (if x0 ≥ 28 then (some 0) else ((rv_place.f (Go.bits .and .i64 x5 4095) 20).bind fun t140 => (some t140)))
end
def rv_bits.f (k : Nat) (a0 : Int) (a1 : Int) : Option (Int) := if a0 ≤ 2 then (some (Go.bits .and .u32 ((a1) % 4294967296) 4294963200)) else (if a0 = 3 then ((rv_place.f (Go.bits .and .i64 ((wrap64 (a1)) / 1048576) 1) 31).bind fun t129 => ((rv_place.f (Go.bits .and .i64 ((wrap64 (a1)) / 2) 1023) 21).bind fun t130 => ((rv_place.f (Go.bits .and .i64 ((wrap64 (a1)) / 2048) 1) 20).bind fun t131 => ((rv_place.f (Go.bits .and .i64 ((wrap64 (a1)) / 4096) 255) 12).bind fun t132 => (some (Go.bits .or .u32 (Go.bits .or .u32 (Go.bits .or .u32 t129 t130) t131) t132)))))) else (if a0 ≥ 5 then (rv_bits.j0 k a0 (wrap64 (a1)) (decide (a0 ≤ 10))) else (rv_bits.j0 k a0 (wrap64 (a1)) false)))
theorem rv_bits.mono_l : ∀ k, (∀ y0 y1 y2, LeO (rv_bits.j0 k y0 y1 y2) (rv_bits.j0 (k + 1) y0 y1 y2)) ∧ (∀ y0 y1 y2, LeO (rv_bits.j1 k y0 y1 y2) (rv_bits.j1 (k + 1) y0 y1 y2)) ∧ (∀ y0 y1 y2, LeO (rv_bits.j2 k y0 y1 y2) (rv_bits.j2 (k + 1) y0 y1 y2))
  | 0 => ⟨fun _ _ _ r h => by simp [rv_bits.j0] at h, fun _ _ _ r h => by simp [rv_bits.j1] at h, fun _ _ _ r h => by simp [rv_bits.j2] at h⟩
  | k + 1 => by
    obtain ⟨ih0, ih1, ih2⟩ := rv_bits.mono_l k
    refine ⟨?_, ?_, ?_⟩
    · intro y0 y1 y2
      unfold rv_bits.j0
      repeat' first
      | (with_reducible exact ih0 _ _ _)
      | (with_reducible exact ih1 _ _ _)
      | (with_reducible exact ih2 _ _ _)
      | (with_reducible exact LeO.refl _)
      | (with_reducible exact LeO.none _)
      | (with_reducible refine LeO.ite ?_ ?_)
      | (with_reducible refine LeO.bind ?_ (fun _ => ?_))
      | exact ih0 _ _ _
      | exact ih1 _ _ _
      | exact ih2 _ _ _
      | exact LeO.none _
      | refine LeO.ite ?_ ?_
      | refine LeO.bind ?_ (fun _ => ?_)
    · intro y0 y1 y2
      unfold rv_bits.j1
      repeat' first
      | (with_reducible exact ih0 _ _ _)
      | (with_reducible exact ih1 _ _ _)
      | (with_reducible exact ih2 _ _ _)
      | (with_reducible exact LeO.refl _)
      | (with_reducible exact LeO.none _)
      | (with_reducible refine LeO.ite ?_ ?_)
      | (with_reducible refine LeO.bind ?_ (fun _ => ?_))
      | exact ih0 _ _ _
      | exact ih1 _ _ _
      | exact ih2 _ _ _
      | exact LeO.none _
      | refine LeO.ite ?_ ?_
      | refine LeO.bind ?_ (fun _ => ?_)
    · intro y0 y1 y2
      unfold rv_bits.j2
      repeat' first
      | (with_reducible exact ih0 _ _ _)
      | (with_reducible exact ih1 _ _ _)
      | (with_reducible exact ih2 _ _ _)
      | (with_reducible exact LeO.refl _)
      | (with_reducible exact LeO.none _)
      | (with_reducible refine LeO.ite ?_ ?_)
      | (with_reducible refine LeO.bind ?_ (fun _ => ?_))
      | exact ih0 _ _ _
      | exact ih1 _ _ _
      | exact ih2 _ _ _
      | exact LeO.none _
      | refine LeO.ite ?_ ?_
      | refine LeO.bind ?_ (fun _ => ?_)
theorem rv_bits.mono : ∀ a0 a1 k, LeO (rv_bits.f k a0 a1) (rv_bits.f (k + 1) a0 a1) := by
  intro a0 a1 k
  obtain ⟨ih0, ih1, ih2⟩ := rv_bits.mono_l k
  unfold rv_bits.f
  repeat' first
      | (with_reducible exact ih0 _ _ _)
      | (with_reducible exact ih1 _ _ _)
      | (with_reducible exact ih2 _ _ _)
      | (with_reducible exact LeO.refl _)
      | (with_reducible exact LeO.none _)
      | (with_reducible refine LeO.ite ?_ ?_)
      | (with_reducible refine LeO.bind ?_ (fun _ => ?_))
      | exact ih0 _ _ _
      | exact ih1 _ _ _
      | exact ih2 _ _ _
      | exact LeO.none _
      | refine LeO.ite ?_ ?_
      | refine LeO.bind ?_ (fun _ => ?_)
set_option maxHeartbeats 8000000 in
set_option maxRecDepth 100000 in
theorem rv_bits.calls (k : Nat) (a0 : Int) (a1 : Int) (r : Int) (w : World) (h : rv_bits.f k a0 a1 = some r) :
    Calls Tryd.prog 35 #[.int .i64 a0, .int .i32 a1] w fun e w' => e = .returned (.int .u32 r) ∧ Drawn0 w w' := by
  have H : (if a0 ≤ 2 then (some (Go.bits .and .u32 ((a1) % 4294967296) 4294963200)) else (if a0 = 3 then ((rv_place.f (Go.bits .and .i64 ((wrap64 (a1)) / 1048576) 1) 31).bind fun t129 => ((rv_place.f (Go.bits .and .i64 ((wrap64 (a1)) / 2) 1023) 21).bind fun t130 => ((rv_place.f (Go.bits .and .i64 ((wrap64 (a1)) / 2048) 1) 20).bind fun t131 => ((rv_place.f (Go.bits .and .i64 ((wrap64 (a1)) / 4096) 255) 12).bind fun t132 => (some (Go.bits .or .u32 (Go.bits .or .u32 (Go.bits .or .u32 t129 t130) t131) t132)))))) else (if a0 ≥ 5 then (rv_bits.j0 k a0 (wrap64 (a1)) (decide (a0 ≤ 10))) else (rv_bits.j0 k a0 (wrap64 (a1)) false)))) = some r := h
  clear h
  by_cases c3 : a0 ≤ 2
  · rw [if_pos c3] at H
    have c3b0 : decide (a0 ≤ 2) = true := decide_eq_true c3
    clear c3
    obtain rfl := Option.some.inj H
    go_enter Tryd.func35, Tryd.ntmps35
    go_wp2
    go_ret
    exact ⟨by first | rfl | (simp; done) | (simp [*]; done), by repeat (first | exact Drawn0.refl _ | apply Drawn0.step)⟩
  · rw [if_neg c3] at H
    have c3b0 : decide (a0 ≤ 2) = false := decide_eq_false c3
    clear c3
    by_cases c4 : a0 = 3
    · rw [if_pos c4] at H
      have c4b0 : (a0 == 3) = true := beq_iff_eq.mpr c4
      have c4b1 : (a0 != 3) = false := bne_eq_false_iff_eq.mpr c4
      clear c4
      replace H := Option.bind_eq_some_iff.mp H
      obtain ⟨t129, A50, H⟩ := H
      replace H : ((rv_place.f (Go.bits .and .i64 ((wrap64 (a1)) / 2) 1023) 21).bind fun t130 => ((rv_place.f (Go.bits .and .i64 ((wrap64 (a1)) / 2048) 1) 20).bind fun t131 => ((rv_place.f (Go.bits .and .i64 ((wrap64 (a1)) / 4096) 255) 12).bind fun t132 => (some (Go.bits .or .u32 (Go.bits .or .u32 (Go.bits .or .u32 t129 t130) t131) t132))))) = some r := H
      have A5 := Aside0.mk A50
      clear A50
      replace H := Option.bind_eq_some_iff.mp H
      obtain ⟨t130, A60, H⟩ := H
      replace H : ((rv_place.f (Go.bits .and .i64 ((wrap64 (a1)) / 2048) 1) 20).bind fun t131 => ((rv_place.f (Go.bits .and .i64 ((wrap64 (a1)) / 4096) 255) 12).bind fun t132 => (some (Go.bits .or .u32 (Go.bits .or .u32 (Go.bits .or .u32 t129 t130) t131) t132)))) = some r := H
      have A6 := Aside0.mk A60
      clear A60
      replace H := Option.bind_eq_some_iff.mp H
      obtain ⟨t131, A70, H⟩ := H
      replace H : ((rv_place.f (Go.bits .and .i64 ((wrap64 (a1)) / 4096) 255) 12).bind fun t132 => (some (Go.bits .or .u32 (Go.bits .or .u32 (Go.bits .or .u32 t129 t130) t131) t132))) = some r := H
      have A7 := Aside0.mk A70
      clear A70
      replace H := Option.bind_eq_some_iff.mp H
      obtain ⟨t132, A80, H⟩ := H
      replace H : (some (Go.bits .or .u32 (Go.bits .or .u32 (Go.bits .or .u32 t129 t130) t131) t132)) = some r := H
      have A8 := Aside0.mk A80
      clear A80
      obtain rfl := Option.some.inj H
      go_enter Tryd.func35, Tryd.ntmps35
      go_wp2_with (first | ((with_reducible refine gate_callee (f := 34) rfl ?_); refine goesL_ (some 20) rfl rfl Tryd.func34 (by kernel_rfl) rfl #[.int .i64 (Go.bits .and .i64 ((wrap64 (a1)) / 1048576) 1), .int .i64 31] rfl (by (try simp only [List.map_toArray, List.map_cons, List.map_nil]); first | done | rfl | (simp only [List.length_drop, List.length_take]; rfl)) ?_; (with_reducible refine (rv_place.calls (Go.bits .and .i64 ((wrap64 (a1)) / 1048576) 1) 31 t129 _ A5.out).mono ?_); rintro e w' ⟨rfl, ⟨nd, rfl⟩⟩; refine ⟨_, rfl, ?_⟩) | ((with_reducible refine gate_callee (f := 34) rfl ?_); refine goesL_ (some 24) rfl rfl Tryd.func34 (by kernel_rfl) rfl #[.int .i64 (Go.bits .and .i64 ((wrap64 (a1)) / 2) 1023), .int .i64 21] rfl (by (try simp only [List.map_toArray, List.map_cons, List.map_nil]); first | done | rfl | (simp only [List.length_drop, List.length_take]; rfl)) ?_; (with_reducible refine (rv_place.calls (Go.bits .and .i64 ((wrap64 (a1)) / 2) 1023) 21 t130 _ A6.out).mono ?_); rintro e w' ⟨rfl, ⟨nd, rfl⟩⟩; refine ⟨_, rfl, ?_⟩) | ((with_reducible refine gate_callee (f := 34) rfl ?_); refine goesL_ (some 29) rfl rfl Tryd.func34 (by kernel_rfl) rfl #[.int .i64 (Go.bits .and .i64 ((wrap64 (a1)) / 2048) 1), .int .i64 20] rfl (by (try simp only [List.map_toArray, List.map_cons, List.map_nil]); first | done | rfl | (simp only [List.length_drop, List.length_take]; rfl)) ?_; (with_reducible refine (rv_place.calls (Go.bits .and .i64 ((wrap64 (a1)) / 2048) 1) 20 t131 _ A7.out).mono ?_); rintro e w' ⟨rfl, ⟨nd, rfl⟩⟩; refine ⟨_, rfl, ?_⟩) | ((with_reducible refine gate_callee (f := 34) rfl ?_); refine goesL_ (some 34) rfl rfl Tryd.func34 (by kernel_rfl) rfl #[.int .i64 (Go.bits .and .i64 ((wrap64 (a1)) / 4096) 255), .int .i64 12] rfl (by (try simp only [List.map_toArray, List.map_cons, List.map_nil]); first | done | rfl | (simp only [List.length_drop, List.length_take]; rfl)) ?_; (with_reducible refine (rv_place.calls (Go.bits .and .i64 ((wrap64 (a1)) / 4096) 255) 12 t132 _ A8.out).mono ?_); rintro e w' ⟨rfl, ⟨nd, rfl⟩⟩; refine ⟨_, rfl, ?_⟩))
      go_ret
      exact ⟨by first | rfl | (simp; done) | (simp [*]; done), by repeat (first | exact Drawn0.refl _ | apply Drawn0.step)⟩
    · rw [if_neg c4] at H
      have c4b0 : (a0 == 3) = false := beq_eq_false_iff_ne.mpr c4
      have c4b1 : (a0 != 3) = true := bne_iff_ne.mpr c4
      have HC9 := Aside0.mk H
      clear H
      go_enter Tryd.func35, Tryd.ntmps35
      go_upto_region 6 with (fail)
      go_cut [36] (fun v36 wc => ∃ (kq : Nat) (x36_8 : Bool), v36 = .bool x36_8 ∧ Aside0 (rv_bits.j0 kq a0 (wrap64 (a1)) x36_8 = some r) ∧ Aside0 (kq ≤ k) ∧ Drawn0 w wc)
      case first =>
        have H := HC9.out
        clear HC9
        by_cases c10 : a0 ≥ 5
        · rw [if_pos c10] at H
          have c10b0 : decide (5 ≤ a0) = true := decide_eq_true c10
          clear c10
          (first | rw [c10b0] | (simp only [i64_w, i32_w]; rw [c10b0]) | skip)
          have H' := Aside0.mk H
          clear H
          go_wp2
          go_meet
          case rel => exact ⟨_, (decide (a0 ≤ 10)), (by first | rfl | (simp; done) | (simp [*]; done)), H', ⟨by first | omega | exact Nat.le_refl _⟩, by repeat (first | exact Drawn0.refl _ | apply Drawn0.step)⟩
        · rw [if_neg c10] at H
          have c10b0 : decide (5 ≤ a0) = false := decide_eq_false c10
          clear c10
          (first | rw [c10b0] | (simp only [i64_w, i32_w]; rw [c10b0]) | skip)
          have H' := Aside0.mk H
          clear H
          go_wp2
          go_meet
          case rel => exact ⟨_, (false), (by first | rfl | (simp; done) | (simp [*]; done)), H', ⟨by first | omega | exact Nat.le_refl _⟩, by repeat (first | exact Drawn0.refl _ | apply Drawn0.step)⟩
      case rest =>
        clear HC9
        try clear c1
        try clear p2
        try clear c3
        try clear c3b0
        try clear c4
        try clear c4b0
        try clear c4b1
        try clear p6
        try clear c10
        try clear c10b0
        obtain ⟨kq, x36_8, rfl, HA, HJ8, ⟨mc8, rfl⟩⟩ := hcut
        cases kq with
        | zero => exact absurd HA.out (by simp [rv_bits.j0])
        | succ kj8 =>
          have H := HA.out
          clear HA
          simp only [rv_bits.j0] at H
          by_cases c11 : x36_8 = true
          · subst c11
            have H1 : ((rv_place.f (Go.bits .and .i64 ((wrap64 (a1)) / 4096) 1) 31).bind fun t133 => ((rv_place.f (Go.bits .and .i64 ((wrap64 (a1)) / 32) 63) 25).bind fun t134 => ((rv_place.f (Go.bits .and .i64 ((wrap64 (a1)) / 2) 15) 8).bind fun t135 => ((rv_place.f (Go.bits .and .i64 ((wrap64 (a1)) / 2048) 1) 7).bind fun t136 => (some (Go.bits .or .u32 (Go.bits .or .u32 (Go.bits .or .u32 t133 t134) t135) t136)))))) = some r := by rw [if_pos rfl] at H; exact H
            clear H
            have H := H1
            clear H1
            replace H := Option.bind_eq_some_iff.mp H
            obtain ⟨t133, A120, H⟩ := H
            replace H : ((rv_place.f (Go.bits .and .i64 ((wrap64 (a1)) / 32) 63) 25).bind fun t134 => ((rv_place.f (Go.bits .and .i64 ((wrap64 (a1)) / 2) 15) 8).bind fun t135 => ((rv_place.f (Go.bits .and .i64 ((wrap64 (a1)) / 2048) 1) 7).bind fun t136 => (some (Go.bits .or .u32 (Go.bits .or .u32 (Go.bits .or .u32 t133 t134) t135) t136))))) = some r := H
            have A12 := Aside0.mk A120
            clear A120
            replace H := Option.bind_eq_some_iff.mp H
            obtain ⟨t134, A130, H⟩ := H
            replace H : ((rv_place.f (Go.bits .and .i64 ((wrap64 (a1)) / 2) 15) 8).bind fun t135 => ((rv_place.f (Go.bits .and .i64 ((wrap64 (a1)) / 2048) 1) 7).bind fun t136 => (some (Go.bits .or .u32 (Go.bits .or .u32 (Go.bits .or .u32 t133 t134) t135) t136)))) = some r := H
            have A13 := Aside0.mk A130
            clear A130
            replace H := Option.bind_eq_some_iff.mp H
            obtain ⟨t135, A140, H⟩ := H
            replace H : ((rv_place.f (Go.bits .and .i64 ((wrap64 (a1)) / 2048) 1) 7).bind fun t136 => (some (Go.bits .or .u32 (Go.bits .or .u32 (Go.bits .or .u32 t133 t134) t135) t136))) = some r := H
            have A14 := Aside0.mk A140
            clear A140
            replace H := Option.bind_eq_some_iff.mp H
            obtain ⟨t136, A150, H⟩ := H
            replace H : (some (Go.bits .or .u32 (Go.bits .or .u32 (Go.bits .or .u32 t133 t134) t135) t136)) = some r := H
            have A15 := Aside0.mk A150
            clear A150
            obtain rfl := Option.some.inj H
            go_wp2_with (first | ((with_reducible refine gate_callee (f := 34) rfl ?_); refine goesL_ (some 46) rfl rfl Tryd.func34 (by kernel_rfl) rfl #[.int .i64 (Go.bits .and .i64 ((wrap64 (a1)) / 4096) 1), .int .i64 31] rfl (by (try simp only [List.map_toArray, List.map_cons, List.map_nil]); first | done | rfl | (simp only [List.length_drop, List.length_take]; rfl)) ?_; (with_reducible refine (rv_place.calls (Go.bits .and .i64 ((wrap64 (a1)) / 4096) 1) 31 t133 _ A12.out).mono ?_); rintro e w' ⟨rfl, ⟨nd, rfl⟩⟩; refine ⟨_, rfl, ?_⟩) | ((with_reducible refine gate_callee (f := 34) rfl ?_); refine goesL_ (some 50) rfl rfl Tryd.func34 (by kernel_rfl) rfl #[.int .i64 (Go.bits .and .i64 ((wrap64 (a1)) / 32) 63), .int .i64 25] rfl (by (try simp only [List.map_toArray, List.map_cons, List.map_nil]); first | done | rfl | (simp only [List.length_drop, List.length_take]; rfl)) ?_; (with_reducible refine (rv_place.calls (Go.bits .and .i64 ((wrap64 (a1)) / 32) 63) 25 t134 _ A13.out).mono ?_); rintro e w' ⟨rfl, ⟨nd, rfl⟩⟩; refine ⟨_, rfl, ?_⟩) | ((with_reducible refine gate_callee (f := 34) rfl ?_); refine goesL_ (some 55) rfl rfl Tryd.func34 (by kernel_rfl) rfl #[.int .i64 (Go.bits .and .i64 ((wrap64 (a1)) / 2) 15), .int .i64 8] rfl (by (try simp only [List.map_toArray, List.map_cons, List.map_nil]); first | done | rfl | (simp only [List.length_drop, List.length_take]; rfl)) ?_; (with_reducible refine (rv_place.calls (Go.bits .and .i64 ((wrap64 (a1)) / 2) 15) 8 t135 _ A14.out).mono ?_); rintro e w' ⟨rfl, ⟨nd, rfl⟩⟩; refine ⟨_, rfl, ?_⟩) | ((with_reducible refine gate_callee (f := 34) rfl ?_); refine goesL_ (some 60) rfl rfl Tryd.func34 (by kernel_rfl) rfl #[.int .i64 (Go.bits .and .i64 ((wrap64 (a1)) / 2048) 1), .int .i64 7] rfl (by (try simp only [List.map_toArray, List.map_cons, List.map_nil]); first | done | rfl | (simp only [List.length_drop, List.length_take]; rfl)) ?_; (with_reducible refine (rv_place.calls (Go.bits .and .i64 ((wrap64 (a1)) / 2048) 1) 7 t136 _ A15.out).mono ?_); rintro e w' ⟨rfl, ⟨nd, rfl⟩⟩; refine ⟨_, rfl, ?_⟩))
            go_ret
            exact ⟨by first | rfl | (simp; done) | (simp [*]; done), by repeat (first | exact Drawn0.refl _ | apply Drawn0.step)⟩
          · replace c11 := Bool.eq_false_iff.mpr c11
            subst c11
            have H1 : (if a0 ≥ 16 then (rv_bits.j1 kj8 a0 (wrap64 (a1)) (decide (a0 ≤ 18))) else (rv_bits.j1 kj8 a0 (wrap64 (a1)) false)) = some r := by rw [if_neg (show ¬ (false = true) by decide)] at H; exact H
            clear H
            have H := H1
            clear H1
            have HC16 := Aside0.mk H
            clear H
            go_upto_region 8 with (fail)
            go_cut [62] (fun v62 wc => ∃ (kq : Nat) (x62_15 : Bool), v62 = .bool x62_15 ∧ Aside0 (rv_bits.j1 kq a0 (wrap64 (a1)) x62_15 = some r) ∧ Aside0 (kq ≤ kj8) ∧ Drawn0 w wc)
            case first =>
              have H := HC16.out
              clear HC16
              by_cases c17 : a0 ≥ 16
              · rw [if_pos c17] at H
                have c17b0 : decide (16 ≤ a0) = true := decide_eq_true c17
                clear c17
                (first | rw [c17b0] | (simp only [i64_w, i32_w]; rw [c17b0]) | skip)
                have H' := Aside0.mk H
                clear H
                go_wp2
                go_meet
                case rel => exact ⟨_, (decide (a0 ≤ 18)), (by first | rfl | (simp; done) | (simp [*]; done)), H', ⟨by have := HJ8.out; first | omega | exact Nat.le_refl _⟩, by repeat (first | exact Drawn0.refl _ | apply Drawn0.step)⟩
              · rw [if_neg c17] at H
                have c17b0 : decide (16 ≤ a0) = false := decide_eq_false c17
                clear c17
                (first | rw [c17b0] | (simp only [i64_w, i32_w]; rw [c17b0]) | skip)
                have H' := Aside0.mk H
                clear H
                go_wp2
                go_meet
                case rel => exact ⟨_, (false), (by first | rfl | (simp; done) | (simp [*]; done)), H', ⟨by have := HJ8.out; first | omega | exact Nat.le_refl _⟩, by repeat (first | exact Drawn0.refl _ | apply Drawn0.step)⟩
            case rest =>
              clear HC16
              try clear c1
              try clear p2
              try clear c3
              try clear c3b0
              try clear c4
              try clear c4b0
              try clear c4b1
              try clear p6
              try clear c8
              try clear c10
              try clear c10b0
              try clear c11
              try clear c17
              try clear c17b0
              try clear p2
              try clear p6
              obtain ⟨kq, x62_15, rfl, HA, HJ15, ⟨mc15, rfl⟩⟩ := hcut
              cases kq with
              | zero => exact absurd HA.out (by simp [rv_bits.j1])
              | succ kj15 =>
                have H := HA.out
                clear HA
                simp only [rv_bits.j1] at H
                by_cases c18 : x62_15 = true
                · subst c18
                  have H1 : ((rv_place.f (Go.bits .and .i64 ((wrap64 (a1)) / 32) 127) 25).bind fun t137 => ((rv_place.f (Go.bits .and .i64 (wrap64 (a1)) 31) 7).bind fun t138 => (some (Go.bits .or .u32 t137 t138)))) = some r := by rw [if_pos rfl] at H; exact H
                  clear H
                  have H := H1
                  clear H1
                  replace H := Option.bind_eq_some_iff.mp H
                  obtain ⟨t137, A190, H⟩ := H
                  replace H : ((rv_place.f (Go.bits .and .i64 (wrap64 (a1)) 31) 7).bind fun t138 => (some (Go.bits .or .u32 t137 t138))) = some r := H
                  have A19 := Aside0.mk A190
                  clear A190
                  replace H := Option.bind_eq_some_iff.mp H
                  obtain ⟨t138, A200, H⟩ := H
                  replace H : (some (Go.bits .or .u32 t137 t138)) = some r := H
                  have A20 := Aside0.mk A200
                  clear A200
                  obtain rfl := Option.some.inj H
                  go_wp2_with (first | ((with_reducible refine gate_callee (f := 34) rfl ?_); refine goesL_ (some 72) rfl rfl Tryd.func34 (by kernel_rfl) rfl #[.int .i64 (Go.bits .and .i64 ((wrap64 (a1)) / 32) 127), .int .i64 25] rfl (by (try simp only [List.map_toArray, List.map_cons, List.map_nil]); first | done | rfl | (simp only [List.length_drop, List.length_take]; rfl)) ?_; (with_reducible refine (rv_place.calls (Go.bits .and .i64 ((wrap64 (a1)) / 32) 127) 25 t137 _ A19.out).mono ?_); rintro e w' ⟨rfl, ⟨nd, rfl⟩⟩; refine ⟨_, rfl, ?_⟩) | ((with_reducible refine gate_callee (f := 34) rfl ?_); refine goesL_ (some 75) rfl rfl Tryd.func34 (by kernel_rfl) rfl #[.int .i64 (Go.bits .and .i64 (wrap64 (a1)) 31), .int .i64 7] rfl (by (try simp only [List.map_toArray, List.map_cons, List.map_nil]); first | done | rfl | (simp only [List.length_drop, List.length_take]; rfl)) ?_; (with_reducible refine (rv_place.calls (Go.bits .and .i64 (wrap64 (a1)) 31) 7 t138 _ A20.out).mono ?_); rintro e w' ⟨rfl, ⟨nd, rfl⟩⟩; refine ⟨_, rfl, ?_⟩))
                  go_ret
                  exact ⟨by first | rfl | (simp; done) | (simp [*]; done), by repeat (first | exact Drawn0.refl _ | apply Drawn0.step)⟩
                · replace c18 := Bool.eq_false_iff.mpr c18
                  subst c18
                  have H1 : (if a0 ≥ 25 then (rv_bits.j2 kj15 a0 (wrap64 (a1)) (decide (a0 ≤ 27))) else (rv_bits.j2 kj15 a0 (wrap64 (a1)) false)) = some r := by rw [if_neg (show ¬ (false = true) by decide)] at H; exact H
                  clear H
                  have H := H1
                  clear H1
                  have HC21 := Aside0.mk H
                  clear H
                  go_upto_region 10 with (fail)
                  go_cut [77] (fun v77 wc => ∃ (kq : Nat) (x77_20 : Bool), v77 = .bool x77_20 ∧ Aside0 (rv_bits.j2 kq a0 (wrap64 (a1)) x77_20 = some r) ∧ Aside0 (kq ≤ kj15) ∧ Drawn0 w wc)
                  case first =>
                    have H := HC21.out
                    clear HC21
                    by_cases c22 : a0 ≥ 25
                    · rw [if_pos c22] at H
                      have c22b0 : decide (25 ≤ a0) = true := decide_eq_true c22
                      clear c22
                      (first | rw [c22b0] | (simp only [i64_w, i32_w]; rw [c22b0]) | skip)
                      have H' := Aside0.mk H
                      clear H
                      go_wp2
                      go_meet
                      case rel => exact ⟨_, (decide (a0 ≤ 27)), (by first | rfl | (simp; done) | (simp [*]; done)), H', ⟨by have := HJ8.out; have := HJ15.out; first | omega | exact Nat.le_refl _⟩, by repeat (first | exact Drawn0.refl _ | apply Drawn0.step)⟩
                    · rw [if_neg c22] at H
                      have c22b0 : decide (25 ≤ a0) = false := decide_eq_false c22
                      clear c22
                      (first | rw [c22b0] | (simp only [i64_w, i32_w]; rw [c22b0]) | skip)
                      have H' := Aside0.mk H
                      clear H
                      go_wp2
                      go_meet
                      case rel => exact ⟨_, (false), (by first | rfl | (simp; done) | (simp [*]; done)), H', ⟨by have := HJ8.out; have := HJ15.out; first | omega | exact Nat.le_refl _⟩, by repeat (first | exact Drawn0.refl _ | apply Drawn0.step)⟩
                  case rest =>
                    clear HC21
                    try clear c1
                    try clear c2
                    try clear p2
                    try clear c3
                    try clear c3b0
                    try clear c4
                    try clear c4b0
                    try clear c4b1
                    try clear p6
                    try clear c8
                    try clear c10
                    try clear c10b0
                    try clear c11
                    try clear c15
                    try clear c17
                    try clear c17b0
                    try clear c18
                    try clear c22
                    try clear c22b0
                    try clear p2
                    try clear p6
                    obtain ⟨kq, x77_20, rfl, HA, HJ20, ⟨mc20, rfl⟩⟩ := hcut
                    cases kq with
                    | zero => exact absurd HA.out (by simp [rv_bits.j2])
                    | succ kj20 =>
                      have H := HA.out
                      clear HA
                      simp only [rv_bits.j2] at H
                      by_cases c23 : x77_20 = true
                      · subst c23
                        have H1 : ((rv_place.f (Go.bits .and .i64 (wrap64 (a1)) 31) 20).bind fun t139 => (some t139)) = some r := by rw [if_pos rfl] at H; exact H
                        clear H
                        have H := H1
                        clear H1
                        replace H := Option.bind_eq_some_iff.mp H
                        obtain ⟨t139, A240, H⟩ := H
                        replace H : (some t139) = some r := H
                        have A24 := Aside0.mk A240
                        clear A240
                        obtain rfl := Option.some.inj H
                        go_wp2_with (first | ((with_reducible refine gate_callee (f := 34) rfl ?_); refine goesL_ (some 86) rfl rfl Tryd.func34 (by kernel_rfl) rfl #[.int .i64 (Go.bits .and .i64 (wrap64 (a1)) 31), .int .i64 20] rfl (by (try simp only [List.map_toArray, List.map_cons, List.map_nil]); first | done | rfl | (simp only [List.length_drop, List.length_take]; rfl)) ?_; (with_reducible refine (rv_place.calls (Go.bits .and .i64 (wrap64 (a1)) 31) 20 t139 _ A24.out).mono ?_); rintro e w' ⟨rfl, ⟨nd, rfl⟩⟩; refine ⟨_, rfl, ?_⟩))
                        go_ret
                        exact ⟨by first | rfl | (simp; done) | (simp [*]; done), by repeat (first | exact Drawn0.refl _ | apply Drawn0.step)⟩
                      · replace c23 := Bool.eq_false_iff.mpr c23
                        subst c23
                        have H1 : (if a0 ≥ 28 then (some 0) else ((rv_place.f (Go.bits .and .i64 (wrap64 (a1)) 4095) 20).bind fun t140 => (some t140))) = some r := by rw [if_neg (show ¬ (false = true) by decide)] at H; exact H
                        clear H
                        have H := H1
                        clear H1
                        by_cases c25 : a0 ≥ 28
                        · rw [if_pos c25] at H
                          have c25b0 : decide (28 ≤ a0) = true := decide_eq_true c25
                          clear c25
                          obtain rfl := Option.some.inj H
                          go_wp2
                          go_ret
                          exact ⟨by first | rfl | (simp; done) | (simp [*]; done), by repeat (first | exact Drawn0.refl _ | apply Drawn0.step)⟩
                        · rw [if_neg c25] at H
                          have c25b0 : decide (28 ≤ a0) = false := decide_eq_false c25
                          clear c25
                          replace H := Option.bind_eq_some_iff.mp H
                          obtain ⟨t140, A260, H⟩ := H
                          replace H : (some t140) = some r := H
                          have A26 := Aside0.mk A260
                          clear A260
                          obtain rfl := Option.some.inj H
                          go_wp2_with (first | ((with_reducible refine gate_callee (f := 34) rfl ?_); refine goesL_ (some 92) rfl rfl Tryd.func34 (by kernel_rfl) rfl #[.int .i64 (Go.bits .and .i64 (wrap64 (a1)) 4095), .int .i64 20] rfl (by (try simp only [List.map_toArray, List.map_cons, List.map_nil]); first | done | rfl | (simp only [List.length_drop, List.length_take]; rfl)) ?_; (with_reducible refine (rv_place.calls (Go.bits .and .i64 (wrap64 (a1)) 4095) 20 t140 _ A26.out).mono ?_); rintro e w' ⟨rfl, ⟨nd, rfl⟩⟩; refine ⟨_, rfl, ?_⟩))
                          go_ret
                          exact ⟨by first | rfl | (simp; done) | (simp [*]; done), by repeat (first | exact Drawn0.refl _ | apply Drawn0.step)⟩
end Go.Proofs.YtmgbidehdnmjkaaDoor.Rv
