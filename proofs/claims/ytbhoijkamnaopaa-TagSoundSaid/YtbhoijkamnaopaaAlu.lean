/- What alu's functions answer (its lines began as print.sh's). -/
import Derived.Test.YtbhoijkamnaopaaAlu0
namespace Go.Proofs.Ytbhoijkamnaopaa.Alu
open Go.RowKit Go.Proofs.YtbhoijkamnaopaaW.PrintWords Go.Proofs.YtbhoijkamnaopaaW.PrintLast Go.Proofs.YtbhoijkamnaopaaW.PrintMore
attribute [local go_sem] max2_int min2_int max_two min_two max_three min_three max_four min_four   -- for this text's walks alone
set_option linter.unusedVariables false
set_option linter.unusedSimpArgs false
/-! ### alu_bit: function 33 -/
def alu_bit.f (a0 : Bool) : Option (Int) := if a0 = true then (some 1) else (some 0)
set_option maxHeartbeats 8000000 in
set_option maxRecDepth 100000 in
theorem alu_bit.calls (a0 : Bool) (r : Int) (w : World) (h : alu_bit.f a0 = some r) :
    Calls Try.prog 33 #[.bool a0] w fun e w' => e = .returned (.int .u32 r) ∧ Drawn0 w w' := by
  have H : (if a0 = true then (some 1) else (some 0)) = some r := h
  clear h
  by_cases c2 : a0 = true
  · subst c2
    have H1 : (some 1) = some r := by rw [if_pos rfl] at H; exact H
    clear H
    have H := H1
    clear H1
    obtain rfl := Option.some.inj H
    go_enter Try.func33, Try.ntmps33
    go_wp2
    go_ret
    exact ⟨by first | rfl | (simp; done) | (simp [*]; done), by repeat (first | exact Drawn0.refl _ | apply Drawn0.step)⟩
  · replace c2 := Bool.eq_false_iff.mpr c2
    subst c2
    have H1 : (some 0) = some r := by rw [if_neg (show ¬ (false = true) by decide)] at H; exact H
    clear H
    have H := H1
    clear H1
    obtain rfl := Option.some.inj H
    go_enter Try.func33, Try.ntmps33
    go_wp2
    go_ret
    exact ⟨by first | rfl | (simp; done) | (simp [*]; done), by repeat (first | exact Drawn0.refl _ | apply Drawn0.step)⟩
/-! ### alu_simple: function 29 -/
def alu_simple.f (a0 : Int) (a1 : Int) (a2 : Int) : Option (Int × Bool) := if a0 = 0 then (some ((a1 + a2) % 4294967296, true)) else (if a0 = 1 then (some ((a1 - a2) % 4294967296, true)) else (if a0 = 2 then (if 0 ≤ (Go.bits .and .u32 a2 31) then (some (shl .u32 a1 (Go.bits .and .u32 a2 31), true)) else (none)) else (if a0 = 6 then (if 0 ≤ (Go.bits .and .u32 a2 31) then (some (shr .u32 a1 (Go.bits .and .u32 a2 31), true)) else (none)) else (if a0 = 7 then (if 0 ≤ (Go.bits .and .u32 a2 31) then (some ((shr .i32 (wrap32 (a1)) (Go.bits .and .u32 a2 31)) % 4294967296, true)) else (none)) else (if a0 = 3 then ((alu_bit.f (decide ((wrap32 (a1)) < (wrap32 (a2))))).bind fun t101 => (some (t101, true))) else (if a0 = 4 then ((alu_bit.f (decide (a1 < a2))).bind fun t102 => (some (t102, true))) else (if a0 = 5 then (some (Go.bits .xor .u32 a1 a2, true)) else (if a0 = 8 then (some (Go.bits .or .u32 a1 a2, true)) else (if a0 = 9 then (some (Go.bits .and .u32 a1 a2, true)) else (some (0, false)))))))))))
set_option maxHeartbeats 8000000 in
set_option maxRecDepth 100000 in
theorem alu_simple.calls (a0 : Int) (a1 : Int) (a2 : Int) (r1 : Int) (r2 : Bool) (w : World) (h : alu_simple.f a0 a1 a2 = some (r1, r2)) :
    Calls Try.prog 29 #[.int .i64 a0, .int .u32 a1, .int .u32 a2] w fun e w' => e = .returned (.tuple #[.int .u32 r1, .bool r2]) ∧ Drawn0 w w' := by
  have H : (if a0 = 0 then (some ((a1 + a2) % 4294967296, true)) else (if a0 = 1 then (some ((a1 - a2) % 4294967296, true)) else (if a0 = 2 then (if 0 ≤ (Go.bits .and .u32 a2 31) then (some (shl .u32 a1 (Go.bits .and .u32 a2 31), true)) else (none)) else (if a0 = 6 then (if 0 ≤ (Go.bits .and .u32 a2 31) then (some (shr .u32 a1 (Go.bits .and .u32 a2 31), true)) else (none)) else (if a0 = 7 then (if 0 ≤ (Go.bits .and .u32 a2 31) then (some ((shr .i32 (wrap32 (a1)) (Go.bits .and .u32 a2 31)) % 4294967296, true)) else (none)) else (if a0 = 3 then ((alu_bit.f (decide ((wrap32 (a1)) < (wrap32 (a2))))).bind fun t101 => (some (t101, true))) else (if a0 = 4 then ((alu_bit.f (decide (a1 < a2))).bind fun t102 => (some (t102, true))) else (if a0 = 5 then (some (Go.bits .xor .u32 a1 a2, true)) else (if a0 = 8 then (some (Go.bits .or .u32 a1 a2, true)) else (if a0 = 9 then (some (Go.bits .and .u32 a1 a2, true)) else (some (0, false)))))))))))) = some (r1, r2) := h
  clear h
  by_cases c4 : a0 = 0
  · rw [if_pos c4] at H
    have c4b0 : (a0 == 0) = true := beq_iff_eq.mpr c4
    have c4b1 : (a0 != 0) = false := bne_eq_false_iff_eq.mpr c4
    clear c4
    simp only [Option.some.injEq, Prod.mk.injEq] at H
    obtain ⟨rfl, rfl⟩ := H
    go_enter Try.func29, Try.ntmps29
    go_wp2
    go_ret2
    exact ⟨by first | rfl | (simp; done) | (simp [*]; done), by repeat (first | exact Drawn0.refl _ | apply Drawn0.step)⟩
  · rw [if_neg c4] at H
    have c4b0 : (a0 == 0) = false := beq_eq_false_iff_ne.mpr c4
    have c4b1 : (a0 != 0) = true := bne_iff_ne.mpr c4
    by_cases c5 : a0 = 1
    · rw [if_pos c5] at H
      have c5b0 : (a0 == 1) = true := beq_iff_eq.mpr c5
      have c5b1 : (a0 != 1) = false := bne_eq_false_iff_eq.mpr c5
      clear c5
      simp only [Option.some.injEq, Prod.mk.injEq] at H
      obtain ⟨rfl, rfl⟩ := H
      go_enter Try.func29, Try.ntmps29
      go_wp2
      go_ret2
      exact ⟨by first | rfl | (simp; done) | (simp [*]; done), by repeat (first | exact Drawn0.refl _ | apply Drawn0.step)⟩
    · rw [if_neg c5] at H
      have c5b0 : (a0 == 1) = false := beq_eq_false_iff_ne.mpr c5
      have c5b1 : (a0 != 1) = true := bne_iff_ne.mpr c5
      by_cases c6 : a0 = 2
      · rw [if_pos c6] at H
        have c6b0 : (a0 == 2) = true := beq_iff_eq.mpr c6
        have c6b1 : (a0 != 2) = false := bne_eq_false_iff_eq.mpr c6
        clear c6
        by_cases c7 : 0 ≤ (Go.bits .and .u32 a2 31)
        · rw [if_pos c7] at H
          have c7b0 := eq_true c7
          have c7b1 : decide (0 ≤ (Go.bits .and .u32 a2 31)) = true := decide_eq_true c7
          clear c7
          obtain ⟨ji8, hji8⟩ : ∃ j_ : Int, (shl .u32 a1 (Go.bits .and .u32 a2 31)) = j_ := ⟨_, rfl⟩
          replace H : (some (ji8, true)) = some (r1, r2) := by first | (rw [hji8] at H; exact H) | (simp only [hji8] at H ⊢; exact H)
          have hji8_ : (IntKind.u32.wrap (a1 * 2 ^ min (Go.bits .and .u32 a2 31).toNat 32)) = ji8 := hji8
          have hji8z : (Go.bits .and .u32 a2 31) ≤ 32 → (IntKind.u32.wrap (a1 * 2 ^ (Go.bits .and .u32 a2 31).toNat)) = ji8 := shl_small hji8
          simp only [Option.some.injEq, Prod.mk.injEq] at H
          obtain ⟨rfl, rfl⟩ := H
          go_enter Try.func29, Try.ntmps29
          go_wp2
          go_ret2
          exact ⟨by first | rfl | (simp; done) | (simp only [← hji8] <;> (first | rfl | simp)) | (simp [*]; done), by repeat (first | exact Drawn0.refl _ | apply Drawn0.step)⟩
        · rw [if_neg c7] at H
          exact absurd H (by simp)
      · rw [if_neg c6] at H
        have c6b0 : (a0 == 2) = false := beq_eq_false_iff_ne.mpr c6
        have c6b1 : (a0 != 2) = true := bne_iff_ne.mpr c6
        by_cases c9 : a0 = 6
        · rw [if_pos c9] at H
          have c9b0 : (a0 == 6) = true := beq_iff_eq.mpr c9
          have c9b1 : (a0 != 6) = false := bne_eq_false_iff_eq.mpr c9
          clear c9
          by_cases c10 : 0 ≤ (Go.bits .and .u32 a2 31)
          · rw [if_pos c10] at H
            have c10b0 := eq_true c10
            have c10b1 : decide (0 ≤ (Go.bits .and .u32 a2 31)) = true := decide_eq_true c10
            clear c10
            obtain ⟨ji11, hji11⟩ : ∃ j_ : Int, (shr .u32 a1 (Go.bits .and .u32 a2 31)) = j_ := ⟨_, rfl⟩
            replace H : (some (ji11, true)) = some (r1, r2) := by first | (rw [hji11] at H; exact H) | (simp only [hji11] at H ⊢; exact H)
            have hji11_ : (a1 / 2 ^ min (Go.bits .and .u32 a2 31).toNat 32) = ji11 := hji11
            have hji11z : (Go.bits .and .u32 a2 31) ≤ 32 → (a1 / 2 ^ (Go.bits .and .u32 a2 31).toNat) = ji11 := shr_small hji11
            simp only [Option.some.injEq, Prod.mk.injEq] at H
            obtain ⟨rfl, rfl⟩ := H
            go_enter Try.func29, Try.ntmps29
            go_wp2
            go_ret2
            exact ⟨by first | rfl | (simp; done) | (simp only [← hji11] <;> (first | rfl | simp)) | (simp [*]; done), by repeat (first | exact Drawn0.refl _ | apply Drawn0.step)⟩
          · rw [if_neg c10] at H
            exact absurd H (by simp)
        · rw [if_neg c9] at H
          have c9b0 : (a0 == 6) = false := beq_eq_false_iff_ne.mpr c9
          have c9b1 : (a0 != 6) = true := bne_iff_ne.mpr c9
          by_cases c12 : a0 = 7
          · rw [if_pos c12] at H
            have c12b0 : (a0 == 7) = true := beq_iff_eq.mpr c12
            have c12b1 : (a0 != 7) = false := bne_eq_false_iff_eq.mpr c12
            clear c12
            by_cases c13 : 0 ≤ (Go.bits .and .u32 a2 31)
            · rw [if_pos c13] at H
              have c13b0 := eq_true c13
              have c13b1 : decide (0 ≤ (Go.bits .and .u32 a2 31)) = true := decide_eq_true c13
              clear c13
              obtain ⟨ji14, hji14⟩ : ∃ j_ : Int, (shr .i32 (wrap32 (a1)) (Go.bits .and .u32 a2 31)) = j_ := ⟨_, rfl⟩
              replace H : (some ((ji14) % 4294967296, true)) = some (r1, r2) := by first | (rw [hji14] at H; exact H) | (simp only [hji14] at H ⊢; exact H)
              have hji14_ : ((wrap32 (a1)) / 2 ^ min (Go.bits .and .u32 a2 31).toNat 32) = ji14 := hji14
              have hji14z : (Go.bits .and .u32 a2 31) ≤ 32 → ((wrap32 (a1)) / 2 ^ (Go.bits .and .u32 a2 31).toNat) = ji14 := shr_small hji14
              simp only [Option.some.injEq, Prod.mk.injEq] at H
              obtain ⟨rfl, rfl⟩ := H
              go_enter Try.func29, Try.ntmps29
              go_wp2
              go_ret2
              exact ⟨by first | rfl | (simp; done) | (simp only [← hji14] <;> (first | rfl | simp)) | (simp [*]; done), by repeat (first | exact Drawn0.refl _ | apply Drawn0.step)⟩
            · rw [if_neg c13] at H
              exact absurd H (by simp)
          · rw [if_neg c12] at H
            have c12b0 : (a0 == 7) = false := beq_eq_false_iff_ne.mpr c12
            have c12b1 : (a0 != 7) = true := bne_iff_ne.mpr c12
            by_cases c15 : a0 = 3
            · rw [if_pos c15] at H
              have c15b0 : (a0 == 3) = true := beq_iff_eq.mpr c15
              have c15b1 : (a0 != 3) = false := bne_eq_false_iff_eq.mpr c15
              clear c15
              replace H := Option.bind_eq_some_iff.mp H
              obtain ⟨t101, A160, H⟩ := H
              replace H : (some (t101, true)) = some (r1, r2) := H
              have A16 := Aside0.mk A160
              clear A160
              simp only [Option.some.injEq, Prod.mk.injEq] at H
              obtain ⟨rfl, rfl⟩ := H
              go_enter Try.func29, Try.ntmps29
              go_wp2_with (first | ((with_reducible refine gate_callee (f := 33) rfl ?_); refine goesL_ (some 46) rfl rfl Try.func33 (by kernel_rfl) rfl #[.bool (decide ((wrap32 (a1)) < (wrap32 (a2))))] rfl (by (try simp only [List.map_toArray, List.map_cons, List.map_nil]); first | done | rfl | (simp only [List.length_drop, List.length_take]; rfl)) ?_; (with_reducible refine (alu_bit.calls (decide ((wrap32 (a1)) < (wrap32 (a2)))) t101 _ A16.out).mono ?_); rintro e w' ⟨rfl, ⟨nd, rfl⟩⟩; refine ⟨_, rfl, ?_⟩))
              go_ret2
              exact ⟨by first | rfl | (simp; done) | (simp [*]; done), by repeat (first | exact Drawn0.refl _ | apply Drawn0.step)⟩
            · rw [if_neg c15] at H
              have c15b0 : (a0 == 3) = false := beq_eq_false_iff_ne.mpr c15
              have c15b1 : (a0 != 3) = true := bne_iff_ne.mpr c15
              by_cases c17 : a0 = 4
              · rw [if_pos c17] at H
                have c17b0 : (a0 == 4) = true := beq_iff_eq.mpr c17
                have c17b1 : (a0 != 4) = false := bne_eq_false_iff_eq.mpr c17
                clear c17
                replace H := Option.bind_eq_some_iff.mp H
                obtain ⟨t102, A180, H⟩ := H
                replace H : (some (t102, true)) = some (r1, r2) := H
                have A18 := Aside0.mk A180
                clear A180
                simp only [Option.some.injEq, Prod.mk.injEq] at H
                obtain ⟨rfl, rfl⟩ := H
                go_enter Try.func29, Try.ntmps29
                go_wp2_with (first | ((with_reducible refine gate_callee (f := 33) rfl ?_); refine goesL_ (some 52) rfl rfl Try.func33 (by kernel_rfl) rfl #[.bool (decide (a1 < a2))] rfl (by (try simp only [List.map_toArray, List.map_cons, List.map_nil]); first | done | rfl | (simp only [List.length_drop, List.length_take]; rfl)) ?_; (with_reducible refine (alu_bit.calls (decide (a1 < a2)) t102 _ A18.out).mono ?_); rintro e w' ⟨rfl, ⟨nd, rfl⟩⟩; refine ⟨_, rfl, ?_⟩))
                go_ret2
                exact ⟨by first | rfl | (simp; done) | (simp [*]; done), by repeat (first | exact Drawn0.refl _ | apply Drawn0.step)⟩
              · rw [if_neg c17] at H
                have c17b0 : (a0 == 4) = false := beq_eq_false_iff_ne.mpr c17
                have c17b1 : (a0 != 4) = true := bne_iff_ne.mpr c17
                by_cases c19 : a0 = 5
                · rw [if_pos c19] at H
                  have c19b0 : (a0 == 5) = true := beq_iff_eq.mpr c19
                  have c19b1 : (a0 != 5) = false := bne_eq_false_iff_eq.mpr c19
                  clear c19
                  simp only [Option.some.injEq, Prod.mk.injEq] at H
                  obtain ⟨rfl, rfl⟩ := H
                  go_enter Try.func29, Try.ntmps29
                  go_wp2
                  go_ret2
                  exact ⟨by first | rfl | (simp; done) | (simp [*]; done), by repeat (first | exact Drawn0.refl _ | apply Drawn0.step)⟩
                · rw [if_neg c19] at H
                  have c19b0 : (a0 == 5) = false := beq_eq_false_iff_ne.mpr c19
                  have c19b1 : (a0 != 5) = true := bne_iff_ne.mpr c19
                  by_cases c20 : a0 = 8
                  · rw [if_pos c20] at H
                    have c20b0 : (a0 == 8) = true := beq_iff_eq.mpr c20
                    have c20b1 : (a0 != 8) = false := bne_eq_false_iff_eq.mpr c20
                    clear c20
                    simp only [Option.some.injEq, Prod.mk.injEq] at H
                    obtain ⟨rfl, rfl⟩ := H
                    go_enter Try.func29, Try.ntmps29
                    go_wp2
                    go_ret2
                    exact ⟨by first | rfl | (simp; done) | (simp [*]; done), by repeat (first | exact Drawn0.refl _ | apply Drawn0.step)⟩
                  · rw [if_neg c20] at H
                    have c20b0 : (a0 == 8) = false := beq_eq_false_iff_ne.mpr c20
                    have c20b1 : (a0 != 8) = true := bne_iff_ne.mpr c20
                    by_cases c21 : a0 = 9
                    · rw [if_pos c21] at H
                      have c21b0 : (a0 == 9) = true := beq_iff_eq.mpr c21
                      have c21b1 : (a0 != 9) = false := bne_eq_false_iff_eq.mpr c21
                      clear c21
                      simp only [Option.some.injEq, Prod.mk.injEq] at H
                      obtain ⟨rfl, rfl⟩ := H
                      go_enter Try.func29, Try.ntmps29
                      go_wp2
                      go_ret2
                      exact ⟨by first | rfl | (simp; done) | (simp [*]; done), by repeat (first | exact Drawn0.refl _ | apply Drawn0.step)⟩
                    · rw [if_neg c21] at H
                      have c21b0 : (a0 == 9) = false := beq_eq_false_iff_ne.mpr c21
                      have c21b1 : (a0 != 9) = true := bne_iff_ne.mpr c21
                      simp only [Option.some.injEq, Prod.mk.injEq] at H
                      obtain ⟨rfl, rfl⟩ := H
                      go_enter Try.func29, Try.ntmps29
                      go_wp2
                      go_ret2
                      exact ⟨by first | rfl | (simp; done) | (simp [*]; done), by repeat (first | exact Drawn0.refl _ | apply Drawn0.step)⟩
/-! ### alu_divide: function 30 -/
def alu_divide.f (a0 : Int) (a1 : Int) : Option (Int × Int) := if a1 = 0 then (some (4294967295, a0)) else (if a0 = 2147483648 then (if a1 = 4294967295 then (some (a0, 0)) else (if (wrap32 (a1)) = 0 then (none) else (some ((wrap32 (Int.tdiv (wrap32 (a0)) (wrap32 (a1)))) % 4294967296, (Int.tmod (wrap32 (a0)) (wrap32 (a1))) % 4294967296)))) else (if (wrap32 (a1)) = 0 then (none) else (some ((wrap32 (Int.tdiv (wrap32 (a0)) (wrap32 (a1)))) % 4294967296, (Int.tmod (wrap32 (a0)) (wrap32 (a1))) % 4294967296))))
set_option maxHeartbeats 8000000 in
set_option maxRecDepth 100000 in
theorem alu_divide.calls (a0 : Int) (a1 : Int) (r1 : Int) (r2 : Int) (w : World) (h : alu_divide.f a0 a1 = some (r1, r2)) :
    Calls Try.prog 30 #[.int .u32 a0, .int .u32 a1] w fun e w' => e = .returned (.tuple #[.int .u32 r1, .int .u32 r2]) ∧ Drawn0 w w' := by
  have H : (if a1 = 0 then (some (4294967295, a0)) else (if a0 = 2147483648 then (if a1 = 4294967295 then (some (a0, 0)) else (if (wrap32 (a1)) = 0 then (none) else (some ((wrap32 (Int.tdiv (wrap32 (a0)) (wrap32 (a1)))) % 4294967296, (Int.tmod (wrap32 (a0)) (wrap32 (a1))) % 4294967296)))) else (if (wrap32 (a1)) = 0 then (none) else (some ((wrap32 (Int.tdiv (wrap32 (a0)) (wrap32 (a1)))) % 4294967296, (Int.tmod (wrap32 (a0)) (wrap32 (a1))) % 4294967296))))) = some (r1, r2) := h
  clear h
  by_cases c3 : a1 = 0
  · rw [if_pos c3] at H
    have c3b0 : (a1 == 0) = true := beq_iff_eq.mpr c3
    have c3b1 : (a1 != 0) = false := bne_eq_false_iff_eq.mpr c3
    clear c3
    simp only [Option.some.injEq, Prod.mk.injEq] at H
    obtain ⟨rfl, rfl⟩ := H
    go_enter Try.func30, Try.ntmps30
    go_wp2
    repeat (go_quiet (fail); try go_wp2)
    go_ret2
    exact ⟨by first | rfl | (simp; done) | (simp [*]; done), by repeat (first | exact Drawn0.refl _ | apply Drawn0.step)⟩
  · rw [if_neg c3] at H
    have c3b0 : (a1 == 0) = false := beq_eq_false_iff_ne.mpr c3
    have c3b1 : (a1 != 0) = true := bne_iff_ne.mpr c3
    by_cases c4 : a0 = 2147483648
    · rw [if_pos c4] at H
      have c4b0 : (a0 == 2147483648) = true := beq_iff_eq.mpr c4
      have c4b1 : (a0 != 2147483648) = false := bne_eq_false_iff_eq.mpr c4
      clear c4
      by_cases c5 : a1 = 4294967295
      · rw [if_pos c5] at H
        have c5b0 : (a1 == 4294967295) = true := beq_iff_eq.mpr c5
        have c5b1 : (a1 != 4294967295) = false := bne_eq_false_iff_eq.mpr c5
        clear c5
        simp only [Option.some.injEq, Prod.mk.injEq] at H
        obtain ⟨rfl, rfl⟩ := H
        go_enter Try.func30, Try.ntmps30
        go_wp2
        repeat (go_quiet (fail); try go_wp2)
        go_ret2
        exact ⟨by first | rfl | (simp; done) | (simp [*]; done), by repeat (first | exact Drawn0.refl _ | apply Drawn0.step)⟩
      · rw [if_neg c5] at H
        have c5b0 : (a1 == 4294967295) = false := beq_eq_false_iff_ne.mpr c5
        have c5b1 : (a1 != 4294967295) = true := bne_iff_ne.mpr c5
        by_cases c6 : (wrap32 (a1)) = 0
        · rw [if_pos c6] at H
          exact absurd H (by simp)
        · rw [if_neg c6] at H
          have c6b0 : ((wrap32 (a1)) == 0) = false := beq_eq_false_iff_ne.mpr c6
          have c6b1 : ((wrap32 (a1)) != 0) = true := bne_iff_ne.mpr c6
          simp only [Option.some.injEq, Prod.mk.injEq] at H
          obtain ⟨rfl, rfl⟩ := H
          go_enter Try.func30, Try.ntmps30
          go_wp2
          repeat (go_quiet (fail); try go_wp2)
          go_ret2
          exact ⟨by first | rfl | (simp; done) | (simp [*]; done), by repeat (first | exact Drawn0.refl _ | apply Drawn0.step)⟩
    · rw [if_neg c4] at H
      have c4b0 : (a0 == 2147483648) = false := beq_eq_false_iff_ne.mpr c4
      have c4b1 : (a0 != 2147483648) = true := bne_iff_ne.mpr c4
      by_cases c7 : (wrap32 (a1)) = 0
      · rw [if_pos c7] at H
        exact absurd H (by simp)
      · rw [if_neg c7] at H
        have c7b0 : ((wrap32 (a1)) == 0) = false := beq_eq_false_iff_ne.mpr c7
        have c7b1 : ((wrap32 (a1)) != 0) = true := bne_iff_ne.mpr c7
        simp only [Option.some.injEq, Prod.mk.injEq] at H
        obtain ⟨rfl, rfl⟩ := H
        go_enter Try.func30, Try.ntmps30
        go_wp2
        repeat (go_quiet (fail); try go_wp2)
        go_ret2
        exact ⟨by first | rfl | (simp; done) | (simp [*]; done), by repeat (first | exact Drawn0.refl _ | apply Drawn0.step)⟩
/-! ### alu_divideu: function 31 -/
def alu_divideu.f (a0 : Int) (a1 : Int) : Option (Int × Int) := if a1 = 0 then (some (4294967295, a0)) else (some ((Int.tdiv a0 a1) % 4294967296, Int.tmod a0 a1))
set_option maxHeartbeats 8000000 in
set_option maxRecDepth 100000 in
theorem alu_divideu.calls (a0 : Int) (a1 : Int) (r1 : Int) (r2 : Int) (w : World) (h : alu_divideu.f a0 a1 = some (r1, r2)) :
    Calls Try.prog 31 #[.int .u32 a0, .int .u32 a1] w fun e w' => e = .returned (.tuple #[.int .u32 r1, .int .u32 r2]) ∧ Drawn0 w w' := by
  have H : (if a1 = 0 then (some (4294967295, a0)) else (some ((Int.tdiv a0 a1) % 4294967296, Int.tmod a0 a1))) = some (r1, r2) := h
  clear h
  by_cases c3 : a1 = 0
  · rw [if_pos c3] at H
    have c3b0 : (a1 == 0) = true := beq_iff_eq.mpr c3
    have c3b1 : (a1 != 0) = false := bne_eq_false_iff_eq.mpr c3
    clear c3
    simp only [Option.some.injEq, Prod.mk.injEq] at H
    obtain ⟨rfl, rfl⟩ := H
    go_enter Try.func31, Try.ntmps31
    go_wp2
    repeat (go_quiet (fail); try go_wp2)
    go_ret2
    exact ⟨by first | rfl | (simp; done) | (simp [*]; done), by repeat (first | exact Drawn0.refl _ | apply Drawn0.step)⟩
  · rw [if_neg c3] at H
    have c3b0 : (a1 == 0) = false := beq_eq_false_iff_ne.mpr c3
    have c3b1 : (a1 != 0) = true := bne_iff_ne.mpr c3
    simp only [Option.some.injEq, Prod.mk.injEq] at H
    obtain ⟨rfl, rfl⟩ := H
    go_enter Try.func31, Try.ntmps31
    go_wp2
    repeat (go_quiet (fail); try go_wp2)
    go_ret2
    exact ⟨by first | rfl | (simp; done) | (simp [*]; done), by repeat (first | exact Drawn0.refl _ | apply Drawn0.step)⟩
/-! ### alu_Do: function 16 -/
def alu_Do.f (a0 : Int) (a1 : Int) (a2 : Int) : Option (Int × Int) := (alu_simple.f a0 a1 a2).bind fun bt103 => (if bt103.2 = true then (some (bt103.1, 0)) else (if a0 = 10 then (some ((a1 * a2) % 4294967296, 0)) else (if a0 = 11 then (some (((wrap64 ((wrap64 (wrap32 (a1))) * (wrap64 (wrap32 (a2))))) / 4294967296) % 4294967296, 0)) else (if a0 = 12 then (some (((wrap64 ((wrap64 (wrap32 (a1))) * (wrap64 (a2)))) / 4294967296) % 4294967296, 0)) else (if a0 = 13 then (some (((IntKind.u64.wrap ((IntKind.u64.wrap (a1)) * (IntKind.u64.wrap (a2)))) / 4294967296) % 4294967296, 0)) else (if a0 = 14 then ((alu_divide.f a1 a2).bind fun bt105 => (some (bt105.1, 0))) else (if a0 = 15 then ((alu_divideu.f a1 a2).bind fun bt107 => (some (bt107.1, 0))) else (if a0 = 16 then ((alu_divide.f a1 a2).bind fun bt109 => (some (bt109.2, 0))) else (if a0 = 17 then ((alu_divideu.f a1 a2).bind fun bt111 => (some (bt111.2, 0))) else (some (0, 1)))))))))))
set_option maxHeartbeats 8000000 in
set_option maxRecDepth 100000 in
theorem alu_Do.calls (a0 : Int) (a1 : Int) (a2 : Int) (r1 : Int) (r2 : Int) (w : World) (h : alu_Do.f a0 a1 a2 = some (r1, r2)) :
    Calls Try.prog 16 #[.int .i64 a0, .int .u32 a1, .int .u32 a2] w fun e w' => e = .returned (.tuple #[.int .u32 r1, .int .i64 r2]) ∧ Drawn0 w w' := by
  have H : ((alu_simple.f a0 a1 a2).bind fun bt103 => (if bt103.2 = true then (some (bt103.1, 0)) else (if a0 = 10 then (some ((a1 * a2) % 4294967296, 0)) else (if a0 = 11 then (some (((wrap64 ((wrap64 (wrap32 (a1))) * (wrap64 (wrap32 (a2))))) / 4294967296) % 4294967296, 0)) else (if a0 = 12 then (some (((wrap64 ((wrap64 (wrap32 (a1))) * (wrap64 (a2)))) / 4294967296) % 4294967296, 0)) else (if a0 = 13 then (some (((IntKind.u64.wrap ((IntKind.u64.wrap (a1)) * (IntKind.u64.wrap (a2)))) / 4294967296) % 4294967296, 0)) else (if a0 = 14 then ((alu_divide.f a1 a2).bind fun bt105 => (some (bt105.1, 0))) else (if a0 = 15 then ((alu_divideu.f a1 a2).bind fun bt107 => (some (bt107.1, 0))) else (if a0 = 16 then ((alu_divide.f a1 a2).bind fun bt109 => (some (bt109.2, 0))) else (if a0 = 17 then ((alu_divideu.f a1 a2).bind fun bt111 => (some (bt111.2, 0))) else (some (0, 1)))))))))))) = some (r1, r2) := h
  clear h
  replace H := Option.bind_eq_some_iff.mp H
  obtain ⟨⟨t103, t104⟩, A40, H⟩ := H
  replace H : (if t104 = true then (some (t103, 0)) else (if a0 = 10 then (some ((a1 * a2) % 4294967296, 0)) else (if a0 = 11 then (some (((wrap64 ((wrap64 (wrap32 (a1))) * (wrap64 (wrap32 (a2))))) / 4294967296) % 4294967296, 0)) else (if a0 = 12 then (some (((wrap64 ((wrap64 (wrap32 (a1))) * (wrap64 (a2)))) / 4294967296) % 4294967296, 0)) else (if a0 = 13 then (some (((IntKind.u64.wrap ((IntKind.u64.wrap (a1)) * (IntKind.u64.wrap (a2)))) / 4294967296) % 4294967296, 0)) else (if a0 = 14 then ((alu_divide.f a1 a2).bind fun bt105 => (some (bt105.1, 0))) else (if a0 = 15 then ((alu_divideu.f a1 a2).bind fun bt107 => (some (bt107.1, 0))) else (if a0 = 16 then ((alu_divide.f a1 a2).bind fun bt109 => (some (bt109.2, 0))) else (if a0 = 17 then ((alu_divideu.f a1 a2).bind fun bt111 => (some (bt111.2, 0))) else (some (0, 1))))))))))) = some (r1, r2) := H
  have A4 := Aside0.mk A40
  clear A40
  by_cases c5 : t104 = true
  · subst c5
    have H1 : (some (t103, 0)) = some (r1, r2) := by rw [if_pos rfl] at H; exact H
    clear H
    have H := H1
    clear H1
    simp only [Option.some.injEq, Prod.mk.injEq] at H
    obtain ⟨rfl, rfl⟩ := H
    go_enter Try.func16, Try.ntmps16
    go_wp2_with (first | ((with_reducible refine gate_callee (f := 29) rfl ?_); refine goesL_ (some 22) rfl rfl Try.func29 (by kernel_rfl) rfl #[.int .i64 a0, .int .u32 a1, .int .u32 a2] rfl (by (try simp only [List.map_toArray, List.map_cons, List.map_nil]); first | done | rfl | (simp only [List.length_drop, List.length_take]; rfl)) ?_; (with_reducible refine (alu_simple.calls a0 a1 a2 t103 true _ A4.out).mono ?_); rintro e w' ⟨rfl, ⟨nd, rfl⟩⟩; refine ⟨_, rfl, ?_⟩))
    go_ret2
    exact ⟨by first | rfl | (simp; done) | (simp [*]; done), by repeat (first | exact Drawn0.refl _ | apply Drawn0.step)⟩
  · replace c5 := Bool.eq_false_iff.mpr c5
    subst c5
    have H1 : (if a0 = 10 then (some ((a1 * a2) % 4294967296, 0)) else (if a0 = 11 then (some (((wrap64 ((wrap64 (wrap32 (a1))) * (wrap64 (wrap32 (a2))))) / 4294967296) % 4294967296, 0)) else (if a0 = 12 then (some (((wrap64 ((wrap64 (wrap32 (a1))) * (wrap64 (a2)))) / 4294967296) % 4294967296, 0)) else (if a0 = 13 then (some (((IntKind.u64.wrap ((IntKind.u64.wrap (a1)) * (IntKind.u64.wrap (a2)))) / 4294967296) % 4294967296, 0)) else (if a0 = 14 then ((alu_divide.f a1 a2).bind fun bt105 => (some (bt105.1, 0))) else (if a0 = 15 then ((alu_divideu.f a1 a2).bind fun bt107 => (some (bt107.1, 0))) else (if a0 = 16 then ((alu_divide.f a1 a2).bind fun bt109 => (some (bt109.2, 0))) else (if a0 = 17 then ((alu_divideu.f a1 a2).bind fun bt111 => (some (bt111.2, 0))) else (some (0, 1)))))))))) = some (r1, r2) := by rw [if_neg (show ¬ (false = true) by decide)] at H; exact H
    clear H
    have H := H1
    clear H1
    by_cases c6 : a0 = 10
    · rw [if_pos c6] at H
      have c6b0 : (a0 == 10) = true := beq_iff_eq.mpr c6
      have c6b1 : (a0 != 10) = false := bne_eq_false_iff_eq.mpr c6
      clear c6
      simp only [Option.some.injEq, Prod.mk.injEq] at H
      obtain ⟨rfl, rfl⟩ := H
      go_enter Try.func16, Try.ntmps16
      go_wp2_with (first | ((with_reducible refine gate_callee (f := 29) rfl ?_); refine goesL_ (some 22) rfl rfl Try.func29 (by kernel_rfl) rfl #[.int .i64 a0, .int .u32 a1, .int .u32 a2] rfl (by (try simp only [List.map_toArray, List.map_cons, List.map_nil]); first | done | rfl | (simp only [List.length_drop, List.length_take]; rfl)) ?_; (with_reducible refine (alu_simple.calls a0 a1 a2 t103 false _ A4.out).mono ?_); rintro e w' ⟨rfl, ⟨nd, rfl⟩⟩; refine ⟨_, rfl, ?_⟩))
      go_ret2
      exact ⟨by first | rfl | (simp; done) | (simp [*]; done), by repeat (first | exact Drawn0.refl _ | apply Drawn0.step)⟩
    · rw [if_neg c6] at H
      have c6b0 : (a0 == 10) = false := beq_eq_false_iff_ne.mpr c6
      have c6b1 : (a0 != 10) = true := bne_iff_ne.mpr c6
      by_cases c7 : a0 = 11
      · rw [if_pos c7] at H
        have c7b0 : (a0 == 11) = true := beq_iff_eq.mpr c7
        have c7b1 : (a0 != 11) = false := bne_eq_false_iff_eq.mpr c7
        clear c7
        simp only [Option.some.injEq, Prod.mk.injEq] at H
        obtain ⟨rfl, rfl⟩ := H
        go_enter Try.func16, Try.ntmps16
        go_wp2_with (first | ((with_reducible refine gate_callee (f := 29) rfl ?_); refine goesL_ (some 22) rfl rfl Try.func29 (by kernel_rfl) rfl #[.int .i64 a0, .int .u32 a1, .int .u32 a2] rfl (by (try simp only [List.map_toArray, List.map_cons, List.map_nil]); first | done | rfl | (simp only [List.length_drop, List.length_take]; rfl)) ?_; (with_reducible refine (alu_simple.calls a0 a1 a2 t103 false _ A4.out).mono ?_); rintro e w' ⟨rfl, ⟨nd, rfl⟩⟩; refine ⟨_, rfl, ?_⟩))
        go_ret2
        exact ⟨by first | rfl | (simp; done) | (simp [*]; done), by repeat (first | exact Drawn0.refl _ | apply Drawn0.step)⟩
      · rw [if_neg c7] at H
        have c7b0 : (a0 == 11) = false := beq_eq_false_iff_ne.mpr c7
        have c7b1 : (a0 != 11) = true := bne_iff_ne.mpr c7
        by_cases c8 : a0 = 12
        · rw [if_pos c8] at H
          have c8b0 : (a0 == 12) = true := beq_iff_eq.mpr c8
          have c8b1 : (a0 != 12) = false := bne_eq_false_iff_eq.mpr c8
          clear c8
          simp only [Option.some.injEq, Prod.mk.injEq] at H
          obtain ⟨rfl, rfl⟩ := H
          go_enter Try.func16, Try.ntmps16
          go_wp2_with (first | ((with_reducible refine gate_callee (f := 29) rfl ?_); refine goesL_ (some 22) rfl rfl Try.func29 (by kernel_rfl) rfl #[.int .i64 a0, .int .u32 a1, .int .u32 a2] rfl (by (try simp only [List.map_toArray, List.map_cons, List.map_nil]); first | done | rfl | (simp only [List.length_drop, List.length_take]; rfl)) ?_; (with_reducible refine (alu_simple.calls a0 a1 a2 t103 false _ A4.out).mono ?_); rintro e w' ⟨rfl, ⟨nd, rfl⟩⟩; refine ⟨_, rfl, ?_⟩))
          go_ret2
          exact ⟨by first | rfl | (simp; done) | (simp [*]; done), by repeat (first | exact Drawn0.refl _ | apply Drawn0.step)⟩
        · rw [if_neg c8] at H
          have c8b0 : (a0 == 12) = false := beq_eq_false_iff_ne.mpr c8
          have c8b1 : (a0 != 12) = true := bne_iff_ne.mpr c8
          by_cases c9 : a0 = 13
          · rw [if_pos c9] at H
            have c9b0 : (a0 == 13) = true := beq_iff_eq.mpr c9
            have c9b1 : (a0 != 13) = false := bne_eq_false_iff_eq.mpr c9
            clear c9
            simp only [Option.some.injEq, Prod.mk.injEq] at H
            obtain ⟨rfl, rfl⟩ := H
            go_enter Try.func16, Try.ntmps16
            go_wp2_with (first | ((with_reducible refine gate_callee (f := 29) rfl ?_); refine goesL_ (some 22) rfl rfl Try.func29 (by kernel_rfl) rfl #[.int .i64 a0, .int .u32 a1, .int .u32 a2] rfl (by (try simp only [List.map_toArray, List.map_cons, List.map_nil]); first | done | rfl | (simp only [List.length_drop, List.length_take]; rfl)) ?_; (with_reducible refine (alu_simple.calls a0 a1 a2 t103 false _ A4.out).mono ?_); rintro e w' ⟨rfl, ⟨nd, rfl⟩⟩; refine ⟨_, rfl, ?_⟩))
            go_ret2
            exact ⟨by first | rfl | (simp; done) | (simp [*]; done), by repeat (first | exact Drawn0.refl _ | apply Drawn0.step)⟩
          · rw [if_neg c9] at H
            have c9b0 : (a0 == 13) = false := beq_eq_false_iff_ne.mpr c9
            have c9b1 : (a0 != 13) = true := bne_iff_ne.mpr c9
            by_cases c10 : a0 = 14
            · rw [if_pos c10] at H
              have c10b0 : (a0 == 14) = true := beq_iff_eq.mpr c10
              have c10b1 : (a0 != 14) = false := bne_eq_false_iff_eq.mpr c10
              clear c10
              replace H := Option.bind_eq_some_iff.mp H
              obtain ⟨⟨t105, t106⟩, A110, H⟩ := H
              replace H : (some (t105, 0)) = some (r1, r2) := H
              have A11 := Aside0.mk A110
              clear A110
              simp only [Option.some.injEq, Prod.mk.injEq] at H
              obtain ⟨rfl, rfl⟩ := H
              go_enter Try.func16, Try.ntmps16
              go_wp2_with (first | ((with_reducible refine gate_callee (f := 29) rfl ?_); refine goesL_ (some 22) rfl rfl Try.func29 (by kernel_rfl) rfl #[.int .i64 a0, .int .u32 a1, .int .u32 a2] rfl (by (try simp only [List.map_toArray, List.map_cons, List.map_nil]); first | done | rfl | (simp only [List.length_drop, List.length_take]; rfl)) ?_; (with_reducible refine (alu_simple.calls a0 a1 a2 t103 false _ A4.out).mono ?_); rintro e w' ⟨rfl, ⟨nd, rfl⟩⟩; refine ⟨_, rfl, ?_⟩) | ((with_reducible refine gate_callee (f := 30) rfl ?_); refine goesL_ (some 68) rfl rfl Try.func30 (by kernel_rfl) rfl #[.int .u32 a1, .int .u32 a2] rfl (by (try simp only [List.map_toArray, List.map_cons, List.map_nil]); first | done | rfl | (simp only [List.length_drop, List.length_take]; rfl)) ?_; (with_reducible refine (alu_divide.calls a1 a2 t105 t106 _ A11.out).mono ?_); rintro e w' ⟨rfl, ⟨nd, rfl⟩⟩; refine ⟨_, rfl, ?_⟩))
              go_ret2
              exact ⟨by first | rfl | (simp; done) | (simp [*]; done), by repeat (first | exact Drawn0.refl _ | apply Drawn0.step)⟩
            · rw [if_neg c10] at H
              have c10b0 : (a0 == 14) = false := beq_eq_false_iff_ne.mpr c10
              have c10b1 : (a0 != 14) = true := bne_iff_ne.mpr c10
              by_cases c12 : a0 = 15
              · rw [if_pos c12] at H
                have c12b0 : (a0 == 15) = true := beq_iff_eq.mpr c12
                have c12b1 : (a0 != 15) = false := bne_eq_false_iff_eq.mpr c12
                clear c12
                replace H := Option.bind_eq_some_iff.mp H
                obtain ⟨⟨t107, t108⟩, A130, H⟩ := H
                replace H : (some (t107, 0)) = some (r1, r2) := H
                have A13 := Aside0.mk A130
                clear A130
                simp only [Option.some.injEq, Prod.mk.injEq] at H
                obtain ⟨rfl, rfl⟩ := H
                go_enter Try.func16, Try.ntmps16
                go_wp2_with (first | ((with_reducible refine gate_callee (f := 29) rfl ?_); refine goesL_ (some 22) rfl rfl Try.func29 (by kernel_rfl) rfl #[.int .i64 a0, .int .u32 a1, .int .u32 a2] rfl (by (try simp only [List.map_toArray, List.map_cons, List.map_nil]); first | done | rfl | (simp only [List.length_drop, List.length_take]; rfl)) ?_; (with_reducible refine (alu_simple.calls a0 a1 a2 t103 false _ A4.out).mono ?_); rintro e w' ⟨rfl, ⟨nd, rfl⟩⟩; refine ⟨_, rfl, ?_⟩) | ((with_reducible refine gate_callee (f := 31) rfl ?_); refine goesL_ (some 77) rfl rfl Try.func31 (by kernel_rfl) rfl #[.int .u32 a1, .int .u32 a2] rfl (by (try simp only [List.map_toArray, List.map_cons, List.map_nil]); first | done | rfl | (simp only [List.length_drop, List.length_take]; rfl)) ?_; (with_reducible refine (alu_divideu.calls a1 a2 t107 t108 _ A13.out).mono ?_); rintro e w' ⟨rfl, ⟨nd, rfl⟩⟩; refine ⟨_, rfl, ?_⟩))
                go_ret2
                exact ⟨by first | rfl | (simp; done) | (simp [*]; done), by repeat (first | exact Drawn0.refl _ | apply Drawn0.step)⟩
              · rw [if_neg c12] at H
                have c12b0 : (a0 == 15) = false := beq_eq_false_iff_ne.mpr c12
                have c12b1 : (a0 != 15) = true := bne_iff_ne.mpr c12
                by_cases c14 : a0 = 16
                · rw [if_pos c14] at H
                  have c14b0 : (a0 == 16) = true := beq_iff_eq.mpr c14
                  have c14b1 : (a0 != 16) = false := bne_eq_false_iff_eq.mpr c14
                  clear c14
                  replace H := Option.bind_eq_some_iff.mp H
                  obtain ⟨⟨t109, t110⟩, A150, H⟩ := H
                  replace H : (some (t110, 0)) = some (r1, r2) := H
                  have A15 := Aside0.mk A150
                  clear A150
                  simp only [Option.some.injEq, Prod.mk.injEq] at H
                  obtain ⟨rfl, rfl⟩ := H
                  go_enter Try.func16, Try.ntmps16
                  go_wp2_with (first | ((with_reducible refine gate_callee (f := 29) rfl ?_); refine goesL_ (some 22) rfl rfl Try.func29 (by kernel_rfl) rfl #[.int .i64 a0, .int .u32 a1, .int .u32 a2] rfl (by (try simp only [List.map_toArray, List.map_cons, List.map_nil]); first | done | rfl | (simp only [List.length_drop, List.length_take]; rfl)) ?_; (with_reducible refine (alu_simple.calls a0 a1 a2 t103 false _ A4.out).mono ?_); rintro e w' ⟨rfl, ⟨nd, rfl⟩⟩; refine ⟨_, rfl, ?_⟩) | ((with_reducible refine gate_callee (f := 30) rfl ?_); refine goesL_ (some 86) rfl rfl Try.func30 (by kernel_rfl) rfl #[.int .u32 a1, .int .u32 a2] rfl (by (try simp only [List.map_toArray, List.map_cons, List.map_nil]); first | done | rfl | (simp only [List.length_drop, List.length_take]; rfl)) ?_; (with_reducible refine (alu_divide.calls a1 a2 t109 t110 _ A15.out).mono ?_); rintro e w' ⟨rfl, ⟨nd, rfl⟩⟩; refine ⟨_, rfl, ?_⟩))
                  go_ret2
                  exact ⟨by first | rfl | (simp; done) | (simp [*]; done), by repeat (first | exact Drawn0.refl _ | apply Drawn0.step)⟩
                · rw [if_neg c14] at H
                  have c14b0 : (a0 == 16) = false := beq_eq_false_iff_ne.mpr c14
                  have c14b1 : (a0 != 16) = true := bne_iff_ne.mpr c14
                  by_cases c16 : a0 = 17
                  · rw [if_pos c16] at H
                    have c16b0 : (a0 == 17) = true := beq_iff_eq.mpr c16
                    have c16b1 : (a0 != 17) = false := bne_eq_false_iff_eq.mpr c16
                    clear c16
                    replace H := Option.bind_eq_some_iff.mp H
                    obtain ⟨⟨t111, t112⟩, A170, H⟩ := H
                    replace H : (some (t112, 0)) = some (r1, r2) := H
                    have A17 := Aside0.mk A170
                    clear A170
                    simp only [Option.some.injEq, Prod.mk.injEq] at H
                    obtain ⟨rfl, rfl⟩ := H
                    go_enter Try.func16, Try.ntmps16
                    go_wp2_with (first | ((with_reducible refine gate_callee (f := 29) rfl ?_); refine goesL_ (some 22) rfl rfl Try.func29 (by kernel_rfl) rfl #[.int .i64 a0, .int .u32 a1, .int .u32 a2] rfl (by (try simp only [List.map_toArray, List.map_cons, List.map_nil]); first | done | rfl | (simp only [List.length_drop, List.length_take]; rfl)) ?_; (with_reducible refine (alu_simple.calls a0 a1 a2 t103 false _ A4.out).mono ?_); rintro e w' ⟨rfl, ⟨nd, rfl⟩⟩; refine ⟨_, rfl, ?_⟩) | ((with_reducible refine gate_callee (f := 31) rfl ?_); refine goesL_ (some 95) rfl rfl Try.func31 (by kernel_rfl) rfl #[.int .u32 a1, .int .u32 a2] rfl (by (try simp only [List.map_toArray, List.map_cons, List.map_nil]); first | done | rfl | (simp only [List.length_drop, List.length_take]; rfl)) ?_; (with_reducible refine (alu_divideu.calls a1 a2 t111 t112 _ A17.out).mono ?_); rintro e w' ⟨rfl, ⟨nd, rfl⟩⟩; refine ⟨_, rfl, ?_⟩))
                    go_ret2
                    exact ⟨by first | rfl | (simp; done) | (simp [*]; done), by repeat (first | exact Drawn0.refl _ | apply Drawn0.step)⟩
                  · rw [if_neg c16] at H
                    have c16b0 : (a0 == 17) = false := beq_eq_false_iff_ne.mpr c16
                    have c16b1 : (a0 != 17) = true := bne_iff_ne.mpr c16
                    simp only [Option.some.injEq, Prod.mk.injEq] at H
                    obtain ⟨rfl, rfl⟩ := H
                    go_enter Try.func16, Try.ntmps16
                    go_wp2_with (first | ((with_reducible refine gate_callee (f := 29) rfl ?_); refine goesL_ (some 22) rfl rfl Try.func29 (by kernel_rfl) rfl #[.int .i64 a0, .int .u32 a1, .int .u32 a2] rfl (by (try simp only [List.map_toArray, List.map_cons, List.map_nil]); first | done | rfl | (simp only [List.length_drop, List.length_take]; rfl)) ?_; (with_reducible refine (alu_simple.calls a0 a1 a2 t103 false _ A4.out).mono ?_); rintro e w' ⟨rfl, ⟨nd, rfl⟩⟩; refine ⟨_, rfl, ?_⟩))
                    go_ret2
                    exact ⟨by first | rfl | (simp; done) | (simp [*]; done), by repeat (first | exact Drawn0.refl _ | apply Drawn0.step)⟩
/-! ### tag_source: function 32 -/
def tag_source.f (a0 : Int) (a1 : Int) (a2 : Int) : Option (Int × Bool) := if a0 = 2 then (if a0 = 7 then (if (mn (wrap64 (a1 - a2)) 31) ≥ 0 then (some (mn (wrap64 (a1 - a2)) 31, decide ((mn (wrap64 (a1 - a2)) 31) < 32))) else (some (mn (wrap64 (a1 - a2)) 31, false))) else (if (wrap64 (a1 - a2)) ≥ 0 then (some (wrap64 (a1 - a2), decide ((wrap64 (a1 - a2)) < 32))) else (some (wrap64 (a1 - a2), false)))) else (if a0 = 7 then (if (mn (wrap64 (a1 + a2)) 31) ≥ 0 then (some (mn (wrap64 (a1 + a2)) 31, decide ((mn (wrap64 (a1 + a2)) 31) < 32))) else (some (mn (wrap64 (a1 + a2)) 31, false))) else (if (wrap64 (a1 + a2)) ≥ 0 then (some (wrap64 (a1 + a2), decide ((wrap64 (a1 + a2)) < 32))) else (some (wrap64 (a1 + a2), false))))
set_option maxHeartbeats 8000000 in
set_option maxRecDepth 100000 in
theorem tag_source.calls (a0 : Int) (a1 : Int) (a2 : Int) (r1 : Int) (r2 : Bool) (w : World) (h : tag_source.f a0 a1 a2 = some (r1, r2)) :
    Calls Try.prog 32 #[.int .i64 a0, .int .i64 a1, .int .i64 a2] w fun e w' => e = .returned (.tuple #[.int .i64 r1, .bool r2]) ∧ Below w.heap.size w w' := by
  have HB := Aside0.mk (Below.refl w.heap.size w)
  have H : (if a0 = 2 then (if a0 = 7 then (if (mn (wrap64 (a1 - a2)) 31) ≥ 0 then (some (mn (wrap64 (a1 - a2)) 31, decide ((mn (wrap64 (a1 - a2)) 31) < 32))) else (some (mn (wrap64 (a1 - a2)) 31, false))) else (if (wrap64 (a1 - a2)) ≥ 0 then (some (wrap64 (a1 - a2), decide ((wrap64 (a1 - a2)) < 32))) else (some (wrap64 (a1 - a2), false)))) else (if a0 = 7 then (if (mn (wrap64 (a1 + a2)) 31) ≥ 0 then (some (mn (wrap64 (a1 + a2)) 31, decide ((mn (wrap64 (a1 + a2)) 31) < 32))) else (some (mn (wrap64 (a1 + a2)) 31, false))) else (if (wrap64 (a1 + a2)) ≥ 0 then (some (wrap64 (a1 + a2), decide ((wrap64 (a1 + a2)) < 32))) else (some (wrap64 (a1 + a2), false))))) = some (r1, r2) := h
  clear h
  by_cases c4 : a0 = 2
  · rw [if_pos c4] at H
    have c4b0 : (a0 == 2) = true := beq_iff_eq.mpr c4
    have c4b1 : (a0 != 2) = false := bne_eq_false_iff_eq.mpr c4
    clear c4
    by_cases c5 : a0 = 7
    · rw [if_pos c5] at H
      have c5b0 : (a0 == 7) = true := beq_iff_eq.mpr c5
      have c5b1 : (a0 != 7) = false := bne_eq_false_iff_eq.mpr c5
      clear c5
      obtain ⟨ji6, hji6⟩ : ∃ j_ : Int, (mn (wrap64 (a1 - a2)) 31) = j_ := ⟨_, rfl⟩
      replace H : (if (ji6) ≥ 0 then (some (ji6, decide ((ji6) < 32))) else (some (ji6, false))) = some (r1, r2) := by first | (rw [hji6] at H; exact H) | (simp only [hji6] at H ⊢; exact H)
      (try (have hji6h : ji6 ≤ 31 := by (rw [← hji6]; unfold mn; (repeat' split) <;> omega)))
      (try (have hji6g : ji6 ≤ 64 := by omega))
      have hji6_ : (if 31 < (wrap64 (a1 - a2)) then 31 else (wrap64 (a1 - a2))) = ji6 := hji6
      by_cases c7 : (ji6) ≥ 0
      · rw [if_pos c7] at H
        have c7b0 : decide (0 ≤ (ji6)) = true := decide_eq_true c7
        clear c7
        simp only [Option.some.injEq, Prod.mk.injEq] at H
        obtain ⟨rfl, rfl⟩ := H
        go_enter Try.func32, Try.ntmps32
        go_wp2
        go_ret2
        exact ⟨by first | rfl | (simp [errW_none, errW_some] <;> rfl) | (simp only [← hji6]; first | rfl | (simp [errW_none, errW_some] <;> rfl)) | (simp [*, errW_none, errW_some] <;> rfl), by repeat (first | (with_reducible first | exact HB.out | apply below_alloc | apply pw_below_drewN | apply below_drew1) | exact HB.out)⟩
      · rw [if_neg c7] at H
        have c7b0 : decide (0 ≤ (ji6)) = false := decide_eq_false c7
        clear c7
        simp only [Option.some.injEq, Prod.mk.injEq] at H
        obtain ⟨rfl, rfl⟩ := H
        go_enter Try.func32, Try.ntmps32
        go_wp2
        go_ret2
        exact ⟨by first | rfl | (simp [errW_none, errW_some] <;> rfl) | (simp only [← hji6]; first | rfl | (simp [errW_none, errW_some] <;> rfl)) | (simp [*, errW_none, errW_some] <;> rfl), by repeat (first | (with_reducible first | exact HB.out | apply below_alloc | apply pw_below_drewN | apply below_drew1) | exact HB.out)⟩
    · rw [if_neg c5] at H
      have c5b0 : (a0 == 7) = false := beq_eq_false_iff_ne.mpr c5
      have c5b1 : (a0 != 7) = true := bne_iff_ne.mpr c5
      by_cases c8 : (wrap64 (a1 - a2)) ≥ 0
      · rw [if_pos c8] at H
        have c8b0 : decide (0 ≤ (wrap64 (a1 - a2))) = true := decide_eq_true c8
        clear c8
        simp only [Option.some.injEq, Prod.mk.injEq] at H
        obtain ⟨rfl, rfl⟩ := H
        go_enter Try.func32, Try.ntmps32
        go_wp2
        go_ret2
        exact ⟨by first | rfl | (simp [errW_none, errW_some] <;> rfl) | (simp [*, errW_none, errW_some] <;> rfl), by repeat (first | (with_reducible first | exact HB.out | apply below_alloc | apply pw_below_drewN | apply below_drew1) | exact HB.out)⟩
      · rw [if_neg c8] at H
        have c8b0 : decide (0 ≤ (wrap64 (a1 - a2))) = false := decide_eq_false c8
        clear c8
        simp only [Option.some.injEq, Prod.mk.injEq] at H
        obtain ⟨rfl, rfl⟩ := H
        go_enter Try.func32, Try.ntmps32
        go_wp2
        go_ret2
        exact ⟨by first | rfl | (simp [errW_none, errW_some] <;> rfl) | (simp [*, errW_none, errW_some] <;> rfl), by repeat (first | (with_reducible first | exact HB.out | apply below_alloc | apply pw_below_drewN | apply below_drew1) | exact HB.out)⟩
  · rw [if_neg c4] at H
    have c4b0 : (a0 == 2) = false := beq_eq_false_iff_ne.mpr c4
    have c4b1 : (a0 != 2) = true := bne_iff_ne.mpr c4
    by_cases c9 : a0 = 7
    · rw [if_pos c9] at H
      have c9b0 : (a0 == 7) = true := beq_iff_eq.mpr c9
      have c9b1 : (a0 != 7) = false := bne_eq_false_iff_eq.mpr c9
      clear c9
      obtain ⟨ji10, hji10⟩ : ∃ j_ : Int, (mn (wrap64 (a1 + a2)) 31) = j_ := ⟨_, rfl⟩
      replace H : (if (ji10) ≥ 0 then (some (ji10, decide ((ji10) < 32))) else (some (ji10, false))) = some (r1, r2) := by first | (rw [hji10] at H; exact H) | (simp only [hji10] at H ⊢; exact H)
      (try (have hji10h : ji10 ≤ 31 := by (rw [← hji10]; unfold mn; (repeat' split) <;> omega)))
      (try (have hji10g : ji10 ≤ 64 := by omega))
      have hji10_ : (if 31 < (wrap64 (a1 + a2)) then 31 else (wrap64 (a1 + a2))) = ji10 := hji10
      by_cases c11 : (ji10) ≥ 0
      · rw [if_pos c11] at H
        have c11b0 : decide (0 ≤ (ji10)) = true := decide_eq_true c11
        clear c11
        simp only [Option.some.injEq, Prod.mk.injEq] at H
        obtain ⟨rfl, rfl⟩ := H
        go_enter Try.func32, Try.ntmps32
        go_wp2
        go_ret2
        exact ⟨by first | rfl | (simp [errW_none, errW_some] <;> rfl) | (simp only [← hji10]; first | rfl | (simp [errW_none, errW_some] <;> rfl)) | (simp [*, errW_none, errW_some] <;> rfl), by repeat (first | (with_reducible first | exact HB.out | apply below_alloc | apply pw_below_drewN | apply below_drew1) | exact HB.out)⟩
      · rw [if_neg c11] at H
        have c11b0 : decide (0 ≤ (ji10)) = false := decide_eq_false c11
        clear c11
        simp only [Option.some.injEq, Prod.mk.injEq] at H
        obtain ⟨rfl, rfl⟩ := H
        go_enter Try.func32, Try.ntmps32
        go_wp2
        go_ret2
        exact ⟨by first | rfl | (simp [errW_none, errW_some] <;> rfl) | (simp only [← hji10]; first | rfl | (simp [errW_none, errW_some] <;> rfl)) | (simp [*, errW_none, errW_some] <;> rfl), by repeat (first | (with_reducible first | exact HB.out | apply below_alloc | apply pw_below_drewN | apply below_drew1) | exact HB.out)⟩
    · rw [if_neg c9] at H
      have c9b0 : (a0 == 7) = false := beq_eq_false_iff_ne.mpr c9
      have c9b1 : (a0 != 7) = true := bne_iff_ne.mpr c9
      by_cases c12 : (wrap64 (a1 + a2)) ≥ 0
      · rw [if_pos c12] at H
        have c12b0 : decide (0 ≤ (wrap64 (a1 + a2))) = true := decide_eq_true c12
        clear c12
        simp only [Option.some.injEq, Prod.mk.injEq] at H
        obtain ⟨rfl, rfl⟩ := H
        go_enter Try.func32, Try.ntmps32
        go_wp2
        go_ret2
        exact ⟨by first | rfl | (simp [errW_none, errW_some] <;> rfl) | (simp [*, errW_none, errW_some] <;> rfl), by repeat (first | (with_reducible first | exact HB.out | apply below_alloc | apply pw_below_drewN | apply below_drew1) | exact HB.out)⟩
      · rw [if_neg c12] at H
        have c12b0 : decide (0 ≤ (wrap64 (a1 + a2))) = false := decide_eq_false c12
        clear c12
        simp only [Option.some.injEq, Prod.mk.injEq] at H
        obtain ⟨rfl, rfl⟩ := H
        go_enter Try.func32, Try.ntmps32
        go_wp2
        go_ret2
        exact ⟨by first | rfl | (simp [errW_none, errW_some] <;> rfl) | (simp [*, errW_none, errW_some] <;> rfl), by repeat (first | (with_reducible first | exact HB.out | apply below_alloc | apply pw_below_drewN | apply below_drew1) | exact HB.out)⟩
end Go.Proofs.Ytbhoijkamnaopaa.Alu
