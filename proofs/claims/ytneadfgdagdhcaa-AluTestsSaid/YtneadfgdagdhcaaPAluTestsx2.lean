-- PRINTED BY print.sh 35421559b90ae4d0a3588c463048766b98c2df88dd9212a6774a882060cdf62d: not written by this session
import Derived.Test.YtneadfgdagdhcaaPAluTestsx0
import Derived.Test.YtneadfgdagdhcaaPAluTestsx1
namespace Go.Proofs.Ytneadfgdagdhcaa.PAluTests
open Go.RowKit Go.Proofs.YtneadfgdagdhcaaW.PrintWords Go.Proofs.YtneadfgdagdhcaaW.PrintLast Go.Proofs.YtneadfgdagdhcaaW.PrintMore
attribute [local go_sem] max2_int min2_int max_two min_two max_three min_three max_four min_four   -- for this text's walks alone
set_option linter.unusedVariables false
set_option linter.unusedSimpArgs false

/-! ### tinctureref1_Test: function 19 -/
def tinctureref1_Test.f (a0 : Int) (a1 : Int) (a2 : Int) : Option (Bool × Bool) := if a0 = 0 then (some ((a1 == a2), true)) else (if a0 = 1 then (some ((a1 != a2), true)) else (if a0 = 4 then ((tinctureref1_wide.f a1).bind fun t122 => ((tinctureref1_wide.f a2).bind fun t123 => (some (decide (t122 < t123), true)))) else (if a0 = 5 then ((tinctureref1_wide.f a1).bind fun t124 => ((tinctureref1_wide.f a2).bind fun t125 => (some (decide (t124 ≥ t125), true)))) else (if a0 = 6 then (some (decide (a1 < a2), true)) else (if a0 = 7 then (some (decide (a1 ≥ a2), true)) else (some (false, false)))))))
set_option maxHeartbeats 8000000 in
set_option maxRecDepth 100000 in
theorem tinctureref1_Test.calls (a0 : Int) (a1 : Int) (a2 : Int) (r1 : Bool) (r2 : Bool) (w : World) (h : tinctureref1_Test.f a0 a1 a2 = some (r1, r2)) :
    Calls Try.prog 19 #[.int .i64 a0, .int .u32 a1, .int .u32 a2] w fun e w' => e = .returned (.tuple #[.bool r1, .bool r2]) ∧ Drawn0 w w' := by
  have H : (if a0 = 0 then (some ((a1 == a2), true)) else (if a0 = 1 then (some ((a1 != a2), true)) else (if a0 = 4 then ((tinctureref1_wide.f a1).bind fun t122 => ((tinctureref1_wide.f a2).bind fun t123 => (some (decide (t122 < t123), true)))) else (if a0 = 5 then ((tinctureref1_wide.f a1).bind fun t124 => ((tinctureref1_wide.f a2).bind fun t125 => (some (decide (t124 ≥ t125), true)))) else (if a0 = 6 then (some (decide (a1 < a2), true)) else (if a0 = 7 then (some (decide (a1 ≥ a2), true)) else (some (false, false)))))))) = some (r1, r2) := h
  clear h
  by_cases c4 : a0 = 0
  · rw [if_pos c4] at H
    have c4b0 : (a0 == 0) = true := beq_iff_eq.mpr c4
    have c4b1 : (a0 != 0) = false := bne_eq_false_iff_eq.mpr c4
    clear c4
    simp only [Option.some.injEq, Prod.mk.injEq] at H
    obtain ⟨rfl, rfl⟩ := H
    go_enter Try.func19, Try.ntmps19
    go_wp2
    go_ret2
    exact ⟨by first | rfl | (simp; done) | (simp [*]; done), by repeat (first | exact Drawn0.refl _ | apply Drawn0.step)⟩
  · rw [if_neg c4] at H
    have c4b0 : (a0 == 0) = false := beq_eq_false_iff_ne.mpr c4
    have c4b1 : (a0 != 0) = true := bne_iff_ne.mpr c4
    by_cases c5 : a0 = 1
    · rw [if_pos c5] at H
      have c5b0 : (a0 == 1) = true := beq_iff_eq.mpr c5
      have c5b1 : (a0 != 1) = false := bne_eq_false_iff_eq.mpr c5
      clear c5
      simp only [Option.some.injEq, Prod.mk.injEq] at H
      obtain ⟨rfl, rfl⟩ := H
      go_enter Try.func19, Try.ntmps19
      go_wp2
      go_ret2
      exact ⟨by first | rfl | (simp; done) | (simp [*]; done), by repeat (first | exact Drawn0.refl _ | apply Drawn0.step)⟩
    · rw [if_neg c5] at H
      have c5b0 : (a0 == 1) = false := beq_eq_false_iff_ne.mpr c5
      have c5b1 : (a0 != 1) = true := bne_iff_ne.mpr c5
      by_cases c6 : a0 = 4
      · rw [if_pos c6] at H
        have c6b0 : (a0 == 4) = true := beq_iff_eq.mpr c6
        have c6b1 : (a0 != 4) = false := bne_eq_false_iff_eq.mpr c6
        clear c6
        replace H := Option.bind_eq_some_iff.mp H
        obtain ⟨t122, A70, H⟩ := H
        replace H : ((tinctureref1_wide.f a2).bind fun t123 => (some (decide (t122 < t123), true))) = some (r1, r2) := H
        have A7 := Aside0.mk A70
        clear A70
        replace H := Option.bind_eq_some_iff.mp H
        obtain ⟨t123, A80, H⟩ := H
        replace H : (some (decide (t122 < t123), true)) = some (r1, r2) := H
        have A8 := Aside0.mk A80
        clear A80
        simp only [Option.some.injEq, Prod.mk.injEq] at H
        obtain ⟨rfl, rfl⟩ := H
        go_enter Try.func19, Try.ntmps19
        go_wp2_with (first | ((with_reducible refine gate_callee (f := 25) rfl ?_); refine goesL_ (some 22) rfl rfl Try.func25 (by kernel_rfl) rfl #[.int .u32 a1] rfl (by (try simp only [List.map_toArray, List.map_cons, List.map_nil]); first | done | rfl | (simp only [List.length_drop, List.length_take]; rfl)) ?_; (with_reducible refine (tinctureref1_wide.calls a1 t122 _ A7.out).mono ?_); rintro e w' ⟨rfl, ⟨nd, rfl⟩⟩; refine ⟨_, rfl, ?_⟩) | ((with_reducible refine gate_callee (f := 25) rfl ?_); refine goesL_ (some 24) rfl rfl Try.func25 (by kernel_rfl) rfl #[.int .u32 a2] rfl (by (try simp only [List.map_toArray, List.map_cons, List.map_nil]); first | done | rfl | (simp only [List.length_drop, List.length_take]; rfl)) ?_; (with_reducible refine (tinctureref1_wide.calls a2 t123 _ A8.out).mono ?_); rintro e w' ⟨rfl, ⟨nd, rfl⟩⟩; refine ⟨_, rfl, ?_⟩))
        go_ret2
        exact ⟨by first | rfl | (simp; done) | (simp [*]; done), by repeat (first | exact Drawn0.refl _ | apply Drawn0.step)⟩
      · rw [if_neg c6] at H
        have c6b0 : (a0 == 4) = false := beq_eq_false_iff_ne.mpr c6
        have c6b1 : (a0 != 4) = true := bne_iff_ne.mpr c6
        by_cases c9 : a0 = 5
        · rw [if_pos c9] at H
          have c9b0 : (a0 == 5) = true := beq_iff_eq.mpr c9
          have c9b1 : (a0 != 5) = false := bne_eq_false_iff_eq.mpr c9
          clear c9
          replace H := Option.bind_eq_some_iff.mp H
          obtain ⟨t124, A100, H⟩ := H
          replace H : ((tinctureref1_wide.f a2).bind fun t125 => (some (decide (t124 ≥ t125), true))) = some (r1, r2) := H
          have A10 := Aside0.mk A100
          clear A100
          replace H := Option.bind_eq_some_iff.mp H
          obtain ⟨t125, A110, H⟩ := H
          replace H : (some (decide (t124 ≥ t125), true)) = some (r1, r2) := H
          have A11 := Aside0.mk A110
          clear A110
          simp only [Option.some.injEq, Prod.mk.injEq] at H
          obtain ⟨rfl, rfl⟩ := H
          go_enter Try.func19, Try.ntmps19
          go_wp2_with (first | ((with_reducible refine gate_callee (f := 25) rfl ?_); refine goesL_ (some 29) rfl rfl Try.func25 (by kernel_rfl) rfl #[.int .u32 a1] rfl (by (try simp only [List.map_toArray, List.map_cons, List.map_nil]); first | done | rfl | (simp only [List.length_drop, List.length_take]; rfl)) ?_; (with_reducible refine (tinctureref1_wide.calls a1 t124 _ A10.out).mono ?_); rintro e w' ⟨rfl, ⟨nd, rfl⟩⟩; refine ⟨_, rfl, ?_⟩) | ((with_reducible refine gate_callee (f := 25) rfl ?_); refine goesL_ (some 31) rfl rfl Try.func25 (by kernel_rfl) rfl #[.int .u32 a2] rfl (by (try simp only [List.map_toArray, List.map_cons, List.map_nil]); first | done | rfl | (simp only [List.length_drop, List.length_take]; rfl)) ?_; (with_reducible refine (tinctureref1_wide.calls a2 t125 _ A11.out).mono ?_); rintro e w' ⟨rfl, ⟨nd, rfl⟩⟩; refine ⟨_, rfl, ?_⟩))
          go_ret2
          exact ⟨by first | rfl | (simp; done) | (simp [*]; done), by repeat (first | exact Drawn0.refl _ | apply Drawn0.step)⟩
        · rw [if_neg c9] at H
          have c9b0 : (a0 == 5) = false := beq_eq_false_iff_ne.mpr c9
          have c9b1 : (a0 != 5) = true := bne_iff_ne.mpr c9
          by_cases c12 : a0 = 6
          · rw [if_pos c12] at H
            have c12b0 : (a0 == 6) = true := beq_iff_eq.mpr c12
            have c12b1 : (a0 != 6) = false := bne_eq_false_iff_eq.mpr c12
            clear c12
            simp only [Option.some.injEq, Prod.mk.injEq] at H
            obtain ⟨rfl, rfl⟩ := H
            go_enter Try.func19, Try.ntmps19
            go_wp2
            go_ret2
            exact ⟨by first | rfl | (simp; done) | (simp [*]; done), by repeat (first | exact Drawn0.refl _ | apply Drawn0.step)⟩
          · rw [if_neg c12] at H
            have c12b0 : (a0 == 6) = false := beq_eq_false_iff_ne.mpr c12
            have c12b1 : (a0 != 6) = true := bne_iff_ne.mpr c12
            by_cases c13 : a0 = 7
            · rw [if_pos c13] at H
              have c13b0 : (a0 == 7) = true := beq_iff_eq.mpr c13
              have c13b1 : (a0 != 7) = false := bne_eq_false_iff_eq.mpr c13
              clear c13
              simp only [Option.some.injEq, Prod.mk.injEq] at H
              obtain ⟨rfl, rfl⟩ := H
              go_enter Try.func19, Try.ntmps19
              go_wp2
              go_ret2
              exact ⟨by first | rfl | (simp; done) | (simp [*]; done), by repeat (first | exact Drawn0.refl _ | apply Drawn0.step)⟩
            · rw [if_neg c13] at H
              have c13b0 : (a0 == 7) = false := beq_eq_false_iff_ne.mpr c13
              have c13b1 : (a0 != 7) = true := bne_iff_ne.mpr c13
              simp only [Option.some.injEq, Prod.mk.injEq] at H
              obtain ⟨rfl, rfl⟩ := H
              go_enter Try.func19, Try.ntmps19
              go_wp2
              go_ret2
              exact ⟨by first | rfl | (simp; done) | (simp [*]; done), by repeat (first | exact Drawn0.refl _ | apply Drawn0.step)⟩

/-! ### tinctureref1_Extend: function 20 -/
def tinctureref1_Extend.f (a0 : Int) (a1 : Int) : Option (Int) := if a1 = 8 then (if (Go.bits .and .u32 a0 255) ≥ 128 then (some (Go.bits .or .u32 (Go.bits .and .u32 a0 255) 4294967040)) else (some (Go.bits .and .u32 a0 255))) else (if a1 = 16 then (if (Go.bits .and .u32 a0 65535) ≥ 32768 then (some (Go.bits .or .u32 (Go.bits .and .u32 a0 65535) 4294901760)) else (some (Go.bits .and .u32 a0 65535))) else (some a0))
set_option maxHeartbeats 8000000 in
set_option maxRecDepth 100000 in
theorem tinctureref1_Extend.calls (a0 : Int) (a1 : Int) (r : Int) (w : World) (h : tinctureref1_Extend.f a0 a1 = some r) :
    Calls Try.prog 20 #[.int .u32 a0, .int .i64 a1] w fun e w' => e = .returned (.int .u32 r) ∧ Drawn0 w w' := by
  have H : (if a1 = 8 then (if (Go.bits .and .u32 a0 255) ≥ 128 then (some (Go.bits .or .u32 (Go.bits .and .u32 a0 255) 4294967040)) else (some (Go.bits .and .u32 a0 255))) else (if a1 = 16 then (if (Go.bits .and .u32 a0 65535) ≥ 32768 then (some (Go.bits .or .u32 (Go.bits .and .u32 a0 65535) 4294901760)) else (some (Go.bits .and .u32 a0 65535))) else (some a0))) = some r := h
  clear h
  by_cases c3 : a1 = 8
  · rw [if_pos c3] at H
    have c3b0 : (a1 == 8) = true := beq_iff_eq.mpr c3
    have c3b1 : (a1 != 8) = false := bne_eq_false_iff_eq.mpr c3
    clear c3
    by_cases c4 : (Go.bits .and .u32 a0 255) ≥ 128
    · rw [if_pos c4] at H
      have c4b0 : decide (128 ≤ (Go.bits .and .u32 a0 255)) = true := decide_eq_true c4
      clear c4
      obtain rfl := Option.some.inj H
      go_enter Try.func20, Try.ntmps20
      go_wp2
      go_ret
      exact ⟨by first | rfl | (simp; done) | (simp [*]; done), by repeat (first | exact Drawn0.refl _ | apply Drawn0.step)⟩
    · rw [if_neg c4] at H
      have c4b0 : decide (128 ≤ (Go.bits .and .u32 a0 255)) = false := decide_eq_false c4
      clear c4
      obtain rfl := Option.some.inj H
      go_enter Try.func20, Try.ntmps20
      go_wp2
      go_ret
      exact ⟨by first | rfl | (simp; done) | (simp [*]; done), by repeat (first | exact Drawn0.refl _ | apply Drawn0.step)⟩
  · rw [if_neg c3] at H
    have c3b0 : (a1 == 8) = false := beq_eq_false_iff_ne.mpr c3
    have c3b1 : (a1 != 8) = true := bne_iff_ne.mpr c3
    by_cases c5 : a1 = 16
    · rw [if_pos c5] at H
      have c5b0 : (a1 == 16) = true := beq_iff_eq.mpr c5
      have c5b1 : (a1 != 16) = false := bne_eq_false_iff_eq.mpr c5
      clear c5
      by_cases c6 : (Go.bits .and .u32 a0 65535) ≥ 32768
      · rw [if_pos c6] at H
        have c6b0 : decide (32768 ≤ (Go.bits .and .u32 a0 65535)) = true := decide_eq_true c6
        clear c6
        obtain rfl := Option.some.inj H
        go_enter Try.func20, Try.ntmps20
        go_wp2
        go_ret
        exact ⟨by first | rfl | (simp; done) | (simp [*]; done), by repeat (first | exact Drawn0.refl _ | apply Drawn0.step)⟩
      · rw [if_neg c6] at H
        have c6b0 : decide (32768 ≤ (Go.bits .and .u32 a0 65535)) = false := decide_eq_false c6
        clear c6
        obtain rfl := Option.some.inj H
        go_enter Try.func20, Try.ntmps20
        go_wp2
        go_ret
        exact ⟨by first | rfl | (simp; done) | (simp [*]; done), by repeat (first | exact Drawn0.refl _ | apply Drawn0.step)⟩
    · rw [if_neg c5] at H
      have c5b0 : (a1 == 16) = false := beq_eq_false_iff_ne.mpr c5
      have c5b1 : (a1 != 16) = true := bne_iff_ne.mpr c5
      obtain rfl := Option.some.inj H
      go_enter Try.func20, Try.ntmps20
      go_wp2
      go_ret
      exact ⟨by first | rfl | (simp; done) | (simp [*]; done), by repeat (first | exact Drawn0.refl _ | apply Drawn0.step)⟩

/-! ### tincturelaw1_AluTests: function 11 -/
def tincturelaw1_AluTests.f (a0 : Int) (a1 : Int) (a2 : Int) (a3 : Int) : Option (Bool) := (tincturelaw1_awake.f).bind fun t126 => (if t126 = true then ((alu_Test.f a0 a1 a2).bind fun bt127 => ((tinctureref1_Test.f a0 a1 a2).bind fun bt129 => (if (bt127.1 == bt129.1) = true then (if ((bt127.2 == 0) == bt129.2) = true then (if bt129.2 = true then ((alu_Extend.f a1 a3).bind fun t131 => ((tinctureref1_Extend.f a1 a3).bind fun t132 => (some (t131 == t132)))) else (if bt127.2 = 1 then ((alu_Extend.f a1 a3).bind fun t133 => ((tinctureref1_Extend.f a1 a3).bind fun t134 => (some (t133 == t134)))) else (some false))) else (some false)) else (some false)))) else (some false))
set_option maxHeartbeats 8000000 in
set_option maxRecDepth 100000 in
theorem tincturelaw1_AluTests.calls (a0 : Int) (a1 : Int) (a2 : Int) (a3 : Int) (r : Bool) (w : World) (h : tincturelaw1_AluTests.f a0 a1 a2 a3 = some r) :
    Calls Try.prog 11 #[.int .i64 a0, .int .u32 a1, .int .u32 a2, .int .i64 a3] w fun e w' => e = .returned (.bool r) ∧ Drawn0 w w' := by
  have H : ((tincturelaw1_awake.f).bind fun t126 => (if t126 = true then ((alu_Test.f a0 a1 a2).bind fun bt127 => ((tinctureref1_Test.f a0 a1 a2).bind fun bt129 => (if (bt127.1 == bt129.1) = true then (if ((bt127.2 == 0) == bt129.2) = true then (if bt129.2 = true then ((alu_Extend.f a1 a3).bind fun t131 => ((tinctureref1_Extend.f a1 a3).bind fun t132 => (some (t131 == t132)))) else (if bt127.2 = 1 then ((alu_Extend.f a1 a3).bind fun t133 => ((tinctureref1_Extend.f a1 a3).bind fun t134 => (some (t133 == t134)))) else (some false))) else (some false)) else (some false)))) else (some false))) = some r := h
  clear h
  replace H := Option.bind_eq_some_iff.mp H
  obtain ⟨t126, A50, H⟩ := H
  replace H : (if t126 = true then ((alu_Test.f a0 a1 a2).bind fun bt127 => ((tinctureref1_Test.f a0 a1 a2).bind fun bt129 => (if (bt127.1 == bt129.1) = true then (if ((bt127.2 == 0) == bt129.2) = true then (if bt129.2 = true then ((alu_Extend.f a1 a3).bind fun t131 => ((tinctureref1_Extend.f a1 a3).bind fun t132 => (some (t131 == t132)))) else (if bt127.2 = 1 then ((alu_Extend.f a1 a3).bind fun t133 => ((tinctureref1_Extend.f a1 a3).bind fun t134 => (some (t133 == t134)))) else (some false))) else (some false)) else (some false)))) else (some false)) = some r := H
  have A5 := Aside0.mk A50
  clear A50
  by_cases c6 : t126 = true
  · subst c6
    have H1 : ((alu_Test.f a0 a1 a2).bind fun bt127 => ((tinctureref1_Test.f a0 a1 a2).bind fun bt129 => (if (bt127.1 == bt129.1) = true then (if ((bt127.2 == 0) == bt129.2) = true then (if bt129.2 = true then ((alu_Extend.f a1 a3).bind fun t131 => ((tinctureref1_Extend.f a1 a3).bind fun t132 => (some (t131 == t132)))) else (if bt127.2 = 1 then ((alu_Extend.f a1 a3).bind fun t133 => ((tinctureref1_Extend.f a1 a3).bind fun t134 => (some (t133 == t134)))) else (some false))) else (some false)) else (some false)))) = some r := by rw [if_pos rfl] at H; exact H
    clear H
    have H := H1
    clear H1
    replace H := Option.bind_eq_some_iff.mp H
    obtain ⟨⟨t127, t128⟩, A70, H⟩ := H
    replace H : ((tinctureref1_Test.f a0 a1 a2).bind fun bt129 => (if (t127 == bt129.1) = true then (if ((t128 == 0) == bt129.2) = true then (if bt129.2 = true then ((alu_Extend.f a1 a3).bind fun t131 => ((tinctureref1_Extend.f a1 a3).bind fun t132 => (some (t131 == t132)))) else (if t128 = 1 then ((alu_Extend.f a1 a3).bind fun t133 => ((tinctureref1_Extend.f a1 a3).bind fun t134 => (some (t133 == t134)))) else (some false))) else (some false)) else (some false))) = some r := H
    have A7 := Aside0.mk A70
    clear A70
    replace H := Option.bind_eq_some_iff.mp H
    obtain ⟨⟨t129, t130⟩, A80, H⟩ := H
    replace H : (if (t127 == t129) = true then (if ((t128 == 0) == t130) = true then (if t130 = true then ((alu_Extend.f a1 a3).bind fun t131 => ((tinctureref1_Extend.f a1 a3).bind fun t132 => (some (t131 == t132)))) else (if t128 = 1 then ((alu_Extend.f a1 a3).bind fun t133 => ((tinctureref1_Extend.f a1 a3).bind fun t134 => (some (t133 == t134)))) else (some false))) else (some false)) else (some false)) = some r := H
    have A8 := Aside0.mk A80
    clear A80
    by_cases c9 : (t127 == t129) = true
    · rw [if_pos c9] at H
      have c9b0 : (t127 == t129) = true := c9
      (try (have c9b1 : decide (t127 = t129) = true := by simpa using c9))
      (try (have c9b2 : (t127 == t129) = true := by simpa using c9))
      clear c9
      by_cases c10 : ((t128 == 0) == t130) = true
      · rw [if_pos c10] at H
        have c10b0 : ((t128 == 0) == t130) = true := c10
        (try (have c10b1 : decide ((t128 == 0) = t130) = true := by simpa using c10))
        (try (have c10b2 : ((t128 == 0) == t130) = true := by simpa using c10))
        clear c10
        by_cases c11 : t130 = true
        · subst c11
          have H1 : ((alu_Extend.f a1 a3).bind fun t131 => ((tinctureref1_Extend.f a1 a3).bind fun t132 => (some (t131 == t132)))) = some r := by rw [if_pos rfl] at H; exact H
          clear H
          have H := H1
          clear H1
          replace H := Option.bind_eq_some_iff.mp H
          obtain ⟨t131, A120, H⟩ := H
          replace H : ((tinctureref1_Extend.f a1 a3).bind fun t132 => (some (t131 == t132))) = some r := H
          have A12 := Aside0.mk A120
          clear A120
          replace H := Option.bind_eq_some_iff.mp H
          obtain ⟨t132, A130, H⟩ := H
          replace H : (some (t131 == t132)) = some r := H
          have A13 := Aside0.mk A130
          clear A130
          obtain rfl := Option.some.inj H
          go_enter Try.func11, Try.ntmps11
          go_wp2_with (first | ((with_reducible refine gate_callee (f := 13) rfl ?_); refine goesL_ (some 13) rfl rfl Try.func13 (by kernel_rfl) rfl #[] rfl (by (try simp only [List.map_toArray, List.map_cons, List.map_nil]); first | done | rfl | (simp only [List.length_drop, List.length_take]; rfl)) ?_; (with_reducible refine (tincturelaw1_awake.calls  true _ A5.out).mono ?_); rintro e w' ⟨rfl, ⟨nd, rfl⟩⟩; refine ⟨_, rfl, ?_⟩) | ((with_reducible refine gate_callee (f := 18) rfl ?_); refine goesL_ (some 19) rfl rfl Try.func18 (by kernel_rfl) rfl #[.int .i64 a0, .int .u32 a1, .int .u32 a2] rfl (by (try simp only [List.map_toArray, List.map_cons, List.map_nil]); first | done | rfl | (simp only [List.length_drop, List.length_take]; rfl)) ?_; (with_reducible refine (alu_Test.calls a0 a1 a2 t127 t128 _ A7.out).mono ?_); rintro e w' ⟨rfl, ⟨nd, rfl⟩⟩; refine ⟨_, rfl, ?_⟩) | ((with_reducible refine gate_callee (f := 19) rfl ?_); refine goesL_ (some 26) rfl rfl Try.func19 (by kernel_rfl) rfl #[.int .i64 a0, .int .u32 a1, .int .u32 a2] rfl (by (try simp only [List.map_toArray, List.map_cons, List.map_nil]); first | done | rfl | (simp only [List.length_drop, List.length_take]; rfl)) ?_; (with_reducible refine (tinctureref1_Test.calls a0 a1 a2 t129 true _ A8.out).mono ?_); rintro e w' ⟨rfl, ⟨nd, rfl⟩⟩; refine ⟨_, rfl, ?_⟩) | (go_at_call 17; (with_reducible refine (alu_Extend.calls a1 a3 t131 _ A12.out).mono ?_); rintro e w' ⟨rfl, ⟨nd, rfl⟩⟩) | (go_at_call 20; (with_reducible refine (tinctureref1_Extend.calls a1 a3 t132 _ A13.out).mono ?_); rintro e w' ⟨rfl, ⟨nd, rfl⟩⟩))
          go_ret
          exact ⟨by first | rfl | (simp; done) | (simp [*]; done), by repeat (first | exact Drawn0.refl _ | apply Drawn0.step)⟩
        · replace c11 := Bool.eq_false_iff.mpr c11
          subst c11
          have H1 : (if t128 = 1 then ((alu_Extend.f a1 a3).bind fun t133 => ((tinctureref1_Extend.f a1 a3).bind fun t134 => (some (t133 == t134)))) else (some false)) = some r := by rw [if_neg (show ¬ (false = true) by decide)] at H; exact H
          clear H
          have H := H1
          clear H1
          by_cases c14 : t128 = 1
          · rw [if_pos c14] at H
            have c14b0 : (t128 == 1) = true := beq_iff_eq.mpr c14
            have c14b1 : (t128 != 1) = false := bne_eq_false_iff_eq.mpr c14
            clear c14
            replace H := Option.bind_eq_some_iff.mp H
            obtain ⟨t133, A150, H⟩ := H
            replace H : ((tinctureref1_Extend.f a1 a3).bind fun t134 => (some (t133 == t134))) = some r := H
            have A15 := Aside0.mk A150
            clear A150
            replace H := Option.bind_eq_some_iff.mp H
            obtain ⟨t134, A160, H⟩ := H
            replace H : (some (t133 == t134)) = some r := H
            have A16 := Aside0.mk A160
            clear A160
            obtain rfl := Option.some.inj H
            go_enter Try.func11, Try.ntmps11
            go_wp2_with (first | ((with_reducible refine gate_callee (f := 13) rfl ?_); refine goesL_ (some 13) rfl rfl Try.func13 (by kernel_rfl) rfl #[] rfl (by (try simp only [List.map_toArray, List.map_cons, List.map_nil]); first | done | rfl | (simp only [List.length_drop, List.length_take]; rfl)) ?_; (with_reducible refine (tincturelaw1_awake.calls  true _ A5.out).mono ?_); rintro e w' ⟨rfl, ⟨nd, rfl⟩⟩; refine ⟨_, rfl, ?_⟩) | ((with_reducible refine gate_callee (f := 18) rfl ?_); refine goesL_ (some 19) rfl rfl Try.func18 (by kernel_rfl) rfl #[.int .i64 a0, .int .u32 a1, .int .u32 a2] rfl (by (try simp only [List.map_toArray, List.map_cons, List.map_nil]); first | done | rfl | (simp only [List.length_drop, List.length_take]; rfl)) ?_; (with_reducible refine (alu_Test.calls a0 a1 a2 t127 t128 _ A7.out).mono ?_); rintro e w' ⟨rfl, ⟨nd, rfl⟩⟩; refine ⟨_, rfl, ?_⟩) | ((with_reducible refine gate_callee (f := 19) rfl ?_); refine goesL_ (some 26) rfl rfl Try.func19 (by kernel_rfl) rfl #[.int .i64 a0, .int .u32 a1, .int .u32 a2] rfl (by (try simp only [List.map_toArray, List.map_cons, List.map_nil]); first | done | rfl | (simp only [List.length_drop, List.length_take]; rfl)) ?_; (with_reducible refine (tinctureref1_Test.calls a0 a1 a2 t129 false _ A8.out).mono ?_); rintro e w' ⟨rfl, ⟨nd, rfl⟩⟩; refine ⟨_, rfl, ?_⟩) | (go_at_call 17; (with_reducible refine (alu_Extend.calls a1 a3 t133 _ A15.out).mono ?_); rintro e w' ⟨rfl, ⟨nd, rfl⟩⟩) | (go_at_call 20; (with_reducible refine (tinctureref1_Extend.calls a1 a3 t134 _ A16.out).mono ?_); rintro e w' ⟨rfl, ⟨nd, rfl⟩⟩))
            go_ret
            exact ⟨by first | rfl | (simp; done) | (simp [*]; done), by repeat (first | exact Drawn0.refl _ | apply Drawn0.step)⟩
          · rw [if_neg c14] at H
            have c14b0 : (t128 == 1) = false := beq_eq_false_iff_ne.mpr c14
            have c14b1 : (t128 != 1) = true := bne_iff_ne.mpr c14
            obtain rfl := Option.some.inj H
            go_enter Try.func11, Try.ntmps11
            go_wp2_with (first | ((with_reducible refine gate_callee (f := 13) rfl ?_); refine goesL_ (some 13) rfl rfl Try.func13 (by kernel_rfl) rfl #[] rfl (by (try simp only [List.map_toArray, List.map_cons, List.map_nil]); first | done | rfl | (simp only [List.length_drop, List.length_take]; rfl)) ?_; (with_reducible refine (tincturelaw1_awake.calls  true _ A5.out).mono ?_); rintro e w' ⟨rfl, ⟨nd, rfl⟩⟩; refine ⟨_, rfl, ?_⟩) | ((with_reducible refine gate_callee (f := 18) rfl ?_); refine goesL_ (some 19) rfl rfl Try.func18 (by kernel_rfl) rfl #[.int .i64 a0, .int .u32 a1, .int .u32 a2] rfl (by (try simp only [List.map_toArray, List.map_cons, List.map_nil]); first | done | rfl | (simp only [List.length_drop, List.length_take]; rfl)) ?_; (with_reducible refine (alu_Test.calls a0 a1 a2 t127 t128 _ A7.out).mono ?_); rintro e w' ⟨rfl, ⟨nd, rfl⟩⟩; refine ⟨_, rfl, ?_⟩) | ((with_reducible refine gate_callee (f := 19) rfl ?_); refine goesL_ (some 26) rfl rfl Try.func19 (by kernel_rfl) rfl #[.int .i64 a0, .int .u32 a1, .int .u32 a2] rfl (by (try simp only [List.map_toArray, List.map_cons, List.map_nil]); first | done | rfl | (simp only [List.length_drop, List.length_take]; rfl)) ?_; (with_reducible refine (tinctureref1_Test.calls a0 a1 a2 t129 false _ A8.out).mono ?_); rintro e w' ⟨rfl, ⟨nd, rfl⟩⟩; refine ⟨_, rfl, ?_⟩))
            go_ret
            exact ⟨by first | rfl | (simp; done) | (simp [*]; done), by repeat (first | exact Drawn0.refl _ | apply Drawn0.step)⟩
      · rw [if_neg c10] at H
        have c10b0 : ((t128 == 0) == t130) = false := by simpa using c10
        (try (have c10b1 : decide ((t128 == 0) = t130) = false := by simpa using c10))
        (try (have c10b2 : ((t128 == 0) == t130) = false := by simpa using c10))
        (try (have c10b3 : ¬ ((t128 == 0) = t130) := by simpa using c10))
        clear c10
        obtain rfl := Option.some.inj H
        go_enter Try.func11, Try.ntmps11
        go_wp2_with (first | ((with_reducible refine gate_callee (f := 13) rfl ?_); refine goesL_ (some 13) rfl rfl Try.func13 (by kernel_rfl) rfl #[] rfl (by (try simp only [List.map_toArray, List.map_cons, List.map_nil]); first | done | rfl | (simp only [List.length_drop, List.length_take]; rfl)) ?_; (with_reducible refine (tincturelaw1_awake.calls  true _ A5.out).mono ?_); rintro e w' ⟨rfl, ⟨nd, rfl⟩⟩; refine ⟨_, rfl, ?_⟩) | ((with_reducible refine gate_callee (f := 18) rfl ?_); refine goesL_ (some 19) rfl rfl Try.func18 (by kernel_rfl) rfl #[.int .i64 a0, .int .u32 a1, .int .u32 a2] rfl (by (try simp only [List.map_toArray, List.map_cons, List.map_nil]); first | done | rfl | (simp only [List.length_drop, List.length_take]; rfl)) ?_; (with_reducible refine (alu_Test.calls a0 a1 a2 t127 t128 _ A7.out).mono ?_); rintro e w' ⟨rfl, ⟨nd, rfl⟩⟩; refine ⟨_, rfl, ?_⟩) | ((with_reducible refine gate_callee (f := 19) rfl ?_); refine goesL_ (some 26) rfl rfl Try.func19 (by kernel_rfl) rfl #[.int .i64 a0, .int .u32 a1, .int .u32 a2] rfl (by (try simp only [List.map_toArray, List.map_cons, List.map_nil]); first | done | rfl | (simp only [List.length_drop, List.length_take]; rfl)) ?_; (with_reducible refine (tinctureref1_Test.calls a0 a1 a2 t129 t130 _ A8.out).mono ?_); rintro e w' ⟨rfl, ⟨nd, rfl⟩⟩; refine ⟨_, rfl, ?_⟩))
        go_ret
        exact ⟨by first | rfl | (simp; done) | (simp [*]; done), by repeat (first | exact Drawn0.refl _ | apply Drawn0.step)⟩
    · rw [if_neg c9] at H
      have c9b0 : (t127 == t129) = false := by simpa using c9
      (try (have c9b1 : decide (t127 = t129) = false := by simpa using c9))
      (try (have c9b2 : (t127 == t129) = false := by simpa using c9))
      (try (have c9b3 : ¬ (t127 = t129) := by simpa using c9))
      clear c9
      obtain rfl := Option.some.inj H
      go_enter Try.func11, Try.ntmps11
      go_wp2_with (first | ((with_reducible refine gate_callee (f := 13) rfl ?_); refine goesL_ (some 13) rfl rfl Try.func13 (by kernel_rfl) rfl #[] rfl (by (try simp only [List.map_toArray, List.map_cons, List.map_nil]); first | done | rfl | (simp only [List.length_drop, List.length_take]; rfl)) ?_; (with_reducible refine (tincturelaw1_awake.calls  true _ A5.out).mono ?_); rintro e w' ⟨rfl, ⟨nd, rfl⟩⟩; refine ⟨_, rfl, ?_⟩) | ((with_reducible refine gate_callee (f := 18) rfl ?_); refine goesL_ (some 19) rfl rfl Try.func18 (by kernel_rfl) rfl #[.int .i64 a0, .int .u32 a1, .int .u32 a2] rfl (by (try simp only [List.map_toArray, List.map_cons, List.map_nil]); first | done | rfl | (simp only [List.length_drop, List.length_take]; rfl)) ?_; (with_reducible refine (alu_Test.calls a0 a1 a2 t127 t128 _ A7.out).mono ?_); rintro e w' ⟨rfl, ⟨nd, rfl⟩⟩; refine ⟨_, rfl, ?_⟩) | ((with_reducible refine gate_callee (f := 19) rfl ?_); refine goesL_ (some 26) rfl rfl Try.func19 (by kernel_rfl) rfl #[.int .i64 a0, .int .u32 a1, .int .u32 a2] rfl (by (try simp only [List.map_toArray, List.map_cons, List.map_nil]); first | done | rfl | (simp only [List.length_drop, List.length_take]; rfl)) ?_; (with_reducible refine (tinctureref1_Test.calls a0 a1 a2 t129 t130 _ A8.out).mono ?_); rintro e w' ⟨rfl, ⟨nd, rfl⟩⟩; refine ⟨_, rfl, ?_⟩))
      go_ret
      exact ⟨by first | rfl | (simp; done) | (simp [*]; done), by repeat (first | exact Drawn0.refl _ | apply Drawn0.step)⟩
  · replace c6 := Bool.eq_false_iff.mpr c6
    subst c6
    have H1 : (some false) = some r := by rw [if_neg (show ¬ (false = true) by decide)] at H; exact H
    clear H
    have H := H1
    clear H1
    obtain rfl := Option.some.inj H
    go_enter Try.func11, Try.ntmps11
    go_wp2_with (first | ((with_reducible refine gate_callee (f := 13) rfl ?_); refine goesL_ (some 13) rfl rfl Try.func13 (by kernel_rfl) rfl #[] rfl (by (try simp only [List.map_toArray, List.map_cons, List.map_nil]); first | done | rfl | (simp only [List.length_drop, List.length_take]; rfl)) ?_; (with_reducible refine (tincturelaw1_awake.calls  false _ A5.out).mono ?_); rintro e w' ⟨rfl, ⟨nd, rfl⟩⟩; refine ⟨_, rfl, ?_⟩))
    go_ret
    exact ⟨by first | rfl | (simp; done) | (simp [*]; done), by repeat (first | exact Drawn0.refl _ | apply Drawn0.step)⟩

/-- THE ONE PURE STATEMENT of tincturelaw1_AluTests: yours. -/
def tincturelaw1_AluTests.Pure : Prop := ∀ (a0 : Int) (a1 : Int) (a2 : Int) (a3 : Int), (Lit.int .i64 a0).wf = true → (Lit.int .u32 a1).wf = true → (Lit.int .u32 a2).wf = true → (Lit.int .i64 a3).wf = true → tincturelaw1_AluTests.f a0 a1 a2 a3 = some true
theorem tincturelaw1_AluTests.walk (P : tincturelaw1_AluTests.Pure) (a0 : Int) (a1 : Int) (a2 : Int) (a3 : Int) (w : World) (w0 : (Lit.int .i64 a0).wf = true) (w1 : (Lit.int .u32 a1).wf = true) (w2 : (Lit.int .u32 a2).wf = true) (w3 : (Lit.int .i64 a3).wf = true) :
    Calls Try.prog 11 #[.int .i64 a0, .int .u32 a1, .int .u32 a2, .int .i64 a3] w fun e w' => e = .returned (.bool true) ∧ Below w.heap.size w w' := by
  have h := P a0 a1 a2 a3 w0 w1 w2 w3
  refine (tincturelaw1_AluTests.calls a0 a1 a2 a3 true w h).mono ?_
  rintro e w' ⟨rfl, hd⟩
  exact ⟨rfl, hd.below⟩

end Go.Proofs.Ytneadfgdagdhcaa.PAluTests
