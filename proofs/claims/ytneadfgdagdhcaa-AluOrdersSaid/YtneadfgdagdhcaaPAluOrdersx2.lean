-- PRINTED BY print.sh 35421559b90ae4d0a3588c463048766b98c2df88dd9212a6774a882060cdf62d: not written by this session
import Derived.Test.YtneadfgdagdhcaaPAluOrdersx0
import Derived.Test.YtneadfgdagdhcaaPAluOrdersx1
namespace Go.Proofs.Ytneadfgdagdhcaa.PAluOrders
open Go.RowKit Go.Proofs.YtneadfgdagdhcaaW.PrintWords Go.Proofs.YtneadfgdagdhcaaW.PrintLast Go.Proofs.YtneadfgdagdhcaaW.PrintMore
attribute [local go_sem] max2_int min2_int max_two min_two max_three min_three max_four min_four   -- for this text's walks alone
set_option linter.unusedVariables false
set_option linter.unusedSimpArgs false

/-! ### tincturelaw1_AluOrders: function 12 -/
def tincturelaw1_AluOrders.l0 : Nat → Int → Int → Int → Option (Bool)
  | 0, _, _, _ => none
  | k + 1, x0, x1, x5 => if x5 ≤ 4 then ((tincturelaw1_do.f x5 x0 x1).bind fun t122 => ((tincturelaw1_do.f x5 x1 x0).bind fun t123 => (if ((t122 + t123) % 4294967296) > 1 then (some false) else (if ((((t122 + t123) % 4294967296) == 0) != (x0 == x1)) = true then (some false) else (tincturelaw1_AluOrders.l0 k x0 x1 (wrap64 (x5 + 1))))))) else ((alu_Test.f 4 x0 x1).bind fun bt124 => ((alu_Test.f 5 x0 x1).bind fun bt126 => ((alu_Test.f 6 x0 x1).bind fun bt128 => ((alu_Test.f 7 x0 x1).bind fun bt130 => (if (bt124.1 != bt126.1) = true then (if (bt128.1 != bt130.1) = true then ((tincturelaw1_do.f 3 x0 x1).bind fun t132 => (if (bt124.1 == (t132 == 1)) = true then ((tincturelaw1_do.f 4 x0 x1).bind fun t133 => (some (bt128.1 == (t133 == 1)))) else (some false))) else (some false)) else (some false))))))
def tincturelaw1_AluOrders.f (k : Nat) (a0 : Int) (a1 : Int) : Option (Bool) := (tincturelaw1_awake.f).bind fun t121 => (if t121 = true then (tincturelaw1_AluOrders.l0 k a0 a1 3) else (some false))
theorem tincturelaw1_AluOrders.mono_l : ∀ k, (∀ y0 y1 y2, LeO (tincturelaw1_AluOrders.l0 k y0 y1 y2) (tincturelaw1_AluOrders.l0 (k + 1) y0 y1 y2))
  | 0 => fun _ _ _ r h => by simp [tincturelaw1_AluOrders.l0] at h
  | k + 1 => by
    have ih0 := tincturelaw1_AluOrders.mono_l k
    · intro y0 y1 y2
      unfold tincturelaw1_AluOrders.l0
      repeat' first
      | (with_reducible exact ih0 _ _ _)
      | (with_reducible exact LeO.refl _)
      | (with_reducible exact LeO.none _)
      | (with_reducible refine LeO.ite ?_ ?_)
      | (with_reducible refine LeO.bind ?_ (fun _ => ?_))
      | exact ih0 _ _ _
      | exact LeO.none _
      | refine LeO.ite ?_ ?_
      | refine LeO.bind ?_ (fun _ => ?_)
theorem tincturelaw1_AluOrders.mono : ∀ a0 a1 k, LeO (tincturelaw1_AluOrders.f k a0 a1) (tincturelaw1_AluOrders.f (k + 1) a0 a1) := by
  intro a0 a1 k
  have ih0 := tincturelaw1_AluOrders.mono_l k
  unfold tincturelaw1_AluOrders.f
  repeat' first
      | (with_reducible exact ih0 _ _ _)
      | (with_reducible exact LeO.refl _)
      | (with_reducible exact LeO.none _)
      | (with_reducible refine LeO.ite ?_ ?_)
      | (with_reducible refine LeO.bind ?_ (fun _ => ?_))
      | exact ih0 _ _ _
      | exact LeO.none _
      | refine LeO.ite ?_ ?_
      | refine LeO.bind ?_ (fun _ => ?_)
set_option maxHeartbeats 8000000 in
set_option maxRecDepth 100000 in
theorem tincturelaw1_AluOrders.calls (k : Nat) (a0 : Int) (a1 : Int) (r : Bool) (w : World) (h : tincturelaw1_AluOrders.f k a0 a1 = some r) :
    Calls Try.prog 12 #[.int .u32 a0, .int .u32 a1] w fun e w' => e = .returned (.bool r) ∧ Drawn0 w w' := by
  have H : ((tincturelaw1_awake.f).bind fun t121 => (if t121 = true then (tincturelaw1_AluOrders.l0 k a0 a1 3) else (some false))) = some r := h
  clear h
  replace H := Option.bind_eq_some_iff.mp H
  obtain ⟨t121, A30, H⟩ := H
  replace H : (if t121 = true then (tincturelaw1_AluOrders.l0 k a0 a1 3) else (some false)) = some r := H
  have A3 := Aside0.mk A30
  clear A30
  by_cases c4 : t121 = true
  · subst c4
    have H1 : (tincturelaw1_AluOrders.l0 k a0 a1 3) = some r := by rw [if_pos rfl] at H; exact H
    clear H
    have H := H1
    clear H1
    have H' := Aside0.mk H
    clear H
    go_enter Try.func12, Try.ntmps12
    go_wp2_with (first | ((with_reducible refine gate_callee (f := 13) rfl ?_); refine goesL_ (some 15) rfl rfl Try.func13 (by kernel_rfl) rfl #[] rfl (by (try simp only [List.map_toArray, List.map_cons, List.map_nil]); first | done | rfl | (simp only [List.length_drop, List.length_take]; rfl)) ?_; (with_reducible refine (tincturelaw1_awake.calls  true _ A3.out).mono ?_); rintro e w' ⟨rfl, ⟨nd, rfl⟩⟩; refine ⟨_, rfl, ?_⟩))
    go_loopg [5] k (fun kq v5 w' => ∃ (x5_1 : Int), v5 = .int .i64 x5_1 ∧ Aside0 (tincturelaw1_AluOrders.l0 kq a0 a1 x5_1 = some r) ∧ Aside0 (kq ≤ k) ∧ Drawn0 w w')
    case atStart => exact ⟨(3), (by first | rfl | (simp; done) | (simp [*]; done)), H', ⟨Nat.le_refl _⟩, by repeat (first | exact Drawn0.refl _ | apply Drawn0.step)⟩
    case round =>
      clear H'
      try clear c1
      try clear p2
      try clear c4
      obtain ⟨x5_1, rfl, HA, HK1, ⟨m1, rfl⟩⟩ := hrel
      cases gk with
      | zero => exact absurd HA.out (by simp [tincturelaw1_AluOrders.l0])
      | succ k1 =>
        have H := HA.out
        clear HA
        simp only [tincturelaw1_AluOrders.l0] at H
        by_cases c5 : x5_1 ≤ 4
        · rw [if_pos c5] at H
          have c5b0 : decide (x5_1 ≤ 4) = true := decide_eq_true c5
          clear c5
          replace H := Option.bind_eq_some_iff.mp H
          obtain ⟨t122, A60, H⟩ := H
          replace H : ((tincturelaw1_do.f x5_1 a1 a0).bind fun t123 => (if ((t122 + t123) % 4294967296) > 1 then (some false) else (if ((((t122 + t123) % 4294967296) == 0) != (a0 == a1)) = true then (some false) else (tincturelaw1_AluOrders.l0 k1 a0 a1 (wrap64 (x5_1 + 1)))))) = some r := H
          have A6 := Aside0.mk A60
          clear A60
          replace H := Option.bind_eq_some_iff.mp H
          obtain ⟨t123, A70, H⟩ := H
          replace H : (if ((t122 + t123) % 4294967296) > 1 then (some false) else (if ((((t122 + t123) % 4294967296) == 0) != (a0 == a1)) = true then (some false) else (tincturelaw1_AluOrders.l0 k1 a0 a1 (wrap64 (x5_1 + 1))))) = some r := H
          have A7 := Aside0.mk A70
          clear A70
          by_cases c8 : ((t122 + t123) % 4294967296) > 1
          · rw [if_pos c8] at H
            have c8b0 : decide (1 < ((t122 + t123) % 4294967296)) = true := decide_eq_true c8
            clear c8
            obtain rfl := Option.some.inj H
            go_wp2_with (first | ((with_reducible refine gate_callee (f := 16) rfl ?_); refine goesL_ (some 24) rfl rfl Try.func16 (by kernel_rfl) rfl #[.int .i64 x5_1, .int .u32 a0, .int .u32 a1] rfl (by (try simp only [List.map_toArray, List.map_cons, List.map_nil]); first | done | rfl | (simp only [List.length_drop, List.length_take]; rfl)) ?_; (with_reducible refine (tincturelaw1_do.calls x5_1 a0 a1 t122 _ A6.out).mono ?_); rintro e w' ⟨rfl, ⟨nd, rfl⟩⟩; refine ⟨_, rfl, ?_⟩) | ((with_reducible refine gate_callee (f := 16) rfl ?_); refine goesL_ (some 28) rfl rfl Try.func16 (by kernel_rfl) rfl #[.int .i64 x5_1, .int .u32 a1, .int .u32 a0] rfl (by (try simp only [List.map_toArray, List.map_cons, List.map_nil]); first | done | rfl | (simp only [List.length_drop, List.length_take]; rfl)) ?_; (with_reducible refine (tincturelaw1_do.calls x5_1 a1 a0 t123 _ A7.out).mono ?_); rintro e w' ⟨rfl, ⟨nd, rfl⟩⟩; refine ⟨_, rfl, ?_⟩))
            go_ret
            exact ⟨by first | rfl | (simp; done) | (simp [*]; done), by repeat (first | exact Drawn0.refl _ | apply Drawn0.step)⟩
          · rw [if_neg c8] at H
            have c8b0 : decide (1 < ((t122 + t123) % 4294967296)) = false := decide_eq_false c8
            clear c8
            by_cases c9 : ((((t122 + t123) % 4294967296) == 0) != (a0 == a1)) = true
            · rw [if_pos c9] at H
              have c9b0 : ((((t122 + t123) % 4294967296) == 0) != (a0 == a1)) = true := c9
              (try (have c9b1 : decide ((((t122 + t123) % 4294967296) == 0) = (a0 == a1)) = false := by simpa using c9))
              (try (have c9b2 : ((((t122 + t123) % 4294967296) == 0) == (a0 == a1)) = false := by simpa using c9))
              (try (have c9b3 : ¬ ((((t122 + t123) % 4294967296) == 0) = (a0 == a1)) := by simpa using c9))
              clear c9
              obtain rfl := Option.some.inj H
              go_wp2_with (first | ((with_reducible refine gate_callee (f := 16) rfl ?_); refine goesL_ (some 24) rfl rfl Try.func16 (by kernel_rfl) rfl #[.int .i64 x5_1, .int .u32 a0, .int .u32 a1] rfl (by (try simp only [List.map_toArray, List.map_cons, List.map_nil]); first | done | rfl | (simp only [List.length_drop, List.length_take]; rfl)) ?_; (with_reducible refine (tincturelaw1_do.calls x5_1 a0 a1 t122 _ A6.out).mono ?_); rintro e w' ⟨rfl, ⟨nd, rfl⟩⟩; refine ⟨_, rfl, ?_⟩) | ((with_reducible refine gate_callee (f := 16) rfl ?_); refine goesL_ (some 28) rfl rfl Try.func16 (by kernel_rfl) rfl #[.int .i64 x5_1, .int .u32 a1, .int .u32 a0] rfl (by (try simp only [List.map_toArray, List.map_cons, List.map_nil]); first | done | rfl | (simp only [List.length_drop, List.length_take]; rfl)) ?_; (with_reducible refine (tincturelaw1_do.calls x5_1 a1 a0 t123 _ A7.out).mono ?_); rintro e w' ⟨rfl, ⟨nd, rfl⟩⟩; refine ⟨_, rfl, ?_⟩))
              go_ret
              exact ⟨by first | rfl | (simp; done) | (simp [*]; done), by repeat (first | exact Drawn0.refl _ | apply Drawn0.step)⟩
            · rw [if_neg c9] at H
              have c9b0 : ((((t122 + t123) % 4294967296) == 0) != (a0 == a1)) = false := by simpa using c9
              (try (have c9b1 : decide ((((t122 + t123) % 4294967296) == 0) = (a0 == a1)) = true := by simpa using c9))
              (try (have c9b2 : ((((t122 + t123) % 4294967296) == 0) == (a0 == a1)) = true := by simpa using c9))
              clear c9
              have H' := Aside0.mk H
              clear H
              go_wp2_with (first | ((with_reducible refine gate_callee (f := 16) rfl ?_); refine goesL_ (some 24) rfl rfl Try.func16 (by kernel_rfl) rfl #[.int .i64 x5_1, .int .u32 a0, .int .u32 a1] rfl (by (try simp only [List.map_toArray, List.map_cons, List.map_nil]); first | done | rfl | (simp only [List.length_drop, List.length_take]; rfl)) ?_; (with_reducible refine (tincturelaw1_do.calls x5_1 a0 a1 t122 _ A6.out).mono ?_); rintro e w' ⟨rfl, ⟨nd, rfl⟩⟩; refine ⟨_, rfl, ?_⟩) | ((with_reducible refine gate_callee (f := 16) rfl ?_); refine goesL_ (some 28) rfl rfl Try.func16 (by kernel_rfl) rfl #[.int .i64 x5_1, .int .u32 a1, .int .u32 a0] rfl (by (try simp only [List.map_toArray, List.map_cons, List.map_nil]); first | done | rfl | (simp only [List.length_drop, List.length_take]; rfl)) ?_; (with_reducible refine (tincturelaw1_do.calls x5_1 a1 a0 t123 _ A7.out).mono ?_); rintro e w' ⟨rfl, ⟨nd, rfl⟩⟩; refine ⟨_, rfl, ?_⟩))
              go_roundg k1
              case measure => have := HK1.out; omega
              case rel => exact ⟨(wrap64 (x5_1 + 1)), (by first | rfl | (simp; done) | (simp [*]; done)), H', ⟨by have := HK1.out; omega⟩, by repeat (first | exact Drawn0.refl _ | apply Drawn0.step)⟩
        · rw [if_neg c5] at H
          have c5b0 : decide (x5_1 ≤ 4) = false := decide_eq_false c5
          clear c5
          replace H := Option.bind_eq_some_iff.mp H
          obtain ⟨⟨t124, t125⟩, A100, H⟩ := H
          replace H : ((alu_Test.f 5 a0 a1).bind fun bt126 => ((alu_Test.f 6 a0 a1).bind fun bt128 => ((alu_Test.f 7 a0 a1).bind fun bt130 => (if (t124 != bt126.1) = true then (if (bt128.1 != bt130.1) = true then ((tincturelaw1_do.f 3 a0 a1).bind fun t132 => (if (t124 == (t132 == 1)) = true then ((tincturelaw1_do.f 4 a0 a1).bind fun t133 => (some (bt128.1 == (t133 == 1)))) else (some false))) else (some false)) else (some false))))) = some r := H
          have A10 := Aside0.mk A100
          clear A100
          replace H := Option.bind_eq_some_iff.mp H
          obtain ⟨⟨t126, t127⟩, A110, H⟩ := H
          replace H : ((alu_Test.f 6 a0 a1).bind fun bt128 => ((alu_Test.f 7 a0 a1).bind fun bt130 => (if (t124 != t126) = true then (if (bt128.1 != bt130.1) = true then ((tincturelaw1_do.f 3 a0 a1).bind fun t132 => (if (t124 == (t132 == 1)) = true then ((tincturelaw1_do.f 4 a0 a1).bind fun t133 => (some (bt128.1 == (t133 == 1)))) else (some false))) else (some false)) else (some false)))) = some r := H
          have A11 := Aside0.mk A110
          clear A110
          replace H := Option.bind_eq_some_iff.mp H
          obtain ⟨⟨t128, t129⟩, A120, H⟩ := H
          replace H : ((alu_Test.f 7 a0 a1).bind fun bt130 => (if (t124 != t126) = true then (if (t128 != bt130.1) = true then ((tincturelaw1_do.f 3 a0 a1).bind fun t132 => (if (t124 == (t132 == 1)) = true then ((tincturelaw1_do.f 4 a0 a1).bind fun t133 => (some (t128 == (t133 == 1)))) else (some false))) else (some false)) else (some false))) = some r := H
          have A12 := Aside0.mk A120
          clear A120
          replace H := Option.bind_eq_some_iff.mp H
          obtain ⟨⟨t130, t131⟩, A130, H⟩ := H
          replace H : (if (t124 != t126) = true then (if (t128 != t130) = true then ((tincturelaw1_do.f 3 a0 a1).bind fun t132 => (if (t124 == (t132 == 1)) = true then ((tincturelaw1_do.f 4 a0 a1).bind fun t133 => (some (t128 == (t133 == 1)))) else (some false))) else (some false)) else (some false)) = some r := H
          have A13 := Aside0.mk A130
          clear A130
          by_cases c14 : (t124 != t126) = true
          · rw [if_pos c14] at H
            have c14b0 : (t124 != t126) = true := c14
            (try (have c14b1 : decide (t124 = t126) = false := by simpa using c14))
            (try (have c14b2 : (t124 == t126) = false := by simpa using c14))
            (try (have c14b3 : ¬ (t124 = t126) := by simpa using c14))
            clear c14
            by_cases c15 : (t128 != t130) = true
            · rw [if_pos c15] at H
              have c15b0 : (t128 != t130) = true := c15
              (try (have c15b1 : decide (t128 = t130) = false := by simpa using c15))
              (try (have c15b2 : (t128 == t130) = false := by simpa using c15))
              (try (have c15b3 : ¬ (t128 = t130) := by simpa using c15))
              clear c15
              replace H := Option.bind_eq_some_iff.mp H
              obtain ⟨t132, A160, H⟩ := H
              replace H : (if (t124 == (t132 == 1)) = true then ((tincturelaw1_do.f 4 a0 a1).bind fun t133 => (some (t128 == (t133 == 1)))) else (some false)) = some r := H
              have A16 := Aside0.mk A160
              clear A160
              by_cases c17 : (t124 == (t132 == 1)) = true
              · rw [if_pos c17] at H
                have c17b0 : (t124 == (t132 == 1)) = true := c17
                (try (have c17b1 : decide (t124 = (t132 == 1)) = true := by simpa using c17))
                (try (have c17b2 : (t124 == (t132 == 1)) = true := by simpa using c17))
                clear c17
                replace H := Option.bind_eq_some_iff.mp H
                obtain ⟨t133, A180, H⟩ := H
                replace H : (some (t128 == (t133 == 1))) = some r := H
                have A18 := Aside0.mk A180
                clear A180
                obtain rfl := Option.some.inj H
                go_wp2_with (first | ((with_reducible refine gate_callee (f := 18) rfl ?_); refine goesL_ (some 43) rfl rfl Try.func18 (by kernel_rfl) rfl #[.int .i64 4, .int .u32 a0, .int .u32 a1] rfl (by (try simp only [List.map_toArray, List.map_cons, List.map_nil]); first | done | rfl | (simp only [List.length_drop, List.length_take]; rfl)) ?_; (with_reducible refine (alu_Test.calls 4 a0 a1 t124 t125 _ A10.out).mono ?_); rintro e w' ⟨rfl, ⟨nd, rfl⟩⟩; refine ⟨_, rfl, ?_⟩) | ((with_reducible refine gate_callee (f := 18) rfl ?_); refine goesL_ (some 49) rfl rfl Try.func18 (by kernel_rfl) rfl #[.int .i64 5, .int .u32 a0, .int .u32 a1] rfl (by (try simp only [List.map_toArray, List.map_cons, List.map_nil]); first | done | rfl | (simp only [List.length_drop, List.length_take]; rfl)) ?_; (with_reducible refine (alu_Test.calls 5 a0 a1 t126 t127 _ A11.out).mono ?_); rintro e w' ⟨rfl, ⟨nd, rfl⟩⟩; refine ⟨_, rfl, ?_⟩) | ((with_reducible refine gate_callee (f := 18) rfl ?_); refine goesL_ (some 55) rfl rfl Try.func18 (by kernel_rfl) rfl #[.int .i64 6, .int .u32 a0, .int .u32 a1] rfl (by (try simp only [List.map_toArray, List.map_cons, List.map_nil]); first | done | rfl | (simp only [List.length_drop, List.length_take]; rfl)) ?_; (with_reducible refine (alu_Test.calls 6 a0 a1 t128 t129 _ A12.out).mono ?_); rintro e w' ⟨rfl, ⟨nd, rfl⟩⟩; refine ⟨_, rfl, ?_⟩) | ((with_reducible refine gate_callee (f := 18) rfl ?_); refine goesL_ (some 61) rfl rfl Try.func18 (by kernel_rfl) rfl #[.int .i64 7, .int .u32 a0, .int .u32 a1] rfl (by (try simp only [List.map_toArray, List.map_cons, List.map_nil]); first | done | rfl | (simp only [List.length_drop, List.length_take]; rfl)) ?_; (with_reducible refine (alu_Test.calls 7 a0 a1 t130 t131 _ A13.out).mono ?_); rintro e w' ⟨rfl, ⟨nd, rfl⟩⟩; refine ⟨_, rfl, ?_⟩) | (go_at_call 16; (with_reducible refine (tincturelaw1_do.calls 3 a0 a1 t132 _ A16.out).mono ?_); rintro e w' ⟨rfl, ⟨nd, rfl⟩⟩) | (go_at_call 16; (with_reducible refine (tincturelaw1_do.calls 4 a0 a1 t133 _ A18.out).mono ?_); rintro e w' ⟨rfl, ⟨nd, rfl⟩⟩))
                go_ret
                exact ⟨by first | rfl | (simp; done) | (simp [*]; done), by repeat (first | exact Drawn0.refl _ | apply Drawn0.step)⟩
              · rw [if_neg c17] at H
                have c17b0 : (t124 == (t132 == 1)) = false := by simpa using c17
                (try (have c17b1 : decide (t124 = (t132 == 1)) = false := by simpa using c17))
                (try (have c17b2 : (t124 == (t132 == 1)) = false := by simpa using c17))
                (try (have c17b3 : ¬ (t124 = (t132 == 1)) := by simpa using c17))
                clear c17
                obtain rfl := Option.some.inj H
                go_wp2_with (first | ((with_reducible refine gate_callee (f := 18) rfl ?_); refine goesL_ (some 43) rfl rfl Try.func18 (by kernel_rfl) rfl #[.int .i64 4, .int .u32 a0, .int .u32 a1] rfl (by (try simp only [List.map_toArray, List.map_cons, List.map_nil]); first | done | rfl | (simp only [List.length_drop, List.length_take]; rfl)) ?_; (with_reducible refine (alu_Test.calls 4 a0 a1 t124 t125 _ A10.out).mono ?_); rintro e w' ⟨rfl, ⟨nd, rfl⟩⟩; refine ⟨_, rfl, ?_⟩) | ((with_reducible refine gate_callee (f := 18) rfl ?_); refine goesL_ (some 49) rfl rfl Try.func18 (by kernel_rfl) rfl #[.int .i64 5, .int .u32 a0, .int .u32 a1] rfl (by (try simp only [List.map_toArray, List.map_cons, List.map_nil]); first | done | rfl | (simp only [List.length_drop, List.length_take]; rfl)) ?_; (with_reducible refine (alu_Test.calls 5 a0 a1 t126 t127 _ A11.out).mono ?_); rintro e w' ⟨rfl, ⟨nd, rfl⟩⟩; refine ⟨_, rfl, ?_⟩) | ((with_reducible refine gate_callee (f := 18) rfl ?_); refine goesL_ (some 55) rfl rfl Try.func18 (by kernel_rfl) rfl #[.int .i64 6, .int .u32 a0, .int .u32 a1] rfl (by (try simp only [List.map_toArray, List.map_cons, List.map_nil]); first | done | rfl | (simp only [List.length_drop, List.length_take]; rfl)) ?_; (with_reducible refine (alu_Test.calls 6 a0 a1 t128 t129 _ A12.out).mono ?_); rintro e w' ⟨rfl, ⟨nd, rfl⟩⟩; refine ⟨_, rfl, ?_⟩) | ((with_reducible refine gate_callee (f := 18) rfl ?_); refine goesL_ (some 61) rfl rfl Try.func18 (by kernel_rfl) rfl #[.int .i64 7, .int .u32 a0, .int .u32 a1] rfl (by (try simp only [List.map_toArray, List.map_cons, List.map_nil]); first | done | rfl | (simp only [List.length_drop, List.length_take]; rfl)) ?_; (with_reducible refine (alu_Test.calls 7 a0 a1 t130 t131 _ A13.out).mono ?_); rintro e w' ⟨rfl, ⟨nd, rfl⟩⟩; refine ⟨_, rfl, ?_⟩) | (go_at_call 16; (with_reducible refine (tincturelaw1_do.calls 3 a0 a1 t132 _ A16.out).mono ?_); rintro e w' ⟨rfl, ⟨nd, rfl⟩⟩))
                go_ret
                exact ⟨by first | rfl | (simp; done) | (simp [*]; done), by repeat (first | exact Drawn0.refl _ | apply Drawn0.step)⟩
            · rw [if_neg c15] at H
              have c15b0 : (t128 != t130) = false := by simpa using c15
              (try (have c15b1 : decide (t128 = t130) = true := by simpa using c15))
              (try (have c15b2 : (t128 == t130) = true := by simpa using c15))
              clear c15
              obtain rfl := Option.some.inj H
              go_wp2_with (first | ((with_reducible refine gate_callee (f := 18) rfl ?_); refine goesL_ (some 43) rfl rfl Try.func18 (by kernel_rfl) rfl #[.int .i64 4, .int .u32 a0, .int .u32 a1] rfl (by (try simp only [List.map_toArray, List.map_cons, List.map_nil]); first | done | rfl | (simp only [List.length_drop, List.length_take]; rfl)) ?_; (with_reducible refine (alu_Test.calls 4 a0 a1 t124 t125 _ A10.out).mono ?_); rintro e w' ⟨rfl, ⟨nd, rfl⟩⟩; refine ⟨_, rfl, ?_⟩) | ((with_reducible refine gate_callee (f := 18) rfl ?_); refine goesL_ (some 49) rfl rfl Try.func18 (by kernel_rfl) rfl #[.int .i64 5, .int .u32 a0, .int .u32 a1] rfl (by (try simp only [List.map_toArray, List.map_cons, List.map_nil]); first | done | rfl | (simp only [List.length_drop, List.length_take]; rfl)) ?_; (with_reducible refine (alu_Test.calls 5 a0 a1 t126 t127 _ A11.out).mono ?_); rintro e w' ⟨rfl, ⟨nd, rfl⟩⟩; refine ⟨_, rfl, ?_⟩) | ((with_reducible refine gate_callee (f := 18) rfl ?_); refine goesL_ (some 55) rfl rfl Try.func18 (by kernel_rfl) rfl #[.int .i64 6, .int .u32 a0, .int .u32 a1] rfl (by (try simp only [List.map_toArray, List.map_cons, List.map_nil]); first | done | rfl | (simp only [List.length_drop, List.length_take]; rfl)) ?_; (with_reducible refine (alu_Test.calls 6 a0 a1 t128 t129 _ A12.out).mono ?_); rintro e w' ⟨rfl, ⟨nd, rfl⟩⟩; refine ⟨_, rfl, ?_⟩) | ((with_reducible refine gate_callee (f := 18) rfl ?_); refine goesL_ (some 61) rfl rfl Try.func18 (by kernel_rfl) rfl #[.int .i64 7, .int .u32 a0, .int .u32 a1] rfl (by (try simp only [List.map_toArray, List.map_cons, List.map_nil]); first | done | rfl | (simp only [List.length_drop, List.length_take]; rfl)) ?_; (with_reducible refine (alu_Test.calls 7 a0 a1 t130 t131 _ A13.out).mono ?_); rintro e w' ⟨rfl, ⟨nd, rfl⟩⟩; refine ⟨_, rfl, ?_⟩))
              go_ret
              exact ⟨by first | rfl | (simp; done) | (simp [*]; done), by repeat (first | exact Drawn0.refl _ | apply Drawn0.step)⟩
          · rw [if_neg c14] at H
            have c14b0 : (t124 != t126) = false := by simpa using c14
            (try (have c14b1 : decide (t124 = t126) = true := by simpa using c14))
            (try (have c14b2 : (t124 == t126) = true := by simpa using c14))
            clear c14
            obtain rfl := Option.some.inj H
            go_wp2_with (first | ((with_reducible refine gate_callee (f := 18) rfl ?_); refine goesL_ (some 43) rfl rfl Try.func18 (by kernel_rfl) rfl #[.int .i64 4, .int .u32 a0, .int .u32 a1] rfl (by (try simp only [List.map_toArray, List.map_cons, List.map_nil]); first | done | rfl | (simp only [List.length_drop, List.length_take]; rfl)) ?_; (with_reducible refine (alu_Test.calls 4 a0 a1 t124 t125 _ A10.out).mono ?_); rintro e w' ⟨rfl, ⟨nd, rfl⟩⟩; refine ⟨_, rfl, ?_⟩) | ((with_reducible refine gate_callee (f := 18) rfl ?_); refine goesL_ (some 49) rfl rfl Try.func18 (by kernel_rfl) rfl #[.int .i64 5, .int .u32 a0, .int .u32 a1] rfl (by (try simp only [List.map_toArray, List.map_cons, List.map_nil]); first | done | rfl | (simp only [List.length_drop, List.length_take]; rfl)) ?_; (with_reducible refine (alu_Test.calls 5 a0 a1 t126 t127 _ A11.out).mono ?_); rintro e w' ⟨rfl, ⟨nd, rfl⟩⟩; refine ⟨_, rfl, ?_⟩) | ((with_reducible refine gate_callee (f := 18) rfl ?_); refine goesL_ (some 55) rfl rfl Try.func18 (by kernel_rfl) rfl #[.int .i64 6, .int .u32 a0, .int .u32 a1] rfl (by (try simp only [List.map_toArray, List.map_cons, List.map_nil]); first | done | rfl | (simp only [List.length_drop, List.length_take]; rfl)) ?_; (with_reducible refine (alu_Test.calls 6 a0 a1 t128 t129 _ A12.out).mono ?_); rintro e w' ⟨rfl, ⟨nd, rfl⟩⟩; refine ⟨_, rfl, ?_⟩) | ((with_reducible refine gate_callee (f := 18) rfl ?_); refine goesL_ (some 61) rfl rfl Try.func18 (by kernel_rfl) rfl #[.int .i64 7, .int .u32 a0, .int .u32 a1] rfl (by (try simp only [List.map_toArray, List.map_cons, List.map_nil]); first | done | rfl | (simp only [List.length_drop, List.length_take]; rfl)) ?_; (with_reducible refine (alu_Test.calls 7 a0 a1 t130 t131 _ A13.out).mono ?_); rintro e w' ⟨rfl, ⟨nd, rfl⟩⟩; refine ⟨_, rfl, ?_⟩))
            go_ret
            exact ⟨by first | rfl | (simp; done) | (simp [*]; done), by repeat (first | exact Drawn0.refl _ | apply Drawn0.step)⟩
  · replace c4 := Bool.eq_false_iff.mpr c4
    subst c4
    have H1 : (some false) = some r := by rw [if_neg (show ¬ (false = true) by decide)] at H; exact H
    clear H
    have H := H1
    clear H1
    obtain rfl := Option.some.inj H
    go_enter Try.func12, Try.ntmps12
    go_wp2_with (first | ((with_reducible refine gate_callee (f := 13) rfl ?_); refine goesL_ (some 15) rfl rfl Try.func13 (by kernel_rfl) rfl #[] rfl (by (try simp only [List.map_toArray, List.map_cons, List.map_nil]); first | done | rfl | (simp only [List.length_drop, List.length_take]; rfl)) ?_; (with_reducible refine (tincturelaw1_awake.calls  false _ A3.out).mono ?_); rintro e w' ⟨rfl, ⟨nd, rfl⟩⟩; refine ⟨_, rfl, ?_⟩))
    go_ret
    exact ⟨by first | rfl | (simp; done) | (simp [*]; done), by repeat (first | exact Drawn0.refl _ | apply Drawn0.step)⟩

/-- THE ONE PURE STATEMENT of tincturelaw1_AluOrders: yours. -/
def tincturelaw1_AluOrders.Pure : Prop := ∀ (a0 : Int) (a1 : Int), (Lit.int .u32 a0).wf = true → (Lit.int .u32 a1).wf = true → ∃ k, tincturelaw1_AluOrders.f k a0 a1 = some true
theorem tincturelaw1_AluOrders.walk (P : tincturelaw1_AluOrders.Pure) (a0 : Int) (a1 : Int) (w : World) (w0 : (Lit.int .u32 a0).wf = true) (w1 : (Lit.int .u32 a1).wf = true) :
    Calls Try.prog 12 #[.int .u32 a0, .int .u32 a1] w fun e w' => e = .returned (.bool true) ∧ Below w.heap.size w w' := by
  obtain ⟨k, h⟩ := P a0 a1 w0 w1
  refine (tincturelaw1_AluOrders.calls k a0 a1 true w h).mono ?_
  rintro e w' ⟨rfl, hd⟩
  exact ⟨rfl, hd.below⟩

end Go.Proofs.Ytneadfgdagdhcaa.PAluOrders
