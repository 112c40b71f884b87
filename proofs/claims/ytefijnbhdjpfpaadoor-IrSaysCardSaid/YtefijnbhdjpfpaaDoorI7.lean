/- What the reference's value, field answer (its lines began as print.sh's). -/
import Derived.Test.YtefijnbhdjpfpaaDoorI0
namespace Go.Proofs.YtefijnbhdjpfpaaDoor.Ir
open Go.RowKit Go.Proofs.YtefijnbhdjpfpaaDoorW.PrintWords Go.Proofs.YtefijnbhdjpfpaaDoorW.PrintLast Go.Proofs.YtefijnbhdjpfpaaDoorW.PrintMore
attribute [local go_sem] max2_int min2_int max_two min_two max_three min_three max_four min_four   -- for this text's walks alone
set_option linter.unusedVariables false
set_option linter.unusedSimpArgs false
/-! ### tinctureref18_value: function 32 -/
mutual
def tinctureref18_value.j0 : Nat → Int → Int → Bool → Option (Bool)
  | 0, _, _, _ => none
  | k + 1, x1, x5, x6 => if x6 = true then (some (decide (x1 ≤ 31))) else (if x5 = 3 then (tinctureref18_value.j1 k x1 x5 (x5 == 3)) else (tinctureref18_value.j1 k x1 x5 (x5 == 15)))
def tinctureref18_value.j1 : Nat → Int → Int → Bool → Option (Bool)
  | 0, _, _, _ => none
  | k + 1, x1, x5, x11 => if x11 = true then (if x1 ≥ 1 then (some (decide (x1 ≤ 31))) else (some false)) else (if x5 = 4 then (tinctureref18_value.j2 k x1 x5 (x5 == 4)) else (tinctureref18_value.j2 k x1 x5 (x5 == 16)))
def tinctureref18_value.j2 : Nat → Int → Int → Bool → Option (Bool)
  | 0, _, _, _ => none
  | k + 1, x1, x5, x20 => if x20 = true then (some (decide (x1 ≤ 17))) else (if x5 = 5 then (if x1 ≤ 7 then (if x1 = 2 then (some false) else (some (x1 != 3))) else (some false)) else (if x5 = 6 then (tinctureref18_value.j3 k x1 x5 (x5 == 6)) else (tinctureref18_value.j3 k x1 x5 (x5 == 17))))
def tinctureref18_value.j3 : Nat → Int → Int → Bool → Option (Bool)
  | 0, _, _, _ => none
  | k + 1, x1, x5, x37 => if x37 = true then (if x1 = 1 then (some true) else (if x1 = 2 then (some true) else (if x1 = 4 then (some true) else (if x1 = 9 then (some true) else (some (x1 == 10)))))) else (if x5 = 7 then (tinctureref18_value.j4 k x1 x5 (x5 == 7)) else (tinctureref18_value.j4 k x1 x5 (x5 == 18)))
def tinctureref18_value.j4 : Nat → Int → Int → Bool → Option (Bool)
  | 0, _, _, _ => none
  | k + 1, x1, x5, x58 => if x58 = true then (if x1 = 1 then (some true) else (if x1 = 2 then (some true) else (some (x1 == 4)))) else (if x5 = 13 then (if x1 = 2 then (some true) else (if x1 = 5 then (some true) else (some (x1 == 6)))) else (if x5 = 20 then (if x1 ≥ 1 then (some (decide (x1 ≤ 3))) else (some false)) else (if x5 = 1 then (some true) else (if x5 = 8 then (some true) else (if x5 = 10 then (some true) else (if x5 = 12 then (some true) else (some (x1 == 0))))))))
end
def tinctureref18_value.f (k : Nat) (a0 : Int) (a1 : Int) : Option (Bool) := if a0 = 2 then (tinctureref18_value.j0 k a1 a0 (a0 == 2)) else (tinctureref18_value.j0 k a1 a0 (a0 == 14))
theorem tinctureref18_value.mono_l : ∀ k, (∀ y0 y1 y2, LeO (tinctureref18_value.j0 k y0 y1 y2) (tinctureref18_value.j0 (k + 1) y0 y1 y2)) ∧ (∀ y0 y1 y2, LeO (tinctureref18_value.j1 k y0 y1 y2) (tinctureref18_value.j1 (k + 1) y0 y1 y2)) ∧ (∀ y0 y1 y2, LeO (tinctureref18_value.j2 k y0 y1 y2) (tinctureref18_value.j2 (k + 1) y0 y1 y2)) ∧ (∀ y0 y1 y2, LeO (tinctureref18_value.j3 k y0 y1 y2) (tinctureref18_value.j3 (k + 1) y0 y1 y2)) ∧ (∀ y0 y1 y2, LeO (tinctureref18_value.j4 k y0 y1 y2) (tinctureref18_value.j4 (k + 1) y0 y1 y2))
  | 0 => ⟨fun _ _ _ r h => by simp [tinctureref18_value.j0] at h, fun _ _ _ r h => by simp [tinctureref18_value.j1] at h, fun _ _ _ r h => by simp [tinctureref18_value.j2] at h, fun _ _ _ r h => by simp [tinctureref18_value.j3] at h, fun _ _ _ r h => by simp [tinctureref18_value.j4] at h⟩
  | k + 1 => by
    obtain ⟨ih0, ih1, ih2, ih3, ih4⟩ := tinctureref18_value.mono_l k
    refine ⟨?_, ?_, ?_, ?_, ?_⟩
    · intro y0 y1 y2
      unfold tinctureref18_value.j0
      repeat' first
      | (with_reducible exact ih0 _ _ _)
      | (with_reducible exact ih1 _ _ _)
      | (with_reducible exact ih2 _ _ _)
      | (with_reducible exact ih3 _ _ _)
      | (with_reducible exact ih4 _ _ _)
      | (with_reducible exact LeO.refl _)
      | (with_reducible exact LeO.none _)
      | (with_reducible refine LeO.ite ?_ ?_)
      | (with_reducible refine LeO.bind ?_ (fun _ => ?_))
      | exact ih0 _ _ _
      | exact ih1 _ _ _
      | exact ih2 _ _ _
      | exact ih3 _ _ _
      | exact ih4 _ _ _
      | exact LeO.none _
      | refine LeO.ite ?_ ?_
      | refine LeO.bind ?_ (fun _ => ?_)
    · intro y0 y1 y2
      unfold tinctureref18_value.j1
      repeat' first
      | (with_reducible exact ih0 _ _ _)
      | (with_reducible exact ih1 _ _ _)
      | (with_reducible exact ih2 _ _ _)
      | (with_reducible exact ih3 _ _ _)
      | (with_reducible exact ih4 _ _ _)
      | (with_reducible exact LeO.refl _)
      | (with_reducible exact LeO.none _)
      | (with_reducible refine LeO.ite ?_ ?_)
      | (with_reducible refine LeO.bind ?_ (fun _ => ?_))
      | exact ih0 _ _ _
      | exact ih1 _ _ _
      | exact ih2 _ _ _
      | exact ih3 _ _ _
      | exact ih4 _ _ _
      | exact LeO.none _
      | refine LeO.ite ?_ ?_
      | refine LeO.bind ?_ (fun _ => ?_)
    · intro y0 y1 y2
      unfold tinctureref18_value.j2
      repeat' first
      | (with_reducible exact ih0 _ _ _)
      | (with_reducible exact ih1 _ _ _)
      | (with_reducible exact ih2 _ _ _)
      | (with_reducible exact ih3 _ _ _)
      | (with_reducible exact ih4 _ _ _)
      | (with_reducible exact LeO.refl _)
      | (with_reducible exact LeO.none _)
      | (with_reducible refine LeO.ite ?_ ?_)
      | (with_reducible refine LeO.bind ?_ (fun _ => ?_))
      | exact ih0 _ _ _
      | exact ih1 _ _ _
      | exact ih2 _ _ _
      | exact ih3 _ _ _
      | exact ih4 _ _ _
      | exact LeO.none _
      | refine LeO.ite ?_ ?_
      | refine LeO.bind ?_ (fun _ => ?_)
    · intro y0 y1 y2
      unfold tinctureref18_value.j3
      repeat' first
      | (with_reducible exact ih0 _ _ _)
      | (with_reducible exact ih1 _ _ _)
      | (with_reducible exact ih2 _ _ _)
      | (with_reducible exact ih3 _ _ _)
      | (with_reducible exact ih4 _ _ _)
      | (with_reducible exact LeO.refl _)
      | (with_reducible exact LeO.none _)
      | (with_reducible refine LeO.ite ?_ ?_)
      | (with_reducible refine LeO.bind ?_ (fun _ => ?_))
      | exact ih0 _ _ _
      | exact ih1 _ _ _
      | exact ih2 _ _ _
      | exact ih3 _ _ _
      | exact ih4 _ _ _
      | exact LeO.none _
      | refine LeO.ite ?_ ?_
      | refine LeO.bind ?_ (fun _ => ?_)
    · intro y0 y1 y2
      unfold tinctureref18_value.j4
      repeat' first
      | (with_reducible exact ih0 _ _ _)
      | (with_reducible exact ih1 _ _ _)
      | (with_reducible exact ih2 _ _ _)
      | (with_reducible exact ih3 _ _ _)
      | (with_reducible exact ih4 _ _ _)
      | (with_reducible exact LeO.refl _)
      | (with_reducible exact LeO.none _)
      | (with_reducible refine LeO.ite ?_ ?_)
      | (with_reducible refine LeO.bind ?_ (fun _ => ?_))
      | exact ih0 _ _ _
      | exact ih1 _ _ _
      | exact ih2 _ _ _
      | exact ih3 _ _ _
      | exact ih4 _ _ _
      | exact LeO.none _
      | refine LeO.ite ?_ ?_
      | refine LeO.bind ?_ (fun _ => ?_)
theorem tinctureref18_value.mono : ∀ a0 a1 k, LeO (tinctureref18_value.f k a0 a1) (tinctureref18_value.f (k + 1) a0 a1) := by
  intro a0 a1 k
  obtain ⟨ih0, ih1, ih2, ih3, ih4⟩ := tinctureref18_value.mono_l k
  unfold tinctureref18_value.f
  repeat' first
      | (with_reducible exact ih0 _ _ _)
      | (with_reducible exact ih1 _ _ _)
      | (with_reducible exact ih2 _ _ _)
      | (with_reducible exact ih3 _ _ _)
      | (with_reducible exact ih4 _ _ _)
      | (with_reducible exact LeO.refl _)
      | (with_reducible exact LeO.none _)
      | (with_reducible refine LeO.ite ?_ ?_)
      | (with_reducible refine LeO.bind ?_ (fun _ => ?_))
      | exact ih0 _ _ _
      | exact ih1 _ _ _
      | exact ih2 _ _ _
      | exact ih3 _ _ _
      | exact ih4 _ _ _
      | exact LeO.none _
      | refine LeO.ite ?_ ?_
      | refine LeO.bind ?_ (fun _ => ?_)
set_option maxHeartbeats 8000000 in
set_option maxRecDepth 100000 in
theorem tinctureref18_value.calls (k : Nat) (a0 : Int) (a1 : Int) (r : Bool) (w : World) (h : tinctureref18_value.f k a0 a1 = some r) :
    Calls Tryd.prog 32 #[.int .i64 a0, .int .u32 a1] w fun e w' => e = .returned (.bool r) ∧ Drawn0 w w' := by
  have H : (if a0 = 2 then (tinctureref18_value.j0 k a1 a0 (a0 == 2)) else (tinctureref18_value.j0 k a1 a0 (a0 == 14))) = some r := h
  clear h
  have HC3 := Aside0.mk H
  clear H
  go_enter Tryd.func32, Tryd.ntmps32
  go_upto_if 6 with (fail)
  go_cut [6] (fun v6 wc => ∃ (kq : Nat) (x6_2 : Bool), v6 = .bool x6_2 ∧ Aside0 (tinctureref18_value.j0 kq a1 a0 x6_2 = some r) ∧ Aside0 (kq ≤ k) ∧ Drawn0 w wc)
  case first =>
    have H := HC3.out
    clear HC3
    by_cases c4 : a0 = 2
    · rw [if_pos c4] at H
      have c4b0 : (a0 == 2) = true := beq_iff_eq.mpr c4
      have c4b1 : (a0 != 2) = false := bne_eq_false_iff_eq.mpr c4
      clear c4
      (first | rw [c4b0] | (simp only [i64_w, i32_w]; rw [c4b0]) | skip)
      have H' := Aside0.mk H
      clear H
      go_wp2
      go_meet
      case rel => exact ⟨_, ((a0 == 2)), (by first | rfl | (simp; done) | (simp [*]; done)), H', ⟨by first | omega | exact Nat.le_refl _⟩, by repeat (first | exact Drawn0.refl _ | apply Drawn0.step)⟩
    · rw [if_neg c4] at H
      have c4b0 : (a0 == 2) = false := beq_eq_false_iff_ne.mpr c4
      have c4b1 : (a0 != 2) = true := bne_iff_ne.mpr c4
      (first | rw [c4b0] | (simp only [i64_w, i32_w]; rw [c4b0]) | skip)
      have H' := Aside0.mk H
      clear H
      go_wp2
      go_meet
      case rel => exact ⟨_, ((a0 == 14)), (by first | rfl | (simp; done) | (simp [*]; done)), H', ⟨by first | omega | exact Nat.le_refl _⟩, by repeat (first | exact Drawn0.refl _ | apply Drawn0.step)⟩
  case rest =>
    clear HC3
    try clear p2
    try clear c3
    try clear c4
    try clear c4b0
    try clear c4b1
    obtain ⟨kq, x6_2, rfl, HA, HJ2, ⟨mc2, rfl⟩⟩ := hcut
    cases kq with
    | zero => exact absurd HA.out (by simp [tinctureref18_value.j0])
    | succ kj2 =>
      have H := HA.out
      clear HA
      simp only [tinctureref18_value.j0] at H
      by_cases c5 : x6_2 = true
      · subst c5
        have H1 : (some (decide (a1 ≤ 31))) = some r := by rw [if_pos rfl] at H; exact H
        clear H
        have H := H1
        clear H1
        obtain rfl := Option.some.inj H
        go_wp2
        go_ret
        exact ⟨by first | rfl | (simp; done) | (simp [*]; done), by repeat (first | exact Drawn0.refl _ | apply Drawn0.step)⟩
      · replace c5 := Bool.eq_false_iff.mpr c5
        subst c5
        have H1 : (if a0 = 3 then (tinctureref18_value.j1 kj2 a1 a0 (a0 == 3)) else (tinctureref18_value.j1 kj2 a1 a0 (a0 == 15))) = some r := by rw [if_neg (show ¬ (false = true) by decide)] at H; exact H
        clear H
        have H := H1
        clear H1
        have HC6 := Aside0.mk H
        clear H
        go_upto_if 11 with (fail)
        go_cut [11] (fun v11 wc => ∃ (kq : Nat) (x11_5 : Bool), v11 = .bool x11_5 ∧ Aside0 (tinctureref18_value.j1 kq a1 a0 x11_5 = some r) ∧ Aside0 (kq ≤ kj2) ∧ Drawn0 w wc)
        case first =>
          have H := HC6.out
          clear HC6
          by_cases c7 : a0 = 3
          · rw [if_pos c7] at H
            have c7b0 : (a0 == 3) = true := beq_iff_eq.mpr c7
            have c7b1 : (a0 != 3) = false := bne_eq_false_iff_eq.mpr c7
            clear c7
            (first | rw [c7b0] | (simp only [i64_w, i32_w]; rw [c7b0]) | skip)
            have H' := Aside0.mk H
            clear H
            go_wp2
            go_meet
            case rel => exact ⟨_, ((a0 == 3)), (by first | rfl | (simp; done) | (simp [*]; done)), H', ⟨by have := HJ2.out; first | omega | exact Nat.le_refl _⟩, by repeat (first | exact Drawn0.refl _ | apply Drawn0.step)⟩
          · rw [if_neg c7] at H
            have c7b0 : (a0 == 3) = false := beq_eq_false_iff_ne.mpr c7
            have c7b1 : (a0 != 3) = true := bne_iff_ne.mpr c7
            (first | rw [c7b0] | (simp only [i64_w, i32_w]; rw [c7b0]) | skip)
            have H' := Aside0.mk H
            clear H
            go_wp2
            go_meet
            case rel => exact ⟨_, ((a0 == 15)), (by first | rfl | (simp; done) | (simp [*]; done)), H', ⟨by have := HJ2.out; first | omega | exact Nat.le_refl _⟩, by repeat (first | exact Drawn0.refl _ | apply Drawn0.step)⟩
        case rest =>
          clear HC6
          try clear c2
          try clear p2
          try clear c3
          try clear c4
          try clear c4b0
          try clear c4b1
          try clear c5
          try clear c7
          try clear c7b0
          try clear c7b1
          try clear p2
          obtain ⟨kq, x11_5, rfl, HA, HJ5, ⟨mc5, rfl⟩⟩ := hcut
          cases kq with
          | zero => exact absurd HA.out (by simp [tinctureref18_value.j1])
          | succ kj5 =>
            have H := HA.out
            clear HA
            simp only [tinctureref18_value.j1] at H
            by_cases c8 : x11_5 = true
            · subst c8
              have H1 : (if a1 ≥ 1 then (some (decide (a1 ≤ 31))) else (some false)) = some r := by rw [if_pos rfl] at H; exact H
              clear H
              have H := H1
              clear H1
              by_cases c9 : a1 ≥ 1
              · rw [if_pos c9] at H
                have c9b0 : decide (1 ≤ a1) = true := decide_eq_true c9
                clear c9
                obtain rfl := Option.some.inj H
                go_wp2
                go_ret
                exact ⟨by first | rfl | (simp; done) | (simp [*]; done), by repeat (first | exact Drawn0.refl _ | apply Drawn0.step)⟩
              · rw [if_neg c9] at H
                have c9b0 : decide (1 ≤ a1) = false := decide_eq_false c9
                clear c9
                obtain rfl := Option.some.inj H
                go_wp2
                go_ret
                exact ⟨by first | rfl | (simp; done) | (simp [*]; done), by repeat (first | exact Drawn0.refl _ | apply Drawn0.step)⟩
            · replace c8 := Bool.eq_false_iff.mpr c8
              subst c8
              have H1 : (if a0 = 4 then (tinctureref18_value.j2 kj5 a1 a0 (a0 == 4)) else (tinctureref18_value.j2 kj5 a1 a0 (a0 == 16))) = some r := by rw [if_neg (show ¬ (false = true) by decide)] at H; exact H
              clear H
              have H := H1
              clear H1
              have HC10 := Aside0.mk H
              clear H
              go_upto_if 20 with (fail)
              go_cut [20] (fun v20 wc => ∃ (kq : Nat) (x20_9 : Bool), v20 = .bool x20_9 ∧ Aside0 (tinctureref18_value.j2 kq a1 a0 x20_9 = some r) ∧ Aside0 (kq ≤ kj5) ∧ Drawn0 w wc)
              case first =>
                have H := HC10.out
                clear HC10
                by_cases c11 : a0 = 4
                · rw [if_pos c11] at H
                  have c11b0 : (a0 == 4) = true := beq_iff_eq.mpr c11
                  have c11b1 : (a0 != 4) = false := bne_eq_false_iff_eq.mpr c11
                  clear c11
                  (first | rw [c11b0] | (simp only [i64_w, i32_w]; rw [c11b0]) | skip)
                  have H' := Aside0.mk H
                  clear H
                  go_wp2
                  go_meet
                  case rel => exact ⟨_, ((a0 == 4)), (by first | rfl | (simp; done) | (simp [*]; done)), H', ⟨by have := HJ2.out; have := HJ5.out; first | omega | exact Nat.le_refl _⟩, by repeat (first | exact Drawn0.refl _ | apply Drawn0.step)⟩
                · rw [if_neg c11] at H
                  have c11b0 : (a0 == 4) = false := beq_eq_false_iff_ne.mpr c11
                  have c11b1 : (a0 != 4) = true := bne_iff_ne.mpr c11
                  (first | rw [c11b0] | (simp only [i64_w, i32_w]; rw [c11b0]) | skip)
                  have H' := Aside0.mk H
                  clear H
                  go_wp2
                  go_meet
                  case rel => exact ⟨_, ((a0 == 16)), (by first | rfl | (simp; done) | (simp [*]; done)), H', ⟨by have := HJ2.out; have := HJ5.out; first | omega | exact Nat.le_refl _⟩, by repeat (first | exact Drawn0.refl _ | apply Drawn0.step)⟩
              case rest =>
                clear HC10
                try clear c1
                try clear c2
                try clear p2
                try clear c3
                try clear c4
                try clear c4b0
                try clear c4b1
                try clear c5
                try clear c7
                try clear c7b0
                try clear c7b1
                try clear c8
                try clear c9
                try clear c9b0
                try clear c11
                try clear c11b0
                try clear c11b1
                try clear p2
                obtain ⟨kq, x20_9, rfl, HA, HJ9, ⟨mc9, rfl⟩⟩ := hcut
                cases kq with
                | zero => exact absurd HA.out (by simp [tinctureref18_value.j2])
                | succ kj9 =>
                  have H := HA.out
                  clear HA
                  simp only [tinctureref18_value.j2] at H
                  by_cases c12 : x20_9 = true
                  · subst c12
                    have H1 : (some (decide (a1 ≤ 17))) = some r := by rw [if_pos rfl] at H; exact H
                    clear H
                    have H := H1
                    clear H1
                    obtain rfl := Option.some.inj H
                    go_wp2
                    go_ret
                    exact ⟨by first | rfl | (simp; done) | (simp [*]; done), by repeat (first | exact Drawn0.refl _ | apply Drawn0.step)⟩
                  · replace c12 := Bool.eq_false_iff.mpr c12
                    subst c12
                    have H1 : (if a0 = 5 then (if a1 ≤ 7 then (if a1 = 2 then (some false) else (some (a1 != 3))) else (some false)) else (if a0 = 6 then (tinctureref18_value.j3 kj9 a1 a0 (a0 == 6)) else (tinctureref18_value.j3 kj9 a1 a0 (a0 == 17)))) = some r := by rw [if_neg (show ¬ (false = true) by decide)] at H; exact H
                    clear H
                    have H := H1
                    clear H1
                    by_cases c13 : a0 = 5
                    · rw [if_pos c13] at H
                      have c13b0 : (a0 == 5) = true := beq_iff_eq.mpr c13
                      have c13b1 : (a0 != 5) = false := bne_eq_false_iff_eq.mpr c13
                      clear c13
                      by_cases c14 : a1 ≤ 7
                      · rw [if_pos c14] at H
                        have c14b0 : decide (a1 ≤ 7) = true := decide_eq_true c14
                        clear c14
                        by_cases c15 : a1 = 2
                        · rw [if_pos c15] at H
                          have c15b0 : (a1 == 2) = true := beq_iff_eq.mpr c15
                          have c15b1 : (a1 != 2) = false := bne_eq_false_iff_eq.mpr c15
                          clear c15
                          obtain rfl := Option.some.inj H
                          go_wp2
                          go_ret
                          exact ⟨by first | rfl | (simp; done) | (simp [*]; done), by repeat (first | exact Drawn0.refl _ | apply Drawn0.step)⟩
                        · rw [if_neg c15] at H
                          have c15b0 : (a1 == 2) = false := beq_eq_false_iff_ne.mpr c15
                          have c15b1 : (a1 != 2) = true := bne_iff_ne.mpr c15
                          obtain rfl := Option.some.inj H
                          go_wp2
                          go_ret
                          exact ⟨by first | rfl | (simp; done) | (simp [*]; done), by repeat (first | exact Drawn0.refl _ | apply Drawn0.step)⟩
                      · rw [if_neg c14] at H
                        have c14b0 : decide (a1 ≤ 7) = false := decide_eq_false c14
                        clear c14
                        obtain rfl := Option.some.inj H
                        go_wp2
                        go_ret
                        exact ⟨by first | rfl | (simp; done) | (simp [*]; done), by repeat (first | exact Drawn0.refl _ | apply Drawn0.step)⟩
                    · rw [if_neg c13] at H
                      have c13b0 : (a0 == 5) = false := beq_eq_false_iff_ne.mpr c13
                      have c13b1 : (a0 != 5) = true := bne_iff_ne.mpr c13
                      have HC16 := Aside0.mk H
                      clear H
                      go_upto_if 37 with (fail)
                      go_cut [37] (fun v37 wc => ∃ (kq : Nat) (x37_15 : Bool), v37 = .bool x37_15 ∧ Aside0 (tinctureref18_value.j3 kq a1 a0 x37_15 = some r) ∧ Aside0 (kq ≤ kj9) ∧ Drawn0 w wc)
                      case first =>
                        have H := HC16.out
                        clear HC16
                        by_cases c17 : a0 = 6
                        · rw [if_pos c17] at H
                          have c17b0 : (a0 == 6) = true := beq_iff_eq.mpr c17
                          have c17b1 : (a0 != 6) = false := bne_eq_false_iff_eq.mpr c17
                          clear c17
                          (first | rw [c17b0] | (simp only [i64_w, i32_w]; rw [c17b0]) | skip)
                          have H' := Aside0.mk H
                          clear H
                          go_wp2
                          go_meet
                          case rel => exact ⟨_, ((a0 == 6)), (by first | rfl | (simp; done) | (simp [*]; done)), H', ⟨by have := HJ2.out; have := HJ5.out; have := HJ9.out; first | omega | exact Nat.le_refl _⟩, by repeat (first | exact Drawn0.refl _ | apply Drawn0.step)⟩
                        · rw [if_neg c17] at H
                          have c17b0 : (a0 == 6) = false := beq_eq_false_iff_ne.mpr c17
                          have c17b1 : (a0 != 6) = true := bne_iff_ne.mpr c17
                          (first | rw [c17b0] | (simp only [i64_w, i32_w]; rw [c17b0]) | skip)
                          have H' := Aside0.mk H
                          clear H
                          go_wp2
                          go_meet
                          case rel => exact ⟨_, ((a0 == 17)), (by first | rfl | (simp; done) | (simp [*]; done)), H', ⟨by have := HJ2.out; have := HJ5.out; have := HJ9.out; first | omega | exact Nat.le_refl _⟩, by repeat (first | exact Drawn0.refl _ | apply Drawn0.step)⟩
                      case rest =>
                        clear HC16
                        try clear c1
                        try clear c2
                        try clear p2
                        try clear c3
                        try clear c4
                        try clear c4b0
                        try clear c4b1
                        try clear c5
                        try clear c7
                        try clear c7b0
                        try clear c7b1
                        try clear c8
                        try clear c9
                        try clear c9b0
                        try clear c11
                        try clear c11b0
                        try clear c11b1
                        try clear c12
                        try clear c13
                        try clear c13b0
                        try clear c13b1
                        try clear c14
                        try clear c14b0
                        try clear c15
                        try clear c15b0
                        try clear c15b1
                        try clear c17
                        try clear c17b0
                        try clear c17b1
                        try clear p2
                        obtain ⟨kq, x37_15, rfl, HA, HJ15, ⟨mc15, rfl⟩⟩ := hcut
                        cases kq with
                        | zero => exact absurd HA.out (by simp [tinctureref18_value.j3])
                        | succ kj15 =>
                          have H := HA.out
                          clear HA
                          simp only [tinctureref18_value.j3] at H
                          by_cases c18 : x37_15 = true
                          · subst c18
                            have H1 : (if a1 = 1 then (some true) else (if a1 = 2 then (some true) else (if a1 = 4 then (some true) else (if a1 = 9 then (some true) else (some (a1 == 10)))))) = some r := by rw [if_pos rfl] at H; exact H
                            clear H
                            have H := H1
                            clear H1
                            by_cases c19 : a1 = 1
                            · rw [if_pos c19] at H
                              have c19b0 : (a1 == 1) = true := beq_iff_eq.mpr c19
                              have c19b1 : (a1 != 1) = false := bne_eq_false_iff_eq.mpr c19
                              clear c19
                              obtain rfl := Option.some.inj H
                              go_wp2
                              go_ret
                              exact ⟨by first | rfl | (simp; done) | (simp [*]; done), by repeat (first | exact Drawn0.refl _ | apply Drawn0.step)⟩
                            · rw [if_neg c19] at H
                              have c19b0 : (a1 == 1) = false := beq_eq_false_iff_ne.mpr c19
                              have c19b1 : (a1 != 1) = true := bne_iff_ne.mpr c19
                              by_cases c20 : a1 = 2
                              · rw [if_pos c20] at H
                                have c20b0 : (a1 == 2) = true := beq_iff_eq.mpr c20
                                have c20b1 : (a1 != 2) = false := bne_eq_false_iff_eq.mpr c20
                                clear c20
                                obtain rfl := Option.some.inj H
                                go_wp2
                                go_ret
                                exact ⟨by first | rfl | (simp; done) | (simp [*]; done), by repeat (first | exact Drawn0.refl _ | apply Drawn0.step)⟩
                              · rw [if_neg c20] at H
                                have c20b0 : (a1 == 2) = false := beq_eq_false_iff_ne.mpr c20
                                have c20b1 : (a1 != 2) = true := bne_iff_ne.mpr c20
                                by_cases c21 : a1 = 4
                                · rw [if_pos c21] at H
                                  have c21b0 : (a1 == 4) = true := beq_iff_eq.mpr c21
                                  have c21b1 : (a1 != 4) = false := bne_eq_false_iff_eq.mpr c21
                                  clear c21
                                  obtain rfl := Option.some.inj H
                                  go_wp2
                                  go_ret
                                  exact ⟨by first | rfl | (simp; done) | (simp [*]; done), by repeat (first | exact Drawn0.refl _ | apply Drawn0.step)⟩
                                · rw [if_neg c21] at H
                                  have c21b0 : (a1 == 4) = false := beq_eq_false_iff_ne.mpr c21
                                  have c21b1 : (a1 != 4) = true := bne_iff_ne.mpr c21
                                  by_cases c22 : a1 = 9
                                  · rw [if_pos c22] at H
                                    have c22b0 : (a1 == 9) = true := beq_iff_eq.mpr c22
                                    have c22b1 : (a1 != 9) = false := bne_eq_false_iff_eq.mpr c22
                                    clear c22
                                    obtain rfl := Option.some.inj H
                                    go_wp2
                                    go_ret
                                    exact ⟨by first | rfl | (simp; done) | (simp [*]; done), by repeat (first | exact Drawn0.refl _ | apply Drawn0.step)⟩
                                  · rw [if_neg c22] at H
                                    have c22b0 : (a1 == 9) = false := beq_eq_false_iff_ne.mpr c22
                                    have c22b1 : (a1 != 9) = true := bne_iff_ne.mpr c22
                                    obtain rfl := Option.some.inj H
                                    go_wp2
                                    go_ret
                                    exact ⟨by first | rfl | (simp; done) | (simp [*]; done), by repeat (first | exact Drawn0.refl _ | apply Drawn0.step)⟩
                          · replace c18 := Bool.eq_false_iff.mpr c18
                            subst c18
                            have H1 : (if a0 = 7 then (tinctureref18_value.j4 kj15 a1 a0 (a0 == 7)) else (tinctureref18_value.j4 kj15 a1 a0 (a0 == 18))) = some r := by rw [if_neg (show ¬ (false = true) by decide)] at H; exact H
                            clear H
                            have H := H1
                            clear H1
                            have HC23 := Aside0.mk H
                            clear H
                            go_upto_if 58 with (fail)
                            go_cut [58] (fun v58 wc => ∃ (kq : Nat) (x58_22 : Bool), v58 = .bool x58_22 ∧ Aside0 (tinctureref18_value.j4 kq a1 a0 x58_22 = some r) ∧ Aside0 (kq ≤ kj15) ∧ Drawn0 w wc)
                            case first =>
                              have H := HC23.out
                              clear HC23
                              by_cases c24 : a0 = 7
                              · rw [if_pos c24] at H
                                have c24b0 : (a0 == 7) = true := beq_iff_eq.mpr c24
                                have c24b1 : (a0 != 7) = false := bne_eq_false_iff_eq.mpr c24
                                clear c24
                                (first | rw [c24b0] | (simp only [i64_w, i32_w]; rw [c24b0]) | skip)
                                have H' := Aside0.mk H
                                clear H
                                go_wp2
                                go_meet
                                case rel => exact ⟨_, ((a0 == 7)), (by first | rfl | (simp; done) | (simp [*]; done)), H', ⟨by have := HJ2.out; have := HJ5.out; have := HJ9.out; have := HJ15.out; first | omega | exact Nat.le_refl _⟩, by repeat (first | exact Drawn0.refl _ | apply Drawn0.step)⟩
                              · rw [if_neg c24] at H
                                have c24b0 : (a0 == 7) = false := beq_eq_false_iff_ne.mpr c24
                                have c24b1 : (a0 != 7) = true := bne_iff_ne.mpr c24
                                (first | rw [c24b0] | (simp only [i64_w, i32_w]; rw [c24b0]) | skip)
                                have H' := Aside0.mk H
                                clear H
                                go_wp2
                                go_meet
                                case rel => exact ⟨_, ((a0 == 18)), (by first | rfl | (simp; done) | (simp [*]; done)), H', ⟨by have := HJ2.out; have := HJ5.out; have := HJ9.out; have := HJ15.out; first | omega | exact Nat.le_refl _⟩, by repeat (first | exact Drawn0.refl _ | apply Drawn0.step)⟩
                            case rest =>
                              clear HC23
                              try clear c1
                              try clear c2
                              try clear p2
                              try clear c3
                              try clear c4
                              try clear c4b0
                              try clear c4b1
                              try clear c5
                              try clear c7
                              try clear c7b0
                              try clear c7b1
                              try clear c8
                              try clear c9
                              try clear c9b0
                              try clear c11
                              try clear c11b0
                              try clear c11b1
                              try clear c12
                              try clear c13
                              try clear c13b0
                              try clear c13b1
                              try clear c14
                              try clear c14b0
                              try clear c15
                              try clear c15b0
                              try clear c15b1
                              try clear c17
                              try clear c17b0
                              try clear c17b1
                              try clear c18
                              try clear c19
                              try clear c19b0
                              try clear c19b1
                              try clear c20
                              try clear c20b0
                              try clear c20b1
                              try clear c21
                              try clear c21b0
                              try clear c21b1
                              try clear c22
                              try clear c22b0
                              try clear c22b1
                              try clear c24
                              try clear c24b0
                              try clear c24b1
                              try clear p2
                              obtain ⟨kq, x58_22, rfl, HA, HJ22, ⟨mc22, rfl⟩⟩ := hcut
                              cases kq with
                              | zero => exact absurd HA.out (by simp [tinctureref18_value.j4])
                              | succ kj22 =>
                                have H := HA.out
                                clear HA
                                simp only [tinctureref18_value.j4] at H
                                by_cases c25 : x58_22 = true
                                · subst c25
                                  have H1 : (if a1 = 1 then (some true) else (if a1 = 2 then (some true) else (some (a1 == 4)))) = some r := by rw [if_pos rfl] at H; exact H
                                  clear H
                                  have H := H1
                                  clear H1
                                  by_cases c26 : a1 = 1
                                  · rw [if_pos c26] at H
                                    have c26b0 : (a1 == 1) = true := beq_iff_eq.mpr c26
                                    have c26b1 : (a1 != 1) = false := bne_eq_false_iff_eq.mpr c26
                                    clear c26
                                    obtain rfl := Option.some.inj H
                                    go_wp2
                                    go_ret
                                    exact ⟨by first | rfl | (simp; done) | (simp [*]; done), by repeat (first | exact Drawn0.refl _ | apply Drawn0.step)⟩
                                  · rw [if_neg c26] at H
                                    have c26b0 : (a1 == 1) = false := beq_eq_false_iff_ne.mpr c26
                                    have c26b1 : (a1 != 1) = true := bne_iff_ne.mpr c26
                                    by_cases c27 : a1 = 2
                                    · rw [if_pos c27] at H
                                      have c27b0 : (a1 == 2) = true := beq_iff_eq.mpr c27
                                      have c27b1 : (a1 != 2) = false := bne_eq_false_iff_eq.mpr c27
                                      clear c27
                                      obtain rfl := Option.some.inj H
                                      go_wp2
                                      go_ret
                                      exact ⟨by first | rfl | (simp; done) | (simp [*]; done), by repeat (first | exact Drawn0.refl _ | apply Drawn0.step)⟩
                                    · rw [if_neg c27] at H
                                      have c27b0 : (a1 == 2) = false := beq_eq_false_iff_ne.mpr c27
                                      have c27b1 : (a1 != 2) = true := bne_iff_ne.mpr c27
                                      obtain rfl := Option.some.inj H
                                      go_wp2
                                      go_ret
                                      exact ⟨by first | rfl | (simp; done) | (simp [*]; done), by repeat (first | exact Drawn0.refl _ | apply Drawn0.step)⟩
                                · replace c25 := Bool.eq_false_iff.mpr c25
                                  subst c25
                                  have H1 : (if a0 = 13 then (if a1 = 2 then (some true) else (if a1 = 5 then (some true) else (some (a1 == 6)))) else (if a0 = 20 then (if a1 ≥ 1 then (some (decide (a1 ≤ 3))) else (some false)) else (if a0 = 1 then (some true) else (if a0 = 8 then (some true) else (if a0 = 10 then (some true) else (if a0 = 12 then (some true) else (some (a1 == 0)))))))) = some r := by rw [if_neg (show ¬ (false = true) by decide)] at H; exact H
                                  clear H
                                  have H := H1
                                  clear H1
                                  by_cases c28 : a0 = 13
                                  · rw [if_pos c28] at H
                                    have c28b0 : (a0 == 13) = true := beq_iff_eq.mpr c28
                                    have c28b1 : (a0 != 13) = false := bne_eq_false_iff_eq.mpr c28
                                    clear c28
                                    by_cases c29 : a1 = 2
                                    · rw [if_pos c29] at H
                                      have c29b0 : (a1 == 2) = true := beq_iff_eq.mpr c29
                                      have c29b1 : (a1 != 2) = false := bne_eq_false_iff_eq.mpr c29
                                      clear c29
                                      obtain rfl := Option.some.inj H
                                      go_wp2
                                      go_ret
                                      exact ⟨by first | rfl | (simp; done) | (simp [*]; done), by repeat (first | exact Drawn0.refl _ | apply Drawn0.step)⟩
                                    · rw [if_neg c29] at H
                                      have c29b0 : (a1 == 2) = false := beq_eq_false_iff_ne.mpr c29
                                      have c29b1 : (a1 != 2) = true := bne_iff_ne.mpr c29
                                      by_cases c30 : a1 = 5
                                      · rw [if_pos c30] at H
                                        have c30b0 : (a1 == 5) = true := beq_iff_eq.mpr c30
                                        have c30b1 : (a1 != 5) = false := bne_eq_false_iff_eq.mpr c30
                                        clear c30
                                        obtain rfl := Option.some.inj H
                                        go_wp2
                                        go_ret
                                        exact ⟨by first | rfl | (simp; done) | (simp [*]; done), by repeat (first | exact Drawn0.refl _ | apply Drawn0.step)⟩
                                      · rw [if_neg c30] at H
                                        have c30b0 : (a1 == 5) = false := beq_eq_false_iff_ne.mpr c30
                                        have c30b1 : (a1 != 5) = true := bne_iff_ne.mpr c30
                                        obtain rfl := Option.some.inj H
                                        go_wp2
                                        go_ret
                                        exact ⟨by first | rfl | (simp; done) | (simp [*]; done), by repeat (first | exact Drawn0.refl _ | apply Drawn0.step)⟩
                                  · rw [if_neg c28] at H
                                    have c28b0 : (a0 == 13) = false := beq_eq_false_iff_ne.mpr c28
                                    have c28b1 : (a0 != 13) = true := bne_iff_ne.mpr c28
                                    by_cases c31 : a0 = 20
                                    · rw [if_pos c31] at H
                                      have c31b0 : (a0 == 20) = true := beq_iff_eq.mpr c31
                                      have c31b1 : (a0 != 20) = false := bne_eq_false_iff_eq.mpr c31
                                      clear c31
                                      by_cases c32 : a1 ≥ 1
                                      · rw [if_pos c32] at H
                                        have c32b0 : decide (1 ≤ a1) = true := decide_eq_true c32
                                        clear c32
                                        obtain rfl := Option.some.inj H
                                        go_wp2
                                        go_ret
                                        exact ⟨by first | rfl | (simp; done) | (simp [*]; done), by repeat (first | exact Drawn0.refl _ | apply Drawn0.step)⟩
                                      · rw [if_neg c32] at H
                                        have c32b0 : decide (1 ≤ a1) = false := decide_eq_false c32
                                        clear c32
                                        obtain rfl := Option.some.inj H
                                        go_wp2
                                        go_ret
                                        exact ⟨by first | rfl | (simp; done) | (simp [*]; done), by repeat (first | exact Drawn0.refl _ | apply Drawn0.step)⟩
                                    · rw [if_neg c31] at H
                                      have c31b0 : (a0 == 20) = false := beq_eq_false_iff_ne.mpr c31
                                      have c31b1 : (a0 != 20) = true := bne_iff_ne.mpr c31
                                      by_cases c33 : a0 = 1
                                      · rw [if_pos c33] at H
                                        have c33b0 : (a0 == 1) = true := beq_iff_eq.mpr c33
                                        have c33b1 : (a0 != 1) = false := bne_eq_false_iff_eq.mpr c33
                                        clear c33
                                        obtain rfl := Option.some.inj H
                                        go_wp2
                                        go_ret
                                        exact ⟨by first | rfl | (simp; done) | (simp [*]; done), by repeat (first | exact Drawn0.refl _ | apply Drawn0.step)⟩
                                      · rw [if_neg c33] at H
                                        have c33b0 : (a0 == 1) = false := beq_eq_false_iff_ne.mpr c33
                                        have c33b1 : (a0 != 1) = true := bne_iff_ne.mpr c33
                                        by_cases c34 : a0 = 8
                                        · rw [if_pos c34] at H
                                          have c34b0 : (a0 == 8) = true := beq_iff_eq.mpr c34
                                          have c34b1 : (a0 != 8) = false := bne_eq_false_iff_eq.mpr c34
                                          clear c34
                                          obtain rfl := Option.some.inj H
                                          go_wp2
                                          go_ret
                                          exact ⟨by first | rfl | (simp; done) | (simp [*]; done), by repeat (first | exact Drawn0.refl _ | apply Drawn0.step)⟩
                                        · rw [if_neg c34] at H
                                          have c34b0 : (a0 == 8) = false := beq_eq_false_iff_ne.mpr c34
                                          have c34b1 : (a0 != 8) = true := bne_iff_ne.mpr c34
                                          by_cases c35 : a0 = 10
                                          · rw [if_pos c35] at H
                                            have c35b0 : (a0 == 10) = true := beq_iff_eq.mpr c35
                                            have c35b1 : (a0 != 10) = false := bne_eq_false_iff_eq.mpr c35
                                            clear c35
                                            obtain rfl := Option.some.inj H
                                            go_wp2
                                            go_ret
                                            exact ⟨by first | rfl | (simp; done) | (simp [*]; done), by repeat (first | exact Drawn0.refl _ | apply Drawn0.step)⟩
                                          · rw [if_neg c35] at H
                                            have c35b0 : (a0 == 10) = false := beq_eq_false_iff_ne.mpr c35
                                            have c35b1 : (a0 != 10) = true := bne_iff_ne.mpr c35
                                            by_cases c36 : a0 = 12
                                            · rw [if_pos c36] at H
                                              have c36b0 : (a0 == 12) = true := beq_iff_eq.mpr c36
                                              have c36b1 : (a0 != 12) = false := bne_eq_false_iff_eq.mpr c36
                                              clear c36
                                              obtain rfl := Option.some.inj H
                                              go_wp2
                                              go_ret
                                              exact ⟨by first | rfl | (simp; done) | (simp [*]; done), by repeat (first | exact Drawn0.refl _ | apply Drawn0.step)⟩
                                            · rw [if_neg c36] at H
                                              have c36b0 : (a0 == 12) = false := beq_eq_false_iff_ne.mpr c36
                                              have c36b1 : (a0 != 12) = true := bne_iff_ne.mpr c36
                                              obtain rfl := Option.some.inj H
                                              go_wp2
                                              go_ret
                                              exact ⟨by first | rfl | (simp; done) | (simp [*]; done), by repeat (first | exact Drawn0.refl _ | apply Drawn0.step)⟩
/-! ### tinctureref18_field: function 33 -/
def tinctureref18_field.f (a0 : Int) (a1 : Bool) : Option (Bool) := if a0 ≥ 0 then (if a0 ≤ 255 then (if a1 = true then (some true) else (some (a0 == 0))) else (some false)) else (some false)
set_option maxHeartbeats 8000000 in
set_option maxRecDepth 100000 in
theorem tinctureref18_field.calls (a0 : Int) (a1 : Bool) (r : Bool) (w : World) (h : tinctureref18_field.f a0 a1 = some r) :
    Calls Tryd.prog 33 #[.int .i64 a0, .bool a1] w fun e w' => e = .returned (.bool r) ∧ Drawn0 w w' := by
  have H : (if a0 ≥ 0 then (if a0 ≤ 255 then (if a1 = true then (some true) else (some (a0 == 0))) else (some false)) else (some false)) = some r := h
  clear h
  by_cases c3 : a0 ≥ 0
  · rw [if_pos c3] at H
    have c3b0 : decide (0 ≤ a0) = true := decide_eq_true c3
    clear c3
    by_cases c4 : a0 ≤ 255
    · rw [if_pos c4] at H
      have c4b0 : decide (a0 ≤ 255) = true := decide_eq_true c4
      clear c4
      by_cases c5 : a1 = true
      · subst c5
        have H1 : (some true) = some r := by rw [if_pos rfl] at H; exact H
        clear H
        have H := H1
        clear H1
        obtain rfl := Option.some.inj H
        go_enter Tryd.func33, Tryd.ntmps33
        go_wp2
        go_ret
        exact ⟨by first | rfl | (simp; done) | (simp [*]; done), by repeat (first | exact Drawn0.refl _ | apply Drawn0.step)⟩
      · replace c5 := Bool.eq_false_iff.mpr c5
        subst c5
        have H1 : (some (a0 == 0)) = some r := by rw [if_neg (show ¬ (false = true) by decide)] at H; exact H
        clear H
        have H := H1
        clear H1
        obtain rfl := Option.some.inj H
        go_enter Tryd.func33, Tryd.ntmps33
        go_wp2
        go_ret
        exact ⟨by first | rfl | (simp; done) | (simp [*]; done), by repeat (first | exact Drawn0.refl _ | apply Drawn0.step)⟩
    · rw [if_neg c4] at H
      have c4b0 : decide (a0 ≤ 255) = false := decide_eq_false c4
      clear c4
      obtain rfl := Option.some.inj H
      go_enter Tryd.func33, Tryd.ntmps33
      go_wp2
      go_ret
      exact ⟨by first | rfl | (simp; done) | (simp [*]; done), by repeat (first | exact Drawn0.refl _ | apply Drawn0.step)⟩
  · rw [if_neg c3] at H
    have c3b0 : decide (0 ≤ a0) = false := decide_eq_false c3
    clear c3
    obtain rfl := Option.some.inj H
    go_enter Tryd.func33, Tryd.ntmps33
    go_wp2
    go_ret
    exact ⟨by first | rfl | (simp; done) | (simp [*]; done), by repeat (first | exact Drawn0.refl _ | apply Drawn0.step)⟩
end Go.Proofs.YtefijnbhdjpfpaaDoor.Ir
