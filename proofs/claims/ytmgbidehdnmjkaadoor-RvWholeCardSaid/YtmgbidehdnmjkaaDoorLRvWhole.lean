/- What the law RvWhole answers (its lines began as print.sh's). -/
import Derived.Test.YtmgbidehdnmjkaaDoorR0
import Derived.Test.YtmgbidehdnmjkaaDoorR1
import Derived.Test.YtmgbidehdnmjkaaDoorR3
import Derived.Test.YtmgbidehdnmjkaaDoorR5
import Derived.Test.YtmgbidehdnmjkaaDoorR6
namespace Go.Proofs.YtmgbidehdnmjkaaDoor.Rv
open Go.RowKit Go.Proofs.YtmgbidehdnmjkaaDoorW.PrintWords Go.Proofs.YtmgbidehdnmjkaaDoorW.PrintLast Go.Proofs.YtmgbidehdnmjkaaDoorW.PrintMore
attribute [local go_sem] max2_int min2_int max_two min_two max_three min_three max_four min_four   -- for this text's walks alone
set_option linter.unusedVariables false
set_option linter.unusedSimpArgs false
attribute [local go_sem high] eqA27
/-! ### tincturelaw5_RvWhole: function 6 -/
def tincturelaw5_RvWhole.j0 : Nat → Int → Int → Bool → Option (Bool)
  | 0, _, _, _ => none
  | k + 1, x0, x1, x22 => if x22 = true then (some true) else ((rv_Encode.f k x0 0 0 0 0).bind fun bt186 => ((rv_Name.f x0).bind fun t188 => (if t188.toList = ([] : List UInt8) then (some false) else ((rv_Name.f x0).bind fun t189 => ((rv_Name.f x1).bind fun t190 => (if ((t189.toList == t190.toList) == (x0 == x1)) = true then (if bt186.2 = 0 then ((rv_Decode.f k bt186.1).bind fun bt191 => (some (bt191.1 == x0 && (bt191.2.1 == 0 && (bt191.2.2.1 == 0 && (bt191.2.2.2.1 == 0 && (bt191.2.2.2.2 == 0))))))) else (some false)) else (some false)))))))
def tincturelaw5_RvWhole.f (k : Nat) (a0 : Int) (a1 : Int) : Option (Bool) := (tincturelaw5_awake.f k).bind fun t185 => (if t185 = true then (if a0 < 1 then (tincturelaw5_RvWhole.j0 k a0 a1 true) else (if a0 > 49 then (tincturelaw5_RvWhole.j0 k a0 a1 true) else (if a1 < 1 then (tincturelaw5_RvWhole.j0 k a0 a1 true) else (tincturelaw5_RvWhole.j0 k a0 a1 (decide (a1 > 49)))))) else (some false))
theorem tincturelaw5_RvWhole.mono_l : ∀ k, (∀ y0 y1 y2, LeO (tincturelaw5_RvWhole.j0 k y0 y1 y2) (tincturelaw5_RvWhole.j0 (k + 1) y0 y1 y2))
  | 0 => fun _ _ _ r h => by simp [tincturelaw5_RvWhole.j0] at h
  | k + 1 => by
    have ih0 := tincturelaw5_RvWhole.mono_l k
    · intro y0 y1 y2
      unfold tincturelaw5_RvWhole.j0
      repeat' first
      | (with_reducible exact ih0 _ _ _)
      | (with_reducible exact rv_Decode.mono _ _)
      | (with_reducible exact rv_Encode.mono _ _ _ _ _ _)
      | (with_reducible exact tincturelaw5_awake.mono _)
      | (with_reducible exact LeO.refl _)
      | (with_reducible exact LeO.none _)
      | (with_reducible refine LeO.ite ?_ ?_)
      | (with_reducible refine LeO.bind ?_ (fun _ => ?_))
      | exact ih0 _ _ _
      | exact rv_Decode.mono _ _
      | exact rv_Encode.mono _ _ _ _ _ _
      | exact tincturelaw5_awake.mono _
      | exact LeO.none _
      | refine LeO.ite ?_ ?_
      | refine LeO.bind ?_ (fun _ => ?_)
theorem tincturelaw5_RvWhole.mono : ∀ a0 a1 k, LeO (tincturelaw5_RvWhole.f k a0 a1) (tincturelaw5_RvWhole.f (k + 1) a0 a1) := by
  intro a0 a1 k
  have ih0 := tincturelaw5_RvWhole.mono_l k
  unfold tincturelaw5_RvWhole.f
  repeat' first
      | (with_reducible exact ih0 _ _ _)
      | (with_reducible exact rv_Decode.mono _ _)
      | (with_reducible exact rv_Encode.mono _ _ _ _ _ _)
      | (with_reducible exact tincturelaw5_awake.mono _)
      | (with_reducible exact LeO.refl _)
      | (with_reducible exact LeO.none _)
      | (with_reducible refine LeO.ite ?_ ?_)
      | (with_reducible refine LeO.bind ?_ (fun _ => ?_))
      | exact ih0 _ _ _
      | exact rv_Decode.mono _ _
      | exact rv_Encode.mono _ _ _ _ _ _
      | exact tincturelaw5_awake.mono _
      | exact LeO.none _
      | refine LeO.ite ?_ ?_
      | refine LeO.bind ?_ (fun _ => ?_)
set_option maxHeartbeats 8000000 in
set_option maxRecDepth 100000 in
theorem tincturelaw5_RvWhole.calls (k : Nat) (a0 : Int) (a1 : Int) (r : Bool) (w : World) (hT : Lib.TabIs Tryd.prog w "strings.asciiSpace" .u8 Lib.asciiSpaceTab) (h : tincturelaw5_RvWhole.f k a0 a1 = some r) :
    Calls Tryd.prog 6 #[.int .i64 a0, .int .i64 a1] w fun e w' => e = .returned (.bool r) ∧ Below w.heap.size w w' := by
  have TT := Aside0.mk hT
  clear hT
  have hu27 := Tryd.underlying27
  have HB := Aside0.mk (Below.refl w.heap.size w)
  have H : ((tincturelaw5_awake.f k).bind fun t185 => (if t185 = true then (if a0 < 1 then (tincturelaw5_RvWhole.j0 k a0 a1 true) else (if a0 > 49 then (tincturelaw5_RvWhole.j0 k a0 a1 true) else (if a1 < 1 then (tincturelaw5_RvWhole.j0 k a0 a1 true) else (tincturelaw5_RvWhole.j0 k a0 a1 (decide (a1 > 49)))))) else (some false))) = some r := h
  clear h
  replace H := Option.bind_eq_some_iff.mp H
  obtain ⟨t185, A30, H⟩ := H
  replace H : (if t185 = true then (if a0 < 1 then (tincturelaw5_RvWhole.j0 k a0 a1 true) else (if a0 > 49 then (tincturelaw5_RvWhole.j0 k a0 a1 true) else (if a1 < 1 then (tincturelaw5_RvWhole.j0 k a0 a1 true) else (tincturelaw5_RvWhole.j0 k a0 a1 (decide (a1 > 49)))))) else (some false)) = some r := H
  have A3 := Aside0.mk A30
  clear A30
  by_cases c4 : t185 = true
  · subst c4
    have H1 : (if a0 < 1 then (tincturelaw5_RvWhole.j0 k a0 a1 true) else (if a0 > 49 then (tincturelaw5_RvWhole.j0 k a0 a1 true) else (if a1 < 1 then (tincturelaw5_RvWhole.j0 k a0 a1 true) else (tincturelaw5_RvWhole.j0 k a0 a1 (decide (a1 > 49)))))) = some r := by rw [if_pos rfl] at H; exact H
    clear H
    have H := H1
    clear H1
    have HC5 := Aside0.mk H
    clear H
    go_enter Tryd.func6, Tryd.ntmps6
    go_upto_region 3 with (first | ((with_reducible refine gate_callee (f := 11) rfl ?_); refine goesL_ (some 7) rfl rfl Tryd.func11 (by kernel_rfl) rfl #[] rfl (by (try simp only [List.map_toArray, List.map_cons, List.map_nil]); first | done | rfl | (simp only [List.length_drop, List.length_take]; rfl)) ?_; (with_reducible refine (tincturelaw5_awake.calls k  true _ (Go.Joins.tab_stays blanks TT.out (by first | exact Below.refl _ _ | (repeat (first | (with_reducible first | exact HB.out | apply below_alloc | apply pw_below_drewN | apply below_drew1) | exact HB.out))) (Nat.le_refl _)) A3.out).mono ?_); rintro e w6 ⟨rfl, hb⟩; refine ⟨_, rfl, ?_⟩; have n0_ := Aside0.mk (below_step (by repeat (first | (with_reducible first | exact HB.out | apply below_alloc | apply pw_below_drewN | apply below_drew1) | exact HB.out)) hb); clear HB; have HB := n0_; clear n0_; (try clear hb); (try clear hb2); (try clear hk); (try clear hi)))
    (try simp only [Act.put, List.setIfInBounds_toArray, List.set_cons_zero, List.set_cons_succ])
    go_cut [22] (fun v22 wc => ∃ (kq : Nat) (x22_4 : Bool), v22 = .bool x22_4 ∧ Aside0 (tincturelaw5_RvWhole.j0 kq a0 a1 x22_4 = some r) ∧ Aside0 (kq ≤ k) ∧ Aside0 (Below w.heap.size w wc))
    case first =>
      have H := HC5.out
      clear HC5
      by_cases c7 : a0 < 1
      · rw [if_pos c7] at H
        have c7b0 : decide (a0 < 1) = true := decide_eq_true c7
        clear c7
        (first | rw [c7b0] | (simp only [i64_w, i32_w]; rw [c7b0]) | skip)
        have H' := Aside0.mk H
        clear H
        go_wp2
        go_meet
        case rel => exact ⟨_, (true), (by first | rfl | (simp; done) | (simp [*]; done)), H', ⟨by first | omega | exact Nat.le_refl _⟩, ⟨by repeat (first | (with_reducible first | exact HB.out | apply below_alloc | apply pw_below_drewN | apply below_drew1) | exact HB.out)⟩⟩
      · rw [if_neg c7] at H
        have c7b0 : decide (a0 < 1) = false := decide_eq_false c7
        clear c7
        (first | rw [c7b0] | (simp only [i64_w, i32_w]; rw [c7b0]) | skip)
        by_cases c8 : a0 > 49
        · rw [if_pos c8] at H
          have c8b0 : decide (49 < a0) = true := decide_eq_true c8
          clear c8
          have H' := Aside0.mk H
          clear H
          go_wp2
          go_meet
          case rel => exact ⟨_, (true), (by first | rfl | (simp; done) | (simp [*]; done)), H', ⟨by first | omega | exact Nat.le_refl _⟩, ⟨by repeat (first | (with_reducible first | exact HB.out | apply below_alloc | apply pw_below_drewN | apply below_drew1) | exact HB.out)⟩⟩
        · rw [if_neg c8] at H
          have c8b0 : decide (49 < a0) = false := decide_eq_false c8
          clear c8
          by_cases c9 : a1 < 1
          · rw [if_pos c9] at H
            have c9b0 : decide (a1 < 1) = true := decide_eq_true c9
            clear c9
            have H' := Aside0.mk H
            clear H
            go_wp2
            go_meet
            case rel => exact ⟨_, (true), (by first | rfl | (simp; done) | (simp [*]; done)), H', ⟨by first | omega | exact Nat.le_refl _⟩, ⟨by repeat (first | (with_reducible first | exact HB.out | apply below_alloc | apply pw_below_drewN | apply below_drew1) | exact HB.out)⟩⟩
          · rw [if_neg c9] at H
            have c9b0 : decide (a1 < 1) = false := decide_eq_false c9
            clear c9
            have H' := Aside0.mk H
            clear H
            go_wp2
            go_meet
            case rel => exact ⟨_, (decide (a1 > 49)), (by first | rfl | (simp; done) | (simp [*]; done)), H', ⟨by first | omega | exact Nat.le_refl _⟩, ⟨by repeat (first | (with_reducible first | exact HB.out | apply below_alloc | apply pw_below_drewN | apply below_drew1) | exact HB.out)⟩⟩
    case rest =>
      clear HC5
      try clear c1
      try clear p2
      try clear c4
      try clear c6
      try clear c7
      try clear c7b0
      try clear c8
      try clear c8b0
      try clear c9
      try clear c9b0
      obtain ⟨kq, x22_4, rfl, HA, HJ4, HB⟩ := hcut
      cases kq with
      | zero => exact absurd HA.out (by simp [tincturelaw5_RvWhole.j0])
      | succ kj4 =>
        have H := HA.out
        clear HA
        simp only [tincturelaw5_RvWhole.j0] at H
        by_cases c10 : x22_4 = true
        · subst c10
          have H1 : (some true) = some r := by rw [if_pos rfl] at H; exact H
          clear H
          have H := H1
          clear H1
          obtain rfl := Option.some.inj H
          go_wp2
          go_ret
          exact ⟨by first | rfl | (simp [errW_none, errW_some] <;> rfl) | (simp [*, errW_none, errW_some] <;> rfl), by repeat (first | (with_reducible first | exact HB.out | apply below_alloc | apply pw_below_drewN | apply below_drew1) | exact HB.out)⟩
        · replace c10 := Bool.eq_false_iff.mpr c10
          subst c10
          have H1 : ((rv_Encode.f kj4 a0 0 0 0 0).bind fun bt186 => ((rv_Name.f a0).bind fun t188 => (if t188.toList = ([] : List UInt8) then (some false) else ((rv_Name.f a0).bind fun t189 => ((rv_Name.f a1).bind fun t190 => (if ((t189.toList == t190.toList) == (a0 == a1)) = true then (if bt186.2 = 0 then ((rv_Decode.f kj4 bt186.1).bind fun bt191 => (some (bt191.1 == a0 && (bt191.2.1 == 0 && (bt191.2.2.1 == 0 && (bt191.2.2.2.1 == 0 && (bt191.2.2.2.2 == 0))))))) else (some false)) else (some false))))))) = some r := by rw [if_neg (show ¬ (false = true) by decide)] at H; exact H
          clear H
          have H := H1
          clear H1
          replace H := Option.bind_eq_some_iff.mp H
          obtain ⟨⟨t186, t187⟩, A110, H⟩ := H
          replace H : ((rv_Name.f a0).bind fun t188 => (if t188.toList = ([] : List UInt8) then (some false) else ((rv_Name.f a0).bind fun t189 => ((rv_Name.f a1).bind fun t190 => (if ((t189.toList == t190.toList) == (a0 == a1)) = true then (if t187 = 0 then ((rv_Decode.f kj4 t186).bind fun bt191 => (some (bt191.1 == a0 && (bt191.2.1 == 0 && (bt191.2.2.1 == 0 && (bt191.2.2.2.1 == 0 && (bt191.2.2.2.2 == 0))))))) else (some false)) else (some false)))))) = some r := H
          have A11 := Aside0.mk A110
          clear A110
          replace H := Option.bind_eq_some_iff.mp H
          obtain ⟨t188, A120, H⟩ := H
          replace H : (if t188.toList = ([] : List UInt8) then (some false) else ((rv_Name.f a0).bind fun t189 => ((rv_Name.f a1).bind fun t190 => (if ((t189.toList == t190.toList) == (a0 == a1)) = true then (if t187 = 0 then ((rv_Decode.f kj4 t186).bind fun bt191 => (some (bt191.1 == a0 && (bt191.2.1 == 0 && (bt191.2.2.1 == 0 && (bt191.2.2.2.1 == 0 && (bt191.2.2.2.2 == 0))))))) else (some false)) else (some false))))) = some r := H
          have A12 := Aside0.mk A120
          clear A120
          by_cases c13 : t188.toList = ([] : List UInt8)
          · rw [if_pos c13] at H
            have c13b0 : (t188.toList == ([] : List UInt8)) = true := beq_iff_eq.mpr c13
            have c13b1 : (t188.toList != ([] : List UInt8)) = false := bne_eq_false_iff_eq.mpr c13
            clear c13
            obtain rfl := Option.some.inj H
            go_wp2_with (first | ((with_reducible refine gate_callee (f := 15) rfl ?_); refine goesL_ (some 26) rfl rfl Tryd.func15 (by kernel_rfl) rfl #[.agg #[.int .i64 a0, .int .i64 0, .int .i64 0, .int .i64 0, .int .i32 0]] rfl (by (try simp only [List.map_toArray, List.map_cons, List.map_nil]); first | done | rfl | (simp only [List.length_drop, List.length_take]; rfl)) ?_; (with_reducible refine (rv_Encode.calls kj4 a0 0 0 0 0 t186 t187 _ A11.out).mono ?_); rintro e w14 ⟨rfl, hb⟩; refine ⟨_, rfl, ?_⟩; have n0_ := Aside0.mk (below_step (by repeat (first | (with_reducible first | exact HB.out | apply below_alloc | apply pw_below_drewN | apply below_drew1) | exact HB.out)) hb); clear HB; have HB := n0_; clear n0_; (try clear hb); (try clear hb2); (try clear hk); (try clear hi)) | ((with_reducible refine gate_callee (f := 16) rfl ?_); refine goesL_ (some 30) rfl rfl Tryd.func16 (by kernel_rfl) rfl #[.int .i64 a0] rfl (by (try simp only [List.map_toArray, List.map_cons, List.map_nil]); first | done | rfl | (simp only [List.length_drop, List.length_take]; rfl)) ?_; (with_reducible refine (rv_Name.calls a0 t188 _ (Go.Joins.tab_stays blanks TT.out (by first | exact Below.refl _ _ | (repeat (first | (with_reducible first | exact HB.out | apply below_alloc | apply pw_below_drewN | apply below_drew1) | exact HB.out))) (Nat.le_refl _)) A12.out).mono ?_); rintro e w15 ⟨rfl, hb⟩; refine ⟨_, rfl, ?_⟩; have n0_ := Aside0.mk (below_step (by repeat (first | (with_reducible first | exact HB.out | apply below_alloc | apply pw_below_drewN | apply below_drew1) | exact HB.out)) hb); clear HB; have HB := n0_; clear n0_; (try clear hb); (try clear hb2); (try clear hk); (try clear hi)))
            go_ret
            exact ⟨by first | rfl | (simp [errW_none, errW_some] <;> rfl) | (simp [*, errW_none, errW_some] <;> rfl), by repeat (first | (with_reducible first | exact HB.out | apply below_alloc | apply pw_below_drewN | apply below_drew1) | exact HB.out)⟩
          · rw [if_neg c13] at H
            have c13b0 : (t188.toList == ([] : List UInt8)) = false := beq_eq_false_iff_ne.mpr c13
            have c13b1 : (t188.toList != ([] : List UInt8)) = true := bne_iff_ne.mpr c13
            replace H := Option.bind_eq_some_iff.mp H
            obtain ⟨t189, A160, H⟩ := H
            replace H : ((rv_Name.f a1).bind fun t190 => (if ((t189.toList == t190.toList) == (a0 == a1)) = true then (if t187 = 0 then ((rv_Decode.f kj4 t186).bind fun bt191 => (some (bt191.1 == a0 && (bt191.2.1 == 0 && (bt191.2.2.1 == 0 && (bt191.2.2.2.1 == 0 && (bt191.2.2.2.2 == 0))))))) else (some false)) else (some false))) = some r := H
            have A16 := Aside0.mk A160
            clear A160
            replace H := Option.bind_eq_some_iff.mp H
            obtain ⟨t190, A170, H⟩ := H
            replace H : (if ((t189.toList == t190.toList) == (a0 == a1)) = true then (if t187 = 0 then ((rv_Decode.f kj4 t186).bind fun bt191 => (some (bt191.1 == a0 && (bt191.2.1 == 0 && (bt191.2.2.1 == 0 && (bt191.2.2.2.1 == 0 && (bt191.2.2.2.2 == 0))))))) else (some false)) else (some false)) = some r := H
            have A17 := Aside0.mk A170
            clear A170
            by_cases c18 : ((t189.toList == t190.toList) == (a0 == a1)) = true
            · rw [if_pos c18] at H
              have c18b0 : ((t189.toList == t190.toList) == (a0 == a1)) = true := c18
              (try (have c18b1 : decide ((t189.toList == t190.toList) = (a0 == a1)) = true := by simpa using c18))
              (try (have c18b2 : ((t189.toList == t190.toList) == (a0 == a1)) = true := by simpa using c18))
              clear c18
              by_cases c19 : t187 = 0
              · rw [if_pos c19] at H
                have c19b0 : (t187 == 0) = true := beq_iff_eq.mpr c19
                have c19b1 : (t187 != 0) = false := bne_eq_false_iff_eq.mpr c19
                clear c19
                replace H := Option.bind_eq_some_iff.mp H
                obtain ⟨⟨t191, t192, t193, t194, t195⟩, A200, H⟩ := H
                replace H : (some (t191 == a0 && (t192 == 0 && (t193 == 0 && (t194 == 0 && (t195 == 0)))))) = some r := H
                have A20 := Aside0.mk A200
                clear A200
                obtain rfl := Option.some.inj H
                go_wp2_with (first | ((with_reducible refine gate_callee (f := 15) rfl ?_); refine goesL_ (some 26) rfl rfl Tryd.func15 (by kernel_rfl) rfl #[.agg #[.int .i64 a0, .int .i64 0, .int .i64 0, .int .i64 0, .int .i32 0]] rfl (by (try simp only [List.map_toArray, List.map_cons, List.map_nil]); first | done | rfl | (simp only [List.length_drop, List.length_take]; rfl)) ?_; (with_reducible refine (rv_Encode.calls kj4 a0 0 0 0 0 t186 t187 _ A11.out).mono ?_); rintro e w21 ⟨rfl, hb⟩; refine ⟨_, rfl, ?_⟩; have n0_ := Aside0.mk (below_step (by repeat (first | (with_reducible first | exact HB.out | apply below_alloc | apply pw_below_drewN | apply below_drew1) | exact HB.out)) hb); clear HB; have HB := n0_; clear n0_; (try clear hb); (try clear hb2); (try clear hk); (try clear hi)) | ((with_reducible refine gate_callee (f := 16) rfl ?_); refine goesL_ (some 30) rfl rfl Tryd.func16 (by kernel_rfl) rfl #[.int .i64 a0] rfl (by (try simp only [List.map_toArray, List.map_cons, List.map_nil]); first | done | rfl | (simp only [List.length_drop, List.length_take]; rfl)) ?_; (with_reducible refine (rv_Name.calls a0 t188 _ (Go.Joins.tab_stays blanks TT.out (by first | exact Below.refl _ _ | (repeat (first | (with_reducible first | exact HB.out | apply below_alloc | apply pw_below_drewN | apply below_drew1) | exact HB.out))) (Nat.le_refl _)) A12.out).mono ?_); rintro e w22 ⟨rfl, hb⟩; refine ⟨_, rfl, ?_⟩; have n0_ := Aside0.mk (below_step (by repeat (first | (with_reducible first | exact HB.out | apply below_alloc | apply pw_below_drewN | apply below_drew1) | exact HB.out)) hb); clear HB; have HB := n0_; clear n0_; (try clear hb); (try clear hb2); (try clear hk); (try clear hi)) | (go_at_call 16; (with_reducible refine (rv_Name.calls a0 t189 _ (Go.Joins.tab_stays blanks TT.out (by first | exact Below.refl _ _ | (repeat (first | (with_reducible first | exact HB.out | apply below_alloc | apply pw_below_drewN | apply below_drew1) | exact HB.out))) (Nat.le_refl _)) A16.out).mono ?_); rintro e w23 ⟨rfl, hb⟩; have n0_ := Aside0.mk (below_step (by repeat (first | (with_reducible first | exact HB.out | apply below_alloc | apply pw_below_drewN | apply below_drew1) | exact HB.out)) hb); clear HB; have HB := n0_; clear n0_; (try clear hb); (try clear hb2); (try clear hk); (try clear hi)) | (go_at_call 16; (with_reducible refine (rv_Name.calls a1 t190 _ (Go.Joins.tab_stays blanks TT.out (by first | exact Below.refl _ _ | (repeat (first | (with_reducible first | exact HB.out | apply below_alloc | apply pw_below_drewN | apply below_drew1) | exact HB.out))) (Nat.le_refl _)) A17.out).mono ?_); rintro e w24 ⟨rfl, hb⟩; have n0_ := Aside0.mk (below_step (by repeat (first | (with_reducible first | exact HB.out | apply below_alloc | apply pw_below_drewN | apply below_drew1) | exact HB.out)) hb); clear HB; have HB := n0_; clear n0_; (try clear hb); (try clear hb2); (try clear hk); (try clear hi)) | (go_at_call 13; (with_reducible refine (rv_Decode.calls kj4 t186 t191 t192 t193 t194 t195 _ A20.out).mono ?_); rintro e w25 ⟨rfl, hb⟩; have n0_ := Aside0.mk (below_step (by repeat (first | (with_reducible first | exact HB.out | apply below_alloc | apply pw_below_drewN | apply below_drew1) | exact HB.out)) hb); clear HB; have HB := n0_; clear n0_; (try clear hb); (try clear hb2); (try clear hk); (try clear hi)))
                go_ret
                exact ⟨by first | rfl | (simp [errW_none, errW_some] <;> rfl) | (simp [*, errW_none, errW_some] <;> rfl), by repeat (first | (with_reducible first | exact HB.out | apply below_alloc | apply pw_below_drewN | apply below_drew1) | exact HB.out)⟩
              · rw [if_neg c19] at H
                have c19b0 : (t187 == 0) = false := beq_eq_false_iff_ne.mpr c19
                have c19b1 : (t187 != 0) = true := bne_iff_ne.mpr c19
                obtain rfl := Option.some.inj H
                go_wp2_with (first | ((with_reducible refine gate_callee (f := 15) rfl ?_); refine goesL_ (some 26) rfl rfl Tryd.func15 (by kernel_rfl) rfl #[.agg #[.int .i64 a0, .int .i64 0, .int .i64 0, .int .i64 0, .int .i32 0]] rfl (by (try simp only [List.map_toArray, List.map_cons, List.map_nil]); first | done | rfl | (simp only [List.length_drop, List.length_take]; rfl)) ?_; (with_reducible refine (rv_Encode.calls kj4 a0 0 0 0 0 t186 t187 _ A11.out).mono ?_); rintro e w26 ⟨rfl, hb⟩; refine ⟨_, rfl, ?_⟩; have n0_ := Aside0.mk (below_step (by repeat (first | (with_reducible first | exact HB.out | apply below_alloc | apply pw_below_drewN | apply below_drew1) | exact HB.out)) hb); clear HB; have HB := n0_; clear n0_; (try clear hb); (try clear hb2); (try clear hk); (try clear hi)) | ((with_reducible refine gate_callee (f := 16) rfl ?_); refine goesL_ (some 30) rfl rfl Tryd.func16 (by kernel_rfl) rfl #[.int .i64 a0] rfl (by (try simp only [List.map_toArray, List.map_cons, List.map_nil]); first | done | rfl | (simp only [List.length_drop, List.length_take]; rfl)) ?_; (with_reducible refine (rv_Name.calls a0 t188 _ (Go.Joins.tab_stays blanks TT.out (by first | exact Below.refl _ _ | (repeat (first | (with_reducible first | exact HB.out | apply below_alloc | apply pw_below_drewN | apply below_drew1) | exact HB.out))) (Nat.le_refl _)) A12.out).mono ?_); rintro e w27 ⟨rfl, hb⟩; refine ⟨_, rfl, ?_⟩; have n0_ := Aside0.mk (below_step (by repeat (first | (with_reducible first | exact HB.out | apply below_alloc | apply pw_below_drewN | apply below_drew1) | exact HB.out)) hb); clear HB; have HB := n0_; clear n0_; (try clear hb); (try clear hb2); (try clear hk); (try clear hi)) | (go_at_call 16; (with_reducible refine (rv_Name.calls a0 t189 _ (Go.Joins.tab_stays blanks TT.out (by first | exact Below.refl _ _ | (repeat (first | (with_reducible first | exact HB.out | apply below_alloc | apply pw_below_drewN | apply below_drew1) | exact HB.out))) (Nat.le_refl _)) A16.out).mono ?_); rintro e w28 ⟨rfl, hb⟩; have n0_ := Aside0.mk (below_step (by repeat (first | (with_reducible first | exact HB.out | apply below_alloc | apply pw_below_drewN | apply below_drew1) | exact HB.out)) hb); clear HB; have HB := n0_; clear n0_; (try clear hb); (try clear hb2); (try clear hk); (try clear hi)) | (go_at_call 16; (with_reducible refine (rv_Name.calls a1 t190 _ (Go.Joins.tab_stays blanks TT.out (by first | exact Below.refl _ _ | (repeat (first | (with_reducible first | exact HB.out | apply below_alloc | apply pw_below_drewN | apply below_drew1) | exact HB.out))) (Nat.le_refl _)) A17.out).mono ?_); rintro e w29 ⟨rfl, hb⟩; have n0_ := Aside0.mk (below_step (by repeat (first | (with_reducible first | exact HB.out | apply below_alloc | apply pw_below_drewN | apply below_drew1) | exact HB.out)) hb); clear HB; have HB := n0_; clear n0_; (try clear hb); (try clear hb2); (try clear hk); (try clear hi)))
                go_ret
                exact ⟨by first | rfl | (simp [errW_none, errW_some] <;> rfl) | (simp [*, errW_none, errW_some] <;> rfl), by repeat (first | (with_reducible first | exact HB.out | apply below_alloc | apply pw_below_drewN | apply below_drew1) | exact HB.out)⟩
            · rw [if_neg c18] at H
              have c18b0 : ((t189.toList == t190.toList) == (a0 == a1)) = false := by simpa using c18
              (try (have c18b1 : decide ((t189.toList == t190.toList) = (a0 == a1)) = false := by simpa using c18))
              (try (have c18b2 : ((t189.toList == t190.toList) == (a0 == a1)) = false := by simpa using c18))
              (try (have c18b3 : ¬ ((t189.toList == t190.toList) = (a0 == a1)) := by simpa using c18))
              clear c18
              obtain rfl := Option.some.inj H
              go_wp2_with (first | ((with_reducible refine gate_callee (f := 15) rfl ?_); refine goesL_ (some 26) rfl rfl Tryd.func15 (by kernel_rfl) rfl #[.agg #[.int .i64 a0, .int .i64 0, .int .i64 0, .int .i64 0, .int .i32 0]] rfl (by (try simp only [List.map_toArray, List.map_cons, List.map_nil]); first | done | rfl | (simp only [List.length_drop, List.length_take]; rfl)) ?_; (with_reducible refine (rv_Encode.calls kj4 a0 0 0 0 0 t186 t187 _ A11.out).mono ?_); rintro e w30 ⟨rfl, hb⟩; refine ⟨_, rfl, ?_⟩; have n0_ := Aside0.mk (below_step (by repeat (first | (with_reducible first | exact HB.out | apply below_alloc | apply pw_below_drewN | apply below_drew1) | exact HB.out)) hb); clear HB; have HB := n0_; clear n0_; (try clear hb); (try clear hb2); (try clear hk); (try clear hi)) | ((with_reducible refine gate_callee (f := 16) rfl ?_); refine goesL_ (some 30) rfl rfl Tryd.func16 (by kernel_rfl) rfl #[.int .i64 a0] rfl (by (try simp only [List.map_toArray, List.map_cons, List.map_nil]); first | done | rfl | (simp only [List.length_drop, List.length_take]; rfl)) ?_; (with_reducible refine (rv_Name.calls a0 t188 _ (Go.Joins.tab_stays blanks TT.out (by first | exact Below.refl _ _ | (repeat (first | (with_reducible first | exact HB.out | apply below_alloc | apply pw_below_drewN | apply below_drew1) | exact HB.out))) (Nat.le_refl _)) A12.out).mono ?_); rintro e w31 ⟨rfl, hb⟩; refine ⟨_, rfl, ?_⟩; have n0_ := Aside0.mk (below_step (by repeat (first | (with_reducible first | exact HB.out | apply below_alloc | apply pw_below_drewN | apply below_drew1) | exact HB.out)) hb); clear HB; have HB := n0_; clear n0_; (try clear hb); (try clear hb2); (try clear hk); (try clear hi)) | (go_at_call 16; (with_reducible refine (rv_Name.calls a0 t189 _ (Go.Joins.tab_stays blanks TT.out (by first | exact Below.refl _ _ | (repeat (first | (with_reducible first | exact HB.out | apply below_alloc | apply pw_below_drewN | apply below_drew1) | exact HB.out))) (Nat.le_refl _)) A16.out).mono ?_); rintro e w32 ⟨rfl, hb⟩; have n0_ := Aside0.mk (below_step (by repeat (first | (with_reducible first | exact HB.out | apply below_alloc | apply pw_below_drewN | apply below_drew1) | exact HB.out)) hb); clear HB; have HB := n0_; clear n0_; (try clear hb); (try clear hb2); (try clear hk); (try clear hi)) | (go_at_call 16; (with_reducible refine (rv_Name.calls a1 t190 _ (Go.Joins.tab_stays blanks TT.out (by first | exact Below.refl _ _ | (repeat (first | (with_reducible first | exact HB.out | apply below_alloc | apply pw_below_drewN | apply below_drew1) | exact HB.out))) (Nat.le_refl _)) A17.out).mono ?_); rintro e w33 ⟨rfl, hb⟩; have n0_ := Aside0.mk (below_step (by repeat (first | (with_reducible first | exact HB.out | apply below_alloc | apply pw_below_drewN | apply below_drew1) | exact HB.out)) hb); clear HB; have HB := n0_; clear n0_; (try clear hb); (try clear hb2); (try clear hk); (try clear hi)))
              go_ret
              exact ⟨by first | rfl | (simp [errW_none, errW_some] <;> rfl) | (simp [*, errW_none, errW_some] <;> rfl), by repeat (first | (with_reducible first | exact HB.out | apply below_alloc | apply pw_below_drewN | apply below_drew1) | exact HB.out)⟩
  · replace c4 := Bool.eq_false_iff.mpr c4
    subst c4
    have H1 : (some false) = some r := by rw [if_neg (show ¬ (false = true) by decide)] at H; exact H
    clear H
    have H := H1
    clear H1
    obtain rfl := Option.some.inj H
    go_enter Tryd.func6, Tryd.ntmps6
    go_wp2_with (first | ((with_reducible refine gate_callee (f := 11) rfl ?_); refine goesL_ (some 7) rfl rfl Tryd.func11 (by kernel_rfl) rfl #[] rfl (by (try simp only [List.map_toArray, List.map_cons, List.map_nil]); first | done | rfl | (simp only [List.length_drop, List.length_take]; rfl)) ?_; (with_reducible refine (tincturelaw5_awake.calls k  false _ (Go.Joins.tab_stays blanks TT.out (by first | exact Below.refl _ _ | (repeat (first | (with_reducible first | exact HB.out | apply below_alloc | apply pw_below_drewN | apply below_drew1) | exact HB.out))) (Nat.le_refl _)) A3.out).mono ?_); rintro e w34 ⟨rfl, hb⟩; refine ⟨_, rfl, ?_⟩; have n0_ := Aside0.mk (below_step (by repeat (first | (with_reducible first | exact HB.out | apply below_alloc | apply pw_below_drewN | apply below_drew1) | exact HB.out)) hb); clear HB; have HB := n0_; clear n0_; (try clear hb); (try clear hb2); (try clear hk); (try clear hi)))
    go_ret
    exact ⟨by first | rfl | (simp [errW_none, errW_some] <;> rfl) | (simp [*, errW_none, errW_some] <;> rfl), by repeat (first | (with_reducible first | exact HB.out | apply below_alloc | apply pw_below_drewN | apply below_drew1) | exact HB.out)⟩
end Go.Proofs.YtmgbidehdnmjkaaDoor.Rv
