/- What the law RvKinds answers (its lines began as print.sh's). -/
import Derived.Test.YtmgbidehdnmjkaaDoorR0
import Derived.Test.YtmgbidehdnmjkaaDoorR1
import Derived.Test.YtmgbidehdnmjkaaDoorR3
import Derived.Test.YtmgbidehdnmjkaaDoorR5
import Derived.Test.YtmgbidehdnmjkaaDoorR6
namespace Go.Proofs.YtmgbidehdnmjkaaDoor.Rv
open Go.RowKit Go.Proofs.YtmgbidehdnmjkaaDoorW.PrintWords Go.Proofs.YtmgbidehdnmjkaaDoorW.PrintLast Go.Proofs.YtmgbidehdnmjkaaDoorW.PrintMore
attribute [local go_sem] max2_int min2_int max_two min_two max_three min_three max_four min_four   -- for this text's walks alone
set_option linter.unusedVariables false
set_option linter.unusedSimpArgs false
attribute [local go_sem high] eqA27
/-! ### tincturelaw5_RvKinds: function 8 -/
def tincturelaw5_RvKinds.f (k : Nat) (a0 : Int) : Option (Bool) := (tincturelaw5_awake.f k).bind fun t185 => (if t185 = true then ((rv_Kind.f a0).bind fun bt186 => (if bt186.2 = true then (if a0 ≥ 28 then (some (bt186.1 == (wrap64 (a0 - 28)))) else ((rv_Name.f a0).bind fun t188 => (if 0 ≤ (wrap64 ((t188.size : Int) - 1)) then (if (wrap64 ((t188.size : Int) - 1)) ≤ (t188.size : Int) then (if t188.toList = ([115, 108, 116, 105, 117] : List UInt8) then ((rv_Name.f (wrap64 (28 + bt186.1))).bind fun t189 => (some (t189.toList == ([115, 108, 116, 117] : List UInt8)))) else ((rv_Name.f (wrap64 (28 + bt186.1))).bind fun t190 => (some (t190.toList == (t188.extract 0 ((wrap64 ((t188.size : Int) - 1)) : Int).toNat).toList)))) else (none)) else (none)))) else (if bt186.1 = 0 then (if a0 < 19 then (some true) else (some (decide (a0 > 45)))) else (some false)))) else (some false))
theorem tincturelaw5_RvKinds.mono : ∀ a0 k, LeO (tincturelaw5_RvKinds.f k a0) (tincturelaw5_RvKinds.f (k + 1) a0) := by
  intro a0 k
  unfold tincturelaw5_RvKinds.f
  repeat' first
      | (with_reducible exact tincturelaw5_awake.mono _)
      | (with_reducible exact LeO.refl _)
      | (with_reducible exact LeO.none _)
      | (with_reducible refine LeO.ite ?_ ?_)
      | (with_reducible refine LeO.bind ?_ (fun _ => ?_))
      | exact tincturelaw5_awake.mono _
      | exact LeO.none _
      | refine LeO.ite ?_ ?_
      | refine LeO.bind ?_ (fun _ => ?_)
set_option maxHeartbeats 8000000 in
set_option maxRecDepth 100000 in
theorem tincturelaw5_RvKinds.calls (k : Nat) (a0 : Int) (r : Bool) (w : World) (hT : Lib.TabIs Tryd.prog w "strings.asciiSpace" .u8 Lib.asciiSpaceTab) (h : tincturelaw5_RvKinds.f k a0 = some r) :
    Calls Tryd.prog 8 #[.int .i64 a0] w fun e w' => e = .returned (.bool r) ∧ Below w.heap.size w w' := by
  have TT := Aside0.mk hT
  clear hT
  have HB := Aside0.mk (Below.refl w.heap.size w)
  have H : ((tincturelaw5_awake.f k).bind fun t185 => (if t185 = true then ((rv_Kind.f a0).bind fun bt186 => (if bt186.2 = true then (if a0 ≥ 28 then (some (bt186.1 == (wrap64 (a0 - 28)))) else ((rv_Name.f a0).bind fun t188 => (if 0 ≤ (wrap64 ((t188.size : Int) - 1)) then (if (wrap64 ((t188.size : Int) - 1)) ≤ (t188.size : Int) then (if t188.toList = ([115, 108, 116, 105, 117] : List UInt8) then ((rv_Name.f (wrap64 (28 + bt186.1))).bind fun t189 => (some (t189.toList == ([115, 108, 116, 117] : List UInt8)))) else ((rv_Name.f (wrap64 (28 + bt186.1))).bind fun t190 => (some (t190.toList == (t188.extract 0 ((wrap64 ((t188.size : Int) - 1)) : Int).toNat).toList)))) else (none)) else (none)))) else (if bt186.1 = 0 then (if a0 < 19 then (some true) else (some (decide (a0 > 45)))) else (some false)))) else (some false))) = some r := h
  clear h
  replace H := Option.bind_eq_some_iff.mp H
  obtain ⟨t185, A20, H⟩ := H
  replace H : (if t185 = true then ((rv_Kind.f a0).bind fun bt186 => (if bt186.2 = true then (if a0 ≥ 28 then (some (bt186.1 == (wrap64 (a0 - 28)))) else ((rv_Name.f a0).bind fun t188 => (if 0 ≤ (wrap64 ((t188.size : Int) - 1)) then (if (wrap64 ((t188.size : Int) - 1)) ≤ (t188.size : Int) then (if t188.toList = ([115, 108, 116, 105, 117] : List UInt8) then ((rv_Name.f (wrap64 (28 + bt186.1))).bind fun t189 => (some (t189.toList == ([115, 108, 116, 117] : List UInt8)))) else ((rv_Name.f (wrap64 (28 + bt186.1))).bind fun t190 => (some (t190.toList == (t188.extract 0 ((wrap64 ((t188.size : Int) - 1)) : Int).toNat).toList)))) else (none)) else (none)))) else (if bt186.1 = 0 then (if a0 < 19 then (some true) else (some (decide (a0 > 45)))) else (some false)))) else (some false)) = some r := H
  have A2 := Aside0.mk A20
  clear A20
  by_cases c3 : t185 = true
  · subst c3
    have H1 : ((rv_Kind.f a0).bind fun bt186 => (if bt186.2 = true then (if a0 ≥ 28 then (some (bt186.1 == (wrap64 (a0 - 28)))) else ((rv_Name.f a0).bind fun t188 => (if 0 ≤ (wrap64 ((t188.size : Int) - 1)) then (if (wrap64 ((t188.size : Int) - 1)) ≤ (t188.size : Int) then (if t188.toList = ([115, 108, 116, 105, 117] : List UInt8) then ((rv_Name.f (wrap64 (28 + bt186.1))).bind fun t189 => (some (t189.toList == ([115, 108, 116, 117] : List UInt8)))) else ((rv_Name.f (wrap64 (28 + bt186.1))).bind fun t190 => (some (t190.toList == (t188.extract 0 ((wrap64 ((t188.size : Int) - 1)) : Int).toNat).toList)))) else (none)) else (none)))) else (if bt186.1 = 0 then (if a0 < 19 then (some true) else (some (decide (a0 > 45)))) else (some false)))) = some r := by rw [if_pos rfl] at H; exact H
    clear H
    have H := H1
    clear H1
    replace H := Option.bind_eq_some_iff.mp H
    obtain ⟨⟨t186, t187⟩, A40, H⟩ := H
    replace H : (if t187 = true then (if a0 ≥ 28 then (some (t186 == (wrap64 (a0 - 28)))) else ((rv_Name.f a0).bind fun t188 => (if 0 ≤ (wrap64 ((t188.size : Int) - 1)) then (if (wrap64 ((t188.size : Int) - 1)) ≤ (t188.size : Int) then (if t188.toList = ([115, 108, 116, 105, 117] : List UInt8) then ((rv_Name.f (wrap64 (28 + t186))).bind fun t189 => (some (t189.toList == ([115, 108, 116, 117] : List UInt8)))) else ((rv_Name.f (wrap64 (28 + t186))).bind fun t190 => (some (t190.toList == (t188.extract 0 ((wrap64 ((t188.size : Int) - 1)) : Int).toNat).toList)))) else (none)) else (none)))) else (if t186 = 0 then (if a0 < 19 then (some true) else (some (decide (a0 > 45)))) else (some false))) = some r := H
    have A4 := Aside0.mk A40
    clear A40
    by_cases c5 : t187 = true
    · subst c5
      have H1 : (if a0 ≥ 28 then (some (t186 == (wrap64 (a0 - 28)))) else ((rv_Name.f a0).bind fun t188 => (if 0 ≤ (wrap64 ((t188.size : Int) - 1)) then (if (wrap64 ((t188.size : Int) - 1)) ≤ (t188.size : Int) then (if t188.toList = ([115, 108, 116, 105, 117] : List UInt8) then ((rv_Name.f (wrap64 (28 + t186))).bind fun t189 => (some (t189.toList == ([115, 108, 116, 117] : List UInt8)))) else ((rv_Name.f (wrap64 (28 + t186))).bind fun t190 => (some (t190.toList == (t188.extract 0 ((wrap64 ((t188.size : Int) - 1)) : Int).toNat).toList)))) else (none)) else (none)))) = some r := by rw [if_pos rfl] at H; exact H
      clear H
      have H := H1
      clear H1
      by_cases c6 : a0 ≥ 28
      · rw [if_pos c6] at H
        have c6b0 : decide (28 ≤ a0) = true := decide_eq_true c6
        clear c6
        obtain rfl := Option.some.inj H
        go_enter Tryd.func8, Tryd.ntmps8
        go_wp2_with (first | ((with_reducible refine gate_callee (f := 11) rfl ?_); refine goesL_ (some 7) rfl rfl Tryd.func11 (by kernel_rfl) rfl #[] rfl (by (try simp only [List.map_toArray, List.map_cons, List.map_nil]); first | done | rfl | (simp only [List.length_drop, List.length_take]; rfl)) ?_; (with_reducible refine (tincturelaw5_awake.calls k  true _ (Go.Joins.tab_stays blanks TT.out (by first | exact Below.refl _ _ | (repeat (first | (with_reducible first | exact HB.out | apply below_alloc | apply pw_below_drewN | apply below_drew1) | exact HB.out))) (Nat.le_refl _)) A2.out).mono ?_); rintro e w7 ⟨rfl, hb⟩; refine ⟨_, rfl, ?_⟩; have n0_ := Aside0.mk (below_step (by repeat (first | (with_reducible first | exact HB.out | apply below_alloc | apply pw_below_drewN | apply below_drew1) | exact HB.out)) hb); clear HB; have HB := n0_; clear n0_; (try clear hb); (try clear hb2); (try clear hk); (try clear hi)) | ((with_reducible refine gate_callee (f := 17) rfl ?_); refine goesL_ (some 11) rfl rfl Tryd.func17 (by kernel_rfl) rfl #[.int .i64 a0] rfl (by (try simp only [List.map_toArray, List.map_cons, List.map_nil]); first | done | rfl | (simp only [List.length_drop, List.length_take]; rfl)) ?_; (with_reducible refine (rv_Kind.calls a0 t186 true _ A4.out).mono ?_); rintro e w' ⟨rfl, ⟨nd, rfl⟩⟩; refine ⟨_, rfl, ?_⟩))
        go_ret
        exact ⟨by first | rfl | (simp [errW_none, errW_some] <;> rfl) | (simp [*, errW_none, errW_some] <;> rfl), by repeat (first | (with_reducible first | exact HB.out | apply below_alloc | apply pw_below_drewN | apply below_drew1) | exact HB.out)⟩
      · rw [if_neg c6] at H
        have c6b0 : decide (28 ≤ a0) = false := decide_eq_false c6
        clear c6
        replace H := Option.bind_eq_some_iff.mp H
        obtain ⟨t188, A80, H⟩ := H
        replace H : (if 0 ≤ (wrap64 ((t188.size : Int) - 1)) then (if (wrap64 ((t188.size : Int) - 1)) ≤ (t188.size : Int) then (if t188.toList = ([115, 108, 116, 105, 117] : List UInt8) then ((rv_Name.f (wrap64 (28 + t186))).bind fun t189 => (some (t189.toList == ([115, 108, 116, 117] : List UInt8)))) else ((rv_Name.f (wrap64 (28 + t186))).bind fun t190 => (some (t190.toList == (t188.extract 0 ((wrap64 ((t188.size : Int) - 1)) : Int).toNat).toList)))) else (none)) else (none)) = some r := H
        have A8 := Aside0.mk A80
        clear A80
        obtain ⟨ji9, hji9⟩ : ∃ j_ : Int, (wrap64 ((t188.size : Int) - 1)) = j_ := ⟨_, rfl⟩
        replace H : (if 0 ≤ (ji9) then (if (ji9) ≤ (t188.size : Int) then (if t188.toList = ([115, 108, 116, 105, 117] : List UInt8) then ((rv_Name.f (wrap64 (28 + t186))).bind fun t189 => (some (t189.toList == ([115, 108, 116, 117] : List UInt8)))) else ((rv_Name.f (wrap64 (28 + t186))).bind fun t190 => (some (t190.toList == (t188.extract 0 ((ji9) : Int).toNat).toList)))) else (none)) else (none)) = some r := by first | (rw [hji9] at H; exact H) | (simp only [hji9] at H ⊢; exact H)
        (try rw [hji9] at A2)
        (try rw [hji9] at A4)
        (try rw [hji9] at A8)
        have hji9w : (IntKind.i64.wrap ((t188.size : Int) - 1)) = ji9 := (i64_w _).trans hji9
        by_cases c10 : 0 ≤ (ji9)
        · rw [if_pos c10] at H
          have c10b0 := eq_true c10
          have c10b1 : decide (0 ≤ (ji9)) = true := decide_eq_true c10
          clear c10
          by_cases c11 : (ji9) ≤ (t188.size : Int)
          · rw [if_pos c11] at H
            have c11b0 := eq_true c11
            have c11b1 : decide ((ji9) ≤ (t188.size : Int)) = true := decide_eq_true c11
            clear c11
            by_cases c12 : t188.toList = ([115, 108, 116, 105, 117] : List UInt8)
            · rw [if_pos c12] at H
              have c12b0 : (t188.toList == ([115, 108, 116, 105, 117] : List UInt8)) = true := beq_iff_eq.mpr c12
              have c12b1 : (t188.toList != ([115, 108, 116, 105, 117] : List UInt8)) = false := bne_eq_false_iff_eq.mpr c12
              clear c12
              replace H := Option.bind_eq_some_iff.mp H
              obtain ⟨t189, A130, H⟩ := H
              replace H : (some (t189.toList == ([115, 108, 116, 117] : List UInt8))) = some r := H
              have A13 := Aside0.mk A130
              clear A130
              obtain rfl := Option.some.inj H
              go_enter Tryd.func8, Tryd.ntmps8
              go_wp2_with (first | ((with_reducible refine gate_callee (f := 11) rfl ?_); refine goesL_ (some 7) rfl rfl Tryd.func11 (by kernel_rfl) rfl #[] rfl (by (try simp only [List.map_toArray, List.map_cons, List.map_nil]); first | done | rfl | (simp only [List.length_drop, List.length_take]; rfl)) ?_; (with_reducible refine (tincturelaw5_awake.calls k  true _ (Go.Joins.tab_stays blanks TT.out (by first | exact Below.refl _ _ | (repeat (first | (with_reducible first | exact HB.out | apply below_alloc | apply pw_below_drewN | apply below_drew1) | exact HB.out))) (Nat.le_refl _)) A2.out).mono ?_); rintro e w14 ⟨rfl, hb⟩; refine ⟨_, rfl, ?_⟩; have n0_ := Aside0.mk (below_step (by repeat (first | (with_reducible first | exact HB.out | apply below_alloc | apply pw_below_drewN | apply below_drew1) | exact HB.out)) hb); clear HB; have HB := n0_; clear n0_; (try clear hb); (try clear hb2); (try clear hk); (try clear hi)) | ((with_reducible refine gate_callee (f := 17) rfl ?_); refine goesL_ (some 11) rfl rfl Tryd.func17 (by kernel_rfl) rfl #[.int .i64 a0] rfl (by (try simp only [List.map_toArray, List.map_cons, List.map_nil]); first | done | rfl | (simp only [List.length_drop, List.length_take]; rfl)) ?_; (with_reducible refine (rv_Kind.calls a0 t186 true _ A4.out).mono ?_); rintro e w' ⟨rfl, ⟨nd, rfl⟩⟩; refine ⟨_, rfl, ?_⟩) | ((with_reducible refine gate_callee (f := 16) rfl ?_); refine goesL_ (some 33) rfl rfl Tryd.func16 (by kernel_rfl) rfl #[.int .i64 a0] rfl (by (try simp only [List.map_toArray, List.map_cons, List.map_nil]); first | done | rfl | (simp only [List.length_drop, List.length_take]; rfl)) ?_; (with_reducible refine (rv_Name.calls a0 t188 _ (Go.Joins.tab_stays blanks TT.out (by first | exact Below.refl _ _ | (repeat (first | (with_reducible first | exact HB.out | apply below_alloc | apply pw_below_drewN | apply below_drew1) | exact HB.out))) (Nat.le_refl _)) A8.out).mono ?_); rintro e w15 ⟨rfl, hb⟩; refine ⟨_, rfl, ?_⟩; have n0_ := Aside0.mk (below_step (by repeat (first | (with_reducible first | exact HB.out | apply below_alloc | apply pw_below_drewN | apply below_drew1) | exact HB.out)) hb); clear HB; have HB := n0_; clear n0_; (try clear hb); (try clear hb2); (try clear hk); (try clear hi)) | ((with_reducible refine gate_callee (f := 16) rfl ?_); refine goesL_ (some 43) rfl rfl Tryd.func16 (by kernel_rfl) rfl #[.int .i64 (wrap64 (28 + t186))] rfl (by (try simp only [List.map_toArray, List.map_cons, List.map_nil]); first | done | rfl | (simp only [List.length_drop, List.length_take]; rfl)) ?_; (with_reducible refine (rv_Name.calls (wrap64 (28 + t186)) t189 _ (Go.Joins.tab_stays blanks TT.out (by first | exact Below.refl _ _ | (repeat (first | (with_reducible first | exact HB.out | apply below_alloc | apply pw_below_drewN | apply below_drew1) | exact HB.out))) (Nat.le_refl _)) A13.out).mono ?_); rintro e w16 ⟨rfl, hb⟩; refine ⟨_, rfl, ?_⟩; have n0_ := Aside0.mk (below_step (by repeat (first | (with_reducible first | exact HB.out | apply below_alloc | apply pw_below_drewN | apply below_drew1) | exact HB.out)) hb); clear HB; have HB := n0_; clear n0_; (try clear hb); (try clear hb2); (try clear hk); (try clear hi)))
              go_ret
              exact ⟨by first | rfl | (simp [errW_none, errW_some] <;> rfl) | (simp only [← hji9]; first | rfl | (simp [errW_none, errW_some] <;> rfl)) | (simp [*, errW_none, errW_some] <;> rfl), by repeat (first | (with_reducible first | exact HB.out | apply below_alloc | apply pw_below_drewN | apply below_drew1) | exact HB.out)⟩
            · rw [if_neg c12] at H
              have c12b0 : (t188.toList == ([115, 108, 116, 105, 117] : List UInt8)) = false := beq_eq_false_iff_ne.mpr c12
              have c12b1 : (t188.toList != ([115, 108, 116, 105, 117] : List UInt8)) = true := bne_iff_ne.mpr c12
              replace H := Option.bind_eq_some_iff.mp H
              obtain ⟨t190, A170, H⟩ := H
              replace H : (some (t190.toList == (t188.extract 0 ((ji9) : Int).toNat).toList)) = some r := H
              have A17 := Aside0.mk A170
              clear A170
              obtain rfl := Option.some.inj H
              go_enter Tryd.func8, Tryd.ntmps8
              go_wp2_with (first | ((with_reducible refine gate_callee (f := 11) rfl ?_); refine goesL_ (some 7) rfl rfl Tryd.func11 (by kernel_rfl) rfl #[] rfl (by (try simp only [List.map_toArray, List.map_cons, List.map_nil]); first | done | rfl | (simp only [List.length_drop, List.length_take]; rfl)) ?_; (with_reducible refine (tincturelaw5_awake.calls k  true _ (Go.Joins.tab_stays blanks TT.out (by first | exact Below.refl _ _ | (repeat (first | (with_reducible first | exact HB.out | apply below_alloc | apply pw_below_drewN | apply below_drew1) | exact HB.out))) (Nat.le_refl _)) A2.out).mono ?_); rintro e w18 ⟨rfl, hb⟩; refine ⟨_, rfl, ?_⟩; have n0_ := Aside0.mk (below_step (by repeat (first | (with_reducible first | exact HB.out | apply below_alloc | apply pw_below_drewN | apply below_drew1) | exact HB.out)) hb); clear HB; have HB := n0_; clear n0_; (try clear hb); (try clear hb2); (try clear hk); (try clear hi)) | ((with_reducible refine gate_callee (f := 17) rfl ?_); refine goesL_ (some 11) rfl rfl Tryd.func17 (by kernel_rfl) rfl #[.int .i64 a0] rfl (by (try simp only [List.map_toArray, List.map_cons, List.map_nil]); first | done | rfl | (simp only [List.length_drop, List.length_take]; rfl)) ?_; (with_reducible refine (rv_Kind.calls a0 t186 true _ A4.out).mono ?_); rintro e w' ⟨rfl, ⟨nd, rfl⟩⟩; refine ⟨_, rfl, ?_⟩) | ((with_reducible refine gate_callee (f := 16) rfl ?_); refine goesL_ (some 33) rfl rfl Tryd.func16 (by kernel_rfl) rfl #[.int .i64 a0] rfl (by (try simp only [List.map_toArray, List.map_cons, List.map_nil]); first | done | rfl | (simp only [List.length_drop, List.length_take]; rfl)) ?_; (with_reducible refine (rv_Name.calls a0 t188 _ (Go.Joins.tab_stays blanks TT.out (by first | exact Below.refl _ _ | (repeat (first | (with_reducible first | exact HB.out | apply below_alloc | apply pw_below_drewN | apply below_drew1) | exact HB.out))) (Nat.le_refl _)) A8.out).mono ?_); rintro e w19 ⟨rfl, hb⟩; refine ⟨_, rfl, ?_⟩; have n0_ := Aside0.mk (below_step (by repeat (first | (with_reducible first | exact HB.out | apply below_alloc | apply pw_below_drewN | apply below_drew1) | exact HB.out)) hb); clear HB; have HB := n0_; clear n0_; (try clear hb); (try clear hb2); (try clear hk); (try clear hi)) | ((with_reducible refine gate_callee (f := 16) rfl ?_); refine goesL_ (some 43) rfl rfl Tryd.func16 (by kernel_rfl) rfl #[.int .i64 (wrap64 (28 + t186))] rfl (by (try simp only [List.map_toArray, List.map_cons, List.map_nil]); first | done | rfl | (simp only [List.length_drop, List.length_take]; rfl)) ?_; (with_reducible refine (rv_Name.calls (wrap64 (28 + t186)) t190 _ (Go.Joins.tab_stays blanks TT.out (by first | exact Below.refl _ _ | (repeat (first | (with_reducible first | exact HB.out | apply below_alloc | apply pw_below_drewN | apply below_drew1) | exact HB.out))) (Nat.le_refl _)) A17.out).mono ?_); rintro e w20 ⟨rfl, hb⟩; refine ⟨_, rfl, ?_⟩; have n0_ := Aside0.mk (below_step (by repeat (first | (with_reducible first | exact HB.out | apply below_alloc | apply pw_below_drewN | apply below_drew1) | exact HB.out)) hb); clear HB; have HB := n0_; clear n0_; (try clear hb); (try clear hb2); (try clear hk); (try clear hi)))
              go_ret
              exact ⟨by first | rfl | (simp [errW_none, errW_some] <;> rfl) | (simp only [← hji9]; first | rfl | (simp [errW_none, errW_some] <;> rfl)) | (simp [*, errW_none, errW_some] <;> rfl), by repeat (first | (with_reducible first | exact HB.out | apply below_alloc | apply pw_below_drewN | apply below_drew1) | exact HB.out)⟩
          · rw [if_neg c11] at H
            exact absurd H (by simp)
        · rw [if_neg c10] at H
          exact absurd H (by simp)
    · replace c5 := Bool.eq_false_iff.mpr c5
      subst c5
      have H1 : (if t186 = 0 then (if a0 < 19 then (some true) else (some (decide (a0 > 45)))) else (some false)) = some r := by rw [if_neg (show ¬ (false = true) by decide)] at H; exact H
      clear H
      have H := H1
      clear H1
      by_cases c21 : t186 = 0
      · rw [if_pos c21] at H
        have c21b0 : (t186 == 0) = true := beq_iff_eq.mpr c21
        have c21b1 : (t186 != 0) = false := bne_eq_false_iff_eq.mpr c21
        clear c21
        by_cases c22 : a0 < 19
        · rw [if_pos c22] at H
          have c22b0 : decide (a0 < 19) = true := decide_eq_true c22
          clear c22
          obtain rfl := Option.some.inj H
          go_enter Tryd.func8, Tryd.ntmps8
          go_wp2_with (first | ((with_reducible refine gate_callee (f := 11) rfl ?_); refine goesL_ (some 7) rfl rfl Tryd.func11 (by kernel_rfl) rfl #[] rfl (by (try simp only [List.map_toArray, List.map_cons, List.map_nil]); first | done | rfl | (simp only [List.length_drop, List.length_take]; rfl)) ?_; (with_reducible refine (tincturelaw5_awake.calls k  true _ (Go.Joins.tab_stays blanks TT.out (by first | exact Below.refl _ _ | (repeat (first | (with_reducible first | exact HB.out | apply below_alloc | apply pw_below_drewN | apply below_drew1) | exact HB.out))) (Nat.le_refl _)) A2.out).mono ?_); rintro e w23 ⟨rfl, hb⟩; refine ⟨_, rfl, ?_⟩; have n0_ := Aside0.mk (below_step (by repeat (first | (with_reducible first | exact HB.out | apply below_alloc | apply pw_below_drewN | apply below_drew1) | exact HB.out)) hb); clear HB; have HB := n0_; clear n0_; (try clear hb); (try clear hb2); (try clear hk); (try clear hi)) | ((with_reducible refine gate_callee (f := 17) rfl ?_); refine goesL_ (some 11) rfl rfl Tryd.func17 (by kernel_rfl) rfl #[.int .i64 a0] rfl (by (try simp only [List.map_toArray, List.map_cons, List.map_nil]); first | done | rfl | (simp only [List.length_drop, List.length_take]; rfl)) ?_; (with_reducible refine (rv_Kind.calls a0 t186 false _ A4.out).mono ?_); rintro e w' ⟨rfl, ⟨nd, rfl⟩⟩; refine ⟨_, rfl, ?_⟩))
          go_ret
          exact ⟨by first | rfl | (simp [errW_none, errW_some] <;> rfl) | (simp [*, errW_none, errW_some] <;> rfl), by repeat (first | (with_reducible first | exact HB.out | apply below_alloc | apply pw_below_drewN | apply below_drew1) | exact HB.out)⟩
        · rw [if_neg c22] at H
          have c22b0 : decide (a0 < 19) = false := decide_eq_false c22
          clear c22
          obtain rfl := Option.some.inj H
          go_enter Tryd.func8, Tryd.ntmps8
          go_wp2_with (first | ((with_reducible refine gate_callee (f := 11) rfl ?_); refine goesL_ (some 7) rfl rfl Tryd.func11 (by kernel_rfl) rfl #[] rfl (by (try simp only [List.map_toArray, List.map_cons, List.map_nil]); first | done | rfl | (simp only [List.length_drop, List.length_take]; rfl)) ?_; (with_reducible refine (tincturelaw5_awake.calls k  true _ (Go.Joins.tab_stays blanks TT.out (by first | exact Below.refl _ _ | (repeat (first | (with_reducible first | exact HB.out | apply below_alloc | apply pw_below_drewN | apply below_drew1) | exact HB.out))) (Nat.le_refl _)) A2.out).mono ?_); rintro e w24 ⟨rfl, hb⟩; refine ⟨_, rfl, ?_⟩; have n0_ := Aside0.mk (below_step (by repeat (first | (with_reducible first | exact HB.out | apply below_alloc | apply pw_below_drewN | apply below_drew1) | exact HB.out)) hb); clear HB; have HB := n0_; clear n0_; (try clear hb); (try clear hb2); (try clear hk); (try clear hi)) | ((with_reducible refine gate_callee (f := 17) rfl ?_); refine goesL_ (some 11) rfl rfl Tryd.func17 (by kernel_rfl) rfl #[.int .i64 a0] rfl (by (try simp only [List.map_toArray, List.map_cons, List.map_nil]); first | done | rfl | (simp only [List.length_drop, List.length_take]; rfl)) ?_; (with_reducible refine (rv_Kind.calls a0 t186 false _ A4.out).mono ?_); rintro e w' ⟨rfl, ⟨nd, rfl⟩⟩; refine ⟨_, rfl, ?_⟩))
          go_ret
          exact ⟨by first | rfl | (simp [errW_none, errW_some] <;> rfl) | (simp [*, errW_none, errW_some] <;> rfl), by repeat (first | (with_reducible first | exact HB.out | apply below_alloc | apply pw_below_drewN | apply below_drew1) | exact HB.out)⟩
      · rw [if_neg c21] at H
        have c21b0 : (t186 == 0) = false := beq_eq_false_iff_ne.mpr c21
        have c21b1 : (t186 != 0) = true := bne_iff_ne.mpr c21
        obtain rfl := Option.some.inj H
        go_enter Tryd.func8, Tryd.ntmps8
        go_wp2_with (first | ((with_reducible refine gate_callee (f := 11) rfl ?_); refine goesL_ (some 7) rfl rfl Tryd.func11 (by kernel_rfl) rfl #[] rfl (by (try simp only [List.map_toArray, List.map_cons, List.map_nil]); first | done | rfl | (simp only [List.length_drop, List.length_take]; rfl)) ?_; (with_reducible refine (tincturelaw5_awake.calls k  true _ (Go.Joins.tab_stays blanks TT.out (by first | exact Below.refl _ _ | (repeat (first | (with_reducible first | exact HB.out | apply below_alloc | apply pw_below_drewN | apply below_drew1) | exact HB.out))) (Nat.le_refl _)) A2.out).mono ?_); rintro e w25 ⟨rfl, hb⟩; refine ⟨_, rfl, ?_⟩; have n0_ := Aside0.mk (below_step (by repeat (first | (with_reducible first | exact HB.out | apply below_alloc | apply pw_below_drewN | apply below_drew1) | exact HB.out)) hb); clear HB; have HB := n0_; clear n0_; (try clear hb); (try clear hb2); (try clear hk); (try clear hi)) | ((with_reducible refine gate_callee (f := 17) rfl ?_); refine goesL_ (some 11) rfl rfl Tryd.func17 (by kernel_rfl) rfl #[.int .i64 a0] rfl (by (try simp only [List.map_toArray, List.map_cons, List.map_nil]); first | done | rfl | (simp only [List.length_drop, List.length_take]; rfl)) ?_; (with_reducible refine (rv_Kind.calls a0 t186 false _ A4.out).mono ?_); rintro e w' ⟨rfl, ⟨nd, rfl⟩⟩; refine ⟨_, rfl, ?_⟩))
        go_ret
        exact ⟨by first | rfl | (simp [errW_none, errW_some] <;> rfl) | (simp [*, errW_none, errW_some] <;> rfl), by repeat (first | (with_reducible first | exact HB.out | apply below_alloc | apply pw_below_drewN | apply below_drew1) | exact HB.out)⟩
  · replace c3 := Bool.eq_false_iff.mpr c3
    subst c3
    have H1 : (some false) = some r := by rw [if_neg (show ¬ (false = true) by decide)] at H; exact H
    clear H
    have H := H1
    clear H1
    obtain rfl := Option.some.inj H
    go_enter Tryd.func8, Tryd.ntmps8
    go_wp2_with (first | ((with_reducible refine gate_callee (f := 11) rfl ?_); refine goesL_ (some 7) rfl rfl Tryd.func11 (by kernel_rfl) rfl #[] rfl (by (try simp only [List.map_toArray, List.map_cons, List.map_nil]); first | done | rfl | (simp only [List.length_drop, List.length_take]; rfl)) ?_; (with_reducible refine (tincturelaw5_awake.calls k  false _ (Go.Joins.tab_stays blanks TT.out (by first | exact Below.refl _ _ | (repeat (first | (with_reducible first | exact HB.out | apply below_alloc | apply pw_below_drewN | apply below_drew1) | exact HB.out))) (Nat.le_refl _)) A2.out).mono ?_); rintro e w26 ⟨rfl, hb⟩; refine ⟨_, rfl, ?_⟩; have n0_ := Aside0.mk (below_step (by repeat (first | (with_reducible first | exact HB.out | apply below_alloc | apply pw_below_drewN | apply below_drew1) | exact HB.out)) hb); clear HB; have HB := n0_; clear n0_; (try clear hb); (try clear hb2); (try clear hk); (try clear hi)))
    go_ret
    exact ⟨by first | rfl | (simp [errW_none, errW_some] <;> rfl) | (simp [*, errW_none, errW_some] <;> rfl), by repeat (first | (with_reducible first | exact HB.out | apply below_alloc | apply pw_below_drewN | apply below_drew1) | exact HB.out)⟩
end Go.Proofs.YtmgbidehdnmjkaaDoor.Rv
