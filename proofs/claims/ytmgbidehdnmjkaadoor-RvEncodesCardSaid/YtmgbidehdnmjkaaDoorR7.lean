/- What the reference's form answers (its lines began as print.sh's). -/
import Derived.Test.YtmgbidehdnmjkaaDoorR0
namespace Go.Proofs.YtmgbidehdnmjkaaDoor.Rv
open Go.RowKit Go.Proofs.YtmgbidehdnmjkaaDoorW.PrintWords Go.Proofs.YtmgbidehdnmjkaaDoorW.PrintLast Go.Proofs.YtmgbidehdnmjkaaDoorW.PrintMore
attribute [local go_sem] max2_int min2_int max_two min_two max_three min_three max_four min_four   -- for this text's walks alone
set_option linter.unusedVariables false
set_option linter.unusedSimpArgs false
/-! ### tinctureref5_form: function 29 -/
def tinctureref5_form.f (a0 : Int) : Option (Int × Int × Int) := if a0 = 1 then (some (55, 0, 0)) else (if a0 = 2 then (some (23, 0, 0)) else (if a0 = 3 then (some (111, 0, 0)) else (if a0 = 4 then (some (103, 0, 0)) else (if a0 ≤ 10 then ((some (([0, 1, 4, 5, 6, 7] : List Int) : List Int)).bind fun y188 => (if 0 ≤ (wrap64 (a0 - 5)) then (if (wrap64 (a0 - 5)) < (y188.length : Int) then (some (99, rd y188 (wrap64 (a0 - 5)), 0)) else (none)) else (none))) else (if a0 ≤ 15 then ((some (([0, 1, 2, 4, 5] : List Int) : List Int)).bind fun y192 => (if 0 ≤ (wrap64 (a0 - 11)) then (if (wrap64 (a0 - 11)) < (y192.length : Int) then (some (3, rd y192 (wrap64 (a0 - 11)), 0)) else (none)) else (none))) else (if a0 ≤ 18 then (some (35, (wrap64 (a0 - 16)) % 4294967296, 0)) else (if a0 ≤ 27 then ((some (([0, 2, 3, 4, 6, 7, 1, 5, 5] : List Int) : List Int)).bind fun y196 => (if 0 ≤ (wrap64 (a0 - 19)) then (if (wrap64 (a0 - 19)) < (y196.length : Int) then ((some (([0, 0, 0, 0, 0, 0, 0, 0, 32] : List Int) : List Int)).bind fun y200 => (if (wrap64 (a0 - 19)) < (y200.length : Int) then (some (19, rd y196 (wrap64 (a0 - 19)), rd y200 (wrap64 (a0 - 19)))) else (none))) else (none)) else (none))) else (if a0 ≤ 37 then ((some (([0, 0, 1, 2, 3, 4, 5, 5, 6, 7] : List Int) : List Int)).bind fun y204 => (if 0 ≤ (wrap64 (a0 - 28)) then (if (wrap64 (a0 - 28)) < (y204.length : Int) then ((some (([0, 32, 0, 0, 0, 0, 0, 32, 0, 0] : List Int) : List Int)).bind fun y208 => (if (wrap64 (a0 - 28)) < (y208.length : Int) then (some (51, rd y204 (wrap64 (a0 - 28)), rd y208 (wrap64 (a0 - 28)))) else (none))) else (none)) else (none))) else (if a0 ≤ 45 then (some (51, (wrap64 (a0 - 38)) % 4294967296, 1)) else (some (15, (wrap64 (a0 - 46)) % 4294967296, 0)))))))))))
def tinctureref5_form.T10 : Bool × List (List Nat × List Nat) := (true, [([], []), ([], []), ([1], [1]), ([0, 2], [0, 2]), ([3], [3]), ([], []), ([4, 5, 0, 1, 2, 3, 4, 5], [4]), ([6, 0, 1, 2, 3, 4, 5, 6], [])])
def tinctureref5_form.B10 : List Nat := [0, 0, 2, 7, 15, 0, 63, 127]
theorem tinctureref5_form.tab10 : rtab .any (opsOf Tryd.f29 10) = tinctureref5_form.T10 := by kernel_rfl
theorem tinctureref5_form.bits10 : waitsOk tinctureref5_form.T10.2 tinctureref5_form.B10 = true := by kernel_rfl
def tinctureref5_form.T12 : Bool × List (List Nat × List Nat) := (true, [([], []), ([], []), ([1], [1]), ([0, 2], [0, 2]), ([3], [3]), ([], []), ([4, 5, 0, 1, 2, 3, 4, 5], [4]), ([6, 0, 1, 2, 3, 4, 5, 6], [])])
def tinctureref5_form.B12 : List Nat := [0, 0, 2, 7, 15, 0, 63, 127]
theorem tinctureref5_form.tab12 : rtab .any (opsOf Tryd.f29 12) = tinctureref5_form.T12 := by kernel_rfl
theorem tinctureref5_form.bits12 : waitsOk tinctureref5_form.T12.2 tinctureref5_form.B12 = true := by kernel_rfl
def tinctureref5_form.T16 : Bool × List (List Nat × List Nat) := (true, [([], []), ([], []), ([1], [1]), ([0, 2], [0, 2]), ([3], [3]), ([], []), ([], []), ([6], [6]), ([5, 7], [5, 7]), ([8], [8]), ([], []), ([4, 10, 0, 1, 2, 3, 4, 10], [4]), ([9, 11, 0, 1, 2, 3, 4, 5, 6, 7, 8, 9, 10, 11], [9])])
def tinctureref5_form.B16 : List Nat := [0, 0, 2, 7, 15, 0, 0, 64, 224, 480, 0, 1055, 4095]
theorem tinctureref5_form.tab16 : rtab .any (opsOf Tryd.f29 16) = tinctureref5_form.T16 := by kernel_rfl
theorem tinctureref5_form.bits16 : waitsOk tinctureref5_form.T16.2 tinctureref5_form.B16 = true := by kernel_rfl
def tinctureref5_form.T18 : Bool × List (List Nat × List Nat) := (true, [([], []), ([], []), ([1], [1]), ([0, 2], [0, 2]), ([3], [3]), ([], []), ([], []), ([6], [6]), ([5, 7], [5, 7]), ([8], [8]), ([], []), ([4, 10, 0, 1, 2, 3, 4, 10], [4]), ([9, 11, 0, 1, 2, 3, 4, 5, 6, 7, 8, 9, 10, 11], [9])])
def tinctureref5_form.B18 : List Nat := [0, 0, 2, 7, 15, 0, 0, 64, 224, 480, 0, 1055, 4095]
theorem tinctureref5_form.tab18 : rtab .any (opsOf Tryd.f29 18) = tinctureref5_form.T18 := by kernel_rfl
theorem tinctureref5_form.bits18 : waitsOk tinctureref5_form.T18.2 tinctureref5_form.B18 = true := by kernel_rfl
set_option maxHeartbeats 8000000 in
set_option maxRecDepth 100000 in
theorem tinctureref5_form.calls (a0 : Int) (r1 : Int) (r2 : Int) (r3 : Int) (w : World) (h : tinctureref5_form.f a0 = some (r1, r2, r3)) :
    Calls Tryd.prog 29 #[.int .i64 a0] w fun e w' => e = .returned (.tuple #[.int .u32 r1, .int .u32 r2, .int .u32 r3]) ∧ Below w.heap.size w w' := by
  have HB := Aside0.mk (Below.refl w.heap.size w)
  have H : (if a0 = 1 then (some (55, 0, 0)) else (if a0 = 2 then (some (23, 0, 0)) else (if a0 = 3 then (some (111, 0, 0)) else (if a0 = 4 then (some (103, 0, 0)) else (if a0 ≤ 10 then ((some (([0, 1, 4, 5, 6, 7] : List Int) : List Int)).bind fun y188 => (if 0 ≤ (wrap64 (a0 - 5)) then (if (wrap64 (a0 - 5)) < (y188.length : Int) then (some (99, rd y188 (wrap64 (a0 - 5)), 0)) else (none)) else (none))) else (if a0 ≤ 15 then ((some (([0, 1, 2, 4, 5] : List Int) : List Int)).bind fun y192 => (if 0 ≤ (wrap64 (a0 - 11)) then (if (wrap64 (a0 - 11)) < (y192.length : Int) then (some (3, rd y192 (wrap64 (a0 - 11)), 0)) else (none)) else (none))) else (if a0 ≤ 18 then (some (35, (wrap64 (a0 - 16)) % 4294967296, 0)) else (if a0 ≤ 27 then ((some (([0, 2, 3, 4, 6, 7, 1, 5, 5] : List Int) : List Int)).bind fun y196 => (if 0 ≤ (wrap64 (a0 - 19)) then (if (wrap64 (a0 - 19)) < (y196.length : Int) then ((some (([0, 0, 0, 0, 0, 0, 0, 0, 32] : List Int) : List Int)).bind fun y200 => (if (wrap64 (a0 - 19)) < (y200.length : Int) then (some (19, rd y196 (wrap64 (a0 - 19)), rd y200 (wrap64 (a0 - 19)))) else (none))) else (none)) else (none))) else (if a0 ≤ 37 then ((some (([0, 0, 1, 2, 3, 4, 5, 5, 6, 7] : List Int) : List Int)).bind fun y204 => (if 0 ≤ (wrap64 (a0 - 28)) then (if (wrap64 (a0 - 28)) < (y204.length : Int) then ((some (([0, 32, 0, 0, 0, 0, 0, 32, 0, 0] : List Int) : List Int)).bind fun y208 => (if (wrap64 (a0 - 28)) < (y208.length : Int) then (some (51, rd y204 (wrap64 (a0 - 28)), rd y208 (wrap64 (a0 - 28)))) else (none))) else (none)) else (none))) else (if a0 ≤ 45 then (some (51, (wrap64 (a0 - 38)) % 4294967296, 1)) else (some (15, (wrap64 (a0 - 46)) % 4294967296, 0)))))))))))) = some (r1, r2, r3) := h
  clear h
  by_cases c2 : a0 = 1
  · rw [if_pos c2] at H
    have c2b0 : (a0 == 1) = true := beq_iff_eq.mpr c2
    have c2b1 : (a0 != 1) = false := bne_eq_false_iff_eq.mpr c2
    clear c2
    simp only [Option.some.injEq, Prod.mk.injEq] at H
    obtain ⟨rfl, rfl, rfl⟩ := H
    go_enter Tryd.func29, Tryd.ntmps29
    go_wp2
    go_ret3
    exact ⟨by first | rfl | (simp [errW_none, errW_some] <;> rfl) | (simp [*, errW_none, errW_some] <;> rfl), by repeat (first | (with_reducible first | exact HB.out | apply below_alloc | apply pw_below_drewN | apply below_drew1) | exact HB.out)⟩
  · rw [if_neg c2] at H
    have c2b0 : (a0 == 1) = false := beq_eq_false_iff_ne.mpr c2
    have c2b1 : (a0 != 1) = true := bne_iff_ne.mpr c2
    by_cases c3 : a0 = 2
    · rw [if_pos c3] at H
      have c3b0 : (a0 == 2) = true := beq_iff_eq.mpr c3
      have c3b1 : (a0 != 2) = false := bne_eq_false_iff_eq.mpr c3
      clear c3
      simp only [Option.some.injEq, Prod.mk.injEq] at H
      obtain ⟨rfl, rfl, rfl⟩ := H
      go_enter Tryd.func29, Tryd.ntmps29
      go_wp2
      go_ret3
      exact ⟨by first | rfl | (simp [errW_none, errW_some] <;> rfl) | (simp [*, errW_none, errW_some] <;> rfl), by repeat (first | (with_reducible first | exact HB.out | apply below_alloc | apply pw_below_drewN | apply below_drew1) | exact HB.out)⟩
    · rw [if_neg c3] at H
      have c3b0 : (a0 == 2) = false := beq_eq_false_iff_ne.mpr c3
      have c3b1 : (a0 != 2) = true := bne_iff_ne.mpr c3
      by_cases c4 : a0 = 3
      · rw [if_pos c4] at H
        have c4b0 : (a0 == 3) = true := beq_iff_eq.mpr c4
        have c4b1 : (a0 != 3) = false := bne_eq_false_iff_eq.mpr c4
        clear c4
        simp only [Option.some.injEq, Prod.mk.injEq] at H
        obtain ⟨rfl, rfl, rfl⟩ := H
        go_enter Tryd.func29, Tryd.ntmps29
        go_wp2
        go_ret3
        exact ⟨by first | rfl | (simp [errW_none, errW_some] <;> rfl) | (simp [*, errW_none, errW_some] <;> rfl), by repeat (first | (with_reducible first | exact HB.out | apply below_alloc | apply pw_below_drewN | apply below_drew1) | exact HB.out)⟩
      · rw [if_neg c4] at H
        have c4b0 : (a0 == 3) = false := beq_eq_false_iff_ne.mpr c4
        have c4b1 : (a0 != 3) = true := bne_iff_ne.mpr c4
        by_cases c5 : a0 = 4
        · rw [if_pos c5] at H
          have c5b0 : (a0 == 4) = true := beq_iff_eq.mpr c5
          have c5b1 : (a0 != 4) = false := bne_eq_false_iff_eq.mpr c5
          clear c5
          simp only [Option.some.injEq, Prod.mk.injEq] at H
          obtain ⟨rfl, rfl, rfl⟩ := H
          go_enter Tryd.func29, Tryd.ntmps29
          go_wp2
          go_ret3
          exact ⟨by first | rfl | (simp [errW_none, errW_some] <;> rfl) | (simp [*, errW_none, errW_some] <;> rfl), by repeat (first | (with_reducible first | exact HB.out | apply below_alloc | apply pw_below_drewN | apply below_drew1) | exact HB.out)⟩
        · rw [if_neg c5] at H
          have c5b0 : (a0 == 4) = false := beq_eq_false_iff_ne.mpr c5
          have c5b1 : (a0 != 4) = true := bne_iff_ne.mpr c5
          by_cases c6 : a0 ≤ 10
          · rw [if_pos c6] at H
            have c6b0 : decide (a0 ≤ 10) = true := decide_eq_true c6
            clear c6
            obtain ⟨y188, hy188⟩ : ∃ y_ : List Int, y_ = (([0, 1, 4, 5, 6, 7] : List Int)) := ⟨_, rfl⟩
            replace H : (if 0 ≤ (wrap64 (a0 - 5)) then (if (wrap64 (a0 - 5)) < (y188.length : Int) then (some (99, rd y188 (wrap64 (a0 - 5)), 0)) else (none)) else (none)) = some (r1, r2, r3) := by first | (rw [hy188]; with_reducible exact H) | (have H2_ := (Option.bind_some _ _).symm.trans H; rw [hy188]; with_reducible exact H2_) | (have H2_ := (Option.bind_some _ _).symm.trans H; with_reducible exact H2_) | with_reducible exact H | (rw [hy188]; exact H) | exact H
            have Ny188 := Aside0.mk hy188
            clear hy188
            obtain ⟨ji7, hji7⟩ : ∃ j_ : Int, (wrap64 (a0 - 5)) = j_ := ⟨_, rfl⟩
            replace H : (if 0 ≤ (ji7) then (if (ji7) < (y188.length : Int) then (some (99, rd y188 (ji7), 0)) else (none)) else (none)) = some (r1, r2, r3) := by first | (rw [hji7] at H; exact H) | (simp only [hji7] at H ⊢; exact H)
            have hji7w : (IntKind.i64.wrap (a0 - 5)) = ji7 := (i64_w _).trans hji7
            by_cases c8 : 0 ≤ (ji7)
            · rw [if_pos c8] at H
              have c8b0 : decide (0 ≤ (ji7)) = true := decide_eq_true c8
              clear c8
              by_cases c9 : (ji7) < (y188.length : Int)
              · rw [if_pos c9] at H
                have c9b0 : decide ((ji7) < (y188.length : Int)) = true := decide_eq_true c9
                clear c9
                simp only [Option.some.injEq, Prod.mk.injEq] at H
                obtain ⟨rfl, rfl, rfl⟩ := H
                go_enter Tryd.func29, Tryd.ntmps29
                try go_wp2
                have pi191 : (0 ≤ ((ji7) : Int)) = True := eq_true (of_decide_eq_true (by first | (with_reducible assumption) | assumption))
                have qi191 : ((ji7) < (y188.length : Int)) = True := eq_true (of_decide_eq_true (by first | (with_reducible assumption) | assumption))
                have n0_ := Aside0.mk (below_drew1 HB.out)
                clear HB
                have HB := n0_
                clear n0_
                refine start_ (n := 8) (S := fun w' => True) (ds := []) #[false, false, false, false, false, false, false, false] (by kernel_rfl) rfl rfl trivial (fun hHeld => ?_); refine with_tabW tinctureref5_form.tab10 tinctureref5_form.bits10 (fun HT_ HW_ => ?_)
                generalize w.drew = w10 at HB hHeld ⊢
                refine pure_ (i := 1) (N := some 21) (v := ?_) (a' := ?_) #[false, true, false, false, false, false, false, false] rfl rfl (any_of HT_.out (by kernel_rfl)) (fun _ _ _ h => h) (Or.inl ⟨by rfl, ?_⟩) ?_ ?_
                rotate_left
                · intro w'
                  go_simp
                  with_reducible rfl
                rotate_left
                · simp only [Act.put, List.setIfInBounds_toArray, List.set_cons_zero, List.set_cons_succ, i64_w, i32_w]
                  rfl
                refine pure_ (i := 2) (N := some 22) (v := ?_) (a' := ?_) #[false, true, true, false, false, false, false, false] rfl rfl (any_of HT_.out (by kernel_rfl)) (fun _ _ _ h => h) (Or.inl ⟨by rfl, ?_⟩) ?_ ?_
                rotate_left
                · intro w'
                  go_simp
                  with_reducible rfl
                rotate_left
                · simp only [Act.put, List.setIfInBounds_toArray, List.set_cons_zero, List.set_cons_succ, i64_w, i32_w]
                  rfl
                refine pure_ (i := 5) (N := some 2) (v := ?_) (a' := ?_) #[false, true, true, false, false, true, false, false] rfl rfl (any_of HT_.out (by kernel_rfl)) (fun _ _ _ h => h) (Or.inl ⟨by rfl, ?_⟩) ?_ ?_
                rotate_left
                · intro w'
                  go_simp
                  with_reducible rfl
                rotate_left
                · simp only [Act.put, List.setIfInBounds_toArray, List.set_cons_zero, List.set_cons_succ, i64_w, i32_w]
                  rfl
                refine one_ (i := 0) (N := some 20) #[true, true, true, false, false, true, false, false] rfl rfl (one_of HT_.out (by kernel_rfl)) (by decide) (fun K hK => ?_)
                refine Kd.R_lit_step (Kd.int .u32) _ 22 ?hg (N := 20) ?hd (xs := ([0, 1, 4, 5, 6, 7] : List Int)) (inner := [.int .u32 0, .int .u32 1, .int .u32 4, .int .u32 5, .int .u32 6, .int .u32 7]) (ok := fun _ => True) (okp := fun _ => True) ?hr ?hp (fun _ hk => hk) trivial (Below.refl _ _) (Nat.le_refl _) (by simp) ?_; (case hd => rfl); (case hg => rfl); (case hr => first | (go_simp; done) | (go_simp; rfl)); (case hp => exact (Reps.one (show Kd.M (Kd.int .u32) _ _ _ 0 [.int .u32 0] from rfl) (Reps.one (show Kd.M (Kd.int .u32) _ _ _ 1 [.int .u32 1] from rfl) (Reps.one (show Kd.M (Kd.int .u32) _ _ _ 4 [.int .u32 4] from rfl) (Reps.one (show Kd.M (Kd.int .u32) _ _ _ 5 [.int .u32 5] from rfl) (Reps.one (show Kd.M (Kd.int .u32) _ _ _ 6 [.int .u32 6] from rfl) (Reps.one (show Kd.M (Kd.int .u32) _ _ _ 7 [.int .u32 7] from rfl) (Reps.none _ _))))))))
                intro v189 w11 ho12 hb hg_ hnew_
                clear hg_ hnew_
                (first | rw [← Ny188.out] at ho12 | (simp only [Int.reduceToNat] at ho12; rw [← Ny188.out] at ho12))
                have n0_ := Aside0.mk (Kd.R_lower ho12 (below_size (by repeat (first | (with_reducible first | exact HB.out | apply below_alloc | apply pw_below_drewN | apply below_drew1) | exact HB.out))))
                have n1_ := Aside0.mk (below_step (by repeat (first | (with_reducible first | exact HB.out | apply below_alloc | apply pw_below_drewN | apply below_drew1) | exact HB.out)) hb)
                clear HB
                have HO190 := n0_
                have HB := n1_
                clear n0_ n1_ hb ho12
                obtain ⟨Ao13, co13, eo13⟩ := Kd.R_slice HO190.out
                subst eo13
                obtain ⟨ado13, fo13, _⟩ := Kd.at_int (Kd.R_reads' HO190.out).2.2 0 (by decide) (by rw [Ny188.out]; simp)
                cases fo13
                refine hK.out _ _ trivial (fun hHeld => ?_)
                clear hK K
                refine norm_ (a' := ?_) ?_ ?_
                rotate_left
                · show Act.put _ (some 20) _ = _
                  simp only [Act.put, List.setIfInBounds_toArray, List.set_cons_zero, List.set_cons_succ, i64_w, i32_w]
                  rfl
                refine pure_ (i := 3) (N := some 23) (v := ?_) (a' := ?_) #[true, true, true, true, false, true, false, false] rfl rfl (any_of HT_.out (by kernel_rfl)) (fun _ _ _ h => h) (Or.inl ⟨by rfl, ?_⟩) ?_ ?_
                rotate_left
                · intro w'
                  go_simp
                  with_reducible rfl
                rotate_left
                · simp only [Act.put, List.setIfInBounds_toArray, List.set_cons_zero, List.set_cons_succ, i64_w, i32_w]
                  rfl
                refine one_ (i := 4) (N := some 24) #[true, true, true, true, true, true, false, false] rfl rfl (one_of HT_.out (by kernel_rfl)) (by decide) (fun K hK => ?_)
                (have p191 : 0 ≤ ((ji7) : Int) := of_decide_eq_true (by first | (with_reducible assumption) | assumption); have q191 : (ji7) < (y188.length : Int) := of_decide_eq_true (by first | (with_reducible assumption) | assumption); obtain ⟨ad191, e191, hx191_0⟩ := Kd.at_int (Kd.R_reads' HO190.out).2.2 (ji7) p191 q191; obtain rfl : ado13 = ad191 := (by injection e191))
                refine value_ (w1 := ?_) (v := ?_) (by rfl) rfl ?_ ?_
                rotate_left 2
                · go_simp
                  constructor
                  · rfl
                  · rfl
                clear hx191_0
                refine hK.out _ _ trivial (fun hHeld => ?_)
                clear hK K
                refine norm_ (a' := ?_) ?_ ?_
                rotate_left
                · show Act.put _ (some 24) _ = _
                  simp only [Act.put, List.setIfInBounds_toArray, List.set_cons_zero, List.set_cons_succ, i64_w, i32_w]
                  rfl
                refine pure_ (i := 6) (N := some 3) (v := ?_) (a' := ?_) #[true, true, true, true, true, true, true, false] rfl rfl (any_of HT_.out (by kernel_rfl)) (fun _ _ _ h => h) (Or.inl ⟨by rfl, ?_⟩) ?_ ?_
                rotate_left
                · intro w'
                  go_simp
                  with_reducible rfl
                rotate_left
                · simp only [Act.put, List.setIfInBounds_toArray, List.set_cons_zero, List.set_cons_succ, i64_w, i32_w]
                  rfl
                refine pure_ (i := 7) (N := some 4) (v := ?_) (a' := ?_) #[true, true, true, true, true, true, true, true] rfl rfl (any_of HT_.out (by kernel_rfl)) (fun _ _ _ h => h) (Or.inl ⟨by rfl, ?_⟩) ?_ ?_
                rotate_left
                · intro w'
                  go_simp
                  with_reducible rfl
                rotate_left
                · simp only [Act.put, List.setIfInBounds_toArray, List.set_cons_zero, List.set_cons_succ, i64_w, i32_w]
                  rfl
                refine done_ (done_of HT_.out (by kernel_rfl)) ?_
                try go_wp2
                go_ret3
                exact ⟨by first | rfl | (simp [errW_none, errW_some] <;> rfl) | (simp only [← hji7]; first | rfl | (simp [errW_none, errW_some] <;> rfl)) | (simp [*, errW_none, errW_some] <;> rfl), by repeat (first | (with_reducible first | exact HB.out | apply below_alloc | apply pw_below_drewN | apply below_drew1) | exact HB.out)⟩
              · rw [if_neg c9] at H
                exact absurd H (by simp)
            · rw [if_neg c8] at H
              exact absurd H (by simp)
          · rw [if_neg c6] at H
            have c6b0 : decide (a0 ≤ 10) = false := decide_eq_false c6
            clear c6
            by_cases c14 : a0 ≤ 15
            · rw [if_pos c14] at H
              have c14b0 : decide (a0 ≤ 15) = true := decide_eq_true c14
              clear c14
              obtain ⟨y192, hy192⟩ : ∃ y_ : List Int, y_ = (([0, 1, 2, 4, 5] : List Int)) := ⟨_, rfl⟩
              replace H : (if 0 ≤ (wrap64 (a0 - 11)) then (if (wrap64 (a0 - 11)) < (y192.length : Int) then (some (3, rd y192 (wrap64 (a0 - 11)), 0)) else (none)) else (none)) = some (r1, r2, r3) := by first | (rw [hy192]; with_reducible exact H) | (have H2_ := (Option.bind_some _ _).symm.trans H; rw [hy192]; with_reducible exact H2_) | (have H2_ := (Option.bind_some _ _).symm.trans H; with_reducible exact H2_) | with_reducible exact H | (rw [hy192]; exact H) | exact H
              have Ny192 := Aside0.mk hy192
              clear hy192
              obtain ⟨ji15, hji15⟩ : ∃ j_ : Int, (wrap64 (a0 - 11)) = j_ := ⟨_, rfl⟩
              replace H : (if 0 ≤ (ji15) then (if (ji15) < (y192.length : Int) then (some (3, rd y192 (ji15), 0)) else (none)) else (none)) = some (r1, r2, r3) := by first | (rw [hji15] at H; exact H) | (simp only [hji15] at H ⊢; exact H)
              have hji15w : (IntKind.i64.wrap (a0 - 11)) = ji15 := (i64_w _).trans hji15
              by_cases c16 : 0 ≤ (ji15)
              · rw [if_pos c16] at H
                have c16b0 : decide (0 ≤ (ji15)) = true := decide_eq_true c16
                clear c16
                by_cases c17 : (ji15) < (y192.length : Int)
                · rw [if_pos c17] at H
                  have c17b0 : decide ((ji15) < (y192.length : Int)) = true := decide_eq_true c17
                  clear c17
                  simp only [Option.some.injEq, Prod.mk.injEq] at H
                  obtain ⟨rfl, rfl, rfl⟩ := H
                  go_enter Tryd.func29, Tryd.ntmps29
                  try go_wp2
                  have pi195 : (0 ≤ ((ji15) : Int)) = True := eq_true (of_decide_eq_true (by first | (with_reducible assumption) | assumption))
                  have qi195 : ((ji15) < (y192.length : Int)) = True := eq_true (of_decide_eq_true (by first | (with_reducible assumption) | assumption))
                  have n0_ := Aside0.mk (below_drew1 HB.out)
                  clear HB
                  have HB := n0_
                  clear n0_
                  refine start_ (n := 8) (S := fun w' => True) (ds := []) #[false, false, false, false, false, false, false, false] (by kernel_rfl) rfl rfl trivial (fun hHeld => ?_); refine with_tabW tinctureref5_form.tab12 tinctureref5_form.bits12 (fun HT_ HW_ => ?_)
                  generalize w.drew = w18 at HB hHeld ⊢
                  refine pure_ (i := 1) (N := some 29) (v := ?_) (a' := ?_) #[false, true, false, false, false, false, false, false] rfl rfl (any_of HT_.out (by kernel_rfl)) (fun _ _ _ h => h) (Or.inl ⟨by rfl, ?_⟩) ?_ ?_
                  rotate_left
                  · intro w'
                    go_simp
                    with_reducible rfl
                  rotate_left
                  · simp only [Act.put, List.setIfInBounds_toArray, List.set_cons_zero, List.set_cons_succ, i64_w, i32_w]
                    rfl
                  refine pure_ (i := 2) (N := some 30) (v := ?_) (a' := ?_) #[false, true, true, false, false, false, false, false] rfl rfl (any_of HT_.out (by kernel_rfl)) (fun _ _ _ h => h) (Or.inl ⟨by rfl, ?_⟩) ?_ ?_
                  rotate_left
                  · intro w'
                    go_simp
                    with_reducible rfl
                  rotate_left
                  · simp only [Act.put, List.setIfInBounds_toArray, List.set_cons_zero, List.set_cons_succ, i64_w, i32_w]
                    rfl
                  refine pure_ (i := 5) (N := some 2) (v := ?_) (a' := ?_) #[false, true, true, false, false, true, false, false] rfl rfl (any_of HT_.out (by kernel_rfl)) (fun _ _ _ h => h) (Or.inl ⟨by rfl, ?_⟩) ?_ ?_
                  rotate_left
                  · intro w'
                    go_simp
                    with_reducible rfl
                  rotate_left
                  · simp only [Act.put, List.setIfInBounds_toArray, List.set_cons_zero, List.set_cons_succ, i64_w, i32_w]
                    rfl
                  refine one_ (i := 0) (N := some 28) #[true, true, true, false, false, true, false, false] rfl rfl (one_of HT_.out (by kernel_rfl)) (by decide) (fun K hK => ?_)
                  refine Kd.R_lit_step (Kd.int .u32) _ 22 ?hg (N := 28) ?hd (xs := ([0, 1, 2, 4, 5] : List Int)) (inner := [.int .u32 0, .int .u32 1, .int .u32 2, .int .u32 4, .int .u32 5]) (ok := fun _ => True) (okp := fun _ => True) ?hr ?hp (fun _ hk => hk) trivial (Below.refl _ _) (Nat.le_refl _) (by simp) ?_; (case hd => rfl); (case hg => rfl); (case hr => first | (go_simp; done) | (go_simp; rfl)); (case hp => exact (Reps.one (show Kd.M (Kd.int .u32) _ _ _ 0 [.int .u32 0] from rfl) (Reps.one (show Kd.M (Kd.int .u32) _ _ _ 1 [.int .u32 1] from rfl) (Reps.one (show Kd.M (Kd.int .u32) _ _ _ 2 [.int .u32 2] from rfl) (Reps.one (show Kd.M (Kd.int .u32) _ _ _ 4 [.int .u32 4] from rfl) (Reps.one (show Kd.M (Kd.int .u32) _ _ _ 5 [.int .u32 5] from rfl) (Reps.none _ _)))))))
                  intro v193 w19 ho20 hb hg_ hnew_
                  clear hg_ hnew_
                  (first | rw [← Ny192.out] at ho20 | (simp only [Int.reduceToNat] at ho20; rw [← Ny192.out] at ho20))
                  have n0_ := Aside0.mk (Kd.R_lower ho20 (below_size (by repeat (first | (with_reducible first | exact HB.out | apply below_alloc | apply pw_below_drewN | apply below_drew1) | exact HB.out))))
                  have n1_ := Aside0.mk (below_step (by repeat (first | (with_reducible first | exact HB.out | apply below_alloc | apply pw_below_drewN | apply below_drew1) | exact HB.out)) hb)
                  clear HB
                  have HO194 := n0_
                  have HB := n1_
                  clear n0_ n1_ hb ho20
                  obtain ⟨Ao21, co21, eo21⟩ := Kd.R_slice HO194.out
                  subst eo21
                  obtain ⟨ado21, fo21, _⟩ := Kd.at_int (Kd.R_reads' HO194.out).2.2 0 (by decide) (by rw [Ny192.out]; simp)
                  cases fo21
                  refine hK.out _ _ trivial (fun hHeld => ?_)
                  clear hK K
                  refine norm_ (a' := ?_) ?_ ?_
                  rotate_left
                  · show Act.put _ (some 28) _ = _
                    simp only [Act.put, List.setIfInBounds_toArray, List.set_cons_zero, List.set_cons_succ, i64_w, i32_w]
                    rfl
                  refine pure_ (i := 3) (N := some 31) (v := ?_) (a' := ?_) #[true, true, true, true, false, true, false, false] rfl rfl (any_of HT_.out (by kernel_rfl)) (fun _ _ _ h => h) (Or.inl ⟨by rfl, ?_⟩) ?_ ?_
                  rotate_left
                  · intro w'
                    go_simp
                    with_reducible rfl
                  rotate_left
                  · simp only [Act.put, List.setIfInBounds_toArray, List.set_cons_zero, List.set_cons_succ, i64_w, i32_w]
                    rfl
                  refine one_ (i := 4) (N := some 32) #[true, true, true, true, true, true, false, false] rfl rfl (one_of HT_.out (by kernel_rfl)) (by decide) (fun K hK => ?_)
                  (have p195 : 0 ≤ ((ji15) : Int) := of_decide_eq_true (by first | (with_reducible assumption) | assumption); have q195 : (ji15) < (y192.length : Int) := of_decide_eq_true (by first | (with_reducible assumption) | assumption); obtain ⟨ad195, e195, hx195_0⟩ := Kd.at_int (Kd.R_reads' HO194.out).2.2 (ji15) p195 q195; obtain rfl : ado21 = ad195 := (by injection e195))
                  refine value_ (w1 := ?_) (v := ?_) (by rfl) rfl ?_ ?_
                  rotate_left 2
                  · go_simp
                    constructor
                    · rfl
                    · rfl
                  clear hx195_0
                  refine hK.out _ _ trivial (fun hHeld => ?_)
                  clear hK K
                  refine norm_ (a' := ?_) ?_ ?_
                  rotate_left
                  · show Act.put _ (some 32) _ = _
                    simp only [Act.put, List.setIfInBounds_toArray, List.set_cons_zero, List.set_cons_succ, i64_w, i32_w]
                    rfl
                  refine pure_ (i := 6) (N := some 3) (v := ?_) (a' := ?_) #[true, true, true, true, true, true, true, false] rfl rfl (any_of HT_.out (by kernel_rfl)) (fun _ _ _ h => h) (Or.inl ⟨by rfl, ?_⟩) ?_ ?_
                  rotate_left
                  · intro w'
                    go_simp
                    with_reducible rfl
                  rotate_left
                  · simp only [Act.put, List.setIfInBounds_toArray, List.set_cons_zero, List.set_cons_succ, i64_w, i32_w]
                    rfl
                  refine pure_ (i := 7) (N := some 4) (v := ?_) (a' := ?_) #[true, true, true, true, true, true, true, true] rfl rfl (any_of HT_.out (by kernel_rfl)) (fun _ _ _ h => h) (Or.inl ⟨by rfl, ?_⟩) ?_ ?_
                  rotate_left
                  · intro w'
                    go_simp
                    with_reducible rfl
                  rotate_left
                  · simp only [Act.put, List.setIfInBounds_toArray, List.set_cons_zero, List.set_cons_succ, i64_w, i32_w]
                    rfl
                  refine done_ (done_of HT_.out (by kernel_rfl)) ?_
                  try go_wp2
                  go_ret3
                  exact ⟨by first | rfl | (simp [errW_none, errW_some] <;> rfl) | (simp only [← hji15]; first | rfl | (simp [errW_none, errW_some] <;> rfl)) | (simp [*, errW_none, errW_some] <;> rfl), by repeat (first | (with_reducible first | exact HB.out | apply below_alloc | apply pw_below_drewN | apply below_drew1) | exact HB.out)⟩
                · rw [if_neg c17] at H
                  exact absurd H (by simp)
              · rw [if_neg c16] at H
                exact absurd H (by simp)
            · rw [if_neg c14] at H
              have c14b0 : decide (a0 ≤ 15) = false := decide_eq_false c14
              clear c14
              by_cases c22 : a0 ≤ 18
              · rw [if_pos c22] at H
                have c22b0 : decide (a0 ≤ 18) = true := decide_eq_true c22
                clear c22
                simp only [Option.some.injEq, Prod.mk.injEq] at H
                obtain ⟨rfl, rfl, rfl⟩ := H
                go_enter Tryd.func29, Tryd.ntmps29
                go_wp2
                go_ret3
                exact ⟨by first | rfl | (simp [errW_none, errW_some] <;> rfl) | (simp [*, errW_none, errW_some] <;> rfl), by repeat (first | (with_reducible first | exact HB.out | apply below_alloc | apply pw_below_drewN | apply below_drew1) | exact HB.out)⟩
              · rw [if_neg c22] at H
                have c22b0 : decide (a0 ≤ 18) = false := decide_eq_false c22
                clear c22
                by_cases c23 : a0 ≤ 27
                · rw [if_pos c23] at H
                  have c23b0 : decide (a0 ≤ 27) = true := decide_eq_true c23
                  clear c23
                  obtain ⟨y196, hy196⟩ : ∃ y_ : List Int, y_ = (([0, 2, 3, 4, 6, 7, 1, 5, 5] : List Int)) := ⟨_, rfl⟩
                  replace H : (if 0 ≤ (wrap64 (a0 - 19)) then (if (wrap64 (a0 - 19)) < (y196.length : Int) then ((some (([0, 0, 0, 0, 0, 0, 0, 0, 32] : List Int) : List Int)).bind fun y200 => (if (wrap64 (a0 - 19)) < (y200.length : Int) then (some (19, rd y196 (wrap64 (a0 - 19)), rd y200 (wrap64 (a0 - 19)))) else (none))) else (none)) else (none)) = some (r1, r2, r3) := by first | (rw [hy196]; with_reducible exact H) | (have H2_ := (Option.bind_some _ _).symm.trans H; rw [hy196]; with_reducible exact H2_) | (have H2_ := (Option.bind_some _ _).symm.trans H; with_reducible exact H2_) | with_reducible exact H | (rw [hy196]; exact H) | exact H
                  have Ny196 := Aside0.mk hy196
                  clear hy196
                  obtain ⟨ji24, hji24⟩ : ∃ j_ : Int, (wrap64 (a0 - 19)) = j_ := ⟨_, rfl⟩
                  replace H : (if 0 ≤ (ji24) then (if (ji24) < (y196.length : Int) then ((some (([0, 0, 0, 0, 0, 0, 0, 0, 32] : List Int) : List Int)).bind fun y200 => (if (ji24) < (y200.length : Int) then (some (19, rd y196 (ji24), rd y200 (ji24))) else (none))) else (none)) else (none)) = some (r1, r2, r3) := by first | (rw [hji24] at H; exact H) | (simp only [hji24] at H ⊢; exact H)
                  have hji24w : (IntKind.i64.wrap (a0 - 19)) = ji24 := (i64_w _).trans hji24
                  by_cases c25 : 0 ≤ (ji24)
                  · rw [if_pos c25] at H
                    have c25b0 : decide (0 ≤ (ji24)) = true := decide_eq_true c25
                    clear c25
                    by_cases c26 : (ji24) < (y196.length : Int)
                    · rw [if_pos c26] at H
                      have c26b0 : decide ((ji24) < (y196.length : Int)) = true := decide_eq_true c26
                      clear c26
                      obtain ⟨y200, hy200⟩ : ∃ y_ : List Int, y_ = (([0, 0, 0, 0, 0, 0, 0, 0, 32] : List Int)) := ⟨_, rfl⟩
                      replace H : (if (ji24) < (y200.length : Int) then (some (19, rd y196 (ji24), rd y200 (ji24))) else (none)) = some (r1, r2, r3) := by first | (rw [hy200]; with_reducible exact H) | (have H2_ := (Option.bind_some _ _).symm.trans H; rw [hy200]; with_reducible exact H2_) | (have H2_ := (Option.bind_some _ _).symm.trans H; with_reducible exact H2_) | with_reducible exact H | (rw [hy200]; exact H) | exact H
                      have Ny200 := Aside0.mk hy200
                      clear hy200
                      by_cases c27 : (ji24) < (y200.length : Int)
                      · rw [if_pos c27] at H
                        have c27b0 : decide ((ji24) < (y200.length : Int)) = true := decide_eq_true c27
                        clear c27
                        simp only [Option.some.injEq, Prod.mk.injEq] at H
                        obtain ⟨rfl, rfl, rfl⟩ := H
                        go_enter Tryd.func29, Tryd.ntmps29
                        try go_wp2
                        have pi199 : (0 ≤ ((ji24) : Int)) = True := eq_true (of_decide_eq_true (by first | (with_reducible assumption) | assumption))
                        have qi199 : ((ji24) < (y196.length : Int)) = True := eq_true (of_decide_eq_true (by first | (with_reducible assumption) | assumption))
                        have pi203 : (0 ≤ ((ji24) : Int)) = True := eq_true (of_decide_eq_true (by first | (with_reducible assumption) | assumption))
                        have qi203 : ((ji24) < (y200.length : Int)) = True := eq_true (of_decide_eq_true (by first | (with_reducible assumption) | assumption))
                        have n0_ := Aside0.mk (below_drew1 HB.out)
                        clear HB
                        have HB := n0_
                        clear n0_
                        refine start_ (n := 13) (S := fun w' => True) (ds := []) #[false, false, false, false, false, false, false, false, false, false, false, false, false] (by kernel_rfl) rfl rfl trivial (fun hHeld => ?_); refine with_tabW tinctureref5_form.tab16 tinctureref5_form.bits16 (fun HT_ HW_ => ?_)
                        generalize w.drew = w28 at HB hHeld ⊢
                        refine pure_ (i := 1) (N := some 43) (v := ?_) (a' := ?_) #[false, true, false, false, false, false, false, false, false, false, false, false, false] rfl rfl (any_of HT_.out (by kernel_rfl)) (fun _ _ _ h => h) (Or.inl ⟨by rfl, ?_⟩) ?_ ?_
                        rotate_left
                        · intro w'
                          go_simp
                          with_reducible rfl
                        rotate_left
                        · simp only [Act.put, List.setIfInBounds_toArray, List.set_cons_zero, List.set_cons_succ, i64_w, i32_w]
                          rfl
                        refine pure_ (i := 6) (N := some 48) (v := ?_) (a' := ?_) #[false, true, false, false, false, false, true, false, false, false, false, false, false] rfl rfl (any_of HT_.out (by kernel_rfl)) (fun _ _ _ h => h) (Or.inl ⟨by rfl, ?_⟩) ?_ ?_
                        rotate_left
                        · intro w'
                          go_simp
                          with_reducible rfl
                        rotate_left
                        · simp only [Act.put, List.setIfInBounds_toArray, List.set_cons_zero, List.set_cons_succ, i64_w, i32_w]
                          rfl
                        refine inv_at [0, 2, 3, 4, 5, 7, 8, 9, 10, 11, 12] (fun a0_ b a w' => ∃ (v197 : Value) (adz_v197 : Addr) (v201 : Value) (adz_v201 : Addr) (m3_ : Value) (m8_ : Value), a = putSel a0_ b [(0, 42, v197), (2, 44, .int .i64 ji24), (3, 45, m3_), (4, 46, .int .u32 (rd y196 (ji24))), (5, 47, v201), (7, 49, .int .i64 ji24), (8, 50, m8_), (9, 51, .int .u32 (rd y200 (ji24))), (10, 2, .int .u32 19), (11, 3, .int .u32 (rd y196 (ji24))), (12, 4, .int .u32 (rd y200 (ji24)))] ∧ (Below w.heap.size w w') ∧ (b 0 = true → Kd.R (Kd.int .u32) 22 w' w.heap.size (fun _ => True) v197 y196) ∧ (b 0 = true → ∃ c_, (v197 : Value) = .slice (some adz_v197) y196.length c_) ∧ (b 5 = true → Kd.R (Kd.int .u32) 22 w' w.heap.size (fun _ => True) v201 y200) ∧ (b 5 = true → ∃ c_, (v201 : Value) = .slice (some adz_v201) y200.length c_) ∧ (b 3 = true → (m3_ : Value) = .pointer (some (adz_v197.add ((ji24)).toNat))) ∧ (b 8 = true → (m8_ : Value) = .pointer (some (adz_v201.add ((ji24)).toNat)))) HT_.out HW_.out (by kernel_rfl) (by kernel_rfl) ?_ ?_ ?_
                        · exact ⟨.bool false, ⟨0, 0, none⟩, .bool false, ⟨0, 0, none⟩, .bool false, .bool false, by simp only [putSel, Bool.false_eq_true, if_false], HB.out, fun h_ => absurd h_ (by decide), fun h_ => absurd h_ (by decide), fun h_ => absurd h_ (by decide), fun h_ => absurd h_ (by decide), fun h_ => absurd h_ (by decide), fun h_ => absurd h_ (by decide)⟩
                        · skip
                          clear HB
                          refine steps_cons ?_ ?_
                          · rintro b a w' ⟨v197, adz_v197, v201, adz_v201, m3_, m8_, ha, Q_HB, Q_HO198, Q_HA_HO198, Q_HO202, Q_HA_HO202, Q_X3_, Q_X8_⟩ hb_ hon hoff
                            refine ⟨_, rfl, fun K hK => ?_⟩
                            replace ha := Aside0.mk ha
                            have HB := Aside0.mk Q_HB
                            refine Kd.R_lit_step (Kd.int .u32) _ 22 ?hg (N := 42) ?hd (xs := ([0, 2, 3, 4, 6, 7, 1, 5, 5] : List Int)) (inner := [.int .u32 0, .int .u32 2, .int .u32 3, .int .u32 4, .int .u32 6, .int .u32 7, .int .u32 1, .int .u32 5, .int .u32 5]) (ok := fun _ => True) (okp := fun _ => True) ?hr ?hp (fun _ hk => hk) trivial (Below.refl _ _) (Nat.le_refl _) (by simp) ?_; (case hd => rfl); (case hg => rfl); (case hr => first | (go_simp; done) | (go_simp; rfl)); (case hp => exact (Reps.one (show Kd.M (Kd.int .u32) _ _ _ 0 [.int .u32 0] from rfl) (Reps.one (show Kd.M (Kd.int .u32) _ _ _ 2 [.int .u32 2] from rfl) (Reps.one (show Kd.M (Kd.int .u32) _ _ _ 3 [.int .u32 3] from rfl) (Reps.one (show Kd.M (Kd.int .u32) _ _ _ 4 [.int .u32 4] from rfl) (Reps.one (show Kd.M (Kd.int .u32) _ _ _ 6 [.int .u32 6] from rfl) (Reps.one (show Kd.M (Kd.int .u32) _ _ _ 7 [.int .u32 7] from rfl) (Reps.one (show Kd.M (Kd.int .u32) _ _ _ 1 [.int .u32 1] from rfl) (Reps.one (show Kd.M (Kd.int .u32) _ _ _ 5 [.int .u32 5] from rfl) (Reps.one (show Kd.M (Kd.int .u32) _ _ _ 5 [.int .u32 5] from rfl) (Reps.none _ _)))))))))))
                            intro v197 w29 ho30 hb hg_ hnew_
                            clear hg_ hnew_
                            (first | rw [← Ny196.out] at ho30 | (simp only [Int.reduceToNat] at ho30; rw [← Ny196.out] at ho30))
                            have n0_ := Aside0.mk (Kd.R_lower ho30 (below_size (by repeat (first | (with_reducible first | exact HB.out | apply below_alloc | apply pw_below_drewN | apply below_drew1) | exact HB.out))))
                            have n1_ := Aside0.mk (below_step (by repeat (first | (with_reducible first | exact HB.out | apply below_alloc | apply pw_below_drewN | apply below_drew1) | exact HB.out)) hb)
                            have z_HO202 := fun (h0_ : b 5 = true) => (show Kd.R (Kd.int .u32) 22 w29 w.heap.size (fun _ => True) v201 y200 from by first | exact (Kd.R_elder' (by (with_reducible repeat (first | apply Kd.R_alloc | apply Kd.R_drewN | apply Kd.R_drew)); exact (Q_HO202 h0_)) (Kd.R_base ho30) hb) | exact Kd.R_mono (Kd.R_elder' (by (with_reducible repeat (first | apply Kd.R_alloc | apply Kd.R_drewN | apply Kd.R_drew)); exact (Q_HO202 h0_)) (Kd.R_base ho30) hb) (fun _ h_ => by first | trivial | exact h_ | exact h_.1))
                            clear HB
                            have HO198 := n0_
                            have HB := n1_
                            clear n0_ n1_ hb ho30
                            obtain ⟨Ao31, co31, eo31⟩ := Kd.R_slice HO198.out
                            subst eo31
                            obtain ⟨ado31, fo31, _⟩ := Kd.at_int (Kd.R_reads' HO198.out).2.2 0 (by decide) (by rw [Ny196.out]; simp)
                            cases fo31
                            refine hK.out _ _ ⟨.slice (some ado31) y196.length co31, ado31, v201, adz_v201, m3_, m8_, (by rw [ha.out]; exact putSel_upk 0 hb_ rfl rfl rfl), (by repeat (first | (with_reducible first | exact HB.out | apply below_alloc | apply pw_below_drewN | apply below_drew1) | exact HB.out)), fun _ => (by (with_reducible repeat (first | apply Kd.R_alloc | apply Kd.R_drewN | apply Kd.R_drew)); exact HO198.out), fun _ => ⟨_, rfl⟩, z_HO202, Q_HA_HO202, fun h0_ => absurd ((hoff 3 (by kernel_rfl)).symm.trans h0_) (by decide), Q_X8_⟩
                          refine steps_cons ?_ ?_
                          · rintro b a w' ⟨v197, adz_v197, v201, adz_v201, m3_, m8_, ha, Q_HB, Q_HO198, Q_HA_HO198, Q_HO202, Q_HA_HO202, Q_X3_, Q_X8_⟩ hb_ hon hoff
                            refine ⟨_, rfl, fun K hK => ?_⟩
                            have e43 : a.tmps[43]? = some (.int .i64 a0) := by rw [ha]; exact (putSel_off rfl).trans rfl
                            replace ha := Aside0.mk ha
                            have HB := Aside0.mk Q_HB
                            refine value_ (w1 := w') (v := .int .i64 ji24) (by rfl) rfl ?_ ?_
                            · go_simp
                              (try simp only [i64_w])
                              try rfl
                            refine hK.out _ _ ⟨v197, adz_v197, v201, adz_v201, m3_, m8_, (by rw [ha.out]; exact putSel_upk 1 hb_ rfl rfl rfl), Q_HB, Q_HO198, Q_HA_HO198, Q_HO202, Q_HA_HO202, fun h0_ => absurd ((hoff 3 (by kernel_rfl)).symm.trans h0_) (by decide), Q_X8_⟩
                          refine steps_cons ?_ ?_
                          · rintro b a w' ⟨v197, adz_v197, v201, adz_v201, m3_, m8_, ha, Q_HB, Q_HO198, Q_HA_HO198, Q_HO202, Q_HA_HO202, Q_X3_, Q_X8_⟩ hb_ hon hoff
                            refine ⟨_, rfl, fun K hK => ?_⟩
                            have e42 : a.tmps[42]? = some (v197) := by rw [ha]; exact putSel_on (e := (0, 42, v197)) 0 rfl rfl (hon 0 (by kernel_rfl)) rfl
                            have e44 : a.tmps[44]? = some (.int .i64 ji24) := by rw [ha]; exact putSel_on (e := (2, 44, .int .i64 ji24)) 1 rfl rfl (hon 2 (by kernel_rfl)) rfl
                            replace ha := Aside0.mk ha
                            have HB := Aside0.mk Q_HB
                            have HO198 := Aside0.mk (Q_HO198 (hon 0 (by kernel_rfl)))
                            have HA_HO198 := Aside0.mk (Q_HA_HO198 (hon 0 (by kernel_rfl)))
                            obtain ⟨c_, hv_⟩ := HA_HO198.out
                            rw [hv_] at e42
                            refine value_ (w1 := w') (v := .pointer (some (adz_v197.add ((ji24)).toNat))) (by rfl) rfl ?_ ?_
                            · go_simp
                              (try simp only [i64_w])
                              try rfl
                            refine hK.out _ _ ⟨v197, adz_v197, v201, adz_v201, (.pointer (some (adz_v197.add ((ji24)).toNat))), m8_, (by rw [ha.out]; exact putSel_upk 2 hb_ rfl rfl rfl), Q_HB, Q_HO198, Q_HA_HO198, Q_HO202, Q_HA_HO202, fun _ => rfl, Q_X8_⟩
                          refine steps_cons ?_ ?_
                          · rintro b a w' ⟨v197, adz_v197, v201, adz_v201, m3_, m8_, ha, Q_HB, Q_HO198, Q_HA_HO198, Q_HO202, Q_HA_HO202, Q_X3_, Q_X8_⟩ hb_ hon hoff
                            refine ⟨_, rfl, fun K hK => ?_⟩
                            have e45 : a.tmps[45]? = some (m3_) := by rw [ha]; exact putSel_on (e := (3, 45, m3_)) 2 rfl rfl (hon 3 (by kernel_rfl)) rfl
                            rw [Q_X3_ (hon 3 (by kernel_rfl))] at e45
                            replace ha := Aside0.mk ha
                            have HB := Aside0.mk Q_HB
                            have HO198 := Aside0.mk (Q_HO198 (hon 0 (by kernel_rfl)))
                            have HA_HO198 := Aside0.mk (Q_HA_HO198 (hon 0 (by kernel_rfl)))
                            obtain ⟨c_, hv_⟩ := HA_HO198.out
                            have hF_ := HO198.out
                            rw [hv_] at hF_
                            obtain ⟨ad_, ea_, hx_⟩ := Kd.at_int (Kd.R_reads' hF_).2.2 (ji24) (of_eq_true pi199) (of_eq_true qi199)
                            cases ea_
                            refine value_ (w1 := w') (v := .int .u32 (rd y196 (ji24))) (by rfl) rfl ?_ ?_
                            · go_simp
                              (try simp only [i64_w])
                              try rfl
                            refine hK.out _ _ ⟨v197, adz_v197, v201, adz_v201, m3_, m8_, (by rw [ha.out]; exact putSel_upk 3 hb_ rfl rfl rfl), Q_HB, Q_HO198, Q_HA_HO198, Q_HO202, Q_HA_HO202, Q_X3_, Q_X8_⟩
                          refine steps_cons ?_ ?_
                          · rintro b a w' ⟨v197, adz_v197, v201, adz_v201, m3_, m8_, ha, Q_HB, Q_HO198, Q_HA_HO198, Q_HO202, Q_HA_HO202, Q_X3_, Q_X8_⟩ hb_ hon hoff
                            refine ⟨_, rfl, fun K hK => ?_⟩
                            replace ha := Aside0.mk ha
                            have HB := Aside0.mk Q_HB
                            refine Kd.R_lit_step (Kd.int .u32) _ 22 ?hg (N := 47) ?hd (xs := ([0, 0, 0, 0, 0, 0, 0, 0, 32] : List Int)) (inner := [.int .u32 0, .int .u32 0, .int .u32 0, .int .u32 0, .int .u32 0, .int .u32 0, .int .u32 0, .int .u32 0, .int .u32 32]) (ok := fun _ => True) (okp := fun _ => True) ?hr ?hp (fun _ hk => hk) trivial (Below.refl _ _) (Nat.le_refl _) (by simp) ?_; (case hd => rfl); (case hg => rfl); (case hr => first | (go_simp; done) | (go_simp; rfl)); (case hp => exact (Reps.one (show Kd.M (Kd.int .u32) _ _ _ 0 [.int .u32 0] from rfl) (Reps.one (show Kd.M (Kd.int .u32) _ _ _ 0 [.int .u32 0] from rfl) (Reps.one (show Kd.M (Kd.int .u32) _ _ _ 0 [.int .u32 0] from rfl) (Reps.one (show Kd.M (Kd.int .u32) _ _ _ 0 [.int .u32 0] from rfl) (Reps.one (show Kd.M (Kd.int .u32) _ _ _ 0 [.int .u32 0] from rfl) (Reps.one (show Kd.M (Kd.int .u32) _ _ _ 0 [.int .u32 0] from rfl) (Reps.one (show Kd.M (Kd.int .u32) _ _ _ 0 [.int .u32 0] from rfl) (Reps.one (show Kd.M (Kd.int .u32) _ _ _ 0 [.int .u32 0] from rfl) (Reps.one (show Kd.M (Kd.int .u32) _ _ _ 32 [.int .u32 32] from rfl) (Reps.none _ _)))))))))))
                            intro v201 w29 ho30 hb hg_ hnew_
                            clear hg_ hnew_
                            (first | rw [← Ny200.out] at ho30 | (simp only [Int.reduceToNat] at ho30; rw [← Ny200.out] at ho30))
                            have n0_ := Aside0.mk (Kd.R_lower ho30 (below_size (by repeat (first | (with_reducible first | exact HB.out | apply below_alloc | apply pw_below_drewN | apply below_drew1) | exact HB.out))))
                            have n1_ := Aside0.mk (below_step (by repeat (first | (with_reducible first | exact HB.out | apply below_alloc | apply pw_below_drewN | apply below_drew1) | exact HB.out)) hb)
                            have z_HO198 := fun (h0_ : b 0 = true) => (show Kd.R (Kd.int .u32) 22 w29 w.heap.size (fun _ => True) v197 y196 from by first | exact (Kd.R_elder' (by (with_reducible repeat (first | apply Kd.R_alloc | apply Kd.R_drewN | apply Kd.R_drew)); exact (Q_HO198 h0_)) (Kd.R_base ho30) hb) | exact Kd.R_mono (Kd.R_elder' (by (with_reducible repeat (first | apply Kd.R_alloc | apply Kd.R_drewN | apply Kd.R_drew)); exact (Q_HO198 h0_)) (Kd.R_base ho30) hb) (fun _ h_ => by first | trivial | exact h_ | exact h_.1))
                            clear HB
                            have HO202 := n0_
                            have HB := n1_
                            clear n0_ n1_ hb ho30
                            obtain ⟨Ao31, co31, eo31⟩ := Kd.R_slice HO202.out
                            subst eo31
                            obtain ⟨ado31, fo31, _⟩ := Kd.at_int (Kd.R_reads' HO202.out).2.2 0 (by decide) (by rw [Ny200.out]; simp)
                            cases fo31
                            refine hK.out _ _ ⟨v197, adz_v197, .slice (some ado31) y200.length co31, ado31, m3_, m8_, (by rw [ha.out]; exact putSel_upk 4 hb_ rfl rfl rfl), (by repeat (first | (with_reducible first | exact HB.out | apply below_alloc | apply pw_below_drewN | apply below_drew1) | exact HB.out)), z_HO198, Q_HA_HO198, fun _ => (by (with_reducible repeat (first | apply Kd.R_alloc | apply Kd.R_drewN | apply Kd.R_drew)); exact HO202.out), fun _ => ⟨_, rfl⟩, Q_X3_, fun h0_ => absurd ((hoff 8 (by kernel_rfl)).symm.trans h0_) (by decide)⟩
                          refine steps_cons ?_ ?_
                          · rintro b a w' ⟨v197, adz_v197, v201, adz_v201, m3_, m8_, ha, Q_HB, Q_HO198, Q_HA_HO198, Q_HO202, Q_HA_HO202, Q_X3_, Q_X8_⟩ hb_ hon hoff
                            refine ⟨_, rfl, fun K hK => ?_⟩
                            have e48 : a.tmps[48]? = some (.int .i64 a0) := by rw [ha]; exact (putSel_off rfl).trans rfl
                            replace ha := Aside0.mk ha
                            have HB := Aside0.mk Q_HB
                            refine value_ (w1 := w') (v := .int .i64 ji24) (by rfl) rfl ?_ ?_
                            · go_simp
                              (try simp only [i64_w])
                              try rfl
                            refine hK.out _ _ ⟨v197, adz_v197, v201, adz_v201, m3_, m8_, (by rw [ha.out]; exact putSel_upk 5 hb_ rfl rfl rfl), Q_HB, Q_HO198, Q_HA_HO198, Q_HO202, Q_HA_HO202, Q_X3_, fun h0_ => absurd ((hoff 8 (by kernel_rfl)).symm.trans h0_) (by decide)⟩
                          refine steps_cons ?_ ?_
                          · rintro b a w' ⟨v197, adz_v197, v201, adz_v201, m3_, m8_, ha, Q_HB, Q_HO198, Q_HA_HO198, Q_HO202, Q_HA_HO202, Q_X3_, Q_X8_⟩ hb_ hon hoff
                            refine ⟨_, rfl, fun K hK => ?_⟩
                            have e47 : a.tmps[47]? = some (v201) := by rw [ha]; exact putSel_on (e := (5, 47, v201)) 4 rfl rfl (hon 5 (by kernel_rfl)) rfl
                            have e49 : a.tmps[49]? = some (.int .i64 ji24) := by rw [ha]; exact putSel_on (e := (7, 49, .int .i64 ji24)) 5 rfl rfl (hon 7 (by kernel_rfl)) rfl
                            replace ha := Aside0.mk ha
                            have HB := Aside0.mk Q_HB
                            have HO202 := Aside0.mk (Q_HO202 (hon 5 (by kernel_rfl)))
                            have HA_HO202 := Aside0.mk (Q_HA_HO202 (hon 5 (by kernel_rfl)))
                            obtain ⟨c_, hv_⟩ := HA_HO202.out
                            rw [hv_] at e47
                            refine value_ (w1 := w') (v := .pointer (some (adz_v201.add ((ji24)).toNat))) (by rfl) rfl ?_ ?_
                            · go_simp
                              (try simp only [i64_w])
                              try rfl
                            refine hK.out _ _ ⟨v197, adz_v197, v201, adz_v201, m3_, (.pointer (some (adz_v201.add ((ji24)).toNat))), (by rw [ha.out]; exact putSel_upk 6 hb_ rfl rfl rfl), Q_HB, Q_HO198, Q_HA_HO198, Q_HO202, Q_HA_HO202, Q_X3_, fun _ => rfl⟩
                          refine steps_cons ?_ ?_
                          · rintro b a w' ⟨v197, adz_v197, v201, adz_v201, m3_, m8_, ha, Q_HB, Q_HO198, Q_HA_HO198, Q_HO202, Q_HA_HO202, Q_X3_, Q_X8_⟩ hb_ hon hoff
                            refine ⟨_, rfl, fun K hK => ?_⟩
                            have e50 : a.tmps[50]? = some (m8_) := by rw [ha]; exact putSel_on (e := (8, 50, m8_)) 6 rfl rfl (hon 8 (by kernel_rfl)) rfl
                            rw [Q_X8_ (hon 8 (by kernel_rfl))] at e50
                            replace ha := Aside0.mk ha
                            have HB := Aside0.mk Q_HB
                            have HO202 := Aside0.mk (Q_HO202 (hon 5 (by kernel_rfl)))
                            have HA_HO202 := Aside0.mk (Q_HA_HO202 (hon 5 (by kernel_rfl)))
                            obtain ⟨c_, hv_⟩ := HA_HO202.out
                            have hF_ := HO202.out
                            rw [hv_] at hF_
                            obtain ⟨ad_, ea_, hx_⟩ := Kd.at_int (Kd.R_reads' hF_).2.2 (ji24) (of_eq_true pi203) (of_eq_true qi203)
                            cases ea_
                            refine value_ (w1 := w') (v := .int .u32 (rd y200 (ji24))) (by rfl) rfl ?_ ?_
                            · go_simp
                              (try simp only [i64_w])
                              try rfl
                            refine hK.out _ _ ⟨v197, adz_v197, v201, adz_v201, m3_, m8_, (by rw [ha.out]; exact putSel_upk 7 hb_ rfl rfl rfl), Q_HB, Q_HO198, Q_HA_HO198, Q_HO202, Q_HA_HO202, Q_X3_, Q_X8_⟩
                          refine steps_cons ?_ ?_
                          · rintro b a w' ⟨v197, adz_v197, v201, adz_v201, m3_, m8_, ha, Q_HB, Q_HO198, Q_HA_HO198, Q_HO202, Q_HA_HO202, Q_X3_, Q_X8_⟩ hb_ hon hoff
                            refine ⟨_, rfl, fun K hK => ?_⟩
                            replace ha := Aside0.mk ha
                            have HB := Aside0.mk Q_HB
                            refine value_ (w1 := w') (v := .int .u32 19) (by rfl) rfl ?_ ?_
                            · go_simp
                              (try simp only [i64_w])
                              try rfl
                            refine hK.out _ _ ⟨v197, adz_v197, v201, adz_v201, m3_, m8_, (by rw [ha.out]; exact putSel_upk 8 hb_ rfl rfl rfl), Q_HB, Q_HO198, Q_HA_HO198, Q_HO202, Q_HA_HO202, Q_X3_, Q_X8_⟩
                          refine steps_cons ?_ ?_
                          · rintro b a w' ⟨v197, adz_v197, v201, adz_v201, m3_, m8_, ha, Q_HB, Q_HO198, Q_HA_HO198, Q_HO202, Q_HA_HO202, Q_X3_, Q_X8_⟩ hb_ hon hoff
                            refine ⟨_, rfl, fun K hK => ?_⟩
                            have e46 : a.tmps[46]? = some (.int .u32 (rd y196 (ji24))) := by rw [ha]; exact putSel_on (e := (4, 46, .int .u32 (rd y196 (ji24)))) 3 rfl rfl (hon 4 (by kernel_rfl)) rfl
                            replace ha := Aside0.mk ha
                            have HB := Aside0.mk Q_HB
                            have HO198 := Aside0.mk (Q_HO198 (hon 0 (by kernel_rfl)))
                            have HA_HO198 := Aside0.mk (Q_HA_HO198 (hon 0 (by kernel_rfl)))
                            refine value_ (w1 := w') (v := .int .u32 (rd y196 (ji24))) (by rfl) rfl ?_ ?_
                            · go_simp
                              (try simp only [i64_w])
                              try rfl
                            refine hK.out _ _ ⟨v197, adz_v197, v201, adz_v201, m3_, m8_, (by rw [ha.out]; exact putSel_upk 9 hb_ rfl rfl rfl), Q_HB, Q_HO198, Q_HA_HO198, Q_HO202, Q_HA_HO202, Q_X3_, Q_X8_⟩
                          refine steps_cons ?_ ?_
                          · rintro b a w' ⟨v197, adz_v197, v201, adz_v201, m3_, m8_, ha, Q_HB, Q_HO198, Q_HA_HO198, Q_HO202, Q_HA_HO202, Q_X3_, Q_X8_⟩ hb_ hon hoff
                            refine ⟨_, rfl, fun K hK => ?_⟩
                            have e51 : a.tmps[51]? = some (.int .u32 (rd y200 (ji24))) := by rw [ha]; exact putSel_on (e := (9, 51, .int .u32 (rd y200 (ji24)))) 7 rfl rfl (hon 9 (by kernel_rfl)) rfl
                            replace ha := Aside0.mk ha
                            have HB := Aside0.mk Q_HB
                            have HO198 := Aside0.mk (Q_HO198 (hon 0 (by kernel_rfl)))
                            have HA_HO198 := Aside0.mk (Q_HA_HO198 (hon 0 (by kernel_rfl)))
                            have HO202 := Aside0.mk (Q_HO202 (hon 5 (by kernel_rfl)))
                            have HA_HO202 := Aside0.mk (Q_HA_HO202 (hon 5 (by kernel_rfl)))
                            refine value_ (w1 := w') (v := .int .u32 (rd y200 (ji24))) (by rfl) rfl ?_ ?_
                            · go_simp
                              (try simp only [i64_w])
                              try rfl
                            refine hK.out _ _ ⟨v197, adz_v197, v201, adz_v201, m3_, m8_, (by rw [ha.out]; exact putSel_upk 10 hb_ rfl rfl rfl), Q_HB, Q_HO198, Q_HA_HO198, Q_HO202, Q_HA_HO202, Q_X3_, Q_X8_⟩
                          exact steps_nil
                        rintro b a w35 hall ⟨v197, adz_v197, v201, adz_v201, m3_, m8_, ha, Q_HB, Q_HO198, Q_HA_HO198, Q_HO202, Q_HA_HO202, Q_X3_, Q_X8_⟩
                        clear HB
                        have hb0_ := hall 0 (by kernel_rfl)
                        have hb2_ := hall 2 (by kernel_rfl)
                        have hb3_ := hall 3 (by kernel_rfl)
                        have hb4_ := hall 4 (by kernel_rfl)
                        have hb5_ := hall 5 (by kernel_rfl)
                        have hb7_ := hall 7 (by kernel_rfl)
                        have hb8_ := hall 8 (by kernel_rfl)
                        have hb9_ := hall 9 (by kernel_rfl)
                        have hb10_ := hall 10 (by kernel_rfl)
                        have hb11_ := hall 11 (by kernel_rfl)
                        have hb12_ := hall 12 (by kernel_rfl)
                        subst ha
                        obtain rfl := Q_X3_ hb3_
                        obtain rfl := Q_X8_ hb8_
                        simp only [putSel, hb0_, hb2_, hb3_, hb4_, hb5_, hb7_, hb8_, hb9_, hb10_, hb11_, hb12_, if_true, Act.put, List.setIfInBounds_toArray, List.set_cons_zero, List.set_cons_succ]
                        have HB := Aside0.mk Q_HB
                        clear Q_HB
                        have HO198 := Aside0.mk (Q_HO198 hb0_)
                        clear Q_HO198
                        have HA_HO198 := Aside0.mk (Q_HA_HO198 hb0_)
                        clear Q_HA_HO198
                        have HO202 := Aside0.mk (Q_HO202 hb5_)
                        clear Q_HO202
                        have HA_HO202 := Aside0.mk (Q_HA_HO202 hb5_)
                        clear Q_HA_HO202 hall hb0_ hb2_ hb3_ hb4_ hb5_ hb7_ hb8_ hb9_ hb10_ hb11_ hb12_
                        obtain ⟨co36, eo36⟩ := HA_HO198.out
                        clear HA_HO198
                        subst eo36
                        obtain ⟨co37, eo37⟩ := HA_HO202.out
                        clear HA_HO202
                        subst eo37
                        try go_wp2
                        go_ret3
                        exact ⟨by first | rfl | (simp [errW_none, errW_some] <;> rfl) | (simp only [← hji24]; first | rfl | (simp [errW_none, errW_some] <;> rfl)) | (simp [*, errW_none, errW_some] <;> rfl), by repeat (first | (with_reducible first | exact HB.out | apply below_alloc | apply pw_below_drewN | apply below_drew1) | exact HB.out)⟩
                      · rw [if_neg c27] at H
                        exact absurd H (by simp)
                    · rw [if_neg c26] at H
                      exact absurd H (by simp)
                  · rw [if_neg c25] at H
                    exact absurd H (by simp)
                · rw [if_neg c23] at H
                  have c23b0 : decide (a0 ≤ 27) = false := decide_eq_false c23
                  clear c23
                  by_cases c38 : a0 ≤ 37
                  · rw [if_pos c38] at H
                    have c38b0 : decide (a0 ≤ 37) = true := decide_eq_true c38
                    clear c38
                    obtain ⟨y204, hy204⟩ : ∃ y_ : List Int, y_ = (([0, 0, 1, 2, 3, 4, 5, 5, 6, 7] : List Int)) := ⟨_, rfl⟩
                    replace H : (if 0 ≤ (wrap64 (a0 - 28)) then (if (wrap64 (a0 - 28)) < (y204.length : Int) then ((some (([0, 32, 0, 0, 0, 0, 0, 32, 0, 0] : List Int) : List Int)).bind fun y208 => (if (wrap64 (a0 - 28)) < (y208.length : Int) then (some (51, rd y204 (wrap64 (a0 - 28)), rd y208 (wrap64 (a0 - 28)))) else (none))) else (none)) else (none)) = some (r1, r2, r3) := by first | (rw [hy204]; with_reducible exact H) | (have H2_ := (Option.bind_some _ _).symm.trans H; rw [hy204]; with_reducible exact H2_) | (have H2_ := (Option.bind_some _ _).symm.trans H; with_reducible exact H2_) | with_reducible exact H | (rw [hy204]; exact H) | exact H
                    have Ny204 := Aside0.mk hy204
                    clear hy204
                    obtain ⟨ji39, hji39⟩ : ∃ j_ : Int, (wrap64 (a0 - 28)) = j_ := ⟨_, rfl⟩
                    replace H : (if 0 ≤ (ji39) then (if (ji39) < (y204.length : Int) then ((some (([0, 32, 0, 0, 0, 0, 0, 32, 0, 0] : List Int) : List Int)).bind fun y208 => (if (ji39) < (y208.length : Int) then (some (51, rd y204 (ji39), rd y208 (ji39))) else (none))) else (none)) else (none)) = some (r1, r2, r3) := by first | (rw [hji39] at H; exact H) | (simp only [hji39] at H ⊢; exact H)
                    have hji39w : (IntKind.i64.wrap (a0 - 28)) = ji39 := (i64_w _).trans hji39
                    by_cases c40 : 0 ≤ (ji39)
                    · rw [if_pos c40] at H
                      have c40b0 : decide (0 ≤ (ji39)) = true := decide_eq_true c40
                      clear c40
                      by_cases c41 : (ji39) < (y204.length : Int)
                      · rw [if_pos c41] at H
                        have c41b0 : decide ((ji39) < (y204.length : Int)) = true := decide_eq_true c41
                        clear c41
                        obtain ⟨y208, hy208⟩ : ∃ y_ : List Int, y_ = (([0, 32, 0, 0, 0, 0, 0, 32, 0, 0] : List Int)) := ⟨_, rfl⟩
                        replace H : (if (ji39) < (y208.length : Int) then (some (51, rd y204 (ji39), rd y208 (ji39))) else (none)) = some (r1, r2, r3) := by first | (rw [hy208]; with_reducible exact H) | (have H2_ := (Option.bind_some _ _).symm.trans H; rw [hy208]; with_reducible exact H2_) | (have H2_ := (Option.bind_some _ _).symm.trans H; with_reducible exact H2_) | with_reducible exact H | (rw [hy208]; exact H) | exact H
                        have Ny208 := Aside0.mk hy208
                        clear hy208
                        by_cases c42 : (ji39) < (y208.length : Int)
                        · rw [if_pos c42] at H
                          have c42b0 : decide ((ji39) < (y208.length : Int)) = true := decide_eq_true c42
                          clear c42
                          simp only [Option.some.injEq, Prod.mk.injEq] at H
                          obtain ⟨rfl, rfl, rfl⟩ := H
                          go_enter Tryd.func29, Tryd.ntmps29
                          try go_wp2
                          have pi207 : (0 ≤ ((ji39) : Int)) = True := eq_true (of_decide_eq_true (by first | (with_reducible assumption) | assumption))
                          have qi207 : ((ji39) < (y204.length : Int)) = True := eq_true (of_decide_eq_true (by first | (with_reducible assumption) | assumption))
                          have pi211 : (0 ≤ ((ji39) : Int)) = True := eq_true (of_decide_eq_true (by first | (with_reducible assumption) | assumption))
                          have qi211 : ((ji39) < (y208.length : Int)) = True := eq_true (of_decide_eq_true (by first | (with_reducible assumption) | assumption))
                          have n0_ := Aside0.mk (below_drew1 HB.out)
                          clear HB
                          have HB := n0_
                          clear n0_
                          refine start_ (n := 13) (S := fun w' => True) (ds := []) #[false, false, false, false, false, false, false, false, false, false, false, false, false] (by kernel_rfl) rfl rfl trivial (fun hHeld => ?_); refine with_tabW tinctureref5_form.tab18 tinctureref5_form.bits18 (fun HT_ HW_ => ?_)
                          generalize w.drew = w43 at HB hHeld ⊢
                          refine pure_ (i := 1) (N := some 56) (v := ?_) (a' := ?_) #[false, true, false, false, false, false, false, false, false, false, false, false, false] rfl rfl (any_of HT_.out (by kernel_rfl)) (fun _ _ _ h => h) (Or.inl ⟨by rfl, ?_⟩) ?_ ?_
                          rotate_left
                          · intro w'
                            go_simp
                            with_reducible rfl
                          rotate_left
                          · simp only [Act.put, List.setIfInBounds_toArray, List.set_cons_zero, List.set_cons_succ, i64_w, i32_w]
                            rfl
                          refine pure_ (i := 6) (N := some 61) (v := ?_) (a' := ?_) #[false, true, false, false, false, false, true, false, false, false, false, false, false] rfl rfl (any_of HT_.out (by kernel_rfl)) (fun _ _ _ h => h) (Or.inl ⟨by rfl, ?_⟩) ?_ ?_
                          rotate_left
                          · intro w'
                            go_simp
                            with_reducible rfl
                          rotate_left
                          · simp only [Act.put, List.setIfInBounds_toArray, List.set_cons_zero, List.set_cons_succ, i64_w, i32_w]
                            rfl
                          refine inv_at [0, 2, 3, 4, 5, 7, 8, 9, 10, 11, 12] (fun a0_ b a w' => ∃ (v205 : Value) (adz_v205 : Addr) (v209 : Value) (adz_v209 : Addr) (m3_ : Value) (m8_ : Value), a = putSel a0_ b [(0, 55, v205), (2, 57, .int .i64 ji39), (3, 58, m3_), (4, 59, .int .u32 (rd y204 (ji39))), (5, 60, v209), (7, 62, .int .i64 ji39), (8, 63, m8_), (9, 64, .int .u32 (rd y208 (ji39))), (10, 2, .int .u32 51), (11, 3, .int .u32 (rd y204 (ji39))), (12, 4, .int .u32 (rd y208 (ji39)))] ∧ (Below w.heap.size w w') ∧ (b 0 = true → Kd.R (Kd.int .u32) 22 w' w.heap.size (fun _ => True) v205 y204) ∧ (b 0 = true → ∃ c_, (v205 : Value) = .slice (some adz_v205) y204.length c_) ∧ (b 5 = true → Kd.R (Kd.int .u32) 22 w' w.heap.size (fun _ => True) v209 y208) ∧ (b 5 = true → ∃ c_, (v209 : Value) = .slice (some adz_v209) y208.length c_) ∧ (b 3 = true → (m3_ : Value) = .pointer (some (adz_v205.add ((ji39)).toNat))) ∧ (b 8 = true → (m8_ : Value) = .pointer (some (adz_v209.add ((ji39)).toNat)))) HT_.out HW_.out (by kernel_rfl) (by kernel_rfl) ?_ ?_ ?_
                          · exact ⟨.bool false, ⟨0, 0, none⟩, .bool false, ⟨0, 0, none⟩, .bool false, .bool false, by simp only [putSel, Bool.false_eq_true, if_false], HB.out, fun h_ => absurd h_ (by decide), fun h_ => absurd h_ (by decide), fun h_ => absurd h_ (by decide), fun h_ => absurd h_ (by decide), fun h_ => absurd h_ (by decide), fun h_ => absurd h_ (by decide)⟩
                          · skip
                            clear HB
                            refine steps_cons ?_ ?_
                            · rintro b a w' ⟨v205, adz_v205, v209, adz_v209, m3_, m8_, ha, Q_HB, Q_HO206, Q_HA_HO206, Q_HO210, Q_HA_HO210, Q_X3_, Q_X8_⟩ hb_ hon hoff
                              refine ⟨_, rfl, fun K hK => ?_⟩
                              replace ha := Aside0.mk ha
                              have HB := Aside0.mk Q_HB
                              refine Kd.R_lit_step (Kd.int .u32) _ 22 ?hg (N := 55) ?hd (xs := ([0, 0, 1, 2, 3, 4, 5, 5, 6, 7] : List Int)) (inner := [.int .u32 0, .int .u32 0, .int .u32 1, .int .u32 2, .int .u32 3, .int .u32 4, .int .u32 5, .int .u32 5, .int .u32 6, .int .u32 7]) (ok := fun _ => True) (okp := fun _ => True) ?hr ?hp (fun _ hk => hk) trivial (Below.refl _ _) (Nat.le_refl _) (by simp) ?_; (case hd => rfl); (case hg => rfl); (case hr => first | (go_simp; done) | (go_simp; rfl)); (case hp => exact (Reps.one (show Kd.M (Kd.int .u32) _ _ _ 0 [.int .u32 0] from rfl) (Reps.one (show Kd.M (Kd.int .u32) _ _ _ 0 [.int .u32 0] from rfl) (Reps.one (show Kd.M (Kd.int .u32) _ _ _ 1 [.int .u32 1] from rfl) (Reps.one (show Kd.M (Kd.int .u32) _ _ _ 2 [.int .u32 2] from rfl) (Reps.one (show Kd.M (Kd.int .u32) _ _ _ 3 [.int .u32 3] from rfl) (Reps.one (show Kd.M (Kd.int .u32) _ _ _ 4 [.int .u32 4] from rfl) (Reps.one (show Kd.M (Kd.int .u32) _ _ _ 5 [.int .u32 5] from rfl) (Reps.one (show Kd.M (Kd.int .u32) _ _ _ 5 [.int .u32 5] from rfl) (Reps.one (show Kd.M (Kd.int .u32) _ _ _ 6 [.int .u32 6] from rfl) (Reps.one (show Kd.M (Kd.int .u32) _ _ _ 7 [.int .u32 7] from rfl) (Reps.none _ _))))))))))))
                              intro v205 w44 ho45 hb hg_ hnew_
                              clear hg_ hnew_
                              (first | rw [← Ny204.out] at ho45 | (simp only [Int.reduceToNat] at ho45; rw [← Ny204.out] at ho45))
                              have n0_ := Aside0.mk (Kd.R_lower ho45 (below_size (by repeat (first | (with_reducible first | exact HB.out | apply below_alloc | apply pw_below_drewN | apply below_drew1) | exact HB.out))))
                              have n1_ := Aside0.mk (below_step (by repeat (first | (with_reducible first | exact HB.out | apply below_alloc | apply pw_below_drewN | apply below_drew1) | exact HB.out)) hb)
                              have z_HO210 := fun (h0_ : b 5 = true) => (show Kd.R (Kd.int .u32) 22 w44 w.heap.size (fun _ => True) v209 y208 from by first | exact (Kd.R_elder' (by (with_reducible repeat (first | apply Kd.R_alloc | apply Kd.R_drewN | apply Kd.R_drew)); exact (Q_HO210 h0_)) (Kd.R_base ho45) hb) | exact Kd.R_mono (Kd.R_elder' (by (with_reducible repeat (first | apply Kd.R_alloc | apply Kd.R_drewN | apply Kd.R_drew)); exact (Q_HO210 h0_)) (Kd.R_base ho45) hb) (fun _ h_ => by first | trivial | exact h_ | exact h_.1))
                              clear HB
                              have HO206 := n0_
                              have HB := n1_
                              clear n0_ n1_ hb ho45
                              obtain ⟨Ao46, co46, eo46⟩ := Kd.R_slice HO206.out
                              subst eo46
                              obtain ⟨ado46, fo46, _⟩ := Kd.at_int (Kd.R_reads' HO206.out).2.2 0 (by decide) (by rw [Ny204.out]; simp)
                              cases fo46
                              refine hK.out _ _ ⟨.slice (some ado46) y204.length co46, ado46, v209, adz_v209, m3_, m8_, (by rw [ha.out]; exact putSel_upk 0 hb_ rfl rfl rfl), (by repeat (first | (with_reducible first | exact HB.out | apply below_alloc | apply pw_below_drewN | apply below_drew1) | exact HB.out)), fun _ => (by (with_reducible repeat (first | apply Kd.R_alloc | apply Kd.R_drewN | apply Kd.R_drew)); exact HO206.out), fun _ => ⟨_, rfl⟩, z_HO210, Q_HA_HO210, fun h0_ => absurd ((hoff 3 (by kernel_rfl)).symm.trans h0_) (by decide), Q_X8_⟩
                            refine steps_cons ?_ ?_
                            · rintro b a w' ⟨v205, adz_v205, v209, adz_v209, m3_, m8_, ha, Q_HB, Q_HO206, Q_HA_HO206, Q_HO210, Q_HA_HO210, Q_X3_, Q_X8_⟩ hb_ hon hoff
                              refine ⟨_, rfl, fun K hK => ?_⟩
                              have e56 : a.tmps[56]? = some (.int .i64 a0) := by rw [ha]; exact (putSel_off rfl).trans rfl
                              replace ha := Aside0.mk ha
                              have HB := Aside0.mk Q_HB
                              refine value_ (w1 := w') (v := .int .i64 ji39) (by rfl) rfl ?_ ?_
                              · go_simp
                                (try simp only [i64_w])
                                try rfl
                              refine hK.out _ _ ⟨v205, adz_v205, v209, adz_v209, m3_, m8_, (by rw [ha.out]; exact putSel_upk 1 hb_ rfl rfl rfl), Q_HB, Q_HO206, Q_HA_HO206, Q_HO210, Q_HA_HO210, fun h0_ => absurd ((hoff 3 (by kernel_rfl)).symm.trans h0_) (by decide), Q_X8_⟩
                            refine steps_cons ?_ ?_
                            · rintro b a w' ⟨v205, adz_v205, v209, adz_v209, m3_, m8_, ha, Q_HB, Q_HO206, Q_HA_HO206, Q_HO210, Q_HA_HO210, Q_X3_, Q_X8_⟩ hb_ hon hoff
                              refine ⟨_, rfl, fun K hK => ?_⟩
                              have e55 : a.tmps[55]? = some (v205) := by rw [ha]; exact putSel_on (e := (0, 55, v205)) 0 rfl rfl (hon 0 (by kernel_rfl)) rfl
                              have e57 : a.tmps[57]? = some (.int .i64 ji39) := by rw [ha]; exact putSel_on (e := (2, 57, .int .i64 ji39)) 1 rfl rfl (hon 2 (by kernel_rfl)) rfl
                              replace ha := Aside0.mk ha
                              have HB := Aside0.mk Q_HB
                              have HO206 := Aside0.mk (Q_HO206 (hon 0 (by kernel_rfl)))
                              have HA_HO206 := Aside0.mk (Q_HA_HO206 (hon 0 (by kernel_rfl)))
                              obtain ⟨c_, hv_⟩ := HA_HO206.out
                              rw [hv_] at e55
                              refine value_ (w1 := w') (v := .pointer (some (adz_v205.add ((ji39)).toNat))) (by rfl) rfl ?_ ?_
                              · go_simp
                                (try simp only [i64_w])
                                try rfl
                              refine hK.out _ _ ⟨v205, adz_v205, v209, adz_v209, (.pointer (some (adz_v205.add ((ji39)).toNat))), m8_, (by rw [ha.out]; exact putSel_upk 2 hb_ rfl rfl rfl), Q_HB, Q_HO206, Q_HA_HO206, Q_HO210, Q_HA_HO210, fun _ => rfl, Q_X8_⟩
                            refine steps_cons ?_ ?_
                            · rintro b a w' ⟨v205, adz_v205, v209, adz_v209, m3_, m8_, ha, Q_HB, Q_HO206, Q_HA_HO206, Q_HO210, Q_HA_HO210, Q_X3_, Q_X8_⟩ hb_ hon hoff
                              refine ⟨_, rfl, fun K hK => ?_⟩
                              have e58 : a.tmps[58]? = some (m3_) := by rw [ha]; exact putSel_on (e := (3, 58, m3_)) 2 rfl rfl (hon 3 (by kernel_rfl)) rfl
                              rw [Q_X3_ (hon 3 (by kernel_rfl))] at e58
                              replace ha := Aside0.mk ha
                              have HB := Aside0.mk Q_HB
                              have HO206 := Aside0.mk (Q_HO206 (hon 0 (by kernel_rfl)))
                              have HA_HO206 := Aside0.mk (Q_HA_HO206 (hon 0 (by kernel_rfl)))
                              obtain ⟨c_, hv_⟩ := HA_HO206.out
                              have hF_ := HO206.out
                              rw [hv_] at hF_
                              obtain ⟨ad_, ea_, hx_⟩ := Kd.at_int (Kd.R_reads' hF_).2.2 (ji39) (of_eq_true pi207) (of_eq_true qi207)
                              cases ea_
                              refine value_ (w1 := w') (v := .int .u32 (rd y204 (ji39))) (by rfl) rfl ?_ ?_
                              · go_simp
                                (try simp only [i64_w])
                                try rfl
                              refine hK.out _ _ ⟨v205, adz_v205, v209, adz_v209, m3_, m8_, (by rw [ha.out]; exact putSel_upk 3 hb_ rfl rfl rfl), Q_HB, Q_HO206, Q_HA_HO206, Q_HO210, Q_HA_HO210, Q_X3_, Q_X8_⟩
                            refine steps_cons ?_ ?_
                            · rintro b a w' ⟨v205, adz_v205, v209, adz_v209, m3_, m8_, ha, Q_HB, Q_HO206, Q_HA_HO206, Q_HO210, Q_HA_HO210, Q_X3_, Q_X8_⟩ hb_ hon hoff
                              refine ⟨_, rfl, fun K hK => ?_⟩
                              replace ha := Aside0.mk ha
                              have HB := Aside0.mk Q_HB
                              refine Kd.R_lit_step (Kd.int .u32) _ 22 ?hg (N := 60) ?hd (xs := ([0, 32, 0, 0, 0, 0, 0, 32, 0, 0] : List Int)) (inner := [.int .u32 0, .int .u32 32, .int .u32 0, .int .u32 0, .int .u32 0, .int .u32 0, .int .u32 0, .int .u32 32, .int .u32 0, .int .u32 0]) (ok := fun _ => True) (okp := fun _ => True) ?hr ?hp (fun _ hk => hk) trivial (Below.refl _ _) (Nat.le_refl _) (by simp) ?_; (case hd => rfl); (case hg => rfl); (case hr => first | (go_simp; done) | (go_simp; rfl)); (case hp => exact (Reps.one (show Kd.M (Kd.int .u32) _ _ _ 0 [.int .u32 0] from rfl) (Reps.one (show Kd.M (Kd.int .u32) _ _ _ 32 [.int .u32 32] from rfl) (Reps.one (show Kd.M (Kd.int .u32) _ _ _ 0 [.int .u32 0] from rfl) (Reps.one (show Kd.M (Kd.int .u32) _ _ _ 0 [.int .u32 0] from rfl) (Reps.one (show Kd.M (Kd.int .u32) _ _ _ 0 [.int .u32 0] from rfl) (Reps.one (show Kd.M (Kd.int .u32) _ _ _ 0 [.int .u32 0] from rfl) (Reps.one (show Kd.M (Kd.int .u32) _ _ _ 0 [.int .u32 0] from rfl) (Reps.one (show Kd.M (Kd.int .u32) _ _ _ 32 [.int .u32 32] from rfl) (Reps.one (show Kd.M (Kd.int .u32) _ _ _ 0 [.int .u32 0] from rfl) (Reps.one (show Kd.M (Kd.int .u32) _ _ _ 0 [.int .u32 0] from rfl) (Reps.none _ _))))))))))))
                              intro v209 w44 ho45 hb hg_ hnew_
                              clear hg_ hnew_
                              (first | rw [← Ny208.out] at ho45 | (simp only [Int.reduceToNat] at ho45; rw [← Ny208.out] at ho45))
                              have n0_ := Aside0.mk (Kd.R_lower ho45 (below_size (by repeat (first | (with_reducible first | exact HB.out | apply below_alloc | apply pw_below_drewN | apply below_drew1) | exact HB.out))))
                              have n1_ := Aside0.mk (below_step (by repeat (first | (with_reducible first | exact HB.out | apply below_alloc | apply pw_below_drewN | apply below_drew1) | exact HB.out)) hb)
                              have z_HO206 := fun (h0_ : b 0 = true) => (show Kd.R (Kd.int .u32) 22 w44 w.heap.size (fun _ => True) v205 y204 from by first | exact (Kd.R_elder' (by (with_reducible repeat (first | apply Kd.R_alloc | apply Kd.R_drewN | apply Kd.R_drew)); exact (Q_HO206 h0_)) (Kd.R_base ho45) hb) | exact Kd.R_mono (Kd.R_elder' (by (with_reducible repeat (first | apply Kd.R_alloc | apply Kd.R_drewN | apply Kd.R_drew)); exact (Q_HO206 h0_)) (Kd.R_base ho45) hb) (fun _ h_ => by first | trivial | exact h_ | exact h_.1))
                              clear HB
                              have HO210 := n0_
                              have HB := n1_
                              clear n0_ n1_ hb ho45
                              obtain ⟨Ao46, co46, eo46⟩ := Kd.R_slice HO210.out
                              subst eo46
                              obtain ⟨ado46, fo46, _⟩ := Kd.at_int (Kd.R_reads' HO210.out).2.2 0 (by decide) (by rw [Ny208.out]; simp)
                              cases fo46
                              refine hK.out _ _ ⟨v205, adz_v205, .slice (some ado46) y208.length co46, ado46, m3_, m8_, (by rw [ha.out]; exact putSel_upk 4 hb_ rfl rfl rfl), (by repeat (first | (with_reducible first | exact HB.out | apply below_alloc | apply pw_below_drewN | apply below_drew1) | exact HB.out)), z_HO206, Q_HA_HO206, fun _ => (by (with_reducible repeat (first | apply Kd.R_alloc | apply Kd.R_drewN | apply Kd.R_drew)); exact HO210.out), fun _ => ⟨_, rfl⟩, Q_X3_, fun h0_ => absurd ((hoff 8 (by kernel_rfl)).symm.trans h0_) (by decide)⟩
                            refine steps_cons ?_ ?_
                            · rintro b a w' ⟨v205, adz_v205, v209, adz_v209, m3_, m8_, ha, Q_HB, Q_HO206, Q_HA_HO206, Q_HO210, Q_HA_HO210, Q_X3_, Q_X8_⟩ hb_ hon hoff
                              refine ⟨_, rfl, fun K hK => ?_⟩
                              have e61 : a.tmps[61]? = some (.int .i64 a0) := by rw [ha]; exact (putSel_off rfl).trans rfl
                              replace ha := Aside0.mk ha
                              have HB := Aside0.mk Q_HB
                              refine value_ (w1 := w') (v := .int .i64 ji39) (by rfl) rfl ?_ ?_
                              · go_simp
                                (try simp only [i64_w])
                                try rfl
                              refine hK.out _ _ ⟨v205, adz_v205, v209, adz_v209, m3_, m8_, (by rw [ha.out]; exact putSel_upk 5 hb_ rfl rfl rfl), Q_HB, Q_HO206, Q_HA_HO206, Q_HO210, Q_HA_HO210, Q_X3_, fun h0_ => absurd ((hoff 8 (by kernel_rfl)).symm.trans h0_) (by decide)⟩
                            refine steps_cons ?_ ?_
                            · rintro b a w' ⟨v205, adz_v205, v209, adz_v209, m3_, m8_, ha, Q_HB, Q_HO206, Q_HA_HO206, Q_HO210, Q_HA_HO210, Q_X3_, Q_X8_⟩ hb_ hon hoff
                              refine ⟨_, rfl, fun K hK => ?_⟩
                              have e60 : a.tmps[60]? = some (v209) := by rw [ha]; exact putSel_on (e := (5, 60, v209)) 4 rfl rfl (hon 5 (by kernel_rfl)) rfl
                              have e62 : a.tmps[62]? = some (.int .i64 ji39) := by rw [ha]; exact putSel_on (e := (7, 62, .int .i64 ji39)) 5 rfl rfl (hon 7 (by kernel_rfl)) rfl
                              replace ha := Aside0.mk ha
                              have HB := Aside0.mk Q_HB
                              have HO210 := Aside0.mk (Q_HO210 (hon 5 (by kernel_rfl)))
                              have HA_HO210 := Aside0.mk (Q_HA_HO210 (hon 5 (by kernel_rfl)))
                              obtain ⟨c_, hv_⟩ := HA_HO210.out
                              rw [hv_] at e60
                              refine value_ (w1 := w') (v := .pointer (some (adz_v209.add ((ji39)).toNat))) (by rfl) rfl ?_ ?_
                              · go_simp
                                (try simp only [i64_w])
                                try rfl
                              refine hK.out _ _ ⟨v205, adz_v205, v209, adz_v209, m3_, (.pointer (some (adz_v209.add ((ji39)).toNat))), (by rw [ha.out]; exact putSel_upk 6 hb_ rfl rfl rfl), Q_HB, Q_HO206, Q_HA_HO206, Q_HO210, Q_HA_HO210, Q_X3_, fun _ => rfl⟩
                            refine steps_cons ?_ ?_
                            · rintro b a w' ⟨v205, adz_v205, v209, adz_v209, m3_, m8_, ha, Q_HB, Q_HO206, Q_HA_HO206, Q_HO210, Q_HA_HO210, Q_X3_, Q_X8_⟩ hb_ hon hoff
                              refine ⟨_, rfl, fun K hK => ?_⟩
                              have e63 : a.tmps[63]? = some (m8_) := by rw [ha]; exact putSel_on (e := (8, 63, m8_)) 6 rfl rfl (hon 8 (by kernel_rfl)) rfl
                              rw [Q_X8_ (hon 8 (by kernel_rfl))] at e63
                              replace ha := Aside0.mk ha
                              have HB := Aside0.mk Q_HB
                              have HO210 := Aside0.mk (Q_HO210 (hon 5 (by kernel_rfl)))
                              have HA_HO210 := Aside0.mk (Q_HA_HO210 (hon 5 (by kernel_rfl)))
                              obtain ⟨c_, hv_⟩ := HA_HO210.out
                              have hF_ := HO210.out
                              rw [hv_] at hF_
                              obtain ⟨ad_, ea_, hx_⟩ := Kd.at_int (Kd.R_reads' hF_).2.2 (ji39) (of_eq_true pi211) (of_eq_true qi211)
                              cases ea_
                              refine value_ (w1 := w') (v := .int .u32 (rd y208 (ji39))) (by rfl) rfl ?_ ?_
                              · go_simp
                                (try simp only [i64_w])
                                try rfl
                              refine hK.out _ _ ⟨v205, adz_v205, v209, adz_v209, m3_, m8_, (by rw [ha.out]; exact putSel_upk 7 hb_ rfl rfl rfl), Q_HB, Q_HO206, Q_HA_HO206, Q_HO210, Q_HA_HO210, Q_X3_, Q_X8_⟩
                            refine steps_cons ?_ ?_
                            · rintro b a w' ⟨v205, adz_v205, v209, adz_v209, m3_, m8_, ha, Q_HB, Q_HO206, Q_HA_HO206, Q_HO210, Q_HA_HO210, Q_X3_, Q_X8_⟩ hb_ hon hoff
                              refine ⟨_, rfl, fun K hK => ?_⟩
                              replace ha := Aside0.mk ha
                              have HB := Aside0.mk Q_HB
                              refine value_ (w1 := w') (v := .int .u32 51) (by rfl) rfl ?_ ?_
                              · go_simp
                                (try simp only [i64_w])
                                try rfl
                              refine hK.out _ _ ⟨v205, adz_v205, v209, adz_v209, m3_, m8_, (by rw [ha.out]; exact putSel_upk 8 hb_ rfl rfl rfl), Q_HB, Q_HO206, Q_HA_HO206, Q_HO210, Q_HA_HO210, Q_X3_, Q_X8_⟩
                            refine steps_cons ?_ ?_
                            · rintro b a w' ⟨v205, adz_v205, v209, adz_v209, m3_, m8_, ha, Q_HB, Q_HO206, Q_HA_HO206, Q_HO210, Q_HA_HO210, Q_X3_, Q_X8_⟩ hb_ hon hoff
                              refine ⟨_, rfl, fun K hK => ?_⟩
                              have e59 : a.tmps[59]? = some (.int .u32 (rd y204 (ji39))) := by rw [ha]; exact putSel_on (e := (4, 59, .int .u32 (rd y204 (ji39)))) 3 rfl rfl (hon 4 (by kernel_rfl)) rfl
                              replace ha := Aside0.mk ha
                              have HB := Aside0.mk Q_HB
                              have HO206 := Aside0.mk (Q_HO206 (hon 0 (by kernel_rfl)))
                              have HA_HO206 := Aside0.mk (Q_HA_HO206 (hon 0 (by kernel_rfl)))
                              refine value_ (w1 := w') (v := .int .u32 (rd y204 (ji39))) (by rfl) rfl ?_ ?_
                              · go_simp
                                (try simp only [i64_w])
                                try rfl
                              refine hK.out _ _ ⟨v205, adz_v205, v209, adz_v209, m3_, m8_, (by rw [ha.out]; exact putSel_upk 9 hb_ rfl rfl rfl), Q_HB, Q_HO206, Q_HA_HO206, Q_HO210, Q_HA_HO210, Q_X3_, Q_X8_⟩
                            refine steps_cons ?_ ?_
                            · rintro b a w' ⟨v205, adz_v205, v209, adz_v209, m3_, m8_, ha, Q_HB, Q_HO206, Q_HA_HO206, Q_HO210, Q_HA_HO210, Q_X3_, Q_X8_⟩ hb_ hon hoff
                              refine ⟨_, rfl, fun K hK => ?_⟩
                              have e64 : a.tmps[64]? = some (.int .u32 (rd y208 (ji39))) := by rw [ha]; exact putSel_on (e := (9, 64, .int .u32 (rd y208 (ji39)))) 7 rfl rfl (hon 9 (by kernel_rfl)) rfl
                              replace ha := Aside0.mk ha
                              have HB := Aside0.mk Q_HB
                              have HO206 := Aside0.mk (Q_HO206 (hon 0 (by kernel_rfl)))
                              have HA_HO206 := Aside0.mk (Q_HA_HO206 (hon 0 (by kernel_rfl)))
                              have HO210 := Aside0.mk (Q_HO210 (hon 5 (by kernel_rfl)))
                              have HA_HO210 := Aside0.mk (Q_HA_HO210 (hon 5 (by kernel_rfl)))
                              refine value_ (w1 := w') (v := .int .u32 (rd y208 (ji39))) (by rfl) rfl ?_ ?_
                              · go_simp
                                (try simp only [i64_w])
                                try rfl
                              refine hK.out _ _ ⟨v205, adz_v205, v209, adz_v209, m3_, m8_, (by rw [ha.out]; exact putSel_upk 10 hb_ rfl rfl rfl), Q_HB, Q_HO206, Q_HA_HO206, Q_HO210, Q_HA_HO210, Q_X3_, Q_X8_⟩
                            exact steps_nil
                          rintro b a w50 hall ⟨v205, adz_v205, v209, adz_v209, m3_, m8_, ha, Q_HB, Q_HO206, Q_HA_HO206, Q_HO210, Q_HA_HO210, Q_X3_, Q_X8_⟩
                          clear HB
                          have hb0_ := hall 0 (by kernel_rfl)
                          have hb2_ := hall 2 (by kernel_rfl)
                          have hb3_ := hall 3 (by kernel_rfl)
                          have hb4_ := hall 4 (by kernel_rfl)
                          have hb5_ := hall 5 (by kernel_rfl)
                          have hb7_ := hall 7 (by kernel_rfl)
                          have hb8_ := hall 8 (by kernel_rfl)
                          have hb9_ := hall 9 (by kernel_rfl)
                          have hb10_ := hall 10 (by kernel_rfl)
                          have hb11_ := hall 11 (by kernel_rfl)
                          have hb12_ := hall 12 (by kernel_rfl)
                          subst ha
                          obtain rfl := Q_X3_ hb3_
                          obtain rfl := Q_X8_ hb8_
                          simp only [putSel, hb0_, hb2_, hb3_, hb4_, hb5_, hb7_, hb8_, hb9_, hb10_, hb11_, hb12_, if_true, Act.put, List.setIfInBounds_toArray, List.set_cons_zero, List.set_cons_succ]
                          have HB := Aside0.mk Q_HB
                          clear Q_HB
                          have HO206 := Aside0.mk (Q_HO206 hb0_)
                          clear Q_HO206
                          have HA_HO206 := Aside0.mk (Q_HA_HO206 hb0_)
                          clear Q_HA_HO206
                          have HO210 := Aside0.mk (Q_HO210 hb5_)
                          clear Q_HO210
                          have HA_HO210 := Aside0.mk (Q_HA_HO210 hb5_)
                          clear Q_HA_HO210 hall hb0_ hb2_ hb3_ hb4_ hb5_ hb7_ hb8_ hb9_ hb10_ hb11_ hb12_
                          obtain ⟨co51, eo51⟩ := HA_HO206.out
                          clear HA_HO206
                          subst eo51
                          obtain ⟨co52, eo52⟩ := HA_HO210.out
                          clear HA_HO210
                          subst eo52
                          try go_wp2
                          go_ret3
                          exact ⟨by first | rfl | (simp [errW_none, errW_some] <;> rfl) | (simp only [← hji39]; first | rfl | (simp [errW_none, errW_some] <;> rfl)) | (simp [*, errW_none, errW_some] <;> rfl), by repeat (first | (with_reducible first | exact HB.out | apply below_alloc | apply pw_below_drewN | apply below_drew1) | exact HB.out)⟩
                        · rw [if_neg c42] at H
                          exact absurd H (by simp)
                      · rw [if_neg c41] at H
                        exact absurd H (by simp)
                    · rw [if_neg c40] at H
                      exact absurd H (by simp)
                  · rw [if_neg c38] at H
                    have c38b0 : decide (a0 ≤ 37) = false := decide_eq_false c38
                    clear c38
                    by_cases c53 : a0 ≤ 45
                    · rw [if_pos c53] at H
                      have c53b0 : decide (a0 ≤ 45) = true := decide_eq_true c53
                      clear c53
                      simp only [Option.some.injEq, Prod.mk.injEq] at H
                      obtain ⟨rfl, rfl, rfl⟩ := H
                      go_enter Tryd.func29, Tryd.ntmps29
                      go_wp2
                      go_ret3
                      exact ⟨by first | rfl | (simp [errW_none, errW_some] <;> rfl) | (simp [*, errW_none, errW_some] <;> rfl), by repeat (first | (with_reducible first | exact HB.out | apply below_alloc | apply pw_below_drewN | apply below_drew1) | exact HB.out)⟩
                    · rw [if_neg c53] at H
                      have c53b0 : decide (a0 ≤ 45) = false := decide_eq_false c53
                      clear c53
                      simp only [Option.some.injEq, Prod.mk.injEq] at H
                      obtain ⟨rfl, rfl, rfl⟩ := H
                      go_enter Tryd.func29, Tryd.ntmps29
                      go_wp2
                      go_ret3
                      exact ⟨by first | rfl | (simp [errW_none, errW_some] <;> rfl) | (simp [*, errW_none, errW_some] <;> rfl), by repeat (first | (with_reducible first | exact HB.out | apply below_alloc | apply pw_below_drewN | apply below_drew1) | exact HB.out)⟩
end Go.Proofs.YtmgbidehdnmjkaaDoor.Rv
