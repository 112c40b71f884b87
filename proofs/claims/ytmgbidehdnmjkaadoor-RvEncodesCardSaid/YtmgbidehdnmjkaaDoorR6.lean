/- What Name, awake, own, Kind, Ends answer (its lines began as print.sh's). -/
import Derived.Test.YtmgbidehdnmjkaaDoorNames
import Derived.Test.YtmgbidehdnmjkaaDoorR0
import Derived.Test.YtmgbidehdnmjkaaDoorR1
import Derived.Test.YtmgbidehdnmjkaaDoorR3
import Derived.Test.YtmgbidehdnmjkaaDoorR5
namespace Go.Proofs.YtmgbidehdnmjkaaDoor.Rv
open Go.RowKit Go.Proofs.YtmgbidehdnmjkaaDoorW.PrintWords Go.Proofs.YtmgbidehdnmjkaaDoorW.PrintLast Go.Proofs.YtmgbidehdnmjkaaDoorW.PrintMore
attribute [local go_sem] max2_int min2_int max_two min_two max_three min_three max_four min_four   -- for this text's walks alone
set_option linter.unusedVariables false
set_option linter.unusedSimpArgs false
attribute [local go_sem high] eqA27
/-! ### rv_Name: function 16 -/
def rv_Name.f (a0 : Int) : Option (ByteArray) := some (nameOf a0)
theorem rv_Name.calls (a0 : Int) (r : ByteArray) (w : World) (hT : Lib.TabIs Tryd.prog w "strings.asciiSpace" .u8 Lib.asciiSpaceTab) (h : rv_Name.f a0 = some r) :
    Calls Tryd.prog 16 #[.int .i64 a0] w fun e w' => e = .returned (.string r) ∧ Below w.heap.size w w' := by
  obtain rfl := Option.some.inj h
  exact name_walk a0 w hT
/-! ### tincturelaw5_awake: function 11 -/
def tincturelaw5_awake.f (k : Nat)  : Option (Bool) := (rv_Encode.f k 28 1 2 3 0).bind fun bt172 => ((rv_Decode.f k 19).bind fun bt174 => (if (bt174.1 == 19 && (bt174.2.1 == 0 && (bt174.2.2.1 == 0 && (bt174.2.2.2.1 == 0 && (bt174.2.2.2.2 == 0))))) = true then (if bt172.2 = 0 then ((rv_Decode.f k bt172.1).bind fun bt179 => (if (bt179.1 == 28 && (bt179.2.1 == 1 && (bt179.2.2.1 == 2 && (bt179.2.2.2.1 == 3 && (bt179.2.2.2.2 == 0))))) = true then ((rv_Name.f 28).bind fun t184 => (some (t184.toList == ([97, 100, 100] : List UInt8)))) else (some false))) else (some false)) else (some false)))
theorem tincturelaw5_awake.mono : ∀ k, LeO (tincturelaw5_awake.f k ) (tincturelaw5_awake.f (k + 1) ) := by
  intro  k
  unfold tincturelaw5_awake.f
  repeat' first
      | (with_reducible exact rv_Decode.mono _ _)
      | (with_reducible exact rv_Encode.mono _ _ _ _ _ _)
      | (with_reducible exact LeO.refl _)
      | (with_reducible exact LeO.none _)
      | (with_reducible refine LeO.ite ?_ ?_)
      | (with_reducible refine LeO.bind ?_ (fun _ => ?_))
      | exact rv_Decode.mono _ _
      | exact rv_Encode.mono _ _ _ _ _ _
      | exact LeO.none _
      | refine LeO.ite ?_ ?_
      | refine LeO.bind ?_ (fun _ => ?_)
set_option maxHeartbeats 8000000 in
set_option maxRecDepth 100000 in
theorem tincturelaw5_awake.calls (k : Nat)  (r : Bool) (w : World) (hT : Lib.TabIs Tryd.prog w "strings.asciiSpace" .u8 Lib.asciiSpaceTab) (h : tincturelaw5_awake.f k  = some r) :
    Calls Tryd.prog 11 #[] w fun e w' => e = .returned (.bool r) ∧ Below w.heap.size w w' := by
  have TT := Aside0.mk hT
  clear hT
  have hu27 := Tryd.underlying27
  have HB := Aside0.mk (Below.refl w.heap.size w)
  have H : ((rv_Encode.f k 28 1 2 3 0).bind fun bt172 => ((rv_Decode.f k 19).bind fun bt174 => (if (bt174.1 == 19 && (bt174.2.1 == 0 && (bt174.2.2.1 == 0 && (bt174.2.2.2.1 == 0 && (bt174.2.2.2.2 == 0))))) = true then (if bt172.2 = 0 then ((rv_Decode.f k bt172.1).bind fun bt179 => (if (bt179.1 == 28 && (bt179.2.1 == 1 && (bt179.2.2.1 == 2 && (bt179.2.2.2.1 == 3 && (bt179.2.2.2.2 == 0))))) = true then ((rv_Name.f 28).bind fun t184 => (some (t184.toList == ([97, 100, 100] : List UInt8)))) else (some false))) else (some false)) else (some false)))) = some r := h
  clear h
  replace H := Option.bind_eq_some_iff.mp H
  obtain ⟨⟨t172, t173⟩, A10, H⟩ := H
  replace H : ((rv_Decode.f k 19).bind fun bt174 => (if (bt174.1 == 19 && (bt174.2.1 == 0 && (bt174.2.2.1 == 0 && (bt174.2.2.2.1 == 0 && (bt174.2.2.2.2 == 0))))) = true then (if t173 = 0 then ((rv_Decode.f k t172).bind fun bt179 => (if (bt179.1 == 28 && (bt179.2.1 == 1 && (bt179.2.2.1 == 2 && (bt179.2.2.2.1 == 3 && (bt179.2.2.2.2 == 0))))) = true then ((rv_Name.f 28).bind fun t184 => (some (t184.toList == ([97, 100, 100] : List UInt8)))) else (some false))) else (some false)) else (some false))) = some r := H
  have A1 := Aside0.mk A10
  clear A10
  replace H := Option.bind_eq_some_iff.mp H
  obtain ⟨⟨t174, t175, t176, t177, t178⟩, A20, H⟩ := H
  replace H : (if (t174 == 19 && (t175 == 0 && (t176 == 0 && (t177 == 0 && (t178 == 0))))) = true then (if t173 = 0 then ((rv_Decode.f k t172).bind fun bt179 => (if (bt179.1 == 28 && (bt179.2.1 == 1 && (bt179.2.2.1 == 2 && (bt179.2.2.2.1 == 3 && (bt179.2.2.2.2 == 0))))) = true then ((rv_Name.f 28).bind fun t184 => (some (t184.toList == ([97, 100, 100] : List UInt8)))) else (some false))) else (some false)) else (some false)) = some r := H
  have A2 := Aside0.mk A20
  clear A20
  by_cases c3 : (t174 == 19 && (t175 == 0 && (t176 == 0 && (t177 == 0 && (t178 == 0))))) = true
  · rw [if_pos c3] at H
    have c3b0 : (t174 == 19 && (t175 == 0 && (t176 == 0 && (t177 == 0 && (t178 == 0))))) = true := c3
    (try (have c3b1 : decide (t174 = 19 && (t175 == 0 && (t176 == 0 && (t177 == 0 && (t178 == 0))))) = true := by simpa using c3))
    (try (have c3b2 : (t174 == 19 && (t175 == 0 && (t176 == 0 && (t177 == 0 && (t178 == 0))))) = true := by simpa using c3))
    clear c3
    by_cases c4 : t173 = 0
    · rw [if_pos c4] at H
      have c4b0 : (t173 == 0) = true := beq_iff_eq.mpr c4
      have c4b1 : (t173 != 0) = false := bne_eq_false_iff_eq.mpr c4
      clear c4
      replace H := Option.bind_eq_some_iff.mp H
      obtain ⟨⟨t179, t180, t181, t182, t183⟩, A50, H⟩ := H
      replace H : (if (t179 == 28 && (t180 == 1 && (t181 == 2 && (t182 == 3 && (t183 == 0))))) = true then ((rv_Name.f 28).bind fun t184 => (some (t184.toList == ([97, 100, 100] : List UInt8)))) else (some false)) = some r := H
      have A5 := Aside0.mk A50
      clear A50
      by_cases c6 : (t179 == 28 && (t180 == 1 && (t181 == 2 && (t182 == 3 && (t183 == 0))))) = true
      · rw [if_pos c6] at H
        have c6b0 : (t179 == 28 && (t180 == 1 && (t181 == 2 && (t182 == 3 && (t183 == 0))))) = true := c6
        (try (have c6b1 : decide (t179 = 28 && (t180 == 1 && (t181 == 2 && (t182 == 3 && (t183 == 0))))) = true := by simpa using c6))
        (try (have c6b2 : (t179 == 28 && (t180 == 1 && (t181 == 2 && (t182 == 3 && (t183 == 0))))) = true := by simpa using c6))
        clear c6
        replace H := Option.bind_eq_some_iff.mp H
        obtain ⟨t184, A70, H⟩ := H
        replace H : (some (t184.toList == ([97, 100, 100] : List UInt8))) = some r := H
        have A7 := Aside0.mk A70
        clear A70
        obtain rfl := Option.some.inj H
        go_enter Tryd.func11, Tryd.ntmps11
        go_wp2_with (first | ((with_reducible refine gate_callee (f := 15) rfl ?_); refine goesL_ (some 5) rfl rfl Tryd.func15 (by kernel_rfl) rfl #[.agg #[.int .i64 28, .int .i64 1, .int .i64 2, .int .i64 3, .int .i32 0]] rfl (by (try simp only [List.map_toArray, List.map_cons, List.map_nil]); first | done | rfl | (simp only [List.length_drop, List.length_take]; rfl)) ?_; (with_reducible refine (rv_Encode.calls k 28 1 2 3 0 t172 t173 _ A1.out).mono ?_); rintro e w8 ⟨rfl, hb⟩; refine ⟨_, rfl, ?_⟩; have n0_ := Aside0.mk (below_step (by repeat (first | (with_reducible first | exact HB.out | apply below_alloc | apply pw_below_drewN | apply below_drew1) | exact HB.out)) hb); clear HB; have HB := n0_; clear n0_; (try clear hb); (try clear hb2); (try clear hk); (try clear hi)) | ((with_reducible refine gate_callee (f := 13) rfl ?_); refine goesL_ (some 8) rfl rfl Tryd.func13 (by kernel_rfl) rfl #[.int .u32 19] rfl (by (try simp only [List.map_toArray, List.map_cons, List.map_nil]); first | done | rfl | (simp only [List.length_drop, List.length_take]; rfl)) ?_; (with_reducible refine (rv_Decode.calls k 19 t174 t175 t176 t177 t178 _ A2.out).mono ?_); rintro e w9 ⟨rfl, hb⟩; refine ⟨_, rfl, ?_⟩; have n0_ := Aside0.mk (below_step (by repeat (first | (with_reducible first | exact HB.out | apply below_alloc | apply pw_below_drewN | apply below_drew1) | exact HB.out)) hb); clear HB; have HB := n0_; clear n0_; (try clear hb); (try clear hb2); (try clear hk); (try clear hi)) | (go_at_call 13; (with_reducible refine (rv_Decode.calls k t172 t179 t180 t181 t182 t183 _ A5.out).mono ?_); rintro e w10 ⟨rfl, hb⟩; have n0_ := Aside0.mk (below_step (by repeat (first | (with_reducible first | exact HB.out | apply below_alloc | apply pw_below_drewN | apply below_drew1) | exact HB.out)) hb); clear HB; have HB := n0_; clear n0_; (try clear hb); (try clear hb2); (try clear hk); (try clear hi)) | (go_at_call 16; (with_reducible refine (rv_Name.calls 28 t184 _ (Go.Joins.tab_stays blanks TT.out (by first | exact Below.refl _ _ | (repeat (first | (with_reducible first | exact HB.out | apply below_alloc | apply pw_below_drewN | apply below_drew1) | exact HB.out))) (Nat.le_refl _)) A7.out).mono ?_); rintro e w11 ⟨rfl, hb⟩; have n0_ := Aside0.mk (below_step (by repeat (first | (with_reducible first | exact HB.out | apply below_alloc | apply pw_below_drewN | apply below_drew1) | exact HB.out)) hb); clear HB; have HB := n0_; clear n0_; (try clear hb); (try clear hb2); (try clear hk); (try clear hi)))
        go_ret
        exact ⟨by first | rfl | (simp [errW_none, errW_some] <;> rfl) | (simp [*, errW_none, errW_some] <;> rfl), by repeat (first | (with_reducible first | exact HB.out | apply below_alloc | apply pw_below_drewN | apply below_drew1) | exact HB.out)⟩
      · rw [if_neg c6] at H
        have c6b0 : (t179 == 28 && (t180 == 1 && (t181 == 2 && (t182 == 3 && (t183 == 0))))) = false := by simpa using c6
        (try (have c6b1 : decide (t179 = 28 && (t180 == 1 && (t181 == 2 && (t182 == 3 && (t183 == 0))))) = false := by simpa using c6))
        (try (have c6b2 : (t179 == 28 && (t180 == 1 && (t181 == 2 && (t182 == 3 && (t183 == 0))))) = false := by simpa using c6))
        (try (have c6b3 : ¬ (t179 = 28 && (t180 == 1 && (t181 == 2 && (t182 == 3 && (t183 == 0))))) := by simpa using c6))
        clear c6
        obtain rfl := Option.some.inj H
        go_enter Tryd.func11, Tryd.ntmps11
        go_wp2_with (first | ((with_reducible refine gate_callee (f := 15) rfl ?_); refine goesL_ (some 5) rfl rfl Tryd.func15 (by kernel_rfl) rfl #[.agg #[.int .i64 28, .int .i64 1, .int .i64 2, .int .i64 3, .int .i32 0]] rfl (by (try simp only [List.map_toArray, List.map_cons, List.map_nil]); first | done | rfl | (simp only [List.length_drop, List.length_take]; rfl)) ?_; (with_reducible refine (rv_Encode.calls k 28 1 2 3 0 t172 t173 _ A1.out).mono ?_); rintro e w12 ⟨rfl, hb⟩; refine ⟨_, rfl, ?_⟩; have n0_ := Aside0.mk (below_step (by repeat (first | (with_reducible first | exact HB.out | apply below_alloc | apply pw_below_drewN | apply below_drew1) | exact HB.out)) hb); clear HB; have HB := n0_; clear n0_; (try clear hb); (try clear hb2); (try clear hk); (try clear hi)) | ((with_reducible refine gate_callee (f := 13) rfl ?_); refine goesL_ (some 8) rfl rfl Tryd.func13 (by kernel_rfl) rfl #[.int .u32 19] rfl (by (try simp only [List.map_toArray, List.map_cons, List.map_nil]); first | done | rfl | (simp only [List.length_drop, List.length_take]; rfl)) ?_; (with_reducible refine (rv_Decode.calls k 19 t174 t175 t176 t177 t178 _ A2.out).mono ?_); rintro e w13 ⟨rfl, hb⟩; refine ⟨_, rfl, ?_⟩; have n0_ := Aside0.mk (below_step (by repeat (first | (with_reducible first | exact HB.out | apply below_alloc | apply pw_below_drewN | apply below_drew1) | exact HB.out)) hb); clear HB; have HB := n0_; clear n0_; (try clear hb); (try clear hb2); (try clear hk); (try clear hi)) | (go_at_call 13; (with_reducible refine (rv_Decode.calls k t172 t179 t180 t181 t182 t183 _ A5.out).mono ?_); rintro e w14 ⟨rfl, hb⟩; have n0_ := Aside0.mk (below_step (by repeat (first | (with_reducible first | exact HB.out | apply below_alloc | apply pw_below_drewN | apply below_drew1) | exact HB.out)) hb); clear HB; have HB := n0_; clear n0_; (try clear hb); (try clear hb2); (try clear hk); (try clear hi)))
        go_ret
        exact ⟨by first | rfl | (simp [errW_none, errW_some] <;> rfl) | (simp [*, errW_none, errW_some] <;> rfl), by repeat (first | (with_reducible first | exact HB.out | apply below_alloc | apply pw_below_drewN | apply below_drew1) | exact HB.out)⟩
    · rw [if_neg c4] at H
      have c4b0 : (t173 == 0) = false := beq_eq_false_iff_ne.mpr c4
      have c4b1 : (t173 != 0) = true := bne_iff_ne.mpr c4
      obtain rfl := Option.some.inj H
      go_enter Tryd.func11, Tryd.ntmps11
      go_wp2_with (first | ((with_reducible refine gate_callee (f := 15) rfl ?_); refine goesL_ (some 5) rfl rfl Tryd.func15 (by kernel_rfl) rfl #[.agg #[.int .i64 28, .int .i64 1, .int .i64 2, .int .i64 3, .int .i32 0]] rfl (by (try simp only [List.map_toArray, List.map_cons, List.map_nil]); first | done | rfl | (simp only [List.length_drop, List.length_take]; rfl)) ?_; (with_reducible refine (rv_Encode.calls k 28 1 2 3 0 t172 t173 _ A1.out).mono ?_); rintro e w15 ⟨rfl, hb⟩; refine ⟨_, rfl, ?_⟩; have n0_ := Aside0.mk (below_step (by repeat (first | (with_reducible first | exact HB.out | apply below_alloc | apply pw_below_drewN | apply below_drew1) | exact HB.out)) hb); clear HB; have HB := n0_; clear n0_; (try clear hb); (try clear hb2); (try clear hk); (try clear hi)) | ((with_reducible refine gate_callee (f := 13) rfl ?_); refine goesL_ (some 8) rfl rfl Tryd.func13 (by kernel_rfl) rfl #[.int .u32 19] rfl (by (try simp only [List.map_toArray, List.map_cons, List.map_nil]); first | done | rfl | (simp only [List.length_drop, List.length_take]; rfl)) ?_; (with_reducible refine (rv_Decode.calls k 19 t174 t175 t176 t177 t178 _ A2.out).mono ?_); rintro e w16 ⟨rfl, hb⟩; refine ⟨_, rfl, ?_⟩; have n0_ := Aside0.mk (below_step (by repeat (first | (with_reducible first | exact HB.out | apply below_alloc | apply pw_below_drewN | apply below_drew1) | exact HB.out)) hb); clear HB; have HB := n0_; clear n0_; (try clear hb); (try clear hb2); (try clear hk); (try clear hi)))
      go_ret
      exact ⟨by first | rfl | (simp [errW_none, errW_some] <;> rfl) | (simp [*, errW_none, errW_some] <;> rfl), by repeat (first | (with_reducible first | exact HB.out | apply below_alloc | apply pw_below_drewN | apply below_drew1) | exact HB.out)⟩
  · rw [if_neg c3] at H
    have c3b0 : (t174 == 19 && (t175 == 0 && (t176 == 0 && (t177 == 0 && (t178 == 0))))) = false := by simpa using c3
    (try (have c3b1 : decide (t174 = 19 && (t175 == 0 && (t176 == 0 && (t177 == 0 && (t178 == 0))))) = false := by simpa using c3))
    (try (have c3b2 : (t174 == 19 && (t175 == 0 && (t176 == 0 && (t177 == 0 && (t178 == 0))))) = false := by simpa using c3))
    (try (have c3b3 : ¬ (t174 = 19 && (t175 == 0 && (t176 == 0 && (t177 == 0 && (t178 == 0))))) := by simpa using c3))
    clear c3
    obtain rfl := Option.some.inj H
    go_enter Tryd.func11, Tryd.ntmps11
    go_wp2_with (first | ((with_reducible refine gate_callee (f := 15) rfl ?_); refine goesL_ (some 5) rfl rfl Tryd.func15 (by kernel_rfl) rfl #[.agg #[.int .i64 28, .int .i64 1, .int .i64 2, .int .i64 3, .int .i32 0]] rfl (by (try simp only [List.map_toArray, List.map_cons, List.map_nil]); first | done | rfl | (simp only [List.length_drop, List.length_take]; rfl)) ?_; (with_reducible refine (rv_Encode.calls k 28 1 2 3 0 t172 t173 _ A1.out).mono ?_); rintro e w17 ⟨rfl, hb⟩; refine ⟨_, rfl, ?_⟩; have n0_ := Aside0.mk (below_step (by repeat (first | (with_reducible first | exact HB.out | apply below_alloc | apply pw_below_drewN | apply below_drew1) | exact HB.out)) hb); clear HB; have HB := n0_; clear n0_; (try clear hb); (try clear hb2); (try clear hk); (try clear hi)) | ((with_reducible refine gate_callee (f := 13) rfl ?_); refine goesL_ (some 8) rfl rfl Tryd.func13 (by kernel_rfl) rfl #[.int .u32 19] rfl (by (try simp only [List.map_toArray, List.map_cons, List.map_nil]); first | done | rfl | (simp only [List.length_drop, List.length_take]; rfl)) ?_; (with_reducible refine (rv_Decode.calls k 19 t174 t175 t176 t177 t178 _ A2.out).mono ?_); rintro e w18 ⟨rfl, hb⟩; refine ⟨_, rfl, ?_⟩; have n0_ := Aside0.mk (below_step (by repeat (first | (with_reducible first | exact HB.out | apply below_alloc | apply pw_below_drewN | apply below_drew1) | exact HB.out)) hb); clear HB; have HB := n0_; clear n0_; (try clear hb); (try clear hb2); (try clear hk); (try clear hi)))
    go_ret
    exact ⟨by first | rfl | (simp [errW_none, errW_some] <;> rfl) | (simp [*, errW_none, errW_some] <;> rfl), by repeat (first | (with_reducible first | exact HB.out | apply below_alloc | apply pw_below_drewN | apply below_drew1) | exact HB.out)⟩
/-! ### tincturelaw5_own: function 12 -/
def tincturelaw5_own.f (a0_0 : Int) (a0_1 : Int) (a0_2 : Int) (a0_3 : Int) (a0_4 : Int) : Option (Int × Int × Int × Int × Int) := some (a0_0, a0_1, a0_2, a0_3, a0_4)
set_option maxHeartbeats 8000000 in
set_option maxRecDepth 100000 in
theorem tincturelaw5_own.calls (a0_0 : Int) (a0_1 : Int) (a0_2 : Int) (a0_3 : Int) (a0_4 : Int) (r1 : Int) (r2 : Int) (r3 : Int) (r4 : Int) (r5 : Int) (w : World) (h : tincturelaw5_own.f a0_0 a0_1 a0_2 a0_3 a0_4 = some (r1, r2, r3, r4, r5)) :
    Calls Tryd.prog 12 #[.agg #[.int .i64 a0_0, .int .i64 a0_1, .int .i64 a0_2, .int .i64 a0_3, .int .i32 a0_4]] w fun e w' => e = .returned (.agg #[.int .i64 r1, .int .i64 r2, .int .i64 r3, .int .i64 r4, .int .i32 r5]) ∧ Below w.heap.size w w' := by
  have hu27 := Tryd.underlying27
  have hu25 := Tryd.underlying25
  have HB := Aside0.mk (Below.refl w.heap.size w)
  have H : (some (a0_0, a0_1, a0_2, a0_3, a0_4)) = some (r1, r2, r3, r4, r5) := h
  clear h
  simp only [Option.some.injEq, Prod.mk.injEq] at H
  obtain ⟨rfl, rfl, rfl, rfl, rfl⟩ := H
  go_enter Tryd.func12, Tryd.ntmps12
  go_wp2_with (first | ((with_reducible refine gate_dst (N := 1) rfl ?_); refine box_event ?hg (N := 1) ?hd (cs := #[.int .i64 a0_0, .int .i64 a0_1, .int .i64 a0_2, .int .i64 a0_3, .int .i32 a0_4]) (t := 27) ?hr ?_; (case hd => rfl); (case hg => rfl); (case hr => first | (go_simp; done) | (go_simp; rfl)); intro gb185 hg w2 hbox hb; have n0_ := Aside0.mk (below_step (by repeat (first | (with_reducible first | exact HB.out | apply below_alloc | apply pw_below_drewN | apply below_drew1) | exact HB.out)) hb); have n1_ := Aside0.mk (hbox); have n2_ := Aside0.mk ((by rw [hg]; exact (below_size (by repeat (first | (with_reducible first | exact HB.out | apply below_alloc | apply pw_below_drewN | apply below_drew1) | exact HB.out))) : w.heap.size ≤ gb185)); have n3_ := Aside0.mk ((by rw [hg]; exact (below_size (by repeat (first | (with_reducible first | exact HB.out | apply below_alloc | apply pw_below_drewN | apply below_drew1) | exact HB.out))) : w.heap.size ≤ gb185)); clear HB; have HB := n0_; have BK185 := n1_; have GW185 := n2_; have GE185 := n3_; clear n0_ n1_ n2_ n3_; clear hb hbox hg) | ((with_reducible refine gate_dst (N := 2) rfl ?_); refine box_event ?hg (N := 2) ?hd (cs := #[.int .i64 0, .int .i64 0, .int .i64 0, .int .i64 0, .int .i32 0]) (t := 25) ?hr ?_; (case hd => rfl); (case hg => rfl); (case hr => first | (go_simp; done) | (go_simp; rfl)); intro gb186 hg w3 hbox hb; have n0_ := Aside0.mk (blk_below (g := gb185) (o := .cells #[.int .i64 a0_0, .int .i64 a0_1, .int .i64 a0_2, .int .i64 a0_3, .int .i32 a0_4] 27 (0, 0)) (by (with_reducible repeat (first | refine blk_drewN ?_ _ | refine blk_drew ?_ | refine blk_alloc ?_ _)); exact BK185.out) hb); have n1_ := Aside0.mk (below_step (by repeat (first | (with_reducible first | exact HB.out | apply below_alloc | apply pw_below_drewN | apply below_drew1 | refine below_set ?_ GE185.out) | exact HB.out)) hb); have n2_ := Aside0.mk (hbox); have n3_ := Aside0.mk ((by rw [hg]; exact (below_size (by repeat (first | (with_reducible first | exact HB.out | apply below_alloc | apply pw_below_drewN | apply below_drew1 | refine below_set ?_ GE185.out) | exact HB.out))) : w.heap.size ≤ gb186)); have n4_ := Aside0.mk ((by rw [hg]; exact (below_size (by repeat (first | (with_reducible first | exact HB.out | apply below_alloc | apply pw_below_drewN | apply below_drew1 | refine below_set ?_ GE185.out) | exact HB.out))) : w.heap.size ≤ gb186)); have n5_ := Aside0.mk ((by rw [hg]; exact Nat.ne_of_lt (blk_lt (g := gb185) (o := .cells #[.int .i64 a0_0, .int .i64 a0_1, .int .i64 a0_2, .int .i64 a0_3, .int .i32 a0_4] 27 (0, 0)) (by (with_reducible repeat (first | refine blk_drewN ?_ _ | refine blk_drew ?_ | refine blk_alloc ?_ _)); exact BK185.out)) : gb185 ≠ gb186)); have n6_ := Aside0.mk ((by rw [hg]; exact Nat.ne_of_gt (blk_lt (g := gb185) (o := .cells #[.int .i64 a0_0, .int .i64 a0_1, .int .i64 a0_2, .int .i64 a0_3, .int .i32 a0_4] 27 (0, 0)) (by (with_reducible repeat (first | refine blk_drewN ?_ _ | refine blk_drew ?_ | refine blk_alloc ?_ _)); exact BK185.out)) : gb186 ≠ gb185)); clear BK185; clear HB; have BK185 := n0_; have HB := n1_; have BK186 := n2_; have GW186 := n3_; have GE186 := n4_; have NB185_186 := n5_; have NB186_185 := n6_; clear n0_ n1_ n2_ n3_ n4_ n5_ n6_; clear hb hbox hg; have hnb4 := NB185_186.out; have hnc4 := NB186_185.out; have hcz5_0 : w3.cell? ⟨gb185, 0, none⟩ = some (.int .i64 a0_0) := (blk_cell BK185.out 0).trans rfl; have hcz5_1 : w3.cell? ⟨gb185, 1, none⟩ = some (.int .i64 a0_1) := (blk_cell BK185.out 1).trans rfl; have hcz5_2 : w3.cell? ⟨gb185, 2, none⟩ = some (.int .i64 a0_2) := (blk_cell BK185.out 2).trans rfl; have hcz5_3 : w3.cell? ⟨gb185, 3, none⟩ = some (.int .i64 a0_3) := (blk_cell BK185.out 3).trans rfl; have hcz5_4 : w3.cell? ⟨gb185, 4, none⟩ = some (.int .i32 a0_4) := (blk_cell BK185.out 4).trans rfl; have hfz5_0 := blk_frozen BK185.out 0; have hfz5_1 := blk_frozen BK185.out 1; have hfz5_2 := blk_frozen BK185.out 2; have hfz5_3 := blk_frozen BK185.out 3; have hfz5_4 := blk_frozen BK185.out 4; have hcz6_0 : w3.cell? ⟨gb186, 0, none⟩ = some (.int .i64 0) := (blk_cell BK186.out 0).trans rfl; have hcz6_1 : w3.cell? ⟨gb186, 1, none⟩ = some (.int .i64 0) := (blk_cell BK186.out 1).trans rfl; have hcz6_2 : w3.cell? ⟨gb186, 2, none⟩ = some (.int .i64 0) := (blk_cell BK186.out 2).trans rfl; have hcz6_3 : w3.cell? ⟨gb186, 3, none⟩ = some (.int .i64 0) := (blk_cell BK186.out 3).trans rfl; have hcz6_4 : w3.cell? ⟨gb186, 4, none⟩ = some (.int .i32 0) := (blk_cell BK186.out 4).trans rfl; have hfz6_0 := blk_frozen BK186.out 0; have hfz6_1 := blk_frozen BK186.out 1; have hfz6_2 := blk_frozen BK186.out 2; have hfz6_3 := blk_frozen BK186.out 3; have hfz6_4 := blk_frozen BK186.out 4))
  refine bodyPost_ret (results_cell_row rfl _ _ gb186 25 #[.int .i64 a0_0, .int .i64 a0_1, .int .i64 a0_2, .int .i64 a0_3, .int .i32 a0_4] (0, 0) _ rfl (by (with_reducible repeat (first | refine blk_drewN ?_ _ | refine blk_drew ?_ | refine blk_alloc ?_ _)); refine blk_put (cs := #[.int .i64 a0_0, .int .i64 a0_1, .int .i64 a0_2, .int .i64 a0_3, .int .i32 0]) ?_ 4 _ rfl; (with_reducible repeat (first | refine blk_drewN ?_ _ | refine blk_drew ?_ | refine blk_alloc ?_ _)); refine blk_put (cs := #[.int .i64 a0_0, .int .i64 a0_1, .int .i64 a0_2, .int .i64 0, .int .i32 0]) ?_ 3 _ rfl; (with_reducible repeat (first | refine blk_drewN ?_ _ | refine blk_drew ?_ | refine blk_alloc ?_ _)); refine blk_put (cs := #[.int .i64 a0_0, .int .i64 a0_1, .int .i64 0, .int .i64 0, .int .i32 0]) ?_ 2 _ rfl; (with_reducible repeat (first | refine blk_drewN ?_ _ | refine blk_drew ?_ | refine blk_alloc ?_ _)); refine blk_put (cs := #[.int .i64 a0_0, .int .i64 0, .int .i64 0, .int .i64 0, .int .i32 0]) ?_ 1 _ rfl; (with_reducible repeat (first | refine blk_drewN ?_ _ | refine blk_drew ?_ | refine blk_alloc ?_ _)); refine blk_put (cs := #[.int .i64 0, .int .i64 0, .int .i64 0, .int .i64 0, .int .i32 0]) ?_ 0 _ rfl; (with_reducible repeat (first | refine blk_drewN ?_ _ | refine blk_drew ?_ | refine blk_alloc ?_ _)); exact BK186.out) Tryd.underlying25 rfl (by kernel_rfl)) rfl ?_
  exact ⟨by first | rfl | (simp [errW_none, errW_some] <;> rfl) | (simp [*, errW_none, errW_some] <;> rfl), by repeat (first | (with_reducible first | exact HB.out | apply below_alloc | apply pw_below_drewN | apply below_drew1 | refine below_set ?_ GE185.out | refine below_set ?_ GE186.out) | exact HB.out)⟩
/-! ### rv_Kind: function 17 -/
def kindL : List Int := [0, 3, 4, 5, 8, 9, 2, 6, 7, 0, 1, 2, 3, 4, 5, 6, 7, 8, 9, 10, 11, 12, 13, 14, 15, 16, 17]
def rv_Kind.f (a0 : Int) : Option (Int × Bool) := some (if 19 ≤ a0 ∧ a0 ≤ 45 then (kindL.getD (a0.toNat - 19) 0, true) else (0, false))
set_option maxRecDepth 100000 in
set_option maxHeartbeats 4000000 in
theorem kind_19 (w : World) : Calls Tryd.prog 17 #[.int .i64 19] w fun e w' => e = .returned (.tuple #[.int .i64 0, .bool true]) ∧ Drawn0 w w' := by
  have hk : IntKind.i64.wrap (0 : Int) = 0 := by decide
  have hi0 : ∀ w : World, (Instr.index 60 (.agg #[.int .i64 0, .int .i64 3, .int .i64 4, .int .i64 5, .int .i64 8, .int .i64 9, .int .i64 2, .int .i64 6, .int .i64 7]) (.int .i64 0)).run Tryd.prog w = .ok (.int .i64 0) w := fun _ => by kernel_rfl
  go_enter Tryd.func17, Tryd.ntmps17
  go_wp2
  (try (go_quiet (fail); go_wp2))
  go_ret2
  exact ⟨rfl, by repeat (first | exact Drawn0.refl _ | exact ⟨⟨_, rfl⟩⟩ | apply Drawn0.step)⟩
set_option maxRecDepth 100000 in
set_option maxHeartbeats 4000000 in
theorem kind_20 (w : World) : Calls Tryd.prog 17 #[.int .i64 20] w fun e w' => e = .returned (.tuple #[.int .i64 3, .bool true]) ∧ Drawn0 w w' := by
  have hk : IntKind.i64.wrap (1 : Int) = 1 := by decide
  have hi0 : ∀ w : World, (Instr.index 60 (.agg #[.int .i64 0, .int .i64 3, .int .i64 4, .int .i64 5, .int .i64 8, .int .i64 9, .int .i64 2, .int .i64 6, .int .i64 7]) (.int .i64 1)).run Tryd.prog w = .ok (.int .i64 3) w := fun _ => by kernel_rfl
  go_enter Tryd.func17, Tryd.ntmps17
  go_wp2
  (try (go_quiet (fail); go_wp2))
  go_ret2
  exact ⟨rfl, by repeat (first | exact Drawn0.refl _ | exact ⟨⟨_, rfl⟩⟩ | apply Drawn0.step)⟩
set_option maxRecDepth 100000 in
set_option maxHeartbeats 4000000 in
theorem kind_21 (w : World) : Calls Tryd.prog 17 #[.int .i64 21] w fun e w' => e = .returned (.tuple #[.int .i64 4, .bool true]) ∧ Drawn0 w w' := by
  have hk : IntKind.i64.wrap (2 : Int) = 2 := by decide
  have hi0 : ∀ w : World, (Instr.index 60 (.agg #[.int .i64 0, .int .i64 3, .int .i64 4, .int .i64 5, .int .i64 8, .int .i64 9, .int .i64 2, .int .i64 6, .int .i64 7]) (.int .i64 2)).run Tryd.prog w = .ok (.int .i64 4) w := fun _ => by kernel_rfl
  go_enter Tryd.func17, Tryd.ntmps17
  go_wp2
  (try (go_quiet (fail); go_wp2))
  go_ret2
  exact ⟨rfl, by repeat (first | exact Drawn0.refl _ | exact ⟨⟨_, rfl⟩⟩ | apply Drawn0.step)⟩
set_option maxRecDepth 100000 in
set_option maxHeartbeats 4000000 in
theorem kind_22 (w : World) : Calls Tryd.prog 17 #[.int .i64 22] w fun e w' => e = .returned (.tuple #[.int .i64 5, .bool true]) ∧ Drawn0 w w' := by
  have hk : IntKind.i64.wrap (3 : Int) = 3 := by decide
  have hi0 : ∀ w : World, (Instr.index 60 (.agg #[.int .i64 0, .int .i64 3, .int .i64 4, .int .i64 5, .int .i64 8, .int .i64 9, .int .i64 2, .int .i64 6, .int .i64 7]) (.int .i64 3)).run Tryd.prog w = .ok (.int .i64 5) w := fun _ => by kernel_rfl
  go_enter Tryd.func17, Tryd.ntmps17
  go_wp2
  (try (go_quiet (fail); go_wp2))
  go_ret2
  exact ⟨rfl, by repeat (first | exact Drawn0.refl _ | exact ⟨⟨_, rfl⟩⟩ | apply Drawn0.step)⟩
set_option maxRecDepth 100000 in
set_option maxHeartbeats 4000000 in
theorem kind_23 (w : World) : Calls Tryd.prog 17 #[.int .i64 23] w fun e w' => e = .returned (.tuple #[.int .i64 8, .bool true]) ∧ Drawn0 w w' := by
  have hk : IntKind.i64.wrap (4 : Int) = 4 := by decide
  have hi0 : ∀ w : World, (Instr.index 60 (.agg #[.int .i64 0, .int .i64 3, .int .i64 4, .int .i64 5, .int .i64 8, .int .i64 9, .int .i64 2, .int .i64 6, .int .i64 7]) (.int .i64 4)).run Tryd.prog w = .ok (.int .i64 8) w := fun _ => by kernel_rfl
  go_enter Tryd.func17, Tryd.ntmps17
  go_wp2
  (try (go_quiet (fail); go_wp2))
  go_ret2
  exact ⟨rfl, by repeat (first | exact Drawn0.refl _ | exact ⟨⟨_, rfl⟩⟩ | apply Drawn0.step)⟩
set_option maxRecDepth 100000 in
set_option maxHeartbeats 4000000 in
theorem kind_24 (w : World) : Calls Tryd.prog 17 #[.int .i64 24] w fun e w' => e = .returned (.tuple #[.int .i64 9, .bool true]) ∧ Drawn0 w w' := by
  have hk : IntKind.i64.wrap (5 : Int) = 5 := by decide
  have hi0 : ∀ w : World, (Instr.index 60 (.agg #[.int .i64 0, .int .i64 3, .int .i64 4, .int .i64 5, .int .i64 8, .int .i64 9, .int .i64 2, .int .i64 6, .int .i64 7]) (.int .i64 5)).run Tryd.prog w = .ok (.int .i64 9) w := fun _ => by kernel_rfl
  go_enter Tryd.func17, Tryd.ntmps17
  go_wp2
  (try (go_quiet (fail); go_wp2))
  go_ret2
  exact ⟨rfl, by repeat (first | exact Drawn0.refl _ | exact ⟨⟨_, rfl⟩⟩ | apply Drawn0.step)⟩
set_option maxRecDepth 100000 in
set_option maxHeartbeats 4000000 in
theorem kind_25 (w : World) : Calls Tryd.prog 17 #[.int .i64 25] w fun e w' => e = .returned (.tuple #[.int .i64 2, .bool true]) ∧ Drawn0 w w' := by
  have hk : IntKind.i64.wrap (6 : Int) = 6 := by decide
  have hi0 : ∀ w : World, (Instr.index 60 (.agg #[.int .i64 0, .int .i64 3, .int .i64 4, .int .i64 5, .int .i64 8, .int .i64 9, .int .i64 2, .int .i64 6, .int .i64 7]) (.int .i64 6)).run Tryd.prog w = .ok (.int .i64 2) w := fun _ => by kernel_rfl
  go_enter Tryd.func17, Tryd.ntmps17
  go_wp2
  (try (go_quiet (fail); go_wp2))
  go_ret2
  exact ⟨rfl, by repeat (first | exact Drawn0.refl _ | exact ⟨⟨_, rfl⟩⟩ | apply Drawn0.step)⟩
set_option maxRecDepth 100000 in
set_option maxHeartbeats 4000000 in
theorem kind_26 (w : World) : Calls Tryd.prog 17 #[.int .i64 26] w fun e w' => e = .returned (.tuple #[.int .i64 6, .bool true]) ∧ Drawn0 w w' := by
  have hk : IntKind.i64.wrap (7 : Int) = 7 := by decide
  have hi0 : ∀ w : World, (Instr.index 60 (.agg #[.int .i64 0, .int .i64 3, .int .i64 4, .int .i64 5, .int .i64 8, .int .i64 9, .int .i64 2, .int .i64 6, .int .i64 7]) (.int .i64 7)).run Tryd.prog w = .ok (.int .i64 6) w := fun _ => by kernel_rfl
  go_enter Tryd.func17, Tryd.ntmps17
  go_wp2
  (try (go_quiet (fail); go_wp2))
  go_ret2
  exact ⟨rfl, by repeat (first | exact Drawn0.refl _ | exact ⟨⟨_, rfl⟩⟩ | apply Drawn0.step)⟩
set_option maxRecDepth 100000 in
set_option maxHeartbeats 4000000 in
theorem kind_27 (w : World) : Calls Tryd.prog 17 #[.int .i64 27] w fun e w' => e = .returned (.tuple #[.int .i64 7, .bool true]) ∧ Drawn0 w w' := by
  have hk : IntKind.i64.wrap (8 : Int) = 8 := by decide
  have hi0 : ∀ w : World, (Instr.index 60 (.agg #[.int .i64 0, .int .i64 3, .int .i64 4, .int .i64 5, .int .i64 8, .int .i64 9, .int .i64 2, .int .i64 6, .int .i64 7]) (.int .i64 8)).run Tryd.prog w = .ok (.int .i64 7) w := fun _ => by kernel_rfl
  go_enter Tryd.func17, Tryd.ntmps17
  go_wp2
  (try (go_quiet (fail); go_wp2))
  go_ret2
  exact ⟨rfl, by repeat (first | exact Drawn0.refl _ | exact ⟨⟨_, rfl⟩⟩ | apply Drawn0.step)⟩
set_option maxRecDepth 100000 in
set_option maxHeartbeats 4000000 in
theorem kind_28 (w : World) : Calls Tryd.prog 17 #[.int .i64 28] w fun e w' => e = .returned (.tuple #[.int .i64 0, .bool true]) ∧ Drawn0 w w' := by
  have hk : IntKind.i64.wrap (0 : Int) = 0 := by decide
  have hi0 : ∀ w : World, (Instr.index 61 (.agg #[.int .i64 0, .int .i64 1, .int .i64 2, .int .i64 3, .int .i64 4, .int .i64 5, .int .i64 6, .int .i64 7, .int .i64 8, .int .i64 9]) (.int .i64 0)).run Tryd.prog w = .ok (.int .i64 0) w := fun _ => by kernel_rfl
  go_enter Tryd.func17, Tryd.ntmps17
  go_wp2
  (try (go_quiet (fail); go_wp2))
  go_ret2
  exact ⟨rfl, by repeat (first | exact Drawn0.refl _ | exact ⟨⟨_, rfl⟩⟩ | apply Drawn0.step)⟩
set_option maxRecDepth 100000 in
set_option maxHeartbeats 4000000 in
theorem kind_29 (w : World) : Calls Tryd.prog 17 #[.int .i64 29] w fun e w' => e = .returned (.tuple #[.int .i64 1, .bool true]) ∧ Drawn0 w w' := by
  have hk : IntKind.i64.wrap (1 : Int) = 1 := by decide
  have hi0 : ∀ w : World, (Instr.index 61 (.agg #[.int .i64 0, .int .i64 1, .int .i64 2, .int .i64 3, .int .i64 4, .int .i64 5, .int .i64 6, .int .i64 7, .int .i64 8, .int .i64 9]) (.int .i64 1)).run Tryd.prog w = .ok (.int .i64 1) w := fun _ => by kernel_rfl
  go_enter Tryd.func17, Tryd.ntmps17
  go_wp2
  (try (go_quiet (fail); go_wp2))
  go_ret2
  exact ⟨rfl, by repeat (first | exact Drawn0.refl _ | exact ⟨⟨_, rfl⟩⟩ | apply Drawn0.step)⟩
set_option maxRecDepth 100000 in
set_option maxHeartbeats 4000000 in
theorem kind_30 (w : World) : Calls Tryd.prog 17 #[.int .i64 30] w fun e w' => e = .returned (.tuple #[.int .i64 2, .bool true]) ∧ Drawn0 w w' := by
  have hk : IntKind.i64.wrap (2 : Int) = 2 := by decide
  have hi0 : ∀ w : World, (Instr.index 61 (.agg #[.int .i64 0, .int .i64 1, .int .i64 2, .int .i64 3, .int .i64 4, .int .i64 5, .int .i64 6, .int .i64 7, .int .i64 8, .int .i64 9]) (.int .i64 2)).run Tryd.prog w = .ok (.int .i64 2) w := fun _ => by kernel_rfl
  go_enter Tryd.func17, Tryd.ntmps17
  go_wp2
  (try (go_quiet (fail); go_wp2))
  go_ret2
  exact ⟨rfl, by repeat (first | exact Drawn0.refl _ | exact ⟨⟨_, rfl⟩⟩ | apply Drawn0.step)⟩
set_option maxRecDepth 100000 in
set_option maxHeartbeats 4000000 in
theorem kind_31 (w : World) : Calls Tryd.prog 17 #[.int .i64 31] w fun e w' => e = .returned (.tuple #[.int .i64 3, .bool true]) ∧ Drawn0 w w' := by
  have hk : IntKind.i64.wrap (3 : Int) = 3 := by decide
  have hi0 : ∀ w : World, (Instr.index 61 (.agg #[.int .i64 0, .int .i64 1, .int .i64 2, .int .i64 3, .int .i64 4, .int .i64 5, .int .i64 6, .int .i64 7, .int .i64 8, .int .i64 9]) (.int .i64 3)).run Tryd.prog w = .ok (.int .i64 3) w := fun _ => by kernel_rfl
  go_enter Tryd.func17, Tryd.ntmps17
  go_wp2
  (try (go_quiet (fail); go_wp2))
  go_ret2
  exact ⟨rfl, by repeat (first | exact Drawn0.refl _ | exact ⟨⟨_, rfl⟩⟩ | apply Drawn0.step)⟩
set_option maxRecDepth 100000 in
set_option maxHeartbeats 4000000 in
theorem kind_32 (w : World) : Calls Tryd.prog 17 #[.int .i64 32] w fun e w' => e = .returned (.tuple #[.int .i64 4, .bool true]) ∧ Drawn0 w w' := by
  have hk : IntKind.i64.wrap (4 : Int) = 4 := by decide
  have hi0 : ∀ w : World, (Instr.index 61 (.agg #[.int .i64 0, .int .i64 1, .int .i64 2, .int .i64 3, .int .i64 4, .int .i64 5, .int .i64 6, .int .i64 7, .int .i64 8, .int .i64 9]) (.int .i64 4)).run Tryd.prog w = .ok (.int .i64 4) w := fun _ => by kernel_rfl
  go_enter Tryd.func17, Tryd.ntmps17
  go_wp2
  (try (go_quiet (fail); go_wp2))
  go_ret2
  exact ⟨rfl, by repeat (first | exact Drawn0.refl _ | exact ⟨⟨_, rfl⟩⟩ | apply Drawn0.step)⟩
set_option maxRecDepth 100000 in
set_option maxHeartbeats 4000000 in
theorem kind_33 (w : World) : Calls Tryd.prog 17 #[.int .i64 33] w fun e w' => e = .returned (.tuple #[.int .i64 5, .bool true]) ∧ Drawn0 w w' := by
  have hk : IntKind.i64.wrap (5 : Int) = 5 := by decide
  have hi0 : ∀ w : World, (Instr.index 61 (.agg #[.int .i64 0, .int .i64 1, .int .i64 2, .int .i64 3, .int .i64 4, .int .i64 5, .int .i64 6, .int .i64 7, .int .i64 8, .int .i64 9]) (.int .i64 5)).run Tryd.prog w = .ok (.int .i64 5) w := fun _ => by kernel_rfl
  go_enter Tryd.func17, Tryd.ntmps17
  go_wp2
  (try (go_quiet (fail); go_wp2))
  go_ret2
  exact ⟨rfl, by repeat (first | exact Drawn0.refl _ | exact ⟨⟨_, rfl⟩⟩ | apply Drawn0.step)⟩
set_option maxRecDepth 100000 in
set_option maxHeartbeats 4000000 in
theorem kind_34 (w : World) : Calls Tryd.prog 17 #[.int .i64 34] w fun e w' => e = .returned (.tuple #[.int .i64 6, .bool true]) ∧ Drawn0 w w' := by
  have hk : IntKind.i64.wrap (6 : Int) = 6 := by decide
  have hi0 : ∀ w : World, (Instr.index 61 (.agg #[.int .i64 0, .int .i64 1, .int .i64 2, .int .i64 3, .int .i64 4, .int .i64 5, .int .i64 6, .int .i64 7, .int .i64 8, .int .i64 9]) (.int .i64 6)).run Tryd.prog w = .ok (.int .i64 6) w := fun _ => by kernel_rfl
  go_enter Tryd.func17, Tryd.ntmps17
  go_wp2
  (try (go_quiet (fail); go_wp2))
  go_ret2
  exact ⟨rfl, by repeat (first | exact Drawn0.refl _ | exact ⟨⟨_, rfl⟩⟩ | apply Drawn0.step)⟩
set_option maxRecDepth 100000 in
set_option maxHeartbeats 4000000 in
theorem kind_35 (w : World) : Calls Tryd.prog 17 #[.int .i64 35] w fun e w' => e = .returned (.tuple #[.int .i64 7, .bool true]) ∧ Drawn0 w w' := by
  have hk : IntKind.i64.wrap (7 : Int) = 7 := by decide
  have hi0 : ∀ w : World, (Instr.index 61 (.agg #[.int .i64 0, .int .i64 1, .int .i64 2, .int .i64 3, .int .i64 4, .int .i64 5, .int .i64 6, .int .i64 7, .int .i64 8, .int .i64 9]) (.int .i64 7)).run Tryd.prog w = .ok (.int .i64 7) w := fun _ => by kernel_rfl
  go_enter Tryd.func17, Tryd.ntmps17
  go_wp2
  (try (go_quiet (fail); go_wp2))
  go_ret2
  exact ⟨rfl, by repeat (first | exact Drawn0.refl _ | exact ⟨⟨_, rfl⟩⟩ | apply Drawn0.step)⟩
set_option maxRecDepth 100000 in
set_option maxHeartbeats 4000000 in
theorem kind_36 (w : World) : Calls Tryd.prog 17 #[.int .i64 36] w fun e w' => e = .returned (.tuple #[.int .i64 8, .bool true]) ∧ Drawn0 w w' := by
  have hk : IntKind.i64.wrap (8 : Int) = 8 := by decide
  have hi0 : ∀ w : World, (Instr.index 61 (.agg #[.int .i64 0, .int .i64 1, .int .i64 2, .int .i64 3, .int .i64 4, .int .i64 5, .int .i64 6, .int .i64 7, .int .i64 8, .int .i64 9]) (.int .i64 8)).run Tryd.prog w = .ok (.int .i64 8) w := fun _ => by kernel_rfl
  go_enter Tryd.func17, Tryd.ntmps17
  go_wp2
  (try (go_quiet (fail); go_wp2))
  go_ret2
  exact ⟨rfl, by repeat (first | exact Drawn0.refl _ | exact ⟨⟨_, rfl⟩⟩ | apply Drawn0.step)⟩
set_option maxRecDepth 100000 in
set_option maxHeartbeats 4000000 in
theorem kind_37 (w : World) : Calls Tryd.prog 17 #[.int .i64 37] w fun e w' => e = .returned (.tuple #[.int .i64 9, .bool true]) ∧ Drawn0 w w' := by
  have hk : IntKind.i64.wrap (9 : Int) = 9 := by decide
  have hi0 : ∀ w : World, (Instr.index 61 (.agg #[.int .i64 0, .int .i64 1, .int .i64 2, .int .i64 3, .int .i64 4, .int .i64 5, .int .i64 6, .int .i64 7, .int .i64 8, .int .i64 9]) (.int .i64 9)).run Tryd.prog w = .ok (.int .i64 9) w := fun _ => by kernel_rfl
  go_enter Tryd.func17, Tryd.ntmps17
  go_wp2
  (try (go_quiet (fail); go_wp2))
  go_ret2
  exact ⟨rfl, by repeat (first | exact Drawn0.refl _ | exact ⟨⟨_, rfl⟩⟩ | apply Drawn0.step)⟩
set_option maxRecDepth 100000 in
set_option maxHeartbeats 4000000 in
theorem kind_38 (w : World) : Calls Tryd.prog 17 #[.int .i64 38] w fun e w' => e = .returned (.tuple #[.int .i64 10, .bool true]) ∧ Drawn0 w w' := by
  go_enter Tryd.func17, Tryd.ntmps17
  go_wp2
  go_ret2
  exact ⟨rfl, by repeat (first | exact Drawn0.refl _ | exact ⟨⟨_, rfl⟩⟩ | apply Drawn0.step)⟩
set_option maxRecDepth 100000 in
set_option maxHeartbeats 4000000 in
theorem kind_39 (w : World) : Calls Tryd.prog 17 #[.int .i64 39] w fun e w' => e = .returned (.tuple #[.int .i64 11, .bool true]) ∧ Drawn0 w w' := by
  go_enter Tryd.func17, Tryd.ntmps17
  go_wp2
  go_ret2
  exact ⟨rfl, by repeat (first | exact Drawn0.refl _ | exact ⟨⟨_, rfl⟩⟩ | apply Drawn0.step)⟩
set_option maxRecDepth 100000 in
set_option maxHeartbeats 4000000 in
theorem kind_40 (w : World) : Calls Tryd.prog 17 #[.int .i64 40] w fun e w' => e = .returned (.tuple #[.int .i64 12, .bool true]) ∧ Drawn0 w w' := by
  go_enter Tryd.func17, Tryd.ntmps17
  go_wp2
  go_ret2
  exact ⟨rfl, by repeat (first | exact Drawn0.refl _ | exact ⟨⟨_, rfl⟩⟩ | apply Drawn0.step)⟩
set_option maxRecDepth 100000 in
set_option maxHeartbeats 4000000 in
theorem kind_41 (w : World) : Calls Tryd.prog 17 #[.int .i64 41] w fun e w' => e = .returned (.tuple #[.int .i64 13, .bool true]) ∧ Drawn0 w w' := by
  go_enter Tryd.func17, Tryd.ntmps17
  go_wp2
  go_ret2
  exact ⟨rfl, by repeat (first | exact Drawn0.refl _ | exact ⟨⟨_, rfl⟩⟩ | apply Drawn0.step)⟩
set_option maxRecDepth 100000 in
set_option maxHeartbeats 4000000 in
theorem kind_42 (w : World) : Calls Tryd.prog 17 #[.int .i64 42] w fun e w' => e = .returned (.tuple #[.int .i64 14, .bool true]) ∧ Drawn0 w w' := by
  go_enter Tryd.func17, Tryd.ntmps17
  go_wp2
  go_ret2
  exact ⟨rfl, by repeat (first | exact Drawn0.refl _ | exact ⟨⟨_, rfl⟩⟩ | apply Drawn0.step)⟩
set_option maxRecDepth 100000 in
set_option maxHeartbeats 4000000 in
theorem kind_43 (w : World) : Calls Tryd.prog 17 #[.int .i64 43] w fun e w' => e = .returned (.tuple #[.int .i64 15, .bool true]) ∧ Drawn0 w w' := by
  go_enter Tryd.func17, Tryd.ntmps17
  go_wp2
  go_ret2
  exact ⟨rfl, by repeat (first | exact Drawn0.refl _ | exact ⟨⟨_, rfl⟩⟩ | apply Drawn0.step)⟩
set_option maxRecDepth 100000 in
set_option maxHeartbeats 4000000 in
theorem kind_44 (w : World) : Calls Tryd.prog 17 #[.int .i64 44] w fun e w' => e = .returned (.tuple #[.int .i64 16, .bool true]) ∧ Drawn0 w w' := by
  go_enter Tryd.func17, Tryd.ntmps17
  go_wp2
  go_ret2
  exact ⟨rfl, by repeat (first | exact Drawn0.refl _ | exact ⟨⟨_, rfl⟩⟩ | apply Drawn0.step)⟩
set_option maxRecDepth 100000 in
set_option maxHeartbeats 4000000 in
theorem kind_45 (w : World) : Calls Tryd.prog 17 #[.int .i64 45] w fun e w' => e = .returned (.tuple #[.int .i64 17, .bool true]) ∧ Drawn0 w w' := by
  go_enter Tryd.func17, Tryd.ntmps17
  go_wp2
  go_ret2
  exact ⟨rfl, by repeat (first | exact Drawn0.refl _ | exact ⟨⟨_, rfl⟩⟩ | apply Drawn0.step)⟩
set_option maxRecDepth 100000 in
set_option maxHeartbeats 4000000 in
theorem kind_low (a0 : Int) (w : World) (h : a0 < 19) : Calls Tryd.prog 17 #[.int .i64 a0] w fun e w' => e = .returned (.tuple #[.int .i64 0, .bool false]) ∧ Drawn0 w w' := by
  have d0 : decide (19 ≤ a0) = false := decide_eq_false (by omega)
  have d1 : decide (28 ≤ a0) = false := decide_eq_false (by omega)
  have d2 : decide (38 ≤ a0) = false := decide_eq_false (by omega)
  go_enter Tryd.func17, Tryd.ntmps17
  go_wp2
  go_ret2
  exact ⟨rfl, by repeat (first | exact Drawn0.refl _ | apply Drawn0.step)⟩
set_option maxRecDepth 100000 in
set_option maxHeartbeats 4000000 in
theorem kind_high (a0 : Int) (w : World) (h : 45 < a0) : Calls Tryd.prog 17 #[.int .i64 a0] w fun e w' => e = .returned (.tuple #[.int .i64 0, .bool false]) ∧ Drawn0 w w' := by
  have d0 : decide (19 ≤ a0) = true := decide_eq_true (by omega)
  have d1 : decide (28 ≤ a0) = true := decide_eq_true (by omega)
  have d2 : decide (38 ≤ a0) = true := decide_eq_true (by omega)
  have d3 : decide (a0 ≤ 27) = false := decide_eq_false (by omega)
  have d4 : decide (a0 ≤ 37) = false := decide_eq_false (by omega)
  have d5 : decide (a0 ≤ 45) = false := decide_eq_false (by omega)
  go_enter Tryd.func17, Tryd.ntmps17
  go_wp2
  go_ret2
  exact ⟨rfl, by repeat (first | exact Drawn0.refl _ | apply Drawn0.step)⟩
theorem rv_Kind.calls (a0 : Int) (r1 : Int) (r2 : Bool) (w : World) (h : rv_Kind.f a0 = some (r1, r2)) :
    Calls Tryd.prog 17 #[.int .i64 a0] w fun e w' => e = .returned (.tuple #[.int .i64 r1, .bool r2]) ∧ Drawn0 w w' := by
  unfold rv_Kind.f at h
  have h := Option.some.inj h
  split at h
  · rename_i hb
    obtain ⟨h0, h1⟩ := hb
    have hc : a0 = 19 ∨ a0 = 20 ∨ a0 = 21 ∨ a0 = 22 ∨ a0 = 23 ∨ a0 = 24 ∨ a0 = 25 ∨ a0 = 26 ∨ a0 = 27 ∨ a0 = 28 ∨ a0 = 29 ∨ a0 = 30 ∨ a0 = 31 ∨ a0 = 32 ∨ a0 = 33 ∨ a0 = 34 ∨ a0 = 35 ∨ a0 = 36 ∨ a0 = 37 ∨ a0 = 38 ∨ a0 = 39 ∨ a0 = 40 ∨ a0 = 41 ∨ a0 = 42 ∨ a0 = 43 ∨ a0 = 44 ∨ a0 = 45 := by omega
    clear h0 h1
    rcases hc with rfl | rfl | rfl | rfl | rfl | rfl | rfl | rfl | rfl | rfl | rfl | rfl | rfl | rfl | rfl | rfl | rfl | rfl | rfl | rfl | rfl | rfl | rfl | rfl | rfl | rfl | rfl
    · obtain ⟨rfl, rfl⟩ : r1 = 0 ∧ r2 = true := by simp [kindL] at h; exact ⟨by omega, by first | exact h.2.symm | exact h.2 | rfl⟩
      exact kind_19 w
    · obtain ⟨rfl, rfl⟩ : r1 = 3 ∧ r2 = true := by simp [kindL] at h; exact ⟨by omega, by first | exact h.2.symm | exact h.2 | rfl⟩
      exact kind_20 w
    · obtain ⟨rfl, rfl⟩ : r1 = 4 ∧ r2 = true := by simp [kindL] at h; exact ⟨by omega, by first | exact h.2.symm | exact h.2 | rfl⟩
      exact kind_21 w
    · obtain ⟨rfl, rfl⟩ : r1 = 5 ∧ r2 = true := by simp [kindL] at h; exact ⟨by omega, by first | exact h.2.symm | exact h.2 | rfl⟩
      exact kind_22 w
    · obtain ⟨rfl, rfl⟩ : r1 = 8 ∧ r2 = true := by simp [kindL] at h; exact ⟨by omega, by first | exact h.2.symm | exact h.2 | rfl⟩
      exact kind_23 w
    · obtain ⟨rfl, rfl⟩ : r1 = 9 ∧ r2 = true := by simp [kindL] at h; exact ⟨by omega, by first | exact h.2.symm | exact h.2 | rfl⟩
      exact kind_24 w
    · obtain ⟨rfl, rfl⟩ : r1 = 2 ∧ r2 = true := by simp [kindL] at h; exact ⟨by omega, by first | exact h.2.symm | exact h.2 | rfl⟩
      exact kind_25 w
    · obtain ⟨rfl, rfl⟩ : r1 = 6 ∧ r2 = true := by simp [kindL] at h; exact ⟨by omega, by first | exact h.2.symm | exact h.2 | rfl⟩
      exact kind_26 w
    · obtain ⟨rfl, rfl⟩ : r1 = 7 ∧ r2 = true := by simp [kindL] at h; exact ⟨by omega, by first | exact h.2.symm | exact h.2 | rfl⟩
      exact kind_27 w
    · obtain ⟨rfl, rfl⟩ : r1 = 0 ∧ r2 = true := by simp [kindL] at h; exact ⟨by omega, by first | exact h.2.symm | exact h.2 | rfl⟩
      exact kind_28 w
    · obtain ⟨rfl, rfl⟩ : r1 = 1 ∧ r2 = true := by simp [kindL] at h; exact ⟨by omega, by first | exact h.2.symm | exact h.2 | rfl⟩
      exact kind_29 w
    · obtain ⟨rfl, rfl⟩ : r1 = 2 ∧ r2 = true := by simp [kindL] at h; exact ⟨by omega, by first | exact h.2.symm | exact h.2 | rfl⟩
      exact kind_30 w
    · obtain ⟨rfl, rfl⟩ : r1 = 3 ∧ r2 = true := by simp [kindL] at h; exact ⟨by omega, by first | exact h.2.symm | exact h.2 | rfl⟩
      exact kind_31 w
    · obtain ⟨rfl, rfl⟩ : r1 = 4 ∧ r2 = true := by simp [kindL] at h; exact ⟨by omega, by first | exact h.2.symm | exact h.2 | rfl⟩
      exact kind_32 w
    · obtain ⟨rfl, rfl⟩ : r1 = 5 ∧ r2 = true := by simp [kindL] at h; exact ⟨by omega, by first | exact h.2.symm | exact h.2 | rfl⟩
      exact kind_33 w
    · obtain ⟨rfl, rfl⟩ : r1 = 6 ∧ r2 = true := by simp [kindL] at h; exact ⟨by omega, by first | exact h.2.symm | exact h.2 | rfl⟩
      exact kind_34 w
    · obtain ⟨rfl, rfl⟩ : r1 = 7 ∧ r2 = true := by simp [kindL] at h; exact ⟨by omega, by first | exact h.2.symm | exact h.2 | rfl⟩
      exact kind_35 w
    · obtain ⟨rfl, rfl⟩ : r1 = 8 ∧ r2 = true := by simp [kindL] at h; exact ⟨by omega, by first | exact h.2.symm | exact h.2 | rfl⟩
      exact kind_36 w
    · obtain ⟨rfl, rfl⟩ : r1 = 9 ∧ r2 = true := by simp [kindL] at h; exact ⟨by omega, by first | exact h.2.symm | exact h.2 | rfl⟩
      exact kind_37 w
    · obtain ⟨rfl, rfl⟩ : r1 = 10 ∧ r2 = true := by simp [kindL] at h; exact ⟨by omega, by first | exact h.2.symm | exact h.2 | rfl⟩
      exact kind_38 w
    · obtain ⟨rfl, rfl⟩ : r1 = 11 ∧ r2 = true := by simp [kindL] at h; exact ⟨by omega, by first | exact h.2.symm | exact h.2 | rfl⟩
      exact kind_39 w
    · obtain ⟨rfl, rfl⟩ : r1 = 12 ∧ r2 = true := by simp [kindL] at h; exact ⟨by omega, by first | exact h.2.symm | exact h.2 | rfl⟩
      exact kind_40 w
    · obtain ⟨rfl, rfl⟩ : r1 = 13 ∧ r2 = true := by simp [kindL] at h; exact ⟨by omega, by first | exact h.2.symm | exact h.2 | rfl⟩
      exact kind_41 w
    · obtain ⟨rfl, rfl⟩ : r1 = 14 ∧ r2 = true := by simp [kindL] at h; exact ⟨by omega, by first | exact h.2.symm | exact h.2 | rfl⟩
      exact kind_42 w
    · obtain ⟨rfl, rfl⟩ : r1 = 15 ∧ r2 = true := by simp [kindL] at h; exact ⟨by omega, by first | exact h.2.symm | exact h.2 | rfl⟩
      exact kind_43 w
    · obtain ⟨rfl, rfl⟩ : r1 = 16 ∧ r2 = true := by simp [kindL] at h; exact ⟨by omega, by first | exact h.2.symm | exact h.2 | rfl⟩
      exact kind_44 w
    · obtain ⟨rfl, rfl⟩ : r1 = 17 ∧ r2 = true := by simp [kindL] at h; exact ⟨by omega, by first | exact h.2.symm | exact h.2 | rfl⟩
      exact kind_45 w
  · rename_i hb
    obtain ⟨rfl, rfl⟩ : r1 = 0 ∧ r2 = false := by simp at h; exact ⟨h.1.symm, by first | exact h.2.symm | exact h.2⟩
    by_cases hl : a0 < 19
    · exact kind_low a0 w hl
    · exact kind_high a0 w (by omega)
/-! ### rv_Ends: function 18 -/
def rv_Ends.f (a0_0 : Int) (a0_1 : Int) (a0_2 : Int) (a0_3 : Int) (a0_4 : Int) : Option (Bool) := if a0_0 = 0 then (some true) else (if a0_0 ≥ 3 then (if a0_0 ≤ 10 then (some true) else (if a0_0 ≥ 47 then (some (decide (a0_0 ≤ 49))) else (some false))) else (if a0_0 ≥ 47 then (some (decide (a0_0 ≤ 49))) else (some false)))
set_option maxHeartbeats 8000000 in
set_option maxRecDepth 100000 in
theorem rv_Ends.calls (a0_0 : Int) (a0_1 : Int) (a0_2 : Int) (a0_3 : Int) (a0_4 : Int) (r : Bool) (w : World) (h : rv_Ends.f a0_0 a0_1 a0_2 a0_3 a0_4 = some r) :
    Calls Tryd.prog 18 #[.agg #[.int .i64 a0_0, .int .i64 a0_1, .int .i64 a0_2, .int .i64 a0_3, .int .i32 a0_4]] w fun e w' => e = .returned (.bool r) ∧ Below w.heap.size w w' := by
  have hu27 := Tryd.underlying27
  have HB := Aside0.mk (Below.refl w.heap.size w)
  have H : (if a0_0 = 0 then (some true) else (if a0_0 ≥ 3 then (if a0_0 ≤ 10 then (some true) else (if a0_0 ≥ 47 then (some (decide (a0_0 ≤ 49))) else (some false))) else (if a0_0 ≥ 47 then (some (decide (a0_0 ≤ 49))) else (some false)))) = some r := h
  clear h
  by_cases c2 : a0_0 = 0
  · rw [if_pos c2] at H
    have c2b0 : (a0_0 == 0) = true := beq_iff_eq.mpr c2
    have c2b1 : (a0_0 != 0) = false := bne_eq_false_iff_eq.mpr c2
    clear c2
    obtain rfl := Option.some.inj H
    go_enter Tryd.func18, Tryd.ntmps18
    go_wp2_with (first | ((with_reducible refine gate_dst (N := 1) rfl ?_); refine box_event ?hg (N := 1) ?hd (cs := #[.int .i64 a0_0, .int .i64 a0_1, .int .i64 a0_2, .int .i64 a0_3, .int .i32 a0_4]) (t := 27) ?hr ?_; (case hd => rfl); (case hg => rfl); (case hr => first | (go_simp; done) | (go_simp; rfl)); intro gb187 hg w3 hbox hb; have n0_ := Aside0.mk (below_step (by repeat (first | (with_reducible first | exact HB.out | apply below_alloc | apply pw_below_drewN | apply below_drew1) | exact HB.out)) hb); have n1_ := Aside0.mk (hbox); have n2_ := Aside0.mk ((by rw [hg]; exact (below_size (by repeat (first | (with_reducible first | exact HB.out | apply below_alloc | apply pw_below_drewN | apply below_drew1) | exact HB.out))) : w.heap.size ≤ gb187)); have n3_ := Aside0.mk ((by rw [hg]; exact (below_size (by repeat (first | (with_reducible first | exact HB.out | apply below_alloc | apply pw_below_drewN | apply below_drew1) | exact HB.out))) : w.heap.size ≤ gb187)); clear HB; have HB := n0_; have BK187 := n1_; have GW187 := n2_; have GE187 := n3_; clear n0_ n1_ n2_ n3_; clear hb hbox hg; have hcz4_0 : w3.cell? ⟨gb187, 0, none⟩ = some (.int .i64 a0_0) := (blk_cell BK187.out 0).trans rfl; have hcz4_1 : w3.cell? ⟨gb187, 1, none⟩ = some (.int .i64 a0_1) := (blk_cell BK187.out 1).trans rfl; have hcz4_2 : w3.cell? ⟨gb187, 2, none⟩ = some (.int .i64 a0_2) := (blk_cell BK187.out 2).trans rfl; have hcz4_3 : w3.cell? ⟨gb187, 3, none⟩ = some (.int .i64 a0_3) := (blk_cell BK187.out 3).trans rfl; have hcz4_4 : w3.cell? ⟨gb187, 4, none⟩ = some (.int .i32 a0_4) := (blk_cell BK187.out 4).trans rfl; have hfz4_0 := blk_frozen BK187.out 0; have hfz4_1 := blk_frozen BK187.out 1; have hfz4_2 := blk_frozen BK187.out 2; have hfz4_3 := blk_frozen BK187.out 3; have hfz4_4 := blk_frozen BK187.out 4))
    go_ret
    exact ⟨by first | rfl | (simp [errW_none, errW_some] <;> rfl) | (simp [*, errW_none, errW_some] <;> rfl), by repeat (first | (with_reducible first | exact HB.out | apply below_alloc | apply pw_below_drewN | apply below_drew1 | refine below_set ?_ GE187.out) | exact HB.out)⟩
  · rw [if_neg c2] at H
    have c2b0 : (a0_0 == 0) = false := beq_eq_false_iff_ne.mpr c2
    have c2b1 : (a0_0 != 0) = true := bne_iff_ne.mpr c2
    by_cases c5 : a0_0 ≥ 3
    · rw [if_pos c5] at H
      have c5b0 : decide (3 ≤ a0_0) = true := decide_eq_true c5
      clear c5
      by_cases c6 : a0_0 ≤ 10
      · rw [if_pos c6] at H
        have c6b0 : decide (a0_0 ≤ 10) = true := decide_eq_true c6
        clear c6
        obtain rfl := Option.some.inj H
        go_enter Tryd.func18, Tryd.ntmps18
        go_wp2_with (first | ((with_reducible refine gate_dst (N := 1) rfl ?_); refine box_event ?hg (N := 1) ?hd (cs := #[.int .i64 a0_0, .int .i64 a0_1, .int .i64 a0_2, .int .i64 a0_3, .int .i32 a0_4]) (t := 27) ?hr ?_; (case hd => rfl); (case hg => rfl); (case hr => first | (go_simp; done) | (go_simp; rfl)); intro gb187 hg w7 hbox hb; have n0_ := Aside0.mk (below_step (by repeat (first | (with_reducible first | exact HB.out | apply below_alloc | apply pw_below_drewN | apply below_drew1) | exact HB.out)) hb); have n1_ := Aside0.mk (hbox); have n2_ := Aside0.mk ((by rw [hg]; exact (below_size (by repeat (first | (with_reducible first | exact HB.out | apply below_alloc | apply pw_below_drewN | apply below_drew1) | exact HB.out))) : w.heap.size ≤ gb187)); have n3_ := Aside0.mk ((by rw [hg]; exact (below_size (by repeat (first | (with_reducible first | exact HB.out | apply below_alloc | apply pw_below_drewN | apply below_drew1) | exact HB.out))) : w.heap.size ≤ gb187)); clear HB; have HB := n0_; have BK187 := n1_; have GW187 := n2_; have GE187 := n3_; clear n0_ n1_ n2_ n3_; clear hb hbox hg; have hcz8_0 : w7.cell? ⟨gb187, 0, none⟩ = some (.int .i64 a0_0) := (blk_cell BK187.out 0).trans rfl; have hcz8_1 : w7.cell? ⟨gb187, 1, none⟩ = some (.int .i64 a0_1) := (blk_cell BK187.out 1).trans rfl; have hcz8_2 : w7.cell? ⟨gb187, 2, none⟩ = some (.int .i64 a0_2) := (blk_cell BK187.out 2).trans rfl; have hcz8_3 : w7.cell? ⟨gb187, 3, none⟩ = some (.int .i64 a0_3) := (blk_cell BK187.out 3).trans rfl; have hcz8_4 : w7.cell? ⟨gb187, 4, none⟩ = some (.int .i32 a0_4) := (blk_cell BK187.out 4).trans rfl; have hfz8_0 := blk_frozen BK187.out 0; have hfz8_1 := blk_frozen BK187.out 1; have hfz8_2 := blk_frozen BK187.out 2; have hfz8_3 := blk_frozen BK187.out 3; have hfz8_4 := blk_frozen BK187.out 4))
        go_ret
        exact ⟨by first | rfl | (simp [errW_none, errW_some] <;> rfl) | (simp [*, errW_none, errW_some] <;> rfl), by repeat (first | (with_reducible first | exact HB.out | apply below_alloc | apply pw_below_drewN | apply below_drew1 | refine below_set ?_ GE187.out) | exact HB.out)⟩
      · rw [if_neg c6] at H
        have c6b0 : decide (a0_0 ≤ 10) = false := decide_eq_false c6
        clear c6
        by_cases c9 : a0_0 ≥ 47
        · rw [if_pos c9] at H
          have c9b0 : decide (47 ≤ a0_0) = true := decide_eq_true c9
          clear c9
          obtain rfl := Option.some.inj H
          go_enter Tryd.func18, Tryd.ntmps18
          go_wp2_with (first | ((with_reducible refine gate_dst (N := 1) rfl ?_); refine box_event ?hg (N := 1) ?hd (cs := #[.int .i64 a0_0, .int .i64 a0_1, .int .i64 a0_2, .int .i64 a0_3, .int .i32 a0_4]) (t := 27) ?hr ?_; (case hd => rfl); (case hg => rfl); (case hr => first | (go_simp; done) | (go_simp; rfl)); intro gb187 hg w10 hbox hb; have n0_ := Aside0.mk (below_step (by repeat (first | (with_reducible first | exact HB.out | apply below_alloc | apply pw_below_drewN | apply below_drew1) | exact HB.out)) hb); have n1_ := Aside0.mk (hbox); have n2_ := Aside0.mk ((by rw [hg]; exact (below_size (by repeat (first | (with_reducible first | exact HB.out | apply below_alloc | apply pw_below_drewN | apply below_drew1) | exact HB.out))) : w.heap.size ≤ gb187)); have n3_ := Aside0.mk ((by rw [hg]; exact (below_size (by repeat (first | (with_reducible first | exact HB.out | apply below_alloc | apply pw_below_drewN | apply below_drew1) | exact HB.out))) : w.heap.size ≤ gb187)); clear HB; have HB := n0_; have BK187 := n1_; have GW187 := n2_; have GE187 := n3_; clear n0_ n1_ n2_ n3_; clear hb hbox hg; have hcz11_0 : w10.cell? ⟨gb187, 0, none⟩ = some (.int .i64 a0_0) := (blk_cell BK187.out 0).trans rfl; have hcz11_1 : w10.cell? ⟨gb187, 1, none⟩ = some (.int .i64 a0_1) := (blk_cell BK187.out 1).trans rfl; have hcz11_2 : w10.cell? ⟨gb187, 2, none⟩ = some (.int .i64 a0_2) := (blk_cell BK187.out 2).trans rfl; have hcz11_3 : w10.cell? ⟨gb187, 3, none⟩ = some (.int .i64 a0_3) := (blk_cell BK187.out 3).trans rfl; have hcz11_4 : w10.cell? ⟨gb187, 4, none⟩ = some (.int .i32 a0_4) := (blk_cell BK187.out 4).trans rfl; have hfz11_0 := blk_frozen BK187.out 0; have hfz11_1 := blk_frozen BK187.out 1; have hfz11_2 := blk_frozen BK187.out 2; have hfz11_3 := blk_frozen BK187.out 3; have hfz11_4 := blk_frozen BK187.out 4))
          go_ret
          exact ⟨by first | rfl | (simp [errW_none, errW_some] <;> rfl) | (simp [*, errW_none, errW_some] <;> rfl), by repeat (first | (with_reducible first | exact HB.out | apply below_alloc | apply pw_below_drewN | apply below_drew1 | refine below_set ?_ GE187.out) | exact HB.out)⟩
        · rw [if_neg c9] at H
          have c9b0 : decide (47 ≤ a0_0) = false := decide_eq_false c9
          clear c9
          obtain rfl := Option.some.inj H
          go_enter Tryd.func18, Tryd.ntmps18
          go_wp2_with (first | ((with_reducible refine gate_dst (N := 1) rfl ?_); refine box_event ?hg (N := 1) ?hd (cs := #[.int .i64 a0_0, .int .i64 a0_1, .int .i64 a0_2, .int .i64 a0_3, .int .i32 a0_4]) (t := 27) ?hr ?_; (case hd => rfl); (case hg => rfl); (case hr => first | (go_simp; done) | (go_simp; rfl)); intro gb187 hg w12 hbox hb; have n0_ := Aside0.mk (below_step (by repeat (first | (with_reducible first | exact HB.out | apply below_alloc | apply pw_below_drewN | apply below_drew1) | exact HB.out)) hb); have n1_ := Aside0.mk (hbox); have n2_ := Aside0.mk ((by rw [hg]; exact (below_size (by repeat (first | (with_reducible first | exact HB.out | apply below_alloc | apply pw_below_drewN | apply below_drew1) | exact HB.out))) : w.heap.size ≤ gb187)); have n3_ := Aside0.mk ((by rw [hg]; exact (below_size (by repeat (first | (with_reducible first | exact HB.out | apply below_alloc | apply pw_below_drewN | apply below_drew1) | exact HB.out))) : w.heap.size ≤ gb187)); clear HB; have HB := n0_; have BK187 := n1_; have GW187 := n2_; have GE187 := n3_; clear n0_ n1_ n2_ n3_; clear hb hbox hg; have hcz13_0 : w12.cell? ⟨gb187, 0, none⟩ = some (.int .i64 a0_0) := (blk_cell BK187.out 0).trans rfl; have hcz13_1 : w12.cell? ⟨gb187, 1, none⟩ = some (.int .i64 a0_1) := (blk_cell BK187.out 1).trans rfl; have hcz13_2 : w12.cell? ⟨gb187, 2, none⟩ = some (.int .i64 a0_2) := (blk_cell BK187.out 2).trans rfl; have hcz13_3 : w12.cell? ⟨gb187, 3, none⟩ = some (.int .i64 a0_3) := (blk_cell BK187.out 3).trans rfl; have hcz13_4 : w12.cell? ⟨gb187, 4, none⟩ = some (.int .i32 a0_4) := (blk_cell BK187.out 4).trans rfl; have hfz13_0 := blk_frozen BK187.out 0; have hfz13_1 := blk_frozen BK187.out 1; have hfz13_2 := blk_frozen BK187.out 2; have hfz13_3 := blk_frozen BK187.out 3; have hfz13_4 := blk_frozen BK187.out 4))
          go_ret
          exact ⟨by first | rfl | (simp [errW_none, errW_some] <;> rfl) | (simp [*, errW_none, errW_some] <;> rfl), by repeat (first | (with_reducible first | exact HB.out | apply below_alloc | apply pw_below_drewN | apply below_drew1 | refine below_set ?_ GE187.out) | exact HB.out)⟩
    · rw [if_neg c5] at H
      have c5b0 : decide (3 ≤ a0_0) = false := decide_eq_false c5
      clear c5
      by_cases c14 : a0_0 ≥ 47
      · rw [if_pos c14] at H
        have c14b0 : decide (47 ≤ a0_0) = true := decide_eq_true c14
        clear c14
        obtain rfl := Option.some.inj H
        go_enter Tryd.func18, Tryd.ntmps18
        go_wp2_with (first | ((with_reducible refine gate_dst (N := 1) rfl ?_); refine box_event ?hg (N := 1) ?hd (cs := #[.int .i64 a0_0, .int .i64 a0_1, .int .i64 a0_2, .int .i64 a0_3, .int .i32 a0_4]) (t := 27) ?hr ?_; (case hd => rfl); (case hg => rfl); (case hr => first | (go_simp; done) | (go_simp; rfl)); intro gb187 hg w15 hbox hb; have n0_ := Aside0.mk (below_step (by repeat (first | (with_reducible first | exact HB.out | apply below_alloc | apply pw_below_drewN | apply below_drew1) | exact HB.out)) hb); have n1_ := Aside0.mk (hbox); have n2_ := Aside0.mk ((by rw [hg]; exact (below_size (by repeat (first | (with_reducible first | exact HB.out | apply below_alloc | apply pw_below_drewN | apply below_drew1) | exact HB.out))) : w.heap.size ≤ gb187)); have n3_ := Aside0.mk ((by rw [hg]; exact (below_size (by repeat (first | (with_reducible first | exact HB.out | apply below_alloc | apply pw_below_drewN | apply below_drew1) | exact HB.out))) : w.heap.size ≤ gb187)); clear HB; have HB := n0_; have BK187 := n1_; have GW187 := n2_; have GE187 := n3_; clear n0_ n1_ n2_ n3_; clear hb hbox hg; have hcz16_0 : w15.cell? ⟨gb187, 0, none⟩ = some (.int .i64 a0_0) := (blk_cell BK187.out 0).trans rfl; have hcz16_1 : w15.cell? ⟨gb187, 1, none⟩ = some (.int .i64 a0_1) := (blk_cell BK187.out 1).trans rfl; have hcz16_2 : w15.cell? ⟨gb187, 2, none⟩ = some (.int .i64 a0_2) := (blk_cell BK187.out 2).trans rfl; have hcz16_3 : w15.cell? ⟨gb187, 3, none⟩ = some (.int .i64 a0_3) := (blk_cell BK187.out 3).trans rfl; have hcz16_4 : w15.cell? ⟨gb187, 4, none⟩ = some (.int .i32 a0_4) := (blk_cell BK187.out 4).trans rfl; have hfz16_0 := blk_frozen BK187.out 0; have hfz16_1 := blk_frozen BK187.out 1; have hfz16_2 := blk_frozen BK187.out 2; have hfz16_3 := blk_frozen BK187.out 3; have hfz16_4 := blk_frozen BK187.out 4))
        go_ret
        exact ⟨by first | rfl | (simp [errW_none, errW_some] <;> rfl) | (simp [*, errW_none, errW_some] <;> rfl), by repeat (first | (with_reducible first | exact HB.out | apply below_alloc | apply pw_below_drewN | apply below_drew1 | refine below_set ?_ GE187.out) | exact HB.out)⟩
      · rw [if_neg c14] at H
        have c14b0 : decide (47 ≤ a0_0) = false := decide_eq_false c14
        clear c14
        obtain rfl := Option.some.inj H
        go_enter Tryd.func18, Tryd.ntmps18
        go_wp2_with (first | ((with_reducible refine gate_dst (N := 1) rfl ?_); refine box_event ?hg (N := 1) ?hd (cs := #[.int .i64 a0_0, .int .i64 a0_1, .int .i64 a0_2, .int .i64 a0_3, .int .i32 a0_4]) (t := 27) ?hr ?_; (case hd => rfl); (case hg => rfl); (case hr => first | (go_simp; done) | (go_simp; rfl)); intro gb187 hg w17 hbox hb; have n0_ := Aside0.mk (below_step (by repeat (first | (with_reducible first | exact HB.out | apply below_alloc | apply pw_below_drewN | apply below_drew1) | exact HB.out)) hb); have n1_ := Aside0.mk (hbox); have n2_ := Aside0.mk ((by rw [hg]; exact (below_size (by repeat (first | (with_reducible first | exact HB.out | apply below_alloc | apply pw_below_drewN | apply below_drew1) | exact HB.out))) : w.heap.size ≤ gb187)); have n3_ := Aside0.mk ((by rw [hg]; exact (below_size (by repeat (first | (with_reducible first | exact HB.out | apply below_alloc | apply pw_below_drewN | apply below_drew1) | exact HB.out))) : w.heap.size ≤ gb187)); clear HB; have HB := n0_; have BK187 := n1_; have GW187 := n2_; have GE187 := n3_; clear n0_ n1_ n2_ n3_; clear hb hbox hg; have hcz18_0 : w17.cell? ⟨gb187, 0, none⟩ = some (.int .i64 a0_0) := (blk_cell BK187.out 0).trans rfl; have hcz18_1 : w17.cell? ⟨gb187, 1, none⟩ = some (.int .i64 a0_1) := (blk_cell BK187.out 1).trans rfl; have hcz18_2 : w17.cell? ⟨gb187, 2, none⟩ = some (.int .i64 a0_2) := (blk_cell BK187.out 2).trans rfl; have hcz18_3 : w17.cell? ⟨gb187, 3, none⟩ = some (.int .i64 a0_3) := (blk_cell BK187.out 3).trans rfl; have hcz18_4 : w17.cell? ⟨gb187, 4, none⟩ = some (.int .i32 a0_4) := (blk_cell BK187.out 4).trans rfl; have hfz18_0 := blk_frozen BK187.out 0; have hfz18_1 := blk_frozen BK187.out 1; have hfz18_2 := blk_frozen BK187.out 2; have hfz18_3 := blk_frozen BK187.out 3; have hfz18_4 := blk_frozen BK187.out 4))
        go_ret
        exact ⟨by first | rfl | (simp [errW_none, errW_some] <;> rfl) | (simp [*, errW_none, errW_some] <;> rfl), by repeat (first | (with_reducible first | exact HB.out | apply below_alloc | apply pw_below_drewN | apply below_drew1 | refine below_set ?_ GE187.out) | exact HB.out)⟩
end Go.Proofs.YtmgbidehdnmjkaaDoor.Rv
