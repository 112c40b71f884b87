/- What the law RvDecodes answers (its lines began as print.sh's). -/
import Derived.Test.YtmgbidehdnmjkaaDoorR0
import Derived.Test.YtmgbidehdnmjkaaDoorR1
import Derived.Test.YtmgbidehdnmjkaaDoorR3
import Derived.Test.YtmgbidehdnmjkaaDoorR5
import Derived.Test.YtmgbidehdnmjkaaDoorR6
import Derived.Test.YtmgbidehdnmjkaaDoorR12
import Derived.Test.YtmgbidehdnmjkaaDoorR13
namespace Go.Proofs.YtmgbidehdnmjkaaDoor.Rv
open Go.RowKit Go.Proofs.YtmgbidehdnmjkaaDoorW.PrintWords Go.Proofs.YtmgbidehdnmjkaaDoorW.PrintLast Go.Proofs.YtmgbidehdnmjkaaDoorW.PrintMore
attribute [local go_sem] max2_int min2_int max_two min_two max_three min_three max_four min_four   -- for this text's walks alone
set_option linter.unusedVariables false
set_option linter.unusedSimpArgs false
attribute [local go_sem high] eqA25
/-! ### tincturelaw5_RvDecodes: function 3 -/
def tincturelaw5_RvDecodes.f (k : Nat) (a0 : Int) : Option (Bool) := (tincturelaw5_awake.f k).bind fun t219 => (if t219 = true then ((rv_Decode.f k a0).bind fun bt220 => ((tincturelaw5_own.f bt220.1 bt220.2.1 bt220.2.2.1 bt220.2.2.2.1 bt220.2.2.2.2).bind fun bt225 => ((tinctureref5_Decode.f k a0).bind fun bt230 => (some (bt225.1 == bt230.1 && (bt225.2.1 == bt230.2.1 && (bt225.2.2.1 == bt230.2.2.1 && (bt225.2.2.2.1 == bt230.2.2.2.1 && (bt225.2.2.2.2 == bt230.2.2.2.2))))))))) else (some false))
theorem tincturelaw5_RvDecodes.mono : ∀ a0 k, LeO (tincturelaw5_RvDecodes.f k a0) (tincturelaw5_RvDecodes.f (k + 1) a0) := by
  intro a0 k
  unfold tincturelaw5_RvDecodes.f
  repeat' first
      | (with_reducible exact rv_Decode.mono _ _)
      | (with_reducible exact tincturelaw5_awake.mono _)
      | (with_reducible exact tinctureref5_Decode.mono _ _)
      | (with_reducible exact LeO.refl _)
      | (with_reducible exact LeO.none _)
      | (with_reducible refine LeO.ite ?_ ?_)
      | (with_reducible refine LeO.bind ?_ (fun _ => ?_))
      | exact rv_Decode.mono _ _
      | exact tincturelaw5_awake.mono _
      | exact tinctureref5_Decode.mono _ _
      | exact LeO.none _
      | refine LeO.ite ?_ ?_
      | refine LeO.bind ?_ (fun _ => ?_)
set_option maxHeartbeats 8000000 in
set_option maxRecDepth 100000 in
theorem tincturelaw5_RvDecodes.calls (k : Nat) (a0 : Int) (r : Bool) (w : World) (hT : Lib.TabIs Tryd.prog w "strings.asciiSpace" .u8 Lib.asciiSpaceTab) (h : tincturelaw5_RvDecodes.f k a0 = some r) :
    Calls Tryd.prog 3 #[.int .u32 a0] w fun e w' => e = .returned (.bool r) ∧ Below w.heap.size w w' := by
  have TT := Aside0.mk hT
  clear hT
  have HB := Aside0.mk (Below.refl w.heap.size w)
  have H : ((tincturelaw5_awake.f k).bind fun t219 => (if t219 = true then ((rv_Decode.f k a0).bind fun bt220 => ((tincturelaw5_own.f bt220.1 bt220.2.1 bt220.2.2.1 bt220.2.2.2.1 bt220.2.2.2.2).bind fun bt225 => ((tinctureref5_Decode.f k a0).bind fun bt230 => (some (bt225.1 == bt230.1 && (bt225.2.1 == bt230.2.1 && (bt225.2.2.1 == bt230.2.2.1 && (bt225.2.2.2.1 == bt230.2.2.2.1 && (bt225.2.2.2.2 == bt230.2.2.2.2))))))))) else (some false))) = some r := h
  clear h
  replace H := Option.bind_eq_some_iff.mp H
  obtain ⟨t219, A20, H⟩ := H
  replace H : (if t219 = true then ((rv_Decode.f k a0).bind fun bt220 => ((tincturelaw5_own.f bt220.1 bt220.2.1 bt220.2.2.1 bt220.2.2.2.1 bt220.2.2.2.2).bind fun bt225 => ((tinctureref5_Decode.f k a0).bind fun bt230 => (some (bt225.1 == bt230.1 && (bt225.2.1 == bt230.2.1 && (bt225.2.2.1 == bt230.2.2.1 && (bt225.2.2.2.1 == bt230.2.2.2.1 && (bt225.2.2.2.2 == bt230.2.2.2.2))))))))) else (some false)) = some r := H
  have A2 := Aside0.mk A20
  clear A20
  by_cases c3 : t219 = true
  · subst c3
    have H1 : ((rv_Decode.f k a0).bind fun bt220 => ((tincturelaw5_own.f bt220.1 bt220.2.1 bt220.2.2.1 bt220.2.2.2.1 bt220.2.2.2.2).bind fun bt225 => ((tinctureref5_Decode.f k a0).bind fun bt230 => (some (bt225.1 == bt230.1 && (bt225.2.1 == bt230.2.1 && (bt225.2.2.1 == bt230.2.2.1 && (bt225.2.2.2.1 == bt230.2.2.2.1 && (bt225.2.2.2.2 == bt230.2.2.2.2))))))))) = some r := by rw [if_pos rfl] at H; exact H
    clear H
    have H := H1
    clear H1
    replace H := Option.bind_eq_some_iff.mp H
    obtain ⟨⟨t220, t221, t222, t223, t224⟩, A40, H⟩ := H
    replace H : ((tincturelaw5_own.f t220 t221 t222 t223 t224).bind fun bt225 => ((tinctureref5_Decode.f k a0).bind fun bt230 => (some (bt225.1 == bt230.1 && (bt225.2.1 == bt230.2.1 && (bt225.2.2.1 == bt230.2.2.1 && (bt225.2.2.2.1 == bt230.2.2.2.1 && (bt225.2.2.2.2 == bt230.2.2.2.2)))))))) = some r := H
    have A4 := Aside0.mk A40
    clear A40
    replace H := Option.bind_eq_some_iff.mp H
    obtain ⟨⟨t225, t226, t227, t228, t229⟩, A50, H⟩ := H
    replace H : ((tinctureref5_Decode.f k a0).bind fun bt230 => (some (t225 == bt230.1 && (t226 == bt230.2.1 && (t227 == bt230.2.2.1 && (t228 == bt230.2.2.2.1 && (t229 == bt230.2.2.2.2))))))) = some r := H
    have A5 := Aside0.mk A50
    clear A50
    replace H := Option.bind_eq_some_iff.mp H
    obtain ⟨⟨t230, t231, t232, t233, t234⟩, A60, H⟩ := H
    replace H : (some (t225 == t230 && (t226 == t231 && (t227 == t232 && (t228 == t233 && (t229 == t234)))))) = some r := H
    have A6 := Aside0.mk A60
    clear A60
    obtain rfl := Option.some.inj H
    go_enter Tryd.func3, Tryd.ntmps3
    go_wp2_with (first | ((with_reducible refine gate_callee (f := 11) rfl ?_); refine goesL_ (some 3) rfl rfl Tryd.func11 (by kernel_rfl) rfl #[] rfl (by (try simp only [List.map_toArray, List.map_cons, List.map_nil]); first | done | rfl | (simp only [List.length_drop, List.length_take]; rfl)) ?_; (with_reducible refine (tincturelaw5_awake.calls k  true _ (Go.Joins.tab_stays blanks TT.out (by first | exact Below.refl _ _ | (repeat (first | (with_reducible first | exact HB.out | apply below_alloc | apply pw_below_drewN | apply below_drew1) | exact HB.out))) (Nat.le_refl _)) A2.out).mono ?_); rintro e w7 ⟨rfl, hb⟩; refine ⟨_, rfl, ?_⟩; have n0_ := Aside0.mk (below_step (by repeat (first | (with_reducible first | exact HB.out | apply below_alloc | apply pw_below_drewN | apply below_drew1) | exact HB.out)) hb); clear HB; have HB := n0_; clear n0_; (try clear hb); (try clear hb2); (try clear hk); (try clear hi)) | (go_at_call 13; (with_reducible refine (rv_Decode.calls k a0 t220 t221 t222 t223 t224 _ A4.out).mono ?_); rintro e w8 ⟨rfl, hb⟩; have n0_ := Aside0.mk (below_step (by repeat (first | (with_reducible first | exact HB.out | apply below_alloc | apply pw_below_drewN | apply below_drew1) | exact HB.out)) hb); clear HB; have HB := n0_; clear n0_; (try clear hb); (try clear hb2); (try clear hk); (try clear hi)) | (go_at_call 12; (with_reducible refine (tincturelaw5_own.calls t220 t221 t222 t223 t224 t225 t226 t227 t228 t229 _ A5.out).mono ?_); rintro e w9 ⟨rfl, hb⟩; have n0_ := Aside0.mk (below_step (by repeat (first | (with_reducible first | exact HB.out | apply below_alloc | apply pw_below_drewN | apply below_drew1) | exact HB.out)) hb); clear HB; have HB := n0_; clear n0_; (try clear hb); (try clear hb2); (try clear hk); (try clear hi)) | (go_at_call 14; (with_reducible refine (tinctureref5_Decode.calls k a0 t230 t231 t232 t233 t234 _ A6.out).mono ?_); rintro e w10 ⟨rfl, hb⟩; have n0_ := Aside0.mk (below_step (by repeat (first | (with_reducible first | exact HB.out | apply below_alloc | apply pw_below_drewN | apply below_drew1) | exact HB.out)) hb); clear HB; have HB := n0_; clear n0_; (try clear hb); (try clear hb2); (try clear hk); (try clear hi)))
    go_ret
    exact ⟨by first | rfl | (simp [errW_none, errW_some] <;> rfl) | (simp [*, errW_none, errW_some] <;> rfl), by repeat (first | (with_reducible first | exact HB.out | apply below_alloc | apply pw_below_drewN | apply below_drew1) | exact HB.out)⟩
  · replace c3 := Bool.eq_false_iff.mpr c3
    subst c3
    have H1 : (some false) = some r := by rw [if_neg (show ¬ (false = true) by decide)] at H; exact H
    clear H
    have H := H1
    clear H1
    obtain rfl := Option.some.inj H
    go_enter Tryd.func3, Tryd.ntmps3
    go_wp2_with (first | ((with_reducible refine gate_callee (f := 11) rfl ?_); refine goesL_ (some 3) rfl rfl Tryd.func11 (by kernel_rfl) rfl #[] rfl (by (try simp only [List.map_toArray, List.map_cons, List.map_nil]); first | done | rfl | (simp only [List.length_drop, List.length_take]; rfl)) ?_; (with_reducible refine (tincturelaw5_awake.calls k  false _ (Go.Joins.tab_stays blanks TT.out (by first | exact Below.refl _ _ | (repeat (first | (with_reducible first | exact HB.out | apply below_alloc | apply pw_below_drewN | apply below_drew1) | exact HB.out))) (Nat.le_refl _)) A2.out).mono ?_); rintro e w11 ⟨rfl, hb⟩; refine ⟨_, rfl, ?_⟩; have n0_ := Aside0.mk (below_step (by repeat (first | (with_reducible first | exact HB.out | apply below_alloc | apply pw_below_drewN | apply below_drew1) | exact HB.out)) hb); clear HB; have HB := n0_; clear n0_; (try clear hb); (try clear hb2); (try clear hk); (try clear hi)))
    go_ret
    exact ⟨by first | rfl | (simp [errW_none, errW_some] <;> rfl) | (simp [*, errW_none, errW_some] <;> rfl), by repeat (first | (with_reducible first | exact HB.out | apply below_alloc | apply pw_below_drewN | apply below_drew1) | exact HB.out)⟩
end Go.Proofs.YtmgbidehdnmjkaaDoor.Rv
