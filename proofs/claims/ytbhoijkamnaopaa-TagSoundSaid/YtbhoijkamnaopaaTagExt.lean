/- Regions that only read and call, by one walk. -/
import Derived.Test.YtbhoijkamnaopaaTagOp
import Derived.Test.YtbhoijkamnaopaaReg
import Derived.StillTailTactics
import Derived.BigRegion
import Derived.LoopN
import Derived.Deep.RegionHeld3
import Derived.Lib.Hide
namespace Go.Proofs.Ytbhoijkamnaopaa.Tag
open Go Go.RowKit Go.Sort Go.Proofs.YtbhoijkamnaopaaW.PrintWords Go.Proofs.YtbhoijkamnaopaaW.PrintLast Go.Proofs.YtbhoijkamnaopaaW.PrintMore
set_option linter.unusedVariables false
set_option linter.unusedSimpArgs false
/-- A world of the class of B. -/
abbrev Cl (B w : World) : Prop := ∃ p : Regrown, w = grow (redrawn B p.d) p.os
theorem Ext.of_cl (B : World) (d : Nat) (os : Array Obj) : Ext B (grow (redrawn B d) os) := below_regrown B d os
theorem Ext.cl {B w : World} (h : Ext B w) : Cl B w := regrown_of_below h
/-- The world at hand, told by what is known of it alone. -/
theorem wp_open {P : Program} {C : Code} {Q : Exit → Act → World → Prop} {a : Act} {w : World} (S : World → Prop) (h : S w) (k : ∀ w', S w' → C.wp P Q a w') : C.wp P Q a w := k w h
theorem cls {f : FuncId} {args0 : Array Value} {v : Value} (h : ∀ w, Calls Try.prog f args0 w (RetE v w)) (B : World) (args : Array Value) (d : Nat) (os : Array Obj) (ha : args = args0) :
    Calls Try.prog f args (grow (redrawn B d) os) fun e w' => e = .returned v ∧ ∃ p : Regrown, w' = grow (redrawn B p.d) p.os := by
  subst ha
  exact (h _).mono fun _ _ ⟨he, hb⟩ => ⟨he, Ext.cl (Ext.trans (Ext.of_cl B d os) hb)⟩
theorem toE {f : FuncId} {args : Array Value} {v : Value} {W : World → World} (h : ∀ w, Calls Try.prog f args w (Ret v (W w))) (hW : ∀ w, Ext w (W w)) : ∀ w, Calls Try.prog f args w (RetE v w) :=
  fun w => (h w).mono fun _ _ ⟨he, n, hn⟩ => ⟨he, by rw [hn]; exact Ext.drewN (hW w)⟩
theorem Ret.e {f : FuncId} {args : Array Value} {v : Value} {w W : World} (h : Calls Try.prog f args w (Ret v W)) (hW : Ext w W) : Calls Try.prog f args w (RetE v w) :=
  h.mono fun _ _ ⟨he, n, hn⟩ => ⟨he, by rw [hn]; exact Ext.drewN hW⟩
theorem all17E (a0 a1 a2 a3 : Int) (w : World) : Calls Try.prog 17 #[.agg #[.int .u8 a0, .int .u8 a1, .int .u8 a2, .int .u8 a3]] w (RetE (.int .u8 (allT (a0, a1, a2, a3))) w) := Ret.e (all17o a0 a1 a2 a3 w) (by (repeat' (first | assumption | exact Ext.refl _ | refine Ext.drewN ?_ | refine Ext.drew ?_ | refine Ext.alloc ?_)))
theorem all22E (a0 a1 a2 a3 : Int) (w : World) : Calls Try.prog 22 #[.agg #[.int .u8 a0, .int .u8 a1, .int .u8 a2, .int .u8 a3]] w (RetE (.int .u8 (allT (a0, a1, a2, a3))) w) := Ret.e (all22o a0 a1 a2 a3 w) (by (repeat' (first | assumption | exact Ext.refl _ | refine Ext.drewN ?_ | refine Ext.drew ?_ | refine Ext.alloc ?_)))
theorem fill20E (l : Int) (w : World) : Calls Try.prog 20 #[.int .u8 l] w (RetE (.agg #[.int .u8 l, .int .u8 l, .int .u8 l, .int .u8 l]) w) := Ret.e (fill20 l w) (by (repeat' (first | assumption | exact Ext.refl _ | refine Ext.drewN ?_ | refine Ext.drew ?_ | refine Ext.alloc ?_)))
theorem fill23E (l : Int) (w : World) : Calls Try.prog 23 #[.int .u8 l] w (RetE (.agg #[.int .u8 l, .int .u8 l, .int .u8 l, .int .u8 l]) w) := Ret.e (fill23 l w) (by (repeat' (first | assumption | exact Ext.refl _ | refine Ext.drewN ?_ | refine Ext.drew ?_ | refine Ext.alloc ?_)))
theorem join18E (a0 a1 a2 a3 b0 b1 b2 b3 : Int) : ∀ w, Calls Try.prog 18 #[tagOf (a0, a1, a2, a3), tagOf (b0, b1, b2, b3)] w (RetE (tagOf (joinT (a0, a1, a2, a3) (b0, b1, b2, b3))) w) := fun w => Ret.e (join18 a0 a1 a2 a3 b0 b1 b2 b3 w) (by (repeat' (first | assumption | exact Ext.refl _ | refine Ext.drewN ?_ | refine Ext.drew ?_ | refine Ext.alloc ?_)))
theorem join24E (a0 a1 a2 a3 b0 b1 b2 b3 : Int) : ∀ w, Calls Try.prog 24 #[tagOf (a0, a1, a2, a3), tagOf (b0, b1, b2, b3)] w (RetE (tagOf (joinT (a0, a1, a2, a3) (b0, b1, b2, b3))) w) := fun w => Ret.e (join24 a0 a1 a2 a3 b0 b1 b2 b3 w) (by (repeat' (first | assumption | exact Ext.refl _ | refine Ext.drewN ?_ | refine Ext.drew ?_ | refine Ext.alloc ?_)))
theorem up19E (a0 a1 a2 a3 : Int) : ∀ w, Calls Try.prog 19 #[tagOf (a0, a1, a2, a3)] w (RetE (tagOf (upT (a0, a1, a2, a3))) w) := fun w => Ret.e (up19 a0 a1 a2 a3 w) (by (repeat' (first | assumption | exact Ext.refl _ | refine Ext.drewN ?_ | refine Ext.drew ?_ | refine Ext.alloc ?_)))
end Go.Proofs.Ytbhoijkamnaopaa.Tag
