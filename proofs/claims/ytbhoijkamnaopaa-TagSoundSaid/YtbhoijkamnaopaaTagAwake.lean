/- What awake answers. -/
import Derived.Test.YtbhoijkamnaopaaTagFc0
import Derived.StillTailTactics
import Derived.BigRegion
import Derived.LoopN
import Derived.Deep.RegionHeld3
import Derived.Lib.Hide
namespace Go.Proofs.Ytbhoijkamnaopaa.Tag
open Go Go.RowKit Go.Proofs.YtbhoijkamnaopaaW.PrintWords Go.Proofs.YtbhoijkamnaopaaW.PrintLast Go.Proofs.YtbhoijkamnaopaaW.PrintMore
set_option linter.unusedVariables false
set_option linter.unusedSimpArgs false
theorem do0 : Alu.alu_Do.f 0 0 0 = some (0, 0) := by first | rfl | decide | simp [Alu.alu_Do.f, Alu.alu_simple.f]
theorem flow0 (w : World) : Calls Try.prog 13 #[.int .i64 0, .int .u32 0, .int .u32 0, .agg #[.int .u8 1, .int .u8 0, .int .u8 0, .int .u8 0], .agg #[.int .u8 0, .int .u8 2, .int .u8 0, .int .u8 0]] w (RetE (.tuple #[.agg #[.int .u8 1, .int .u8 3, .int .u8 3, .int .u8 3], .int .i64 0]) w) := by
  have h := flow13c0 0 0 0 1 0 0 0 0 2 0 0 0 0 w do0 rfl rfl
  have e : upT (joinT (1, 0, 0, 0) (0, 2, 0, 0)) = (1, 3, 3, 3) := by decide
  rw [e] at h
  exact h
theorem all1333 (w : World) : Calls Try.prog 17 #[.agg #[.int .u8 1, .int .u8 3, .int .u8 3, .int .u8 3]] w (Ret (.int .u8 3) (w.alloc (.cells #[.int .u8 1, .int .u8 3, .int .u8 3, .int .u8 3] 24))) := by
  have h := all17o 1 3 3 3 w
  have e : allT (1, 3, 3, 3) = 3 := by decide
  rw [e] at h
  exact h
set_option maxRecDepth 100000 in
set_option maxHeartbeats 4000000 in
theorem awake12 (w : World) : Calls Try.prog 12 #[] w (RetE (.bool true) w) := by
  go_enter Try.func12, Try.ntmps12
  go_wp2_with (first | (go_at_call 13; refine (flow0 _).mono ?_; rintro e w' ⟨rfl, hE⟩) | (go_at_call 20; refine (fill20 _ _).mono ?_; rintro e w' ⟨rfl, n, rfl⟩) | (go_at_call 17; refine (all1333 _).mono ?_; rintro e w' ⟨rfl, n, rfl⟩))
  go_ret
  exact ⟨rfl, by (repeat' (first | assumption | exact Ext.refl _ | refine Ext.drewN ?_ | refine Ext.drew ?_ | refine Ext.alloc ?_))⟩
end Go.Proofs.Ytbhoijkamnaopaa.Tag
