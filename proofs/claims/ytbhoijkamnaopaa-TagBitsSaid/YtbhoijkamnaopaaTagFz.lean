/- What Flow answers. -/
import Derived.Test.YtbhoijkamnaopaaTagOp
import Derived.StillTailTactics
import Derived.BigRegion
import Derived.LoopN
import Derived.Deep.RegionHeld3
import Derived.Lib.Hide
namespace Go.Proofs.Ytbhoijkamnaopaa.Tag
open Go Go.RowKit Go.Proofs.YtbhoijkamnaopaaW.PrintWords Go.Proofs.YtbhoijkamnaopaaW.PrintLast Go.Proofs.YtbhoijkamnaopaaW.PrintMore
set_option linter.unusedVariables false
set_option linter.unusedSimpArgs false
set_option maxRecDepth 100000 in
set_option maxHeartbeats 40000000 in
theorem flow13z (kind a b a0 a1 a2 a3 b0 b1 b2 b3 r e : Int) (w : World) (hD : Alu.alu_Do.f kind a b = some (r, e)) (he : ¬ e = 0) : Calls Try.prog 13 #[.int .i64 kind, .int .u32 a, .int .u32 b, .agg #[.int .u8 a0, .int .u8 a1, .int .u8 a2, .int .u8 a3], .agg #[.int .u8 b0, .int .u8 b1, .int .u8 b2, .int .u8 b3]] w (RetE (.tuple #[.agg #[.int .u8 0, .int .u8 0, .int .u8 0, .int .u8 0], .int .i64 e]) w) := by
  go_enter Try.func13, Try.ntmps13
  go_wp2_with (go_at_call 16; refine (Alu.alu_Do.calls _ _ _ _ _ _ hD).mono ?_; rintro e w' ⟨rfl, ⟨n, rfl⟩⟩)
  refine bodyPost_ret (v := .tuple #[.agg #[.int .u8 0, .int .u8 0, .int .u8 0, .int .u8 0], .int .i64 e]) (by simp [results, Try.results13, go_sem]) rfl ?_
  exact ⟨rfl, by (repeat' (first | assumption | exact Ext.refl _ | refine Ext.drewN ?_ | refine Ext.drew ?_ | refine Ext.alloc ?_))⟩
end Go.Proofs.Ytbhoijkamnaopaa.Tag
