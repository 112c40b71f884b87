/- What source, masked, shifted answer: loops over places by one relation. -/
import Derived.Test.YtbhoijkamnaopaaTagBase
import Derived.Test.YtbhoijkamnaopaaAlu
import Derived.StillTailTactics
import Derived.BigRegion
import Derived.LoopN
import Derived.Deep.RegionHeld3
import Derived.Lib.Hide
namespace Go.Proofs.Ytbhoijkamnaopaa.Tag
open Go Go.RowKit Go.Proofs.YtbhoijkamnaopaaW.PrintWords Go.Proofs.YtbhoijkamnaopaaW.PrintLast Go.Proofs.YtbhoijkamnaopaaW.PrintMore
set_option linter.unusedVariables false
set_option linter.unusedSimpArgs false
/-- Which bit comes to stand at a place. -/
def srcI (kind place by_ : Int) : Int := if kind = 2 then place - by_ else if kind = 7 then (if 31 < place + by_ then 31 else place + by_) else place + by_
def okS (f : Int) : Bool := decide (0 ≤ f ∧ f < 32)
set_option maxRecDepth 100000 in
set_option maxHeartbeats 4000000 in
theorem src2_lo (place by_ : Int) (w : World) (p0 : 0 ≤ place) (p1 : place < 32) (q0 : 0 ≤ by_) (q1 : by_ < 32) (h : place < by_) : Calls Try.prog 32 #[.int .i64 2, .int .i64 place, .int .i64 by_] w fun e w' => e = .returned (.tuple #[.int .i64 (place - by_), .bool false]) ∧ w' = w := by
  go_enter Try.func32, Try.ntmps32
  go_wp2
  go_ret2
  exact ⟨by first | rfl | (simp; omega) | simp, rfl⟩
set_option maxRecDepth 100000 in
set_option maxHeartbeats 4000000 in
theorem src2_in (place by_ : Int) (w : World) (p0 : 0 ≤ place) (p1 : place < 32) (q0 : 0 ≤ by_) (q1 : by_ < 32) (h : by_ ≤ place) : Calls Try.prog 32 #[.int .i64 2, .int .i64 place, .int .i64 by_] w fun e w' => e = .returned (.tuple #[.int .i64 (place - by_), .bool true]) ∧ w' = w := by
  go_enter Try.func32, Try.ntmps32
  go_wp2
  go_ret2
  exact ⟨by first | rfl | (simp; omega) | simp, rfl⟩
set_option maxRecDepth 100000 in
set_option maxHeartbeats 4000000 in
theorem src6_in (place by_ : Int) (w : World) (p0 : 0 ≤ place) (p1 : place < 32) (q0 : 0 ≤ by_) (q1 : by_ < 32) (h : place + by_ < 32) : Calls Try.prog 32 #[.int .i64 6, .int .i64 place, .int .i64 by_] w fun e w' => e = .returned (.tuple #[.int .i64 (place + by_), .bool true]) ∧ w' = w := by
  go_enter Try.func32, Try.ntmps32
  go_wp2
  go_ret2
  exact ⟨by first | rfl | (simp; omega) | simp, rfl⟩
set_option maxRecDepth 100000 in
set_option maxHeartbeats 4000000 in
theorem src6_hi (place by_ : Int) (w : World) (p0 : 0 ≤ place) (p1 : place < 32) (q0 : 0 ≤ by_) (q1 : by_ < 32) (h : 32 ≤ place + by_) : Calls Try.prog 32 #[.int .i64 6, .int .i64 place, .int .i64 by_] w fun e w' => e = .returned (.tuple #[.int .i64 (place + by_), .bool false]) ∧ w' = w := by
  go_enter Try.func32, Try.ntmps32
  go_wp2
  go_ret2
  exact ⟨by first | rfl | (simp; omega) | simp, rfl⟩
set_option maxRecDepth 100000 in
set_option maxHeartbeats 4000000 in
theorem src7_hi (place by_ : Int) (w : World) (p0 : 0 ≤ place) (p1 : place < 32) (q0 : 0 ≤ by_) (q1 : by_ < 32) (h : 31 < place + by_) : Calls Try.prog 32 #[.int .i64 7, .int .i64 place, .int .i64 by_] w fun e w' => e = .returned (.tuple #[.int .i64 (31), .bool true]) ∧ w' = w := by
  go_enter Try.func32, Try.ntmps32
  go_wp2
  go_ret2
  exact ⟨by first | rfl | (simp; omega) | simp, rfl⟩
set_option maxRecDepth 100000 in
set_option maxHeartbeats 4000000 in
theorem src7_in (place by_ : Int) (w : World) (p0 : 0 ≤ place) (p1 : place < 32) (q0 : 0 ≤ by_) (q1 : by_ < 32) (h : place + by_ ≤ 31) : Calls Try.prog 32 #[.int .i64 7, .int .i64 place, .int .i64 by_] w fun e w' => e = .returned (.tuple #[.int .i64 (place + by_), .bool true]) ∧ w' = w := by
  go_enter Try.func32, Try.ntmps32
  go_wp2
  go_ret2
  exact ⟨by first | rfl | (simp; omega) | simp, rfl⟩
end Go.Proofs.Ytbhoijkamnaopaa.Tag
