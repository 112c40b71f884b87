/- What Narrow answers, the program's and the reference's. -/
import Derived.Test.YtbhoijkamnaopaaTagBase
import Derived.StillTailTactics
import Derived.BigRegion
import Derived.LoopN
import Derived.Deep.RegionHeld3
import Derived.Lib.Hide
namespace Go.Proofs.Ytbhoijkamnaopaa.Tag
open Go Go.RowKit Go.Proofs.YtbhoijkamnaopaaW.PrintWords Go.Proofs.YtbhoijkamnaopaaW.PrintLast Go.Proofs.YtbhoijkamnaopaaW.PrintMore
set_option linter.unusedVariables false
set_option linter.unusedSimpArgs false
set_option maxRecDepth 100000 in
set_option maxHeartbeats 4000000 in
theorem narrow21_1t (a0 a1 a2 a3 : Int) (w : World) : Calls Try.prog 21 #[.agg #[.int .u8 a0, .int .u8 a1, .int .u8 a2, .int .u8 a3], .int .i64 1, .bool true] w (Ret (.agg #[.int .u8 a0, .int .u8 a0, .int .u8 a0, .int .u8 a0]) ((w.alloc (.cells #[.int .u8 a0, .int .u8 a0, .int .u8 a0, .int .u8 a0] 24)).alloc (.cells #[.int .u8 a0, .int .u8 a0, .int .u8 a0, .int .u8 a0] 24))) := by
  go_enter Try.func21, Try.ntmps21
  go_wp2
  refine wp_loop_rounds 4 ?_
  rw [rounds_succ]
  go_wp2
  try go_region
  go_wp2
  rw [rounds_succ]
  go_wp2
  try go_region
  go_wp2
  rw [rounds_succ]
  go_wp2
  try go_region
  go_wp2
  rw [rounds_succ]
  go_wp2
  refine bodyPost_ret (v := .agg #[.int .u8 a0, .int .u8 a0, .int .u8 a0, .int .u8 a0]) (by simp [results, Try.results21, go_sem]) rfl ?_
  exact ⟨rfl, by first | exact ⟨0, rfl⟩ | exact ⟨3, rfl⟩ | exact ⟨4, rfl⟩ | exact ⟨_, rfl⟩⟩
set_option maxRecDepth 100000 in
set_option maxHeartbeats 4000000 in
theorem narrow21_1f (a0 a1 a2 a3 : Int) (w : World) : Calls Try.prog 21 #[.agg #[.int .u8 a0, .int .u8 a1, .int .u8 a2, .int .u8 a3], .int .i64 1, .bool false] w (Ret (.agg #[.int .u8 a0, .int .u8 0, .int .u8 0, .int .u8 0]) ((w.alloc (.cells #[.int .u8 a0, .int .u8 0, .int .u8 0, .int .u8 0] 24)).alloc (.cells #[.int .u8 a0, .int .u8 0, .int .u8 0, .int .u8 0] 24))) := by
  go_enter Try.func21, Try.ntmps21
  go_wp2
  refine wp_loop_rounds 4 ?_
  rw [rounds_succ]
  go_wp2
  try go_region
  go_wp2
  rw [rounds_succ]
  go_wp2
  try go_region
  go_wp2
  rw [rounds_succ]
  go_wp2
  try go_region
  go_wp2
  rw [rounds_succ]
  go_wp2
  refine bodyPost_ret (v := .agg #[.int .u8 a0, .int .u8 0, .int .u8 0, .int .u8 0]) (by simp [results, Try.results21, go_sem]) rfl ?_
  exact ⟨rfl, by first | exact ⟨0, rfl⟩ | exact ⟨3, rfl⟩ | exact ⟨4, rfl⟩ | exact ⟨_, rfl⟩⟩
set_option maxRecDepth 100000 in
set_option maxHeartbeats 4000000 in
theorem narrow21_2t (a0 a1 a2 a3 : Int) (w : World) : Calls Try.prog 21 #[.agg #[.int .u8 a0, .int .u8 a1, .int .u8 a2, .int .u8 a3], .int .i64 2, .bool true] w (Ret (.agg #[.int .u8 a0, .int .u8 a1, .int .u8 a1, .int .u8 a1]) ((w.alloc (.cells #[.int .u8 a0, .int .u8 a1, .int .u8 a1, .int .u8 a1] 24)).alloc (.cells #[.int .u8 a0, .int .u8 a1, .int .u8 a1, .int .u8 a1] 24))) := by
  go_enter Try.func21, Try.ntmps21
  go_wp2
  refine wp_loop_rounds 3 ?_
  rw [rounds_succ]
  go_wp2
  try go_region
  go_wp2
  rw [rounds_succ]
  go_wp2
  try go_region
  go_wp2
  rw [rounds_succ]
  go_wp2
  refine bodyPost_ret (v := .agg #[.int .u8 a0, .int .u8 a1, .int .u8 a1, .int .u8 a1]) (by simp [results, Try.results21, go_sem]) rfl ?_
  exact ⟨rfl, by first | exact ⟨0, rfl⟩ | exact ⟨3, rfl⟩ | exact ⟨4, rfl⟩ | exact ⟨_, rfl⟩⟩
set_option maxRecDepth 100000 in
set_option maxHeartbeats 4000000 in
theorem narrow21_2f (a0 a1 a2 a3 : Int) (w : World) : Calls Try.prog 21 #[.agg #[.int .u8 a0, .int .u8 a1, .int .u8 a2, .int .u8 a3], .int .i64 2, .bool false] w (Ret (.agg #[.int .u8 a0, .int .u8 a1, .int .u8 0, .int .u8 0]) ((w.alloc (.cells #[.int .u8 a0, .int .u8 a1, .int .u8 0, .int .u8 0] 24)).alloc (.cells #[.int .u8 a0, .int .u8 a1, .int .u8 0, .int .u8 0] 24))) := by
  go_enter Try.func21, Try.ntmps21
  go_wp2
  refine wp_loop_rounds 3 ?_
  rw [rounds_succ]
  go_wp2
  try go_region
  go_wp2
  rw [rounds_succ]
  go_wp2
  try go_region
  go_wp2
  rw [rounds_succ]
  go_wp2
  refine bodyPost_ret (v := .agg #[.int .u8 a0, .int .u8 a1, .int .u8 0, .int .u8 0]) (by simp [results, Try.results21, go_sem]) rfl ?_
  exact ⟨rfl, by first | exact ⟨0, rfl⟩ | exact ⟨3, rfl⟩ | exact ⟨4, rfl⟩ | exact ⟨_, rfl⟩⟩
set_option maxRecDepth 100000 in
set_option maxHeartbeats 4000000 in
theorem narrow21_o (a0 a1 a2 a3 : Int) (w : World) (k : Int) (sg : Bool) (h1 : ¬ k = 1) (h2 : ¬ k = 2) : Calls Try.prog 21 #[.agg #[.int .u8 a0, .int .u8 a1, .int .u8 a2, .int .u8 a3], .int .i64 k, .bool sg] w (Ret (.agg #[.int .u8 a0, .int .u8 a1, .int .u8 a2, .int .u8 a3]) ((w.alloc (.cells #[.int .u8 a0, .int .u8 a1, .int .u8 a2, .int .u8 a3] 24)).alloc (.cells #[.int .u8 a0, .int .u8 a1, .int .u8 a2, .int .u8 a3] 24))) := by
  go_enter Try.func21, Try.ntmps21
  have e1 : (k != 1) = true := by simp [h1]
  have e2 : (k != 2) = true := by simp [h2]
  go_wp2
  try simp only [e1, e2, Bool.and_true, Bool.true_and] at *
  try go_wp2
  refine bodyPost_ret (v := .agg #[.int .u8 a0, .int .u8 a1, .int .u8 a2, .int .u8 a3]) (by simp [results, Try.results21, go_sem]) rfl ?_
  exact ⟨rfl, by first | exact ⟨0, rfl⟩ | exact ⟨3, rfl⟩ | exact ⟨4, rfl⟩ | exact ⟨_, rfl⟩⟩
set_option maxRecDepth 100000 in
set_option maxHeartbeats 4000000 in
theorem narrow26_1t (a0 a1 a2 a3 : Int) (w : World) : Calls Try.prog 26 #[.agg #[.int .u8 a0, .int .u8 a1, .int .u8 a2, .int .u8 a3], .int .i64 1, .bool true] w (Ret (.agg #[.int .u8 a0, .int .u8 a0, .int .u8 a0, .int .u8 a0]) (((w.alloc (.cells #[.int .u8 a0, .int .u8 a1, .int .u8 a2, .int .u8 a3] 24)).alloc (.cells #[.int .u8 a0, .int .u8 a0, .int .u8 a0, .int .u8 a0] 24)).alloc (.cells #[.int .u8 a0, .int .u8 a0, .int .u8 a0, .int .u8 a0] 24))) := by
  go_enter Try.func26, Try.ntmps26
  go_wp2
  refine wp_loop_rounds 5 ?_
  rw [rounds_succ]
  go_wp2
  try go_region
  go_wp2
  rw [rounds_succ]
  go_wp2
  try go_region
  go_wp2
  rw [rounds_succ]
  go_wp2
  try go_region
  go_wp2
  rw [rounds_succ]
  go_wp2
  try go_region
  go_wp2
  rw [rounds_succ]
  go_wp2
  refine bodyPost_ret (v := .agg #[.int .u8 a0, .int .u8 a0, .int .u8 a0, .int .u8 a0]) (by simp [results, Try.results26, go_sem]) rfl ?_
  exact ⟨rfl, by first | exact ⟨0, rfl⟩ | exact ⟨3, rfl⟩ | exact ⟨4, rfl⟩ | exact ⟨_, rfl⟩⟩
set_option maxRecDepth 100000 in
set_option maxHeartbeats 4000000 in
theorem narrow26_1f (a0 a1 a2 a3 : Int) (w : World) : Calls Try.prog 26 #[.agg #[.int .u8 a0, .int .u8 a1, .int .u8 a2, .int .u8 a3], .int .i64 1, .bool false] w (Ret (.agg #[.int .u8 a0, .int .u8 0, .int .u8 0, .int .u8 0]) (((w.alloc (.cells #[.int .u8 a0, .int .u8 a1, .int .u8 a2, .int .u8 a3] 24)).alloc (.cells #[.int .u8 a0, .int .u8 0, .int .u8 0, .int .u8 0] 24)).alloc (.cells #[.int .u8 a0, .int .u8 0, .int .u8 0, .int .u8 0] 24))) := by
  go_enter Try.func26, Try.ntmps26
  go_wp2
  refine wp_loop_rounds 5 ?_
  rw [rounds_succ]
  go_wp2
  try go_region
  go_wp2
  rw [rounds_succ]
  go_wp2
  try go_region
  go_wp2
  rw [rounds_succ]
  go_wp2
  try go_region
  go_wp2
  rw [rounds_succ]
  go_wp2
  try go_region
  go_wp2
  rw [rounds_succ]
  go_wp2
  refine bodyPost_ret (v := .agg #[.int .u8 a0, .int .u8 0, .int .u8 0, .int .u8 0]) (by simp [results, Try.results26, go_sem]) rfl ?_
  exact ⟨rfl, by first | exact ⟨0, rfl⟩ | exact ⟨3, rfl⟩ | exact ⟨4, rfl⟩ | exact ⟨_, rfl⟩⟩
set_option maxRecDepth 100000 in
set_option maxHeartbeats 4000000 in
theorem narrow26_2t (a0 a1 a2 a3 : Int) (w : World) : Calls Try.prog 26 #[.agg #[.int .u8 a0, .int .u8 a1, .int .u8 a2, .int .u8 a3], .int .i64 2, .bool true] w (Ret (.agg #[.int .u8 a0, .int .u8 a1, .int .u8 a1, .int .u8 a1]) (((w.alloc (.cells #[.int .u8 a0, .int .u8 a1, .int .u8 a2, .int .u8 a3] 24)).alloc (.cells #[.int .u8 a0, .int .u8 a1, .int .u8 a1, .int .u8 a1] 24)).alloc (.cells #[.int .u8 a0, .int .u8 a1, .int .u8 a1, .int .u8 a1] 24))) := by
  go_enter Try.func26, Try.ntmps26
  go_wp2
  refine wp_loop_rounds 5 ?_
  rw [rounds_succ]
  go_wp2
  try go_region
  go_wp2
  rw [rounds_succ]
  go_wp2
  try go_region
  go_wp2
  rw [rounds_succ]
  go_wp2
  try go_region
  go_wp2
  rw [rounds_succ]
  go_wp2
  try go_region
  go_wp2
  rw [rounds_succ]
  go_wp2
  refine bodyPost_ret (v := .agg #[.int .u8 a0, .int .u8 a1, .int .u8 a1, .int .u8 a1]) (by simp [results, Try.results26, go_sem]) rfl ?_
  exact ⟨rfl, by first | exact ⟨0, rfl⟩ | exact ⟨3, rfl⟩ | exact ⟨4, rfl⟩ | exact ⟨_, rfl⟩⟩
set_option maxRecDepth 100000 in
set_option maxHeartbeats 4000000 in
theorem narrow26_2f (a0 a1 a2 a3 : Int) (w : World) : Calls Try.prog 26 #[.agg #[.int .u8 a0, .int .u8 a1, .int .u8 a2, .int .u8 a3], .int .i64 2, .bool false] w (Ret (.agg #[.int .u8 a0, .int .u8 a1, .int .u8 0, .int .u8 0]) (((w.alloc (.cells #[.int .u8 a0, .int .u8 a1, .int .u8 a2, .int .u8 a3] 24)).alloc (.cells #[.int .u8 a0, .int .u8 a1, .int .u8 0, .int .u8 0] 24)).alloc (.cells #[.int .u8 a0, .int .u8 a1, .int .u8 0, .int .u8 0] 24))) := by
  go_enter Try.func26, Try.ntmps26
  go_wp2
  refine wp_loop_rounds 5 ?_
  rw [rounds_succ]
  go_wp2
  try go_region
  go_wp2
  rw [rounds_succ]
  go_wp2
  try go_region
  go_wp2
  rw [rounds_succ]
  go_wp2
  try go_region
  go_wp2
  rw [rounds_succ]
  go_wp2
  try go_region
  go_wp2
  rw [rounds_succ]
  go_wp2
  refine bodyPost_ret (v := .agg #[.int .u8 a0, .int .u8 a1, .int .u8 0, .int .u8 0]) (by simp [results, Try.results26, go_sem]) rfl ?_
  exact ⟨rfl, by first | exact ⟨0, rfl⟩ | exact ⟨3, rfl⟩ | exact ⟨4, rfl⟩ | exact ⟨_, rfl⟩⟩
set_option maxRecDepth 100000 in
set_option maxHeartbeats 4000000 in
theorem narrow26_o (a0 a1 a2 a3 : Int) (w : World) (k : Int) (sg : Bool) (h1 : ¬ k = 1) (h2 : ¬ k = 2) : Calls Try.prog 26 #[.agg #[.int .u8 a0, .int .u8 a1, .int .u8 a2, .int .u8 a3], .int .i64 k, .bool sg] w (Ret (.agg #[.int .u8 a0, .int .u8 a1, .int .u8 a2, .int .u8 a3]) ((w.alloc (.cells #[.int .u8 a0, .int .u8 a1, .int .u8 a2, .int .u8 a3] 24)).alloc (.cells #[.int .u8 a0, .int .u8 a1, .int .u8 a2, .int .u8 a3] 24))) := by
  go_enter Try.func26, Try.ntmps26
  have e1 : (k != 1) = true := by simp [h1]
  have e2 : (k != 2) = true := by simp [h2]
  go_wp2
  try simp only [e1, e2, Bool.and_true, Bool.true_and] at *
  try go_wp2
  refine bodyPost_ret (v := .agg #[.int .u8 a0, .int .u8 a1, .int .u8 a2, .int .u8 a3]) (by simp [results, Try.results26, go_sem]) rfl ?_
  exact ⟨rfl, by first | exact ⟨0, rfl⟩ | exact ⟨3, rfl⟩ | exact ⟨4, rfl⟩ | exact ⟨_, rfl⟩⟩
end Go.Proofs.Ytbhoijkamnaopaa.Tag
