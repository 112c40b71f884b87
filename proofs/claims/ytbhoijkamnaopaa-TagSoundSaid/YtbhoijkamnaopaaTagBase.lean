/- What the small functions over labels answer: All, Fill, Join, Up, Narrow, the program's and the reference's. -/
import Derived.Test.YtbhoijkamnaopaaProg
import Derived.Test.YtbhoijkamnaopaaWWords
import Derived.Test.YtbhoijkamnaopaaWLast
import Derived.Test.YtbhoijkamnaopaaWMore
import Derived.StillTailTactics
import Derived.BigRegion
import Derived.LoopN
import Derived.Deep.RegionHeld3
import Derived.Lib.Hide
namespace Go.Proofs.Ytbhoijkamnaopaa.Tag
open Go Go.RowKit Go.Proofs.YtbhoijkamnaopaaW.PrintWords Go.Proofs.YtbhoijkamnaopaaW.PrintLast Go.Proofs.YtbhoijkamnaopaaW.PrintMore
set_option linter.unusedVariables false
set_option linter.unusedSimpArgs false
/-- A value is answered, the world is W but for draws. -/
def Ret (v : Value) (W : World) (e : Ending) (w' : World) : Prop := e = .returned v ∧ ∃ n, w' = W.drewN n
@[go_sem] theorem alloc_drewN (w : World) (n : Nat) (x : Obj) : (w.drewN n).alloc x = (w.alloc x).drewN n := rfl
@[go_sem] theorem alloc_drew (w : World) (x : Obj) : w.drew.alloc x = (w.alloc x).drew := rfl
@[go_sem] theorem setCell_drewN (w : World) (n : Nat) (a : Addr) (v : Value) : (w.drewN n).setCell a v = (w.setCell a v).drewN n := by
  unfold World.setCell
  simp only [World.heap_drewN]
  split <;> (try split) <;> rfl
theorem drew4 (w : World) : w.drew.drew.drew.drew = w.drewN 4 := rfl
theorem drew3 (w : World) : w.drew.drew.drew = w.drewN 3 := rfl
set_option maxRecDepth 100000 in
set_option maxHeartbeats 4000000 in
theorem all17 (a0 a1 a2 a3 : Int) (w : World) : Calls Try.prog 17 #[.agg #[.int .u8 a0, .int .u8 a1, .int .u8 a2, .int .u8 a3]] w (Ret (.int .u8 (bits .or .u8 (bits .or .u8 (bits .or .u8 a0 a1) a2) a3)) (w.alloc (.cells #[.int .u8 a0, .int .u8 a1, .int .u8 a2, .int .u8 a3] 24))) := by
  go_enter Try.func17, Try.ntmps17
  go_wp2
  go_ret
  exact ⟨rfl, 0, rfl⟩
set_option maxRecDepth 100000 in
set_option maxHeartbeats 4000000 in
theorem all22 (a0 a1 a2 a3 : Int) (w : World) : Calls Try.prog 22 #[.agg #[.int .u8 a0, .int .u8 a1, .int .u8 a2, .int .u8 a3]] w (Ret (.int .u8 (bits .or .u8 (bits .or .u8 (bits .or .u8 a0 a1) a2) a3)) (w.alloc (.cells #[.int .u8 a0, .int .u8 a1, .int .u8 a2, .int .u8 a3] 24))) := by
  go_enter Try.func22, Try.ntmps22
  go_wp2
  go_ret
  exact ⟨rfl, 0, rfl⟩
set_option maxRecDepth 100000 in
set_option maxHeartbeats 4000000 in
theorem fill20 (a0 : Int) (w : World) : Calls Try.prog 20 #[.int .u8 a0] w (Ret (.agg #[.int .u8 a0, .int .u8 a0, .int .u8 a0, .int .u8 a0]) (w.alloc (.cells #[.int .u8 a0, .int .u8 a0, .int .u8 a0, .int .u8 a0] 24))) := by
  go_enter Try.func20, Try.ntmps20
  go_wp2
  refine bodyPost_ret (v := .agg #[.int .u8 a0, .int .u8 a0, .int .u8 a0, .int .u8 a0]) (by simp [results, Try.results20, go_sem]) rfl ?_
  exact ⟨rfl, by first | exact ⟨0, rfl⟩ | exact ⟨3, rfl⟩ | exact ⟨4, rfl⟩ | exact ⟨_, rfl⟩⟩
set_option maxRecDepth 100000 in
set_option maxHeartbeats 4000000 in
theorem fill23 (a0 : Int) (w : World) : Calls Try.prog 23 #[.int .u8 a0] w (Ret (.agg #[.int .u8 a0, .int .u8 a0, .int .u8 a0, .int .u8 a0]) (w.alloc (.cells #[.int .u8 a0, .int .u8 a0, .int .u8 a0, .int .u8 a0] 24))) := by
  go_enter Try.func23, Try.ntmps23
  go_wp2
  refine bodyPost_ret (v := .agg #[.int .u8 a0, .int .u8 a0, .int .u8 a0, .int .u8 a0]) (by simp [results, Try.results23, go_sem]) rfl ?_
  exact ⟨rfl, by first | exact ⟨0, rfl⟩ | exact ⟨3, rfl⟩ | exact ⟨4, rfl⟩ | exact ⟨_, rfl⟩⟩
set_option maxRecDepth 100000 in
set_option maxHeartbeats 4000000 in
theorem join18 (a0 a1 a2 a3 b0 b1 b2 b3 : Int) (w : World) : Calls Try.prog 18 #[.agg #[.int .u8 a0, .int .u8 a1, .int .u8 a2, .int .u8 a3], .agg #[.int .u8 b0, .int .u8 b1, .int .u8 b2, .int .u8 b3]] w (Ret (.agg #[.int .u8 (bits .or .u8 a0 b0), .int .u8 (bits .or .u8 a1 b1), .int .u8 (bits .or .u8 a2 b2), .int .u8 (bits .or .u8 a3 b3)]) (((w.alloc (.cells #[.int .u8 (bits .or .u8 a0 b0), .int .u8 (bits .or .u8 a1 b1), .int .u8 (bits .or .u8 a2 b2), .int .u8 (bits .or .u8 a3 b3)] 24)).alloc (.cells #[.int .u8 b0, .int .u8 b1, .int .u8 b2, .int .u8 b3] 24)).alloc (.cells #[.int .u8 (bits .or .u8 a0 b0), .int .u8 (bits .or .u8 a1 b1), .int .u8 (bits .or .u8 a2 b2), .int .u8 (bits .or .u8 a3 b3)] 24))) := by
  go_enter Try.func18, Try.ntmps18
  go_wp2
  refine wp_loop_rounds 5 ?_
  rw [rounds_succ]
  go_wp2
  go_region
  go_wp2
  rw [rounds_succ]
  go_wp2
  go_region
  go_wp2
  rw [rounds_succ]
  go_wp2
  go_region
  go_wp2
  rw [rounds_succ]
  go_wp2
  go_region
  go_wp2
  rw [rounds_succ]
  go_wp2
  refine bodyPost_ret (v := .agg #[.int .u8 (bits .or .u8 a0 b0), .int .u8 (bits .or .u8 a1 b1), .int .u8 (bits .or .u8 a2 b2), .int .u8 (bits .or .u8 a3 b3)]) (by simp [results, Try.results18, go_sem]) rfl ?_
  exact ⟨rfl, by first | exact ⟨0, rfl⟩ | exact ⟨3, rfl⟩ | exact ⟨4, rfl⟩ | exact ⟨_, rfl⟩⟩
set_option maxRecDepth 100000 in
set_option maxHeartbeats 4000000 in
theorem join24 (a0 a1 a2 a3 b0 b1 b2 b3 : Int) (w : World) : Calls Try.prog 24 #[.agg #[.int .u8 a0, .int .u8 a1, .int .u8 a2, .int .u8 a3], .agg #[.int .u8 b0, .int .u8 b1, .int .u8 b2, .int .u8 b3]] w (Ret (.agg #[.int .u8 (bits .or .u8 a0 b0), .int .u8 (bits .or .u8 a1 b1), .int .u8 (bits .or .u8 a2 b2), .int .u8 (bits .or .u8 a3 b3)]) (((w.alloc (.cells #[.int .u8 a0, .int .u8 a1, .int .u8 a2, .int .u8 a3] 24)).alloc (.cells #[.int .u8 b0, .int .u8 b1, .int .u8 b2, .int .u8 b3] 24)).alloc (.cells #[.int .u8 (bits .or .u8 a0 b0), .int .u8 (bits .or .u8 a1 b1), .int .u8 (bits .or .u8 a2 b2), .int .u8 (bits .or .u8 a3 b3)] 24))) := by
  go_enter Try.func24, Try.ntmps24
  go_wp2
  refine bodyPost_ret (v := .agg #[.int .u8 (bits .or .u8 a0 b0), .int .u8 (bits .or .u8 a1 b1), .int .u8 (bits .or .u8 a2 b2), .int .u8 (bits .or .u8 a3 b3)]) (by simp [results, Try.results24, go_sem]) rfl ?_
  exact ⟨rfl, by first | exact ⟨0, rfl⟩ | exact ⟨3, rfl⟩ | exact ⟨4, rfl⟩ | exact ⟨_, rfl⟩⟩
set_option maxRecDepth 100000 in
set_option maxHeartbeats 4000000 in
theorem up19 (a0 a1 a2 a3 : Int) (w : World) : Calls Try.prog 19 #[.agg #[.int .u8 a0, .int .u8 a1, .int .u8 a2, .int .u8 a3]] w (Ret (.agg #[.int .u8 a0, .int .u8 (bits .or .u8 a1 a0), .int .u8 (bits .or .u8 a2 (bits .or .u8 a1 a0)), .int .u8 (bits .or .u8 a3 (bits .or .u8 a2 (bits .or .u8 a1 a0)))]) ((w.alloc (.cells #[.int .u8 a0, .int .u8 (bits .or .u8 a1 a0), .int .u8 (bits .or .u8 a2 (bits .or .u8 a1 a0)), .int .u8 (bits .or .u8 a3 (bits .or .u8 a2 (bits .or .u8 a1 a0)))] 24)).alloc (.cells #[.int .u8 a0, .int .u8 (bits .or .u8 a1 a0), .int .u8 (bits .or .u8 a2 (bits .or .u8 a1 a0)), .int .u8 (bits .or .u8 a3 (bits .or .u8 a2 (bits .or .u8 a1 a0)))] 24))) := by
  go_enter Try.func19, Try.ntmps19
  go_wp2
  refine wp_loop_rounds 4 ?_
  rw [rounds_succ]
  go_wp2
  go_region
  go_wp2
  rw [rounds_succ]
  go_wp2
  go_region
  go_wp2
  rw [rounds_succ]
  go_wp2
  go_region
  go_wp2
  rw [rounds_succ]
  go_wp2
  refine bodyPost_ret (v := .agg #[.int .u8 a0, .int .u8 (bits .or .u8 a1 a0), .int .u8 (bits .or .u8 a2 (bits .or .u8 a1 a0)), .int .u8 (bits .or .u8 a3 (bits .or .u8 a2 (bits .or .u8 a1 a0)))]) (by simp [results, Try.results19, go_sem]) rfl ?_
  exact ⟨rfl, by first | exact ⟨0, rfl⟩ | exact ⟨3, rfl⟩ | exact ⟨4, rfl⟩ | exact ⟨_, rfl⟩⟩
set_option maxRecDepth 100000 in
set_option maxHeartbeats 4000000 in
theorem up25 (a0 a1 a2 a3 : Int) (w : World) : Calls Try.prog 25 #[.agg #[.int .u8 a0, .int .u8 a1, .int .u8 a2, .int .u8 a3]] w (Ret (.agg #[.int .u8 a0, .int .u8 (bits .or .u8 a0 a1), .int .u8 (bits .or .u8 (bits .or .u8 a0 a1) a2), .int .u8 (bits .or .u8 (bits .or .u8 (bits .or .u8 a0 a1) a2) a3)]) (((w.alloc (.cells #[.int .u8 a0, .int .u8 a1, .int .u8 a2, .int .u8 a3] 24)).alloc (.cells #[.int .u8 a0, .int .u8 (bits .or .u8 a0 a1), .int .u8 (bits .or .u8 (bits .or .u8 a0 a1) a2), .int .u8 (bits .or .u8 (bits .or .u8 (bits .or .u8 a0 a1) a2) a3)] 24)).alloc (.cells #[.int .u8 a0, .int .u8 a1, .int .u8 a2, .int .u8 a3] 24))) := by
  go_enter Try.func25, Try.ntmps25
  go_wp2
  go_region_held3 (fun w' => w'.cell? ⟨w.heap.size, 0, none⟩ = some (.int .u8 a0) ∧ w'.cell? ⟨w.heap.size, 1, none⟩ = some (.int .u8 a1) ∧ w'.cell? ⟨w.heap.size, 2, none⟩ = some (.int .u8 a2) ∧ w'.cell? ⟨w.heap.size, 3, none⟩ = some (.int .u8 a3)) (go_keep) (first | (go_at_call 22; refine (all22 _ _ _ _ _).mono ?_; rintro e w' ⟨rfl, n, rfl⟩))
  rename_i hx
  clear hx
  go_wp2
  refine bodyPost_ret (v := .agg #[.int .u8 a0, .int .u8 (bits .or .u8 a0 a1), .int .u8 (bits .or .u8 (bits .or .u8 a0 a1) a2), .int .u8 (bits .or .u8 (bits .or .u8 (bits .or .u8 a0 a1) a2) a3)]) (by simp [results, Try.results25, go_sem]) rfl ?_
  exact ⟨rfl, by first | exact ⟨0, rfl⟩ | exact ⟨3, rfl⟩ | exact ⟨4, rfl⟩ | exact ⟨_, rfl⟩⟩
end Go.Proofs.Ytbhoijkamnaopaa.Tag
