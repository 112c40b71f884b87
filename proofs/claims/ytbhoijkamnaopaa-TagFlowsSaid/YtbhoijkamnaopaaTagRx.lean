/- Several of this session's texts as one. -/
import Derived.Test.YtbhoijkamnaopaaTagC
import Derived.LoopTactic
import Derived.StillTailTactics
import Derived.BigRegion
import Derived.LoopN
import Derived.Deep.RegionHeld3
import Derived.Lib.Hide
namespace Go.Proofs.Ytbhoijkamnaopaa.Tag
open Go Go.RowKit Go.Proofs.YtbhoijkamnaopaaW.PrintWords Go.Proofs.YtbhoijkamnaopaaW.PrintLast Go.Proofs.YtbhoijkamnaopaaW.PrintMore Go.Proofs.Ytbhoijkamnaopaa Go.Sort
set_option linter.unusedVariables false
set_option linter.unusedSimpArgs false
attribute [local go_sem] Reg.qeOp Reg.qeUpon
set_option maxRecDepth 100000 in
set_option maxHeartbeats 40000000 in
theorem flow14a_ {a0 a1 a2 a3 b0 b1 b2 b3 x0 x1 x2 x3 kind a b : Int} (W : World) (C : ∀ w : World, Calls Try.prog 24 #[.agg #[.int .u8 a0, .int .u8 a1, .int .u8 a2, .int .u8 a3], .agg #[.int .u8 b0, .int .u8 b1, .int .u8 b2, .int .u8 b3]] w (RetE (.agg #[.int .u8 x0, .int .u8 x1, .int .u8 x2, .int .u8 x3]) w)) (hk : kind = 5 ∨ kind = 8) : Calls Try.prog 14 #[.int .i64 kind, .int .u32 a, .int .u32 b, .agg #[.int .u8 a0, .int .u8 a1, .int .u8 a2, .int .u8 a3], .agg #[.int .u8 b0, .int .u8 b1, .int .u8 b2, .int .u8 b3]] W (RetE (.tuple #[.agg #[.int .u8 x0, .int .u8 x1, .int .u8 x2, .int .u8 x3], .bool true]) W) := by
  rcases hk with rfl | rfl
  all_goals
    go_enter Try.func14, Try.ntmps14
    go_wp2_with fail
    refine (C _).mono ?_
    rintro e w1 ⟨rfl, hb⟩
    have G2 : w1.heap[W.heap.size + 1 + 1]? = some (.cells #[.int .u8 0, .int .u8 0, .int .u8 0, .int .u8 0] 24 (0, 0)) := Reg.blk_later (by have h := blk_alloc (blk_new ((W.alloc (.cells #[.int .u8 a0, .int .u8 a1, .int .u8 a2, .int .u8 a3] 24)).alloc (.cells #[.int .u8 b0, .int .u8 b1, .int .u8 b2, .int .u8 b3] 24)) (.cells #[.int .u8 0, .int .u8 0, .int .u8 0, .int .u8 0] 24)) (.cells #[.int .u8 0, .int .u8 0, .int .u8 0, .int .u8 0] 24); simpa using h) hb
    have hE : Ext W w1 := Ext.trans (by (repeat' (first | assumption | exact Ext.refl _ | refine Ext.drewN ?_ | refine Ext.drew ?_ | refine Ext.alloc ?_))) hb
    have c0 : w1.cell? ⟨W.heap.size + 1 + 1, 0, none⟩ = some (.int .u8 0) := (blk_cell G2 0).trans rfl
    have c1 : w1.cell? ⟨W.heap.size + 1 + 1, 1, none⟩ = some (.int .u8 0) := (blk_cell G2 1).trans rfl
    have c2 : w1.cell? ⟨W.heap.size + 1 + 1, 2, none⟩ = some (.int .u8 0) := (blk_cell G2 2).trans rfl
    have c3 : w1.cell? ⟨W.heap.size + 1 + 1, 3, none⟩ = some (.int .u8 0) := (blk_cell G2 3).trans rfl
    have z0 : w1.frozen? ⟨W.heap.size + 1 + 1, 0, none⟩ = false := blk_frozen G2 0
    have z1 : w1.frozen? ⟨W.heap.size + 1 + 1, 1, none⟩ = false := blk_frozen G2 1
    have z2 : w1.frozen? ⟨W.heap.size + 1 + 1, 2, none⟩ = false := blk_frozen G2 2
    have z3 : w1.frozen? ⟨W.heap.size + 1 + 1, 3, none⟩ = false := blk_frozen G2 3
    go_wp2
    have le2 : W.heap.size ≤ W.heap.size + 1 + 1 := by omega
    refine Reg.post_open (fun w' => Ext W w' ∧ w'.heap[W.heap.size + 1 + 1]? = some (.cells #[.int .u8 x0, .int .u8 x1, .int .u8 x2, .int .u8 x3] 24 (0, 0))) ⟨(Below.setCell (Below.setCell (Below.setCell (Below.setCell hE le2 _) le2 _) le2 _) le2 _), (blk_set (blk_set (blk_set (blk_set G2 0 _) 1 _) 2 _) 3 _)⟩ (fun Bz hS => ?_)
    obtain ⟨hEz, Gz⟩ := hS
    have r0 : Bz.cell? ⟨W.heap.size + 1 + 1, 0, none⟩ = some (.int .u8 x0) := (blk_cell Gz 0).trans rfl
    have r1 : Bz.cell? ⟨W.heap.size + 1 + 1, 1, none⟩ = some (.int .u8 x1) := (blk_cell Gz 1).trans rfl
    have r2 : Bz.cell? ⟨W.heap.size + 1 + 1, 2, none⟩ = some (.int .u8 x2) := (blk_cell Gz 2).trans rfl
    have r3 : Bz.cell? ⟨W.heap.size + 1 + 1, 3, none⟩ = some (.int .u8 x3) := (blk_cell Gz 3).trans rfl
    refine bodyPost_ret (v := .tuple #[.agg #[.int .u8 x0, .int .u8 x1, .int .u8 x2, .int .u8 x3], .bool true]) (by simp [results, Try.results14, go_sem, r0, r1, r2, r3]) rfl ?_
    exact ⟨rfl, hEz⟩
set_option maxRecDepth 100000 in
set_option maxHeartbeats 40000000 in
theorem flow14c_ {a0 a1 a2 a3 b0 b1 b2 b3 x0 x1 x2 x3 kind j0 j1 j2 j3 a b : Int} (W : World) (C : ∀ w : World, Calls Try.prog 24 #[.agg #[.int .u8 a0, .int .u8 a1, .int .u8 a2, .int .u8 a3], .agg #[.int .u8 b0, .int .u8 b1, .int .u8 b2, .int .u8 b3]] w (RetE (.agg #[.int .u8 j0, .int .u8 j1, .int .u8 j2, .int .u8 j3]) w)) (D : ∀ w : World, Calls Try.prog 25 #[.agg #[.int .u8 j0, .int .u8 j1, .int .u8 j2, .int .u8 j3]] w (RetE (.agg #[.int .u8 x0, .int .u8 x1, .int .u8 x2, .int .u8 x3]) w)) (hk : kind = 0 ∨ kind = 1 ∨ kind = 10) : Calls Try.prog 14 #[.int .i64 kind, .int .u32 a, .int .u32 b, .agg #[.int .u8 a0, .int .u8 a1, .int .u8 a2, .int .u8 a3], .agg #[.int .u8 b0, .int .u8 b1, .int .u8 b2, .int .u8 b3]] W (RetE (.tuple #[.agg #[.int .u8 x0, .int .u8 x1, .int .u8 x2, .int .u8 x3], .bool true]) W) := by
  rcases hk with rfl | rfl | rfl
  all_goals
    go_enter Try.func14, Try.ntmps14
    go_wp2_with fail
    refine (C _).mono ?_
    rintro e w0 ⟨rfl, hb0⟩
    have G2a : w0.heap[W.heap.size + 1 + 1]? = some (.cells #[.int .u8 0, .int .u8 0, .int .u8 0, .int .u8 0] 24 (0, 0)) := Reg.blk_later (by have h := blk_alloc (blk_new ((W.alloc (.cells #[.int .u8 a0, .int .u8 a1, .int .u8 a2, .int .u8 a3] 24)).alloc (.cells #[.int .u8 b0, .int .u8 b1, .int .u8 b2, .int .u8 b3] 24)) (.cells #[.int .u8 0, .int .u8 0, .int .u8 0, .int .u8 0] 24)) (.cells #[.int .u8 0, .int .u8 0, .int .u8 0, .int .u8 0] 24); simpa using h) hb0
    have hE0 : Ext W w0 := Ext.trans (by (repeat' (first | assumption | exact Ext.refl _ | refine Ext.drewN ?_ | refine Ext.drew ?_ | refine Ext.alloc ?_))) hb0
    go_wp2_with fail
    refine (D _).mono ?_
    rintro e w1 ⟨rfl, hb⟩
    have G2 := Reg.blk_later G2a hb
    have hE : Ext W w1 := Ext.trans hE0 hb
    have c0 : w1.cell? ⟨W.heap.size + 1 + 1, 0, none⟩ = some (.int .u8 0) := (blk_cell G2 0).trans rfl
    have c1 : w1.cell? ⟨W.heap.size + 1 + 1, 1, none⟩ = some (.int .u8 0) := (blk_cell G2 1).trans rfl
    have c2 : w1.cell? ⟨W.heap.size + 1 + 1, 2, none⟩ = some (.int .u8 0) := (blk_cell G2 2).trans rfl
    have c3 : w1.cell? ⟨W.heap.size + 1 + 1, 3, none⟩ = some (.int .u8 0) := (blk_cell G2 3).trans rfl
    have z0 : w1.frozen? ⟨W.heap.size + 1 + 1, 0, none⟩ = false := blk_frozen G2 0
    have z1 : w1.frozen? ⟨W.heap.size + 1 + 1, 1, none⟩ = false := blk_frozen G2 1
    have z2 : w1.frozen? ⟨W.heap.size + 1 + 1, 2, none⟩ = false := blk_frozen G2 2
    have z3 : w1.frozen? ⟨W.heap.size + 1 + 1, 3, none⟩ = false := blk_frozen G2 3
    go_wp2
    have le2 : W.heap.size ≤ W.heap.size + 1 + 1 := by omega
    refine Reg.post_open (fun w' => Ext W w' ∧ w'.heap[W.heap.size + 1 + 1]? = some (.cells #[.int .u8 x0, .int .u8 x1, .int .u8 x2, .int .u8 x3] 24 (0, 0))) ⟨(Below.setCell (Below.setCell (Below.setCell (Below.setCell hE le2 _) le2 _) le2 _) le2 _), (blk_set (blk_set (blk_set (blk_set G2 0 _) 1 _) 2 _) 3 _)⟩ (fun Bz hS => ?_)
    obtain ⟨hEz, Gz⟩ := hS
    have r0 : Bz.cell? ⟨W.heap.size + 1 + 1, 0, none⟩ = some (.int .u8 x0) := (blk_cell Gz 0).trans rfl
    have r1 : Bz.cell? ⟨W.heap.size + 1 + 1, 1, none⟩ = some (.int .u8 x1) := (blk_cell Gz 1).trans rfl
    have r2 : Bz.cell? ⟨W.heap.size + 1 + 1, 2, none⟩ = some (.int .u8 x2) := (blk_cell Gz 2).trans rfl
    have r3 : Bz.cell? ⟨W.heap.size + 1 + 1, 3, none⟩ = some (.int .u8 x3) := (blk_cell Gz 3).trans rfl
    refine bodyPost_ret (v := .tuple #[.agg #[.int .u8 x0, .int .u8 x1, .int .u8 x2, .int .u8 x3], .bool true]) (by simp [results, Try.results14, go_sem, r0, r1, r2, r3]) rfl ?_
    exact ⟨rfl, hEz⟩
set_option maxRecDepth 100000 in
set_option maxHeartbeats 40000000 in
theorem flow14d_ {a0 a1 a2 a3 b0 b1 b2 b3 x0 x1 x2 x3 kind p a b : Int} (W : World) (A : ∀ w : World, Calls Try.prog 22 #[.agg #[.int .u8 a0, .int .u8 a1, .int .u8 a2, .int .u8 a3]] w (RetE (.int .u8 p) w)) (F : ∀ w : World, Calls Try.prog 23 #[.int .u8 (bits .or .u8 p b0)] w (RetE (.agg #[.int .u8 x0, .int .u8 x1, .int .u8 x2, .int .u8 x3]) w)) (hz : ¬ b0 = 0) (hk : kind = 2 ∨ kind = 6 ∨ kind = 7) : Calls Try.prog 14 #[.int .i64 kind, .int .u32 a, .int .u32 b, .agg #[.int .u8 a0, .int .u8 a1, .int .u8 a2, .int .u8 a3], .agg #[.int .u8 b0, .int .u8 b1, .int .u8 b2, .int .u8 b3]] W (RetE (.tuple #[.agg #[.int .u8 x0, .int .u8 x1, .int .u8 x2, .int .u8 x3], .bool true]) W) := by
  rcases hk with rfl | rfl | rfl
  all_goals
    go_enter Try.func14, Try.ntmps14
    go_wp2_with fail
    refine Reg.wp_open (fun w' => Ext W w' ∧ w'.heap[W.heap.size]? = some (.cells #[.int .u8 a0, .int .u8 a1, .int .u8 a2, .int .u8 a3] 24 (0, 0)) ∧ w'.heap[W.heap.size + 1]? = some (.cells #[.int .u8 b0, .int .u8 b1, .int .u8 b2, .int .u8 b3] 24 (0, 0)) ∧ w'.heap[W.heap.size + 1 + 1]? = some (.cells #[.int .u8 0, .int .u8 0, .int .u8 0, .int .u8 0] 24 (0, 0))) ⟨by (repeat' (first | assumption | exact Ext.refl _ | refine Ext.drewN ?_ | refine Ext.drew ?_ | refine Ext.alloc ?_)), (by have h := blk_alloc (blk_alloc (blk_alloc (blk_new W (.cells #[.int .u8 a0, .int .u8 a1, .int .u8 a2, .int .u8 a3] 24)) (.cells #[.int .u8 b0, .int .u8 b1, .int .u8 b2, .int .u8 b3] 24)) (.cells #[.int .u8 0, .int .u8 0, .int .u8 0, .int .u8 0] 24)) (.cells #[.int .u8 0, .int .u8 0, .int .u8 0, .int .u8 0] 24); simpa using h), (by have h := blk_alloc (blk_alloc (blk_new (W.alloc (.cells #[.int .u8 a0, .int .u8 a1, .int .u8 a2, .int .u8 a3] 24)) (.cells #[.int .u8 b0, .int .u8 b1, .int .u8 b2, .int .u8 b3] 24)) (.cells #[.int .u8 0, .int .u8 0, .int .u8 0, .int .u8 0] 24)) (.cells #[.int .u8 0, .int .u8 0, .int .u8 0, .int .u8 0] 24); simpa using h), (by have h := blk_alloc (blk_new ((W.alloc (.cells #[.int .u8 a0, .int .u8 a1, .int .u8 a2, .int .u8 a3] 24)).alloc (.cells #[.int .u8 b0, .int .u8 b1, .int .u8 b2, .int .u8 b3] 24)) (.cells #[.int .u8 0, .int .u8 0, .int .u8 0, .int .u8 0] 24)) (.cells #[.int .u8 0, .int .u8 0, .int .u8 0, .int .u8 0] 24); simpa using h)⟩ (fun Bq hS => ?_)
    obtain ⟨hE, G0, G1, G2⟩ := hS
    have HE := Lib.hid hE
    clear hE
    have k00 := cell_regrown ((blk_cell G0 0).trans rfl : Bq.cell? ⟨W.heap.size, 0, none⟩ = some _)
    have k01 := cell_regrown ((blk_cell G0 1).trans rfl : Bq.cell? ⟨W.heap.size, 1, none⟩ = some _)
    have k02 := cell_regrown ((blk_cell G0 2).trans rfl : Bq.cell? ⟨W.heap.size, 2, none⟩ = some _)
    have k03 := cell_regrown ((blk_cell G0 3).trans rfl : Bq.cell? ⟨W.heap.size, 3, none⟩ = some _)
    have k10 := cell_regrown ((blk_cell G1 0).trans rfl : Bq.cell? ⟨W.heap.size + 1, 0, none⟩ = some _)
    have k11 := cell_regrown ((blk_cell G1 1).trans rfl : Bq.cell? ⟨W.heap.size + 1, 1, none⟩ = some _)
    have k12 := cell_regrown ((blk_cell G1 2).trans rfl : Bq.cell? ⟨W.heap.size + 1, 2, none⟩ = some _)
    have k13 := cell_regrown ((blk_cell G1 3).trans rfl : Bq.cell? ⟨W.heap.size + 1, 3, none⟩ = some _)
    have yA := Reg.call_at A Bq
    have yF := Reg.call_at F Bq
    have HG := Lib.hid G2
    clear G0 G1 G2 A F
    refine Reg.wp_region_tail (B := Bq) 6 (by kernel_rfl) (by kernel_rfl) (Below.refl _ Bq) ?_
    simp only [List.take_succ_cons, List.take_zero, List.drop_succ_cons, List.drop_zero]
    (repeat (first | (refine Reg.wpE_big (by rfl) (fun K hK => ?_) (by rfl); go_big_quiet_op; go_big_quiet_on) | (refine Reg.wpE_step (fun K hK => ?_); go_simp; first | (refine hK _ ?_; clear hK K) | (apply Exists.intro; refine ⟨fun _ => ?_, hK _ ?_⟩; (first | exact yA _ _ _ rfl | exact yF _ _ _ rfl); clear hK K))))
    refine Reg.wpE_nil ?_
    intro w1 hb1
    have G2 := Reg.blk_later HG.out hb1
    have hE : Ext W w1 := Ext.trans HE.out hb1
    clear HG HE yA yF k00 k01 k02 k03 k10 k11 k12 k13
    have c0 : w1.cell? ⟨W.heap.size + 1 + 1, 0, none⟩ = some (.int .u8 0) := (blk_cell G2 0).trans rfl
    have c1 : w1.cell? ⟨W.heap.size + 1 + 1, 1, none⟩ = some (.int .u8 0) := (blk_cell G2 1).trans rfl
    have c2 : w1.cell? ⟨W.heap.size + 1 + 1, 2, none⟩ = some (.int .u8 0) := (blk_cell G2 2).trans rfl
    have c3 : w1.cell? ⟨W.heap.size + 1 + 1, 3, none⟩ = some (.int .u8 0) := (blk_cell G2 3).trans rfl
    have z0 : w1.frozen? ⟨W.heap.size + 1 + 1, 0, none⟩ = false := blk_frozen G2 0
    have z1 : w1.frozen? ⟨W.heap.size + 1 + 1, 1, none⟩ = false := blk_frozen G2 1
    have z2 : w1.frozen? ⟨W.heap.size + 1 + 1, 2, none⟩ = false := blk_frozen G2 2
    have z3 : w1.frozen? ⟨W.heap.size + 1 + 1, 3, none⟩ = false := blk_frozen G2 3
    go_wp2
    have le2 : W.heap.size ≤ W.heap.size + 1 + 1 := by omega
    refine Reg.post_open (fun w' => Ext W w' ∧ w'.heap[W.heap.size + 1 + 1]? = some (.cells #[.int .u8 x0, .int .u8 x1, .int .u8 x2, .int .u8 x3] 24 (0, 0))) ⟨(Below.setCell (Below.setCell (Below.setCell (Below.setCell hE le2 _) le2 _) le2 _) le2 _), (blk_set (blk_set (blk_set (blk_set G2 0 _) 1 _) 2 _) 3 _)⟩ (fun Bz hS => ?_)
    obtain ⟨hEz, Gz⟩ := hS
    have r0 : Bz.cell? ⟨W.heap.size + 1 + 1, 0, none⟩ = some (.int .u8 x0) := (blk_cell Gz 0).trans rfl
    have r1 : Bz.cell? ⟨W.heap.size + 1 + 1, 1, none⟩ = some (.int .u8 x1) := (blk_cell Gz 1).trans rfl
    have r2 : Bz.cell? ⟨W.heap.size + 1 + 1, 2, none⟩ = some (.int .u8 x2) := (blk_cell Gz 2).trans rfl
    have r3 : Bz.cell? ⟨W.heap.size + 1 + 1, 3, none⟩ = some (.int .u8 x3) := (blk_cell Gz 3).trans rfl
    refine bodyPost_ret (v := .tuple #[.agg #[.int .u8 x0, .int .u8 x1, .int .u8 x2, .int .u8 x3], .bool true]) (by simp [results, Try.results14, go_sem, r0, r1, r2, r3]) rfl ?_
    exact ⟨rfl, hEz⟩
set_option maxRecDepth 100000 in
set_option maxHeartbeats 40000000 in
theorem flow14f_ {a0 a1 a2 a3 b0 b1 b2 b3 x0 x1 x2 x3 kind p q a b : Int} (W : World) (A : ∀ w : World, Calls Try.prog 22 #[.agg #[.int .u8 a0, .int .u8 a1, .int .u8 a2, .int .u8 a3]] w (RetE (.int .u8 p) w)) (B : ∀ w : World, Calls Try.prog 22 #[.agg #[.int .u8 b0, .int .u8 b1, .int .u8 b2, .int .u8 b3]] w (RetE (.int .u8 q) w)) (hk : kind = 3 ∨ kind = 4) : Calls Try.prog 14 #[.int .i64 kind, .int .u32 a, .int .u32 b, .agg #[.int .u8 a0, .int .u8 a1, .int .u8 a2, .int .u8 a3], .agg #[.int .u8 b0, .int .u8 b1, .int .u8 b2, .int .u8 b3]] W (RetE (.tuple #[.agg #[.int .u8 ((bits .or .u8 p q)), .int .u8 0, .int .u8 0, .int .u8 0], .bool true]) W) := by
  rcases hk with rfl | rfl
  all_goals
    go_enter Try.func14, Try.ntmps14
    go_wp2_with fail
    refine Reg.wp_open (fun w' => Ext W w' ∧ w'.heap[W.heap.size]? = some (.cells #[.int .u8 a0, .int .u8 a1, .int .u8 a2, .int .u8 a3] 24 (0, 0)) ∧ w'.heap[W.heap.size + 1]? = some (.cells #[.int .u8 b0, .int .u8 b1, .int .u8 b2, .int .u8 b3] 24 (0, 0)) ∧ w'.heap[W.heap.size + 1 + 1]? = some (.cells #[.int .u8 0, .int .u8 0, .int .u8 0, .int .u8 0] 24 (0, 0))) ⟨by (repeat' (first | assumption | exact Ext.refl _ | refine Ext.drewN ?_ | refine Ext.drew ?_ | refine Ext.alloc ?_)), (by have h := blk_alloc (blk_alloc (blk_alloc (blk_new W (.cells #[.int .u8 a0, .int .u8 a1, .int .u8 a2, .int .u8 a3] 24)) (.cells #[.int .u8 b0, .int .u8 b1, .int .u8 b2, .int .u8 b3] 24)) (.cells #[.int .u8 0, .int .u8 0, .int .u8 0, .int .u8 0] 24)) (.cells #[.int .u8 0, .int .u8 0, .int .u8 0, .int .u8 0] 24); simpa using h), (by have h := blk_alloc (blk_alloc (blk_new (W.alloc (.cells #[.int .u8 a0, .int .u8 a1, .int .u8 a2, .int .u8 a3] 24)) (.cells #[.int .u8 b0, .int .u8 b1, .int .u8 b2, .int .u8 b3] 24)) (.cells #[.int .u8 0, .int .u8 0, .int .u8 0, .int .u8 0] 24)) (.cells #[.int .u8 0, .int .u8 0, .int .u8 0, .int .u8 0] 24); simpa using h), (by have h := blk_alloc (blk_new ((W.alloc (.cells #[.int .u8 a0, .int .u8 a1, .int .u8 a2, .int .u8 a3] 24)).alloc (.cells #[.int .u8 b0, .int .u8 b1, .int .u8 b2, .int .u8 b3] 24)) (.cells #[.int .u8 0, .int .u8 0, .int .u8 0, .int .u8 0] 24)) (.cells #[.int .u8 0, .int .u8 0, .int .u8 0, .int .u8 0] 24); simpa using h)⟩ (fun Bq hS => ?_)
    obtain ⟨hE, G0, G1, G2⟩ := hS
    have HE := Lib.hid hE
    clear hE
    have k00 := cell_regrown ((blk_cell G0 0).trans rfl : Bq.cell? ⟨W.heap.size, 0, none⟩ = some _)
    have k01 := cell_regrown ((blk_cell G0 1).trans rfl : Bq.cell? ⟨W.heap.size, 1, none⟩ = some _)
    have k02 := cell_regrown ((blk_cell G0 2).trans rfl : Bq.cell? ⟨W.heap.size, 2, none⟩ = some _)
    have k03 := cell_regrown ((blk_cell G0 3).trans rfl : Bq.cell? ⟨W.heap.size, 3, none⟩ = some _)
    have k10 := cell_regrown ((blk_cell G1 0).trans rfl : Bq.cell? ⟨W.heap.size + 1, 0, none⟩ = some _)
    have k11 := cell_regrown ((blk_cell G1 1).trans rfl : Bq.cell? ⟨W.heap.size + 1, 1, none⟩ = some _)
    have k12 := cell_regrown ((blk_cell G1 2).trans rfl : Bq.cell? ⟨W.heap.size + 1, 2, none⟩ = some _)
    have k13 := cell_regrown ((blk_cell G1 3).trans rfl : Bq.cell? ⟨W.heap.size + 1, 3, none⟩ = some _)
    have yA := Reg.call_at A Bq
    have yB := Reg.call_at B Bq
    have HG := Lib.hid G2
    clear G0 G1 G2 A B
    refine Reg.wp_region_tail (B := Bq) 6 (by kernel_rfl) (by kernel_rfl) (Below.refl _ Bq) ?_
    simp only [List.take_succ_cons, List.take_zero, List.drop_succ_cons, List.drop_zero]
    (repeat (first | (refine Reg.wpE_big (by rfl) (fun K hK => ?_) (by rfl); go_big_quiet_op; go_big_quiet_on) | (refine Reg.wpE_step (fun K hK => ?_); go_simp; first | (refine hK _ ?_; clear hK K) | (apply Exists.intro; refine ⟨fun _ => ?_, hK _ ?_⟩; (first | exact yA _ _ _ rfl | exact yB _ _ _ rfl); clear hK K))))
    refine Reg.wpE_nil ?_
    intro w1 hb1
    have G2 := Reg.blk_later HG.out hb1
    have hE : Ext W w1 := Ext.trans HE.out hb1
    clear HG HE yA yB k00 k01 k02 k03 k10 k11 k12 k13
    have c0 : w1.cell? ⟨W.heap.size + 1 + 1, 0, none⟩ = some (.int .u8 0) := (blk_cell G2 0).trans rfl
    have c1 : w1.cell? ⟨W.heap.size + 1 + 1, 1, none⟩ = some (.int .u8 0) := (blk_cell G2 1).trans rfl
    have c2 : w1.cell? ⟨W.heap.size + 1 + 1, 2, none⟩ = some (.int .u8 0) := (blk_cell G2 2).trans rfl
    have c3 : w1.cell? ⟨W.heap.size + 1 + 1, 3, none⟩ = some (.int .u8 0) := (blk_cell G2 3).trans rfl
    have z0 : w1.frozen? ⟨W.heap.size + 1 + 1, 0, none⟩ = false := blk_frozen G2 0
    have z1 : w1.frozen? ⟨W.heap.size + 1 + 1, 1, none⟩ = false := blk_frozen G2 1
    have z2 : w1.frozen? ⟨W.heap.size + 1 + 1, 2, none⟩ = false := blk_frozen G2 2
    have z3 : w1.frozen? ⟨W.heap.size + 1 + 1, 3, none⟩ = false := blk_frozen G2 3
    go_wp2
    have le2 : W.heap.size ≤ W.heap.size + 1 + 1 := by omega
    refine Reg.post_open (fun w' => Ext W w' ∧ w'.heap[W.heap.size + 1 + 1]? = some (.cells #[.int .u8 ((bits .or .u8 p q)), .int .u8 0, .int .u8 0, .int .u8 0] 24 (0, 0))) ⟨(Below.setCell (Below.setCell (Below.setCell (Below.setCell hE le2 _) le2 _) le2 _) le2 _), (blk_set (blk_set (blk_set (blk_set G2 0 _) 1 _) 2 _) 3 _)⟩ (fun Bz hS => ?_)
    obtain ⟨hEz, Gz⟩ := hS
    have r0 : Bz.cell? ⟨W.heap.size + 1 + 1, 0, none⟩ = some (.int .u8 ((bits .or .u8 p q))) := (blk_cell Gz 0).trans rfl
    have r1 : Bz.cell? ⟨W.heap.size + 1 + 1, 1, none⟩ = some (.int .u8 0) := (blk_cell Gz 1).trans rfl
    have r2 : Bz.cell? ⟨W.heap.size + 1 + 1, 2, none⟩ = some (.int .u8 0) := (blk_cell Gz 2).trans rfl
    have r3 : Bz.cell? ⟨W.heap.size + 1 + 1, 3, none⟩ = some (.int .u8 0) := (blk_cell Gz 3).trans rfl
    refine bodyPost_ret (v := .tuple #[.agg #[.int .u8 ((bits .or .u8 p q)), .int .u8 0, .int .u8 0, .int .u8 0], .bool true]) (by simp [results, Try.results14, go_sem, r0, r1, r2, r3]) rfl ?_
    exact ⟨rfl, hEz⟩
set_option maxRecDepth 100000 in
set_option maxHeartbeats 40000000 in
theorem flow14g_ {a0 a1 a2 a3 b0 b1 b2 b3 x0 x1 x2 x3 kind p q a b : Int} (W : World) (A : ∀ w : World, Calls Try.prog 22 #[.agg #[.int .u8 a0, .int .u8 a1, .int .u8 a2, .int .u8 a3]] w (RetE (.int .u8 p) w)) (B : ∀ w : World, Calls Try.prog 22 #[.agg #[.int .u8 b0, .int .u8 b1, .int .u8 b2, .int .u8 b3]] w (RetE (.int .u8 q) w)) (F : ∀ w : World, Calls Try.prog 23 #[.int .u8 (bits .or .u8 p q)] w (RetE (.agg #[.int .u8 x0, .int .u8 x1, .int .u8 x2, .int .u8 x3]) w)) (hk : kind = 11 ∨ kind = 12 ∨ kind = 13 ∨ kind = 14 ∨ kind = 15 ∨ kind = 16 ∨ kind = 17) : Calls Try.prog 14 #[.int .i64 kind, .int .u32 a, .int .u32 b, .agg #[.int .u8 a0, .int .u8 a1, .int .u8 a2, .int .u8 a3], .agg #[.int .u8 b0, .int .u8 b1, .int .u8 b2, .int .u8 b3]] W (RetE (.tuple #[.agg #[.int .u8 x0, .int .u8 x1, .int .u8 x2, .int .u8 x3], .bool true]) W) := by
  rcases hk with rfl | rfl | rfl | rfl | rfl | rfl | rfl
  all_goals
    go_enter Try.func14, Try.ntmps14
    go_wp2_with fail
    refine Reg.wp_open (fun w' => Ext W w' ∧ w'.heap[W.heap.size]? = some (.cells #[.int .u8 a0, .int .u8 a1, .int .u8 a2, .int .u8 a3] 24 (0, 0)) ∧ w'.heap[W.heap.size + 1]? = some (.cells #[.int .u8 b0, .int .u8 b1, .int .u8 b2, .int .u8 b3] 24 (0, 0)) ∧ w'.heap[W.heap.size + 1 + 1]? = some (.cells #[.int .u8 0, .int .u8 0, .int .u8 0, .int .u8 0] 24 (0, 0))) ⟨by (repeat' (first | assumption | exact Ext.refl _ | refine Ext.drewN ?_ | refine Ext.drew ?_ | refine Ext.alloc ?_)), (by have h := blk_alloc (blk_alloc (blk_alloc (blk_new W (.cells #[.int .u8 a0, .int .u8 a1, .int .u8 a2, .int .u8 a3] 24)) (.cells #[.int .u8 b0, .int .u8 b1, .int .u8 b2, .int .u8 b3] 24)) (.cells #[.int .u8 0, .int .u8 0, .int .u8 0, .int .u8 0] 24)) (.cells #[.int .u8 0, .int .u8 0, .int .u8 0, .int .u8 0] 24); simpa using h), (by have h := blk_alloc (blk_alloc (blk_new (W.alloc (.cells #[.int .u8 a0, .int .u8 a1, .int .u8 a2, .int .u8 a3] 24)) (.cells #[.int .u8 b0, .int .u8 b1, .int .u8 b2, .int .u8 b3] 24)) (.cells #[.int .u8 0, .int .u8 0, .int .u8 0, .int .u8 0] 24)) (.cells #[.int .u8 0, .int .u8 0, .int .u8 0, .int .u8 0] 24); simpa using h), (by have h := blk_alloc (blk_new ((W.alloc (.cells #[.int .u8 a0, .int .u8 a1, .int .u8 a2, .int .u8 a3] 24)).alloc (.cells #[.int .u8 b0, .int .u8 b1, .int .u8 b2, .int .u8 b3] 24)) (.cells #[.int .u8 0, .int .u8 0, .int .u8 0, .int .u8 0] 24)) (.cells #[.int .u8 0, .int .u8 0, .int .u8 0, .int .u8 0] 24); simpa using h)⟩ (fun Bq hS => ?_)
    obtain ⟨hE, G0, G1, G2⟩ := hS
    have HE := Lib.hid hE
    clear hE
    have k00 := cell_regrown ((blk_cell G0 0).trans rfl : Bq.cell? ⟨W.heap.size, 0, none⟩ = some _)
    have k01 := cell_regrown ((blk_cell G0 1).trans rfl : Bq.cell? ⟨W.heap.size, 1, none⟩ = some _)
    have k02 := cell_regrown ((blk_cell G0 2).trans rfl : Bq.cell? ⟨W.heap.size, 2, none⟩ = some _)
    have k03 := cell_regrown ((blk_cell G0 3).trans rfl : Bq.cell? ⟨W.heap.size, 3, none⟩ = some _)
    have k10 := cell_regrown ((blk_cell G1 0).trans rfl : Bq.cell? ⟨W.heap.size + 1, 0, none⟩ = some _)
    have k11 := cell_regrown ((blk_cell G1 1).trans rfl : Bq.cell? ⟨W.heap.size + 1, 1, none⟩ = some _)
    have k12 := cell_regrown ((blk_cell G1 2).trans rfl : Bq.cell? ⟨W.heap.size + 1, 2, none⟩ = some _)
    have k13 := cell_regrown ((blk_cell G1 3).trans rfl : Bq.cell? ⟨W.heap.size + 1, 3, none⟩ = some _)
    have yA := Reg.call_at A Bq
    have yB := Reg.call_at B Bq
    have yF := Reg.call_at F Bq
    have HG := Lib.hid G2
    clear G0 G1 G2 A B F
    refine Reg.wp_region_tail (B := Bq) 6 (by kernel_rfl) (by kernel_rfl) (Below.refl _ Bq) ?_
    simp only [List.take_succ_cons, List.take_zero, List.drop_succ_cons, List.drop_zero]
    (repeat (first | (refine Reg.wpE_big (by rfl) (fun K hK => ?_) (by rfl); go_big_quiet_op; go_big_quiet_on) | (refine Reg.wpE_step (fun K hK => ?_); go_simp; first | (refine hK _ ?_; clear hK K) | (apply Exists.intro; refine ⟨fun _ => ?_, hK _ ?_⟩; (first | exact yA _ _ _ rfl | exact yB _ _ _ rfl | exact yF _ _ _ rfl); clear hK K))))
    refine Reg.wpE_nil ?_
    intro w1 hb1
    have G2 := Reg.blk_later HG.out hb1
    have hE : Ext W w1 := Ext.trans HE.out hb1
    clear HG HE yA yB yF k00 k01 k02 k03 k10 k11 k12 k13
    have c0 : w1.cell? ⟨W.heap.size + 1 + 1, 0, none⟩ = some (.int .u8 0) := (blk_cell G2 0).trans rfl
    have c1 : w1.cell? ⟨W.heap.size + 1 + 1, 1, none⟩ = some (.int .u8 0) := (blk_cell G2 1).trans rfl
    have c2 : w1.cell? ⟨W.heap.size + 1 + 1, 2, none⟩ = some (.int .u8 0) := (blk_cell G2 2).trans rfl
    have c3 : w1.cell? ⟨W.heap.size + 1 + 1, 3, none⟩ = some (.int .u8 0) := (blk_cell G2 3).trans rfl
    have z0 : w1.frozen? ⟨W.heap.size + 1 + 1, 0, none⟩ = false := blk_frozen G2 0
    have z1 : w1.frozen? ⟨W.heap.size + 1 + 1, 1, none⟩ = false := blk_frozen G2 1
    have z2 : w1.frozen? ⟨W.heap.size + 1 + 1, 2, none⟩ = false := blk_frozen G2 2
    have z3 : w1.frozen? ⟨W.heap.size + 1 + 1, 3, none⟩ = false := blk_frozen G2 3
    go_wp2
    have le2 : W.heap.size ≤ W.heap.size + 1 + 1 := by omega
    refine Reg.post_open (fun w' => Ext W w' ∧ w'.heap[W.heap.size + 1 + 1]? = some (.cells #[.int .u8 x0, .int .u8 x1, .int .u8 x2, .int .u8 x3] 24 (0, 0))) ⟨(Below.setCell (Below.setCell (Below.setCell (Below.setCell hE le2 _) le2 _) le2 _) le2 _), (blk_set (blk_set (blk_set (blk_set G2 0 _) 1 _) 2 _) 3 _)⟩ (fun Bz hS => ?_)
    obtain ⟨hEz, Gz⟩ := hS
    have r0 : Bz.cell? ⟨W.heap.size + 1 + 1, 0, none⟩ = some (.int .u8 x0) := (blk_cell Gz 0).trans rfl
    have r1 : Bz.cell? ⟨W.heap.size + 1 + 1, 1, none⟩ = some (.int .u8 x1) := (blk_cell Gz 1).trans rfl
    have r2 : Bz.cell? ⟨W.heap.size + 1 + 1, 2, none⟩ = some (.int .u8 x2) := (blk_cell Gz 2).trans rfl
    have r3 : Bz.cell? ⟨W.heap.size + 1 + 1, 3, none⟩ = some (.int .u8 x3) := (blk_cell Gz 3).trans rfl
    refine bodyPost_ret (v := .tuple #[.agg #[.int .u8 x0, .int .u8 x1, .int .u8 x2, .int .u8 x3], .bool true]) (by simp [results, Try.results14, go_sem, r0, r1, r2, r3]) rfl ?_
    exact ⟨rfl, hEz⟩
set_option maxRecDepth 100000 in
set_option maxHeartbeats 40000000 in
theorem flow14z_ {a0 a1 a2 a3 b0 b1 b2 b3 kind a b : Int} (W : World) (hk : ¬ (0 ≤ kind ∧ kind ≤ 17)) : Calls Try.prog 14 #[.int .i64 kind, .int .u32 a, .int .u32 b, .agg #[.int .u8 a0, .int .u8 a1, .int .u8 a2, .int .u8 a3], .agg #[.int .u8 b0, .int .u8 b1, .int .u8 b2, .int .u8 b3]] W (RetE (.tuple #[.agg #[.int .u8 0, .int .u8 0, .int .u8 0, .int .u8 0], .bool false]) W) := by
  have e0 : ((kind : Int) == 0) = false := by rw [beq_eq_false_iff_ne]; omega
  have e1 : ((kind : Int) == 1) = false := by rw [beq_eq_false_iff_ne]; omega
  have e2 : ((kind : Int) == 2) = false := by rw [beq_eq_false_iff_ne]; omega
  have e3 : ((kind : Int) == 3) = false := by rw [beq_eq_false_iff_ne]; omega
  have e4 : ((kind : Int) == 4) = false := by rw [beq_eq_false_iff_ne]; omega
  have e5 : ((kind : Int) == 5) = false := by rw [beq_eq_false_iff_ne]; omega
  have e6 : ((kind : Int) == 6) = false := by rw [beq_eq_false_iff_ne]; omega
  have e7 : ((kind : Int) == 7) = false := by rw [beq_eq_false_iff_ne]; omega
  have e8 : ((kind : Int) == 8) = false := by rw [beq_eq_false_iff_ne]; omega
  have e9 : ((kind : Int) == 9) = false := by rw [beq_eq_false_iff_ne]; omega
  have e10 : ((kind : Int) == 10) = false := by rw [beq_eq_false_iff_ne]; omega
  have e11 : ((kind : Int) == 11) = false := by rw [beq_eq_false_iff_ne]; omega
  have e12 : ((kind : Int) == 12) = false := by rw [beq_eq_false_iff_ne]; omega
  have e13 : ((kind : Int) == 13) = false := by rw [beq_eq_false_iff_ne]; omega
  have e14 : ((kind : Int) == 14) = false := by rw [beq_eq_false_iff_ne]; omega
  have e15 : ((kind : Int) == 15) = false := by rw [beq_eq_false_iff_ne]; omega
  have e16 : ((kind : Int) == 16) = false := by rw [beq_eq_false_iff_ne]; omega
  have e17 : ((kind : Int) == 17) = false := by rw [beq_eq_false_iff_ne]; omega
  clear hk
  go_enter Try.func14, Try.ntmps14
  go_wp2
  refine bodyPost_ret (v := .tuple #[.agg #[.int .u8 0, .int .u8 0, .int .u8 0, .int .u8 0], .bool false]) (by simp [results, Try.results14, go_sem]) rfl ?_
  exact ⟨rfl, by (repeat' (first | assumption | exact Ext.refl _ | refine Ext.drewN ?_ | refine Ext.drew ?_ | refine Ext.alloc ?_))⟩
end Go.Proofs.Ytbhoijkamnaopaa.Tag
