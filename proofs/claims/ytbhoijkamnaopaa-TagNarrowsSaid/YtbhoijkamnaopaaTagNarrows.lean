/- TagNarrows: its walk. -/
import Derived.Test.YtbhoijkamnaopaaTagExt
import Derived.Test.YtbhoijkamnaopaaTagNarrow
import Derived.Test.YtbhoijkamnaopaaTagAwake
import Derived.Test.YtbhoijkamnaopaaOpenT
import Derived.StillTailTactics
import Derived.BigRegion
import Derived.LoopN
import Derived.Deep.RegionHeld3
import Derived.Lib.Hide
namespace Go.Proofs.Ytbhoijkamnaopaa.TagNarrows
open Go Go.RowKit Go.Proofs.YtbhoijkamnaopaaW.PrintWords Go.Proofs.YtbhoijkamnaopaaW.PrintLast Go.Proofs.YtbhoijkamnaopaaW.PrintMore Go.Proofs.Ytbhoijkamnaopaa.Tag Go.Proofs.Ytbhoijkamnaopaa Go.Sort Go.Proofs.Ytbhoijkamnaopaa.Open Go.Proofs.Ytbhoijkamnaopaa.OpenT
set_option linter.unusedVariables false
set_option linter.unusedSimpArgs false
attribute [local go_sem] Reg.qeOp Reg.qeUpon
set_option maxRecDepth 100000 in
set_option maxHeartbeats 4000000 in
theorem other (W : World) (a0 a1 a2 a3 k : Int) (h1 : ¬ k = 1) (h2 : ¬ k = 2) : Calls Try.prog 11 #[.agg #[.int .u8 a0, .int .u8 a1, .int .u8 a2, .int .u8 a3], .int .i64 k] W (RetE (.bool true) W) := by
  have N := fun sg => (fun w => Ret.e (narrow21_o a0 a1 a2 a3 w k sg h1 h2) (by (repeat' (first | assumption | exact Ext.refl _ | refine Ext.drewN ?_ | refine Ext.drew ?_ | refine Ext.alloc ?_))) : ∀ w, Calls Try.prog 21 _ w (RetE _ w))
  have e1 : (k != 1) = true := by simp [h1]
  have e2 : (k != 2) = true := by simp [h2]
  go_enter Try.func11, Try.ntmps11
  go_wp2_with (first | (go_at_call 12; refine (awake12 _).mono ?_; rintro e w' ⟨rfl, hE⟩))
  refine Reg.wp_open (fun w' => Ext W w' ∧ w'.heap[W.heap.size]? = some (.cells #[.int .u8 a0, .int .u8 a1, .int .u8 a2, .int .u8 a3] 23 (0, 0))) ⟨Ext.trans (by (repeat' (first | assumption | exact Ext.refl _ | refine Ext.drewN ?_ | refine Ext.drew ?_ | refine Ext.alloc ?_))) hE, Reg.blk_later (blk_new _ _) hE⟩ (fun Bq hS => ?_)
  clear hE
  obtain ⟨hE, G0⟩ := hS
  have HE := Lib.hid hE
  have HG0 := Lib.hid G0
  clear hE G0
  have kG00 := cell_regrown ((blk_cell HG0.out 0).trans rfl : Bq.cell? ⟨W.heap.size, 0, none⟩ = some _)
  have kG01 := cell_regrown ((blk_cell HG0.out 1).trans rfl : Bq.cell? ⟨W.heap.size, 1, none⟩ = some _)
  have kG02 := cell_regrown ((blk_cell HG0.out 2).trans rfl : Bq.cell? ⟨W.heap.size, 2, none⟩ = some _)
  have kG03 := cell_regrown ((blk_cell HG0.out 3).trans rfl : Bq.cell? ⟨W.heap.size, 3, none⟩ = some _)
  have ct := Reg.call_cl (N true) Bq
  have cf := Reg.call_cl (N false) Bq
  clear N
  refine Reg.wp_region_reads (B := Bq) (by kernel_rfl) (by kernel_rfl) (Below.refl _ Bq) ?_
  repeat (first | go_big_quiet_step (first | exact ct _ _ _ rfl | exact cf _ _ _ rfl) | quiet_step (first | exact ct _ _ _ rfl | exact cf _ _ _ rfl))
  refine wpQuiet_nil ?_
  intro _ hw'
  obtain ⟨⟨dq, osq⟩, hw''⟩ := hw'
  subst hw''
  have hE := HE.out
  go_wp2
  go_ret
  exact ⟨rfl, Ext.trans hE (Ext.of_cl Bq dq osq)⟩
set_option maxRecDepth 100000 in
set_option maxHeartbeats 4000000 in
theorem one (W : World) (a0 a1 a2 a3 : Int) : Calls Try.prog 11 #[.agg #[.int .u8 a0, .int .u8 a1, .int .u8 a2, .int .u8 a3], .int .i64 1] W (RetE (.bool true) W) := by
  have ct := Reg.call_at (fun w => Ret.e (narrow21_1t a0 a1 a2 a3 w) (by (repeat' (first | assumption | exact Ext.refl _ | refine Ext.drewN ?_ | refine Ext.drew ?_ | refine Ext.alloc ?_)))) 
  have cf := Reg.call_at (fun w => Ret.e (narrow21_1f a0 a1 a2 a3 w) (by (repeat' (first | assumption | exact Ext.refl _ | refine Ext.drewN ?_ | refine Ext.drew ?_ | refine Ext.alloc ?_))))
  go_enter Try.func11, Try.ntmps11
  go_wp2_with (first | (go_at_call 12; refine (awake12 _).mono ?_; rintro e w' ⟨rfl, hE⟩))
  refine Reg.wp_open (fun w' => Ext W w' ∧ w'.heap[W.heap.size]? = some (.cells #[.int .u8 a0, .int .u8 a1, .int .u8 a2, .int .u8 a3] 23 (0, 0))) ⟨Ext.trans (by (repeat' (first | assumption | exact Ext.refl _ | refine Ext.drewN ?_ | refine Ext.drew ?_ | refine Ext.alloc ?_))) hE, Reg.blk_later (blk_new _ _) hE⟩ (fun Bq hS => ?_)
  clear hE
  obtain ⟨hE, G0⟩ := hS
  have HE := Lib.hid hE
  have HG0 := Lib.hid G0
  clear hE G0
  have kG00 := cell_regrown ((blk_cell HG0.out 0).trans rfl : Bq.cell? ⟨W.heap.size, 0, none⟩ = some _)
  have kG01 := cell_regrown ((blk_cell HG0.out 1).trans rfl : Bq.cell? ⟨W.heap.size, 1, none⟩ = some _)
  have kG02 := cell_regrown ((blk_cell HG0.out 2).trans rfl : Bq.cell? ⟨W.heap.size, 2, none⟩ = some _)
  have kG03 := cell_regrown ((blk_cell HG0.out 3).trans rfl : Bq.cell? ⟨W.heap.size, 3, none⟩ = some _)
  replace ct := ct Bq
  replace cf := cf Bq
  refine Reg.wp_region_two (B := Bq) 6 (.cells #[.int .u8 0, .int .u8 0, .int .u8 0, .int .u8 0] 24) (.cells #[.int .u8 0, .int .u8 0, .int .u8 0, .int .u8 0] 24) (by kernel_rfl) (by kernel_rfl) ⟨_, rfl, rfl, fun _ _ => by go_simp⟩ ⟨_, rfl, rfl, fun _ _ => by go_simp⟩ (Below.refl _ Bq) ?_
  simp only [List.take_succ_cons, List.take_zero, List.drop_succ_cons, List.drop_zero]
  repeat (refine Reg.wpE_step (fun K hK => ?_); go_simp; first | (refine hK _ ?_; clear hK K) | (apply Exists.intro; refine ⟨fun _ => ?_, hK _ ?_⟩; (first | exact ct _ _ _ rfl | exact cf _ _ _ rfl); clear hK K))
  refine Reg.wpE_nil ?_
  intro g1 g2 w1 hb1 hg1 hg2 hne H1 H2
  clear ct cf kG00 kG01 kG02 kG03
  have c10 : w1.cell? ⟨g1, 0, none⟩ = some (.int .u8 0) := (blk_cell H1 0).trans rfl
  have c11 : w1.cell? ⟨g1, 1, none⟩ = some (.int .u8 0) := (blk_cell H1 1).trans rfl
  have c12 : w1.cell? ⟨g1, 2, none⟩ = some (.int .u8 0) := (blk_cell H1 2).trans rfl
  have c13 : w1.cell? ⟨g1, 3, none⟩ = some (.int .u8 0) := (blk_cell H1 3).trans rfl
  have c20 : w1.cell? ⟨g2, 0, none⟩ = some (.int .u8 0) := (blk_cell H2 0).trans rfl
  have c21 : w1.cell? ⟨g2, 1, none⟩ = some (.int .u8 0) := (blk_cell H2 1).trans rfl
  have c22 : w1.cell? ⟨g2, 2, none⟩ = some (.int .u8 0) := (blk_cell H2 2).trans rfl
  have c23 : w1.cell? ⟨g2, 3, none⟩ = some (.int .u8 0) := (blk_cell H2 3).trans rfl
  have z10 : w1.frozen? ⟨g1, 0, none⟩ = false := blk_frozen H1 0
  have z11 : w1.frozen? ⟨g1, 1, none⟩ = false := blk_frozen H1 1
  have z12 : w1.frozen? ⟨g1, 2, none⟩ = false := blk_frozen H1 2
  have z13 : w1.frozen? ⟨g1, 3, none⟩ = false := blk_frozen H1 3
  have z20 : w1.frozen? ⟨g2, 0, none⟩ = false := blk_frozen H2 0
  have z21 : w1.frozen? ⟨g2, 1, none⟩ = false := blk_frozen H2 1
  have z22 : w1.frozen? ⟨g2, 2, none⟩ = false := blk_frozen H2 2
  have z23 : w1.frozen? ⟨g2, 3, none⟩ = false := blk_frozen H2 3
  have ne1 : ¬ g1 = g2 := hne
  have ne2 : ¬ g2 = g1 := fun h => hne h.symm
  go_wp2
  have le0 := Below.size HE.out
  have le1 := Nat.le_trans le0 hg1
  have le2 := Nat.le_trans le0 hg2
  have E1 := Ext.trans HE.out hb1
  have G1 := Reg.blk_later HG0.out hb1
  have ne0 : ¬ W.heap.size = g1 := fun h => by have := blk_lt HG0.out; omega
  have ne3 : ¬ W.heap.size = g2 := fun h => by have := blk_lt HG0.out; omega
  refine Reg.wp_open (fun w' => Ext W w' ∧ w'.heap[W.heap.size]? = some (.cells #[.int .u8 a0, .int .u8 a1, .int .u8 a2, .int .u8 a3] 23 (0, 0)) ∧ w'.heap[g1]? = some (.cells #[.int .u8 a0, .int .u8 0, .int .u8 0, .int .u8 0] 24 (0, 0)) ∧ w'.heap[g2]? = some (.cells #[.int .u8 a0, .int .u8 a0, .int .u8 a0, .int .u8 a0] 24 (0, 0))) ⟨(Below.setCell (Below.setCell (Below.setCell (Below.setCell (Below.setCell (Below.setCell (Below.setCell (Below.setCell E1 le1 _) le1 _) le1 _) le1 _) le2 _) le2 _) le2 _) le2 _), (blk_far (blk_far (blk_far (blk_far (blk_far (blk_far (blk_far (blk_far G1 ne0 _) ne0 _) ne0 _) ne0 _) ne3 _) ne3 _) ne3 _) ne3 _), (blk_far (blk_far (blk_far (blk_far (blk_set (blk_set (blk_set (blk_set H1 0 _) 1 _) 2 _) 3 _) ne1 _) ne1 _) ne1 _) ne1 _), (blk_set (blk_set (blk_set (blk_set (blk_far (blk_far (blk_far (blk_far H2 ne2 _) ne2 _) ne2 _) ne2 _) 0 _) 1 _) 2 _) 3 _)⟩ (fun Bz hS => ?_)
  clear c10 z10 c11 z11 c12 z12 c13 z13 c20 z20 c21 z21 c22 z22 c23 z23
  clear E1 G1 H1 H2 ne0 ne1 ne2 ne3 le1 le2 hb1 HE HG0
  obtain ⟨hE, G0, G1, G2⟩ := hS
  have k00 := cell_regrown ((blk_cell G0 0).trans rfl : Bz.cell? ⟨W.heap.size, 0, none⟩ = some _)
  have k01 := cell_regrown ((blk_cell G0 1).trans rfl : Bz.cell? ⟨W.heap.size, 1, none⟩ = some _)
  have k02 := cell_regrown ((blk_cell G0 2).trans rfl : Bz.cell? ⟨W.heap.size, 2, none⟩ = some _)
  have k03 := cell_regrown ((blk_cell G0 3).trans rfl : Bz.cell? ⟨W.heap.size, 3, none⟩ = some _)
  have k10 := cell_regrown ((blk_cell G1 0).trans rfl : Bz.cell? ⟨g1, 0, none⟩ = some _)
  have k11 := cell_regrown ((blk_cell G1 1).trans rfl : Bz.cell? ⟨g1, 1, none⟩ = some _)
  have k12 := cell_regrown ((blk_cell G1 2).trans rfl : Bz.cell? ⟨g1, 2, none⟩ = some _)
  have k13 := cell_regrown ((blk_cell G1 3).trans rfl : Bz.cell? ⟨g1, 3, none⟩ = some _)
  have k20 := cell_regrown ((blk_cell G2 0).trans rfl : Bz.cell? ⟨g2, 0, none⟩ = some _)
  have k21 := cell_regrown ((blk_cell G2 1).trans rfl : Bz.cell? ⟨g2, 1, none⟩ = some _)
  have k22 := cell_regrown ((blk_cell G2 2).trans rfl : Bz.cell? ⟨g2, 2, none⟩ = some _)
  have k23 := cell_regrown ((blk_cell G2 3).trans rfl : Bz.cell? ⟨g2, 3, none⟩ = some _)
  have HE := Lib.hid hE
  clear hE G0 G1 G2
  refine wp_loop_rounds 5 ?_
  rw [rounds_succ]
  go_wp2
  refine Reg.wp_region_reads (B := Bz) (by kernel_rfl) (by kernel_rfl) (Below.refl _ Bz) ?_
  repeat (first | go_big_quiet_step (fail) | quiet_step (fail))
  refine wpQuiet_nil ?_
  intro _ hw'
  obtain ⟨⟨dq0, os0⟩, hw''⟩ := hw'
  subst hw''
  go_wp2
  rw [rounds_succ]
  go_wp2
  refine Reg.wp_region_reads (B := Bz) (by kernel_rfl) (by kernel_rfl) (below_regrown Bz _ _) ?_
  repeat (first | go_big_quiet_step (fail) | quiet_step (fail))
  refine wpQuiet_nil ?_
  intro _ hw'
  obtain ⟨⟨dq1, os1⟩, hw''⟩ := hw'
  subst hw''
  go_wp2
  rw [rounds_succ]
  go_wp2
  refine Reg.wp_region_reads (B := Bz) (by kernel_rfl) (by kernel_rfl) (below_regrown Bz _ _) ?_
  repeat (first | go_big_quiet_step (fail) | quiet_step (fail))
  refine wpQuiet_nil ?_
  intro _ hw'
  obtain ⟨⟨dq2, os2⟩, hw''⟩ := hw'
  subst hw''
  go_wp2
  rw [rounds_succ]
  go_wp2
  refine Reg.wp_region_reads (B := Bz) (by kernel_rfl) (by kernel_rfl) (below_regrown Bz _ _) ?_
  repeat (first | go_big_quiet_step (fail) | quiet_step (fail))
  refine wpQuiet_nil ?_
  intro _ hw'
  obtain ⟨⟨dq3, os3⟩, hw''⟩ := hw'
  subst hw''
  go_wp2
  rw [rounds_succ]
  go_wp2
  have hE := HE.out
  refine bodyPost_ret (v := .bool true) (by simp [results, Try.results11, go_sem]) rfl ?_
  exact ⟨rfl, Ext.trans hE (Ext.of_cl Bz _ _)⟩
set_option maxRecDepth 100000 in
set_option maxHeartbeats 4000000 in
theorem two (W : World) (a0 a1 a2 a3 : Int) : Calls Try.prog 11 #[.agg #[.int .u8 a0, .int .u8 a1, .int .u8 a2, .int .u8 a3], .int .i64 2] W (RetE (.bool true) W) := by
  have ct := Reg.call_at (fun w => Ret.e (narrow21_2t a0 a1 a2 a3 w) (by (repeat' (first | assumption | exact Ext.refl _ | refine Ext.drewN ?_ | refine Ext.drew ?_ | refine Ext.alloc ?_)))) 
  have cf := Reg.call_at (fun w => Ret.e (narrow21_2f a0 a1 a2 a3 w) (by (repeat' (first | assumption | exact Ext.refl _ | refine Ext.drewN ?_ | refine Ext.drew ?_ | refine Ext.alloc ?_))))
  go_enter Try.func11, Try.ntmps11
  go_wp2_with (first | (go_at_call 12; refine (awake12 _).mono ?_; rintro e w' ⟨rfl, hE⟩))
  refine Reg.wp_open (fun w' => Ext W w' ∧ w'.heap[W.heap.size]? = some (.cells #[.int .u8 a0, .int .u8 a1, .int .u8 a2, .int .u8 a3] 23 (0, 0))) ⟨Ext.trans (by (repeat' (first | assumption | exact Ext.refl _ | refine Ext.drewN ?_ | refine Ext.drew ?_ | refine Ext.alloc ?_))) hE, Reg.blk_later (blk_new _ _) hE⟩ (fun Bq hS => ?_)
  clear hE
  obtain ⟨hE, G0⟩ := hS
  have HE := Lib.hid hE
  have HG0 := Lib.hid G0
  clear hE G0
  have kG00 := cell_regrown ((blk_cell HG0.out 0).trans rfl : Bq.cell? ⟨W.heap.size, 0, none⟩ = some _)
  have kG01 := cell_regrown ((blk_cell HG0.out 1).trans rfl : Bq.cell? ⟨W.heap.size, 1, none⟩ = some _)
  have kG02 := cell_regrown ((blk_cell HG0.out 2).trans rfl : Bq.cell? ⟨W.heap.size, 2, none⟩ = some _)
  have kG03 := cell_regrown ((blk_cell HG0.out 3).trans rfl : Bq.cell? ⟨W.heap.size, 3, none⟩ = some _)
  replace ct := ct Bq
  replace cf := cf Bq
  refine Reg.wp_region_two (B := Bq) 6 (.cells #[.int .u8 0, .int .u8 0, .int .u8 0, .int .u8 0] 24) (.cells #[.int .u8 0, .int .u8 0, .int .u8 0, .int .u8 0] 24) (by kernel_rfl) (by kernel_rfl) ⟨_, rfl, rfl, fun _ _ => by go_simp⟩ ⟨_, rfl, rfl, fun _ _ => by go_simp⟩ (Below.refl _ Bq) ?_
  simp only [List.take_succ_cons, List.take_zero, List.drop_succ_cons, List.drop_zero]
  repeat (refine Reg.wpE_step (fun K hK => ?_); go_simp; first | (refine hK _ ?_; clear hK K) | (apply Exists.intro; refine ⟨fun _ => ?_, hK _ ?_⟩; (first | exact ct _ _ _ rfl | exact cf _ _ _ rfl); clear hK K))
  refine Reg.wpE_nil ?_
  intro g1 g2 w1 hb1 hg1 hg2 hne H1 H2
  clear ct cf kG00 kG01 kG02 kG03
  have c10 : w1.cell? ⟨g1, 0, none⟩ = some (.int .u8 0) := (blk_cell H1 0).trans rfl
  have c11 : w1.cell? ⟨g1, 1, none⟩ = some (.int .u8 0) := (blk_cell H1 1).trans rfl
  have c12 : w1.cell? ⟨g1, 2, none⟩ = some (.int .u8 0) := (blk_cell H1 2).trans rfl
  have c13 : w1.cell? ⟨g1, 3, none⟩ = some (.int .u8 0) := (blk_cell H1 3).trans rfl
  have c20 : w1.cell? ⟨g2, 0, none⟩ = some (.int .u8 0) := (blk_cell H2 0).trans rfl
  have c21 : w1.cell? ⟨g2, 1, none⟩ = some (.int .u8 0) := (blk_cell H2 1).trans rfl
  have c22 : w1.cell? ⟨g2, 2, none⟩ = some (.int .u8 0) := (blk_cell H2 2).trans rfl
  have c23 : w1.cell? ⟨g2, 3, none⟩ = some (.int .u8 0) := (blk_cell H2 3).trans rfl
  have z10 : w1.frozen? ⟨g1, 0, none⟩ = false := blk_frozen H1 0
  have z11 : w1.frozen? ⟨g1, 1, none⟩ = false := blk_frozen H1 1
  have z12 : w1.frozen? ⟨g1, 2, none⟩ = false := blk_frozen H1 2
  have z13 : w1.frozen? ⟨g1, 3, none⟩ = false := blk_frozen H1 3
  have z20 : w1.frozen? ⟨g2, 0, none⟩ = false := blk_frozen H2 0
  have z21 : w1.frozen? ⟨g2, 1, none⟩ = false := blk_frozen H2 1
  have z22 : w1.frozen? ⟨g2, 2, none⟩ = false := blk_frozen H2 2
  have z23 : w1.frozen? ⟨g2, 3, none⟩ = false := blk_frozen H2 3
  have ne1 : ¬ g1 = g2 := hne
  have ne2 : ¬ g2 = g1 := fun h => hne h.symm
  go_wp2
  have le0 := Below.size HE.out
  have le1 := Nat.le_trans le0 hg1
  have le2 := Nat.le_trans le0 hg2
  have E1 := Ext.trans HE.out hb1
  have G1 := Reg.blk_later HG0.out hb1
  have ne0 : ¬ W.heap.size = g1 := fun h => by have := blk_lt HG0.out; omega
  have ne3 : ¬ W.heap.size = g2 := fun h => by have := blk_lt HG0.out; omega
  refine Reg.wp_open (fun w' => Ext W w' ∧ w'.heap[W.heap.size]? = some (.cells #[.int .u8 a0, .int .u8 a1, .int .u8 a2, .int .u8 a3] 23 (0, 0)) ∧ w'.heap[g1]? = some (.cells #[.int .u8 a0, .int .u8 a1, .int .u8 0, .int .u8 0] 24 (0, 0)) ∧ w'.heap[g2]? = some (.cells #[.int .u8 a0, .int .u8 a1, .int .u8 a1, .int .u8 a1] 24 (0, 0))) ⟨(Below.setCell (Below.setCell (Below.setCell (Below.setCell (Below.setCell (Below.setCell (Below.setCell (Below.setCell E1 le1 _) le1 _) le1 _) le1 _) le2 _) le2 _) le2 _) le2 _), (blk_far (blk_far (blk_far (blk_far (blk_far (blk_far (blk_far (blk_far G1 ne0 _) ne0 _) ne0 _) ne0 _) ne3 _) ne3 _) ne3 _) ne3 _), (blk_far (blk_far (blk_far (blk_far (blk_set (blk_set (blk_set (blk_set H1 0 _) 1 _) 2 _) 3 _) ne1 _) ne1 _) ne1 _) ne1 _), (blk_set (blk_set (blk_set (blk_set (blk_far (blk_far (blk_far (blk_far H2 ne2 _) ne2 _) ne2 _) ne2 _) 0 _) 1 _) 2 _) 3 _)⟩ (fun Bz hS => ?_)
  clear c10 z10 c11 z11 c12 z12 c13 z13 c20 z20 c21 z21 c22 z22 c23 z23
  clear E1 G1 H1 H2 ne0 ne1 ne2 ne3 le1 le2 hb1 HE HG0
  obtain ⟨hE, G0, G1, G2⟩ := hS
  have k00 := cell_regrown ((blk_cell G0 0).trans rfl : Bz.cell? ⟨W.heap.size, 0, none⟩ = some _)
  have k01 := cell_regrown ((blk_cell G0 1).trans rfl : Bz.cell? ⟨W.heap.size, 1, none⟩ = some _)
  have k02 := cell_regrown ((blk_cell G0 2).trans rfl : Bz.cell? ⟨W.heap.size, 2, none⟩ = some _)
  have k03 := cell_regrown ((blk_cell G0 3).trans rfl : Bz.cell? ⟨W.heap.size, 3, none⟩ = some _)
  have k10 := cell_regrown ((blk_cell G1 0).trans rfl : Bz.cell? ⟨g1, 0, none⟩ = some _)
  have k11 := cell_regrown ((blk_cell G1 1).trans rfl : Bz.cell? ⟨g1, 1, none⟩ = some _)
  have k12 := cell_regrown ((blk_cell G1 2).trans rfl : Bz.cell? ⟨g1, 2, none⟩ = some _)
  have k13 := cell_regrown ((blk_cell G1 3).trans rfl : Bz.cell? ⟨g1, 3, none⟩ = some _)
  have k20 := cell_regrown ((blk_cell G2 0).trans rfl : Bz.cell? ⟨g2, 0, none⟩ = some _)
  have k21 := cell_regrown ((blk_cell G2 1).trans rfl : Bz.cell? ⟨g2, 1, none⟩ = some _)
  have k22 := cell_regrown ((blk_cell G2 2).trans rfl : Bz.cell? ⟨g2, 2, none⟩ = some _)
  have k23 := cell_regrown ((blk_cell G2 3).trans rfl : Bz.cell? ⟨g2, 3, none⟩ = some _)
  have HE := Lib.hid hE
  clear hE G0 G1 G2
  refine wp_loop_rounds 5 ?_
  rw [rounds_succ]
  go_wp2
  refine Reg.wp_region_reads (B := Bz) (by kernel_rfl) (by kernel_rfl) (Below.refl _ Bz) ?_
  repeat (first | go_big_quiet_step (fail) | quiet_step (fail))
  refine wpQuiet_nil ?_
  intro _ hw'
  obtain ⟨⟨dq0, os0⟩, hw''⟩ := hw'
  subst hw''
  go_wp2
  rw [rounds_succ]
  go_wp2
  refine Reg.wp_region_reads (B := Bz) (by kernel_rfl) (by kernel_rfl) (below_regrown Bz _ _) ?_
  repeat (first | go_big_quiet_step (fail) | quiet_step (fail))
  refine wpQuiet_nil ?_
  intro _ hw'
  obtain ⟨⟨dq1, os1⟩, hw''⟩ := hw'
  subst hw''
  go_wp2
  rw [rounds_succ]
  go_wp2
  refine Reg.wp_region_reads (B := Bz) (by kernel_rfl) (by kernel_rfl) (below_regrown Bz _ _) ?_
  repeat (first | go_big_quiet_step (fail) | quiet_step (fail))
  refine wpQuiet_nil ?_
  intro _ hw'
  obtain ⟨⟨dq2, os2⟩, hw''⟩ := hw'
  subst hw''
  go_wp2
  rw [rounds_succ]
  go_wp2
  refine Reg.wp_region_reads (B := Bz) (by kernel_rfl) (by kernel_rfl) (below_regrown Bz _ _) ?_
  repeat (first | go_big_quiet_step (fail) | quiet_step (fail))
  refine wpQuiet_nil ?_
  intro _ hw'
  obtain ⟨⟨dq3, os3⟩, hw''⟩ := hw'
  subst hw''
  go_wp2
  rw [rounds_succ]
  go_wp2
  have hE := HE.out
  refine bodyPost_ret (v := .bool true) (by simp [results, Try.results11, go_sem]) rfl ?_
  exact ⟨rfl, Ext.trans hE (Ext.of_cl Bz _ _)⟩
theorem walk (W : World) (x0 : (Int × Int × Int × Int)) (wx0 : wf23 x0) (x1 : Int) (wx1 : (Lit.int .i64 x1).wf = true) :
    Calls Try.prog 11 #[.agg #[.int .u8 x0.1, .int .u8 x0.2.1, .int .u8 x0.2.2.1, .int .u8 x0.2.2.2], .int .i64 x1] W fun e w' => e = .returned (.bool true) ∧ Below W.heap.size W w' := by
  obtain ⟨a0, a1, a2, a3⟩ := x0
  by_cases h1 : x1 = 1
  · subst h1
    exact one W a0 a1 a2 a3
  by_cases h2 : x1 = 2
  · subst h2
    exact two W a0 a1 a2 a3
  exact other W a0 a1 a2 a3 x1 h1 h2
end Go.Proofs.Ytbhoijkamnaopaa.TagNarrows
