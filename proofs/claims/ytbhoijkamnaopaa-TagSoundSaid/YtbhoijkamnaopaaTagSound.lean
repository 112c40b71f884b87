/- TagSound: its walk. -/
import Derived.Test.YtbhoijkamnaopaaTagC
import Derived.Test.YtbhoijkamnaopaaTagMasked
import Derived.LoopTactic
import Derived.Test.YtbhoijkamnaopaaTagSound3
import Derived.Test.YtbhoijkamnaopaaTagAwake
import Derived.Test.YtbhoijkamnaopaaTagFlow
import Derived.Test.YtbhoijkamnaopaaOpenT
import Derived.StillTailTactics
import Derived.BigRegion
import Derived.LoopN
import Derived.Deep.RegionHeld3
import Derived.Lib.Hide
namespace Go.Proofs.Ytbhoijkamnaopaa.TagSound
open Go Go.RowKit Go.Proofs.YtbhoijkamnaopaaW.PrintWords Go.Proofs.YtbhoijkamnaopaaW.PrintLast Go.Proofs.YtbhoijkamnaopaaW.PrintMore Go.Proofs.Ytbhoijkamnaopaa.Tag Go.Proofs.Ytbhoijkamnaopaa Go.Sort Go.Proofs.Ytbhoijkamnaopaa.Open Go.Proofs.Ytbhoijkamnaopaa.OpenT
set_option linter.unusedVariables false
set_option linter.unusedSimpArgs false
attribute [local go_sem] Reg.qeOp Reg.qeUpon
set_option maxRecDepth 100000 in
set_option maxHeartbeats 40000000 in
theorem core1 {W : World} {kind a b c d l x y v v2 a0 a1 a2 a3 b0 b1 b2 b3 p0 p1 p2 p3 : Int} (M1 : ∀ w : World, Calls Try.prog 15 #[.int .u32 a, .int .u32 c, .agg #[.int .u8 a0, .int .u8 a1, .int .u8 a2, .int .u8 a3], .int .u8 l] w (RetE (.int .u32 x) w)) (M2 : ∀ w : World, Calls Try.prog 15 #[.int .u32 b, .int .u32 d, .agg #[.int .u8 b0, .int .u8 b1, .int .u8 b2, .int .u8 b3], .int .u8 l] w (RetE (.int .u32 y) w)) (D1 : ∀ w : World, Calls Try.prog 16 #[.int .i64 kind, .int .u32 a, .int .u32 b] w (RetE (.tuple #[.int .u32 v, .int .i64 1]) w)) (D2 : ∀ w : World, Calls Try.prog 16 #[.int .i64 kind, .int .u32 x, .int .u32 y] w (RetE (.tuple #[.int .u32 v2, .int .i64 1]) w)) (F1 : ∀ w : World, Calls Try.prog 13 #[.int .i64 kind, .int .u32 a, .int .u32 b, .agg #[.int .u8 a0, .int .u8 a1, .int .u8 a2, .int .u8 a3], .agg #[.int .u8 b0, .int .u8 b1, .int .u8 b2, .int .u8 b3]] w (RetE (.tuple #[.agg #[.int .u8 p0, .int .u8 p1, .int .u8 p2, .int .u8 p3], .int .i64 1]) w)) (F2 : ∀ w : World, Calls Try.prog 13 #[.int .i64 kind, .int .u32 x, .int .u32 y, .agg #[.int .u8 a0, .int .u8 a1, .int .u8 a2, .int .u8 a3], .agg #[.int .u8 b0, .int .u8 b1, .int .u8 b2, .int .u8 b3]] w (RetE (.tuple #[.agg #[.int .u8 p0, .int .u8 p1, .int .u8 p2, .int .u8 p3], .int .i64 1]) w)) (hv : 0 ≤ v) (hv' : v < 4294967296) (hw : 0 ≤ v2) (hw' : v2 < 4294967296) : Calls Try.prog 4 #[.int .i64 kind, .int .u32 a, .int .u32 b, .int .u32 c, .int .u32 d, .agg #[.int .u8 a0, .int .u8 a1, .int .u8 a2, .int .u8 a3], .agg #[.int .u8 b0, .int .u8 b1, .int .u8 b2, .int .u8 b3], .int .u8 l] W (RetE (.bool true) W) := by
  go_enter Try.func4, Try.ntmps4
  go_wp2_with fail
  refine (awake12 _).mono ?_
  rintro e w1 ⟨rfl, hb⟩
  have G0 : w1.heap[W.heap.size]? = some (.cells #[.int .u8 a0, .int .u8 a1, .int .u8 a2, .int .u8 a3] 24 (0, 0)) := Reg.blk_later (by have h := blk_alloc (blk_new W (.cells #[.int .u8 a0, .int .u8 a1, .int .u8 a2, .int .u8 a3] 24)) (.cells #[.int .u8 b0, .int .u8 b1, .int .u8 b2, .int .u8 b3] 24); simpa using h) hb
  have G1 : w1.heap[W.heap.size + 1]? = some (.cells #[.int .u8 b0, .int .u8 b1, .int .u8 b2, .int .u8 b3] 24 (0, 0)) := Reg.blk_later (by have h := blk_new (W.alloc (.cells #[.int .u8 a0, .int .u8 a1, .int .u8 a2, .int .u8 a3] 24)) (.cells #[.int .u8 b0, .int .u8 b1, .int .u8 b2, .int .u8 b3] 24); simpa using h) hb
  have hE : Ext W w1 := Ext.trans (by (repeat' (first | assumption | exact Ext.refl _ | refine Ext.drewN ?_ | refine Ext.drew ?_ | refine Ext.alloc ?_))) hb
  have HE1 := Lib.hid hE
  clear hE hb
  have c0_0 : w1.cell? ⟨W.heap.size, 0, none⟩ = some (.int .u8 a0) := (blk_cell G0 0).trans rfl
  have a0_0 : ∀ o, (w1.alloc o).cell? ⟨W.heap.size, 0, none⟩ = some (.int .u8 a0) := fun o => (blk_cell (blk_alloc G0 o) 0).trans rfl
  have c0_1 : w1.cell? ⟨W.heap.size, 1, none⟩ = some (.int .u8 a1) := (blk_cell G0 1).trans rfl
  have a0_1 : ∀ o, (w1.alloc o).cell? ⟨W.heap.size, 1, none⟩ = some (.int .u8 a1) := fun o => (blk_cell (blk_alloc G0 o) 1).trans rfl
  have c0_2 : w1.cell? ⟨W.heap.size, 2, none⟩ = some (.int .u8 a2) := (blk_cell G0 2).trans rfl
  have a0_2 : ∀ o, (w1.alloc o).cell? ⟨W.heap.size, 2, none⟩ = some (.int .u8 a2) := fun o => (blk_cell (blk_alloc G0 o) 2).trans rfl
  have c0_3 : w1.cell? ⟨W.heap.size, 3, none⟩ = some (.int .u8 a3) := (blk_cell G0 3).trans rfl
  have a0_3 : ∀ o, (w1.alloc o).cell? ⟨W.heap.size, 3, none⟩ = some (.int .u8 a3) := fun o => (blk_cell (blk_alloc G0 o) 3).trans rfl
  have H0 := Lib.hid G0
  clear G0
  have c1_0 : w1.cell? ⟨W.heap.size + 1, 0, none⟩ = some (.int .u8 b0) := (blk_cell G1 0).trans rfl
  have a1_0 : ∀ o, (w1.alloc o).cell? ⟨W.heap.size + 1, 0, none⟩ = some (.int .u8 b0) := fun o => (blk_cell (blk_alloc G1 o) 0).trans rfl
  have c1_1 : w1.cell? ⟨W.heap.size + 1, 1, none⟩ = some (.int .u8 b1) := (blk_cell G1 1).trans rfl
  have a1_1 : ∀ o, (w1.alloc o).cell? ⟨W.heap.size + 1, 1, none⟩ = some (.int .u8 b1) := fun o => (blk_cell (blk_alloc G1 o) 1).trans rfl
  have c1_2 : w1.cell? ⟨W.heap.size + 1, 2, none⟩ = some (.int .u8 b2) := (blk_cell G1 2).trans rfl
  have a1_2 : ∀ o, (w1.alloc o).cell? ⟨W.heap.size + 1, 2, none⟩ = some (.int .u8 b2) := fun o => (blk_cell (blk_alloc G1 o) 2).trans rfl
  have c1_3 : w1.cell? ⟨W.heap.size + 1, 3, none⟩ = some (.int .u8 b3) := (blk_cell G1 3).trans rfl
  have a1_3 : ∀ o, (w1.alloc o).cell? ⟨W.heap.size + 1, 3, none⟩ = some (.int .u8 b3) := fun o => (blk_cell (blk_alloc G1 o) 3).trans rfl
  have H1 := Lib.hid G1
  clear G1
  go_wp2_with fail
  clear c0_0 a0_0 c0_1 a0_1 c0_2 a0_2 c0_3 a0_3 c1_0 a1_0 c1_1 a1_1 c1_2 a1_2 c1_3 a1_3
  refine Reg.wp_open (fun w' => Ext W w' ∧ w'.heap[W.heap.size]? = some (.cells #[.int .u8 a0, .int .u8 a1, .int .u8 a2, .int .u8 a3] 24 (0, 0)) ∧ w'.heap[W.heap.size + 1]? = some (.cells #[.int .u8 b0, .int .u8 b1, .int .u8 b2, .int .u8 b3] 24 (0, 0))) ⟨by have h := HE1.out; (repeat' (first | assumption | exact Ext.refl _ | refine Ext.drewN ?_ | refine Ext.drew ?_ | refine Ext.alloc ?_)), H0.out, H1.out⟩ (fun w2 hS => ?_)
  clear HE1 H0 H1
  obtain ⟨hE, G0, G1⟩ := hS
  have HE2 := Lib.hid hE
  clear hE
  have c0_0 : w2.cell? ⟨W.heap.size, 0, none⟩ = some (.int .u8 a0) := (blk_cell G0 0).trans rfl
  have c0_1 : w2.cell? ⟨W.heap.size, 1, none⟩ = some (.int .u8 a1) := (blk_cell G0 1).trans rfl
  have c0_2 : w2.cell? ⟨W.heap.size, 2, none⟩ = some (.int .u8 a2) := (blk_cell G0 2).trans rfl
  have c0_3 : w2.cell? ⟨W.heap.size, 3, none⟩ = some (.int .u8 a3) := (blk_cell G0 3).trans rfl
  have H0 := Lib.hid G0
  clear G0
  have c1_0 : w2.cell? ⟨W.heap.size + 1, 0, none⟩ = some (.int .u8 b0) := (blk_cell G1 0).trans rfl
  have c1_1 : w2.cell? ⟨W.heap.size + 1, 1, none⟩ = some (.int .u8 b1) := (blk_cell G1 1).trans rfl
  have c1_2 : w2.cell? ⟨W.heap.size + 1, 2, none⟩ = some (.int .u8 b2) := (blk_cell G1 2).trans rfl
  have c1_3 : w2.cell? ⟨W.heap.size + 1, 3, none⟩ = some (.int .u8 b3) := (blk_cell G1 3).trans rfl
  have H1 := Lib.hid G1
  clear G1
  have k0_0 := cell_regrown c0_0
  have k0_1 := cell_regrown c0_1
  have k0_2 := cell_regrown c0_2
  have k0_3 := cell_regrown c0_3
  have k1_0 := cell_regrown c1_0
  have k1_1 := cell_regrown c1_1
  have k1_2 := cell_regrown c1_2
  have k1_3 := cell_regrown c1_3
  clear c0_0 c0_1 c0_2 c0_3 c1_0 c1_1 c1_2 c1_3
  have xM1 := Reg.call_cl M1 w2
  have xM2 := Reg.call_cl M2 w2
  refine Reg.wp_region_reads (B := w2) (by kernel_rfl) (by kernel_rfl) (Below.refl _ w2) ?_
  (repeat (first | go_big_quiet_step (first | exact xM1 _ _ _ rfl | exact xM2 _ _ _ rfl) | quiet_step (first | exact xM1 _ _ _ rfl | exact xM2 _ _ _ rfl)))
  refine wpQuiet_nil ?_
  intro _ hw'
  obtain ⟨⟨dq, osq⟩, hw''⟩ := hw'
  subst hw''
  go_wp2_with fail
  refine (D1 _).mono ?_
  rintro e w3 ⟨rfl, hb⟩
  clear k0_0 k0_1 k0_2 k0_3 k1_0 k1_1 k1_2 k1_3
  have G0 := Reg.blk_later (Reg.blk_grow H0.out dq osq) hb
  have G1 := Reg.blk_later (Reg.blk_grow H1.out dq osq) hb
  have hE : Ext W w3 := Ext.trans (Ext.trans HE2.out (Ext.of_cl w2 dq osq)) hb
  have HE3 := Lib.hid hE
  clear hE hb HE2 H0 H1
  have c0_0 : w3.cell? ⟨W.heap.size, 0, none⟩ = some (.int .u8 a0) := (blk_cell G0 0).trans rfl
  have a0_0 : ∀ o, (w3.alloc o).cell? ⟨W.heap.size, 0, none⟩ = some (.int .u8 a0) := fun o => (blk_cell (blk_alloc G0 o) 0).trans rfl
  have c0_1 : w3.cell? ⟨W.heap.size, 1, none⟩ = some (.int .u8 a1) := (blk_cell G0 1).trans rfl
  have a0_1 : ∀ o, (w3.alloc o).cell? ⟨W.heap.size, 1, none⟩ = some (.int .u8 a1) := fun o => (blk_cell (blk_alloc G0 o) 1).trans rfl
  have c0_2 : w3.cell? ⟨W.heap.size, 2, none⟩ = some (.int .u8 a2) := (blk_cell G0 2).trans rfl
  have a0_2 : ∀ o, (w3.alloc o).cell? ⟨W.heap.size, 2, none⟩ = some (.int .u8 a2) := fun o => (blk_cell (blk_alloc G0 o) 2).trans rfl
  have c0_3 : w3.cell? ⟨W.heap.size, 3, none⟩ = some (.int .u8 a3) := (blk_cell G0 3).trans rfl
  have a0_3 : ∀ o, (w3.alloc o).cell? ⟨W.heap.size, 3, none⟩ = some (.int .u8 a3) := fun o => (blk_cell (blk_alloc G0 o) 3).trans rfl
  have H0 := Lib.hid G0
  clear G0
  have c1_0 : w3.cell? ⟨W.heap.size + 1, 0, none⟩ = some (.int .u8 b0) := (blk_cell G1 0).trans rfl
  have a1_0 : ∀ o, (w3.alloc o).cell? ⟨W.heap.size + 1, 0, none⟩ = some (.int .u8 b0) := fun o => (blk_cell (blk_alloc G1 o) 0).trans rfl
  have c1_1 : w3.cell? ⟨W.heap.size + 1, 1, none⟩ = some (.int .u8 b1) := (blk_cell G1 1).trans rfl
  have a1_1 : ∀ o, (w3.alloc o).cell? ⟨W.heap.size + 1, 1, none⟩ = some (.int .u8 b1) := fun o => (blk_cell (blk_alloc G1 o) 1).trans rfl
  have c1_2 : w3.cell? ⟨W.heap.size + 1, 2, none⟩ = some (.int .u8 b2) := (blk_cell G1 2).trans rfl
  have a1_2 : ∀ o, (w3.alloc o).cell? ⟨W.heap.size + 1, 2, none⟩ = some (.int .u8 b2) := fun o => (blk_cell (blk_alloc G1 o) 2).trans rfl
  have c1_3 : w3.cell? ⟨W.heap.size + 1, 3, none⟩ = some (.int .u8 b3) := (blk_cell G1 3).trans rfl
  have a1_3 : ∀ o, (w3.alloc o).cell? ⟨W.heap.size + 1, 3, none⟩ = some (.int .u8 b3) := fun o => (blk_cell (blk_alloc G1 o) 3).trans rfl
  have H1 := Lib.hid G1
  clear G1
  go_wp2_with fail
  refine (D2 _).mono ?_
  rintro e w4 ⟨rfl, hb⟩
  clear c0_0 a0_0 c0_1 a0_1 c0_2 a0_2 c0_3 a0_3 c1_0 a1_0 c1_1 a1_1 c1_2 a1_2 c1_3 a1_3
  have G0 := Reg.blk_later H0.out hb
  have G1 := Reg.blk_later H1.out hb
  have hE : Ext W w4 := Ext.trans (by have h := HE3.out; (repeat' (first | assumption | exact Ext.refl _ | refine Ext.drewN ?_ | refine Ext.drew ?_ | refine Ext.alloc ?_))) hb
  have HE4 := Lib.hid hE
  clear hE hb HE3 H0 H1
  have c0_0 : w4.cell? ⟨W.heap.size, 0, none⟩ = some (.int .u8 a0) := (blk_cell G0 0).trans rfl
  have a0_0 : ∀ o, (w4.alloc o).cell? ⟨W.heap.size, 0, none⟩ = some (.int .u8 a0) := fun o => (blk_cell (blk_alloc G0 o) 0).trans rfl
  have c0_1 : w4.cell? ⟨W.heap.size, 1, none⟩ = some (.int .u8 a1) := (blk_cell G0 1).trans rfl
  have a0_1 : ∀ o, (w4.alloc o).cell? ⟨W.heap.size, 1, none⟩ = some (.int .u8 a1) := fun o => (blk_cell (blk_alloc G0 o) 1).trans rfl
  have c0_2 : w4.cell? ⟨W.heap.size, 2, none⟩ = some (.int .u8 a2) := (blk_cell G0 2).trans rfl
  have a0_2 : ∀ o, (w4.alloc o).cell? ⟨W.heap.size, 2, none⟩ = some (.int .u8 a2) := fun o => (blk_cell (blk_alloc G0 o) 2).trans rfl
  have c0_3 : w4.cell? ⟨W.heap.size, 3, none⟩ = some (.int .u8 a3) := (blk_cell G0 3).trans rfl
  have a0_3 : ∀ o, (w4.alloc o).cell? ⟨W.heap.size, 3, none⟩ = some (.int .u8 a3) := fun o => (blk_cell (blk_alloc G0 o) 3).trans rfl
  have H0 := Lib.hid G0
  clear G0
  have c1_0 : w4.cell? ⟨W.heap.size + 1, 0, none⟩ = some (.int .u8 b0) := (blk_cell G1 0).trans rfl
  have a1_0 : ∀ o, (w4.alloc o).cell? ⟨W.heap.size + 1, 0, none⟩ = some (.int .u8 b0) := fun o => (blk_cell (blk_alloc G1 o) 0).trans rfl
  have c1_1 : w4.cell? ⟨W.heap.size + 1, 1, none⟩ = some (.int .u8 b1) := (blk_cell G1 1).trans rfl
  have a1_1 : ∀ o, (w4.alloc o).cell? ⟨W.heap.size + 1, 1, none⟩ = some (.int .u8 b1) := fun o => (blk_cell (blk_alloc G1 o) 1).trans rfl
  have c1_2 : w4.cell? ⟨W.heap.size + 1, 2, none⟩ = some (.int .u8 b2) := (blk_cell G1 2).trans rfl
  have a1_2 : ∀ o, (w4.alloc o).cell? ⟨W.heap.size + 1, 2, none⟩ = some (.int .u8 b2) := fun o => (blk_cell (blk_alloc G1 o) 2).trans rfl
  have c1_3 : w4.cell? ⟨W.heap.size + 1, 3, none⟩ = some (.int .u8 b3) := (blk_cell G1 3).trans rfl
  have a1_3 : ∀ o, (w4.alloc o).cell? ⟨W.heap.size + 1, 3, none⟩ = some (.int .u8 b3) := fun o => (blk_cell (blk_alloc G1 o) 3).trans rfl
  have H1 := Lib.hid G1
  clear G1
  go_wp2_with fail
  refine (F1 _).mono ?_
  rintro e w5 ⟨rfl, hb⟩
  clear c0_0 a0_0 c0_1 a0_1 c0_2 a0_2 c0_3 a0_3 c1_0 a1_0 c1_1 a1_1 c1_2 a1_2 c1_3 a1_3
  have G0 := Reg.blk_later H0.out hb
  have G1 := Reg.blk_later H1.out hb
  have hE : Ext W w5 := Ext.trans (by have h := HE4.out; (repeat' (first | assumption | exact Ext.refl _ | refine Ext.drewN ?_ | refine Ext.drew ?_ | refine Ext.alloc ?_))) hb
  have HE5 := Lib.hid hE
  clear hE hb HE4 H0 H1
  have c0_0 : w5.cell? ⟨W.heap.size, 0, none⟩ = some (.int .u8 a0) := (blk_cell G0 0).trans rfl
  have a0_0 : ∀ o, (w5.alloc o).cell? ⟨W.heap.size, 0, none⟩ = some (.int .u8 a0) := fun o => (blk_cell (blk_alloc G0 o) 0).trans rfl
  have c0_1 : w5.cell? ⟨W.heap.size, 1, none⟩ = some (.int .u8 a1) := (blk_cell G0 1).trans rfl
  have a0_1 : ∀ o, (w5.alloc o).cell? ⟨W.heap.size, 1, none⟩ = some (.int .u8 a1) := fun o => (blk_cell (blk_alloc G0 o) 1).trans rfl
  have c0_2 : w5.cell? ⟨W.heap.size, 2, none⟩ = some (.int .u8 a2) := (blk_cell G0 2).trans rfl
  have a0_2 : ∀ o, (w5.alloc o).cell? ⟨W.heap.size, 2, none⟩ = some (.int .u8 a2) := fun o => (blk_cell (blk_alloc G0 o) 2).trans rfl
  have c0_3 : w5.cell? ⟨W.heap.size, 3, none⟩ = some (.int .u8 a3) := (blk_cell G0 3).trans rfl
  have a0_3 : ∀ o, (w5.alloc o).cell? ⟨W.heap.size, 3, none⟩ = some (.int .u8 a3) := fun o => (blk_cell (blk_alloc G0 o) 3).trans rfl
  have H0 := Lib.hid G0
  clear G0
  have c1_0 : w5.cell? ⟨W.heap.size + 1, 0, none⟩ = some (.int .u8 b0) := (blk_cell G1 0).trans rfl
  have a1_0 : ∀ o, (w5.alloc o).cell? ⟨W.heap.size + 1, 0, none⟩ = some (.int .u8 b0) := fun o => (blk_cell (blk_alloc G1 o) 0).trans rfl
  have c1_1 : w5.cell? ⟨W.heap.size + 1, 1, none⟩ = some (.int .u8 b1) := (blk_cell G1 1).trans rfl
  have a1_1 : ∀ o, (w5.alloc o).cell? ⟨W.heap.size + 1, 1, none⟩ = some (.int .u8 b1) := fun o => (blk_cell (blk_alloc G1 o) 1).trans rfl
  have c1_2 : w5.cell? ⟨W.heap.size + 1, 2, none⟩ = some (.int .u8 b2) := (blk_cell G1 2).trans rfl
  have a1_2 : ∀ o, (w5.alloc o).cell? ⟨W.heap.size + 1, 2, none⟩ = some (.int .u8 b2) := fun o => (blk_cell (blk_alloc G1 o) 2).trans rfl
  have c1_3 : w5.cell? ⟨W.heap.size + 1, 3, none⟩ = some (.int .u8 b3) := (blk_cell G1 3).trans rfl
  have a1_3 : ∀ o, (w5.alloc o).cell? ⟨W.heap.size + 1, 3, none⟩ = some (.int .u8 b3) := fun o => (blk_cell (blk_alloc G1 o) 3).trans rfl
  have H1 := Lib.hid G1
  clear G1
  go_wp2_with fail
  refine (F2 _).mono ?_
  rintro e w6 ⟨rfl, hb⟩
  clear c0_0 a0_0 c0_1 a0_1 c0_2 a0_2 c0_3 a0_3 c1_0 a1_0 c1_1 a1_1 c1_2 a1_2 c1_3 a1_3
  have G0 := Reg.blk_later (blk_alloc H0.out _) hb
  have G1 := Reg.blk_later (blk_alloc H1.out _) hb
  have G2 : w6.heap[w5.heap.size]? = some (.cells #[.int .u8 p0, .int .u8 p1, .int .u8 p2, .int .u8 p3] 24 (0, 0)) := Reg.blk_later (blk_new _ _) hb
  have hE : Ext W w6 := Ext.trans (by have h := HE5.out; (repeat' (first | assumption | exact Ext.refl _ | refine Ext.drewN ?_ | refine Ext.drew ?_ | refine Ext.alloc ?_))) hb
  have HE6 := Lib.hid hE
  clear hE hb HE5 H0 H1
  have c0_0 : w6.cell? ⟨W.heap.size, 0, none⟩ = some (.int .u8 a0) := (blk_cell G0 0).trans rfl
  have a0_0 : ∀ o, (w6.alloc o).cell? ⟨W.heap.size, 0, none⟩ = some (.int .u8 a0) := fun o => (blk_cell (blk_alloc G0 o) 0).trans rfl
  have c0_1 : w6.cell? ⟨W.heap.size, 1, none⟩ = some (.int .u8 a1) := (blk_cell G0 1).trans rfl
  have a0_1 : ∀ o, (w6.alloc o).cell? ⟨W.heap.size, 1, none⟩ = some (.int .u8 a1) := fun o => (blk_cell (blk_alloc G0 o) 1).trans rfl
  have c0_2 : w6.cell? ⟨W.heap.size, 2, none⟩ = some (.int .u8 a2) := (blk_cell G0 2).trans rfl
  have a0_2 : ∀ o, (w6.alloc o).cell? ⟨W.heap.size, 2, none⟩ = some (.int .u8 a2) := fun o => (blk_cell (blk_alloc G0 o) 2).trans rfl
  have c0_3 : w6.cell? ⟨W.heap.size, 3, none⟩ = some (.int .u8 a3) := (blk_cell G0 3).trans rfl
  have a0_3 : ∀ o, (w6.alloc o).cell? ⟨W.heap.size, 3, none⟩ = some (.int .u8 a3) := fun o => (blk_cell (blk_alloc G0 o) 3).trans rfl
  have H0 := Lib.hid G0
  clear G0
  have c1_0 : w6.cell? ⟨W.heap.size + 1, 0, none⟩ = some (.int .u8 b0) := (blk_cell G1 0).trans rfl
  have a1_0 : ∀ o, (w6.alloc o).cell? ⟨W.heap.size + 1, 0, none⟩ = some (.int .u8 b0) := fun o => (blk_cell (blk_alloc G1 o) 0).trans rfl
  have c1_1 : w6.cell? ⟨W.heap.size + 1, 1, none⟩ = some (.int .u8 b1) := (blk_cell G1 1).trans rfl
  have a1_1 : ∀ o, (w6.alloc o).cell? ⟨W.heap.size + 1, 1, none⟩ = some (.int .u8 b1) := fun o => (blk_cell (blk_alloc G1 o) 1).trans rfl
  have c1_2 : w6.cell? ⟨W.heap.size + 1, 2, none⟩ = some (.int .u8 b2) := (blk_cell G1 2).trans rfl
  have a1_2 : ∀ o, (w6.alloc o).cell? ⟨W.heap.size + 1, 2, none⟩ = some (.int .u8 b2) := fun o => (blk_cell (blk_alloc G1 o) 2).trans rfl
  have c1_3 : w6.cell? ⟨W.heap.size + 1, 3, none⟩ = some (.int .u8 b3) := (blk_cell G1 3).trans rfl
  have a1_3 : ∀ o, (w6.alloc o).cell? ⟨W.heap.size + 1, 3, none⟩ = some (.int .u8 b3) := fun o => (blk_cell (blk_alloc G1 o) 3).trans rfl
  have H1 := Lib.hid G1
  clear G1
  have c2_0 : w6.cell? ⟨w5.heap.size, 0, none⟩ = some (.int .u8 p0) := (blk_cell G2 0).trans rfl
  have a2_0 : ∀ o, (w6.alloc o).cell? ⟨w5.heap.size, 0, none⟩ = some (.int .u8 p0) := fun o => (blk_cell (blk_alloc G2 o) 0).trans rfl
  have c2_1 : w6.cell? ⟨w5.heap.size, 1, none⟩ = some (.int .u8 p1) := (blk_cell G2 1).trans rfl
  have a2_1 : ∀ o, (w6.alloc o).cell? ⟨w5.heap.size, 1, none⟩ = some (.int .u8 p1) := fun o => (blk_cell (blk_alloc G2 o) 1).trans rfl
  have c2_2 : w6.cell? ⟨w5.heap.size, 2, none⟩ = some (.int .u8 p2) := (blk_cell G2 2).trans rfl
  have a2_2 : ∀ o, (w6.alloc o).cell? ⟨w5.heap.size, 2, none⟩ = some (.int .u8 p2) := fun o => (blk_cell (blk_alloc G2 o) 2).trans rfl
  have c2_3 : w6.cell? ⟨w5.heap.size, 3, none⟩ = some (.int .u8 p3) := (blk_cell G2 3).trans rfl
  have a2_3 : ∀ o, (w6.alloc o).cell? ⟨w5.heap.size, 3, none⟩ = some (.int .u8 p3) := fun o => (blk_cell (blk_alloc G2 o) 3).trans rfl
  have H2 := Lib.hid G2
  clear G2
  go_wp2
  have hE := HE6.out
  go_ret
  exact ⟨rfl, by (repeat' (first | assumption | exact Ext.refl _ | refine Ext.drewN ?_ | refine Ext.drew ?_ | refine Ext.alloc ?_))⟩
set_option maxRecDepth 100000 in
set_option maxHeartbeats 40000000 in
theorem core0 {W : World} {kind a b c d l x y v v2 a0 a1 a2 a3 b0 b1 b2 b3 p0 p1 p2 p3 : Int} (M1 : ∀ w : World, Calls Try.prog 15 #[.int .u32 a, .int .u32 c, .agg #[.int .u8 a0, .int .u8 a1, .int .u8 a2, .int .u8 a3], .int .u8 l] w (RetE (.int .u32 x) w)) (M2 : ∀ w : World, Calls Try.prog 15 #[.int .u32 b, .int .u32 d, .agg #[.int .u8 b0, .int .u8 b1, .int .u8 b2, .int .u8 b3], .int .u8 l] w (RetE (.int .u32 y) w)) (D1 : ∀ w : World, Calls Try.prog 16 #[.int .i64 kind, .int .u32 a, .int .u32 b] w (RetE (.tuple #[.int .u32 v, .int .i64 0]) w)) (D2 : ∀ w : World, Calls Try.prog 16 #[.int .i64 kind, .int .u32 x, .int .u32 y] w (RetE (.tuple #[.int .u32 v2, .int .i64 0]) w)) (F1 : ∀ w : World, Calls Try.prog 13 #[.int .i64 kind, .int .u32 a, .int .u32 b, .agg #[.int .u8 a0, .int .u8 a1, .int .u8 a2, .int .u8 a3], .agg #[.int .u8 b0, .int .u8 b1, .int .u8 b2, .int .u8 b3]] w (RetE (.tuple #[.agg #[.int .u8 p0, .int .u8 p1, .int .u8 p2, .int .u8 p3], .int .i64 0]) w)) (F2 : ∀ w : World, Calls Try.prog 13 #[.int .i64 kind, .int .u32 x, .int .u32 y, .agg #[.int .u8 a0, .int .u8 a1, .int .u8 a2, .int .u8 a3], .agg #[.int .u8 b0, .int .u8 b1, .int .u8 b2, .int .u8 b3]] w (RetE (.tuple #[.agg #[.int .u8 p0, .int .u8 p1, .int .u8 p2, .int .u8 p3], .int .i64 0]) w)) (hv : 0 ≤ v) (hv' : v < 4294967296) (hw : 0 ≤ v2) (hw' : v2 < 4294967296) (e0 : Hid ((bits .and .u8 (bits .or .u8 p0 p0) l == 0) = false ∨ (bits .and .u8 (bits .or .u8 p0 p0) l == 0) = true ∧ byI v 0 = byI v2 0)) (e1 : Hid ((bits .and .u8 (bits .or .u8 p1 p1) l == 0) = false ∨ (bits .and .u8 (bits .or .u8 p1 p1) l == 0) = true ∧ byI v 1 = byI v2 1)) (e2 : Hid ((bits .and .u8 (bits .or .u8 p2 p2) l == 0) = false ∨ (bits .and .u8 (bits .or .u8 p2 p2) l == 0) = true ∧ byI v 2 = byI v2 2)) (e3 : Hid ((bits .and .u8 (bits .or .u8 p3 p3) l == 0) = false ∨ (bits .and .u8 (bits .or .u8 p3 p3) l == 0) = true ∧ byI v 3 = byI v2 3)) : Calls Try.prog 4 #[.int .i64 kind, .int .u32 a, .int .u32 b, .int .u32 c, .int .u32 d, .agg #[.int .u8 a0, .int .u8 a1, .int .u8 a2, .int .u8 a3], .agg #[.int .u8 b0, .int .u8 b1, .int .u8 b2, .int .u8 b3], .int .u8 l] W (RetE (.bool true) W) := by
  go_enter Try.func4, Try.ntmps4
  go_wp2_with fail
  refine (awake12 _).mono ?_
  rintro e w1 ⟨rfl, hb⟩
  have G0 : w1.heap[W.heap.size]? = some (.cells #[.int .u8 a0, .int .u8 a1, .int .u8 a2, .int .u8 a3] 24 (0, 0)) := Reg.blk_later (by have h := blk_alloc (blk_new W (.cells #[.int .u8 a0, .int .u8 a1, .int .u8 a2, .int .u8 a3] 24)) (.cells #[.int .u8 b0, .int .u8 b1, .int .u8 b2, .int .u8 b3] 24); simpa using h) hb
  have G1 : w1.heap[W.heap.size + 1]? = some (.cells #[.int .u8 b0, .int .u8 b1, .int .u8 b2, .int .u8 b3] 24 (0, 0)) := Reg.blk_later (by have h := blk_new (W.alloc (.cells #[.int .u8 a0, .int .u8 a1, .int .u8 a2, .int .u8 a3] 24)) (.cells #[.int .u8 b0, .int .u8 b1, .int .u8 b2, .int .u8 b3] 24); simpa using h) hb
  have hE : Ext W w1 := Ext.trans (by (repeat' (first | assumption | exact Ext.refl _ | refine Ext.drewN ?_ | refine Ext.drew ?_ | refine Ext.alloc ?_))) hb
  have HE1 := Lib.hid hE
  clear hE hb
  have c0_0 : w1.cell? ⟨W.heap.size, 0, none⟩ = some (.int .u8 a0) := (blk_cell G0 0).trans rfl
  have a0_0 : ∀ o, (w1.alloc o).cell? ⟨W.heap.size, 0, none⟩ = some (.int .u8 a0) := fun o => (blk_cell (blk_alloc G0 o) 0).trans rfl
  have c0_1 : w1.cell? ⟨W.heap.size, 1, none⟩ = some (.int .u8 a1) := (blk_cell G0 1).trans rfl
  have a0_1 : ∀ o, (w1.alloc o).cell? ⟨W.heap.size, 1, none⟩ = some (.int .u8 a1) := fun o => (blk_cell (blk_alloc G0 o) 1).trans rfl
  have c0_2 : w1.cell? ⟨W.heap.size, 2, none⟩ = some (.int .u8 a2) := (blk_cell G0 2).trans rfl
  have a0_2 : ∀ o, (w1.alloc o).cell? ⟨W.heap.size, 2, none⟩ = some (.int .u8 a2) := fun o => (blk_cell (blk_alloc G0 o) 2).trans rfl
  have c0_3 : w1.cell? ⟨W.heap.size, 3, none⟩ = some (.int .u8 a3) := (blk_cell G0 3).trans rfl
  have a0_3 : ∀ o, (w1.alloc o).cell? ⟨W.heap.size, 3, none⟩ = some (.int .u8 a3) := fun o => (blk_cell (blk_alloc G0 o) 3).trans rfl
  have H0 := Lib.hid G0
  clear G0
  have c1_0 : w1.cell? ⟨W.heap.size + 1, 0, none⟩ = some (.int .u8 b0) := (blk_cell G1 0).trans rfl
  have a1_0 : ∀ o, (w1.alloc o).cell? ⟨W.heap.size + 1, 0, none⟩ = some (.int .u8 b0) := fun o => (blk_cell (blk_alloc G1 o) 0).trans rfl
  have c1_1 : w1.cell? ⟨W.heap.size + 1, 1, none⟩ = some (.int .u8 b1) := (blk_cell G1 1).trans rfl
  have a1_1 : ∀ o, (w1.alloc o).cell? ⟨W.heap.size + 1, 1, none⟩ = some (.int .u8 b1) := fun o => (blk_cell (blk_alloc G1 o) 1).trans rfl
  have c1_2 : w1.cell? ⟨W.heap.size + 1, 2, none⟩ = some (.int .u8 b2) := (blk_cell G1 2).trans rfl
  have a1_2 : ∀ o, (w1.alloc o).cell? ⟨W.heap.size + 1, 2, none⟩ = some (.int .u8 b2) := fun o => (blk_cell (blk_alloc G1 o) 2).trans rfl
  have c1_3 : w1.cell? ⟨W.heap.size + 1, 3, none⟩ = some (.int .u8 b3) := (blk_cell G1 3).trans rfl
  have a1_3 : ∀ o, (w1.alloc o).cell? ⟨W.heap.size + 1, 3, none⟩ = some (.int .u8 b3) := fun o => (blk_cell (blk_alloc G1 o) 3).trans rfl
  have H1 := Lib.hid G1
  clear G1
  go_wp2_with fail
  clear c0_0 a0_0 c0_1 a0_1 c0_2 a0_2 c0_3 a0_3 c1_0 a1_0 c1_1 a1_1 c1_2 a1_2 c1_3 a1_3
  refine Reg.wp_open (fun w' => Ext W w' ∧ w'.heap[W.heap.size]? = some (.cells #[.int .u8 a0, .int .u8 a1, .int .u8 a2, .int .u8 a3] 24 (0, 0)) ∧ w'.heap[W.heap.size + 1]? = some (.cells #[.int .u8 b0, .int .u8 b1, .int .u8 b2, .int .u8 b3] 24 (0, 0))) ⟨by have h := HE1.out; (repeat' (first | assumption | exact Ext.refl _ | refine Ext.drewN ?_ | refine Ext.drew ?_ | refine Ext.alloc ?_)), H0.out, H1.out⟩ (fun w2 hS => ?_)
  clear HE1 H0 H1
  obtain ⟨hE, G0, G1⟩ := hS
  have HE2 := Lib.hid hE
  clear hE
  have c0_0 : w2.cell? ⟨W.heap.size, 0, none⟩ = some (.int .u8 a0) := (blk_cell G0 0).trans rfl
  have c0_1 : w2.cell? ⟨W.heap.size, 1, none⟩ = some (.int .u8 a1) := (blk_cell G0 1).trans rfl
  have c0_2 : w2.cell? ⟨W.heap.size, 2, none⟩ = some (.int .u8 a2) := (blk_cell G0 2).trans rfl
  have c0_3 : w2.cell? ⟨W.heap.size, 3, none⟩ = some (.int .u8 a3) := (blk_cell G0 3).trans rfl
  have H0 := Lib.hid G0
  clear G0
  have c1_0 : w2.cell? ⟨W.heap.size + 1, 0, none⟩ = some (.int .u8 b0) := (blk_cell G1 0).trans rfl
  have c1_1 : w2.cell? ⟨W.heap.size + 1, 1, none⟩ = some (.int .u8 b1) := (blk_cell G1 1).trans rfl
  have c1_2 : w2.cell? ⟨W.heap.size + 1, 2, none⟩ = some (.int .u8 b2) := (blk_cell G1 2).trans rfl
  have c1_3 : w2.cell? ⟨W.heap.size + 1, 3, none⟩ = some (.int .u8 b3) := (blk_cell G1 3).trans rfl
  have H1 := Lib.hid G1
  clear G1
  have k0_0 := cell_regrown c0_0
  have k0_1 := cell_regrown c0_1
  have k0_2 := cell_regrown c0_2
  have k0_3 := cell_regrown c0_3
  have k1_0 := cell_regrown c1_0
  have k1_1 := cell_regrown c1_1
  have k1_2 := cell_regrown c1_2
  have k1_3 := cell_regrown c1_3
  clear c0_0 c0_1 c0_2 c0_3 c1_0 c1_1 c1_2 c1_3
  have xM1 := Reg.call_cl M1 w2
  have xM2 := Reg.call_cl M2 w2
  refine Reg.wp_region_reads (B := w2) (by kernel_rfl) (by kernel_rfl) (Below.refl _ w2) ?_
  (repeat (first | go_big_quiet_step (first | exact xM1 _ _ _ rfl | exact xM2 _ _ _ rfl) | quiet_step (first | exact xM1 _ _ _ rfl | exact xM2 _ _ _ rfl)))
  refine wpQuiet_nil ?_
  intro _ hw'
  obtain ⟨⟨dq, osq⟩, hw''⟩ := hw'
  subst hw''
  go_wp2_with fail
  refine (D1 _).mono ?_
  rintro e w3 ⟨rfl, hb⟩
  clear k0_0 k0_1 k0_2 k0_3 k1_0 k1_1 k1_2 k1_3
  have G0 := Reg.blk_later (Reg.blk_grow H0.out dq osq) hb
  have G1 := Reg.blk_later (Reg.blk_grow H1.out dq osq) hb
  have hE : Ext W w3 := Ext.trans (Ext.trans HE2.out (Ext.of_cl w2 dq osq)) hb
  have HE3 := Lib.hid hE
  clear hE hb HE2 H0 H1
  have c0_0 : w3.cell? ⟨W.heap.size, 0, none⟩ = some (.int .u8 a0) := (blk_cell G0 0).trans rfl
  have a0_0 : ∀ o, (w3.alloc o).cell? ⟨W.heap.size, 0, none⟩ = some (.int .u8 a0) := fun o => (blk_cell (blk_alloc G0 o) 0).trans rfl
  have c0_1 : w3.cell? ⟨W.heap.size, 1, none⟩ = some (.int .u8 a1) := (blk_cell G0 1).trans rfl
  have a0_1 : ∀ o, (w3.alloc o).cell? ⟨W.heap.size, 1, none⟩ = some (.int .u8 a1) := fun o => (blk_cell (blk_alloc G0 o) 1).trans rfl
  have c0_2 : w3.cell? ⟨W.heap.size, 2, none⟩ = some (.int .u8 a2) := (blk_cell G0 2).trans rfl
  have a0_2 : ∀ o, (w3.alloc o).cell? ⟨W.heap.size, 2, none⟩ = some (.int .u8 a2) := fun o => (blk_cell (blk_alloc G0 o) 2).trans rfl
  have c0_3 : w3.cell? ⟨W.heap.size, 3, none⟩ = some (.int .u8 a3) := (blk_cell G0 3).trans rfl
  have a0_3 : ∀ o, (w3.alloc o).cell? ⟨W.heap.size, 3, none⟩ = some (.int .u8 a3) := fun o => (blk_cell (blk_alloc G0 o) 3).trans rfl
  have H0 := Lib.hid G0
  clear G0
  have c1_0 : w3.cell? ⟨W.heap.size + 1, 0, none⟩ = some (.int .u8 b0) := (blk_cell G1 0).trans rfl
  have a1_0 : ∀ o, (w3.alloc o).cell? ⟨W.heap.size + 1, 0, none⟩ = some (.int .u8 b0) := fun o => (blk_cell (blk_alloc G1 o) 0).trans rfl
  have c1_1 : w3.cell? ⟨W.heap.size + 1, 1, none⟩ = some (.int .u8 b1) := (blk_cell G1 1).trans rfl
  have a1_1 : ∀ o, (w3.alloc o).cell? ⟨W.heap.size + 1, 1, none⟩ = some (.int .u8 b1) := fun o => (blk_cell (blk_alloc G1 o) 1).trans rfl
  have c1_2 : w3.cell? ⟨W.heap.size + 1, 2, none⟩ = some (.int .u8 b2) := (blk_cell G1 2).trans rfl
  have a1_2 : ∀ o, (w3.alloc o).cell? ⟨W.heap.size + 1, 2, none⟩ = some (.int .u8 b2) := fun o => (blk_cell (blk_alloc G1 o) 2).trans rfl
  have c1_3 : w3.cell? ⟨W.heap.size + 1, 3, none⟩ = some (.int .u8 b3) := (blk_cell G1 3).trans rfl
  have a1_3 : ∀ o, (w3.alloc o).cell? ⟨W.heap.size + 1, 3, none⟩ = some (.int .u8 b3) := fun o => (blk_cell (blk_alloc G1 o) 3).trans rfl
  have H1 := Lib.hid G1
  clear G1
  go_wp2_with fail
  refine (D2 _).mono ?_
  rintro e w4 ⟨rfl, hb⟩
  clear c0_0 a0_0 c0_1 a0_1 c0_2 a0_2 c0_3 a0_3 c1_0 a1_0 c1_1 a1_1 c1_2 a1_2 c1_3 a1_3
  have G0 := Reg.blk_later H0.out hb
  have G1 := Reg.blk_later H1.out hb
  have hE : Ext W w4 := Ext.trans (by have h := HE3.out; (repeat' (first | assumption | exact Ext.refl _ | refine Ext.drewN ?_ | refine Ext.drew ?_ | refine Ext.alloc ?_))) hb
  have HE4 := Lib.hid hE
  clear hE hb HE3 H0 H1
  have c0_0 : w4.cell? ⟨W.heap.size, 0, none⟩ = some (.int .u8 a0) := (blk_cell G0 0).trans rfl
  have a0_0 : ∀ o, (w4.alloc o).cell? ⟨W.heap.size, 0, none⟩ = some (.int .u8 a0) := fun o => (blk_cell (blk_alloc G0 o) 0).trans rfl
  have c0_1 : w4.cell? ⟨W.heap.size, 1, none⟩ = some (.int .u8 a1) := (blk_cell G0 1).trans rfl
  have a0_1 : ∀ o, (w4.alloc o).cell? ⟨W.heap.size, 1, none⟩ = some (.int .u8 a1) := fun o => (blk_cell (blk_alloc G0 o) 1).trans rfl
  have c0_2 : w4.cell? ⟨W.heap.size, 2, none⟩ = some (.int .u8 a2) := (blk_cell G0 2).trans rfl
  have a0_2 : ∀ o, (w4.alloc o).cell? ⟨W.heap.size, 2, none⟩ = some (.int .u8 a2) := fun o => (blk_cell (blk_alloc G0 o) 2).trans rfl
  have c0_3 : w4.cell? ⟨W.heap.size, 3, none⟩ = some (.int .u8 a3) := (blk_cell G0 3).trans rfl
  have a0_3 : ∀ o, (w4.alloc o).cell? ⟨W.heap.size, 3, none⟩ = some (.int .u8 a3) := fun o => (blk_cell (blk_alloc G0 o) 3).trans rfl
  have H0 := Lib.hid G0
  clear G0
  have c1_0 : w4.cell? ⟨W.heap.size + 1, 0, none⟩ = some (.int .u8 b0) := (blk_cell G1 0).trans rfl
  have a1_0 : ∀ o, (w4.alloc o).cell? ⟨W.heap.size + 1, 0, none⟩ = some (.int .u8 b0) := fun o => (blk_cell (blk_alloc G1 o) 0).trans rfl
  have c1_1 : w4.cell? ⟨W.heap.size + 1, 1, none⟩ = some (.int .u8 b1) := (blk_cell G1 1).trans rfl
  have a1_1 : ∀ o, (w4.alloc o).cell? ⟨W.heap.size + 1, 1, none⟩ = some (.int .u8 b1) := fun o => (blk_cell (blk_alloc G1 o) 1).trans rfl
  have c1_2 : w4.cell? ⟨W.heap.size + 1, 2, none⟩ = some (.int .u8 b2) := (blk_cell G1 2).trans rfl
  have a1_2 : ∀ o, (w4.alloc o).cell? ⟨W.heap.size + 1, 2, none⟩ = some (.int .u8 b2) := fun o => (blk_cell (blk_alloc G1 o) 2).trans rfl
  have c1_3 : w4.cell? ⟨W.heap.size + 1, 3, none⟩ = some (.int .u8 b3) := (blk_cell G1 3).trans rfl
  have a1_3 : ∀ o, (w4.alloc o).cell? ⟨W.heap.size + 1, 3, none⟩ = some (.int .u8 b3) := fun o => (blk_cell (blk_alloc G1 o) 3).trans rfl
  have H1 := Lib.hid G1
  clear G1
  go_wp2_with fail
  refine (F1 _).mono ?_
  rintro e w5 ⟨rfl, hb⟩
  clear c0_0 a0_0 c0_1 a0_1 c0_2 a0_2 c0_3 a0_3 c1_0 a1_0 c1_1 a1_1 c1_2 a1_2 c1_3 a1_3
  have G0 := Reg.blk_later H0.out hb
  have G1 := Reg.blk_later H1.out hb
  have hE : Ext W w5 := Ext.trans (by have h := HE4.out; (repeat' (first | assumption | exact Ext.refl _ | refine Ext.drewN ?_ | refine Ext.drew ?_ | refine Ext.alloc ?_))) hb
  have HE5 := Lib.hid hE
  clear hE hb HE4 H0 H1
  have c0_0 : w5.cell? ⟨W.heap.size, 0, none⟩ = some (.int .u8 a0) := (blk_cell G0 0).trans rfl
  have a0_0 : ∀ o, (w5.alloc o).cell? ⟨W.heap.size, 0, none⟩ = some (.int .u8 a0) := fun o => (blk_cell (blk_alloc G0 o) 0).trans rfl
  have c0_1 : w5.cell? ⟨W.heap.size, 1, none⟩ = some (.int .u8 a1) := (blk_cell G0 1).trans rfl
  have a0_1 : ∀ o, (w5.alloc o).cell? ⟨W.heap.size, 1, none⟩ = some (.int .u8 a1) := fun o => (blk_cell (blk_alloc G0 o) 1).trans rfl
  have c0_2 : w5.cell? ⟨W.heap.size, 2, none⟩ = some (.int .u8 a2) := (blk_cell G0 2).trans rfl
  have a0_2 : ∀ o, (w5.alloc o).cell? ⟨W.heap.size, 2, none⟩ = some (.int .u8 a2) := fun o => (blk_cell (blk_alloc G0 o) 2).trans rfl
  have c0_3 : w5.cell? ⟨W.heap.size, 3, none⟩ = some (.int .u8 a3) := (blk_cell G0 3).trans rfl
  have a0_3 : ∀ o, (w5.alloc o).cell? ⟨W.heap.size, 3, none⟩ = some (.int .u8 a3) := fun o => (blk_cell (blk_alloc G0 o) 3).trans rfl
  have H0 := Lib.hid G0
  clear G0
  have c1_0 : w5.cell? ⟨W.heap.size + 1, 0, none⟩ = some (.int .u8 b0) := (blk_cell G1 0).trans rfl
  have a1_0 : ∀ o, (w5.alloc o).cell? ⟨W.heap.size + 1, 0, none⟩ = some (.int .u8 b0) := fun o => (blk_cell (blk_alloc G1 o) 0).trans rfl
  have c1_1 : w5.cell? ⟨W.heap.size + 1, 1, none⟩ = some (.int .u8 b1) := (blk_cell G1 1).trans rfl
  have a1_1 : ∀ o, (w5.alloc o).cell? ⟨W.heap.size + 1, 1, none⟩ = some (.int .u8 b1) := fun o => (blk_cell (blk_alloc G1 o) 1).trans rfl
  have c1_2 : w5.cell? ⟨W.heap.size + 1, 2, none⟩ = some (.int .u8 b2) := (blk_cell G1 2).trans rfl
  have a1_2 : ∀ o, (w5.alloc o).cell? ⟨W.heap.size + 1, 2, none⟩ = some (.int .u8 b2) := fun o => (blk_cell (blk_alloc G1 o) 2).trans rfl
  have c1_3 : w5.cell? ⟨W.heap.size + 1, 3, none⟩ = some (.int .u8 b3) := (blk_cell G1 3).trans rfl
  have a1_3 : ∀ o, (w5.alloc o).cell? ⟨W.heap.size + 1, 3, none⟩ = some (.int .u8 b3) := fun o => (blk_cell (blk_alloc G1 o) 3).trans rfl
  have H1 := Lib.hid G1
  clear G1
  go_wp2_with fail
  refine (F2 _).mono ?_
  rintro e w6 ⟨rfl, hb⟩
  clear c0_0 a0_0 c0_1 a0_1 c0_2 a0_2 c0_3 a0_3 c1_0 a1_0 c1_1 a1_1 c1_2 a1_2 c1_3 a1_3
  have G0 := Reg.blk_later (blk_alloc H0.out _) hb
  have G1 := Reg.blk_later (blk_alloc H1.out _) hb
  have G2 : w6.heap[w5.heap.size]? = some (.cells #[.int .u8 p0, .int .u8 p1, .int .u8 p2, .int .u8 p3] 24 (0, 0)) := Reg.blk_later (blk_new _ _) hb
  have hE : Ext W w6 := Ext.trans (by have h := HE5.out; (repeat' (first | assumption | exact Ext.refl _ | refine Ext.drewN ?_ | refine Ext.drew ?_ | refine Ext.alloc ?_))) hb
  have HE6 := Lib.hid hE
  clear hE hb HE5 H0 H1
  have c0_0 : w6.cell? ⟨W.heap.size, 0, none⟩ = some (.int .u8 a0) := (blk_cell G0 0).trans rfl
  have a0_0 : ∀ o, (w6.alloc o).cell? ⟨W.heap.size, 0, none⟩ = some (.int .u8 a0) := fun o => (blk_cell (blk_alloc G0 o) 0).trans rfl
  have c0_1 : w6.cell? ⟨W.heap.size, 1, none⟩ = some (.int .u8 a1) := (blk_cell G0 1).trans rfl
  have a0_1 : ∀ o, (w6.alloc o).cell? ⟨W.heap.size, 1, none⟩ = some (.int .u8 a1) := fun o => (blk_cell (blk_alloc G0 o) 1).trans rfl
  have c0_2 : w6.cell? ⟨W.heap.size, 2, none⟩ = some (.int .u8 a2) := (blk_cell G0 2).trans rfl
  have a0_2 : ∀ o, (w6.alloc o).cell? ⟨W.heap.size, 2, none⟩ = some (.int .u8 a2) := fun o => (blk_cell (blk_alloc G0 o) 2).trans rfl
  have c0_3 : w6.cell? ⟨W.heap.size, 3, none⟩ = some (.int .u8 a3) := (blk_cell G0 3).trans rfl
  have a0_3 : ∀ o, (w6.alloc o).cell? ⟨W.heap.size, 3, none⟩ = some (.int .u8 a3) := fun o => (blk_cell (blk_alloc G0 o) 3).trans rfl
  have H0 := Lib.hid G0
  clear G0
  have c1_0 : w6.cell? ⟨W.heap.size + 1, 0, none⟩ = some (.int .u8 b0) := (blk_cell G1 0).trans rfl
  have a1_0 : ∀ o, (w6.alloc o).cell? ⟨W.heap.size + 1, 0, none⟩ = some (.int .u8 b0) := fun o => (blk_cell (blk_alloc G1 o) 0).trans rfl
  have c1_1 : w6.cell? ⟨W.heap.size + 1, 1, none⟩ = some (.int .u8 b1) := (blk_cell G1 1).trans rfl
  have a1_1 : ∀ o, (w6.alloc o).cell? ⟨W.heap.size + 1, 1, none⟩ = some (.int .u8 b1) := fun o => (blk_cell (blk_alloc G1 o) 1).trans rfl
  have c1_2 : w6.cell? ⟨W.heap.size + 1, 2, none⟩ = some (.int .u8 b2) := (blk_cell G1 2).trans rfl
  have a1_2 : ∀ o, (w6.alloc o).cell? ⟨W.heap.size + 1, 2, none⟩ = some (.int .u8 b2) := fun o => (blk_cell (blk_alloc G1 o) 2).trans rfl
  have c1_3 : w6.cell? ⟨W.heap.size + 1, 3, none⟩ = some (.int .u8 b3) := (blk_cell G1 3).trans rfl
  have a1_3 : ∀ o, (w6.alloc o).cell? ⟨W.heap.size + 1, 3, none⟩ = some (.int .u8 b3) := fun o => (blk_cell (blk_alloc G1 o) 3).trans rfl
  have H1 := Lib.hid G1
  clear G1
  have c2_0 : w6.cell? ⟨w5.heap.size, 0, none⟩ = some (.int .u8 p0) := (blk_cell G2 0).trans rfl
  have a2_0 : ∀ o, (w6.alloc o).cell? ⟨w5.heap.size, 0, none⟩ = some (.int .u8 p0) := fun o => (blk_cell (blk_alloc G2 o) 0).trans rfl
  have c2_1 : w6.cell? ⟨w5.heap.size, 1, none⟩ = some (.int .u8 p1) := (blk_cell G2 1).trans rfl
  have a2_1 : ∀ o, (w6.alloc o).cell? ⟨w5.heap.size, 1, none⟩ = some (.int .u8 p1) := fun o => (blk_cell (blk_alloc G2 o) 1).trans rfl
  have c2_2 : w6.cell? ⟨w5.heap.size, 2, none⟩ = some (.int .u8 p2) := (blk_cell G2 2).trans rfl
  have a2_2 : ∀ o, (w6.alloc o).cell? ⟨w5.heap.size, 2, none⟩ = some (.int .u8 p2) := fun o => (blk_cell (blk_alloc G2 o) 2).trans rfl
  have c2_3 : w6.cell? ⟨w5.heap.size, 3, none⟩ = some (.int .u8 p3) := (blk_cell G2 3).trans rfl
  have a2_3 : ∀ o, (w6.alloc o).cell? ⟨w5.heap.size, 3, none⟩ = some (.int .u8 p3) := fun o => (blk_cell (blk_alloc G2 o) 3).trans rfl
  have H2 := Lib.hid G2
  clear G2
  go_wp2_with fail
  clear c0_0 a0_0 c0_1 a0_1 c0_2 a0_2 c0_3 a0_3 c1_0 a1_0 c1_1 a1_1 c1_2 a1_2 c1_3 a1_3 c2_0 a2_0 c2_1 a2_1 c2_2 a2_2 c2_3 a2_3
  refine Reg.wp_open (fun w' => Ext W w' ∧ w'.heap[W.heap.size]? = some (.cells #[.int .u8 a0, .int .u8 a1, .int .u8 a2, .int .u8 a3] 24 (0, 0)) ∧ w'.heap[W.heap.size + 1]? = some (.cells #[.int .u8 b0, .int .u8 b1, .int .u8 b2, .int .u8 b3] 24 (0, 0)) ∧ w'.heap[w5.heap.size]? = some (.cells #[.int .u8 p0, .int .u8 p1, .int .u8 p2, .int .u8 p3] 24 (0, 0)) ∧ w'.heap[w6.heap.size]? = some (.cells #[.int .u8 p0, .int .u8 p1, .int .u8 p2, .int .u8 p3] 24 (0, 0))) ⟨by have h := HE6.out; (repeat' (first | assumption | exact Ext.refl _ | refine Ext.drewN ?_ | refine Ext.drew ?_ | refine Ext.alloc ?_)), (blk_alloc H0.out _), (blk_alloc H1.out _), (blk_alloc H2.out _), blk_new _ _⟩ (fun w7 hS => ?_)
  clear HE6 H0 H1 H2
  obtain ⟨hE, G0, G1, G2, G3⟩ := hS
  have HE7 := Lib.hid hE
  clear hE
  have c0_0 : w7.cell? ⟨W.heap.size, 0, none⟩ = some (.int .u8 a0) := (blk_cell G0 0).trans rfl
  have c0_1 : w7.cell? ⟨W.heap.size, 1, none⟩ = some (.int .u8 a1) := (blk_cell G0 1).trans rfl
  have c0_2 : w7.cell? ⟨W.heap.size, 2, none⟩ = some (.int .u8 a2) := (blk_cell G0 2).trans rfl
  have c0_3 : w7.cell? ⟨W.heap.size, 3, none⟩ = some (.int .u8 a3) := (blk_cell G0 3).trans rfl
  have H0 := Lib.hid G0
  clear G0
  have c1_0 : w7.cell? ⟨W.heap.size + 1, 0, none⟩ = some (.int .u8 b0) := (blk_cell G1 0).trans rfl
  have c1_1 : w7.cell? ⟨W.heap.size + 1, 1, none⟩ = some (.int .u8 b1) := (blk_cell G1 1).trans rfl
  have c1_2 : w7.cell? ⟨W.heap.size + 1, 2, none⟩ = some (.int .u8 b2) := (blk_cell G1 2).trans rfl
  have c1_3 : w7.cell? ⟨W.heap.size + 1, 3, none⟩ = some (.int .u8 b3) := (blk_cell G1 3).trans rfl
  have H1 := Lib.hid G1
  clear G1
  have c2_0 : w7.cell? ⟨w5.heap.size, 0, none⟩ = some (.int .u8 p0) := (blk_cell G2 0).trans rfl
  have c2_1 : w7.cell? ⟨w5.heap.size, 1, none⟩ = some (.int .u8 p1) := (blk_cell G2 1).trans rfl
  have c2_2 : w7.cell? ⟨w5.heap.size, 2, none⟩ = some (.int .u8 p2) := (blk_cell G2 2).trans rfl
  have c2_3 : w7.cell? ⟨w5.heap.size, 3, none⟩ = some (.int .u8 p3) := (blk_cell G2 3).trans rfl
  have H2 := Lib.hid G2
  clear G2
  have c3_0 : w7.cell? ⟨w6.heap.size, 0, none⟩ = some (.int .u8 p0) := (blk_cell G3 0).trans rfl
  have c3_1 : w7.cell? ⟨w6.heap.size, 1, none⟩ = some (.int .u8 p1) := (blk_cell G3 1).trans rfl
  have c3_2 : w7.cell? ⟨w6.heap.size, 2, none⟩ = some (.int .u8 p2) := (blk_cell G3 2).trans rfl
  have c3_3 : w7.cell? ⟨w6.heap.size, 3, none⟩ = some (.int .u8 p3) := (blk_cell G3 3).trans rfl
  have H3 := Lib.hid G3
  clear G3
  have k0_0 := cell_regrown c0_0
  have k0_1 := cell_regrown c0_1
  have k0_2 := cell_regrown c0_2
  have k0_3 := cell_regrown c0_3
  have k1_0 := cell_regrown c1_0
  have k1_1 := cell_regrown c1_1
  have k1_2 := cell_regrown c1_2
  have k1_3 := cell_regrown c1_3
  have k2_0 := cell_regrown c2_0
  have k2_1 := cell_regrown c2_1
  have k2_2 := cell_regrown c2_2
  have k2_3 := cell_regrown c2_3
  have k3_0 := cell_regrown c3_0
  have k3_1 := cell_regrown c3_1
  have k3_2 := cell_regrown c3_2
  have k3_3 := cell_regrown c3_3
  clear c0_0 c0_1 c0_2 c0_3 c1_0 c1_1 c1_2 c1_3 c2_0 c2_1 c2_2 c2_3 c3_0 c3_1 c3_2 c3_3
  go_loopw [27] (fun c wr => ∃ k : Int, 0 ≤ k ∧ k ≤ 4 ∧ c = .int .i64 k ∧ ∃ (dz : Nat) (oz : Array Obj), wr = grow (redrawn w7 dz) oz) (fun c _ => 4 - (intOf c).toNat)
  case atStart =>
    obtain ⟨⟨dz, oz⟩, hz⟩ := regrown_of_below (Below.refl _ w7)
    exact ⟨0, by omega, by omega, rfl, dz, oz, hz⟩
  case round =>
    obtain ⟨k, hk0, hk, rfl, dz, oz, rfl⟩ := hrel
    by_cases hlt : k < 4
    · have hq : k = 0 ∨ k = 1 ∨ k = 2 ∨ k = 3 := by omega
      clear hlt hk hk0
      rcases hq with rfl | rfl | rfl | rfl
      · have hi := e0.out
        clear e0 e1 e2 e3
        simp only [byI] at hi
        rcases hi with hi | ⟨hi, hj⟩
        · go_wp2
          refine Reg.wp_region_reads (B := w7) (by kernel_rfl) (by kernel_rfl) (below_regrown w7 _ _) ?_
          (repeat (first | go_big_quiet_step (fail) | quiet_step (fail)))
          refine wpQuiet_nil ?_
          intro _ hw'
          obtain ⟨⟨d1, o1⟩, hw''⟩ := hw'
          subst hw''
          go_wp2
          refine Reg.wp_region_reads (B := w7) (by kernel_rfl) (by kernel_rfl) (below_regrown w7 _ _) ?_
          (repeat (first | go_big_quiet_step (fail) | quiet_step (fail)))
          refine wpQuiet_nil ?_
          intro _ hw'
          obtain ⟨⟨d2, o2⟩, hw''⟩ := hw'
          subst hw''
          go_wp2
          go_roundw
          case rel => exact ⟨1, by omega, by omega, by first | rfl | go_num, _, _, rfl⟩
          case measure => simp [intOf]
        · go_wp2
          refine Reg.wp_region_reads (B := w7) (by kernel_rfl) (by kernel_rfl) (below_regrown w7 _ _) ?_
          (repeat (first | go_big_quiet_step (fail) | quiet_step (fail)))
          refine wpQuiet_nil ?_
          intro _ hw'
          obtain ⟨⟨d1, o1⟩, hw''⟩ := hw'
          subst hw''
          go_wp2
          refine Reg.wp_region_reads (B := w7) (by kernel_rfl) (by kernel_rfl) (below_regrown w7 _ _) ?_
          (repeat (first | go_big_quiet_step (fail) | quiet_step (fail)))
          refine wpQuiet_nil ?_
          intro _ hw'
          obtain ⟨⟨d2, o2⟩, hw''⟩ := hw'
          subst hw''
          go_wp2
          go_roundw
          case rel => exact ⟨1, by omega, by omega, by first | rfl | go_num, _, _, rfl⟩
          case measure => simp [intOf]
      · have hi := e1.out
        clear e0 e1 e2 e3
        simp only [byI] at hi
        rcases hi with hi | ⟨hi, hj⟩
        · go_wp2
          refine Reg.wp_region_reads (B := w7) (by kernel_rfl) (by kernel_rfl) (below_regrown w7 _ _) ?_
          (repeat (first | go_big_quiet_step (fail) | quiet_step (fail)))
          refine wpQuiet_nil ?_
          intro _ hw'
          obtain ⟨⟨d1, o1⟩, hw''⟩ := hw'
          subst hw''
          go_wp2
          refine Reg.wp_region_reads (B := w7) (by kernel_rfl) (by kernel_rfl) (below_regrown w7 _ _) ?_
          (repeat (first | go_big_quiet_step (fail) | quiet_step (fail)))
          refine wpQuiet_nil ?_
          intro _ hw'
          obtain ⟨⟨d2, o2⟩, hw''⟩ := hw'
          subst hw''
          go_wp2
          go_roundw
          case rel => exact ⟨2, by omega, by omega, by first | rfl | go_num, _, _, rfl⟩
          case measure => simp [intOf]
        · go_wp2
          refine Reg.wp_region_reads (B := w7) (by kernel_rfl) (by kernel_rfl) (below_regrown w7 _ _) ?_
          (repeat (first | go_big_quiet_step (fail) | quiet_step (fail)))
          refine wpQuiet_nil ?_
          intro _ hw'
          obtain ⟨⟨d1, o1⟩, hw''⟩ := hw'
          subst hw''
          go_wp2
          refine Reg.wp_region_reads (B := w7) (by kernel_rfl) (by kernel_rfl) (below_regrown w7 _ _) ?_
          (repeat (first | go_big_quiet_step (fail) | quiet_step (fail)))
          refine wpQuiet_nil ?_
          intro _ hw'
          obtain ⟨⟨d2, o2⟩, hw''⟩ := hw'
          subst hw''
          go_wp2
          go_roundw
          case rel => exact ⟨2, by omega, by omega, by first | rfl | go_num, _, _, rfl⟩
          case measure => simp [intOf]
      · have hi := e2.out
        clear e0 e1 e2 e3
        simp only [byI] at hi
        rcases hi with hi | ⟨hi, hj⟩
        · go_wp2
          refine Reg.wp_region_reads (B := w7) (by kernel_rfl) (by kernel_rfl) (below_regrown w7 _ _) ?_
          (repeat (first | go_big_quiet_step (fail) | quiet_step (fail)))
          refine wpQuiet_nil ?_
          intro _ hw'
          obtain ⟨⟨d1, o1⟩, hw''⟩ := hw'
          subst hw''
          go_wp2
          refine Reg.wp_region_reads (B := w7) (by kernel_rfl) (by kernel_rfl) (below_regrown w7 _ _) ?_
          (repeat (first | go_big_quiet_step (fail) | quiet_step (fail)))
          refine wpQuiet_nil ?_
          intro _ hw'
          obtain ⟨⟨d2, o2⟩, hw''⟩ := hw'
          subst hw''
          go_wp2
          go_roundw
          case rel => exact ⟨3, by omega, by omega, by first | rfl | go_num, _, _, rfl⟩
          case measure => simp [intOf]
        · go_wp2
          refine Reg.wp_region_reads (B := w7) (by kernel_rfl) (by kernel_rfl) (below_regrown w7 _ _) ?_
          (repeat (first | go_big_quiet_step (fail) | quiet_step (fail)))
          refine wpQuiet_nil ?_
          intro _ hw'
          obtain ⟨⟨d1, o1⟩, hw''⟩ := hw'
          subst hw''
          go_wp2
          refine Reg.wp_region_reads (B := w7) (by kernel_rfl) (by kernel_rfl) (below_regrown w7 _ _) ?_
          (repeat (first | go_big_quiet_step (fail) | quiet_step (fail)))
          refine wpQuiet_nil ?_
          intro _ hw'
          obtain ⟨⟨d2, o2⟩, hw''⟩ := hw'
          subst hw''
          go_wp2
          go_roundw
          case rel => exact ⟨3, by omega, by omega, by first | rfl | go_num, _, _, rfl⟩
          case measure => simp [intOf]
      · have hi := e3.out
        clear e0 e1 e2 e3
        simp only [byI] at hi
        rcases hi with hi | ⟨hi, hj⟩
        · go_wp2
          refine Reg.wp_region_reads (B := w7) (by kernel_rfl) (by kernel_rfl) (below_regrown w7 _ _) ?_
          (repeat (first | go_big_quiet_step (fail) | quiet_step (fail)))
          refine wpQuiet_nil ?_
          intro _ hw'
          obtain ⟨⟨d1, o1⟩, hw''⟩ := hw'
          subst hw''
          go_wp2
          refine Reg.wp_region_reads (B := w7) (by kernel_rfl) (by kernel_rfl) (below_regrown w7 _ _) ?_
          (repeat (first | go_big_quiet_step (fail) | quiet_step (fail)))
          refine wpQuiet_nil ?_
          intro _ hw'
          obtain ⟨⟨d2, o2⟩, hw''⟩ := hw'
          subst hw''
          go_wp2
          go_roundw
          case rel => exact ⟨4, by omega, by omega, by first | rfl | go_num, _, _, rfl⟩
          case measure => simp [intOf]
        · go_wp2
          refine Reg.wp_region_reads (B := w7) (by kernel_rfl) (by kernel_rfl) (below_regrown w7 _ _) ?_
          (repeat (first | go_big_quiet_step (fail) | quiet_step (fail)))
          refine wpQuiet_nil ?_
          intro _ hw'
          obtain ⟨⟨d1, o1⟩, hw''⟩ := hw'
          subst hw''
          go_wp2
          refine Reg.wp_region_reads (B := w7) (by kernel_rfl) (by kernel_rfl) (below_regrown w7 _ _) ?_
          (repeat (first | go_big_quiet_step (fail) | quiet_step (fail)))
          refine wpQuiet_nil ?_
          intro _ hw'
          obtain ⟨⟨d2, o2⟩, hw''⟩ := hw'
          subst hw''
          go_wp2
          go_roundw
          case rel => exact ⟨4, by omega, by omega, by first | rfl | go_num, _, _, rfl⟩
          case measure => simp [intOf]
    · obtain rfl : k = 4 := by omega
      clear hlt hk hk0 e0 e1 e2 e3
      go_wp2
      have hE := HE7.out
      go_ret
      exact ⟨rfl, Ext.trans hE (Ext.of_cl _ _ _)⟩
theorem range8 {x : Int} (h : (Lit.int .u8 x).wf = true) : 0 ≤ x ∧ x < 256 := by
  have := bounds_u8 h; omega
theorem exT {t : T4} (h : wf24 t) : ∃ f : TF, t = ofF f := exF (range8 h.1) (range8 h.2.1) (range8 h.2.2.1) (range8 h.2.2.2)
theorem ex32 {x : Int} (h : (Lit.int .u32 x).wf = true) : ∃ n : Nat, n < 4294967296 ∧ x = (n : Int) := by
  have := bounds_u32 h
  exact ⟨x.toNat, by omega, by omega⟩
theorem mixC (a o l : Int) (f : TF) : ∀ w, Calls Try.prog 15 #[.int .u32 a, .int .u32 o, tagF f, .int .u8 l] w (RetE (.int .u32 (mixA a o l (ofF f) 4)) w) :=
  fun w => Ret.e (mix15 a o l (iv (f 0)) (iv (f 1)) (iv (f 2)) (iv (f 3)) w) (by (repeat' (first | assumption | exact Ext.refl _ | refine Ext.drewN ?_ | refine Ext.drew ?_ | refine Ext.alloc ?_)))
theorem doC (kind a b : Int) (hb : 0 ≤ b) (hb' : b < 4294967296) : ∀ w, Calls Try.prog 16 #[.int .i64 kind, .int .u32 a, .int .u32 b] w (RetE (.tuple #[.int .u32 (doV kind a b), .int .i64 (errK kind)]) w) :=
  fun w => (Alu.alu_Do.calls _ _ _ _ _ w (do_at kind a b hb hb')).mono fun e w' h => by
    obtain ⟨he, n, hn⟩ := h
    exact ⟨he, by rw [hn]; exact Ext.drewN (Ext.refl w)⟩
theorem doV_rng (kind : Int) (A B : Nat) (hA : A < 4294967296) (hB : B < 4294967296) : 0 ≤ doV kind A B ∧ doV kind A B < 4294967296 := by
  have hd : ∀ x : Int, 0 ≤ x % 4294967296 ∧ x % 4294967296 < 4294967296 := fun x => by omega
  by_cases hk : 0 ≤ kind ∧ kind ≤ 17
  · rcases (by omega : kind = 0 ∨ kind = 1 ∨ kind = 2 ∨ kind = 3 ∨ kind = 4 ∨ kind = 5 ∨ kind = 6 ∨ kind = 7 ∨ kind = 8 ∨ kind = 9 ∨ kind = 10 ∨ kind = 11 ∨ kind = 12 ∨ kind = 13 ∨ kind = 14 ∨ kind = 15 ∨ kind = 16 ∨ kind = 17) with rfl | rfl | rfl | rfl | rfl | rfl | rfl | rfl | rfl | rfl | rfl | rfl | rfl | rfl | rfl | rfl | rfl | rfl
    · rw [v0]; omega
    · rw [v1 hB]; omega
    · rw [v2]; omega
    · have e : doV 3 (A : Int) (B : Int) = if wrap32 (A : Int) < wrap32 (B : Int) then 1 else 0 := by simp [doV]
      rw [e]; split <;> omega
    · have e : doV 4 (A : Int) (B : Int) = if (A : Int) < (B : Int) then 1 else 0 := by simp [doV]
      rw [e]; split <;> omega
    · rw [v5 hA hB]; have : A ^^^ B < 4294967296 := Nat.xor_lt_two_pow (n := 32) hA hB; omega
    · rw [v6]; have : A / 2 ^ (B % 32) ≤ A := Nat.div_le_self _ _; generalize A / 2 ^ (B % 32) = z at *; omega
    · rw [v7 hA]; omega
    · rw [v8 hA hB]; have := or_lt hA hB; omega
    · rw [v9 hA hB]; have := and_lt (a := A) hB; omega
    · rw [v10]; omega
    · have e : doV 11 (A : Int) (B : Int) = wrap64 (wrap64 (wrap32 A) * wrap64 (wrap32 B)) / 4294967296 % 4294967296 := by simp [doV]
      rw [e]; exact hd _
    · have e : doV 12 (A : Int) (B : Int) = wrap64 (wrap64 (wrap32 A) * wrap64 B) / 4294967296 % 4294967296 := by simp [doV]
      rw [e]; exact hd _
    · have e : doV 13 (A : Int) (B : Int) = IntKind.u64.wrap (IntKind.u64.wrap A * IntKind.u64.wrap B) / 4294967296 % 4294967296 := by simp [doV]
      rw [e]; exact hd _
    · have e : doV 14 (A : Int) (B : Int) = sdiv A B := by simp [doV]
      rw [e]
      unfold sdiv; split; · omega
      split; · omega
      exact hd _
    · have e : doV 15 (A : Int) (B : Int) = if (B : Int) = 0 then 4294967295 else Int.tdiv (A : Int) (B : Int) % 4294967296 := by simp [doV]
      rw [e]; split; · omega
      exact hd _
    · have e : doV 16 (A : Int) (B : Int) = srem A B := by simp [doV]
      rw [e]
      unfold srem; split; · omega
      split; · omega
      exact hd _
    · have e : doV 17 (A : Int) (B : Int) = if (B : Int) = 0 then (A : Int) else Int.tmod (A : Int) (B : Int) := by simp [doV]
      rw [e]; split; · omega
      rw [Int.tmod_eq_emod_of_nonneg (by omega)]
      rename_i h
      have h1 := Int.emod_nonneg (A : Int) h
      have h2 : (A : Int) % (B : Int) < B := Int.emod_lt_of_pos _ (by omega)
      omega
  · have n : ∀ i : Int, 0 ≤ i → i ≤ 17 → ¬ kind = i := fun i h1 h2 h => hk (by omega)
    have e : doV kind (A : Int) (B : Int) = 0 := by simp [doV, n 0, n 1, n 2, n 3, n 4, n 5, n 6, n 7, n 8, n 9, n 10, n 11, n 12, n 13, n 14, n 15, n 16, n 17]
    rw [e]; omega
theorem walk (W : World) (x0 : Int) (wx0 : (Lit.int .i64 x0).wf = true) (x1 : Int) (wx1 : (Lit.int .u32 x1).wf = true) (x2 : Int) (wx2 : (Lit.int .u32 x2).wf = true) (x3 : Int) (wx3 : (Lit.int .u32 x3).wf = true) (x4 : Int) (wx4 : (Lit.int .u32 x4).wf = true) (x5 : (Int × Int × Int × Int)) (wx5 : wf24 x5) (x6 : (Int × Int × Int × Int)) (wx6 : wf24 x6) (x7 : Int) (wx7 : (Lit.int .u8 x7).wf = true) :
    Calls Try.prog 4 #[.int .i64 x0, .int .u32 x1, .int .u32 x2, .int .u32 x3, .int .u32 x4, .agg #[.int .u8 x5.1, .int .u8 x5.2.1, .int .u8 x5.2.2.1, .int .u8 x5.2.2.2], .agg #[.int .u8 x6.1, .int .u8 x6.2.1, .int .u8 x6.2.2.1, .int .u8 x6.2.2.2], .int .u8 x7] W fun e w' => e = .returned (.bool true) ∧ Below W.heap.size W w' := by
  obtain ⟨f, rfl⟩ := exT wx5
  obtain ⟨g, rfl⟩ := exT wx6
  obtain ⟨A, hA, rfl⟩ := ex32 wx1
  obtain ⟨B, hB, rfl⟩ := ex32 wx2
  obtain ⟨C, hC, rfl⟩ := ex32 wx3
  obtain ⟨D, hD, rfl⟩ := ex32 wx4
  obtain ⟨L, rfl⟩ : ∃ L : BitVec 8, x7 = iv L := by
    have h := range8 wx7
    refine ⟨BitVec.ofNat 8 x7.toNat, ?_⟩
    unfold iv
    rw [BitVec.toNat_ofNat]
    omega
  obtain ⟨X, hX, eX, aX⟩ := mix_agr A C hA hC f L
  obtain ⟨Y, hY, eY, aY⟩ := mix_agr B D hB hD g L
  have M1 := mixC A C (iv L) f
  have M2 := mixC B D (iv L) g
  rw [eX] at M1
  rw [eY] at M2
  have D1 := doC x0 A B (by omega) (by omega)
  have D2 := doC x0 X Y (by omega) (by omega)
  have F1 := flowC x0 A B f g (by omega) (by omega) (by omega) (by omega)
  have F2 := flowC x0 X Y f g (by omega) (by omega) (by omega) (by omega)
  rw [← sound_flow x0 hA hX hB hY aX aY] at F2
  obtain ⟨r1, r2⟩ := doV_rng x0 A B hA hB
  obtain ⟨r3, r4⟩ := doV_rng x0 X Y hX hY
  by_cases hk : 0 ≤ x0 ∧ x0 ≤ 17
  · have he : errK x0 = 0 := if_pos hk
    rw [he] at D1 D2 F1 F2
    have E : ∀ i, i < 4 → Hid ((bits .and .u8 (bits .or .u8 (iv (flowF x0 A B f g i)) (iv (flowF x0 A B f g i))) (iv L) == 0) = false ∨ (bits .and .u8 (bits .or .u8 (iv (flowF x0 A B f g i)) (iv (flowF x0 A B f g i))) (iv L) == 0) = true ∧ byI (doV x0 A B) i = byI (doV x0 X Y) i) := fun i hi => Lib.hid (by
      have eo : bits .or .u8 (iv (flowF x0 A B f g i)) (iv (flowF x0 A B f g i)) = iv (flowF x0 A B f g i) := by rw [or8_eq, BitVec.or_self]
      rw [eo, and8_iv]
      by_cases hz : flowF x0 A B f g i &&& L = 0
      · exact .inr ⟨by rw [hz]; rfl, sound_byte x0 hA hX hB hY aX aY i hi hz⟩
      · exact .inl (by rw [beq_eq_false_iff_ne]; exact fun h => hz (iv_zero.1 h)))
    exact core0 (a0 := iv (f 0)) (a1 := iv (f 1)) (a2 := iv (f 2)) (a3 := iv (f 3)) (b0 := iv (g 0)) (b1 := iv (g 1)) (b2 := iv (g 2)) (b3 := iv (g 3)) (p0 := iv (flowF x0 A B f g 0)) (p1 := iv (flowF x0 A B f g 1)) (p2 := iv (flowF x0 A B f g 2)) (p3 := iv (flowF x0 A B f g 3)) (l := iv L) M1 M2 D1 D2 F1 F2 r1 r2 r3 r4 (E 0 (by omega)) (E 1 (by omega)) (E 2 (by omega)) (E 3 (by omega))
  · have he : errK x0 = 1 := if_neg hk
    rw [he] at D1 D2 F1 F2
    exact core1 (a0 := iv (f 0)) (a1 := iv (f 1)) (a2 := iv (f 2)) (a3 := iv (f 3)) (b0 := iv (g 0)) (b1 := iv (g 1)) (b2 := iv (g 2)) (b3 := iv (g 3)) (p0 := iv (flowF x0 A B f g 0)) (p1 := iv (flowF x0 A B f g 1)) (p2 := iv (flowF x0 A B f g 2)) (p3 := iv (flowF x0 A B f g 3)) (l := iv L) M1 M2 D1 D2 F1 F2 r1 r2 r3 r4
end Go.Proofs.Ytbhoijkamnaopaa.TagSound
