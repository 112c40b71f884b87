/- TagBits: its walk. -/
import Derived.Test.YtbhoijkamnaopaaTagC
import Derived.Test.YtbhoijkamnaopaaTagAwake
import Derived.Test.YtbhoijkamnaopaaTagLaws
import Derived.Test.YtbhoijkamnaopaaOpenT
import Derived.StillTailTactics
import Derived.BigRegion
import Derived.LoopN
import Derived.Deep.RegionHeld3
import Derived.Lib.Hide
namespace Go.Proofs.Ytbhoijkamnaopaa.TagBits
open Go Go.RowKit Go.Proofs.YtbhoijkamnaopaaW.PrintWords Go.Proofs.YtbhoijkamnaopaaW.PrintLast Go.Proofs.YtbhoijkamnaopaaW.PrintMore Go.Proofs.Ytbhoijkamnaopaa.Tag Go.Proofs.Ytbhoijkamnaopaa Go.Sort Go.Proofs.Ytbhoijkamnaopaa.Open Go.Proofs.Ytbhoijkamnaopaa.OpenT
set_option linter.unusedVariables false
set_option linter.unusedSimpArgs false
attribute [local go_sem] Reg.qeOp Reg.qeUpon
set_option maxRecDepth 100000 in
set_option maxHeartbeats 40000000 in
theorem core0 {W : World} {a a0 a1 a2 a3 : Int} (F : ∀ w : World, Calls Try.prog 13 #[.int .i64 2, .int .u32 a, .int .u32 0, .agg #[.int .u8 a0, .int .u8 a1, .int .u8 a2, .int .u8 a3], .agg #[.int .u8 0, .int .u8 0, .int .u8 0, .int .u8 0]] w (RetE (.tuple #[.agg #[.int .u8 a0, .int .u8 a1, .int .u8 a2, .int .u8 a3], .int .i64 0]) w)) (G : ∀ w : World, Calls Try.prog 13 #[.int .i64 6, .int .u32 a, .int .u32 0, .agg #[.int .u8 a0, .int .u8 a1, .int .u8 a2, .int .u8 a3], .agg #[.int .u8 0, .int .u8 0, .int .u8 0, .int .u8 0]] w (RetE (.tuple #[.agg #[.int .u8 a0, .int .u8 a1, .int .u8 a2, .int .u8 a3], .int .i64 0]) w)) : Calls Try.prog 8 #[.int .u32 a, .agg #[.int .u8 a0, .int .u8 a1, .int .u8 a2, .int .u8 a3], .int .u32 0] W (RetE (.bool true) W) := by
  go_enter Try.func8, Try.ntmps8
  go_wp2_with fail
  refine (awake12 _).mono ?_
  rintro e w1 ⟨rfl, hb⟩
  have G0 : w1.heap[W.heap.size]? = some (.cells #[.int .u8 a0, .int .u8 a1, .int .u8 a2, .int .u8 a3] 23 (0, 0)) := Reg.blk_later (by have h := blk_new W (.cells #[.int .u8 a0, .int .u8 a1, .int .u8 a2, .int .u8 a3] 23); simpa using h) hb
  have hE : Ext W w1 := Ext.trans (by (repeat' (first | assumption | exact Ext.refl _ | refine Ext.drewN ?_ | refine Ext.drew ?_ | refine Ext.alloc ?_))) hb
  have HE1 := Lib.hid hE
  clear hE hb
  have c0_0 : w1.cell? ⟨W.heap.size, 0, none⟩ = some (.int .u8 a0) := (blk_cell G0 0).trans rfl
  have a0_0 : ∀ o, (w1.alloc o).cell? ⟨W.heap.size, 0, none⟩ = some (.int .u8 a0) := fun o => (blk_cell (blk_alloc G0 o) 0).trans rfl
  have c0_1 : w1.cell? ⟨W.heap.size, 1, none⟩ = some (.int .u8 a1) := (blk_cell G0 1).trans rfl
  have a0_1 : ∀ o, (w1.alloc o).cell? ⟨W.heap.size, 1, none⟩ = some (.int .u8 a1) := fun o => (blk_cell (blk_alloc G0 o) 1).trans rfl
  have c0_2 : w1.cell? ⟨W.heap.size, 2, none⟩ = some (.int .u8 a2) := (blk_cell G0 2).trans rfl
  have a0_2 : ∀ o, (w1.alloc o).cell? ⟨W.heap.size, 2, none⟩ = some (.int .u8 a2) := fun o => (blk_cell (blk_alloc G0 o) 2).trans rfl
  have c0_3 : w1.cell? ⟨W.heap.size, 3, none⟩ = some (.int .u8 a3) := (blk_cell G0 3).trans rfl
  have a0_3 : ∀ o, (w1.alloc o).cell? ⟨W.heap.size, 3, none⟩ = some (.int .u8 a3) := fun o => (blk_cell (blk_alloc G0 o) 3).trans rfl
  have H0 := Lib.hid G0
  clear G0
  go_wp2_with fail
  refine (F _).mono ?_
  rintro e w2 ⟨rfl, hb⟩
  clear c0_0 a0_0 c0_1 a0_1 c0_2 a0_2 c0_3 a0_3
  have G0 := Reg.blk_later H0.out hb
  have hE : Ext W w2 := Ext.trans (by have h := HE1.out; (repeat' (first | assumption | exact Ext.refl _ | refine Ext.drewN ?_ | refine Ext.drew ?_ | refine Ext.alloc ?_))) hb
  have HE2 := Lib.hid hE
  clear hE hb HE1 H0
  have c0_0 : w2.cell? ⟨W.heap.size, 0, none⟩ = some (.int .u8 a0) := (blk_cell G0 0).trans rfl
  have a0_0 : ∀ o, (w2.alloc o).cell? ⟨W.heap.size, 0, none⟩ = some (.int .u8 a0) := fun o => (blk_cell (blk_alloc G0 o) 0).trans rfl
  have c0_1 : w2.cell? ⟨W.heap.size, 1, none⟩ = some (.int .u8 a1) := (blk_cell G0 1).trans rfl
  have a0_1 : ∀ o, (w2.alloc o).cell? ⟨W.heap.size, 1, none⟩ = some (.int .u8 a1) := fun o => (blk_cell (blk_alloc G0 o) 1).trans rfl
  have c0_2 : w2.cell? ⟨W.heap.size, 2, none⟩ = some (.int .u8 a2) := (blk_cell G0 2).trans rfl
  have a0_2 : ∀ o, (w2.alloc o).cell? ⟨W.heap.size, 2, none⟩ = some (.int .u8 a2) := fun o => (blk_cell (blk_alloc G0 o) 2).trans rfl
  have c0_3 : w2.cell? ⟨W.heap.size, 3, none⟩ = some (.int .u8 a3) := (blk_cell G0 3).trans rfl
  have a0_3 : ∀ o, (w2.alloc o).cell? ⟨W.heap.size, 3, none⟩ = some (.int .u8 a3) := fun o => (blk_cell (blk_alloc G0 o) 3).trans rfl
  have H0 := Lib.hid G0
  clear G0
  go_wp2_with fail
  refine (G _).mono ?_
  rintro e w3 ⟨rfl, hb⟩
  clear c0_0 a0_0 c0_1 a0_1 c0_2 a0_2 c0_3 a0_3
  have G0 := Reg.blk_later (blk_alloc H0.out _) hb
  have G1 : w3.heap[w2.heap.size]? = some (.cells #[.int .u8 a0, .int .u8 a1, .int .u8 a2, .int .u8 a3] 24 (0, 0)) := Reg.blk_later (blk_new _ _) hb
  have hE : Ext W w3 := Ext.trans (by have h := HE2.out; (repeat' (first | assumption | exact Ext.refl _ | refine Ext.drewN ?_ | refine Ext.drew ?_ | refine Ext.alloc ?_))) hb
  have HE3 := Lib.hid hE
  clear hE hb HE2 H0
  have c0_0 : w3.cell? ⟨W.heap.size, 0, none⟩ = some (.int .u8 a0) := (blk_cell G0 0).trans rfl
  have a0_0 : ∀ o, (w3.alloc o).cell? ⟨W.heap.size, 0, none⟩ = some (.int .u8 a0) := fun o => (blk_cell (blk_alloc G0 o) 0).trans rfl
  have c0_1 : w3.cell? ⟨W.heap.size, 1, none⟩ = some (.int .u8 a1) := (blk_cell G0 1).trans rfl
  have a0_1 : ∀ o, (w3.alloc o).cell? ⟨W.heap.size, 1, none⟩ = some (.int .u8 a1) := fun o => (blk_cell (blk_alloc G0 o) 1).trans rfl
  have c0_2 : w3.cell? ⟨W.heap.size, 2, none⟩ = some (.int .u8 a2) := (blk_cell G0 2).trans rfl
  have a0_2 : ∀ o, (w3.alloc o).cell? ⟨W.heap.size, 2, none⟩ = some (.int .u8 a2) := fun o => (blk_cell (blk_alloc G0 o) 2).trans rfl
  have c0_3 : w3.cell? ⟨W.heap.size, 3, none⟩ = some (.int .u8 a3) := (blk_cell G0 3).trans rfl
  have a0_3 : ∀ o, (w3.alloc o).cell? ⟨W.heap.size, 3, none⟩ = some (.int .u8 a3) := fun o => (blk_cell (blk_alloc G0 o) 3).trans rfl
  have H0 := Lib.hid G0
  clear G0
  have c1_0 : w3.cell? ⟨w2.heap.size, 0, none⟩ = some (.int .u8 a0) := (blk_cell G1 0).trans rfl
  have a1_0 : ∀ o, (w3.alloc o).cell? ⟨w2.heap.size, 0, none⟩ = some (.int .u8 a0) := fun o => (blk_cell (blk_alloc G1 o) 0).trans rfl
  have c1_1 : w3.cell? ⟨w2.heap.size, 1, none⟩ = some (.int .u8 a1) := (blk_cell G1 1).trans rfl
  have a1_1 : ∀ o, (w3.alloc o).cell? ⟨w2.heap.size, 1, none⟩ = some (.int .u8 a1) := fun o => (blk_cell (blk_alloc G1 o) 1).trans rfl
  have c1_2 : w3.cell? ⟨w2.heap.size, 2, none⟩ = some (.int .u8 a2) := (blk_cell G1 2).trans rfl
  have a1_2 : ∀ o, (w3.alloc o).cell? ⟨w2.heap.size, 2, none⟩ = some (.int .u8 a2) := fun o => (blk_cell (blk_alloc G1 o) 2).trans rfl
  have c1_3 : w3.cell? ⟨w2.heap.size, 3, none⟩ = some (.int .u8 a3) := (blk_cell G1 3).trans rfl
  have a1_3 : ∀ o, (w3.alloc o).cell? ⟨w2.heap.size, 3, none⟩ = some (.int .u8 a3) := fun o => (blk_cell (blk_alloc G1 o) 3).trans rfl
  have H1 := Lib.hid G1
  clear G1
  go_wp2_with fail
  clear c0_0 a0_0 c0_1 a0_1 c0_2 a0_2 c0_3 a0_3 c1_0 a1_0 c1_1 a1_1 c1_2 a1_2 c1_3 a1_3
  refine Reg.wp_open (fun w' => Ext W w' ∧ w'.heap[W.heap.size]? = some (.cells #[.int .u8 a0, .int .u8 a1, .int .u8 a2, .int .u8 a3] 23 (0, 0)) ∧ w'.heap[w2.heap.size]? = some (.cells #[.int .u8 a0, .int .u8 a1, .int .u8 a2, .int .u8 a3] 24 (0, 0)) ∧ w'.heap[w3.heap.size]? = some (.cells #[.int .u8 a0, .int .u8 a1, .int .u8 a2, .int .u8 a3] 24 (0, 0))) ⟨by have h := HE3.out; (repeat' (first | assumption | exact Ext.refl _ | refine Ext.drewN ?_ | refine Ext.drew ?_ | refine Ext.alloc ?_)), (blk_alloc H0.out _), (blk_alloc H1.out _), blk_new _ _⟩ (fun w4 hS => ?_)
  clear HE3 H0 H1
  obtain ⟨hE, G0, G1, G2⟩ := hS
  have HE4 := Lib.hid hE
  clear hE
  have c0_0 : w4.cell? ⟨W.heap.size, 0, none⟩ = some (.int .u8 a0) := (blk_cell G0 0).trans rfl
  have c0_1 : w4.cell? ⟨W.heap.size, 1, none⟩ = some (.int .u8 a1) := (blk_cell G0 1).trans rfl
  have c0_2 : w4.cell? ⟨W.heap.size, 2, none⟩ = some (.int .u8 a2) := (blk_cell G0 2).trans rfl
  have c0_3 : w4.cell? ⟨W.heap.size, 3, none⟩ = some (.int .u8 a3) := (blk_cell G0 3).trans rfl
  have H0 := Lib.hid G0
  clear G0
  have c1_0 : w4.cell? ⟨w2.heap.size, 0, none⟩ = some (.int .u8 a0) := (blk_cell G1 0).trans rfl
  have c1_1 : w4.cell? ⟨w2.heap.size, 1, none⟩ = some (.int .u8 a1) := (blk_cell G1 1).trans rfl
  have c1_2 : w4.cell? ⟨w2.heap.size, 2, none⟩ = some (.int .u8 a2) := (blk_cell G1 2).trans rfl
  have c1_3 : w4.cell? ⟨w2.heap.size, 3, none⟩ = some (.int .u8 a3) := (blk_cell G1 3).trans rfl
  have H1 := Lib.hid G1
  clear G1
  have c2_0 : w4.cell? ⟨w3.heap.size, 0, none⟩ = some (.int .u8 a0) := (blk_cell G2 0).trans rfl
  have c2_1 : w4.cell? ⟨w3.heap.size, 1, none⟩ = some (.int .u8 a1) := (blk_cell G2 1).trans rfl
  have c2_2 : w4.cell? ⟨w3.heap.size, 2, none⟩ = some (.int .u8 a2) := (blk_cell G2 2).trans rfl
  have c2_3 : w4.cell? ⟨w3.heap.size, 3, none⟩ = some (.int .u8 a3) := (blk_cell G2 3).trans rfl
  have H2 := Lib.hid G2
  clear G2
  refine wp_loop_rounds 5 ?_
  rw [rounds_succ]
  go_wp2
  rw [rounds_succ]
  go_wp2
  rw [rounds_succ]
  go_wp2
  rw [rounds_succ]
  go_wp2
  rw [rounds_succ]
  go_wp2
  have hE := HE4.out
  go_ret
  exact ⟨rfl, hE⟩
set_option maxRecDepth 100000 in
set_option maxHeartbeats 40000000 in
theorem core1 {W : World} {a a0 a1 a2 a3 : Int} (F : ∀ w : World, Calls Try.prog 13 #[.int .i64 2, .int .u32 a, .int .u32 8, .agg #[.int .u8 a0, .int .u8 a1, .int .u8 a2, .int .u8 a3], .agg #[.int .u8 0, .int .u8 0, .int .u8 0, .int .u8 0]] w (RetE (.tuple #[.agg #[.int .u8 0, .int .u8 a0, .int .u8 a1, .int .u8 a2], .int .i64 0]) w)) (G : ∀ w : World, Calls Try.prog 13 #[.int .i64 6, .int .u32 a, .int .u32 8, .agg #[.int .u8 a0, .int .u8 a1, .int .u8 a2, .int .u8 a3], .agg #[.int .u8 0, .int .u8 0, .int .u8 0, .int .u8 0]] w (RetE (.tuple #[.agg #[.int .u8 a1, .int .u8 a2, .int .u8 a3, .int .u8 0], .int .i64 0]) w)) : Calls Try.prog 8 #[.int .u32 a, .agg #[.int .u8 a0, .int .u8 a1, .int .u8 a2, .int .u8 a3], .int .u32 1] W (RetE (.bool true) W) := by
  go_enter Try.func8, Try.ntmps8
  go_wp2_with fail
  refine (awake12 _).mono ?_
  rintro e w1 ⟨rfl, hb⟩
  have G0 : w1.heap[W.heap.size]? = some (.cells #[.int .u8 a0, .int .u8 a1, .int .u8 a2, .int .u8 a3] 23 (0, 0)) := Reg.blk_later (by have h := blk_new W (.cells #[.int .u8 a0, .int .u8 a1, .int .u8 a2, .int .u8 a3] 23); simpa using h) hb
  have hE : Ext W w1 := Ext.trans (by (repeat' (first | assumption | exact Ext.refl _ | refine Ext.drewN ?_ | refine Ext.drew ?_ | refine Ext.alloc ?_))) hb
  have HE1 := Lib.hid hE
  clear hE hb
  have c0_0 : w1.cell? ⟨W.heap.size, 0, none⟩ = some (.int .u8 a0) := (blk_cell G0 0).trans rfl
  have a0_0 : ∀ o, (w1.alloc o).cell? ⟨W.heap.size, 0, none⟩ = some (.int .u8 a0) := fun o => (blk_cell (blk_alloc G0 o) 0).trans rfl
  have c0_1 : w1.cell? ⟨W.heap.size, 1, none⟩ = some (.int .u8 a1) := (blk_cell G0 1).trans rfl
  have a0_1 : ∀ o, (w1.alloc o).cell? ⟨W.heap.size, 1, none⟩ = some (.int .u8 a1) := fun o => (blk_cell (blk_alloc G0 o) 1).trans rfl
  have c0_2 : w1.cell? ⟨W.heap.size, 2, none⟩ = some (.int .u8 a2) := (blk_cell G0 2).trans rfl
  have a0_2 : ∀ o, (w1.alloc o).cell? ⟨W.heap.size, 2, none⟩ = some (.int .u8 a2) := fun o => (blk_cell (blk_alloc G0 o) 2).trans rfl
  have c0_3 : w1.cell? ⟨W.heap.size, 3, none⟩ = some (.int .u8 a3) := (blk_cell G0 3).trans rfl
  have a0_3 : ∀ o, (w1.alloc o).cell? ⟨W.heap.size, 3, none⟩ = some (.int .u8 a3) := fun o => (blk_cell (blk_alloc G0 o) 3).trans rfl
  have H0 := Lib.hid G0
  clear G0
  go_wp2_with fail
  refine (F _).mono ?_
  rintro e w2 ⟨rfl, hb⟩
  clear c0_0 a0_0 c0_1 a0_1 c0_2 a0_2 c0_3 a0_3
  have G0 := Reg.blk_later H0.out hb
  have hE : Ext W w2 := Ext.trans (by have h := HE1.out; (repeat' (first | assumption | exact Ext.refl _ | refine Ext.drewN ?_ | refine Ext.drew ?_ | refine Ext.alloc ?_))) hb
  have HE2 := Lib.hid hE
  clear hE hb HE1 H0
  have c0_0 : w2.cell? ⟨W.heap.size, 0, none⟩ = some (.int .u8 a0) := (blk_cell G0 0).trans rfl
  have a0_0 : ∀ o, (w2.alloc o).cell? ⟨W.heap.size, 0, none⟩ = some (.int .u8 a0) := fun o => (blk_cell (blk_alloc G0 o) 0).trans rfl
  have c0_1 : w2.cell? ⟨W.heap.size, 1, none⟩ = some (.int .u8 a1) := (blk_cell G0 1).trans rfl
  have a0_1 : ∀ o, (w2.alloc o).cell? ⟨W.heap.size, 1, none⟩ = some (.int .u8 a1) := fun o => (blk_cell (blk_alloc G0 o) 1).trans rfl
  have c0_2 : w2.cell? ⟨W.heap.size, 2, none⟩ = some (.int .u8 a2) := (blk_cell G0 2).trans rfl
  have a0_2 : ∀ o, (w2.alloc o).cell? ⟨W.heap.size, 2, none⟩ = some (.int .u8 a2) := fun o => (blk_cell (blk_alloc G0 o) 2).trans rfl
  have c0_3 : w2.cell? ⟨W.heap.size, 3, none⟩ = some (.int .u8 a3) := (blk_cell G0 3).trans rfl
  have a0_3 : ∀ o, (w2.alloc o).cell? ⟨W.heap.size, 3, none⟩ = some (.int .u8 a3) := fun o => (blk_cell (blk_alloc G0 o) 3).trans rfl
  have H0 := Lib.hid G0
  clear G0
  go_wp2_with fail
  refine (G _).mono ?_
  rintro e w3 ⟨rfl, hb⟩
  clear c0_0 a0_0 c0_1 a0_1 c0_2 a0_2 c0_3 a0_3
  have G0 := Reg.blk_later (blk_alloc H0.out _) hb
  have G1 : w3.heap[w2.heap.size]? = some (.cells #[.int .u8 0, .int .u8 a0, .int .u8 a1, .int .u8 a2] 24 (0, 0)) := Reg.blk_later (blk_new _ _) hb
  have hE : Ext W w3 := Ext.trans (by have h := HE2.out; (repeat' (first | assumption | exact Ext.refl _ | refine Ext.drewN ?_ | refine Ext.drew ?_ | refine Ext.alloc ?_))) hb
  have HE3 := Lib.hid hE
  clear hE hb HE2 H0
  have c0_0 : w3.cell? ⟨W.heap.size, 0, none⟩ = some (.int .u8 a0) := (blk_cell G0 0).trans rfl
  have a0_0 : ∀ o, (w3.alloc o).cell? ⟨W.heap.size, 0, none⟩ = some (.int .u8 a0) := fun o => (blk_cell (blk_alloc G0 o) 0).trans rfl
  have c0_1 : w3.cell? ⟨W.heap.size, 1, none⟩ = some (.int .u8 a1) := (blk_cell G0 1).trans rfl
  have a0_1 : ∀ o, (w3.alloc o).cell? ⟨W.heap.size, 1, none⟩ = some (.int .u8 a1) := fun o => (blk_cell (blk_alloc G0 o) 1).trans rfl
  have c0_2 : w3.cell? ⟨W.heap.size, 2, none⟩ = some (.int .u8 a2) := (blk_cell G0 2).trans rfl
  have a0_2 : ∀ o, (w3.alloc o).cell? ⟨W.heap.size, 2, none⟩ = some (.int .u8 a2) := fun o => (blk_cell (blk_alloc G0 o) 2).trans rfl
  have c0_3 : w3.cell? ⟨W.heap.size, 3, none⟩ = some (.int .u8 a3) := (blk_cell G0 3).trans rfl
  have a0_3 : ∀ o, (w3.alloc o).cell? ⟨W.heap.size, 3, none⟩ = some (.int .u8 a3) := fun o => (blk_cell (blk_alloc G0 o) 3).trans rfl
  have H0 := Lib.hid G0
  clear G0
  have c1_0 : w3.cell? ⟨w2.heap.size, 0, none⟩ = some (.int .u8 0) := (blk_cell G1 0).trans rfl
  have a1_0 : ∀ o, (w3.alloc o).cell? ⟨w2.heap.size, 0, none⟩ = some (.int .u8 0) := fun o => (blk_cell (blk_alloc G1 o) 0).trans rfl
  have c1_1 : w3.cell? ⟨w2.heap.size, 1, none⟩ = some (.int .u8 a0) := (blk_cell G1 1).trans rfl
  have a1_1 : ∀ o, (w3.alloc o).cell? ⟨w2.heap.size, 1, none⟩ = some (.int .u8 a0) := fun o => (blk_cell (blk_alloc G1 o) 1).trans rfl
  have c1_2 : w3.cell? ⟨w2.heap.size, 2, none⟩ = some (.int .u8 a1) := (blk_cell G1 2).trans rfl
  have a1_2 : ∀ o, (w3.alloc o).cell? ⟨w2.heap.size, 2, none⟩ = some (.int .u8 a1) := fun o => (blk_cell (blk_alloc G1 o) 2).trans rfl
  have c1_3 : w3.cell? ⟨w2.heap.size, 3, none⟩ = some (.int .u8 a2) := (blk_cell G1 3).trans rfl
  have a1_3 : ∀ o, (w3.alloc o).cell? ⟨w2.heap.size, 3, none⟩ = some (.int .u8 a2) := fun o => (blk_cell (blk_alloc G1 o) 3).trans rfl
  have H1 := Lib.hid G1
  clear G1
  go_wp2_with fail
  clear c0_0 a0_0 c0_1 a0_1 c0_2 a0_2 c0_3 a0_3 c1_0 a1_0 c1_1 a1_1 c1_2 a1_2 c1_3 a1_3
  refine Reg.wp_open (fun w' => Ext W w' ∧ w'.heap[W.heap.size]? = some (.cells #[.int .u8 a0, .int .u8 a1, .int .u8 a2, .int .u8 a3] 23 (0, 0)) ∧ w'.heap[w2.heap.size]? = some (.cells #[.int .u8 0, .int .u8 a0, .int .u8 a1, .int .u8 a2] 24 (0, 0)) ∧ w'.heap[w3.heap.size]? = some (.cells #[.int .u8 a1, .int .u8 a2, .int .u8 a3, .int .u8 0] 24 (0, 0))) ⟨by have h := HE3.out; (repeat' (first | assumption | exact Ext.refl _ | refine Ext.drewN ?_ | refine Ext.drew ?_ | refine Ext.alloc ?_)), (blk_alloc H0.out _), (blk_alloc H1.out _), blk_new _ _⟩ (fun w4 hS => ?_)
  clear HE3 H0 H1
  obtain ⟨hE, G0, G1, G2⟩ := hS
  have HE4 := Lib.hid hE
  clear hE
  have c0_0 : w4.cell? ⟨W.heap.size, 0, none⟩ = some (.int .u8 a0) := (blk_cell G0 0).trans rfl
  have c0_1 : w4.cell? ⟨W.heap.size, 1, none⟩ = some (.int .u8 a1) := (blk_cell G0 1).trans rfl
  have c0_2 : w4.cell? ⟨W.heap.size, 2, none⟩ = some (.int .u8 a2) := (blk_cell G0 2).trans rfl
  have c0_3 : w4.cell? ⟨W.heap.size, 3, none⟩ = some (.int .u8 a3) := (blk_cell G0 3).trans rfl
  have H0 := Lib.hid G0
  clear G0
  have c1_0 : w4.cell? ⟨w2.heap.size, 0, none⟩ = some (.int .u8 0) := (blk_cell G1 0).trans rfl
  have c1_1 : w4.cell? ⟨w2.heap.size, 1, none⟩ = some (.int .u8 a0) := (blk_cell G1 1).trans rfl
  have c1_2 : w4.cell? ⟨w2.heap.size, 2, none⟩ = some (.int .u8 a1) := (blk_cell G1 2).trans rfl
  have c1_3 : w4.cell? ⟨w2.heap.size, 3, none⟩ = some (.int .u8 a2) := (blk_cell G1 3).trans rfl
  have H1 := Lib.hid G1
  clear G1
  have c2_0 : w4.cell? ⟨w3.heap.size, 0, none⟩ = some (.int .u8 a1) := (blk_cell G2 0).trans rfl
  have c2_1 : w4.cell? ⟨w3.heap.size, 1, none⟩ = some (.int .u8 a2) := (blk_cell G2 1).trans rfl
  have c2_2 : w4.cell? ⟨w3.heap.size, 2, none⟩ = some (.int .u8 a3) := (blk_cell G2 2).trans rfl
  have c2_3 : w4.cell? ⟨w3.heap.size, 3, none⟩ = some (.int .u8 0) := (blk_cell G2 3).trans rfl
  have H2 := Lib.hid G2
  clear G2
  refine wp_loop_rounds 5 ?_
  rw [rounds_succ]
  go_wp2
  rw [rounds_succ]
  go_wp2
  rw [rounds_succ]
  go_wp2
  rw [rounds_succ]
  go_wp2
  rw [rounds_succ]
  go_wp2
  have hE := HE4.out
  go_ret
  exact ⟨rfl, hE⟩
set_option maxRecDepth 100000 in
set_option maxHeartbeats 40000000 in
theorem core2 {W : World} {a a0 a1 a2 a3 : Int} (F : ∀ w : World, Calls Try.prog 13 #[.int .i64 2, .int .u32 a, .int .u32 16, .agg #[.int .u8 a0, .int .u8 a1, .int .u8 a2, .int .u8 a3], .agg #[.int .u8 0, .int .u8 0, .int .u8 0, .int .u8 0]] w (RetE (.tuple #[.agg #[.int .u8 0, .int .u8 0, .int .u8 a0, .int .u8 a1], .int .i64 0]) w)) (G : ∀ w : World, Calls Try.prog 13 #[.int .i64 6, .int .u32 a, .int .u32 16, .agg #[.int .u8 a0, .int .u8 a1, .int .u8 a2, .int .u8 a3], .agg #[.int .u8 0, .int .u8 0, .int .u8 0, .int .u8 0]] w (RetE (.tuple #[.agg #[.int .u8 a2, .int .u8 a3, .int .u8 0, .int .u8 0], .int .i64 0]) w)) : Calls Try.prog 8 #[.int .u32 a, .agg #[.int .u8 a0, .int .u8 a1, .int .u8 a2, .int .u8 a3], .int .u32 2] W (RetE (.bool true) W) := by
  go_enter Try.func8, Try.ntmps8
  go_wp2_with fail
  refine (awake12 _).mono ?_
  rintro e w1 ⟨rfl, hb⟩
  have G0 : w1.heap[W.heap.size]? = some (.cells #[.int .u8 a0, .int .u8 a1, .int .u8 a2, .int .u8 a3] 23 (0, 0)) := Reg.blk_later (by have h := blk_new W (.cells #[.int .u8 a0, .int .u8 a1, .int .u8 a2, .int .u8 a3] 23); simpa using h) hb
  have hE : Ext W w1 := Ext.trans (by (repeat' (first | assumption | exact Ext.refl _ | refine Ext.drewN ?_ | refine Ext.drew ?_ | refine Ext.alloc ?_))) hb
  have HE1 := Lib.hid hE
  clear hE hb
  have c0_0 : w1.cell? ⟨W.heap.size, 0, none⟩ = some (.int .u8 a0) := (blk_cell G0 0).trans rfl
  have a0_0 : ∀ o, (w1.alloc o).cell? ⟨W.heap.size, 0, none⟩ = some (.int .u8 a0) := fun o => (blk_cell (blk_alloc G0 o) 0).trans rfl
  have c0_1 : w1.cell? ⟨W.heap.size, 1, none⟩ = some (.int .u8 a1) := (blk_cell G0 1).trans rfl
  have a0_1 : ∀ o, (w1.alloc o).cell? ⟨W.heap.size, 1, none⟩ = some (.int .u8 a1) := fun o => (blk_cell (blk_alloc G0 o) 1).trans rfl
  have c0_2 : w1.cell? ⟨W.heap.size, 2, none⟩ = some (.int .u8 a2) := (blk_cell G0 2).trans rfl
  have a0_2 : ∀ o, (w1.alloc o).cell? ⟨W.heap.size, 2, none⟩ = some (.int .u8 a2) := fun o => (blk_cell (blk_alloc G0 o) 2).trans rfl
  have c0_3 : w1.cell? ⟨W.heap.size, 3, none⟩ = some (.int .u8 a3) := (blk_cell G0 3).trans rfl
  have a0_3 : ∀ o, (w1.alloc o).cell? ⟨W.heap.size, 3, none⟩ = some (.int .u8 a3) := fun o => (blk_cell (blk_alloc G0 o) 3).trans rfl
  have H0 := Lib.hid G0
  clear G0
  go_wp2_with fail
  refine (F _).mono ?_
  rintro e w2 ⟨rfl, hb⟩
  clear c0_0 a0_0 c0_1 a0_1 c0_2 a0_2 c0_3 a0_3
  have G0 := Reg.blk_later H0.out hb
  have hE : Ext W w2 := Ext.trans (by have h := HE1.out; (repeat' (first | assumption | exact Ext.refl _ | refine Ext.drewN ?_ | refine Ext.drew ?_ | refine Ext.alloc ?_))) hb
  have HE2 := Lib.hid hE
  clear hE hb HE1 H0
  have c0_0 : w2.cell? ⟨W.heap.size, 0, none⟩ = some (.int .u8 a0) := (blk_cell G0 0).trans rfl
  have a0_0 : ∀ o, (w2.alloc o).cell? ⟨W.heap.size, 0, none⟩ = some (.int .u8 a0) := fun o => (blk_cell (blk_alloc G0 o) 0).trans rfl
  have c0_1 : w2.cell? ⟨W.heap.size, 1, none⟩ = some (.int .u8 a1) := (blk_cell G0 1).trans rfl
  have a0_1 : ∀ o, (w2.alloc o).cell? ⟨W.heap.size, 1, none⟩ = some (.int .u8 a1) := fun o => (blk_cell (blk_alloc G0 o) 1).trans rfl
  have c0_2 : w2.cell? ⟨W.heap.size, 2, none⟩ = some (.int .u8 a2) := (blk_cell G0 2).trans rfl
  have a0_2 : ∀ o, (w2.alloc o).cell? ⟨W.heap.size, 2, none⟩ = some (.int .u8 a2) := fun o => (blk_cell (blk_alloc G0 o) 2).trans rfl
  have c0_3 : w2.cell? ⟨W.heap.size, 3, none⟩ = some (.int .u8 a3) := (blk_cell G0 3).trans rfl
  have a0_3 : ∀ o, (w2.alloc o).cell? ⟨W.heap.size, 3, none⟩ = some (.int .u8 a3) := fun o => (blk_cell (blk_alloc G0 o) 3).trans rfl
  have H0 := Lib.hid G0
  clear G0
  go_wp2_with fail
  refine (G _).mono ?_
  rintro e w3 ⟨rfl, hb⟩
  clear c0_0 a0_0 c0_1 a0_1 c0_2 a0_2 c0_3 a0_3
  have G0 := Reg.blk_later (blk_alloc H0.out _) hb
  have G1 : w3.heap[w2.heap.size]? = some (.cells #[.int .u8 0, .int .u8 0, .int .u8 a0, .int .u8 a1] 24 (0, 0)) := Reg.blk_later (blk_new _ _) hb
  have hE : Ext W w3 := Ext.trans (by have h := HE2.out; (repeat' (first | assumption | exact Ext.refl _ | refine Ext.drewN ?_ | refine Ext.drew ?_ | refine Ext.alloc ?_))) hb
  have HE3 := Lib.hid hE
  clear hE hb HE2 H0
  have c0_0 : w3.cell? ⟨W.heap.size, 0, none⟩ = some (.int .u8 a0) := (blk_cell G0 0).trans rfl
  have a0_0 : ∀ o, (w3.alloc o).cell? ⟨W.heap.size, 0, none⟩ = some (.int .u8 a0) := fun o => (blk_cell (blk_alloc G0 o) 0).trans rfl
  have c0_1 : w3.cell? ⟨W.heap.size, 1, none⟩ = some (.int .u8 a1) := (blk_cell G0 1).trans rfl
  have a0_1 : ∀ o, (w3.alloc o).cell? ⟨W.heap.size, 1, none⟩ = some (.int .u8 a1) := fun o => (blk_cell (blk_alloc G0 o) 1).trans rfl
  have c0_2 : w3.cell? ⟨W.heap.size, 2, none⟩ = some (.int .u8 a2) := (blk_cell G0 2).trans rfl
  have a0_2 : ∀ o, (w3.alloc o).cell? ⟨W.heap.size, 2, none⟩ = some (.int .u8 a2) := fun o => (blk_cell (blk_alloc G0 o) 2).trans rfl
  have c0_3 : w3.cell? ⟨W.heap.size, 3, none⟩ = some (.int .u8 a3) := (blk_cell G0 3).trans rfl
  have a0_3 : ∀ o, (w3.alloc o).cell? ⟨W.heap.size, 3, none⟩ = some (.int .u8 a3) := fun o => (blk_cell (blk_alloc G0 o) 3).trans rfl
  have H0 := Lib.hid G0
  clear G0
  have c1_0 : w3.cell? ⟨w2.heap.size, 0, none⟩ = some (.int .u8 0) := (blk_cell G1 0).trans rfl
  have a1_0 : ∀ o, (w3.alloc o).cell? ⟨w2.heap.size, 0, none⟩ = some (.int .u8 0) := fun o => (blk_cell (blk_alloc G1 o) 0).trans rfl
  have c1_1 : w3.cell? ⟨w2.heap.size, 1, none⟩ = some (.int .u8 0) := (blk_cell G1 1).trans rfl
  have a1_1 : ∀ o, (w3.alloc o).cell? ⟨w2.heap.size, 1, none⟩ = some (.int .u8 0) := fun o => (blk_cell (blk_alloc G1 o) 1).trans rfl
  have c1_2 : w3.cell? ⟨w2.heap.size, 2, none⟩ = some (.int .u8 a0) := (blk_cell G1 2).trans rfl
  have a1_2 : ∀ o, (w3.alloc o).cell? ⟨w2.heap.size, 2, none⟩ = some (.int .u8 a0) := fun o => (blk_cell (blk_alloc G1 o) 2).trans rfl
  have c1_3 : w3.cell? ⟨w2.heap.size, 3, none⟩ = some (.int .u8 a1) := (blk_cell G1 3).trans rfl
  have a1_3 : ∀ o, (w3.alloc o).cell? ⟨w2.heap.size, 3, none⟩ = some (.int .u8 a1) := fun o => (blk_cell (blk_alloc G1 o) 3).trans rfl
  have H1 := Lib.hid G1
  clear G1
  go_wp2_with fail
  clear c0_0 a0_0 c0_1 a0_1 c0_2 a0_2 c0_3 a0_3 c1_0 a1_0 c1_1 a1_1 c1_2 a1_2 c1_3 a1_3
  refine Reg.wp_open (fun w' => Ext W w' ∧ w'.heap[W.heap.size]? = some (.cells #[.int .u8 a0, .int .u8 a1, .int .u8 a2, .int .u8 a3] 23 (0, 0)) ∧ w'.heap[w2.heap.size]? = some (.cells #[.int .u8 0, .int .u8 0, .int .u8 a0, .int .u8 a1] 24 (0, 0)) ∧ w'.heap[w3.heap.size]? = some (.cells #[.int .u8 a2, .int .u8 a3, .int .u8 0, .int .u8 0] 24 (0, 0))) ⟨by have h := HE3.out; (repeat' (first | assumption | exact Ext.refl _ | refine Ext.drewN ?_ | refine Ext.drew ?_ | refine Ext.alloc ?_)), (blk_alloc H0.out _), (blk_alloc H1.out _), blk_new _ _⟩ (fun w4 hS => ?_)
  clear HE3 H0 H1
  obtain ⟨hE, G0, G1, G2⟩ := hS
  have HE4 := Lib.hid hE
  clear hE
  have c0_0 : w4.cell? ⟨W.heap.size, 0, none⟩ = some (.int .u8 a0) := (blk_cell G0 0).trans rfl
  have c0_1 : w4.cell? ⟨W.heap.size, 1, none⟩ = some (.int .u8 a1) := (blk_cell G0 1).trans rfl
  have c0_2 : w4.cell? ⟨W.heap.size, 2, none⟩ = some (.int .u8 a2) := (blk_cell G0 2).trans rfl
  have c0_3 : w4.cell? ⟨W.heap.size, 3, none⟩ = some (.int .u8 a3) := (blk_cell G0 3).trans rfl
  have H0 := Lib.hid G0
  clear G0
  have c1_0 : w4.cell? ⟨w2.heap.size, 0, none⟩ = some (.int .u8 0) := (blk_cell G1 0).trans rfl
  have c1_1 : w4.cell? ⟨w2.heap.size, 1, none⟩ = some (.int .u8 0) := (blk_cell G1 1).trans rfl
  have c1_2 : w4.cell? ⟨w2.heap.size, 2, none⟩ = some (.int .u8 a0) := (blk_cell G1 2).trans rfl
  have c1_3 : w4.cell? ⟨w2.heap.size, 3, none⟩ = some (.int .u8 a1) := (blk_cell G1 3).trans rfl
  have H1 := Lib.hid G1
  clear G1
  have c2_0 : w4.cell? ⟨w3.heap.size, 0, none⟩ = some (.int .u8 a2) := (blk_cell G2 0).trans rfl
  have c2_1 : w4.cell? ⟨w3.heap.size, 1, none⟩ = some (.int .u8 a3) := (blk_cell G2 1).trans rfl
  have c2_2 : w4.cell? ⟨w3.heap.size, 2, none⟩ = some (.int .u8 0) := (blk_cell G2 2).trans rfl
  have c2_3 : w4.cell? ⟨w3.heap.size, 3, none⟩ = some (.int .u8 0) := (blk_cell G2 3).trans rfl
  have H2 := Lib.hid G2
  clear G2
  refine wp_loop_rounds 5 ?_
  rw [rounds_succ]
  go_wp2
  rw [rounds_succ]
  go_wp2
  rw [rounds_succ]
  go_wp2
  rw [rounds_succ]
  go_wp2
  rw [rounds_succ]
  go_wp2
  have hE := HE4.out
  go_ret
  exact ⟨rfl, hE⟩
set_option maxRecDepth 100000 in
set_option maxHeartbeats 40000000 in
theorem core3 {W : World} {a a0 a1 a2 a3 : Int} (F : ∀ w : World, Calls Try.prog 13 #[.int .i64 2, .int .u32 a, .int .u32 24, .agg #[.int .u8 a0, .int .u8 a1, .int .u8 a2, .int .u8 a3], .agg #[.int .u8 0, .int .u8 0, .int .u8 0, .int .u8 0]] w (RetE (.tuple #[.agg #[.int .u8 0, .int .u8 0, .int .u8 0, .int .u8 a0], .int .i64 0]) w)) (G : ∀ w : World, Calls Try.prog 13 #[.int .i64 6, .int .u32 a, .int .u32 24, .agg #[.int .u8 a0, .int .u8 a1, .int .u8 a2, .int .u8 a3], .agg #[.int .u8 0, .int .u8 0, .int .u8 0, .int .u8 0]] w (RetE (.tuple #[.agg #[.int .u8 a3, .int .u8 0, .int .u8 0, .int .u8 0], .int .i64 0]) w)) : Calls Try.prog 8 #[.int .u32 a, .agg #[.int .u8 a0, .int .u8 a1, .int .u8 a2, .int .u8 a3], .int .u32 3] W (RetE (.bool true) W) := by
  go_enter Try.func8, Try.ntmps8
  go_wp2_with fail
  refine (awake12 _).mono ?_
  rintro e w1 ⟨rfl, hb⟩
  have G0 : w1.heap[W.heap.size]? = some (.cells #[.int .u8 a0, .int .u8 a1, .int .u8 a2, .int .u8 a3] 23 (0, 0)) := Reg.blk_later (by have h := blk_new W (.cells #[.int .u8 a0, .int .u8 a1, .int .u8 a2, .int .u8 a3] 23); simpa using h) hb
  have hE : Ext W w1 := Ext.trans (by (repeat' (first | assumption | exact Ext.refl _ | refine Ext.drewN ?_ | refine Ext.drew ?_ | refine Ext.alloc ?_))) hb
  have HE1 := Lib.hid hE
  clear hE hb
  have c0_0 : w1.cell? ⟨W.heap.size, 0, none⟩ = some (.int .u8 a0) := (blk_cell G0 0).trans rfl
  have a0_0 : ∀ o, (w1.alloc o).cell? ⟨W.heap.size, 0, none⟩ = some (.int .u8 a0) := fun o => (blk_cell (blk_alloc G0 o) 0).trans rfl
  have c0_1 : w1.cell? ⟨W.heap.size, 1, none⟩ = some (.int .u8 a1) := (blk_cell G0 1).trans rfl
  have a0_1 : ∀ o, (w1.alloc o).cell? ⟨W.heap.size, 1, none⟩ = some (.int .u8 a1) := fun o => (blk_cell (blk_alloc G0 o) 1).trans rfl
  have c0_2 : w1.cell? ⟨W.heap.size, 2, none⟩ = some (.int .u8 a2) := (blk_cell G0 2).trans rfl
  have a0_2 : ∀ o, (w1.alloc o).cell? ⟨W.heap.size, 2, none⟩ = some (.int .u8 a2) := fun o => (blk_cell (blk_alloc G0 o) 2).trans rfl
  have c0_3 : w1.cell? ⟨W.heap.size, 3, none⟩ = some (.int .u8 a3) := (blk_cell G0 3).trans rfl
  have a0_3 : ∀ o, (w1.alloc o).cell? ⟨W.heap.size, 3, none⟩ = some (.int .u8 a3) := fun o => (blk_cell (blk_alloc G0 o) 3).trans rfl
  have H0 := Lib.hid G0
  clear G0
  go_wp2_with fail
  refine (F _).mono ?_
  rintro e w2 ⟨rfl, hb⟩
  clear c0_0 a0_0 c0_1 a0_1 c0_2 a0_2 c0_3 a0_3
  have G0 := Reg.blk_later H0.out hb
  have hE : Ext W w2 := Ext.trans (by have h := HE1.out; (repeat' (first | assumption | exact Ext.refl _ | refine Ext.drewN ?_ | refine Ext.drew ?_ | refine Ext.alloc ?_))) hb
  have HE2 := Lib.hid hE
  clear hE hb HE1 H0
  have c0_0 : w2.cell? ⟨W.heap.size, 0, none⟩ = some (.int .u8 a0) := (blk_cell G0 0).trans rfl
  have a0_0 : ∀ o, (w2.alloc o).cell? ⟨W.heap.size, 0, none⟩ = some (.int .u8 a0) := fun o => (blk_cell (blk_alloc G0 o) 0).trans rfl
  have c0_1 : w2.cell? ⟨W.heap.size, 1, none⟩ = some (.int .u8 a1) := (blk_cell G0 1).trans rfl
  have a0_1 : ∀ o, (w2.alloc o).cell? ⟨W.heap.size, 1, none⟩ = some (.int .u8 a1) := fun o => (blk_cell (blk_alloc G0 o) 1).trans rfl
  have c0_2 : w2.cell? ⟨W.heap.size, 2, none⟩ = some (.int .u8 a2) := (blk_cell G0 2).trans rfl
  have a0_2 : ∀ o, (w2.alloc o).cell? ⟨W.heap.size, 2, none⟩ = some (.int .u8 a2) := fun o => (blk_cell (blk_alloc G0 o) 2).trans rfl
  have c0_3 : w2.cell? ⟨W.heap.size, 3, none⟩ = some (.int .u8 a3) := (blk_cell G0 3).trans rfl
  have a0_3 : ∀ o, (w2.alloc o).cell? ⟨W.heap.size, 3, none⟩ = some (.int .u8 a3) := fun o => (blk_cell (blk_alloc G0 o) 3).trans rfl
  have H0 := Lib.hid G0
  clear G0
  go_wp2_with fail
  refine (G _).mono ?_
  rintro e w3 ⟨rfl, hb⟩
  clear c0_0 a0_0 c0_1 a0_1 c0_2 a0_2 c0_3 a0_3
  have G0 := Reg.blk_later (blk_alloc H0.out _) hb
  have G1 : w3.heap[w2.heap.size]? = some (.cells #[.int .u8 0, .int .u8 0, .int .u8 0, .int .u8 a0] 24 (0, 0)) := Reg.blk_later (blk_new _ _) hb
  have hE : Ext W w3 := Ext.trans (by have h := HE2.out; (repeat' (first | assumption | exact Ext.refl _ | refine Ext.drewN ?_ | refine Ext.drew ?_ | refine Ext.alloc ?_))) hb
  have HE3 := Lib.hid hE
  clear hE hb HE2 H0
  have c0_0 : w3.cell? ⟨W.heap.size, 0, none⟩ = some (.int .u8 a0) := (blk_cell G0 0).trans rfl
  have a0_0 : ∀ o, (w3.alloc o).cell? ⟨W.heap.size, 0, none⟩ = some (.int .u8 a0) := fun o => (blk_cell (blk_alloc G0 o) 0).trans rfl
  have c0_1 : w3.cell? ⟨W.heap.size, 1, none⟩ = some (.int .u8 a1) := (blk_cell G0 1).trans rfl
  have a0_1 : ∀ o, (w3.alloc o).cell? ⟨W.heap.size, 1, none⟩ = some (.int .u8 a1) := fun o => (blk_cell (blk_alloc G0 o) 1).trans rfl
  have c0_2 : w3.cell? ⟨W.heap.size, 2, none⟩ = some (.int .u8 a2) := (blk_cell G0 2).trans rfl
  have a0_2 : ∀ o, (w3.alloc o).cell? ⟨W.heap.size, 2, none⟩ = some (.int .u8 a2) := fun o => (blk_cell (blk_alloc G0 o) 2).trans rfl
  have c0_3 : w3.cell? ⟨W.heap.size, 3, none⟩ = some (.int .u8 a3) := (blk_cell G0 3).trans rfl
  have a0_3 : ∀ o, (w3.alloc o).cell? ⟨W.heap.size, 3, none⟩ = some (.int .u8 a3) := fun o => (blk_cell (blk_alloc G0 o) 3).trans rfl
  have H0 := Lib.hid G0
  clear G0
  have c1_0 : w3.cell? ⟨w2.heap.size, 0, none⟩ = some (.int .u8 0) := (blk_cell G1 0).trans rfl
  have a1_0 : ∀ o, (w3.alloc o).cell? ⟨w2.heap.size, 0, none⟩ = some (.int .u8 0) := fun o => (blk_cell (blk_alloc G1 o) 0).trans rfl
  have c1_1 : w3.cell? ⟨w2.heap.size, 1, none⟩ = some (.int .u8 0) := (blk_cell G1 1).trans rfl
  have a1_1 : ∀ o, (w3.alloc o).cell? ⟨w2.heap.size, 1, none⟩ = some (.int .u8 0) := fun o => (blk_cell (blk_alloc G1 o) 1).trans rfl
  have c1_2 : w3.cell? ⟨w2.heap.size, 2, none⟩ = some (.int .u8 0) := (blk_cell G1 2).trans rfl
  have a1_2 : ∀ o, (w3.alloc o).cell? ⟨w2.heap.size, 2, none⟩ = some (.int .u8 0) := fun o => (blk_cell (blk_alloc G1 o) 2).trans rfl
  have c1_3 : w3.cell? ⟨w2.heap.size, 3, none⟩ = some (.int .u8 a0) := (blk_cell G1 3).trans rfl
  have a1_3 : ∀ o, (w3.alloc o).cell? ⟨w2.heap.size, 3, none⟩ = some (.int .u8 a0) := fun o => (blk_cell (blk_alloc G1 o) 3).trans rfl
  have H1 := Lib.hid G1
  clear G1
  go_wp2_with fail
  clear c0_0 a0_0 c0_1 a0_1 c0_2 a0_2 c0_3 a0_3 c1_0 a1_0 c1_1 a1_1 c1_2 a1_2 c1_3 a1_3
  refine Reg.wp_open (fun w' => Ext W w' ∧ w'.heap[W.heap.size]? = some (.cells #[.int .u8 a0, .int .u8 a1, .int .u8 a2, .int .u8 a3] 23 (0, 0)) ∧ w'.heap[w2.heap.size]? = some (.cells #[.int .u8 0, .int .u8 0, .int .u8 0, .int .u8 a0] 24 (0, 0)) ∧ w'.heap[w3.heap.size]? = some (.cells #[.int .u8 a3, .int .u8 0, .int .u8 0, .int .u8 0] 24 (0, 0))) ⟨by have h := HE3.out; (repeat' (first | assumption | exact Ext.refl _ | refine Ext.drewN ?_ | refine Ext.drew ?_ | refine Ext.alloc ?_)), (blk_alloc H0.out _), (blk_alloc H1.out _), blk_new _ _⟩ (fun w4 hS => ?_)
  clear HE3 H0 H1
  obtain ⟨hE, G0, G1, G2⟩ := hS
  have HE4 := Lib.hid hE
  clear hE
  have c0_0 : w4.cell? ⟨W.heap.size, 0, none⟩ = some (.int .u8 a0) := (blk_cell G0 0).trans rfl
  have c0_1 : w4.cell? ⟨W.heap.size, 1, none⟩ = some (.int .u8 a1) := (blk_cell G0 1).trans rfl
  have c0_2 : w4.cell? ⟨W.heap.size, 2, none⟩ = some (.int .u8 a2) := (blk_cell G0 2).trans rfl
  have c0_3 : w4.cell? ⟨W.heap.size, 3, none⟩ = some (.int .u8 a3) := (blk_cell G0 3).trans rfl
  have H0 := Lib.hid G0
  clear G0
  have c1_0 : w4.cell? ⟨w2.heap.size, 0, none⟩ = some (.int .u8 0) := (blk_cell G1 0).trans rfl
  have c1_1 : w4.cell? ⟨w2.heap.size, 1, none⟩ = some (.int .u8 0) := (blk_cell G1 1).trans rfl
  have c1_2 : w4.cell? ⟨w2.heap.size, 2, none⟩ = some (.int .u8 0) := (blk_cell G1 2).trans rfl
  have c1_3 : w4.cell? ⟨w2.heap.size, 3, none⟩ = some (.int .u8 a0) := (blk_cell G1 3).trans rfl
  have H1 := Lib.hid G1
  clear G1
  have c2_0 : w4.cell? ⟨w3.heap.size, 0, none⟩ = some (.int .u8 a3) := (blk_cell G2 0).trans rfl
  have c2_1 : w4.cell? ⟨w3.heap.size, 1, none⟩ = some (.int .u8 0) := (blk_cell G2 1).trans rfl
  have c2_2 : w4.cell? ⟨w3.heap.size, 2, none⟩ = some (.int .u8 0) := (blk_cell G2 2).trans rfl
  have c2_3 : w4.cell? ⟨w3.heap.size, 3, none⟩ = some (.int .u8 0) := (blk_cell G2 3).trans rfl
  have H2 := Lib.hid G2
  clear G2
  refine wp_loop_rounds 5 ?_
  rw [rounds_succ]
  go_wp2
  rw [rounds_succ]
  go_wp2
  rw [rounds_succ]
  go_wp2
  rw [rounds_succ]
  go_wp2
  rw [rounds_succ]
  go_wp2
  have hE := HE4.out
  go_ret
  exact ⟨rfl, hE⟩
theorem range8 {x : Int} (h : (Lit.int .u8 x).wf = true) : 0 ≤ x ∧ x < 256 := by
  have := bounds_u8 h; omega
theorem exT {t : T4} (h : wf23 t) : ∃ f : TF, t = ofF f := exF (range8 h.1) (range8 h.2.1) (range8 h.2.2.1) (range8 h.2.2.2)
theorem range32 {x : Int} (h : (Lit.int .u32 x).wf = true) : 0 ≤ x ∧ x < 4294967296 := by
  have := bounds_u32 h; omega
set_option maxRecDepth 100000 in
set_option maxHeartbeats 4000000 in
theorem big {W : World} {a n a0 a1 a2 a3 : Int} (h : 3 < n) : Calls Try.prog 8 #[.int .u32 a, .agg #[.int .u8 a0, .int .u8 a1, .int .u8 a2, .int .u8 a3], .int .u32 n] W (RetE (.bool true) W) := by
  go_enter Try.func8, Try.ntmps8
  go_wp2_with fail
  refine (awake12 _).mono ?_
  rintro e w1 ⟨rfl, hb⟩
  have hE : Ext W w1 := Ext.trans (by (repeat' (first | assumption | exact Ext.refl _ | refine Ext.drewN ?_ | refine Ext.drew ?_ | refine Ext.alloc ?_))) hb
  clear hb
  go_wp2
  go_ret
  exact ⟨rfl, hE⟩
theorem walk (W : World) (x0 : Int) (wx0 : (Lit.int .u32 x0).wf = true) (x1 : (Int × Int × Int × Int)) (wx1 : wf23 x1) (x2 : Int) (wx2 : (Lit.int .u32 x2).wf = true) :
    Calls Try.prog 8 #[.int .u32 x0, .agg #[.int .u8 x1.1, .int .u8 x1.2.1, .int .u8 x1.2.2.1, .int .u8 x1.2.2.2], .int .u32 x2] W fun e w' => e = .returned (.bool true) ∧ Below W.heap.size W w' := by
  obtain ⟨f, rfl⟩ := exT wx1
  obtain ⟨ha, ha'⟩ := range32 wx0
  obtain ⟨hb, hb'⟩ := range32 wx2
  by_cases h3 : 3 < x2
  · exact big h3
  have F := fun (k n : Int) (h0 : 0 ≤ n) (h1 : n < 4294967296) => flowC k x0 n f (fun _ => 0) ha ha' h0 h1
  rcases (by omega : x2 = 0 ∨ x2 = 1 ∨ x2 = 2 ∨ x2 = 3) with rfl | rfl | rfl | rfl
  · have F1 := F 2 0 (by decide) (by decide)
    have F2 := F 6 0 (by decide) (by decide)
    rw [bits_up0] at F1
    rw [bits_dn0] at F2
    exact core0 (a0 := iv (f 0)) (a1 := iv (f 1)) (a2 := iv (f 2)) (a3 := iv (f 3)) F1 F2
  · have F1 := F 2 8 (by decide) (by decide)
    have F2 := F 6 8 (by decide) (by decide)
    rw [bits_up1] at F1
    rw [bits_dn1] at F2
    exact core1 (a0 := iv (f 0)) (a1 := iv (f 1)) (a2 := iv (f 2)) (a3 := iv (f 3)) F1 F2
  · have F1 := F 2 16 (by decide) (by decide)
    have F2 := F 6 16 (by decide) (by decide)
    rw [bits_up2] at F1
    rw [bits_dn2] at F2
    exact core2 (a0 := iv (f 0)) (a1 := iv (f 1)) (a2 := iv (f 2)) (a3 := iv (f 3)) F1 F2
  · have F1 := F 2 24 (by decide) (by decide)
    have F2 := F 6 24 (by decide) (by decide)
    rw [bits_up3] at F1
    rw [bits_dn3] at F2
    exact core3 (a0 := iv (f 0)) (a1 := iv (f 1)) (a2 := iv (f 2)) (a3 := iv (f 3)) F1 F2
end Go.Proofs.Ytbhoijkamnaopaa.TagBits
